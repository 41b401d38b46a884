/- A part of the proof: abstract states and the rules for them. -/
import Derived.Test.YtdkeelhebopgkaaGreatDoorCoreA
import Derived.RangeFuncLeaves
import Derived.Attr
set_option linter.all false
open List renaming getElem?_eq_getElem → b8,getElem?_eq_some_iff → b9,replicate → cq,range_eq_range' → cx,eq_nil_of_length_eq_zero → cz,range → cE,getElem?_append_left → cG,range' → cH,take_left' → cM,drop_left' → cN,mem_cons_self → cO,flatten_cons → cP,mem_of_getElem? → cQ,getElem?_append_right → cR,pairwise_cons → cU,pairwise_lt_range → cV,mem_cons → cX,range'_succ → cY,mem_of_mem_erase → c9,mem_append → da,length_erase_of_mem → dl,length_cons → dm,filter_cons → dn,nodup_cons → dw,getElem?_set_self → dx,tail_drop → dy,set_getElem_self → dz,getElem?_of_mem → dA,getElem?_set_ne → dD,set_comm → dG
open Option.some renaming injEq → cc
open Nat renaming lt_of_lt_of_le → cf,le_refl → cm,not_lt_zero → cw,add_right_cancel_iff → cJ,ne_of_lt → db,zero_le → dJ
open Iff renaming rfl → cg
open Bool renaming and_eq_true → cj,false_eq_true → dh
open Prod.mk renaming injEq → ck
open Array renaming replicate → cn,toList_push → cC,getElem?_eq_getElem → cD,toList_append → cT,toList_replicate → cW,getElem?_eq_some_iff → di
open Go.Fence renaming wide → ct
open Option renaming bind_some → cv,bind_eq_some_iff → cK,getD_some → dj,map_some → dr,isSome_some → dH
open Go.Value.func renaming injEq → cZ
open List.cons renaming injEq → dc
noncomputable section
namespace Go.Abs
variable {r x y:AV}{a:Act}{ops:Array Oper}{ps:Array Tmp}{tmps:Array Value}{b:Bool}{body c:Code}{E E':Env}{F:Fence}{u:FrameMode}{f:FuncId}{qP:Int}{df:List (FuncId×List AV)}{args args' first s slots xs ys z:List AV}{cs:List Frame}{k:List Item}{p rd:List Nat}{rs:List ResultVar}{tr:List Tr}{H H' nw:List jS}{D N i j l low m n:Nat}{ρ:Nat->Nat}{φ:Nat->Value}{o oi:Oper}{g:Operand}{ro:Option Nat}{d dst:Option Tmp}{P:Program}{pr:Prop}{R α:Type}{t:TypeId}{h hd v:Value}{w:World}{σ σ':jI}{Q:mc->jI->Prop}{K V:sv->List jS->Prop}{lk:u5}
def Em{E:Env}{b:Nat}{c:Array Value}{t:TypeId}{fr:Nat×Nat}(hcb:E.w.heap[b]? =some (.cells c t fr)): ∀(cs:List AV)(off:Nat),(∀o,off<=o->o<off+cs.length-> ¬ E.mu b o)->
 kf E cs ((c.toList.drop off).take cs.length)->(∀u∈(c.toList.drop off).take cs.length,u.oneCell'=true)->mE E b off cs
 |[],_,_,_,_=>trivial
 |x::cs,off,hm,r,h1=>by
  obtain⟨u,us,hu,r1,r2⟩:=r
  have hcu:c[off]? =some u:=by
   have:(c.toList.drop off)[0]? =some u:=by
    have:=congrArg (fun l:List Value=>l[0]?) hu;simpa using this
   simpa using this
  have htl:us=(c.toList.drop (off+1)).take cs.length:=by
   have h1:=congrArg List.tail hu;simp only[List.tail_cons] at h1;rw[<-h1];cases hd:c.toList.drop off with
   |nil=>rw[hd] at hu;simp at hu
   |cons y ys=>
    grind [dy]
  refine⟨⟨hm off (cm _) (by simp),u,by grind [World.cell?],h1 u (by rw[hu];simp),r1⟩,Em hcb cs (off+1) (fun o h2 h3=>hm o (by omega) (by simp;omega)) (by rw[<-htl];exact r2) (fun v hv=>h1 v (by rw[hu,htl];simp [hv]))⟩
def N7{E:Env}{b sz:Nat}{c:Array Value}{t:TypeId}{fr:Nat×Nat}(hcb:E.w.heap[b]? =some (.cells c t fr)): ∀(rs:List (List AV))(off:Nat),(∀r∈rs,r.length=sz)->
 (∀o,off<=o->o<off+rs.length*sz-> ¬ E.mu b o)->kf E rs.flatten ((c.toList.drop off).take (rs.length*sz))->(∀u∈(c.toList.drop off).take (rs.length*sz),u.oneCell'=true)->mr E sz b off rs
 |[],_,_,_,_,_=>trivial
 |r::rs,off,hl,hm,h,h1=>by
  have hr:r.length=sz:=hl r (by simp);simp only[cP] at h;have h3:=kf.take r.length h;have h2:=kf.drop r.length h;simp only[cM,cN,List.take_take,List.drop_take,List.drop_drop] at h3 h2
  have e1:min r.length ((r::rs).length*sz)=r.length:=by
   grind [Nat.add_mul]
  have e2:(r::rs).length*sz-r.length=rs.length*sz:=by grind [Nat.add_mul]
  have e3:(r::rs).length*sz=rs.length*sz+sz:=by grind
  rw[e1] at h3;rw[e2,hr] at h2;refine⟨hr,Em hcb r off (fun o h4 h5=>hm o h4 (by omega)) h3 (fun u hu=>h1 u ?_),N7 hcb rs (off+sz) (fun q hq=>hl q (by simp [hq])) (fun o h4 h5=>hm o (by omega) (by omega)) h2 (fun u hu=>h1 u ?_)⟩
  all_goals grind [List.drop_drop]
def pM(n:Nat):jS->Prop
 | .cells cs=>uB n cs
 | .acc _ _ rows=>LK n rows
 | .map es=> ∀p∈es,p.1.nb n/\p.2.nb n
 | .loop _ slots _ _=>uB n slots
 | .iter _ _=>True
 | .dead=>True
def Sub(x y:AV):Prop:= ∀(E:Env)(v:Value),nr E x v->nr E y v
def qi(xs ys:List AV):Prop:= ∀(E:Env)(vs:List Value),kf E xs vs->kf E ys vs
def PM(xs ys:List (List AV)):Prop:=xs.length=ys.length/\ ∀(E:Env)(sz b off:Nat),mr E sz b off xs->mr E sz b off ys
def Zz(xs ys:List AV):Prop:=xs.length=ys.length/\ ∀(E:Env)(b off:Nat),mE E b off xs->mE E b off ys
theorem Sub.refl(x:AV):Sub x x:=fun _ _ h=>h
def Sub.any(x:AV):Sub x .any:=fun _ _ _=>trivial
theorem qi.refl(xs:List AV):qi xs xs:=fun _ _ h=>h
theorem qi.nil:qi [] []:=fun _ _ h=>h
theorem qi.cons(h:Sub x y)(hs:qi xs ys):qi (x::xs) (y::ys):=fun E _ ⟨u,us,hv,r1,r2⟩=>⟨u,us,hv,h E u r1,hs E us r2⟩
theorem Zz.refl(xs:List AV):Zz xs xs:=⟨rfl,fun _ _ _ h=>h⟩
theorem Zz.nil:Zz [] []:=Zz.refl []
theorem Zz.cons(h:Sub x y)(hs:Zz xs ys):Zz (x::xs) (y::ys):=
 ⟨by simp [hs.1],fun E b off ⟨⟨hm,u,hu,h1,r⟩,r2⟩=>⟨⟨hm,u,hu,h1,h E u r⟩,hs.2 E b _ r2⟩⟩
theorem PM.refl(xs:List (List AV)):PM xs xs:=⟨rfl,fun _ _ _ _ h=>h⟩
theorem PM.nil:PM [] []:=PM.refl []
theorem PM.cons{x y:List AV}{xs ys:List (List AV)}(h:Zz x y)(hs:PM xs ys):PM (x::xs) (y::ys):=
 ⟨by simp [hs.1],fun E sz b off ⟨h1,r,r2⟩=>⟨by rw[<-h.1];exact h1,h.2 E b off r,hs.2 E sz b _ r2⟩⟩
def Sub.agg(h:qi xs ys):Sub (.agg xs) (.agg ys):=fun E _ ⟨vs,hv,r⟩=>⟨vs,hv,h E _ r⟩
def Sub.EQ(h:qi xs ys):Sub (.EQ xs) (.EQ ys):=fun E _ ⟨vs,hv,r⟩=>⟨vs,hv,h E _ r⟩
def Sub.pp(h:Zz xs ys):Sub (.pp xs) (.pp ys):=fun E _ ⟨b,off,hv,r⟩=>⟨b,off,hv,h.2 E b off r⟩
def Sub.func{fn:Fn}{f f' c c':List AV}(h:qi f f')(h':qi c c'):Sub (.func fn f c) (.func fn f' c'):=fun E _ ⟨a,b,hv,r1,r2⟩=>⟨a,b,hv,h E _ r1,h' E _ r2⟩
def Sub.lI{t:Bool}{sz:Nat}{xs ys:List (List AV)}(h:PM xs ys):Sub (.lI t sz xs) (.lI false sz ys):=fun E v ⟨base,cap,h1,h2,h3,h4,h5,h6⟩=>
 ⟨base,cap,by rw[<-h.1];exact h1,by rw[<-h.1];exact h2,(by intro h;cases h),h4,fun a ha hne=>h5 a ha (fun e=>hne (by have:=h.1;grind)),fun a ha=>h.2 E sz _ _ (h6 a ha)⟩
def Sub.empty(t:Bool)(sz JP:Nat):Sub (.lI t sz []) (.lI false JP []):=fun _ _ ⟨base,cap,h1,h2,_,h4,_,_⟩=>
 ⟨base,cap,h1,h2,(by intro h;cases h),h4,(by intro a _ h;exact absurd rfl h),fun _ _=>trivial⟩
def Co1(H:List jS)(n:Nat)(x y:AV):Prop:=
 (Sub x y/\y.nb n)\/ ∃l m sz rows,x= .acc l m/\H[l]? =some (.acc true sz rows)/\rows.length=m/\Sub (.lI false sz rows) y/\y.nb n
def oe(H:List jS)(n:Nat):List AV->List AV->Prop
 |[],ys=>ys=[]
 |x::xs,ys=> ∃y zs,ys=y::zs/\Co1 H n x y/\oe H n xs zs
def Co(H:List jS)(n:Nat)(x y:AV):Prop:=Co1 H n x y\/ ∃cs ds,x= .agg cs/\y= .agg ds/\oe H n cs ds
def BB(H:List jS)(n:Nat):List AV->List AV->Prop
 |[],ys=>ys=[]
 |x::xs,ys=> ∃y zs,ys=y::zs/\Co H n x y/\BB H n xs zs
def HC{n:Nat}: ∀{p q:List AV},uB n p->uB n q->uB n (p++q)
 |[],_,_,hq=>hq
 |_::_,_,hp,hq=>⟨hp.1,HC hp.2 hq⟩
def EU{n:Nat}: ∀{rows:List (List AV)},LK n rows->uB n rows.flatten
 |[],_=>trivial
 |_::_,h=>by simp only[cP];exact HC h.1 (EU h.2)
def En:List (List AV)->List (List AV)->Prop
 |[],ys=>ys=[]
 |x::xs,ys=> ∃y zs,ys=y::zs/\(x.length=y.length/\qi x y)/\En xs zs
theorem En.length: ∀{xs ys:List (List AV)},En xs ys->ys.length=xs.length
 |[],_,rfl=>rfl
 |_::_,_,⟨_,_,rfl,_,h⟩=>by simp [En.length h]
theorem En.sz{sz:Nat}: ∀{xs ys:List (List AV)},En xs ys->(∀r∈xs,r.length=sz)-> ∀r∈ys,r.length=sz
 |[],_,rfl,_=>by simp
 |x::_,_,⟨y,_,rfl,h1,h⟩,hl=>by
  intro r hr;simp only[cX] at hr;rcases hr with rfl|hr
  ·rw[<-h1.1];exact hl x (by simp)
  ·exact En.sz h (fun q hq=>hl q (by simp [hq])) r hr
def En.flat: ∀{xs ys:List (List AV)}{vs:List Value},En xs ys->kf E xs.flatten vs->kf E ys.flatten vs
 |[],_,_,rfl,r=>r
 |x::xs,_,vs,⟨y,zs,rfl,h1,h⟩,r=>by
  simp only[cP] at r ⊢;have h3:=kf.take x.length r;have h2:=kf.drop x.length r;simp only[cM,cN] at h3 h2;have:=kf.append (h1.2 _ _ h3) (En.flat h h2)
  rwa [List.take_append_drop] at this
def KH(H:List jS)(n:Nat)(x y:jS):Prop:=
 y= .dead\/(y=x/\pM n x)\/(∃cs ds,x= .cells cs/\y= .cells ds/\BB H n cs ds)\/(∃qT sz rows tV,x= .acc qT sz rows/\y= .acc qT sz tV/\En rows tV/\LK n tV)\/
  ∃k s s' st qP,x= .loop k s st qP/\y= .loop k s' st qP/\BB H n s s'
def CoH(H:List jS)(n:Nat):List jS->List jS->Prop
 |_,[]=>True
 |[],_::_=>False
 |x::xs,y::ys=>KH H n x y/\CoH H n xs ys
def akH(n:Nat)(df:List (FuncId×List AV)):Prop:= ∀p∈df,uB n p.2
def SR:akH n []:=fun _ h=>by cases h
def acm(σ σ':jI):Prop:=((σ'.low=σ.low/\σ.low<=σ'.heap.length)/\σ'.df=σ.df/\akH σ'.heap.length σ.df)/\BB σ.heap σ'.heap.length σ.slots σ'.slots/\CoH σ.heap σ'.heap.length σ.heap σ'.heap
def CoH.get: ∀{xs ys:List jS}{l:Nat}{y:jS},CoH H n xs ys->ys[l]? =some y-> ∃x,xs[l]? =some x/\KH H n x y
 |_,[],_,_,_,h=>by simp at h
 |[],_::_,_,_,h,_=>h.elim
 |x::_,_::_,0,_,⟨h,_⟩,hy=>by simp at hy;subst hy;exact⟨x,by simp,h⟩
 |_::_,_::_,l+1,_,⟨_,h⟩,hy=>by
  simp at hy;obtain⟨x,hx,hc⟩:=CoH.get h hy;exact⟨x,by simpa using hx,hc⟩
section weak
variable {C:o9}
def BB.Vv(hone: ∀x y v,Co H n x y->nr E x v->nr E' y v): ∀{xs ys:List AV}{vs:List Value},BB H n xs ys->kf E xs vs->kf E' ys vs
 |[],_,_,rfl,r=>r
 |_::_,_,_,⟨y,zs,rfl,hc,hr⟩,⟨u,us,rfl,r1,r2⟩=>⟨u,us,rfl,hone _ y u hc r1,BB.Vv hone hr r2⟩
def oe.Vv(hone: ∀x y v,Co1 H n x y->nr E x v->nr E' y v): ∀{xs ys:List AV}{vs:List Value},oe H n xs ys->kf E xs vs->kf E' ys vs
 |[],_,_,rfl,r=>r
 |_::_,_,_,⟨y,zs,rfl,hc,hr⟩,⟨u,us,rfl,r1,r2⟩=>⟨u,us,rfl,hone _ y u hc r1,oe.Vv hone hr r2⟩
def Co.Xi(hone: ∀x y v,Co1 H n x y->nr E x v->nr E' y v)(x y:AV)(v:Value)(h:Co H n x y)(r:nr E x v):nr E' y v:=by
 rcases h with h|⟨cs,ds,rfl,rfl,h⟩
 ·exact hone x y v h r
 ·obtain⟨vs,hv,rl⟩:=r;exact⟨vs,hv,oe.Vv hone h rl⟩
def Co.Vv(S:lQ C φ σ a w)(h:Co σ.heap n x y)(r:nr (C.env φ σ.heap w) x v):nr (C.env φ σ.heap w) y v:=by
 refine Co.Xi ?_ x y v h r;intro x y v hc r;rcases hc with⟨hsub,hn⟩|⟨l,m,sz,rows,rfl,hl,hm,hsub,hn⟩
 ·exact hsub _ _ r
 ·have hv:=Ie S hl hm r;subst hv;exact hsub _ _ (SJ S hl)
def BB.azI(S:lQ C φ σ a w){vs:List Value}(h:BB σ.heap n xs ys)(r:kf (C.env φ σ.heap w) xs vs):kf (C.env φ σ.heap w) ys vs:=
 BB.Vv (fun _ _ _ h r=>Co.Vv S h r) h r
def acm.sim(h:acm σ σ')(S:lQ C φ σ a w):lQ C φ σ' a w:=by
 obtain⟨⟨DL,RZ,hdn⟩,hs,hh⟩:=h;have Ju: ∀(l:Nat)(y:jS),σ'.heap[l]? =some y-> ∃x,σ.heap[l]? =some x/\KH σ.heap σ'.heap.length x y:=fun l y hy=>hh.get hy
 have aaw: ∀{x y:jS}{h:Value}{b o:Nat},KH σ.heap σ'.heap.length x y->y.w5 h b o->x.w5 h b o:=by
  intro x y h b o hc hm;rcases hc with rfl|⟨rfl,_⟩|⟨cs,ds,rfl,rfl,_⟩|⟨qT,sz,rows,tV,rfl,rfl,_,_⟩|⟨lk,s1,s2,st,qP,rfl,rfl,_⟩
  ·simp [jS.w5] at hm
  ·exact hm
  ·cases h with
   |pointer p=>cases p<;>exact hm
   |_=>exact hm
  ·cases h with
   |slice p _ _=>cases p<;>exact hm
   |_=>exact hm
  ·cases h with
   |func q _ _=>cases q<;>exact hm
   |_=>exact hm
 have KE: ∀{x y:jS}{h:Value}{b:Nat},KH σ.heap σ'.heap.length x y->y.block h b->x.block h b:=by
  intro x y h b hc hm;rcases hc with rfl|⟨rfl,_⟩|⟨cs,ds,rfl,rfl,_⟩|⟨qT,sz,rows,tV,rfl,rfl,_,_⟩|⟨lk,s1,s2,st,qP,rfl,rfl,_⟩
  ·simp [jS.block] at hm
  ·exact hm
  ·cases h with
   |pointer p=>cases p<;>exact hm
   |_=>exact hm
  ·cases h with
   |slice p _ _=>cases p<;>exact hm
   |_=>exact hm
  ·cases h with
   |func q _ _=>cases q<;>exact hm
   |_=>exact hm
 have Jr: ∀b o,Dq φ σ'.heap b o->Dq φ σ.heap b o:=by
  rintro b o ⟨l,y,hy,hm⟩;obtain⟨x,hx,hc⟩:=Ju l y hy;exact⟨l,x,hx,aaw hc hm⟩
 have le:(C.env φ σ.heap w).Le σ'.heap.length (C.env φ σ'.heap w):=by
  refine⟨cm _,fun l hl=> .inl ⟨rfl,?_⟩,fun b o u hm hc=>⟨fun h=>hm (h.imp (Jr b o) id),hc⟩⟩;obtain⟨x,hx,hc⟩:=Ju l σ'.heap[l] (b8 hl);simp only[o9.env];rw[b8 hl,hx];rcases hc with h|⟨h,_⟩|⟨cs,ds,rfl,h,_⟩|⟨qT,sz,rows,tV,rfl,h,hr,_⟩|⟨lk,s1,s2,st,qP,rfl,h,_⟩
  ·right;rw[h];rfl
  ·left;rw[h]
  ·left;rw[h];rfl
  ·left;rw[h];simp only[lr,hr.length]
  ·left;rw[h];rfl
 have hone: ∀x y v,Co σ.heap σ'.heap.length x y->nr (C.env φ σ.heap w) x v->nr (C.env φ σ'.heap w) y v:=by
  refine Co.Xi ?_;intro x y v hc r;rcases hc with⟨hsub,hn⟩|⟨l,m,sz,rows,rfl,hl,hm,hsub,hn⟩
  ·exact nr.mono le _ _ hn (hsub _ _ r)
  ·have hv:=Ie S hl hm r;subst hv;exact nr.mono le _ _ hn (hsub _ _ (SJ S hl))
 have Aa:qh C φ σ'.heap w σ'.df a.defers:=by
  rw[RZ]
  exact S.defers.ahE (fun xs vs ⟨f,hf⟩ r=>kf.mono le _ _ (hdn _ hf) r) (fun _ _ _=>rfl) (fun l x b hx hb=>by
   grind)
 refine {slots:=BB.Vv hone hs S.slots,defers:=Aa,mV:= ?_,apart:= ?_,rz:= ?_,size:=S.size,old:=S.old,mF:=S.mF,Bi:= ?_,tX:=S.tX,rest:=S.rest,low:=⟨by rw[DL.1];exact S.low.1,by rw[DL.1];exact DL.2⟩,names:= ?_}
 ·intro l y hy;obtain⟨x,hx,hc⟩:=Ju l y hy;have r:=S.mV l x hx;rcases hc with rfl|⟨rfl,hn⟩|⟨cs,ds,rfl,rfl,hcl⟩|⟨qT,sz,rows,tV,rfl,rfl,hr,hn⟩|⟨lk,s1,s2,st,qP,rfl,rfl,hcl⟩
  ·exact trivial
  ·cases y with
   |cells cs=>
    obtain⟨b,c,t,h1,h2,rl,h3⟩:=r;exact⟨b,c,t,h1,h2,kf.mono le _ _ hn rl,h3⟩
   |acc qT sz rows=>
    obtain⟨base,cap,h1,h2,h3,h4,h5⟩:=r;refine⟨base,cap,h1,h2,h3,h4,fun a0 ha hc=> ?_⟩;obtain⟨h6,c,t,h7,h8,rl,h9⟩:=h5 a0 ha hc
    exact⟨h6,c,t,h7,h8,kf.mono le _ _ (by
     clear rl h9 h8 h7 h6 hc ha h5 h4 h3 h2 h1;revert hn;simp only[pM];clear hy hx;induction rows with
     |nil=>intro _;trivial
     |cons r rs ih=>
      intro hn;simp only[cP]
      have: ∀(p q:List AV),uB σ'.heap.length p->uB σ'.heap.length q->uB σ'.heap.length (p++q):=by
       intro p q hp hq;induction p with
       |nil=>exact hq
       |cons z p ihp=>exact⟨hp.1,ihp hp.2⟩
      exact this r _ hn.1 (ih hn.2)) rl,h9⟩
   |map es=>
    obtain⟨r',en,cl,h1,h2,rp⟩:=r;exact⟨r',en,cl,h1,h2,pX.mono le hn rp⟩
   |loop lk s1 st qP=>
    obtain⟨D,rec,h1,h2,h3,h4,rl⟩:=r;exact⟨D,rec,h1,h2,h3,h4,kf.mono le _ _ hn rl⟩
   |iter s p=>exact r
   |dead=>trivial
  ·obtain⟨b,c,t,h1,h2,rl,h3⟩:=r;exact⟨b,c,t,h1,h2,BB.Vv hone hcl rl,h3⟩
  ·obtain⟨base,cap,h1,h2,h3,h4,h5⟩:=r;have hlen:=hr.length;refine⟨base,cap,by rw[hlen];exact h1,by rw[hlen];exact h2,h3,hr.sz h4,fun a0 ha hc=> ?_⟩;obtain⟨h6,c,t,h7,h8,rl,h9⟩:=h5 a0 ha hc;rw[hlen];exact⟨h6,c,t,h7,h8,kf.mono le _ _ (EU hn) (hr.flat rl),h9⟩
  ·obtain⟨D,rec,h1,h2,h3,h4,rl⟩:=r;exact⟨D,rec,h1,h2,h3,h4,BB.Vv hone hcl rl⟩
 ·intro l l' x x' b hx hx' hb hb';obtain⟨y,hy,hc⟩:=Ju l x hx;obtain⟨y',hy',hc'⟩:=Ju l' x' hx';exact S.apart l l' y y' b hy hy' (KE hc hb) (KE hc' hb')
 ·intro l x b o hx hb;obtain⟨y,hy,hc⟩:=Ju l x hx;exact S.rz l y b o hy (KE hc hb)
 ·intro l x b o hx hm hb;obtain⟨y,hy,hc⟩:=Ju l x hx;exact S.Bi l y b o hy (aaw hc hm) hb
 ·intro l hl;have hlt:l<σ'.heap.length:=by have:=S.low;omega
  obtain⟨x,hx,hc⟩:=Ju l σ'.heap[l] (b8 hlt);have hn:=S.names l hl;rw[hx] at hn;rw[b8 hlt]
  have amZ:lr (some σ'.heap[l])=lr (some x)\/lr (some σ'.heap[l])=none:=by
   rcases hc with h|⟨h,_⟩|⟨cs,ds,rfl,h,_⟩|⟨qT,sz,rows,tV,rfl,h,hr,_⟩|⟨lk,s1,s2,st,qP,rfl,h,_⟩
   ·right;rw[h];rfl
   ·left;rw[h]
   ·left;rw[h];rfl
   ·left;rw[h];simp only[lr,hr.length]
   ·left;rw[h];rfl
  grind
def acm.imp(h:acm σ σ'):FE σ σ':=fun _ φ _ _ S=>⟨φ,h.sim S⟩
def ap1 {s sz:Nat}{qT:Bool}(h:σ.slots[i]? =some (.lI true s [])):FE σ {σ with slots:=σ.slots.set i (.acc σ.heap.length 0),heap:=σ.heap++[.acc qT sz []]}:=by
 intro C φ a w S;obtain⟨v,hv,base,cap,rfl,_,hc,_⟩:=S.slots.get h;have hcap:cap=0:=hc rfl;subst hcap
 have S':=S.PK (qT:=qT) (sz:=sz) (rows:=[]) (w':=w) (h':= .slice base 0 0) (cm _) (fun _ _=>rfl) (fun _=>rfl) ⟨rfl,rfl⟩ (by
  intro b hb;cases base<;>simp [jS.block] at hb) (fun E' _ _=>⟨base,0,rfl,cm _,fun _=>rfl,by simp,fun b _ h0=>absurd rfl h0⟩)
 refine⟨(fun k=>if k=σ.heap.length then .slice base 0 0 else φ k),?_⟩
 have:=S'.put (some i) (x:= .acc σ.heap.length 0) (v:= .slice base 0 0) ⟨by simp [o9.env],⟨_,_,_,rfl⟩,fun k hk=>by
  grind [o9.env]⟩
 refine {this with slots:= ?_,defers:=this.defers};have hs:=this.slots
 have ha:(a.put (some i) (.slice base 0 0)).tmps.toList=a.tmps.toList:=by
  simp only[Act.put,Array.toList_setIfInBounds];apply List.ext_getElem?
  grind
 rw[ha] at hs;exact hs
end weak
mutual
def frz(low:Nat)(H:List jS):AV->AV
 | .acc l n=>if l<low then .acc l n else match H[l]? with
   |some (.acc _ sz rows)=>if rows.length=n then .lI false sz rows else .any
   |_=> .any
 | .own l i n o sz=>if l<low then .own l i n o sz else .any
 | .agg cs=> .agg (ad3 low H cs)
 | .EQ cs=> .EQ (ad3 low H cs)
 | .any=> .any
 | .bool b=> .bool b
 | .int k n=> .int k n
 | .str s=> .str s
 | .raw v=> .raw v
 | .lI t sz rows=> .lI t sz rows
 | .ptr l off=> .ptr l off
 | .map l=> .map l
 | .pp cs=> .pp cs
 | .func fn f c=> .func fn f c
 | .iface t x=> .iface t x
def ad3(low:Nat)(H:List jS):List AV->List AV
 |[]=>[]
 |x::xs=>frz low H x::ad3 low H xs
end
section res
variable {C:o9}
def ahZ(_S:lQ C φ σ a w):(C.env φ σ.heap w).Le 0 (C.env φ [] w):=by
 refine⟨dJ _,fun l hl=>absurd hl (cw _),fun b o u hm hc=>⟨?_,hc⟩⟩;simp only[o9.env] at hm ⊢;rintro(⟨l,x,hx,_⟩|h)
 all_goals grind
structure ap3(C:o9)(φ:Nat->Value)(σ:jI)(w:World)(E':Env):Prop where
 le:(C.env φ σ.heap w).Le σ.low E'
 w:E'.w=w
 free: ∀(l:Nat)(x:jS)(b o:Nat),σ.low<=l->σ.heap[l]? =some x->x.block (φ l) b-> ¬ E'.mu b o
def lQ.avs(S:lQ C φ σ a w)(h0:σ.low=0):ap3 C φ σ w (C.env φ [] w):=by
 refine⟨by rw[h0];exact ahZ S,rfl,fun l x b o _ hx hb=> ?_⟩;simp only[o9.env];rintro(⟨l',y,hy,_⟩|hA)
 ·simp at hy
 ·exact S.rz l x b o hx hb hA
mutual
def ZA(S:lQ C φ σ a w){E':Env}(D:ap3 C φ σ w E'):
 ∀(x:AV)(v:Value),(frz σ.low σ.heap x).nb σ.low->nr (C.env φ σ.heap w) x v->nr E' (frz σ.low σ.heap x) v
 | .acc l n,v,hn,r=>by
   simp only[frz] at hn ⊢;by_cases DL:l<σ.low
   ·rw[if_pos DL];exact nr.mono D.le (.acc l n) v DL r
   ·rw[if_neg DL] at hn ⊢;split
    ·rename_i qT sz rows hl;simp only[hl] at hn;split
     ·rename_i hlen;rw[if_pos hlen] at hn;have hv:=Ie S hl hlen r;subst hv;obtain⟨base,cap,hh,h2,h3,h4,h5⟩:=S.mV l _ hl;refine⟨base,cap,hh,h2,(by intro h;cases h),h3,?_,?_⟩
      ·intro b hb hne;exact(h5 b hb (fun h0=>hne (cz (by omega)))).1
      ·intro b hb;by_cases hc:cap=0
       ·have:rows=[]:=cz (by omega);subst this;trivial
       ·obtain⟨hsp,c,t,hcb,hsz,rl,h1⟩:=h5 b hb hc;subst hb;refine N7 (E:=E') (c:=c) (t:=t) (fr:=(0,0)) (by rw[D.w];exact hcb) rows b.off h4 ?_ (kf.mono D.le _ _ (EU hn) rl) h1;intro o _ _;exact D.free l _ b.block o (by omega) hl (by rw[hh];exact⟨rfl,hc⟩)
     ·exact trivial
    ·exact trivial
 | .own l i n o sz,v,hn,r=>by
   simp only[frz] at hn ⊢;by_cases DL:l<σ.low
   ·rw[if_pos DL];exact nr.mono D.le (.own l i n o sz) v DL r
   ·rw[if_neg DL];exact trivial
 | .agg cs,v,hn,⟨vs,hv,rl⟩=>⟨vs,hv,Xj S D cs _ hn rl⟩
 | .EQ cs,v,hn,⟨vs,hv,rl⟩=>⟨vs,hv,Xj S D cs _ hn rl⟩
 | .any,_,_,_=>trivial
 | .bool _,_,_,r=>r
 | .int _ _,_,_,r=>r
 | .str _,_,_,r=>r
 | .raw _,_,_,r=>r
 | .lI t sz rows,_,hn,r=>nr.mono D.le (.lI t sz rows) _ hn r
 | .ptr l off,_,hn,r=>nr.mono D.le (.ptr l off) _ hn r
 | .map l,_,hn,r=>nr.mono D.le (.map l) _ hn r
 | .pp cs,_,hn,r=>nr.mono D.le (.pp cs) _ hn r
 | .func fn f c,_,hn,r=>nr.mono D.le (.func fn f c) _ hn r
 | .iface t x,_,hn,r=>nr.mono D.le (.iface t x) _ hn r
def Xj(S:lQ C φ σ a w){E':Env}(D:ap3 C φ σ w E'):
 ∀(xs:List AV)(vs:List Value),uB σ.low (ad3 σ.low σ.heap xs)->kf (C.env φ σ.heap w) xs vs->kf E' (ad3 σ.low σ.heap xs) vs
 |[],_,_,r=>r
 |x::xs,_,hn,⟨u,us,hv,r1,r2⟩=>⟨u,us,hv,ZA S D x u hn.1 r1,Xj S D xs us hn.2 r2⟩
end
mutual
theorem an6(low:Nat)(H:List jS): ∀x:AV,x.nb 0->frz low H x=x
 | .acc _ _,h=>absurd h (cw _)
 | .own _ _ _ _ _,h=>absurd h (cw _)
 | .agg cs,h=>by rw[frz,KI low H cs h]
 | .EQ cs,h=>by rw[frz,KI low H cs h]
 | .any,_| .bool _,_| .int _ _,_| .str _,_| .raw _,_| .lI _ _ _,_| .ptr _ _,_| .map _,_| .pp _,_| .func _ _ _,_| .iface _ _,_=>by rw[frz]
theorem KI(low:Nat)(H:List jS): ∀xs:List AV,uB 0 xs->ad3 low H xs=xs
 |[],_=>rfl
 |x::xs,h=>by rw[ad3,an6 low H x h.1,KI low H xs h.2]
end
end res
mutual
def AV.n9(ρ:Nat->Nat):AV->AV
 | .agg cs=> .agg (qu ρ cs)
 | .EQ cs=> .EQ (qu ρ cs)
 | .pp cs=> .pp (qu ρ cs)
 | .lI t sz rows=> .lI t sz (CP ρ rows)
 | .acc l n=> .acc (ρ l) n
 | .own l off len cap sz=> .own (ρ l) off len cap sz
 | .ptr l off=> .ptr (ρ l) off
 | .map l=> .map (ρ l)
 | .func fn f c=> .func fn (qu ρ f) (qu ρ c)
 | .iface t x=> .iface t (x.n9 ρ)
 | .any=> .any
 | .bool b=> .bool b
 | .int k n=> .int k n
 | .str s=> .str s
 | .raw v=> .raw v
def qu(ρ:Nat->Nat):List AV->List AV
 |[]=>[]
 |c::cs=>c.n9 ρ::qu ρ cs
def CP(ρ:Nat->Nat):List (List AV)->List (List AV)
 |[]=>[]
 |r::rs=>qu ρ r::CP ρ rs
end
theorem ID(ρ:Nat->Nat): ∀cs:List AV,(qu ρ cs).length=cs.length
 |[]=>rfl
 |_::cs=>by simp [qu,ID ρ cs]
theorem rH(ρ:Nat->Nat): ∀cs:List (List AV),(CP ρ cs).length=cs.length
 |[]=>rfl
 |_::cs=>by simp [CP,rH ρ cs]
theorem SS(ρ:Nat->Nat): ∀a b:List AV,qu ρ (a++b)=qu ρ a++qu ρ b
 |[],_=>rfl
 |_::a,b=>by simp [qu,SS ρ a b]
theorem PN(ρ:Nat->Nat): ∀rs:List (List AV),(CP ρ rs).flatten=qu ρ rs.flatten
 |[]=>rfl
 |r::rs=>by simp [CP,SS,PN ρ rs]
mutual
theorem HD(ρ:Nat->Nat): ∀x:AV,x.nb 0->x.n9 ρ=x
 | .acc _ _,h=>absurd h (cw _)
 | .own _ _ _ _ _,h=>absurd h (cw _)
 | .ptr _ _,h=>absurd h (cw _)
 | .map _,h=>absurd h (cw _)
 | .agg cs,h=>by rw[AV.n9,qQ ρ cs h]
 | .EQ cs,h=>by rw[AV.n9,qQ ρ cs h]
 | .pp cs,h=>by rw[AV.n9,qQ ρ cs h]
 | .lI _ _ rows,h=>by rw[AV.n9,tN ρ rows h]
 | .func _ f c,h=>by rw[AV.n9,qQ ρ f h.1,qQ ρ c h.2]
 | .iface _ x,h=>by rw[AV.n9,HD ρ x h]
 | .any,_| .bool _,_| .int _ _,_| .str _,_| .raw _,_=>by rw[AV.n9]
theorem qQ(ρ:Nat->Nat): ∀xs:List AV,uB 0 xs->qu ρ xs=xs
 |[],_=>rfl
 |x::xs,h=>by rw[qu,HD ρ x h.1,qQ ρ xs h.2]
theorem tN(ρ:Nat->Nat): ∀xs:List (List AV),LK 0 xs->CP ρ xs=xs
 |[],_=>rfl
 |x::xs,h=>by rw[CP,qQ ρ x h.1,tN ρ xs h.2]
end
def jS.n9(ρ:Nat->Nat):jS->jS
 | .cells cs=> .cells (qu ρ cs)
 | .acc qT sz rows=> .acc qT sz (CP ρ rows)
 | .map es=> .map (es.map fun p=>(p.1.n9 ρ,p.2.n9 ρ))
 | .loop k slots st qP=> .loop k (qu ρ slots) st qP
 | .iter s p=> .iter s p
 | .dead=> .dead
def sv.n9(ρ:Nat->Nat):sv->sv
 | .ret r=> .ret (r.n9 ρ)
 | .panic x=> .panic (x.n9 ρ)
structure X8(N:Nat)(ρ:Nat->Nat)(E E':Env):Prop where
 n: ∀l,l<N->ρ l<E'.n
 names: ∀l,l<N->E'.φ (ρ l)=E.φ l/\(E'.ln (ρ l)=E.ln l\/E'.ln (ρ l)=none)
 mem: ∀b o u,¬ E.mu b o->E.w.cell? ⟨b,o,none⟩=some u-> ¬ E'.mu b o/\E'.w.cell? ⟨b,o,none⟩=some u
section

mutual
theorem nr.n9(h:X8 N ρ E E'): ∀(x:AV)(v:Value),x.nb N->nr E x v->nr E' (x.n9 ρ) v
 | .any,_,_,_=>trivial
 | .bool _,_,_,r=>r
 | .int _ _,_,_,r=>r
 | .str _,_,_,r=>r
 | .raw _,_,_,r=>r
 | .agg cs,_,hb,⟨vs,hv,hr⟩=>⟨vs,hv,kf.n9 h cs _ hb hr⟩
 | .EQ cs,_,hb,⟨vs,hv,hr⟩=>⟨vs,hv,kf.n9 h cs _ hb hr⟩
 | .lI t sz rows,_,hb,⟨base,cap,h1,h2,h3,h4,h5,h6⟩=>
   ⟨base,cap,by rw[rH];exact h1,by rw[rH];exact h2,fun e=>by rw[rH];exact h3 e,h4,fun a ha hne=>h5 a ha (fun e=>hne (by rw[e];rfl)),fun a ha=>mr.n9 h rows _ hb (h6 a ha)⟩
 | .acc l n,v,hb,⟨_,XQ,r⟩=>⟨h.n l hb,XQ,fun k hk=>by
     rcases (h.names l hb).2 with e|e
     ·rw[e] at hk;rw[(h.names l hb).1];exact r k hk
     ·rw[e] at hk;cases hk⟩
 | .own l i n o sz,v,hb,⟨_,XQ,r⟩=>⟨h.n l hb,XQ,fun k hk=>by
     rcases (h.names l hb).2 with e|e
     ·rw[e] at hk;rw[(h.names l hb).1];exact r k hk
     ·rw[e] at hk;cases hk⟩
 | .ptr l off,v,hb,⟨_,b,hφ,hv⟩=>⟨h.n l hb,b,by rw[(h.names l hb).1];exact hφ,hv⟩
 | .map l,v,hb,⟨_,hv,r,hφ⟩=>⟨h.n l hb,by rw[(h.names l hb).1];exact hv,r,by rw[(h.names l hb).1];exact hφ⟩
 | .pp cs,_,hb,⟨b,off,hv,r⟩=>⟨b,off,hv,mE.n9 h cs _ hb r⟩
 | .func _ f c,_,hb,⟨f',c',hv,r1,r2⟩=>⟨f',c',hv,kf.n9 h f _ hb.1 r1,kf.n9 h c _ hb.2 r2⟩
 | .iface _ x,_,hb,⟨u,hv,r⟩=>⟨u,hv,nr.n9 h x _ hb r⟩
theorem kf.n9(h:X8 N ρ E E'): ∀(cs:List AV)(vs:List Value),uB N cs->kf E cs vs->kf E' (qu ρ cs) vs
 |[],_,_,r=>r
 |c::cs,_,hb,⟨u,us,hv,r1,r2⟩=>⟨u,us,hv,nr.n9 h c _ hb.1 r1,kf.n9 h cs _ hb.2 r2⟩
theorem mE.n9(h:X8 N ρ E E'){b:Nat}: ∀(cs:List AV)(off:Nat),uB N cs->mE E b off cs->mE E' b off (qu ρ cs)
 |[],_,_,_=>trivial
 |c::cs,off,hb,⟨⟨hm,u,hu,h1,r1⟩,r2⟩=>
  let ⟨m,c'⟩:=h.mem b off u hm hu
  ⟨⟨m,u,c',h1,nr.n9 h c _ hb.1 r1⟩,mE.n9 h cs _ hb.2 r2⟩
theorem mr.n9(h:X8 N ρ E E'){sz b:Nat}: ∀(rs:List (List AV))(off:Nat),LK N rs->mr E sz b off rs->mr E' sz b off (CP ρ rs)
 |[],_,_,_=>trivial
 |r::rs,off,hb,⟨hl,r1,r2⟩=>⟨by rw[ID];exact hl,mE.n9 h r _ hb.1 r1,mr.n9 h rs _ hb.2 r2⟩
end
structure ah0(N:Nat)(ρ:Nat->Nat)(E' E:Env):Prop where
 n:N<=E.n
 names: ∀l,l<N->E.φ l=E'.φ (ρ l)/\E.ln l=E'.ln (ρ l)
 mem: ∀b o u,¬ E'.mu b o->E'.w.cell? ⟨b,o,none⟩=some u-> ¬ E.mu b o/\E.w.cell? ⟨b,o,none⟩=some u
mutual
def nr.zU(h:ah0 N ρ E' E): ∀(x:AV)(v:Value),x.nb N->nr E' (x.n9 ρ) v->nr E x v
 | .any,_,_,_=>trivial
 | .bool _,_,_,r=>r
 | .int _ _,_,_,r=>r
 | .str _,_,_,r=>r
 | .raw _,_,_,r=>r
 | .agg cs,_,hb,⟨vs,hv,hr⟩=>⟨vs,hv,kf.zU h cs _ hb hr⟩
 | .EQ cs,_,hb,⟨vs,hv,hr⟩=>⟨vs,hv,kf.zU h cs _ hb hr⟩
 | .lI t sz rows,_,hb,⟨base,cap,h1,h2,h3,h4,h5,h6⟩=>by
   rw[rH] at h1 h2 h3;refine⟨base,cap,h1,h2,h3,h4,fun a ha hne=>h5 a ha (fun e=>hne ?_),fun a ha=>mr.zU h rows _ hb (h6 a ha)⟩;have:=congrArg List.length e;rw[rH] at this;exact cz this
 | .acc l n,v,hb,⟨_,XQ,r⟩=>⟨cf hb h.n,XQ,fun k hk=>by rw[(h.names l hb).2] at hk;rw[(h.names l hb).1];exact r k hk⟩
 | .own l i n o sz,v,hb,⟨_,XQ,r⟩=>⟨cf hb h.n,XQ,fun k hk=>by rw[(h.names l hb).2] at hk;rw[(h.names l hb).1];exact r k hk⟩
 | .ptr l off,v,hb,⟨_,b,hφ,hv⟩=>⟨cf hb h.n,b,by rw[(h.names l hb).1];exact hφ,hv⟩
 | .map l,v,hb,⟨_,hv,r,hφ⟩=>⟨cf hb h.n,by rw[(h.names l hb).1];exact hv,r,by rw[(h.names l hb).1];exact hφ⟩
 | .pp cs,_,hb,⟨b,off,hv,r⟩=>⟨b,off,hv,mE.zU h cs _ hb r⟩
 | .func _ f c,_,hb,⟨f',c',hv,r1,r2⟩=>⟨f',c',hv,kf.zU h f _ hb.1 r1,kf.zU h c _ hb.2 r2⟩
 | .iface _ x,_,hb,⟨u,hv,r⟩=>⟨u,hv,nr.zU h x _ hb r⟩
def kf.zU(h:ah0 N ρ E' E): ∀(cs:List AV)(vs:List Value),uB N cs->kf E' (qu ρ cs) vs->kf E cs vs
 |[],_,_,r=>r
 |c::cs,_,hb,⟨u,us,hv,r1,r2⟩=>⟨u,us,hv,nr.zU h c _ hb.1 r1,kf.zU h cs _ hb.2 r2⟩
def mE.zU(h:ah0 N ρ E' E){b:Nat}: ∀(cs:List AV)(off:Nat),uB N cs->mE E' b off (qu ρ cs)->mE E b off cs
 |[],_,_,_=>trivial
 |c::cs,off,hb,⟨⟨hm,u,hu,h1,r1⟩,r2⟩=>
  let ⟨m,c'⟩:=h.mem b off u hm hu
  ⟨⟨m,u,c',h1,nr.zU h c _ hb.1 r1⟩,mE.zU h cs _ hb.2 r2⟩
def mr.zU(h:ah0 N ρ E' E){sz b:Nat}: ∀(rs:List (List AV))(off:Nat),LK N rs->mr E' sz b off (CP ρ rs)->mr E sz b off rs
 |[],_,_,_=>trivial
 |r::rs,off,hb,⟨hl,r1,r2⟩=>⟨by rw[ID] at hl;exact hl,mE.zU h r _ hb.1 r1,mr.zU h rs _ hb.2 r2⟩
end
end
def ah1{E E':Env}{N:Nat}{ρ:Nat->Nat}(h:X8 N ρ E E'): ∀{es:List (AV×AV)}{xs:List MapEntry},(∀p∈es,p.1.nb N/\p.2.nb N)->pX E es xs->pX E' (es.map fun p=>(p.1.n9 ρ,p.2.n9 ρ)) xs
 |[],_,_,r=>r
 |(k,v)::_,_,hb,⟨e,s,he,r1,r2,r3⟩=>
  ⟨e,s,he,nr.n9 h k _ (hb (k,v) (by simp)).1 r1,nr.n9 h v _ (hb (k,v) (by simp)).2 r2,ah1 h (fun p hp=>hb p (by simp [hp])) r3⟩
def acn{E E':Env}{N:Nat}{ρ:Nat->Nat}(h:ah0 N ρ E' E): ∀{es:List (AV×AV)}{xs:List MapEntry},(∀p∈es,p.1.nb N/\p.2.nb N)->pX E' (es.map fun p=>(p.1.n9 ρ,p.2.n9 ρ)) xs->pX E es xs
 |[],_,_,r=>r
 |(k,v)::_,_,hb,⟨e,s,he,r1,r2,r3⟩=>
  ⟨e,s,he,nr.zU h k _ (hb (k,v) (by simp)).1 r1,nr.zU h v _ (hb (k,v) (by simp)).2 r2,acn h (fun p hp=>hb p (by simp [hp])) r3⟩
theorem mN.n9(h:X8 N ρ E E'){x:jS}(hb:pM N x)(hw: ∀b,x.block hd b->E'.w.heap[b]? =E.w.heap[b]?)(r:mN E x hd):mN E' (x.n9 ρ) hd:=by
 cases x with
 |cells cs=>
  obtain⟨b,c,t,rfl,h2,rl,h3⟩:=r;exact⟨b,c,t,rfl,by rw[hw b rfl];exact h2,kf.n9 h _ _ hb rl,h3⟩
 |acc qT sz rows=>
  obtain⟨base,cap,rfl,h2,h3,h4,h5⟩:=r;refine⟨base,cap,by rw[rH],by rw[rH];exact h2,h3,?_,fun a0 ha hc=> ?_⟩
  ·have key: ∀rs:List (List AV),(∀r∈rs,r.length=sz)-> ∀r∈CP ρ rs,r.length=sz:=by
    intro rs;induction rs with
    |nil=>intro _ r hr;simp [CP] at hr
    |cons q rs ih=>
     grind [CP,ID]
   exact key rows h4
  ·obtain⟨h6,c,t,h7,h8,rl,h9⟩:=h5 a0 ha hc;subst ha;rw[rH,PN];exact⟨h6,c,t,by rw[hw _ ⟨rfl,hc⟩];exact h7,h8,kf.n9 h _ _ (EU hb) rl,h9⟩
 |map es=>
  obtain⟨r',en,cl,rfl,h2,rp⟩:=r;exact⟨r',en,cl,rfl,by rw[hw r' rfl];exact h2,ah1 h hb rp⟩
 |loop k slots st qP=>
  obtain⟨D,rec,rfl,h1,h2,h3,rl⟩:=r;exact⟨D,rec,rfl,by rw[hw (D+1) (.inl rfl)];exact h1,by rw[hw D (.inr rfl)];exact h2,h3,kf.n9 h _ _ hb rl⟩
 |iter s p=>
  obtain⟨b,rfl,h2⟩:=r;exact⟨b,rfl,by rw[hw b rfl];exact h2⟩
 |dead=>trivial
def mN.zU(h:ah0 N ρ E' E){x:jS}(hb:pM N x)(hw: ∀b,(x.n9 ρ).block hd b->E.w.heap[b]? =E'.w.heap[b]?)(r:mN E' (x.n9 ρ) hd):mN E x hd:=by
 cases x with
 |cells cs=>
  obtain⟨b,c,t,rfl,h2,rl,h3⟩:=r;exact⟨b,c,t,rfl,by rw[hw b rfl];exact h2,kf.zU h _ _ hb rl,h3⟩
 |acc qT sz rows=>
  obtain⟨base,cap,rfl,h2,h3,h4,h5⟩:=r;rw[rH] at h2 hw;refine⟨base,cap,by rw[rH],h2,h3,?_,fun a0 ha hc=> ?_⟩
  ·have key: ∀rs:List (List AV),(∀r∈CP ρ rs,r.length=sz)-> ∀r∈rs,r.length=sz:=by
    intro rs;induction rs with
    |nil=>intro _ r hr;simp at hr
    |cons q rs ih=>
     grind [CP,ID]
   exact key rows h4
  ·obtain⟨h6,c,t,h7,h8,rl,h9⟩:=h5 a0 ha hc;subst ha;rw[rH] at rl h9;rw[PN] at rl;exact⟨h6,c,t,by rw[hw _ ⟨rfl,hc⟩];exact h7,h8,kf.zU h _ _ (EU hb) rl,h9⟩
 |map es=>
  obtain⟨r',en,cl,rfl,h2,rp⟩:=r;exact⟨r',en,cl,rfl,by rw[hw r' rfl];exact h2,acn h hb rp⟩
 |loop k slots st qP=>
  obtain⟨D,rec,rfl,h1,h2,h3,rl⟩:=r;exact⟨D,rec,rfl,by rw[hw (D+1) (.inl rfl)];exact h1,by rw[hw D (.inr rfl)];exact h2,h3,kf.zU h _ _ hb rl⟩
 |iter s p=>
  obtain⟨b,rfl,h2⟩:=r;exact⟨b,rfl,by rw[hw b rfl];exact h2⟩
 |dead=>trivial
def N8{x:jS}{b o:Nat}:(x.n9 ρ).w5 h b o↔x.w5 h b o:=by
 cases x with
 |cells cs=>cases h with
  |pointer p=>cases p<;>exact cg
  |_=>exact cg
 |acc qT sz rows=>cases h with
  |slice p n c=>cases p<;>exact cg
  |_=>exact cg
 |map es=>cases h with
  |map p=>cases p<;>exact cg
  |_=>exact cg
 |loop k slots st qP=>cases h with
  |func q _ _=>cases q<;>exact cg
  |_=>exact cg
 |iter s p=>cases h with
  |pointer p=>cases p<;>exact cg
  |_=>exact cg
 |dead=>exact cg
def yK{x:jS}{b:Nat}:(x.n9 ρ).block h b↔x.block h b:=by
 cases x with
 |cells cs=>cases h with
  |pointer p=>cases p<;>exact cg
  |_=>exact cg
 |acc qT sz rows=>cases h with
  |slice p n c=>cases p<;>exact cg
  |_=>exact cg
 |map es=>cases h with
  |map p=>cases p<;>exact cg
  |_=>exact cg
 |loop k slots st qP=>cases h with
  |func q _ _=>cases q<;>exact cg
  |_=>exact cg
 |iter s p=>cases h with
  |pointer p=>cases p<;>exact cg
  |_=>exact cg
 |dead=>exact cg
theorem BU{x:jS}:lr (some (x.n9 ρ))=lr (some x):=by
 cases x<;>simp [lr,jS.n9,rH]
def MV{x:jS}{b:Nat}(hb:x.block h b): ∃o,x.w5 h b o:=by
 cases x with
 |cells cs=>
  cases h with
  |pointer p=>cases p with
   |none=>exact absurd hb id
   |some a=>exact⟨0,hb⟩
  |_=>exact absurd hb id
 |acc qT sz rows=>
  cases h with
  |slice base n cap=>cases base with
   |none=>exact absurd hb id
   |some a=>exact⟨a.off+n*sz,hb,fun _=>cm _⟩
  |_=>exact absurd hb id
 |map es=>
  cases h with
  |map r=>cases r with
   |none=>exact absurd hb id
   |some a=>exact⟨0,hb⟩
  |_=>exact absurd hb id
 |loop k slots st qP=>
  cases h with
  |func q _ _=>cases q with
   |yield r=>exact⟨0,hb⟩
   |_=>exact absurd hb id
  |_=>exact absurd hb id
 |iter s p=>
  cases h with
  |pointer p=>cases p with
   |none=>exact absurd hb id
   |some a=>exact⟨0,hb⟩
  |_=>exact absurd hb id
 |dead=>exact absurd hb id
def ap4{op:Op}{e:tL}(hq:quiet op=true)(h:kI P σ op=some e):e.nw=[]:=by
 cases op with
 |move x=>cases h;rfl
 |assign x=>cases h;rfl
 |pick c x y=>simp only[kI] at h;split at h<;>cases h;rfl
 |unOp op t x=>simp only[kI] at h;split at h<;>cases h<;>rfl
 |fieldAddr t x i=>simp only[kI] at h;split at h<;>cases h<;>rfl
 |extract x i=>
  simp only[kI] at h
  grind
 |binOp op t x y u=>
  simp only[kI] at h;split at h
  ·cases h;rfl
  ·unfold ae1 Xg at h;split at h
   ·grind
   unfold Zt at h
   grind
 |load t x=>
  simp only[kI] at h;split at h
  ·split at h
   ·split at h
    ·unfold ldV at h
     grind
    ·cases h
   ·cases h
  ·split at h<;>cases h;rfl
  ·grind
  ·unfold ab7 at h
   grind [cK]
  ·cases h
 |store t x y=>
  simp only[kI] at h
  grind
 |field t x i=>
  simp only[kI] at h
  grind
 |index t x i=>
  simp only[kI] at h
  grind
 |indexAddr t x i=>
  simp only[kI] at h
  grind [cK]
 |_=>simp [quiet] at hq
def ap5{op:Op}{e:tL}(hq:quiet op=true)(h:kI P σ op=some e):e.whole=false:=by
 cases op with
 |move x=>cases h;rfl
 |assign x=>cases h;rfl
 |pick c x y=>simp only[kI] at h;split at h<;>cases h;rfl
 |unOp op t x=>simp only[kI] at h;split at h<;>cases h<;>rfl
 |fieldAddr t x i=>simp only[kI] at h;split at h<;>cases h<;>rfl
 |extract x i=>
  simp only[kI] at h
  grind
 |binOp op t x y u=>
  simp only[kI] at h;split at h
  ·cases h;rfl
  ·unfold ae1 Xg at h;split at h
   ·grind
   unfold Zt at h
   grind
 |load t x=>
  simp only[kI] at h;split at h
  ·split at h
   ·split at h
    ·unfold ldV at h
     grind
    ·cases h
   ·cases h
  ·split at h<;>cases h;rfl
  ·grind
  ·unfold ab7 at h
   grind [cK]
  ·cases h
 |store t x y=>
  simp only[kI] at h
  grind
 |field t x i=>
  simp only[kI] at h
  grind
 |index t x i=>
  simp only[kI] at h
  grind
 |indexAddr t x i=>
  simp only[kI] at h
  grind [cK]
 |_=>simp [quiet] at hq
mutual
theorem abP{ρ:Nat->Nat}{n:Nat}(hf: ∀l,l<n->ρ l=l): ∀x:AV,x.nb n->x.n9 ρ=x
 | .acc l _,h=>by rw[AV.n9,hf l h]
 | .own l _ _ _ _,h=>by rw[AV.n9,hf l h]
 | .ptr l _,h=>by rw[AV.n9,hf l h]
 | .map l,h=>by rw[AV.n9,hf l h]
 | .agg cs,h=>by rw[AV.n9,BV hf cs h]
 | .EQ cs,h=>by rw[AV.n9,BV hf cs h]
 | .pp cs,h=>by rw[AV.n9,BV hf cs h]
 | .lI _ _ rows,h=>by rw[AV.n9,aco hf rows h]
 | .func _ f c,h=>by rw[AV.n9,BV hf f h.1,BV hf c h.2]
 | .iface _ x,h=>by rw[AV.n9,abP hf x h]
 | .any,_| .bool _,_| .int _ _,_| .str _,_| .raw _,_=>by rw[AV.n9]
theorem BV{ρ:Nat->Nat}{n:Nat}(hf: ∀l,l<n->ρ l=l): ∀xs:List AV,uB n xs->qu ρ xs=xs
 |[],_=>rfl
 |x::xs,h=>by rw[qu,abP hf x h.1,BV hf xs h.2]
theorem aco{ρ:Nat->Nat}{n:Nat}(hf: ∀l,l<n->ρ l=l): ∀xs:List (List AV),LK n xs->CP ρ xs=xs
 |[],_=>rfl
 |x::xs,h=>by rw[CP,BV hf x h.1,aco hf xs h.2]
end
theorem asF(hf: ∀l,l<n->ρ l=l)(x:jS)(h:pM n x):x.n9 ρ=x:=by
 cases x with
 |cells cs=>simp only[jS.n9,BV hf cs h]
 |acc qT sz rows=>simp only[jS.n9,aco hf rows h]
 |map es=>
  simp only[jS.n9,jS.map.injEq];have h: ∀p∈es,p.1.nb n/\p.2.nb n:=h;induction es with
  |nil=>rfl
  |cons p es ih=>
   have hp:=h p (by simp);rw[List.map_cons,ih (fun q hq=>h q (by simp [hq])) (fun q hq=>h q (by simp [hq])),abP hf _ hp.1,abP hf _ hp.2]
 |loop k slots st qP=>simp only[jS.n9,BV hf slots h]
 |iter s p=>rfl
 |dead=>rfl
def acp(h:n<=m)(x:jS)(hx:pM n x):pM m x:=by
 cases x with
 |cells cs=>exact sn h _ hx
 |acc qT sz rows=>exact af0 h _ hx
 |map es=>exact fun p hp=>⟨AV.aar h _ (hx p hp).1,AV.aar h _ (hx p hp).2⟩
 |loop k slots st qP=>exact sn h _ hx
 |iter s p=>trivial
 |dead=>trivial
def ZB(n l:Nat):Nat:=if l=n then n+1 else if l=n+1 then n else l
theorem af7(n l:Nat):ZB n (ZB n l)=l:=by grind [ZB]
theorem X9(h:l<n):ZB n l=l:=by grind [ZB]
theorem avU(h:l<n+2):ZB n l<n+2:=by grind [ZB]
def am0{H:List α}{x y z:α}(h:(H++[x]++[y])[l]? =some z):(H++[y]++[x])[ZB H.length l]? =some z:=by
 have hl:l<H.length+2:=by grind
 rw[List.append_assoc] at h ⊢;by_cases h1:l<H.length
 ·grind [X9]
 ·rw[cR (by omega)] at h;by_cases h2:l=H.length
  ·simp_all [ZB]
  ·have h3:l=H.length+1:=by omega
   simp_all [ZB]
def lQ.swap{C:o9}{x y:jS}(RZ:akH H.length df)(DL:low<=H.length)(hH: ∀z∈H,pM H.length z)(hx:pM 0 x)(hy:pM 0 y)
 (S:lQ C φ ⟨s,H++[x]++[y],low,df⟩ a w):lQ C (fun l=>φ (ZB H.length l)) ⟨qu (ZB H.length) s,H++[y]++[x],low,df⟩ a w:=by
 have Ju: ∀z∈H++[x]++[y],pM H.length z:=by
  intro z hz;simp only[da,List.mem_singleton] at hz;rcases hz with(hz|rfl)|rfl
  ·exact hH z hz
  ·exact acp (dJ _) _ hx
  ·exact acp (dJ _) _ hy
 have back: ∀(l:Nat)(z:jS),(H++[y]++[x])[l]? =some z->(H++[x]++[y])[ZB H.length l]? =some z:=fun l z h=>am0 h
 have fwd: ∀(l:Nat)(z:jS),(H++[x]++[y])[l]? =some z->(H++[y]++[x])[ZB H.length l]? =some z:=fun l z h=>am0 h
 have Jr: ∀b o,Dq (fun l=>φ (ZB H.length l)) (H++[y]++[x]) b o↔Dq φ (H++[x]++[y]) b o:=by
  intro b o;constructor
  ·rintro⟨l,z,hz,hm⟩;exact⟨_,z,back l z hz,hm⟩
  ·rintro⟨l,z,hz,hm⟩;refine⟨_,z,fwd l z hz,?_⟩;simp only[af7];exact hm
 have n9:X8 (H.length+2) (ZB H.length) (C.env φ (H++[x]++[y]) w) (C.env (fun l=>φ (ZB H.length l)) (H++[y]++[x]) w):=by
  refine⟨fun l hl=> ?_,fun l hl=> ?_,fun b o u hm hc=>⟨?_,hc⟩⟩
  all_goals grind [o9.env,avU,af7]
 have Aa:qh C (fun l=>φ (ZB H.length l)) (H++[y]++[x]) w df a.defers:=S.defers.ahE (fun xs vs ⟨f,hf⟩ r=>by
  have:=kf.n9 n9 xs vs (sn (by omega) _ (RZ _ hf)) r
  rwa [BV (fun l hl=>X9 hl) xs (RZ _ hf)] at this) (fun _ _ _=>rfl) (fun l z b hz hb=> .inl ⟨_,z,back l z hz,hb⟩)
 refine {slots:= ?_,defers:=Aa,mV:= ?_,apart:= ?_,rz:= ?_,size:=S.size,old:=S.old,mF:=S.mF,Bi:= ?_,tX:=S.tX,rest:=S.rest,low:=⟨S.low.1,by grind⟩,names:= ?_}
 ·refine kf.n9 n9 _ _ ?_ S.slots;have:=kf.nb _ _ S.slots;simpa [o9.env] using this
 ·intro l z hz;have h1:=back l z hz;have hm:=Ju z (cQ h1);have:=mN.n9 n9 (acp (by omega) _ hm) (fun _ _=>rfl) (S.mV _ z h1);rw[asF (fun l hl=>X9 hl) z hm] at this;exact this
 ·intro l l' z z' b hz hz' hb hb';have:=S.apart _ _ z z' b (back l z hz) (back l' z' hz') hb hb'
  grind [af7]
 ·intro l z b o hz hb;exact S.rz _ z b o (back l z hz) hb
 ·intro l z b o hz hm;exact S.Bi _ z b o (back l z hz) hm
 ·intro l hl;have hN:C.N0=low:=S.low.1;have hlt:l<H.length:=by omega
  have:=S.names l hl
  grind [X9]
def af8{x:jS}(r:mN E x h)(hx: ∀qT sz rows,x= .acc qT sz rows->(∃base n cap,h= .slice base n cap/\cap≠0/\base≠none)\/rows=[]):pM E.n x:=by
 cases x with
 |cells cs=>obtain⟨_,_,_,_,_,rl,_⟩:=r;exact kf.nb _ _ rl
 |acc qT sz rows=>
  rcases hx qT sz rows rfl with⟨base,n,cap,rfl,hc,hb⟩|rfl
  ·obtain⟨base',cap',h1,h2,h3,h4,h5⟩:=r;simp only[Value.slice.injEq] at h1;obtain⟨rfl,rfl,rfl⟩:=h1;cases base with
   |none=>exact absurd rfl hb
   |some a0=>
    obtain⟨_,c,t,_,_,rl,_⟩:=h5 a0 rfl hc;have hn:=kf.nb _ _ rl
    have key: ∀rows:List (List AV),uB E.n rows.flatten->LK E.n rows:=by
     intro rows;induction rows with
     |nil=>intro _;trivial
     |cons q rs ih=>
      intro this;simp only[cP] at this
      have split: ∀(p q:List AV),uB E.n (p++q)->uB E.n p/\uB E.n q:=by
       intro p;induction p with
       |nil=>intro q h;exact⟨trivial,h⟩
       |cons z p ihp=>intro q h;exact⟨⟨h.1,(ihp q h.2).1⟩,(ihp q h.2).2⟩
      exact⟨(split _ _ this).1,ih (split _ _ this).2⟩
    exact key rows hn
  ·trivial
 |map es=>obtain⟨_,_,_,_,_,rp⟩:=r;exact pX.nb rp
 |loop k slots st qP=>obtain⟨_,_,_,_,_,_,rl⟩:=r;exact kf.nb _ _ rl
 |iter s p=>trivial
 |dead=>trivial
def N9{x:jS}(r:mN E x h):pM E.n x:=by
 refine af8 r ?_;rintro qT sz rows rfl;obtain⟨base,cap,rfl,h2,h3,_⟩:=r;cases base with
 |none=>
  simp_all
 |some a0=>
  by_cases hc:cap=0
  ·simp_all
  grind
def ah2(w:World)(h:n4 P t=some z):uB 0 z:=by
 obtain⟨v,_,hr,_⟩:=Vu (w:=w) h;exact kf.nb _ _ (hr {w,mu:=fun _ _=>False,φ:=fun _=> .tuple #[],ln:=fun _=>none,n:=0})
section

theorem Ri(h:PL o=true): ∃t,o.op= .alloc t/\o.guard=none:=by
 grind [PL,Option.isNone_iff_eq_none]
def qZ(n:Nat)(z:List AV):tL:={val:= .ptr n 0,nw:=[.cells z]}
def aaz(ho:o.op= .alloc t)(hg:o.guard=none)(hz:n4 P t=some z):uC P ops o σ (fun e=>e=qZ σ.heap.length z):=by
 refine .inr (.inl ⟨?_,?_,qZ σ.heap.length z,?_,?_,fun _=>cg⟩)
 ·unfold n6;rw[hg]
 ·rw[ho];rfl
 ·rw[ho];simp only[kI,hz];rfl
 ·exact trivial
def Eo{S:tL->Prop}(ho:o.op= .alloc t)(hg:o.guard=none)(h:uC P ops o σ S): ∃z,n4 P t=some z/\ ∀e,S e↔e=qZ σ.heap.length z:=by
 rcases h with⟨hw,_⟩|⟨_,_,e,he,_,h⟩|⟨_,f,args,V,hc,_⟩|⟨_,f,args,e,hc,_⟩
 ·grind [n6]
 ·rw[ho] at he;simp only[kI] at he;split at he
  ·rename_i z hz;cases he;exact⟨z,hz,h⟩
  ·cases he
 ·rw[ho] at hc;cases hc
 ·rw[ho] at hc;cases hc
theorem BW{p q:Nat}(h:SO ops p q=true):p<q/\(∃op oq tp tq,ops[p]? =some op/\ops[q]? =some oq/\op.op= .alloc tp/\oq.op= .alloc tq/\op.guard=none/\oq.guard=none/\wO op=[]/\wO oq=[])/\
 ∀k o,ops[k]? =some o->k≠p->k≠q->quiet o.op=true/\nI ops p k=nI ops q k:=by
 unfold SO at h;split at h
 ·rename_i op oq hp hq;simp only[cj,jA,List.isEmpty_iff] at h;obtain⟨⟨⟨⟨⟨h1,h2⟩,h3⟩,h4⟩,h5⟩,h6⟩:=h;obtain⟨tp,a1,a2⟩:=Ri h1
  grind [Ri]
 ·cases h
theorem EA(h1:nI ops i j=false)(h2:SO ops i j=false):aa2 ops i j=false:=by
 unfold aa2;rw[h1,h2];rfl
theorem AS{op:Op}(h:quiet op=true):op≠ .alloc t:=by
 rintro rfl;cases h
theorem vV{op:Op}(h:quiet op=true):yI op=false:=by
 cases op<;>first|rfl|(simp [quiet] at h)
end
section region
variable {C:o9}
def afc(o:Oper)(listed:Array Bool):(o.after.all fun e=> !Region.binds .any e||listed.getD e.on false)=true↔ ∀d∈wO o,listed.getD d false=true:=by
 grind [Array.all_eq_true_iff_forall_mem,wO]
theorem FH(listed:Array Bool)(i:Nat)(hsz:listed.size=ops.size):i∈Region.ready .any ops listed↔i<ops.size/\listed.getD i false=false/\ ∃o,ops[i]? =some o/\ ∀d∈wO o,listed.getD d false=true:=by
 unfold Region.ready;simp only[List.mem_filter,List.mem_range];constructor
 ·rintro⟨h1,h2⟩;rw[cj] at h2;have ho:ops[i]? =some ops[i]:=cD h1;refine⟨h1,?_,ops[i],ho,?_⟩
  ·grind
  ·have h3:=h2.2;rw[ho] at h3;simp only[dr,dj] at h3;exact(afc _ _).1 h3
 ·rintro⟨h1,h2,o,ho,h3⟩;refine⟨h1,?_⟩;rw[cj];constructor
  ·grind
  ·rw[ho];simp only[dr,dj];exact(afc _ _).2 h3
def tY(hok:Ez ops=true){listed:Array Bool}(hcl: ∀j o,ops[j]? =some o->listed.getD j false=true-> ∀d∈wO o,listed.getD d false=true){r:Nat}(KG:ops[i]? =some oi)
 (AR: ∀d∈wO oi,listed.getD d false=true) (hq:nI ops r i=true):listed.getD r false=true:=by
 obtain⟨_,hspec⟩:=BT hok;exact aay (L:=fun d=>listed.getD d false=true) (all:=ops.toList) (fun j o hj hL=>hcl j o (by simpa using hj) hL) ops.toList [] (by simp) (by simp) (fun k o hk=>(hspec k o (by simpa using hk)).1) i oi (by simpa using KG) AR r hq
def Mg{listed:Array Bool}(KG:ops[i]? =some oi)(AR: ∀d∈wO oi,listed.getD d false=true)(hcl: ∀j o,ops[j]? =some o->listed.getD j false=true-> ∀d∈wO o,listed.getD d false=true):
 ∀j o,ops[j]? =some o->(listed.setIfInBounds i true).getD j false=true-> ∀d∈wO o,(listed.setIfInBounds i true).getD d false=true:=by
 intro j o' hj hL d hd;by_cases e:j=i
 ·grind [getD_set_true]
 ·rw[getD_set_ne false (fun e'=>e e'.symm)] at hL
  grind [getD_set_true]
theorem Vx{listed:Array Bool}(h:i<listed.size):(listed.setIfInBounds i true).getD i false=true:=by
 simp [Array.getD,h]
structure Ya(ops:Array Oper)(R:List Nat)(listed:Array Bool):Prop where
 pw:R.Pairwise (· < ·)
 sz:listed.size=ops.size
 mem: ∀i,i∈R↔i<ops.size/\listed.getD i false=false
 cl: ∀j o,ops[j]? =some o->listed.getD j false=true-> ∀d∈wO o,listed.getD d false=true
def Ya.next{R:List Nat}{listed:Array Bool}(F:Ya ops R listed)(KG:ops[i]? =some oi)(AR: ∀d∈wO oi,listed.getD d false=true):Ya ops (R.erase i) (listed.setIfInBounds i true):=by
 refine⟨F.pw.erase i,by simpa using F.sz,fun k=> ?_,Mg KG AR F.cl⟩;have hnd:R.Nodup:=F.pw.imp (fun h=>db h);have hi:i<listed.size:=by have:=(di.1 KG).1;rw[F.sz];exact this
 rw[hnd.mem_erase_iff,F.mem k];constructor
 ·rintro⟨hne,h1,h2⟩;refine⟨h1,?_⟩;rw[getD_set_ne false (fun e=>hne e.symm)];exact h2
 ·rintro⟨h1,h2⟩
  have hne:k≠i:=by
   grind [Vx]
  refine⟨hne,h1,?_⟩;rw[getD_set_ne false (fun e=>hne e.symm)] at h2;exact h2
def an7 (hok:Ez ops=true) {p q:Nat} (htw:SO ops p q=true) (fuel:Nat)
 (back: ∀(f:Nat)(R:List Nat)(listed:Array Bool)(φ:Nat->Value)(σ:jI)(a:Act)(w:World),f<=fuel->R.length=f->Ya ops R listed->(p ∉ R)->lQ C φ σ a w->VZ C.P ops (Q .normal) R [] σ->wpAnyIn (BS ro) 0 C.P .any ops (QC C Q) f listed a w)
 {oq:Oper} {tq:TypeId} {zq:List AV} (hoq:ops[q]? =some oq) (htq:oq.op= .alloc tq) (hgq:oq.guard=none) (hzq:n4 C.P tq=some zq):
 ∀(f:Nat)(R:List Nat)(listed:Array Bool)(φ φ0:Nat->Value)(σ:jI)(a a0:Act)(w w0:World),f<=fuel->R.length=f+1->R.Pairwise (· < ·)->listed.size=ops.size->p∈R->q∈R->listed.getD q false=true->
 (∀i,i∈R↔i<ops.size/\(listed.getD i false=false\/i=q))->(∀j o,ops[j]? =some o->listed.getD j false=true-> ∀d∈wO o,listed.getD d false=true)->
 lQ C φ (σ.app oq.dst (qZ σ.heap.length zq)) a w->lQ C φ0 σ a0 w0->VZ C.P ops (Q .normal) R [] σ->wpAnyIn (BS ro) 0 C.P .any ops (QC C Q) f listed a w:=by
 obtain⟨hpq,⟨op,oq',tp,tq',hop,axL,htp,aAH,hgp,aAI,hdp,hdq⟩,akI⟩:=BW htw;rw[hoq] at axL;cases axL;obtain⟨_,hspec⟩:=BT hok;intro f;induction f with
 |zero=>
  intro R listed φ φ0 σ a a0 w w0 hf hlen X7 hsz hpR hqR hlq hR hcl S S0 h;exfalso
  match R,hlen with
  |[x],_=>
   grind
 |succ f ih=>
  intro R listed φ φ0 σ a a0 w w0 hf hlen X7 hsz hpR hqR hlq hR hcl S S0 h;have hnd:R.Nodup:=X7.imp (fun h=>db h)
  have hpl:listed.getD p false=false:=by
   grind
  have hps:p<ops.size:=((hR p).1 hpR).1;refine⟨?_,?_⟩
  ·grind [FH]
  ·intro i hi;rw[FH listed i hsz] at hi;obtain⟨hi1,hi2,oi,KG,AR⟩:=hi;have hiq:i≠q:=by grind
   have hiR:i∈R:=(hR i).2 ⟨hi1,.inl hi2⟩
   have acq: ∀r∈R,nI ops r i=false:=by
    intro r hr;cases hq':nI ops r i with
    |false=>rfl
    |true=>
     exfalso;have hl:=tY hok hcl KG AR hq';rcases ((hR r).1 hr).2 with h|h
     ·rw[hl] at h;cases h
     ·subst h;by_cases e:i=p
      ·subst e;rw[hop] at KG;cases KG;have:=tY hok (listed:=cn ops.size false) (by grind [mG]) hop (by rw[hdp];intro d hd;cases hd) hq'
       simp_all
      ·have:=(akI i oi KG e hiq).2;rw[hq'] at this;have hl:=tY hok hcl KG AR this;rw[hpl] at hl;cases hl
   by_cases eip:i=p
   ·
    subst eip;rw[hop] at KG;cases KG
    have hno: ∀r∈R,r<i->aa2 ops r i=false:=by
     grind [EA,BW,AS]
    obtain⟨o1,E1,ho1,af9,hE1⟩:=ahX hok h hiR X7 hno;rw[hop] at ho1;cases ho1;obtain⟨zp,hzp,hd1⟩:=Eo htp hgp af9;obtain⟨_,h1⟩:=hE1 _ ((hd1 _).2 rfl);have avV:q∈R.erase i:=(hnd.mem_erase_iff).2 ⟨by omega,hqR⟩
    obtain⟨o2,E2,ho2,avW,hE2⟩:=ahX hok h1 avV (X7.erase i) (by
     intro r hr hlt;have hr':=c9 hr;have hri:r≠i:=fun e=>by grind
     refine EA ?_ ?_
     ·cases ho':nI ops r q with
      |false=>rfl
      |true=>
       exfalso;have:=tY hok (listed:=cn ops.size false) (by grind [mG]) hoq (by rw[hdq];intro d hd;cases hd) ho'
       simp_all
     grind [BW,AS])
    rw[hoq] at ho2;cases ho2;obtain⟨zq',axM,hd2⟩:=Eo htq hgq avW;rw[hzq] at axM;cases axM;obtain⟨_,h2⟩:=hE2 _ ((hd2 _).2 rfl);refine HB S hop (aaz htp hgp hzp) ?_;rintro e φ' v w' rfl S'
    have hoQ:nI ops i q=false:=by
     cases ho':nI ops i q with
     |false=>rfl
     |true=>
      exfalso;have:=tY hok (listed:=cn ops.size false) (by grind [mG]) hoq (by rw[hdq];intro d hd;cases hd) ho'
      simp_all
    obtain⟨acl,_⟩:=(hspec q oq hoq).2 i op hpq hop hoQ;obtain⟨_,ap2,_⟩:=Oper.apart_spec acl;have XQ:uB σ.heap.length σ.slots:=kf.nb _ _ S0.slots
    have hob: ∀z∈σ.heap,pM σ.heap.length z:=by
     intro z hz;obtain⟨l,hl⟩:=dA hz;exact N9 (S0.mV l z hl)
    have S2:=lQ.swap (s:=((σ.app oq.dst (qZ σ.heap.length zq)).app op.dst (qZ (σ.app oq.dst (qZ σ.heap.length zq)).heap.length zp)).slots) (H:=σ.heap) (x:= .cells zq) (y:= .cells zp) (low:=σ.low) (df:=σ.df) (Iy.nb S0.defers.2.2) S0.low.2 hob (ah2 w0 hzq) (ah2 w0 hzp) (by
     have e:(σ.app oq.dst (qZ σ.heap.length zq)).app op.dst (qZ (σ.app oq.dst (qZ σ.heap.length zq)).heap.length zp)=⟨((σ.app oq.dst (qZ σ.heap.length zq)).app op.dst (qZ (σ.app oq.dst (qZ σ.heap.length zq)).heap.length zp)).slots,σ.heap++[.cells zq]++[.cells zp],σ.low,σ.df⟩:=by
      cases oq.dst<;>cases op.dst<;>simp [jI.app,jI.put,qZ,lu]
     rw[<-e];exact S')
    have e2:(⟨qu (ZB σ.heap.length) ((σ.app oq.dst (qZ σ.heap.length zq)).app op.dst (qZ (σ.app oq.dst (qZ σ.heap.length zq)).heap.length zp)).slots,σ.heap++[.cells zp]++[.cells zq],σ.low,σ.df⟩:jI)
     =(σ.app op.dst (qZ σ.heap.length zp)).app oq.dst (qZ (σ.app op.dst (qZ σ.heap.length zp)).heap.length zq):=by
     have avX:=BV (ρ:=ZB σ.heap.length) (fun l hl=>X9 hl) σ.slots XQ
     have axN: ∀(d:Nat)(c:AV)(cs:List AV),qu (ZB σ.heap.length) (cs.set d c)=(qu (ZB σ.heap.length) cs).set d (c.n9 (ZB σ.heap.length)):=by
      intro d c cs;induction cs generalizing d with
      |nil=>simp [qu]
      |cons x cs ih=>cases d with
       |zero=>simp [qu]
       |succ d=>simp [qu,ih]
     have axO:(σ.app oq.dst (qZ σ.heap.length zq)).heap.length=σ.heap.length+1:=by simp [jI.app,qZ,lu]
     have axP:(σ.app op.dst (qZ σ.heap.length zp)).heap.length=σ.heap.length+1:=by simp [jI.app,qZ,lu]
     have t0:ZB σ.heap.length σ.heap.length=σ.heap.length+1:=by simp [ZB]
     have t1:ZB σ.heap.length (σ.heap.length+1)=σ.heap.length:=by simp [ZB]
     rw[axO,axP];cases h1:oq.dst with
     |none=>cases h2:op.dst with
      |none=>simp [jI.app,jI.put,qZ,lu,avX]
      |some dp=>grind [jI.app,jI.put,qZ,lu,AV.n9]
     |some dq=>cases h2:op.dst with
      |none=>grind [jI.app,jI.put,qZ,lu,AV.n9]
      |some dp=>
       grind [jI.app,jI.put,qZ,lu,AV.n9,dG]
    rw[e2] at S2
    have hF:Ya ops ((R.erase i).erase q) (listed.setIfInBounds i true):=by
     refine⟨(X7.erase i).erase q,by simpa using hsz,fun k=> ?_,Mg hop AR hcl⟩;have azJ:(R.erase i).Nodup:=hnd.erase i;rw[azJ.mem_erase_iff,hnd.mem_erase_iff,hR k];constructor
     ·rintro⟨hne,azK,h1,h2⟩;refine⟨h1,?_⟩;rw[getD_set_ne false (fun e=>azK e.symm)]
      grind
     ·rintro⟨h1,h2⟩
      have hne:k≠i:=by
       grind [Vx]
      rw[getD_set_ne false (fun e=>hne e.symm)] at h2
      grind
    grind
   ·
    obtain⟨hqi,_⟩:=akI i oi KG eip hiq
    have hno: ∀r∈R,r<i->aa2 ops r i=false:=by
     intro r hr hlt;refine EA (acq r hr) ?_;cases ht:SO ops r i with
     |false=>rfl
     |true=>
      exfalso;obtain⟨_,⟨_,o1,_,t1,_,ho1,_,ht1,_⟩,_⟩:=BW ht;rw[KG] at ho1;cases ho1;exact AS hqi ht1
    obtain⟨o1,E1,ho1,af9,hE1⟩:=ahX hok h hiR X7 hno;rw[KG] at ho1;cases ho1
    have hnw: ∀e,E1 e->e.nw=[]:=by
     intro e he;rcases af9 with⟨_,h⟩|⟨_,_,e',he',_,h⟩|⟨_,f',args,V,hc,_,_,_⟩|⟨_,f',args,_,hc,_,_⟩
     ·rw[(h e).1 he]
     ·rw[(h e).1 he];exact ap4 hqi he'
     ·exfalso;have:=vV hqi;unfold lR at hc;split at hc
      ·rename_i ho';rw[ho'] at this;simp [yI] at this
      ·cases hc
     ·exfalso;have:=vV hqi;unfold lR at hc;split at hc
      ·rename_i ho';rw[ho'] at this;simp [yI] at this
      ·cases hc
    have hwh: ∀e,E1 e->e.whole=false:=by
     intro e he;rcases af9 with⟨_,h⟩|⟨_,_,e',he',_,h⟩|⟨_,f',args,V,hc,_,_,_⟩|⟨_,f',args,_,hc,_,_⟩
     ·rw[(h e).1 he]
     ·rw[(h e).1 he];exact ap5 hqi he'
     ·exfalso;have:=vV hqi;unfold lR at hc;split at hc
      ·rename_i ho';rw[ho'] at this;simp [yI] at this
      ·cases hc
     ·exfalso;have:=vV hqi;unfold lR at hc;split at hc
      ·rename_i ho';rw[ho'] at this;simp [yI] at this
      ·cases hc
    have hap:(∀d,oq.dst=some d->d ∉ oi.looksAt ops)/\(∀d,oi.dst=some d->oq.dst≠some d):=by
     rcases Nat.lt_or_gt_of_ne hiq with hlt|hgt
     ·have ho':nI ops i q=false:=by
       cases ho':nI ops i q with
       |false=>rfl
       |true=>
        exfalso;have:=tY hok (listed:=cn ops.size false) (by intro j o _ hj;rw[mG] at hj;cases hj) hoq (by rw[hdq];intro d hd;cases hd) ho';rw[mG] at this;cases this
      obtain⟨hap,_⟩:=(hspec q oq hoq).2 i oi hlt KG ho';obtain⟨x1,x2,x3⟩:=Oper.apart_spec hap;exact⟨x3,x2⟩
     ·obtain⟨hap,_⟩:=(hspec i oi KG).2 q oq hgt hoq (acq q hqR);obtain⟨x1,x2,x3⟩:=Oper.apart_spec hap;exact⟨x1,fun d hd hd'=>x2 d hd' hd⟩
    have apZ: ∀e,E1 e->yJ ⟨i,σ.heap.length,e⟩ (qZ σ.heap.length zq)=true:=by
     intro e he;simp [yJ,qZ,ET,hnw e he,hwh e he]
    have hfw:uC C.P ops oi (σ.app oq.dst (qZ σ.heap.length zq)) E1:=af9.fwd (j:=i) hap.1 apZ;refine HB S KG hfw ?_;intro e φ' v w' he S';obtain⟨_,qD⟩:=hE1 e he;have ap0:=ahW (d:=oi.dst) (d':=oq.dst) (j:=i) hap.2 (apZ e he) (af9.lt he).2 (by simp [qZ]);have hle:(σ.app oi.dst e).heap.length=σ.heap.length:=by simp [jI.app,hnw e he,rA]
    rw[<-ap0] at S'
    have hg: ∃φ1 a1 w1,lQ C φ1 (σ.app oi.dst e) a1 w1:=by
     rcases af9 with⟨_,h⟩|⟨_,_,e',he',hp,h⟩|⟨_,f',args,V,hc,_,_,_⟩|⟨_,f',args,_,hc,_,_⟩
     ·rw[(h e).1 he,FD];exact⟨φ0,_,w0,S0.put oi.dst (v:=undef) rfl⟩
     ·rw[(h e).1 he];obtain⟨_,v1,w1,φ1,_,_,S1⟩:=Me S0 he' hp;exact⟨φ1,_,w1,S1⟩
     ·exfalso;have:=vV hqi;unfold lR at hc;split at hc
      ·rename_i ho';rw[ho'] at this;simp [yI] at this
      ·cases hc
     ·exfalso;have:=vV hqi;unfold lR at hc;split at hc
      ·rename_i ho';rw[ho'] at this;simp [yI] at this
      ·cases hc
    obtain⟨φ1,a1,w1,S1⟩:=hg;rw[<-hle] at S';refine ih (R.erase i) _ φ' φ1 (σ.app oi.dst e) _ a1 w' w1 (by omega) ?_ (X7.erase i) (by simpa using hsz) ((hnd.mem_erase_iff).2 ⟨fun e'=>eip e'.symm,hpR⟩) ((hnd.mem_erase_iff).2 ⟨fun e'=>hiq e'.symm,hqR⟩) ?_ ?_ (Mg KG AR hcl) S' S1 qD
    ·rw[dl hiR];omega
    ·exact getD_set_true hlq
    ·intro k;rw[hnd.mem_erase_iff,hR k];constructor
     ·rintro⟨hne,h1,h2⟩;refine⟨h1,?_⟩;rw[getD_set_ne false (fun e=>hne e.symm)];exact h2
     ·rintro⟨h1,h2⟩
      have hne:k≠i:=by
       intro e';subst e';rcases h2 with h2|h2
       ·rw[Vx (by rw[hsz];exact hi1)] at h2;cases h2
       ·exact hiq h2
      refine⟨hne,h1,?_⟩;rw[getD_set_ne false (fun e=>hne e.symm)] at h2;exact h2
def ap6 (hok:Ez ops=true): ∀ (fuel:Nat) (R:List Nat) (listed:Array Bool) (φ:Nat->Value) (σ:jI) (a:Act) (w:World),R.length=fuel->Ya ops R listed->
 lQ C φ σ a w->VZ C.P ops (Q .normal) R [] σ->wpAnyIn (BS ro) 0 C.P .any ops (QC C Q) fuel listed a w:=by
 obtain⟨_,hspec⟩:=BT hok;intro fuel;induction fuel using Nat.strongRecOn with
 |ind fuel ih=>
  intro R listed φ σ a w hl F S h;have X7:=F.pw;have hsz:=F.sz;have hR:=F.mem;have hnd:R.Nodup:=X7.imp (fun h=>db h);cases fuel with
  |zero=>
   have hR0:R=[]:=cz hl;subst hR0;refine⟨?_,φ,σ,S,h⟩;rw[List.eq_nil_iff_forall_not_mem];intro i hi;rw[FH listed i hsz] at hi;have:=(hR i).2 ⟨hi.1,hi.2.1⟩;simp at this
  |succ fuel=>
   refine⟨?_,?_⟩
   ·intro akJ;exfalso;cases R with
    |nil=>simp at hl
    |cons r R=>
     have hr:=(hR r).1 (by simp);have ho:ops[r]? =some ops[r]:=cD hr.1
     have:r∈Region.ready .any ops listed:=by
      rw[FH listed r hsz];refine⟨hr.1,hr.2,_,ho,fun d hd=> ?_⟩;have hdr:=(hspec r _ ho).1 d hd;cases hld:listed.getD d false with
      |true=>rfl
      |false=>
       have hdR:=(hR d).2 ⟨by omega,hld⟩;rw[cU] at X7;simp only[cX] at hdR;rcases hdR with rfl|hdR
       ·omega
       ·have:=X7.1 d hdR;omega
     rw[akJ] at this;simp at this
   ·intro i hi;rw[FH listed i hsz] at hi;obtain⟨hi1,hi2,oi,KG,AR⟩:=hi;have hiR:=(hR i).2 ⟨hi1,hi2⟩
    have acq: ∀r∈R,nI ops r i=false:=by
     intro r hr;cases hq:nI ops r i with
     |false=>rfl
     |true=>
      exfalso;have:=tY hok F.cl KG AR hq;have hr':=((hR r).1 hr).2;rw[hr'] at this;cases this
    by_cases htw: ∃p∈R,SO ops p i=true
    ·obtain⟨p,hpR,htw⟩:=htw;obtain⟨hpi,⟨op,oq,tp,tq,hop,hoq,htp,htq,hgp,hgq,hdp,hdq⟩,akI⟩:=BW htw;rw[KG] at hoq;cases hoq;have hpl:=((hR p).1 hpR).2
     obtain⟨o1,E1,ho1,af9,hE1⟩:=ahX hok h hpR X7 (by
      intro r hr hlt;refine EA ?_ ?_
      ·cases ho':nI ops r p with
       |false=>rfl
       |true=>
        exfalso;have:=tY hok (listed:=cn ops.size false) (by intro j o _ hj;rw[mG] at hj;cases hj) hop (by rw[hdp];intro d hd;cases hd) ho';rw[mG] at this;cases this
      ·cases ht:SO ops r p with
       |false=>rfl
       |true=>
        exfalso;obtain⟨_,⟨o1,_,t1,_,ho1,_,ht1,_⟩,_⟩:=BW ht;exact AS (akI r o1 ho1 (by omega) (by omega)).1 ht1)
     rw[hop] at ho1;cases ho1;obtain⟨zp,hzp,hd1⟩:=Eo htp hgp af9;obtain⟨_,h1⟩:=hE1 _ ((hd1 _).2 rfl);have avV:i∈R.erase p:=(hnd.mem_erase_iff).2 ⟨by omega,hiR⟩
     obtain⟨o2,E2,ho2,avW,hE2⟩:=ahX hok h1 avV (X7.erase p) (by
      intro r hr hlt;have hr':=c9 hr;have hrp:r≠p:=fun e=>by subst e;exact(hnd.not_mem_erase) hr
      refine EA (acq r hr') ?_;cases ht:SO ops r i with
      |false=>rfl
      |true=>
       exfalso;obtain⟨_,⟨o1,_,t1,_,ho1,_,ht1,_⟩,_⟩:=BW ht;exact AS (akI r o1 ho1 hrp (by omega)).1 ht1)
     rw[KG] at ho2;cases ho2;obtain⟨zq,hzq,_⟩:=Eo htq hgq avW;refine HB S KG (aaz htq hgq hzq) ?_;rintro e φ' v w' rfl S';refine an7 hok htw fuel (fun f R' asG φ' σ' a' w' hf Kc F' _ S' h'=>ih f (by omega) R' asG φ' σ' a' w' Kc F' S' h') KG htq hgq hzq fuel R _ φ' φ σ _ a w' w (cm _) hl X7 (by simpa using hsz) hpR hiR (Vx (by rw[hsz];exact hi1)) ?_ (Mg KG AR F.cl) S' S h;intro k;rw[hR k];by_cases hk:k=i
     ·subst hk;constructor
      ·rintro⟨h1,_⟩;exact⟨h1,.inr rfl⟩
      ·rintro⟨h1,_⟩;exact⟨h1,hi2⟩
     ·rw[getD_set_ne false (fun e=>hk e.symm)];constructor
      ·rintro⟨h1,h2⟩;exact⟨h1,.inl h2⟩
      ·rintro⟨h1,h2|h2⟩
       ·exact⟨h1,h2⟩
       ·exact absurd h2 hk
    ·have hno: ∀r∈R,r<i->aa2 ops r i=false:=by
      intro r hr _;refine EA (acq r hr) ?_;cases ht:SO ops r i with
      |false=>rfl
      |true=>exact absurd ⟨r,hr,ht⟩ htw
     obtain⟨o,E,ho,hst,hE⟩:=ahX hok h hiR X7 hno;refine HB S ho hst ?_;intro e φ' v w' he S';obtain⟨_,qD⟩:=hE e he;refine ih fuel (by omega) (R.erase i) _ φ' _ _ w' ?_ (F.next KG AR) S' qD;rw[dl hiR];omega
def akK{id:Nat}(hm:C.P.follows .mixedOrders=true)(hok:Ez ops=true)(h:VZ C.P ops (Q .normal) (cE ops.size) [] σ)(S:lQ C φ σ a w):
 (Code.region id ops true).wpIn (BS ro) 0 C.P (QC C Q) a w:=by
 refine wpIn_region_any hm ?_;refine ap6 hok ops.size (cE ops.size) _ φ σ a _ (by simp) ⟨cV,by simp,?_,?_⟩ (S.drew _) h
 ·intro i;simp only[List.mem_range];constructor
  ·intro hi;exact⟨hi,mG _ _⟩
  ·exact fun h=>h.1
 ·intro j o hj hL;rw[mG] at hL;cases hL
end region
section
variable {c:Nat}
def acr(P:Program)(f:FuncId)(args:List AV)(H:List jS)(x:AV)(H':List jS):Prop:= ∀σ':jI,σ'.heap=H->ya P f args σ' (fun o H2=>o= .panic x/\H2=H')
def ah3(P:Program)(ops:Array Oper)(c:Nat)(H:List jS)(x:AV)(H':List jS)(j:Nat)(o:Oper)(σ:jI)(v:AV):Prop:=
 σ.heap=H/\((j=c/\n6 ops o σ=some true/\ ∃f args,lR σ o.op=some (f,args)/\acr P f args H x H')\/
   nI ops c j=true\/
   (j≠c/\ ∃e:tL,e.up=[]/\e.nw=[]/\e.val=v/\uC P ops o σ (fun e'=>e'=e)))
def akL(P:Program)(ops:Array Oper)(c:Nat)(H:List jS)(x:AV)(H':List jS):List Nat->jI->Prop
 |[],_=>True
 |j::rest,σ=> ∃o v,ops[j]? =some o/\ah3 P ops c H x H' j o σ v/\akL P ops c H x H' rest (σ.put o.dst v)
theorem KJ(σ:jI)(d:Option Tmp)(v:AV):(σ.put d v).heap=σ.heap:=by cases d<;>rfl
theorem ap7{v:AV}{y:Operand}(h: ∀t,d=some t->y≠ .tmp t):(σ.put d v).ev y=σ.ev y:=by
 have:=akG (σ:=σ) (dst:=d) (e:={val:=v}) h
 rwa [FD] at this
theorem afd{v:AV}{t:Nat}(h: ∀t',d=some t'->t≠t'):(σ.put d v).slots[t]? =σ.slots[t]? :=by
 have:=Zy (σ:=σ) (dst:=d) (e:={val:=v}) h
 rwa [FD] at this
theorem put_comm {d':Option Tmp}{v v':AV}(h: ∀t,d=some t->d'≠some t):(σ.put d v).put d' v'=(σ.put d' v').put d v:=by
 cases d with
 |none=>cases d'<;>rfl
 |some t=>cases d' with
  |none=>rfl
  |some t'=>
   grind [jI.put,dG]
def ah3.move{v:AV}(h:ah3 P ops c H x H' j o σ v)(hh:σ'.heap=σ.heap)(PJ: ∀y∈o.op.operands,σ'.ev y=σ.ev y)(hw:n6 ops o σ'=n6 ops o σ):ah3 P ops c H x H' j o σ' v:=by
 obtain⟨h0,h⟩:=h;refine⟨hh.trans h0,?_⟩;rcases h with⟨h1,h2,f,args,h3,h4⟩|h1|⟨h1,e,h2,h3,h4,h5⟩
 ·grind [FG]
 ·exact .inr (.inl h1)
 ·exact .inr (.inr ⟨h1,e,h2,h3,h4,h5.local PJ hw (fun _ _=>⟨⟨fun _ _=>by rw[hh],fun _=>by rw[hh]⟩,fun _=>hh⟩)⟩)
def avt(hok:Ez ops=true){i:Nat}: ∀{R:List Nat}{σ:jI},akL P ops c H x H' R σ->i∈R->R.Pairwise (· < ·)->(∀r∈R,r<i->nI ops r i=false)->
 ∃o v,ops[i]? =some o/\ah3 P ops c H x H' i o σ v/\akL P ops c H x H' (R.erase i) (σ.put o.dst v)
 |[],_,_,hi,_,_=>by simp at hi
 |r::R,σ,⟨or',vr,hor,hst,h⟩,hi,X7,ahY=>by
  by_cases e:r=i
  ·grind
  ·have hiR:i∈R:=by
    grind
   rw[cU] at X7;have hri:r<i:=X7.1 i hiR;obtain⟨oi,v,KG,azL,hr⟩:=avt hok h hiR X7.2 (fun q hq hlt=>ahY q (by simp [hq]) hlt);obtain⟨_,hspec⟩:=BT hok;obtain⟨acl,_⟩:=(hspec i oi KG).2 r or' hri hor (ahY r (by simp) hri);obtain⟨a1,a2,a3⟩:=Oper.apart_spec acl;refine⟨oi,v,KG,azL.move (KJ _ _ _).symm (fun y hy=> ?_) (If fun k b d hg hd=> ?_),?_⟩
   ·grind [ap7,Ig]
   ·grind [afd,Mf]
   ·have hne:(r::R).erase i=r::R.erase i:=List.erase_cons_tail (by simpa using e);rw[hne];refine⟨or',vr,hor,hst.move (KJ _ _ _) (fun y hy=> ?_) (If fun k b d hg hd=> ?_),?_⟩
    ·grind [ap7,Ig]
    ·grind [afd,Mf]
    grind [put_comm]
def acs:List Oper->List AV->List AV
 |[],s=>s
 |o::os,s=>acs os (match o.dst with|some d=>s.set d .any|none=>s)
def ah4(ops:Array Oper)(c:Nat):Bool:=(match ops[c]? with|some o=>yI o.op|none=>false)&&
 (cE ops.size).all fun i=>if i<c then nI ops i c else if i=c then true else nI ops c i
def an8{c:Nat}(h:ah4 ops c=true):(∀i,i<c->i<ops.size->nI ops i c=true)/\(∀i,c<i->i<ops.size->nI ops c i=true)/\ ∃o,ops[c]? =some o/\yI o.op=true:=by
 grind [ah4]
def PO(ops:Array Oper)(s:List AV):List AV:=acs ops.toList s
def ZC: ∀(L:List Oper)(s:List AV)(d:Nat)(v:AV),(∃o∈L,o.dst=some d)->acs L (s.set d v)=acs L s
 |[],_,_,_,⟨_,h,_⟩=>by simp at h
 |o::L,s,d,v,h=>by
  simp only[acs];cases hd:o.dst with
  |none=>
   simp only;refine ZC L s d v ?_
   grind
  |some t=>
   simp only;by_cases e:t=d
   ·subst e;rw[List.set_set]
   ·rw[dG _ _ (fun h=>e h.symm)];refine ZC L _ d v ?_
    grind
theorem ah5(ho:ops[i]? =some o)(v:AV):PO ops (σ.put o.dst v).slots=PO ops σ.slots:=by
 cases hd:o.dst with
 |none=>rfl
 |some d=>
  refine ZC _ _ d v ⟨o,?_,hd⟩
  grind
def kf.ap8: ∀{cs:List AV}{vs:List Value}(d:Nat),kf E cs vs->kf E (cs.set d .any) vs
 |[],_,_,h=>h
 |_::_,_,0,⟨v,us,rfl,_,r⟩=>⟨v,us,rfl,trivial,r⟩
 |_::_,_,d+1,⟨v,us,rfl,h1,r⟩=>⟨v,us,rfl,h1,kf.ap8 d r⟩
def ZD{E:Env}: ∀(L:List Oper){cs:List AV}{vs:List Value},kf E cs vs->kf E (acs L cs) vs
 |[],_,_,h=>h
 |o::L,cs,vs,h=>by
  simp only[acs];cases o.dst with
  |none=>exact ZD L h
  |some d=>exact ZD L (kf.ap8 d h)
end
section region
variable {C:o9}
def lQ.PO{φ:Nat->Value}{σ:jI}{a:Act}{w:World}(S:lQ C φ σ a w)(ops:Array Oper):lQ C φ {σ with slots:=PO ops σ.slots} a w:={S with slots:=ZD _ S.slots,defers:=S.defers}
def ap9(hok:Ez ops=true){c:Nat}{s0:List AV}(hQ:Q (.panic x) {slots:=PO ops s0,heap:=H',low,df}):
 ∀(fuel:Nat)(R:List Nat)(listed:Array Bool)(φ:Nat->Value)(σ:jI)(a:Act)(w:World),R.length=fuel->Ya ops R listed->c∈R->
 lQ C φ σ a w->PO ops σ.slots=PO ops s0->σ.low=low->σ.df=df->akL C.P ops c H x H' R σ->wpAnyIn (BS ro) 0 C.P .any ops (QC C Q) fuel listed a w:=by
 obtain⟨_,hspec⟩:=BT hok;intro fuel;induction fuel with
 |zero=>
  grind
 |succ fuel ih=>
  intro R listed φ σ a w hl F hc S hs DL RZ h;have X7:=F.pw;have hsz:=F.sz;have hR:=F.mem;have hnd:R.Nodup:=X7.imp (fun h=>db h);refine⟨?_,?_⟩
  ·intro akJ;exfalso;cases R with
   |nil=>simp at hl
   |cons r R=>
    have hr:=(hR r).1 (by simp);have ho:ops[r]? =some ops[r]:=cD hr.1
    have:r∈Region.ready .any ops listed:=by
     rw[FH listed r hsz]
     grind [cU]
    grind
  ·intro i hi;rw[FH listed i hsz] at hi;obtain⟨hi1,hi2,oi,KG,AR⟩:=hi;have hiR:=(hR i).2 ⟨hi1,hi2⟩
   have acq: ∀r∈R,nI ops r i=false:=by
    intro r hr;cases hq:nI ops r i with
    |false=>rfl
    |true=>
     exfalso;have:=tY hok F.cl KG AR hq
     grind
   obtain⟨o,v,ho,⟨hH,hst⟩,qD⟩:=avt hok h hiR X7 (fun r hr _=>acq r hr);rw[KG] at ho;cases ho;rcases hst with⟨rfl,hw,f,args,aqa,avY⟩|ahY|⟨hne,e,hup,hnw,hval,hS⟩
   ·unfold wpOpIn;simp only[KG];rw[vO S hw];simp only[jD];have tW:=avY σ hH;obtain⟨vs,hrun,hr⟩:=FF S aqa tW.1;refine⟨fun _ _=>trivial,?_⟩;rw[Oper.semAt_eq _ _ _ (IB aqa),hrun,Oper.uponIn_enter];refine⟨fun h=>by simp [BS,ct] at h,ES.2 ?_⟩;refine(tW.2 C φ a w rfl S vs hr).mono fun en w' ⟨o',φ',H2,⟨ho',hH2⟩,S',qE⟩=> ?_
    subst ho' hH2;cases en with
    |returned v=>exact qE.elim
    |panicked chain=>
     obtain⟨u,hu,hr⟩:=qE;refine⟨φ',{slots:=PO ops s0,heap:=H2,low,df},x,u,?_,hQ,hu,hr⟩;have:=S'.PO ops
     grind
    |outgrown=>exact qE.elim
   ·rw[acq c hc] at ahY;cases ahY
   ·refine HB S KG hS ?_;rintro e' φ' v' w' rfl S'
    have azM:σ.app oi.dst e'=σ.put oi.dst v:=by
     rw[show σ.app oi.dst e'=σ.app oi.dst {val:=v} by simp [jI.app,hup,hnw,hval],FD]
    rw[azM] at S';refine ih (R.erase i) _ φ' _ _ w' ?_ (F.next KG AR) ((hnd.mem_erase_iff).2 ⟨fun e=>hne e.symm,hc⟩) S' ?_ ?_ ?_ qD
    ·grind
    ·rw[ah5 KG];exact hs
    ·rw[<-DL];cases oi.dst<;>rfl
    ·rw[<-RZ];cases oi.dst<;>rfl
def akM{id c:Nat}(hm:C.P.follows .mixedOrders=true)(hok:Ez ops=true)(hc:c<ops.size)(h:akL C.P ops c σ.heap x H' (cE ops.size) σ)
 (hQ:Q (.panic x) {σ with slots:=PO ops σ.slots,heap:=H'}) (S:lQ C φ σ a w):(Code.region id ops true).wpIn (BS ro) 0 C.P (QC C Q) a w:=by
 refine wpIn_region_any hm ?_;refine ap9 hok hQ ops.size (cE ops.size) _ φ σ a _ (by simp) ⟨cV,by simp,?_,?_⟩ (by simpa using hc) (S.drew _) rfl rfl rfl h
 all_goals grind [mG]
def afe(P:Program)(ops:Array Oper)(c:Nat)(Q:mc->jI->Prop)(σ:jI):Prop:=
 ∃o f args x H',ops[c]? =some o/\n6 ops o σ=some true/\lR σ o.op=some (f,args)/\acr P f args σ.heap x H'/\Q (.panic x) {σ with slots:=PO ops σ.slots,heap:=H'}
def an9(hok:Ez ops=true){c k:Nat}(hsep:ah4 ops c=true)(hk:ops.size=c+(k+1)):
 ∀(f:Nat)(R:List Nat)(listed:Array Bool)(φ:Nat->Value)(σ:jI)(a:Act)(w:World),R.length+k=f->(∀r∈R,r<c)->Ya ops (R++cH c (k+1)) listed->lQ C φ σ a w->VZ C.P ops (afe C.P ops c Q) R [] σ->wpAnyIn (BS ro) 0 C.P .any ops (QC C Q) (f+1) listed a w:=by
 obtain⟨_,hspec⟩:=BT hok;obtain⟨hb,ha,tW⟩:=an8 hsep;intro f;induction f using Nat.strongRecOn with
 |ind f ih=>
  intro R listed φ σ a w hl hRc F S h;have X7:=F.pw;have hsz:=F.sz;have hR:=F.mem;have axQ:R.Pairwise (· < ·):=(List.pairwise_append.1 X7).1;have hnd:R.Nodup:=axQ.imp (fun h=>db h);have avu:c∈R++cH c (k+1):=da.2 (.inr (by rw[List.mem_range'_1];omega));refine⟨?_,?_⟩
  ·intro akJ;exfalso;generalize R++cH c (k+1)=L at X7 hR avu;cases L with
   |nil=>simp at avu
   |cons r L=>
    have hr:=(hR r).1 (by simp);have ho:ops[r]? =some ops[r]:=cD hr.1
    have:r∈Region.ready .any ops listed:=by
     rw[FH listed r hsz];refine⟨hr.1,hr.2,_,ho,fun d hd=> ?_⟩
     grind [cU]
    grind
  ·intro i hi;rw[FH listed i hsz] at hi;obtain⟨hi1,hi2,oi,KG,AR⟩:=hi;have hiR:=(hR i).2 ⟨hi1,hi2⟩
   have acq: ∀r∈R++cH c (k+1),nI ops r i=false:=by
    intro r hr;cases hq:nI ops r i with
    |false=>rfl
    |true=>
     exfalso;have:=tY hok F.cl KG AR hq
     grind
   rcases da.1 hiR with avZ|hiC
   ·have hno: ∀r∈R,r<i->aa2 ops r i=false:=fun r hr _=>EA (acq r (da.2 (.inl hr))) (by
     cases ht:SO ops r i with
     |false=>rfl
     |true=>
      exfalso;obtain⟨_,_,akI⟩:=BW ht;obtain⟨oc,hoc,hcc⟩:=tW;have h1:=hRc r hr;have h2:=hRc i avZ;rw[vV (akI c oc hoc (by omega) (by omega)).1] at hcc;cases hcc)
    obtain⟨o,E,ho,hst,hE⟩:=ahX hok h avZ axQ hno;have hpos:=List.length_pos_of_mem avZ;obtain⟨f',rfl⟩: ∃f',f=f'+1:=⟨f-1,by omega⟩;refine HB S ho hst ?_;intro e φ' v w' he S';obtain⟨_,qD⟩:=hE e he;refine ih f' (by omega) (R.erase i) _ φ' _ _ w' ?_ (fun r hr=>hRc r (c9 hr)) ?_ S' qD
    ·grind
    ·have:=F.next KG AR
     grind
   ·rw[List.mem_range'_1] at hiC;rcases Nat.eq_or_lt_of_le hiC.1 with e|hlt
    ·subst e
     have hR0:R=[]:=by
      cases R with
      |nil=>rfl
      |cons r R=>
       exfalso;have h1:=acq r (by simp)
       grind
     subst hR0;obtain⟨o,fn,args,x,H',ho,hw,aqa,avY,hQ⟩:afe C.P ops c Q σ:=h;rw[KG] at ho;cases ho;unfold wpOpIn;simp only[KG];rw[vO S hw];simp only[jD];have tW:=avY σ rfl;obtain⟨vs,hrun,hr⟩:=FF S aqa tW.1;refine⟨fun _ _=>trivial,?_⟩;rw[Oper.semAt_eq _ _ _ (IB aqa),hrun,Oper.uponIn_enter];refine⟨fun h=>by simp [BS,ct] at h,ES.2 ?_⟩;refine(tW.2 C φ a w rfl S vs hr).mono fun en w' ⟨o',φ',H2,⟨ho',hH2⟩,S',qE⟩=> ?_
     subst ho' hH2;cases en with
     |returned v=>exact qE.elim
     |panicked chain=>
      obtain⟨u,hu,hr⟩:=qE;exact⟨φ',{σ with slots:=PO ops σ.slots,heap:=H2},x,u,S'.PO ops,hQ,hu,hr⟩
     |outgrown=>exact qE.elim
    grind
def akN{id c:Nat}(hm:C.P.follows .mixedOrders=true)(hok:Ez ops=true)(hc:c<ops.size)(hsep:ah4 ops c=true)(h:VZ C.P ops (afe C.P ops c Q) (cE c) [] σ)
 (S:lQ C φ σ a w):(Code.region id ops true).wpIn (BS ro) 0 C.P (QC C Q) a w:=by
 refine wpIn_region_any hm ?_;obtain⟨k,hk⟩: ∃k,ops.size=c+(k+1):=⟨ops.size-c-1,by omega⟩
 have hall:cE c++cH c (k+1)=cE ops.size:=by
  rw[cx,cx,hk]
  grind
 have hF:Ya ops (cE c++cH c (k+1)) (cn ops.size false):=by
  rw[hall];refine⟨cV,by simp,?_,?_⟩
  all_goals grind [mG]
 have key: ∀w',lQ C φ σ a w'->wpAnyIn (BS ro) 0 C.P .any ops (QC C Q) ops.size (cn ops.size false) a w':=by
  intro w' S';have:=an9 (ro:=ro) (Q:=Q) hok hsep hk (c+k) (cE c) (cn ops.size false) φ σ a w' (by simp) (by simp) hF S' h
  grind
 exact key _ (S.drew _)
def KK(tr:List Tr):Bool:=tr.all fun t=>t.e.up.isEmpty&&t.e.nw.isEmpty
def Oa (P:Program) (ops:Array Oper) (c:Nat):List Oper->Nat->jI->Prop
 |[],_,_=>True
 |o::rest,j,σ=>match nI ops c j with
  |true=>Oa P ops c rest (j+1) (σ.put o.dst (.raw undef))
  |false=>match n6 ops o σ with
   |none=>False
   |some false=>Oa P ops c rest (j+1) (σ.put o.dst (.raw undef))
   |some true=>lR σ o.op=none/\match kI P σ o.op with
    |some e=>(e.pre/\e.up=[]/\e.nw=[])/\Oa P ops c rest (j+1) (σ.put o.dst e.val)
    |none=>False
theorem Ih{P:Program}{c:Nat}{H H':List jS}{x:AV}: ∀(rest:List Oper)(j:Nat)(σ:jI),ops.toList.drop j=rest->c<j->σ.heap=H->Oa P ops c rest j σ->akL P ops c H x H' (cH j rest.length) σ
 |[],_,_,_,_,_,_=>trivial
 |o::rest,j,σ,hd,hcj,hH,h=>by
  have ho:ops[j]? =some o:=by
   have:=congrArg (fun l:List Oper=>l[0]?) hd;simpa using this
  have qD:ops.toList.drop (j+1)=rest:=by
   grind [dy]
  simp only[dm,cY];simp only[Oa] at h;split at h
  ·rename_i hor;exact⟨o,.raw undef,ho,⟨hH,.inr (.inl hor)⟩,Ih rest (j+1) _ qD (by omega) (by rw[KJ];exact hH) h⟩
  ·split at h
   ·exact h.elim
   ·rename_i hw;exact⟨o,.raw undef,ho,⟨hH,.inr (.inr ⟨by omega,{val:= .raw undef},rfl,rfl,rfl,.inl ⟨hw,fun _=>cg⟩⟩)⟩,Ih rest (j+1) _ qD (by omega) (by rw[KJ];exact hH) h⟩
   ·rename_i hw;obtain⟨hc,h⟩:=h;split at h
    ·rename_i e he;obtain⟨⟨hp,hu,hn⟩,h⟩:=h;exact⟨o,e.val,ho,⟨hH,.inr (.inr ⟨by omega,e,hu,hn,rfl,.inr (.inl ⟨hw,hc,e,he,hp,fun _=>cg⟩)⟩)⟩,Ih rest (j+1) _ qD (by omega) (by rw[KJ];exact hH) h⟩
    ·exact h.elim
end region
def mc.then(next:jI->Prop)(Q:mc->jI->Prop):mc->jI->Prop
 | .normal,σ=>next σ
 |e,σ=>Q e σ
def mc.inBlock(id:Nat)(Q:mc->jI->Prop):mc->jI->Prop
 | .exit id',σ=>if id'=id then Q .normal σ else Q (.exit id') σ
 |e,σ=>Q e σ
def mc.noGoto(Q:mc->jI->Prop):mc->jI->Prop
 | .goto _,_=>False
 |e,σ=>Q e σ
def tL.idle(e:tL):Bool:=e.rd.isEmpty&&e.up.isEmpty&&e.nw.isEmpty&& !e.whole
def HE(tr:List Tr)(j n:Nat)(e:tL):List Tr:=bif e.idle then tr else tr++[⟨j,n,e⟩]
def PP(ops:Array Oper)(tr:List Tr)(j:Nat)(e:tL):Prop:=e.idle=true\/Ad ops tr j e=true
def Yb (P:Program) (ops:Array Oper) (Q:mc->jI->Prop):List Oper->Nat->List Tr->jI->Prop
 |[],_,_,σ=>Q .normal σ
 |o::rest,j,tr,σ=>match n6 ops o σ with
  |none=>False
  |some b=>(b=true->match lR σ o.op with
    |some (f,args)=>(∃r,GP P f args (fun v=>v=r)/\Yb P ops Q rest (j+1) tr (σ.put o.dst r))\/
      (∃e,IC P f args σ e/\PP ops tr j e/\Yb P ops Q rest (j+1) (HE tr j σ.heap.length e) (σ.app o.dst e))\/
      ∃x H',acr P f args σ.heap x H'/\(ah4 ops j=true\/(KK tr=true/\Oa P ops j rest (j+1) (σ.put o.dst (.raw undef))))/\Q (.panic x) {σ with slots:=PO ops σ.slots,heap:=H'}
    |none=>match kI P σ o.op with
     |some e=>e.pre/\PP ops tr j e/\Yb P ops Q rest (j+1) (HE tr j σ.heap.length e) (σ.app o.dst e)
     |none=>False)/\
   (b=false->Yb P ops Q rest (j+1) tr (σ.put o.dst (.raw undef)))
def aqb(P:Program)(g:Operand)(ps:Array Tmp)(as body:Code)(Q:mc->jI->Prop)(σ:jI):Prop:=
 ∀(C:o9)(φ:Nat->Value)(a:Act)(w:World),C.P=P->lQ C φ σ a w->(Code.rangeFunc g ps as body).wpIn (BS none) 0 P (QC C Q) a w
def uD:Code->Bool
 | .region _ ops _=>ops.toList.all fun o=> !amY o.op
 | .seq x y=>uD x&&uD y
 | .cond _ x y=>uD x&&uD y
 | .block _ x=>uD x
 | .loop x=>uD x
 | .scope x=>uD x
 | .rangeFunc _ _ _ _=>false
 |_=>true
def awp(P:Program):Code->(mc->jI->Prop)->jI->Prop
 | .skip,Q,σ=>Q .normal σ
 | .region _ ops false,Q,σ=>MU P ops ops.toList Q σ
 | .region _ ops true,Q,σ=>(P.follows .mixedOrders=true/\Ez ops=true)/\Yb P ops Q ops.toList 0 [] σ
 | .seq x y,Q,σ=>awp P x (mc.then (fun σ1=> ∃σ2,FE σ1 σ2/\awp P y Q σ2) Q) σ
 | .cond c x y,Q,σ=>match σ.ev c with
   | .bool b=>(b=true->awp P x Q σ)/\(b=false->awp P y Q σ)
   |_=>False
 | .block id x,Q,σ=>awp P x (mc.inBlock id Q) σ
 | .loop x,Q,σ=> ∃(I:Nat->jI->Prop)(n:Nat)(σ':jI),FE σ σ'/\I n σ'/\
     ∀n σ,I n σ->awp P x (mc.then (fun σ1=> ∃n' σ',n'<n/\FE σ1 σ'/\I n' σ') Q) σ
 | .exit id,Q,σ=>Q (.exit id) σ
 | .scope x,Q,σ=>awp P x (mc.noGoto Q) σ
 | .label _,Q,σ=>Q .normal σ
 | .ret,Q,σ=>Q .ret σ
 | .goto _,_,_=>False
 | .rangeFunc g ps as body,Q,σ=>aqb P g ps as body Q σ
 | .refuse _,_,_=>False
theorem Yc{t:Tr}{e:tL}(h:e.idle=true):yJ t e=true:=by
 grind [tL.idle,yJ,ET]
theorem ZE{t:Tr}{e:tL}(h:t.e.idle=true):yJ t e=true:=by
 grind [tL.idle,yJ,ET]
def aaA{e:tL}(h:KK (HE tr j n e)=true):KK tr=true/\e.up=[]/\e.nw=[]:=by
 grind [HE,tL.idle,KK]
def asH(P:Program)(ops:Array Oper)(Q:mc->jI->Prop)(j m:Nat)(tr:List Tr)(σ:jI):Prop:=
 KK tr=true/\ ∃c x H',j<=c/\c<j+m/\akL P ops c σ.heap x H' (cH j m) σ/\Q (.panic x) {σ with slots:=PO ops σ.slots,heap:=H'}
theorem asH.step {tr':List Tr}{v:AV}(ho:ops[j]? =some o)(ht:KK tr'=true->KK tr=true/\ ∃e:tL,e.up=[]/\e.nw=[]/\e.val=v/\uC P ops o σ (fun e'=>e'=e))
 (h:asH P ops Q (j+1) m tr' (σ.put o.dst v)):asH P ops Q j (m+1) tr σ:=by
 obtain⟨h1,c,x,H',h2,h3,h4,h5⟩:=h;obtain⟨k1,k2⟩:=ht h1;refine⟨k1,c,x,H',by omega,by omega,?_,?_⟩
 ·rw[cY];rw[KJ] at h4;exact⟨o,v,ho,⟨rfl,.inr (.inr ⟨by omega,k2⟩)⟩,h4⟩
 ·rw[ah5 ho] at h5;cases hd:o.dst<;>rw[hd] at h5<;>exact h5
theorem ah6{e:tL}(hu:e.up=[])(hn:e.nw=[]):σ.app d e=σ.put d e.val:=by
 rw[show σ.app d e=σ.app d {val:=e.val,rd:=e.rd,pre:=e.pre} by simp [jI.app,hu,hn]];exact FD _ _ _ _ _
def SU(P:Program)(ops:Array Oper)(Q:mc->jI->Prop)(j n:Nat)(tr:List Tr)(σ:jI):Prop:=
 ∃m K,VZ P ops K (cH j m) tr σ/\((m=n/\K=Q .normal)\/(m<n/\ah4 ops (j+m)=true/\K=afe P ops (j+m) Q))
theorem SU.step{e:tL}(ho:ops[j]? =some o)(hst:uC P ops o σ (fun e'=>e'=e))(hc:Ad ops tr j e=true)
 (h:SU P ops Q (j+1) n (tr++[⟨j,σ.heap.length,e⟩]) (σ.app o.dst e)):SU P ops Q j (n+1) tr σ:=by
 obtain⟨m,K,h,hK⟩:=h;refine⟨m+1,K,?_,?_⟩
 ·rw[cY];exact⟨o,_,ho,hst,fun e' he=>by subst he;exact⟨hc,h⟩⟩
 grind
def DM{P:Program}{ops:Array Oper}{Q:mc->jI->Prop}: ∀(rest:List Oper)(j:Nat)(tr tr':List Tr)(σ:jI),ops.toList.drop j=rest->(∀t∈tr',t∈tr\/t.e.idle=true)->
 Yb P ops Q rest j tr σ->SU P ops Q j rest.length tr' σ\/asH P ops Q j rest.length tr σ
 |[],_,_,_,_,_,_,h=> .inl ⟨0,Q .normal,h,.inl ⟨rfl,rfl⟩⟩
 |o::rest,j,tr,tr',σ,hd,htr,h=>by
  have ho:ops[j]? =some o:=by
   have:=congrArg (fun l:List Oper=>l[0]?) hd;simpa using this
  have qD:ops.toList.drop (j+1)=rest:=by
   grind [dy]
  have am1: ∀e,PP ops tr j e->Ad ops tr' j e=true:=by
   intro e he;unfold Ad;rw[List.all_eq_true];intro t ht;rcases he with he|he
   all_goals grind [Yc,Ad,ZE]
  have avv: ∀n e,∀t∈tr'++[⟨j,n,e⟩],t∈HE tr j n e\/t.e.idle=true:=by
   grind [HE]
  have aAA: ∀x:AV,({val:=x}:tL).idle=true:=fun _=>rfl
  have aqc: ∀n x,∀t∈tr'++[⟨j,n,{val:=x}⟩],t∈tr\/t.e.idle=true:=by
   grind
  simp only[Yb] at h;simp only[dm];split at h
  ·exact h.elim
  ·rename_i b hb;cases b with
   |false=>
    have hst:uC P ops o σ (fun e=>e={val:= .raw undef}):= .inl ⟨hb,fun _=>cg⟩;rcases DM rest (j+1) tr (tr'++[⟨j,σ.heap.length,{val:= .raw undef}⟩]) _ qD (aqc _ _) (h.2 rfl) with hl|hr
    ·exact .inl (SU.step ho hst (am1 _ (.inl rfl)) (by rw[FD];exact hl))
    ·exact .inr (hr.step ho fun ht=>⟨ht,_,rfl,rfl,rfl,hst⟩)
   |true=>
    have h:=h.1 rfl;split at h
    ·rename_i f args hc;rcases h with⟨r,hf,hK⟩|⟨e,hf,hcp,hK⟩|⟨x,H',hp,hsp|⟨ht,hri⟩,hQ⟩
     ·have hst:uC P ops o σ (fun e=>e={val:=r}):= .inr (.inr (.inl ⟨hb,f,args,_,hc,hf,⟨r,rfl⟩,fun e=>⟨fun he=>⟨r,rfl,he⟩,fun ⟨r',h1,h2⟩=>by rw[h2,h1]⟩⟩));rcases DM rest (j+1) tr (tr'++[⟨j,σ.heap.length,{val:=r}⟩]) _ qD (aqc _ _) hK with hl|hr
      ·exact .inl (SU.step ho hst (am1 _ (.inl rfl)) (by rw[FD];exact hl))
      ·exact .inr (hr.step ho fun ht=>⟨ht,_,rfl,rfl,rfl,hst⟩)
     ·have hst:uC P ops o σ (fun e'=>e'=e):= .inr (.inr (.inr ⟨hb,f,args,e,hc,hf,fun _=>cg⟩));rcases DM rest (j+1) _ (tr'++[⟨j,σ.heap.length,e⟩]) _ qD (avv _ _) hK with hl|hr
      ·grind [SU.step]
      ·right;have ht:=hr.1;obtain⟨t1,t2,t3⟩:=aaA ht;rw[ah6 t2 t3] at hr;exact hr.step ho fun _=>⟨t1,e,t2,t3,rfl,hst⟩
     ·exact .inl ⟨0,afe P ops j Q,(⟨o,f,args,x,H',ho,hb,hc,hp,hQ⟩:afe P ops j Q σ),.inr ⟨by omega,hsp,rfl⟩⟩
     ·right;refine⟨ht,j,x,H',cm _,by omega,?_,hQ⟩;rw[cY];refine⟨o,.raw undef,ho,⟨rfl,.inl ⟨rfl,hb,f,args,hc,hp⟩⟩,?_⟩
      grind [Ih,KJ]
    ·rename_i hc;split at h
     ·rename_i e he;have hst:uC P ops o σ (fun e'=>e'=e):= .inr (.inl ⟨hb,hc,e,he,h.1,fun _=>cg⟩);rcases DM rest (j+1) _ (tr'++[⟨j,σ.heap.length,e⟩]) _ qD (avv _ _) h.2.2 with hl|hr
      ·grind [SU.step]
      ·right;have ht:=hr.1;obtain⟨t1,t2,t3⟩:=aaA ht;rw[ah6 t2 t3] at hr;exact hr.step ho fun _=>⟨t1,e,t2,t3,rfl,hst⟩
     ·exact h.elim
section sound
variable {C:o9}
def am2{next:jI->Prop}{avw:Act->World->Prop}(h: ∀φ σ a w,lQ C φ σ a w->next σ->avw a w){e:Exit}
 (hq:QC C (mc.then next Q) e a w):Exit.then avw (QC C Q) e a w:=by
 cases e with
 |normal=>obtain⟨φ,σ,S,hn⟩:=hq;exact h φ σ a w S hn
 |exit id=>exact hq
 |goto l=>exact hq
 |ret=>exact hq
 |panic chain=>exact hq
 |outgrown=>exact hq
def akO{id:Nat}{e:Exit}(hq:QC C (mc.inBlock id Q) e a w):Exit.inBlock id (QC C Q) e a w:=by
 cases e with
 |exit id'=>
  obtain⟨φ,σ,S,h⟩:=hq;simp only[mc.inBlock] at h;simp only[Exit.inBlock];split at h
  ·rename_i e;rw[if_pos e];exact⟨φ,σ,S,h⟩
  ·rename_i e;rw[if_neg e];exact⟨φ,σ,S,h⟩
 |normal=>exact hq
 |goto l=>exact hq
 |ret=>exact hq
 |panic chain=>exact hq
 |outgrown=>exact hq
def aoa{e:Exit}(hq:QC C (mc.noGoto Q) e a w):Exit.noGoto (QC C Q) e a w:=by
 cases e with
 |goto l=>obtain⟨φ,σ,S,h⟩:=hq;exact h.elim
 |normal=>exact hq
 |exit id=>exact hq
 |ret=>exact hq
 |panic chain=>exact hq
 |outgrown=>exact hq
def aga{Q:Exit->Act->World->Prop}(I:Nat->Act->World->Prop)(n₀:Nat)(h₀:I n₀ a w)
 (round: ∀m a w,I m a w->c.wpIn F n P (Exit.then (fun a' w'=> ∃m',m'<m/\I m' a' w') Q) a w):(Code.loop c).wpIn F n P Q a w:=by
 refine wpIn_loop (fun a w=> ∃m,I m a w) (fun a w=>leastOf (fun m=>I m a w)) ⟨n₀,h₀⟩ ?_;intro a w hI;refine wpIn_mono (round _ a w (leastOf_spec hI).1) ?_;intro e a' w' hq;cases e with
 |normal=>
  obtain⟨m',hlt,hI'⟩:=hq;exact⟨⟨m',hI'⟩,Nat.lt_of_le_of_lt ((leastOf_spec ⟨m',hI'⟩).2 m' hI') hlt⟩
 |exit id=>exact hq
 |goto l=>exact hq
 |ret=>exact hq
 |panic chain=>exact hq
 |outgrown=>exact hq
def EV{b:Frame}:step P (lone (b.atR a (.code (.scope c)::k)) cs w)= .next (lone (b.atR a (.code c:: .inScope c::k)) cs w):=
 step_lone_go (by simp [stepG,stepG.exec,Frame.atR])
def ad4{b:Frame}:step P (lone (b.atR a (.inScope c::k)) cs w)= .next (lone (b.atR a k) cs w):=
 step_lone_go (by simp [stepG,stepG.exec,Frame.atR])
def ZF{Q:Exit->Act->World->Prop}(h:c.wpIn F n P (Exit.noGoto Q) a w):(Code.scope c).wpIn F n P Q a w:=by
 intro b k cs hro hb hr;have h0:(lone (b.atR a (.code (.scope c)::k)) cs w).fenced P F:=fenced_calm (fr:=b.atR a (.code (.scope c)::k)) hb hr rfl;obtain⟨e,a₁,w₁,hq,ad5⟩:=h b (.inScope c::k) cs hro hb hr;cases e with
 |normal=>exact⟨.normal,a₁,w₁,hq,.head h0 EV (StepsIn.trans ad5 (.one (fenced_calm (fr:=b.atR a₁ (.inScope c::k)) hb hr rfl) ad4))⟩
 |exit id=>
  have hx:exitTo id (.inScope c::k)=exitTo id k:=by simp [exitTo]
  exact⟨.exit id,a₁,w₁,hq,fun k' hk=> .head h0 EV (ad5.1 k' (by rw[hx];exact hk)),
   fun hr' hk=>let ⟨k₁,h1,h2⟩:=ad5.2 hr' (by rw[hx];exact hk);⟨k₁,h1,.head h0 EV h2⟩⟩
 |goto l=>exact hq.elim
 |ret=>exact⟨.ret,a₁,w₁,hq,.of_steps (.one h0 EV) ad5⟩
 |panic ch=>exact⟨_,a₁,w₁,hq,.of_steps (.one h0 EV) ad5⟩
 |outgrown=>exact⟨_,a₁,w₁,hq,.of_steps (.one h0 EV) ad5⟩
def uE{ro:Option Nat}: ∀(c:Code)(Q:mc->jI->Prop)(φ:Nat->Value)(σ:jI)(a:Act)(w:World),(ro=none\/uD c=true)->awp C.P c Q σ->lQ C φ σ a w->c.wpIn (BS ro) 0 C.P (QC C Q) a w
 | .skip,Q,φ,σ,a,w,_,h,S=>wpIn_skip ⟨φ,σ,S,h⟩
 | .region id ops false,Q,φ,σ,a,w,hn,h,S=>by
   have:=XY (ro:=ro) rfl ops.toList 0 hn (by simp) φ σ a w h S
   grind [wpIn_region,cx]
 | .region id ops true,Q,φ,σ,a,w,_,h,S=>by
   obtain⟨⟨hm,hok⟩,h⟩:=h;rcases DM ops.toList 0 [] [] σ (by simp) (by simp) h with⟨m,K,this,⟨hm',rfl⟩|⟨hm',hsp,rfl⟩⟩|⟨_,c,x,H',_,hc,hI,hQ⟩
   ·refine akK hm hok ?_ S
    grind [cx]
   ·rw[Nat.zero_add] at this hsp;exact akN hm hok (by simpa using hm') hsp (by rw[cx];exact this) S
   ·refine akM (c:=c) (x:=x) (H':=H') hm hok (by simpa using hc) ?_ hQ S
    grind [cx]
 | .seq x y,Q,φ,σ,a,w,hn,h,S=>
   wpIn_seq (wpIn_mono (uE x _ φ σ a w (hn.imp id fun h=>(cj _ _ ▸ h:uD x=true/\uD y=true).1) h S) fun _ _ _ hq=>am2 (fun φ' σ' a' w' S' h'=>by
    obtain⟨σ2,Dr,h2⟩:=h';obtain⟨φ2,S2⟩:=Dr C φ' a' w' S';exact uE y Q φ2 σ2 a' w' (hn.imp id fun h=>(cj _ _ ▸ h:uD x=true/\uD y=true).2) h2 S2) hq)
 | .cond c x y,Q,φ,σ,a,w,hn,h,S=>by
   simp only[awp] at h;have hc:=S.ev c;split at h
   ·rename_i b hb;rw[hb] at hc;simp only[nr] at hc;refine wpIn_cond hc ?_;cases b with
    |true=>exact uE x Q φ σ a w (hn.imp id fun h=>(cj _ _ ▸ h:uD x=true/\uD y=true).1) (h.1 rfl) S
    |false=>exact uE y Q φ σ a w (hn.imp id fun h=>(cj _ _ ▸ h:uD x=true/\uD y=true).2) (h.2 rfl) S
   ·exact h.elim
 | .block id x,Q,φ,σ,a,w,hn,h,S=>wpIn_block (wpIn_mono (uE x _ φ σ a w hn h S) fun _ _ _ hq=>akO hq)
 | .loop x,Q,φ,σ,a,w,hn,h,S=>by
   obtain⟨I,n,σ',Dr,hI,av0⟩:=h;obtain⟨φ',S'⟩:=Dr C φ a w S;refine aga (fun n a w=> ∃φ σ,I n σ/\lQ C φ σ a w) n ⟨φ',σ',hI,S'⟩ ?_;rintro n a w ⟨φ,σ,hI,S⟩;refine wpIn_mono (uE x _ φ σ a w hn (av0 n σ hI) S) fun _ _ _ hq=>am2 ?_ hq
   rintro φ1 σ1 a1 w1 S1 ⟨n',σ2,hlt,Dr,hI'⟩;obtain⟨φ2,S2⟩:=Dr C φ1 a1 w1 S1
   grind
 | .exit id,Q,φ,σ,a,w,_,h,S=>wpIn_exit ⟨φ,σ,S,h⟩
 | .scope x,Q,φ,σ,a,w,hn,h,S=>ZF (wpIn_mono (uE x _ φ σ a w hn h S) fun _ _ _ hq=>aoa hq)
 | .label l,Q,φ,σ,a,w,_,h,S=>wpIn_label ⟨φ,σ,S,h⟩
 | .ret,Q,φ,σ,a,w,_,h,S=>wpIn_ret ⟨φ,σ,S,h⟩
 | .goto l,Q,φ,σ,a,w,_,h,S=>h.elim
 | .rangeFunc f p x y,Q,φ,σ,a,w,hn,h,S=>by
   rcases hn with rfl|hn
   ·exact h C φ a w rfl S
   ·cases hn
 | .refuse s,Q,φ,σ,a,w,_,h,S=>h.elim
def lQ.Yd{ds:List Deferred}(S:lQ C φ σ {tmps,defers:=⟨.collected D,#[]⟩::ds} w):
 w.heap[D]? =some (.deferred (some []))/\lQ C φ σ {tmps,defers:=ds} (w.putObj D (.deferred none)):=by
 obtain⟨hnd,hall,hrd⟩:=S.defers;have hmk:XR (⟨.collected D,#[]⟩:Deferred)=true:=rfl;simp only[dn,hmk,jD,Bool.not_true,dh,if_false] at hnd hrd;obtain⟨D',hD,h1,h2,h3⟩:=hall _ (cO) rfl;simp only[Deferred.mk.injEq,Target.collected.injEq,and_true] at hD;subst hD;refine⟨h1,?_⟩;have Ey: ∀b,b≠D->(w.putObj D (.deferred none)).heap[b]? =w.heap[b]? :=fun b hb=>World.putObj_heap_other hb
 have hcell: ∀b o,(w.putObj D (.deferred none)).cell? ⟨b,o,none⟩=w.cell? ⟨b,o,none⟩:=by
  grind [World.cell?,World.putObj_heap_same]
 have le:(C.env φ σ.heap w).Le σ.heap.length (C.env φ σ.heap (w.putObj D (.deferred none))):=
  o9.z8 (cm _) (fun _ _=>⟨rfl,rfl⟩) (fun b o u hm hc=>⟨hm,by rw[hcell];exact hc⟩)
 have Aa:qh C φ σ.heap (w.putObj D (.deferred none)) σ.df ds:=by
  rw[dw] at hnd;refine⟨hnd.2,fun d hd hm=> ?_,hrd.mono le⟩
  grind
 refine {slots:=kf.mono le _ _ (kf.nb _ _ S.slots) S.slots,defers:=Aa,mV:= ?_,apart:=S.apart,rz:=S.rz,size:=by grind [World.putObj_size],old:=fun b o hb hm=>by rw[hcell];exact S.old b o hb hm,mF:= ?_,Bi:=S.Bi,tX:= ?_,rest:=S.rest,low:=S.low,names:=S.names}
 ·intro l x hx;exact mN.mono (S.mV l x hx) le (fun b hb=>Ey b (fun e=>by subst e;exact h3 l x hx hb))
 ·intro b hb hm;rw[Ey b (by omega)];exact S.mF b hb hm
 ·intro x hx;rw[<-S.tX x hx]
  grind [World.frozen?]
def lQ.marks{fn:Func}{R:Ending->World->Prop}{tm:Array Value}(hu:u≠ .run)(RZ:σ.df=[]): ∀(ds:List Deferred)(w:World),lQ C φ σ {tmps,defers:=ds} w->
 (∀w',lQ C φ σ {tmps,defers:=[]} w'->LeavesIn ct 0 C.P fn tm R [] u w')->LeavesInM ct 0 C.P fn tm R ds u w
 |[],w,S,h=>h w S
 |d::ds,w,S,h=>by
  have hm:XR d=true:=by
   have:=S.defers.2.2;rw[RZ] at this;have ZG:(d::ds).filter (fun d=> !XR d)=[]:=this;rw[List.filter_eq_nil_iff] at ZG;simpa using ZG d (cO)
  obtain⟨D,hD,_⟩:=S.defers.2.1 d (cO) hm;subst hD;obtain⟨h1,S'⟩:=S.Yd;exact⟨hu,.inl ⟨D,_,rfl,run_takeDeferred h1,lQ.marks hu RZ ds _ S' h⟩⟩
end sound
def acu (P:Program) (σ:jI):ResultVar->Option AV
 | .tmp t=>some (σ.slots.getD t .any)
 | .cell d t=>match oF P t,σ.slots.getD d .any with
   |some (g,n),.ptr l off=>match σ.heap[l]? with
    |some (.cells cs)=>lG g n (cs.drop off)
    |_=>none
   |_,_=>none
def w6(P:Program)(σ:jI):List ResultVar->Option (List AV)
 |[]=>some []
 |r::rs=>match acu P σ r,w6 P σ rs with
  |some x,some xs=>some (x::xs)
  |_,_=>none
def JQ(P:Program)(σ:jI)(rs:List ResultVar):Option AV:=
 match w6 P σ rs with
 |some [x]=>some x
 |some xs=>some (.EQ xs)
 |none=>none
section results
variable {C:o9}
def agb(S:lQ C φ σ a w){r:ResultVar}(h:acu C.P σ r=some x):
 ∃v,(match r with| .tmp t=>pure (a.tmps.getD t undef)| .cell d t=>(do loadVar t (<-asAddr (a.tmps.getD d undef))):Sem Value).run C.P w= .ok v w/\nr (C.env φ σ.heap w) x v:=by
 cases r with
 |tmp t=>
  simp only[acu,cc] at h;subst h;exact⟨_,rfl,S.ev (.tmp t)⟩
 |cell d t=>
  simp only[acu] at h;have hd:=S.ev (.tmp d);simp only[jI.ev] at hd;split at h
  ·rename_i g n l off ht hp;rw[hp] at hd;split at h
   ·rename_i cs hl;obtain⟨u,hu,ru⟩:=ahO S ht hl h hd;obtain⟨_,b,_,hv⟩:=hd;refine⟨u,?_,ru⟩;have hv':a.tmps.getD d undef= .pointer (some ⟨b,off,none⟩):=hv
    grind [asAddr,Instr.loadAt,Instr.sureAddr]
   ·cases h
  ·cases h
def WE(S:lQ C φ σ a w): ∀{rs:List ResultVar}{xs:List AV},w6 C.P σ rs=some xs->
 ∃vs:List Value,(rs.mapM fun| .tmp t=>pure (a.tmps.getD t undef)| .cell d t=>(do loadVar t (<-asAddr (a.tmps.getD d undef))):Sem (List Value)).run C.P w= .ok vs w/\kf (C.env φ σ.heap w) xs vs
 |[],_,h=>by simp only[w6,cc] at h;subst h;exact⟨[],rfl,rfl⟩
 |r::rs,xs,h=>by
  simp only[w6] at h;split at h
  ·rename_i x ys h1 h2;cases h;obtain⟨v,hv,rv⟩:=agb S h1;obtain⟨vs,hvs,rvs⟩:=WE S h2;refine⟨v::vs,?_,v,vs,rfl,rv,rvs⟩
   simp_all
  ·cases h
def IE(S:lQ C φ σ a w){fn:Func}(h:JQ C.P σ fn.results.toList=some x): ∃v,(results fn a.tmps).run C.P w= .ok v w/\nr (C.env φ σ.heap w) x v:=by
 unfold JQ at h
 have key: ∀xs,w6 C.P σ fn.results.toList=some xs-> ∃vs:List Value,(results fn a.tmps).run C.P w= .ok (if hh:vs.toArray.size=1 then vs.toArray[0] else .tuple vs.toArray) w/\kf (C.env φ σ.heap w) xs vs:=by
  intro xs hx;obtain⟨vs,hvs,rvs⟩:=WE S hx;refine⟨vs,?_,rvs⟩;unfold results;rw[Array.mapM_eq_mapM_toList];simp only[Sem.run_bind,Sem.run_map,Sem.run_pure];generalize hq:Sem.run C.P (List.mapM _ fn.results.toList) w=q;have hq':q= .ok vs w:=by rw[<-hq];exact hvs
  subst hq';simp
 split at h
 ·grind [kf]
 ·rename_i xs hne hx;cases h;obtain⟨vs,hv,rl⟩:=key _ hx;refine⟨_,hv,?_⟩;have hlen:=rl.length
  have hn1: ¬ vs.toArray.size=1:=by
   intro h1;have h2:xs.length=1:=by simp at h1;omega
   match xs,h2 with
   |[y],_=>exact hne y rfl
  rw[dif_neg hn1];exact⟨vs.toArray,rfl,rl⟩
 ·cases h
end results
def abQ{V:AV->Prop}(h:GP P f args' V)(hs:qi args args')(hn:uB 0 args):GP P f args V:=by
 obtain⟨he,_,hc⟩:=h;exact⟨he,hn,fun C φ w hP h0 hN hM vs hr=>hc C φ w hP h0 hN hM vs (hs _ _ hr)⟩
def aob(V:AV->Prop)(H:List jS):Option AV->Prop
 |some x=>(frz 0 H x).nb 0/\ ∃r,Sub (frz 0 H x) r/\V r
 |none=>False
def asI(P:Program)(rs:List ResultVar)(V:AV->Prop):mc->jI->Prop
 | .normal,σ=>σ.df=[]/\aob V σ.heap (JQ P σ rs)
 | .ret,σ=>σ.df=[]/\aob V σ.heap (JQ P σ rs)
 |_,_=>False
def ah7{fn:Func}{V:AV->Prop}(hf:P.funcs[f]? =some fn)(hb:fn.body=some c)(hne:(fn.name != "runtime.NumGoroutine")=true)(hnb:uB 0 args)
 (h:awp P c (asI P fn.results.toList V) {slots:=args++cq (fn.ntmps-args.length) .any,heap:=[]}):GP P f args V:=by
 refine⟨?_,hnb,fun C φ w hP h0 hN hM vs hr=> ?_⟩
 ·grind [enters]
 ·subst hP;refine(callsIn_wide (n:=0)).1 (callsIn_of_wp_marks hf hb trivial ?_);have hsz:vs.size=args.length:=by have:=hr.length;simpa using this
  have S:lQ C φ {slots:=args++cq (fn.ntmps-args.length) .any,heap:=[]} {tmps:=vs++cn (fn.ntmps-vs.size) undef,defers:=[]} w:=by
   refine {slots:= ?_,defers:=qh.nil,mV:=by simp,apart:=by simp,rz:=by simp,size:=by rw[h0];exact cm _,old:=fun b o _ _=>by rw[h0],mF:=fun b _ _=>by rw[h0],Bi:=by simp,tX:=fun x _=>by rw[h0],rest:=by rw[h0];exact⟨rfl,rfl⟩,low:=⟨hN,cm _⟩,names:=fun l hl=>by grind};simp only[cT,cW];refine hr.append ?_;rw[hsz];have:=kf.Be (E:=C.env φ [] w) (cq (fn.ntmps-args.length) undef);simpa using this
  refine wpIn_mono (uE (ro:=none) c _ φ _ _ w (.inl rfl) h S) ?_;intro e a' w' hq
  have fin: ∀φ' σ',lQ C φ' σ' a' w'->σ'.df=[]/\aob V σ'.heap (JQ C.P σ' fn.results.toList)->
   LeavesInM ct 0 C.P fn a'.tmps (fun e w'=> ∃r v φ',V r/\e= .returned v/\nr (C.env φ' [] w') r v/\w.heap.size<=w'.heap.size/\(∀b,b<w.heap.size->w'.heap[b]? =w.heap[b]?)/\
    (∀x,x.block<w.heap.size->w'.frozen? x=w.frozen? x)/\w'.output=w.output/\w'.os=w.os) a'.defers .returning w':=by
   intro φ' σ' S' ⟨RZ,hend⟩;refine lQ.marks (by simp) RZ _ _ S' (fun w' S'=> ?_);cases hx:JQ C.P σ' fn.results.toList with
   |none=>rw[hx] at hend;exact hend.elim
   |some x=>
   rw[hx] at hend;obtain⟨hn,r0,hsub,hV⟩:=hend;obtain⟨v,hv,rv⟩:=IE S' hx;refine⟨v,hv,_,v,φ',hV,rfl,hsub _ _ (by have:=ZA S' (S'.avs (by rw[<-S'.low.1];exact hN)) x v;rw[<-S'.low.1,hN] at this;exact this hn rv),?_,?_,?_,?_⟩
   ·rw[<-h0];exact S'.size
   ·intro b hb;rw[<-h0];exact S'.mF b (by rw[h0];exact hb) (fun o=>hM b o)
   ·intro y hy;rw[<-h0];exact S'.tX y (by rw[h0];exact hy)
   ·rw[<-h0];exact S'.rest
  cases e with
  |normal=>obtain⟨φ',σ',S',hq⟩:=hq;exact fin φ' σ' S' hq
  |ret=>obtain⟨φ',σ',S',hq⟩:=hq;exact fin φ' σ' S' hq
  |exit id=>obtain⟨_,_,_,hq⟩:=hq;exact hq.elim
  |goto l=>obtain⟨_,_,_,hq⟩:=hq;exact hq.elim
  |panic chain=>obtain⟨_,_,_,_,_,hq,_⟩:=hq;exact hq.elim
  |outgrown=>exact hq.elim
section co

def Co1.sub(h:Sub x y)(hn:y.nb n):Co1 H n x y:= .inl ⟨h,hn⟩
def Co.any:Co H n x .any:= .inl (.inl ⟨Sub.any _,trivial⟩)
def Co.same(h:x.nb n):Co H n x x:= .inl (.inl ⟨Sub.refl _,h⟩)
def Co.sub(h:Sub x y)(hn:y.nb n):Co H n x y:= .inl (.inl ⟨h,hn⟩)
theorem BB.nil:BB H n [] []:=rfl
theorem BB.cons(h:Co H n x y)(hs:BB H n xs ys):BB H n (x::xs) (y::ys):=⟨y,ys,rfl,h,hs⟩
theorem CoH.nil{xs:List jS}:CoH H n xs []:=by cases xs<;>trivial
def BB.same(h:uB n xs):BB H n xs xs:=by
 induction xs with
 |nil=>rfl
 |cons x xs ih=>exact BB.cons (Co.same h.1) (ih h.2)
end co
def Ye{X:AV}(h:GP P f args' (fun r=>r=X))(hs:BB σ.heap n args args'):ya P f args σ (fun o H=>o= .ret X/\H=σ.heap):=by
 obtain⟨he,hc⟩:=XZ (σ:=σ) (K:=fun o H=>o= .ret X/\H=σ.heap) h (fun r hr=>⟨by rw[hr],rfl⟩);exact⟨he,fun C φ a w hP S vs hr=>hc C φ a w hP S vs (BB.azI S hs hr)⟩
def stP:Option Code->LoopState
 |none=> .ready
 |some _=> .done
theorem agc(c:Option Code):stP c≠ .busy:=by cases c<;>simp [stP]
section
variable {C:o9}
def lQ.aqd(S:lQ C φ σ a w)(k:u5)(rec:Loop)(hs:kf (C.env φ σ.heap w) slots rec.tmps.toList)
 (RY:rec.params=k.ps/\rec.assign=k.assign/\rec.body=k.body/\rec.state= .ready/\rec.pending=none/\rec.defers=w.heap.size):
 lQ C (fun l=>if l=σ.heap.length then .func (.yield (w.heap.size+1)) #[] #[] else φ l) {σ with heap:=σ.heap++[.loop k slots .ready 0]} a ((w.alloc (.deferred (some []))).alloc (.loop rec)):=by
 let φ':Nat->Value:=fun l=>if l=σ.heap.length then .func (.yield (w.heap.size+1)) #[] #[] else φ l
 let w':=(w.alloc (.deferred (some []))).alloc (.loop rec)
 have hφ: ∀l,l<σ.heap.length->φ' l=φ l:=fun l hl=>by grind
 have hφn:φ' σ.heap.length= .func (.yield (w.heap.size+1)) #[] #[]:=by simp [φ']
 have hsz:w'.heap.size=w.heap.size+2:=by
  show(World.more (World.more w _) _).heap.size=_;rw[Kw,Kw]
 have hold: ∀b,b<w.heap.size->w'.heap[b]? =w.heap[b]? :=by
  intro b hb;show(World.more (World.more w _) _).heap[b]? =_
  grind [vT]
 have hD:w'.heap[w.heap.size]? =some (.deferred (some [])):=by
  show(World.more (World.more w _) _).heap[_]? =_
  grind [World.more]
 have hL:w'.heap[w.heap.size+1]? =some (.loop rec):=by
  have:=FC (World.more w (.deferred (some []))) (.loop rec);rw[Kw] at this;exact this
 have mH: ∀(l:Nat)(x:jS),(σ.heap++[.loop k slots .ready 0])[l]? =some x->(l<σ.heap.length/\σ.heap[l]? =some x)\/(l=σ.heap.length/\x= .loop k slots .ready 0):=by
  grind
 have hcell: ∀b o,b<w.heap.size->w'.cell? ⟨b,o,none⟩=w.cell? ⟨b,o,none⟩:=by
  grind [World.cell?]
 have hnb: ∀b,(jS.loop k slots .ready 0).block (φ' σ.heap.length) b->w.heap.size<=b:=by
  intro b hb;rw[hφn] at hb;rcases hb with rfl|hb<;>omega
 have Jr: ∀b o,Dq φ' (σ.heap++[.loop k slots .ready 0]) b o->w.heap.size<=b\/Dq φ σ.heap b o:=by
  rintro b o ⟨l,x,hx,hm⟩;rcases mH l x hx with⟨hl,hx⟩|⟨rfl,rfl⟩
  ·rw[hφ l hl] at hm;exact .inr ⟨l,x,hx,hm⟩
  grind [jS.mK]
 have le:(C.env φ σ.heap w).Le σ.heap.length (C.env φ' (σ.heap++[.loop k slots .ready 0]) w'):=by
  refine o9.z8 (by simp) (fun l hl=>⟨hφ l hl,by rw[cG hl]⟩) (fun b i u hm hc=> ?_)
  grind [El]
 have Aa:qh C φ' (σ.heap++[.loop k slots .ready 0]) w' σ.df a.defers:=by
  refine S.defers.step le (fun b hb _=>hold b hb) (fun l x b hx hb=> ?_)
  grind
 refine {slots:=kf.mono le _ _ (kf.nb _ _ S.slots) S.slots,defers:=Aa,mV:= ?_,apart:= ?_,rz:= ?_,size:=by show _<=w'.heap.size;have:=S.size;omega,old:= ?_,mF:= ?_,Bi:= ?_,tX:= ?_,rest:=S.rest,low:=⟨S.low.1,by have:=S.low.2;simp;omega⟩,names:= ?_}
 ·intro l x hx;show mN _ x (φ' l);rcases mH l x hx with⟨hl,hx⟩|⟨rfl,rfl⟩
  ·have r0:=S.mV l x hx;rw[hφ l hl];exact mN.mono r0 le (fun b hb=>hold b (r0.py hb))
  ·rw[hφn];exact⟨w.heap.size,rec,rfl,hL,hD,RY,kf.mono le _ _ (kf.nb _ _ hs) hs⟩
 ·intro l l' x x' b hx hx' hb hb';have hb:x.block (φ' l) b:=hb;have hb':x'.block (φ' l') b:=hb';rcases mH l x hx with⟨hl,hx⟩|⟨rfl,rfl⟩<;>rcases mH l' x' hx' with⟨Kc,hx'⟩|⟨rfl,rfl⟩
  ·rw[hφ l hl] at hb;rw[hφ l' Kc] at hb';exact S.apart l l' x x' b hx hx' hb hb'
  ·rw[hφ l hl] at hb;have h1:=(S.mV l x hx).py hb
   grind [o9.env]
  ·rw[hφ l' Kc] at hb';have h1:=(S.mV l' x' hx').py hb'
   grind [o9.env]
  ·rfl
 ·intro l x b o hx hb;have hb:x.block (φ' l) b:=hb;rcases mH l x hx with⟨hl,hx⟩|⟨rfl,rfl⟩
  ·rw[hφ l hl] at hb;exact S.rz l x b o hx hb
  ·intro hA;have h1:=C.hA _ _ hA;have h2:=hnb b hb;have:=S.size;omega
 ·intro b i hb hm;rw[hcell b i (cf hb S.size)];exact S.old b i hb hm
 ·intro b hb hm;rw[hold b (cf hb S.size)];exact S.mF b hb hm
 ·intro l x b o hx hm hb;have hm:x.w5 (φ' l) b o:=hm;rcases mH l x hx with⟨hl,hx⟩|⟨rfl,rfl⟩
  ·rw[hφ l hl] at hm;exact S.Bi l x b o hx hm hb
  ·have h2:=hnb b (jS.mK hm);have:=S.size;omega
 ·intro x hx;have h1:=tg (World.more w (.deferred (some []))) (.loop rec) (by intro c t lo hi h;cases h) x;have h2:=tg w (.deferred (some [])) (by intro c t lo hi h;cases h) x;exact(h1.trans h2).trans (S.tX x hx)
 ·intro l hl;have hlt:l<σ.heap.length:=by have:=S.low;omega
  have:=S.names l hl
  grind
def lQ.agd(S:lQ C φ σ a w){k:u5}{st st':LoopState}{IF:Int}{rec:Loop}(hl:σ.heap[l]? =some (.loop k slots st qP))(hφ:φ l= .func (.yield (D+1)) #[] #[])
 (hw:w.heap[D+1]? =some (.loop rec)):lQ C φ {σ with heap:=σ.heap.set l (.loop k slots st' IF)} a (w.putObj (D+1) (.loop {rec with state:=st',pending:=om k.js IF})):=by
 have hlt:l<σ.heap.length:=(b9.1 hl).1;have apV:=(di.1 hw).1
 have mH: ∀(j:Nat)(x:jS),(σ.heap.set l (.loop k slots st' IF))[j]? =some x->(j=l/\x= .loop k slots st' IF)\/(j≠l/\σ.heap[j]? =some x):=by
  grind
 have hbb:(jS.loop k slots st qP).block (φ l) (D+1):=by rw[hφ];exact .inl rfl
 have hmb: ∀o,(jS.loop k slots st qP).w5 (φ l) (D+1) o:=by intro o;rw[hφ];exact .inl rfl
 have Ey: ∀b,b≠D+1->(w.putObj (D+1) (.loop {rec with state:=st',pending:=om k.js IF})).heap[b]? =w.heap[b]? :=fun b hb=>World.putObj_heap_other hb
 have hcell: ∀b o,(w.putObj (D+1) (.loop {rec with state:=st',pending:=om k.js IF})).cell? ⟨b,o,none⟩=w.cell? ⟨b,o,none⟩:=by
  grind [World.cell?,World.putObj_heap_same]
 have Hw: ∀b,(jS.loop k slots st' IF).block (φ l) b->(jS.loop k slots st qP).block (φ l) b:=by intro b hb;rw[hφ] at hb ⊢;exact hb
 have ahN: ∀b o,(jS.loop k slots st' IF).w5 (φ l) b o->(jS.loop k slots st qP).w5 (φ l) b o:=by intro b o hb;rw[hφ] at hb ⊢;exact hb
 have Jr: ∀b o,Dq φ (σ.heap.set l (.loop k slots st' IF)) b o->Dq φ σ.heap b o:=by
  rintro b o ⟨j,x,hx,hm⟩;rcases mH j x hx with⟨rfl,rfl⟩|⟨_,hx⟩
  ·exact⟨j,_,hl,ahN b o hm⟩
  ·exact⟨j,x,hx,hm⟩
 have hlen: ∀j:Nat,lr (σ.heap.set l (.loop k slots st' IF))[j]? =lr σ.heap[j]? :=by
  intro j;by_cases e:j=l
  ·subst e;rw[dx hlt,hl];rfl
  grind
 have le:(C.env φ σ.heap w).Le σ.heap.length (C.env φ (σ.heap.set l (.loop k slots st' IF)) (w.putObj (D+1) (.loop {rec with state:=st',pending:=om k.js IF}))):=
  o9.z8 (by simp) (fun j _=>⟨rfl,hlen j⟩) (fun b o u hm hc=>⟨fun h=>hm (h.imp (Jr b o) id),by rw[hcell];exact hc⟩)
 have Aa:qh C φ (σ.heap.set l (.loop k slots st' IF)) (w.putObj (D+1) (.loop {rec with state:=st',pending:=om k.js IF})) σ.df a.defers:=by
  refine S.defers.step le (fun b _ hno=>Ey b (fun e=>by subst e;exact hno l _ hl hbb)) (fun j x b hx hb=> ?_)
  grind
 refine {slots:=kf.mono le _ _ (kf.nb _ _ S.slots) S.slots,defers:=Aa,mV:= ?_,apart:= ?_,rz:= ?_,size:=by rw[World.putObj_size];exact S.size,old:=fun b o hb hm=>by rw[hcell];exact S.old b o hb hm,mF:= ?_,Bi:= ?_,tX:= ?_,rest:=S.rest,low:=⟨S.low.1,by simpa using S.low.2⟩,names:= ?_}
 ·intro j x hx;rcases mH j x hx with⟨rfl,rfl⟩|⟨hne,hx⟩
  ·obtain⟨D',SV,e1,g1,g2,g3,rl⟩:=S.mV j _ hl;rw[hφ] at e1;simp only[cZ,Fn.yield.injEq,cJ,and_true] at e1;subst e1
   have hwr:SV=rec:=by
    have g1:w.heap[D+1]? =some (.loop SV):=g1;rw[hw] at g1;cases g1;rfl
   subst hwr;refine⟨D,_,hφ,World.putObj_heap_same apV,?_,⟨g3.1,g3.2.1,g3.2.2.1,rfl,rfl,g3.2.2.2.2.2⟩,kf.mono le _ _ (kf.nb _ _ rl) rl⟩;show(w.putObj (D+1) _).heap[D]? =_;rw[Ey D (by omega)];exact g2
  ·exact mN.mono (S.mV j x hx) le (fun b hb=>Ey b (fun e=>by subst e;exact hne (S.apart j l x _ (D+1) hx hl hb hbb)))
 ·intro j j' x x' b hx hx' hb hb';rcases mH j x hx with⟨rfl,rfl⟩|⟨hne,hx1⟩<;>rcases mH j' x' hx' with⟨e2,rfl⟩|⟨akz,LM⟩
  ·exact e2.symm
  ·exact S.apart j j' _ x' b hl LM (Hw b hb) hb'
  ·rw[e2] at hb' ⊢;exact S.apart j l x _ b hx1 hl hb (Hw b hb')
  ·exact S.apart j j' x x' b hx1 LM hb hb'
 ·intro j x b o hx hb;rcases mH j x hx with⟨rfl,rfl⟩|⟨_,hx⟩
  ·exact S.rz j _ b o hl (Hw b hb)
  ·exact S.rz j x b o hx hb
 ·intro b hb hm;rw[Ey b (fun e=>by subst e;exact hm 0 (S.Bi l _ (D+1) 0 hl (hmb 0) hb))];exact S.mF b hb hm
 ·intro j x b o hx hm hb;rcases mH j x hx with⟨rfl,rfl⟩|⟨_,hx⟩
  ·exact S.Bi j _ b o hl (ahN b o hm) hb
  ·exact S.Bi j x b o hx hm hb
 ·intro x hx;rw[<-S.tX x hx]
  grind [World.frozen?,World.putObj_heap_same]
 ·intro j hj;have:=S.names j hj;rw[hlen j];exact this
def lQ.endLoop(S:lQ C φ σ a w){k:u5}{st:LoopState}(hl:σ.heap[l]? =some (.loop k slots st qP))(hφ:φ l= .func (.yield (D+1)) #[] #[])(hD:C.w0.heap.size<=D):
 lQ C φ {σ with heap:=σ.heap.set l .dead} {a with defers:=⟨.collected D,#[]⟩::a.defers} w:=by
 have hlt:l<σ.heap.length:=(b9.1 hl).1;have DL:C.N0<=l\/l<C.N0:=by omega
 have axR: ∀b o,Dq φ (σ.heap.set l .dead) b o->Dq φ σ.heap b o:=by
  rintro b o ⟨j,x,hx,hm⟩;by_cases e:j=l
  ·grind [jS.w5]
  ·rw[dD (fun h=>e h.symm)] at hx;exact⟨j,x,hx,hm⟩
 have mH: ∀(j:Nat)(x:jS),(σ.heap.set l .dead)[j]? =some x->(j=l/\x= .dead)\/(j≠l/\σ.heap[j]? =some x):=by
  grind
 have hlen: ∀j:Nat,lr (σ.heap.set l .dead)[j]? =lr σ.heap[j]? :=by
  intro j;by_cases e:j=l
  ·subst e;rw[dx hlt,hl];rfl
  grind
 have le:(C.env φ σ.heap w).Le σ.heap.length (C.env φ (σ.heap.set l .dead) w):=
  o9.z8 (by simp) (fun j _=>⟨rfl,hlen j⟩) (fun b o u hm hc=>⟨fun h=>hm (h.imp (axR b o) id),hc⟩)
 have hbD:(jS.loop k slots st qP).block (φ l) D:=by rw[hφ];exact .inr rfl
 have Aa:qh C φ (σ.heap.set l .dead) w σ.df (⟨.collected D,#[]⟩::a.defers):=by
  obtain⟨hnd,hall,hrd⟩:=S.defers;have hmk:XR (⟨.collected D,#[]⟩:Deferred)=true:=rfl;refine⟨?_,fun d hd hm=> ?_,?_⟩
  ·grind
  ·rcases cX.1 hd with rfl|hd
   ·refine⟨D,rfl,?_,hD,fun j x hx hb=> ?_⟩
    ·obtain⟨D',SV,e1,g1,g2,_⟩:=S.mV l _ hl;rw[hφ] at e1;simp only[cZ,Fn.yield.injEq,cJ,and_true] at e1;subst e1;exact g2
    ·rcases mH j x hx with⟨rfl,rfl⟩|⟨hne,hx⟩
     ·simp [jS.block] at hb
     ·exact hne (S.apart j l x _ D hx hl hb hbD)
   grind [jS.block]
  ·simp only[dn,hmk,Bool.not_true,dh,if_false];exact hrd.mono le
 refine {slots:=kf.mono le _ _ (kf.nb _ _ S.slots) S.slots,defers:=Aa,mV:= ?_,apart:= ?_,rz:= ?_,size:=S.size,old:=S.old,mF:=S.mF,Bi:= ?_,tX:=S.tX,rest:=S.rest,low:=⟨S.low.1,by simpa using S.low.2⟩,names:= ?_}
 ·intro j x hx;rcases mH j x hx with⟨rfl,rfl⟩|⟨_,hx⟩
  ·trivial
  ·exact mN.mono (S.mV j x hx) le (fun _ _=>rfl)
 ·intro j j' x x' b hx hx' hb hb';rcases mH j x hx with⟨rfl,rfl⟩|⟨_,hx⟩
  ·simp [jS.block] at hb
  ·rcases mH j' x' hx' with⟨rfl,rfl⟩|⟨_,hx'⟩
   ·simp [jS.block] at hb'
   ·exact S.apart j j' x x' b hx hx' hb hb'
 ·intro j x b o hx hb;rcases mH j x hx with⟨rfl,rfl⟩|⟨_,hx⟩
  ·simp [jS.block] at hb
  ·exact S.rz j x b o hx hb
 ·intro j x b o hx hm hb;rcases mH j x hx with⟨rfl,rfl⟩|⟨_,hx⟩
  ·simp [jS.w5] at hm
  ·exact S.Bi j x b o hx hm hb
 ·intro j hj;have:=S.names j hj;rw[hlen j];exact this
def axS(Q:mc->jI->Prop)(σ:jI):Option Code->Prop
 |none=>Q .normal σ
 |some .ret=>Q .ret σ
 |some (.exit id)=>Q (.exit id) σ
 |_=>False
def ah8 {as:Code}{js:List (Int×Code)}{cap:List AV}(hg:σ.ev g= .func (.func f) first cap)
 (tW:ya P f (first++[.map σ.heap.length]++cap) {σ with slots:=σ.slots++[.map σ.heap.length],heap:=σ.heap++[.loop ⟨ps,as,body,js⟩ σ.slots .ready 0]}
   (fun o H'=> ∃r k s qP,o= .ret r/\H'[σ.heap.length]? =some (.loop k s (stP (om k.js qP)) qP)/\axS Q {σ with heap:=H'.set σ.heap.length .dead} (om k.js qP))):aqb P g ps as body Q σ:=by
 intro C φ a w hP S;subst hP;refine wpIn_rangeFunc ?_;intro fn _;have hx:=S.ev g;rw[hg] at hx;obtain⟨f',c',hx,rf,rc⟩:=hx
 let lp:Loop:={state:= .ready,pending:=none,fn,tmps:=a.tmps,params:=ps,assign:=as,body,defers:=w.heap.size}
 let w1:=(w.alloc (.deferred (some []))).alloc (.loop lp)
 let Y:Value:= .func (.yield (w.heap.size+1)) #[] #[]
 have S1:=S.aqd ⟨ps,as,body,js⟩ lp S.slots ⟨rfl,rfl,rfl,rfl,rfl,rfl⟩
 have rY:nr (C.env (fun l=>if l=σ.heap.length then Y else φ l) (σ.heap++[.loop ⟨ps,as,body,js⟩ σ.slots .ready 0]) w1) (.map σ.heap.length) Y:=by
  refine⟨by simp [o9.env],by simp [o9.env,Y],w.heap.size+1,?_⟩;simp [o9.env,Y,hdl]
 have S2:lQ C (fun l=>if l=σ.heap.length then Y else φ l) {σ with slots:=σ.slots++[.map σ.heap.length],heap:=σ.heap++[.loop ⟨ps,as,body,js⟩ σ.slots .ready 0]} {a with tmps:=a.tmps.push Y} w1:=by
  refine {S1 with slots:= ?_,defers:=S1.defers};simp only[cC];exact S1.slots.append ⟨Y,[],rfl,rY,rfl⟩
 have hle:(C.env φ σ.heap w).Le σ.heap.length (C.env (fun l=>if l=σ.heap.length then Y else φ l) (σ.heap++[.loop ⟨ps,as,body,js⟩ σ.slots .ready 0]) w1):=by
  refine o9.z8 (by simp) (fun l hl=>⟨by rw[if_neg (by omega)],by rw[cG hl]⟩) (fun b i u hm hc=> ?_);have hb:=El hc
  have hold:w1.heap[b]? =w.heap[b]? :=by
   show(World.more (World.more w _) _).heap[b]? =_
   grind [World.more]
  refine⟨fun h=> ?_,by grind [World.cell?]⟩;rcases h with⟨l,x,hx,hm'⟩|h
  ·by_cases hl:l<σ.heap.length
   ·rw[cG hl] at hx;have hm':x.w5 (if l=σ.heap.length then Y else φ l) b i:=hm';rw[if_neg (by omega)] at hm';exact hm (.inl ⟨l,x,hx,hm'⟩)
   ·have Kc:l=σ.heap.length:=by
     grind
    subst Kc;simp at hx;subst hx;have hm':(jS.loop ⟨ps,as,body,js⟩ σ.slots .ready 0).w5 (if σ.heap.length=σ.heap.length then Y else φ σ.heap.length) b i:=hm';rw[if_pos rfl] at hm';rcases hm' with rfl|h<;>omega
  ·exact hm (.inr h)
 have hargs:kf (C.env (fun l=>if l=σ.heap.length then Y else φ l) (σ.heap++[.loop ⟨ps,as,body,js⟩ σ.slots .ready 0]) w1) (first++[.map σ.heap.length]++cap) (f'++ #[Y]++c').toList:=by
  have hY:kf (C.env (fun l=>if l=σ.heap.length then Y else φ l) (σ.heap++[.loop ⟨ps,as,body,js⟩ σ.slots .ready 0]) w1) [.map σ.heap.length] [Y]:=⟨Y,[],rfl,rY,rfl⟩;simp only[cT];exact((kf.mono hle _ _ (kf.nb _ _ rf) rf).append hY).append (kf.mono hle _ _ (kf.nb _ _ rc) rc)
 obtain⟨he,hc⟩:=tW
 have hbody: ∃fnc,C.P.funcs[f]? =some fnc/\fnc.name≠ "runtime.NumGoroutine" /\fnc.body≠none:=by
  grind [enters]
 obtain⟨fnc,hf,hname,hnone⟩:=hbody;refine⟨w.heap.size+1,[⟨.collected w.heap.size,#[]⟩],w1,{target:= .fn (.func f) c',args:=f'++ #[Y]},w1,f,f'++ #[Y]++c',w1,?_,?_,fun _ _=>trivial,?_,fun h=>by simp [BS,ct] at h,?_⟩
 ·exact run_enterLoop_outer _ _ _ _ _
 ·have PJ:a.eval g= .func (.func f) f' c':=hx;have hY2:a.eval (.const Y)=Y:=rfl;simp [resolve,PJ,Deferred.ofValue];rfl
 ·simp [invoke,callFunc,hf,hname,hnone]
 ·refine ES.2 ((hc C _ _ w1 rfl S2 _ hargs).mono ?_);rintro e w' ⟨o,φ2,H',⟨r,k,s,qP,rfl,hH,hj⟩,S3,qE⟩;cases e with
  |panicked chain=>exact qE.elim
  |outgrown=>exact qE.elim
  |returned v=>
   have aqe:φ2 σ.heap.length=Y:=by
    have XQ:=S3.slots;have hlen:a.tmps.toList.length=σ.slots.length:=S.slots.length;have:=XQ.drop σ.slots.length;simp only[cC] at this;rw[cN rfl,cN hlen] at this;obtain⟨u,us,he2,r1,_⟩:=this;simp only[dc] at he2;obtain⟨rfl,_⟩:=he2;exact r1.2.1.symm
   have S4:lQ C φ2 {σ with heap:=H'} a w':=by
    have XQ:=S3.slots;have hlen:a.tmps.toList.length=σ.slots.length:=S.slots.length;have:=XQ.take σ.slots.length;simp only[cC] at this;rw[cM rfl,cM hlen] at this;exact {S3 with slots:=this,defers:=S3.defers}
   obtain⟨D,SV,e1,g1,g2,g3,_⟩:=S4.mV _ _ hH;rw[aqe] at e1;simp only[Y,cZ,Fn.yield.injEq,cJ,and_true] at e1;subst e1;have g1:w'.heap[w.heap.size+1]? =some (.loop SV):=g1;have hend:=run_endLoop (P:=C.P) g1 (by grind [agc]);rw[g3.2.2.2.2.1] at hend;refine⟨om k.js qP,_,hend,?_⟩
   have S5:lQ C φ2 {σ with heap:=H'.set σ.heap.length .dead} {a with defers:=⟨.collected w.heap.size,#[]⟩::a.defers} (w'.putObj (w.heap.size+1) (.loop {SV with state:= .exhausted,pending:=om k.js qP})):=by
    have h5:=S4.agd (st':= .exhausted) (IF:=qP) hH aqe g1
    have h6:=h5.endLoop (l:=σ.heap.length) (D:=w.heap.size) (k:=k) (slots:=s) (st:= .exhausted) (qP:=qP) (by
     grind) aqe S.size
    simp_all
   generalize om k.js qP=pc at*;cases pc with
   |none=>exact⟨φ2,_,S5,hj⟩
   |some c=>
    cases c with
    |ret=>exact wpIn_ret ⟨φ2,_,S5,hj⟩
    |exit id=>exact wpIn_exit ⟨φ2,_,S5,hj⟩
    |_=>exact hj.elim
end
inductive CO where
 |ret (e:tL)
 |pan (x:AV) (H:List jS)
structure kD(R:Type) where
 P:Program
 body:Code
 cl:FuncId->List AV->List jS->Option (AV×List jS)
 cd:FuncId->List AV->Option AV
 sx:List Nat->jI->Option jI
 cut:List Nat->jI->Option jI
 n:Nat
 out:jI->Option R
 cy:Nat->List AV->List jS->Option (AV×List jS):=fun _ _ _=>none
 nE:mc->jI->Option R:=fun _ _=>none
 js:List Nat->List (Int×Code):=fun _=>[]
 yd:FuncId->Bool:=fun _=>false
 ce:FuncId->List AV->List jS->Option tL:=fun _ _ _=>none
 wL:FuncId->Bool:=fun _=>false
 cp:FuncId->List AV->List jS->Option (sv×List jS):=fun _ _ _=>none
 yb:FuncId->Bool:=fun _=>false
 co:FuncId->List AV->List jS->Option CO:=fun _ _ _=>none
 nB:AV->jI->Option R:=fun _ _=>none
def lU(p:Prop)(x:Option R):Option R:= @ite _ p (Classical.propDecidable p) x none
theorem lv{p:Prop}{x:Option R}{r:R}:lU p x=some r↔p/\x=some r:=by
 grind [lU]
def akP{x:Option R}:lU True x=x:=by simp [lU]
theorem Vy{p q:Prop}{x:Option R}:lU (p/\q) x=lU p (lU q x):=by
 grind [lU]
def aff{p:Prop}[Decidable p]{x:Option R}:lU p x=bif decide p then x else none:=by
 grind [lU]
def acv(x:Operand)(b:Bool)(σ:jI):jI:=
 match x with
 | .tmp t=>{σ with slots:=σ.slots.set t (.bool b)}
 |_=>σ
def am3{x:Operand}(h:σ.ev x= .bool b):acv x b σ=σ:=by
 cases x with
 |tmp t=>
  simp only[jI.ev,List.getD] at h;cases hg:σ.slots[t]? with
  |none=>rw[hg] at h;simp at h
  |some v=>
   rw[hg] at h;simp only[dj] at h;subst h;obtain⟨hlt,he⟩:=b9.1 hg;simp only[acv];rw[<-he,dz]
 |_=>rfl
def sw(ops:Array Oper)(o:Oper)(b:Bool)(σ:jI):jI:=
 match o.guard with
 |none=>σ
 |some (j,want)=>match (ops[j]?).bind (·.dst) with
  |some d=>match σ.slots[d]? with
   |some (.bool _)=>{σ with slots:=σ.slots.set d (.bool (b==want))}
   |_=>σ
  |none=>σ
def age(h:n6 ops o σ=some b):sw ops o b σ=σ:=by
 unfold n6 at h;unfold sw;split
 ·rfl
 ·rename_i j want hg;simp only[hg] at h;split
  ·rename_i d hd;simp only[hd] at h;split
   ·rename_i c hc;simp only[hc,cc] at h;have:(b==want)=c:=by subst h;cases c<;>cases want<;>rfl
    rw[this];obtain⟨hlt,he⟩:=b9.1 hc;rw[<-he,dz]
   ·rfl
  ·rfl
section

def sj (M:kD R) (ops:Array Oper):List Oper->jI->Option (mc×jI)
 |[],σ=>some (.normal,σ)
 |o::rest,σ=>match n6 ops o σ with
  |none=>none
  |some b=>bif b then (match lR (sw ops o true σ) o.op with
    |some (f,args)=>bif M.wL f then(match M.cp f args (sw ops o true σ).heap with
      |some (.ret r,H')=>sj M ops rest (jI.put {sw ops o true σ with heap:=H'} o.dst r)
      |some (.panic x,H')=>some (.panic x,{sw ops o true σ with heap:=H'})
      |none=>none)
     else match M.cl f args (sw ops o true σ).heap with
     |some (r,H')=>sj M ops rest (jI.put {sw ops o true σ with heap:=H'} o.dst r)
     |none=>none
    |none=>match yieldOf (sw ops o true σ) o.op with
     |some (l,args)=>match M.cy l args (sw ops o true σ).heap with
      |some (r,H')=>sj M ops rest (jI.put {sw ops o true σ with heap:=H'} o.dst r)
      |none=>none
     |none=>match kI M.P (sw ops o true σ) o.op with
      |some e=>lU e.pre (sj M ops rest ((sw ops o true σ).app o.dst e))
      |none=>match CN (sw ops o true σ) o.op with
       |some p=>sj M ops rest ((sw ops o true σ).dfr p o.dst)
       |none=>match N5 (sw ops o true σ) o.op with
        |some x=>some (.panic x,sw ops o true σ)
        |none=>none)
   else sj M ops rest ((sw ops o false σ).put o.dst (.raw undef))
def FI (M:kD R) (ops:Array Oper):List Oper->Nat->List Tr->jI->Option (mc×jI)
 |[],_,_,σ=>some (.normal,σ)
 |o::rest,j,tr,σ=>match n6 ops o σ with
  |none=>none
  |some b=>bif b then(match lR (sw ops o true σ) o.op with
    |some (f,args)=>bif M.yb f then(match M.co f args (sw ops o true σ).heap with
      |some (.ret e)=>lU (e.pre/\PP ops tr j e) (FI M ops rest (j+1) (HE tr j (sw ops o true σ).heap.length e) ((sw ops o true σ).app o.dst e))
      |some (.pan x H')=>lU (ah4 ops j=true\/(KK tr=true/\Oa M.P ops j rest (j+1) ((sw ops o true σ).put o.dst (.raw undef)))) (some (.panic x,{sw ops o true σ with slots:=PO ops (sw ops o true σ).slots,heap:=H'}))
      |none=>none)
     else bif M.yd f then(match M.ce f args (sw ops o true σ).heap with
      |some e=>lU (e.pre/\PP ops tr j e) (FI M ops rest (j+1) (HE tr j (sw ops o true σ).heap.length e) ((sw ops o true σ).app o.dst e))
      |none=>none)
     else match M.cd f args with
     |some r=>FI M ops rest (j+1) tr ((sw ops o true σ).put o.dst r)
     |none=>none
    |none=>match kI M.P (sw ops o true σ) o.op with
     |some e=>lU (e.pre/\PP ops tr j e) (FI M ops rest (j+1) (HE tr j (sw ops o true σ).heap.length e) ((sw ops o true σ).app o.dst e))
     |none=>none)
   else FI M ops rest (j+1) tr ((sw ops o false σ).put o.dst (.raw undef))
def lqN(sx:jI->Option jI)(body:jI->Option (mc×jI)):Nat->jI->Option (mc×jI)
 |0,_=>none
 |m+1,σ=>match body σ with
  |some (.normal,σ')=>(sx σ').bind (lqN sx body m)
  |r=>r
def ah9(σ:jI):Option Code->Option (mc×jI)
 |none=>some (.normal,σ)
 |some .ret=>some (.ret,σ)
 |some (.exit id)=>some (.exit id,σ)
 |_=>none
def asJ(σ:jI)(H':List jS):Option jS->Option (mc×jI)
 |some (.loop lk _ st qP)=>lU (st=stP (om lk.js qP)) (ah9 {σ with heap:=H'.set σ.heap.length .dead} (om lk.js qP))
 |_=>none
def aqf(M:kD R)(lk:u5)(σ:jI):AV->Option (mc×jI)
 | .func (.func f) first cap=>match M.cl f (first++[.map σ.heap.length]++cap) (σ.heap++[.loop lk σ.slots .ready 0]) with
   |some (_,H')=>asJ σ H' H'[σ.heap.length]?
   |none=>none
 |_=>none
def exec(M:kD R):Code->List Nat->jI->Option (mc×jI)
 | .skip,_,σ=>some (.normal,σ)
 | .region _ ops false,_,σ=>sj M ops ops.toList σ
 | .region _ ops true,_,σ=>lU (M.P.follows .mixedOrders=true/\Ez ops=true) (FI M ops ops.toList 0 [] σ)
 | .seq x y,p,σ=>match exec M x (0::p) σ with
   |some (.normal,σ')=>(M.cut (1::p) σ').bind (exec M y (1::p))
   |r=>r
 | .cond c x y,p,σ=>match σ.ev c with
   | .bool b=>bif b then exec M x (0::p) (acv c true σ) else exec M y (1::p) (acv c false σ)
   |_=>none
 | .block id x,p,σ=>match exec M x (0::p) σ with
   |some (.exit id',σ')=>if id'=id then some (.normal,σ') else some (.exit id',σ')
   |r=>r
 | .loop x,p,σ=>(M.sx p σ).bind (lqN (M.sx p) (exec M x (0::p)) M.n)
 | .exit id,_,σ=>some (.exit id,σ)
 | .scope x,p,σ=>exec M x (0::p) σ
 | .label _,_,σ=>some (.normal,σ)
 | .ret,_,σ=>some (.ret,σ)
 | .goto _,_,_=>none
 | .rangeFunc g ps as body,p,σ=>aqf M ⟨ps,as,body,M.js p⟩ σ (σ.ev g)
 | .refuse _,_,_=>none
structure Good(M:kD R):Prop where
 cl: ∀f args σ r H',M.cl f args σ.heap=some (r,H')->ya M.P f args σ (fun o BC=>o= .ret r/\BC=H')
 cd: ∀f args r,M.cd f args=some r->GP M.P f args (fun v=>v=r)
 sx: ∀p σ σ',M.sx p σ=some σ'->FE σ σ'
 cut: ∀p σ σ',M.cut p σ=some σ'->FE σ σ'
 cy: ∀l args σ r H',M.cy l args σ.heap=some (r,H')->HA M.P l args σ (fun o BC=>o= .ret r/\BC=H')
 ce: ∀f args σ e,M.ce f args σ.heap=some e->IC M.P f args σ e
 cp: ∀f args σ o H',M.cp f args σ.heap=some (o,H')->ya M.P f args σ (fun o' BC=>o'=o/\BC=H')
 co: ∀f args σ,(∀e,M.co f args σ.heap=some (.ret e)->IC M.P f args σ e)/\ ∀x H',M.co f args σ.heap=some (.pan x H')->acr M.P f args σ.heap x H'
def vn: ∀(f:FuncId)(args:List AV)(σ:jI)(o:sv)(H':List jS),(fun _ _ _=>none:FuncId->List AV->List jS->Option (sv×List jS)) f args σ.heap=some (o,H')->ya P f args σ (fun o' BC=>o'=o/\BC=H'):=by
 intro f args σ o H' h;cases h
def u1: ∀(f:FuncId)(args:List AV)(σ:jI),(∀e,(fun _ _ _=>none:FuncId->List AV->List jS->Option CO) f args σ.heap=some (.ret e)->IC P f args σ e)/\ ∀x H',(fun _ _ _=>none:FuncId->List AV->List jS->Option CO) f args σ.heap=some (.pan x H')->acr P f args σ.heap x H':=by
 grind
def ya.mono {K':sv->List jS->Prop}(h:ya P f args σ K)(hk: ∀o H,K o H->K' o H):ya P f args σ K':=by
 obtain⟨he,hc⟩:=h;refine⟨he,fun C φ a w hP S vs hr=>(hc C φ a w hP S vs hr).mono ?_⟩
 grind
def HA.mono {K':sv->List jS->Prop}(h:HA P l args σ K)(hk: ∀o H,K o H->K' o H):HA P l args σ K':=by
 obtain⟨he,hc⟩:=h;refine⟨he,fun C φ a w hP S vs hr D rec h1 h2=>(hc C φ a w hP S vs hr D rec h1 h2).mono ?_⟩
 grind
def uh: ∀(l:Nat)(args:List AV)(σ:jI)(r:AV)(H':List jS),(fun _ _ _=>none:Nat->List AV->List jS->Option (AV×List jS)) l args σ.heap=some (r,H')->HA P l args σ (fun o BC=>o= .ret r/\BC=H'):=by
 intro l args σ r H' h;cases h
def xH {M:kD R} (G:Good M) {ops:Array Oper} {Q:mc->jI->Prop}: ∀ (rest:List Oper) (σ σ':jI) (e:mc),sj M ops rest σ=some (e,σ')->Q e σ'->MU M.P ops rest Q σ
 |[],σ,σ',e,h,hq=>by simp only[sj,cc,ck] at h;obtain⟨rfl,rfl⟩:=h;exact hq
 |o::rest,σ,σ',en,h,hq=>by
  simp only[sj] at h;simp only[MU];cases hw:n6 ops o σ with
  |none=>simp only[hw] at h;cases h
  |some b=>
   simp only[hw] at h;have hg:=age hw;cases b with
   |false=>
    refine⟨fun h=>(by cases h),fun _=> ?_⟩;simp only[jv,hg] at h;exact xH G rest _ σ' _ h hq
   |true=>
    refine⟨fun _=> ?_,fun h=>by cases h⟩;simp only[ju,hg] at h;cases hc:lR σ o.op with
    |some p=>
     obtain⟨f,args⟩:=p;simp only[hc] at h ⊢;cases hi:M.wL f with
     |true=>
      simp only[hi,ju] at h;cases ha:M.cp f args σ.heap with
      |none=>simp only[ha] at h;cases h
      |some q=>
       obtain⟨r,H'⟩:=q;refine(G.cp f args σ r H' ha).mono ?_;cases r with
       |ret r=>
        simp only[ha] at h;rintro o' BC ⟨rfl,rfl⟩;exact xH G rest _ σ' _ h hq
       |panic x=>
        grind
     |false=>
      simp only[hi,jv] at h;cases ha:M.cl f args σ.heap with
      |none=>simp only[ha] at h;cases h
      |some q=>
       obtain⟨r,H'⟩:=q;simp only[ha] at h;refine(G.cl f args σ r H' ha).mono ?_;rintro o' BC ⟨rfl,rfl⟩;exact xH G rest _ σ' _ h hq
    |none=>
     simp only[hc] at h ⊢;cases hy:yieldOf σ o.op with
     |some p=>
      obtain⟨l,args⟩:=p;simp only[hy] at h ⊢;cases ha:M.cy l args σ.heap with
      |none=>simp only[ha] at h;cases h
      |some q=>
       obtain⟨r,H'⟩:=q;simp only[ha] at h;refine(G.cy l args σ r H' ha).mono ?_;rintro o' BC ⟨rfl,rfl⟩;exact xH G rest _ σ' _ h hq
     |none=>
      simp only[hy] at h ⊢;cases he:kI M.P σ o.op with
      |none=>
       simp only[he] at h ⊢;cases hd:CN σ o.op with
       |some p=>
        simp only[hd] at h ⊢;exact xH G rest _ σ' _ h hq
       |none=>
        grind
      |some e=>
       simp only[he] at h;rw[lv] at h;exact⟨h.1,xH G rest _ σ' _ h.2 hq⟩
def EW {M:kD R} (G:Good M) {ops:Array Oper} {Q:mc->jI->Prop}: ∀ (rest:List Oper) (j:Nat) (tr:List Tr) (σ σ':jI) (e:mc),FI M ops rest j tr σ=some (e,σ')->Q e σ'->Yb M.P ops Q rest j tr σ
 |[],_,_,σ,σ',e,h,hq=>by simp only[FI,cc,ck] at h;obtain⟨rfl,rfl⟩:=h;exact hq
 |o::rest,j,tr,σ,σ',en,h,hq=>by
  simp only[FI] at h;simp only[Yb];cases hw:n6 ops o σ with
  |none=>simp only[hw] at h;cases h
  |some b=>
   simp only[hw] at h;have hg:=age hw;cases b with
   |false=>
    refine⟨fun h=>(by cases h),fun _=> ?_⟩;simp only[jv,hg] at h;exact EW G rest _ _ _ σ' _ h hq
   |true=>
    refine⟨fun _=> ?_,fun h=>(by cases h)⟩;simp only[ju,hg] at h;cases hc:lR σ o.op with
    |some p=>
     obtain⟨f,args⟩:=p;simp only[hc] at h ⊢;cases hic:M.yb f with
     |true=>
      simp only[hic,ju] at h;cases ha:M.co f args σ.heap with
      |none=>simp only[ha] at h;cases h
      |some q=>
       cases q with
       |ret e=>
        simp only[ha] at h;rw[lv] at h;exact .inr (.inl ⟨e,(G.co f args σ).1 e ha,h.1.2,EW G rest _ _ _ σ' _ h.2 hq⟩)
       |pan x H'=>
        simp only[ha] at h;rw[lv] at h;obtain⟨h1,h⟩:=h;simp only[cc,ck] at h;obtain⟨rfl,rfl⟩:=h;exact .inr (.inr ⟨x,H',(G.co f args σ).2 x H' ha,h1,hq⟩)
     |false=>
     simp only[hic,jv] at h;cases hi:M.yd f with
     |true=>
      simp only[hi,ju] at h;cases ha:M.ce f args σ.heap with
      |none=>simp only[ha] at h;cases h
      |some e=>
       simp only[ha] at h;rw[lv] at h;exact .inr (.inl ⟨e,G.ce f args σ e ha,h.1.2,EW G rest _ _ _ σ' _ h.2 hq⟩)
     |false=>
     simp only[hi,jv] at h;cases ha:M.cd f args with
     |none=>simp only[ha] at h;cases h
     |some r=>
      simp only[ha] at h;exact .inl ⟨r,G.cd f args r ha,EW G rest _ _ _ σ' _ h hq⟩
    |none=>
     simp only[hc] at h ⊢;cases he:kI M.P σ o.op with
     |none=>simp only[he] at h;cases h
     |some e=>
      simp only[he] at h;rw[lv] at h;exact⟨h.1.1,h.1.2,EW G rest _ _ _ σ' _ h.2 hq⟩
def acw{sx:jI->Option jI}{body:jI->Option (mc×jI)}(hb: ∀σ l σ',body σ≠some (.goto l,σ')): ∀(m:Nat)(σ:jI)(l:Nat)(σ':jI),lqN sx body m σ≠some (.goto l,σ')
 |0,_,_,_=>by simp [lqN]
 |m+1,σ,l,σ'=>by
  intro h;simp only[lqN] at h;cases hx:body σ with
  |none=>simp only[hx] at h;cases h
  |some r=>
   obtain⟨e1,σ1⟩:=r;cases e1 with
   |normal=>
    simp only[hx] at h;cases hn:sx σ1 with
    |none=>grind
    |some σ2=>simp only[hn,cv] at h;exact acw hb m σ2 l σ' h
   |goto l'=>exact hb _ _ _ hx
   |_=>grind
theorem akQ{M:kD R}: ∀(rest:List Oper)(σ:jI)(l:Nat)(σ':jI),sj M ops rest σ≠some (.goto l,σ'):=by
 intro rest;induction rest with
 |nil=>grind [sj]
 |cons o rest ih=>
  intro σ l σ' h;simp only[sj] at h
  grind [lv]
theorem aqg{M:kD R}: ∀(rest:List Oper)(j:Nat)(tr:List Tr)(σ:jI)(l:Nat)(σ':jI),FI M ops rest j tr σ≠some (.goto l,σ'):=by
 intro rest;induction rest with
 |nil=>grind [FI]
 |cons o rest ih=>
  grind [FI,lv]
theorem aqh{c:Option Code}:ah9 σ c≠some (.goto l,σ'):=by
 intro h;unfold ah9 at h;split at h<;>simp at h
def asK{M:kD R}{v:AV}:aqf M lk σ v≠some (.goto l,σ'):=by
 intro h;unfold aqf at h;split at h
 ·split at h
  ·unfold asJ at h
   grind [lv,aqh]
  ·cases h
 ·cases h
theorem Mh(M:kD R): ∀(c:Code)(p:List Nat)(σ:jI)(l:Nat)(σ':jI),exec M c p σ≠some (.goto l,σ')
 | .skip,_,_,_,_=>by simp [exec]
 | .label _,_,_,_,_=>by simp [exec]
 | .ret,_,_,_,_=>by simp [exec]
 | .exit id,_,_,_,_=>by simp [exec]
 | .region _ ops false,_,_,_,_=>by grind [exec,akQ]
 | .region _ ops true,_,_,_,_=>by
   grind [exec,lv,aqg]
 | .seq x y,p,σ,l,σ'=>by
   intro h;simp only[exec] at h;cases hx:exec M x (0::p) σ with
   |none=>simp only[hx] at h;cases h
   |some r=>
    obtain⟨e1,σ1⟩:=r;cases e1 with
    |normal=>
     simp only[hx] at h;cases hc:M.cut (1::p) σ1 with
     |none=>grind
     |some σ2=>simp only[hc,cv] at h;exact Mh M y _ _ _ _ h
    |goto l'=>exact Mh M x _ _ _ _ hx
    |_=>grind
 | .cond c x y,p,σ,l,σ'=>by
   intro h;simp only[exec] at h;cases hv:σ.ev c with
   |bool b=>
    simp only[hv] at h;cases b with
    |true=>exact Mh M x _ _ _ _ h
    |false=>exact Mh M y _ _ _ _ h
   |_=>simp only[hv] at h;cases h
 | .block id x,p,σ,l,σ'=>by
   intro h;simp only[exec] at h;cases hx:exec M x (0::p) σ with
   |none=>simp only[hx] at h;cases h
   |some r=>
    obtain⟨e1,σ1⟩:=r;cases e1 with
    |exit id'=>
     grind
    |goto l'=>exact Mh M x _ _ _ _ hx
    |_=>grind
 | .loop x,p,σ,l,σ'=>by
   intro h;simp only[exec] at h;cases hn:M.sx p σ with
   |none=>grind
   |some σ1=>
    simp only[hn,cv] at h;exact acw (fun _ _ _=>Mh M x _ _ _ _) _ _ _ _ h
 | .scope x,p,σ,l,σ'=>by
   intro h;simp only[exec] at h;exact Mh M x _ _ _ _ h
 | .goto _,_,_,_,_=>by simp [exec]
 | .rangeFunc g ps as body,_,_,_,_=>by simp only[exec];exact asK
 | .refuse _,_,_,_,_=>by simp [exec]
def vW {M:kD R} (G:Good M): ∀ (c:Code) (p:List Nat) (Q:mc->jI->Prop) (σ:jI) (e:mc) (σ':jI),exec M c p σ=some (e,σ')->Q e σ'->awp M.P c Q σ
 | .skip,_,Q,σ,e,σ',h,hq=>by simp only[exec,cc,ck] at h;obtain⟨rfl,rfl⟩:=h;exact hq
 | .label _,_,Q,σ,e,σ',h,hq=>by simp only[exec,cc,ck] at h;obtain⟨rfl,rfl⟩:=h;exact hq
 | .ret,_,Q,σ,e,σ',h,hq=>by simp only[exec,cc,ck] at h;obtain⟨rfl,rfl⟩:=h;exact hq
 | .exit id,_,Q,σ,e,σ',h,hq=>by simp only[exec,cc,ck] at h;obtain⟨rfl,rfl⟩:=h;exact hq
 | .region _ ops false,_,Q,σ,e,σ',h,hq=>by
   simp only[exec] at h;exact xH G _ _ _ _ h hq
 | .region _ ops true,_,Q,σ,e,σ',h,hq=>by
   simp only[exec] at h;rw[lv] at h;obtain⟨hp,h⟩:=h;exact⟨hp,EW G _ _ _ _ _ _ h hq⟩
 | .seq x y,p,Q,σ,e,σ',h,hq=>by
   simp only[exec] at h;cases hx:exec M x (0::p) σ with
   |none=>simp only[hx] at h;cases h
   |some r=>
    obtain⟨e1,σ1⟩:=r;refine vW G x (0::p) _ σ e1 σ1 hx ?_;cases e1 with
    |normal=>
     simp only[hx] at h;cases hc:M.cut (1::p) σ1 with
     |none=>grind
     |some σ2=>
      simp only[hc,cv] at h;exact⟨σ2,G.cut _ _ _ hc,vW G y (1::p) Q σ2 e σ' h hq⟩
    |_=>
     simp only[hx,cc,ck] at h;obtain⟨rfl,rfl⟩:=h;exact hq
 | .cond c x y,p,Q,σ,e,σ',h,hq=>by
   simp only[exec] at h;simp only[awp];cases hv:σ.ev c with
   |bool b=>
    simp only[hv] at h ⊢;cases b with
    |true=>simp only[ju,am3 hv] at h;exact⟨fun _=>vW G x (0::p) Q σ e σ' h hq,fun h=>(by cases h)⟩
    |false=>simp only[jv,am3 hv] at h;exact⟨fun h=>(by cases h),fun _=>vW G y (1::p) Q σ e σ' h hq⟩
   |_=>simp only[hv] at h;cases h
 | .block id x,p,Q,σ,e,σ',h,hq=>by
   simp only[exec] at h;cases hx:exec M x (0::p) σ with
   |none=>simp only[hx] at h;cases h
   |some r=>
    obtain⟨e1,σ1⟩:=r;refine vW G x (0::p) _ σ e1 σ1 hx ?_;cases e1 with
    |exit id'=>
     grind [mc.inBlock]
    |_=>
     simp only[hx,cc,ck] at h;obtain⟨rfl,rfl⟩:=h;exact hq
 | .loop x,p,Q,σ,e,σ',h,hq=>by
   simp only[exec] at h;cases hn:M.sx p σ with
   |none=>grind
   |some σ1=>
    simp only[hn,cv] at h;refine⟨fun m σ2=>lqN (M.sx p) (exec M x (0::p)) m σ2=some (e,σ'),M.n,σ1,G.sx _ _ _ hn,h,?_⟩;intro m σ2 h2;cases m with
    |zero=>simp only[lqN] at h2;cases h2
    |succ m=>
     simp only[lqN] at h2;cases hx:exec M x (0::p) σ2 with
     |none=>simp only[hx] at h2;cases h2
     |some r=>
      obtain⟨e1,σ3⟩:=r;refine vW G x (0::p) _ σ2 e1 σ3 hx ?_;cases e1 with
      |normal=>
       simp only[hx] at h2;cases hn2:M.sx p σ3 with
       |none=>grind
       |some σ4=>
        simp only[hn2,cv] at h2;exact⟨m,σ4,Nat.lt_succ_self _,G.sx _ _ _ hn2,h2⟩
      |_=>
       simp only[hx,cc,ck] at h2;obtain⟨rfl,rfl⟩:=h2;exact hq
 | .scope x,p,Q,σ,e,σ',h,hq=>by
   simp only[exec] at h;refine vW G x (0::p) _ σ e σ' h ?_;cases e with
   |goto l=>grind [Mh]
   |_=>exact hq
 | .goto _,_,_,_,_,_,h,_=>by simp only[exec] at h;cases h
 | .rangeFunc g ps as body,p,Q,σ,e,σ',h,hq=>by
   simp only[exec] at h;simp only[awp];unfold aqf at h;split at h
   ·rename_i f first cap hv
    split at h
    ·rename_i r H' hc;refine ah8 hv ((G.cl f _ {σ with slots:=σ.slots++[.map σ.heap.length],heap:=σ.heap++[.loop ⟨ps,as,body,M.js p⟩ σ.slots .ready 0]} r H' hc).mono ?_);rintro o' BC ⟨rfl,rfl⟩;unfold asJ at h;split at h
     ·rename_i k s st qP hH;rw[lv] at h;obtain⟨hst,h⟩:=h;subst hst;refine⟨r,k,s,qP,rfl,hH,?_⟩;generalize om k.js qP=pc at*;unfold ah9 at h;split at h
      ·simp only[cc,ck] at h;obtain⟨rfl,rfl⟩:=h;exact hq
      ·simp only[cc,ck] at h;obtain⟨rfl,rfl⟩:=h;exact hq
      ·simp only[cc,ck] at h;obtain⟨rfl,rfl⟩:=h;exact hq
      ·cases h
     ·cases h
    ·cases h
   ·cases h
 | .refuse _,_,_,_,_,_,h,_=>by simp only[exec] at h;cases h
end
def asL(C:o9)(φ:Nat->Value)(H:List jS)(w:World):Prop:=lQ C φ {slots:=[],heap:=H,low:=H.length} {tmps:= #[],defers:=[]} w
def FnG(P:Program)(f:FuncId)(args:List AV)(H:List jS)(V:sv->List jS->Prop):Prop:=
 enters P f=true/\uB H.length args/\(∀x∈H,pM H.length x)/\ ∀(C:o9)(φ:Nat->Value)(w:World),C.P=P->C.w0=w->C.N0=H.length->(∀l,l<H.length->C.φ0 l=φ l/\C.ln0 l=lr H[l]?)->(∀b o,C.M0 b o↔Dq φ H b o)->
  asL C φ H w-> ∀vs:Array Value,kf (C.env φ H w) args vs.toList->
  Calls P f vs w fun e w'=> ∃o φ' H',V o H'/\lQ C φ' {slots:=[],heap:=H',low:=H.length} {tmps:= #[],defers:=[]} w'/\o.Vv (C.env φ' H' w') e
def pT:List jS->List Nat->List jS->List jS
 |H,l::ls,x::xs=>pT (H.set l x) ls xs
 |H,_,_=>H
def mJ(ρ:List Nat)(n:Nat)(l:Nat):Nat:=if l<ρ.length then ρ.getD l 0 else n+(l-ρ.length)
def tv(ρ:List Nat)(H H':List jS):List jS:=
 pT H ρ (H'.map (jS.n9 (mJ ρ H.length)))++(H'.drop ρ.length).map (jS.n9 (mJ ρ H.length))
theorem tZ: ∀(H:List jS)(ls:List Nat)(xs:List jS),(pT H ls xs).length=H.length
 |_,[],_=>by simp [pT]
 |_,_::_,[]=>by simp [pT]
 |H,l::ls,x::xs=>by rw[pT,tZ,List.length_set]
theorem CQ: ∀(ls:List Nat)(H:List jS)(xs:List jS)(k:Nat),k ∉ ls->(pT H ls xs)[k]? =H[k]?
 |[],_,_,_,_=>by simp [pT]
 |_::_,_,[],_,_=>by simp [pT]
 |l::ls,H,x::xs,k,h=>by
  simp only[cX,not_or] at h;rw[pT,CQ ls _ xs k h.2,dD (fun e=>h.1 e.symm)]
theorem Ob: ∀(ls:List Nat)(H:List jS)(xs:List jS)(i k:Nat)(x:jS),ls.Nodup->ls[i]? =some k->xs[i]? =some x->k<H.length->(pT H ls xs)[k]? =some x
 |[],_,_,_,_,_,_,h,_,_=>by simp at h
 |_::_,_,[],_,_,_,_,_,h,_=>by simp at h
 |l::ls,H,y::ys,0,k,x,hnd,h,hx,hk=>by
  grind [pT,CQ]
 |l::ls,H,y::ys,i+1,k,x,hnd,h,hx,hk=>by
  simp at h hx;rw[dw] at hnd;rw[pT];exact Ob ls _ ys i k x hnd.2 h hx (by rw[List.length_set];exact hk)
def acy:List Nat->Nat->Option Nat
 |[],_=>none
 |x::xs,k=>if x=k then some 0 else(acy xs k).map (· +1)
theorem Yf: ∀(ρ:List Nat)(l k:Nat),ρ.Nodup->ρ[l]? =some k->acy ρ k=some l
 |[],_,_,_,h=>by simp at h
 |x::xs,0,k,_,h=>by simp at h;subst h;simp [acy]
 |x::xs,l+1,k,hnd,h=>by
  simp at h;rw[dw] at hnd;have hne:x≠k:=fun e=>hnd.1 (e ▸ cQ h)
  simp [acy,hne,Yf xs l k hnd.2 h]
theorem acz: ∀(ρ:List Nat)(k:Nat),k ∉ ρ->acy ρ k=none
 |[],_,_=>rfl
 |x::xs,k,h=>by
  simp only[cX,not_or] at h;have hne:x≠k:=fun e=>h.1 e.symm
  simp [acy,hne,acz xs k h.2]
section call
variable {C:o9}
structure SW(T:Value->World->Array Value->(Ending->World->Prop)->Prop):Prop where
 mono: ∀h w vs R R',(∀e w',R e w'->R' e w')->T h w vs R->T h w vs R'
def FnT(P:Program)(T:Value->World->Array Value->(Ending->World->Prop)->Prop)(args:List AV)(H:List jS)(V:sv->List jS->Prop):Prop:=
 uB H.length args/\(∀x∈H,pM H.length x)/\ ∀(C:o9)(φ:Nat->Value)(w:World),C.P=P->C.w0=w->C.N0=H.length->(∀l,l<H.length->C.φ0 l=φ l/\C.ln0 l=lr H[l]?)->(∀b o,C.M0 b o↔Dq φ H b o)->
  asL C φ H w-> ∀vs:Array Value,kf (C.env φ H w) args vs.toList->
  T (φ 0) w vs fun e w'=> ∃o φ' H',V o H'/\lQ C φ' {slots:=[],heap:=H',low:=H.length} {tmps:= #[],defers:=[]} w'/\o.Vv (C.env φ' H' w') e
def Mi(P:Program)(T:Value->World->Array Value->(Ending->World->Prop)->Prop)(l:Nat)(args:List AV)(σ:jI)(K:sv->List jS->Prop):Prop:=
 ∀ (C:o9) (φ:Nat->Value) (a:Act) (w:World),C.P=P->lQ C φ σ a w-> ∀vs:Array Value,kf (C.env φ σ.heap w) args vs.toList->
   T (φ l) w vs fun e w'=> ∃o φ' H',K o H'/\lQ C φ' {σ with heap:=H'} a w'/\o.Vv (C.env φ' H' w') e
def Yg{T:Value->World->Array Value->(Ending->World->Prop)->Prop}(hT:SW T){l0:Nat}{KL:List AV}(h:FnT P T args H V)(ρ:List Nat)(hlen:ρ.length=H.length)(hnd:ρ.Nodup)
 (hz: ∀φ:Nat->Value,T (φ (mJ ρ σ.heap.length 0))=T (φ l0))
 (hargs:qi KL (qu (mJ ρ σ.heap.length) args)) (Ju: ∀(i:Nat)(k:Nat)(x:jS),ρ[i]? =some k->H[i]? =some x->σ.heap[k]? =some (x.n9 (mJ ρ σ.heap.length)))
 (hK: ∀o H',V o H'->K (o.n9 (mJ ρ σ.heap.length)) (tv ρ σ.heap H')):Mi P T l0 KL σ K:=by
 obtain⟨azN,EB,hc⟩:=h;intro C φ a w hP S vs hr
 let ρf:Nat->Nat:=mJ ρ σ.heap.length
 have hρ: ∀l,l<H.length->ρ[l]? =some (ρf l):=by
  grind [mJ]
 let φc:Nat->Value:=fun l=>φ (ρf l)
 have acA: ∀(l:Nat)(x:jS),H[l]? =some x->σ.heap[ρf l]? =some (x.n9 ρf):=fun l x hx=>Ju l _ x (hρ l (b9.1 hx).1) hx
 have aAJ: ∀l,l<H.length->ρf l<σ.heap.length:=by
  intro l hl;have:=acA l H[l] (b8 hl)
  grind
 have hinj: ∀l l',l<H.length->l'<H.length->ρf l=ρf l'->l=l':=by
  grind [List.getElem_inj]
 have aia: ∀b o,Dq φc H b o->Dq φ σ.heap b o:=by
  rintro b o ⟨l,x,hx,hm⟩;exact⟨ρf l,_,acA l x hx,N8.2 hm⟩
 have hA0: ∀b o,((Dq φ σ.heap b o\/C.A b o)/\ ¬ Dq φc H b o)->b<w.heap.size:=by
  rintro b o ⟨⟨l,x,hx,hm⟩|hA,_⟩
  ·exact(S.mV l x hx).py (jS.mK hm)
  ·exact cf (C.hA b o hA) S.size
 let C':o9:=o9.mk C.P w (Dq φc H) (fun b o=>(Dq φ σ.heap b o\/C.A b o)/\ ¬ Dq φc H b o) hA0 (fun b o h=>let ⟨v,h1,h2,h3⟩:=S.know b o h;⟨v,h1,h2,fun hm=>h3 (aia b o hm)⟩) H.length φc (fun l=>lr H[l]?)
 have axT: ∀b o,(Dq φc H b o\/C'.A b o)↔(Dq φ σ.heap b o\/C.A b o):=by
  grind
 have un:ah0 H.length ρf (C.env φ σ.heap w) (C'.env φc H w):=by
  refine⟨cm _,fun l hl=>⟨rfl,?_⟩,fun b o u hm hcell=>⟨fun hh=>hm ((axT b o).1 hh),hcell⟩⟩
  grind [o9.env,BU]
 have Hw: ∀(l:Nat)(x:jS)(b:Nat),H[l]? =some x->x.block (φc l) b-> ∃y:jS,σ.heap[ρf l]? =some y/\y.block (φ (ρf l)) b:=fun l x b hx hb=>⟨_,acA l x hx,yK.2 hb⟩
 have hown: ∀(l:Nat)(x:jS)(b:Nat),H[l]? =some x->x.block (φc l) b-> ∀o,Dq φ σ.heap b o->Dq φc H b o:=by
  rintro l x b hx hb o ⟨k,y,hy,hm⟩;obtain⟨z,hz,hzb⟩:=Hw l x b hx hb;have hk:=S.apart k (ρf l) y z b hy hz (jS.mK hm) hzb;subst hk;have hf:=acA l x hx;rw[hy] at hf;cases hf;exact⟨l,x,hx,N8.1 hm⟩
 have hS':asL C' φc H w:=by
  refine {slots:=rfl,defers:=qh.nil,mV:= ?_,apart:= ?_,rz:= ?_,size:=cm _,old:=fun _ _ _ _=>rfl,mF:=fun _ _ _=>rfl,Bi:= ?_,tX:=fun _ _=>rfl,rest:=⟨rfl,rfl⟩,low:=⟨rfl,cm _⟩,names:=fun l hl=> .inl ⟨rfl,.inl rfl⟩}
  ·intro l x hx;exact mN.zU un (EB x (cQ hx)) (fun _ _=>rfl) (S.mV (ρf l) _ (acA l x hx))
  ·intro l l' x x' b hx hx' hb hb';obtain⟨z,hz,hzb⟩:=Hw l x b hx hb;obtain⟨z',hz',av1⟩:=Hw l' x' b hx' hb';exact hinj l l' (b9.1 hx).1 (b9.1 hx').1 (S.apart _ _ z z' b hz hz' hzb av1)
  ·rintro l x b o hx hb ⟨hA|hA,hn⟩
   ·exact hn (hown l x b hx hb o hA)
   ·obtain⟨z,hz,hzb⟩:=Hw l x b hx hb;exact S.rz _ z b o hz hzb hA
  ·intro l x b o hx hm _;exact⟨l,x,hx,hm⟩
 have hr':kf (C'.env φc H w) args vs.toList:=kf.zU un _ _ azN (hargs _ _ hr);have tW:=hc C' φc w hP rfl rfl (fun l _=>⟨rfl,rfl⟩) (fun _ _=>cg) hS' vs hr';rw[show φc 0=φ (mJ ρ σ.heap.length 0) from rfl,hz φ] at tW;refine hT.mono _ _ _ _ _ ?_ tW;rintro e w' ⟨o,φ',H',hV,S',qE⟩;have aAK:H.length<=H'.length:=S'.low.2
 let n:=σ.heap.length
 have amZ: ∀k,k<n->(∃l,l<H.length/\ρf l=k)\/k ∉ ρ:=by
  grind [dA]
 let ix:Nat->Option Nat:=acy ρ
 have hix: ∀l,l<H.length->ix (ρf l)=some l:=by
  grind [Yf]
 have aAL: ∀k,k ∉ ρ->ix k=none:=by
  grind [acz]
 let φ2:Nat->Value:=fun k=>if k<n then(match ix k with|some l=>φ' l|none=>φ k) else φ' (H.length+(k-n))
 have acB: ∀l,l<H'.length->φ2 (ρf l)=φ' l:=by
  intro l hl;by_cases h1:l<H.length
  ·grind
  ·have h2:ρf l=n+(l-H.length):=by
    grind [mJ]
   simp only[φ2];rw[if_neg (by omega),h2];congr 1;omega
 have aib: ∀k,k<n->k ∉ ρ->φ2 k=φ k:=by
  grind
 let H2:List jS:=tv ρ σ.heap H'
 have av2: ∀(l:Nat)(hl:l<H'.length),H2[ρf l]? =some ((H'[l]).n9 ρf):=by
  intro l hl;simp only[H2,tv];by_cases h1:l<H.length
  ·grind [tZ,Ob]
  ·have h2:ρf l=n+(l-H.length):=by
    grind [mJ]
   rw[h2,cR (by rw[tZ];omega),tZ];rw[List.getElem?_map,List.getElem?_drop,hlen];have e:H.length+(n+(l-H.length)-σ.heap.length)=l:=by simp only[n];omega
   grind
 have azO: ∀k,k<n->k ∉ ρ->H2[k]? =σ.heap[k]? :=by
  grind [tv,tZ,CQ]
 have azP:H2.length=n+(H'.length-H.length):=by
  grind [tv,tZ]
 have hH2: ∀(k:Nat)(y:jS),H2[k]? =some y->(∃l,∃hl:l<H'.length,k=ρf l/\y=(H'[l]).n9 ρf)\/(k<n/\k ∉ ρ/\σ.heap[k]? =some y):=by
  intro k y hy;have hk:k<H2.length:=(b9.1 hy).1;by_cases h1:k<n
  ·rcases amZ k h1 with⟨l,hl,rfl⟩|hm
   all_goals grind
  ·left;have hl:H.length+(k-n)<H'.length:=by omega
   grind [mJ]
 have avx: ∀b o,Dq φ2 H2 b o->Dq φ' H' b o\/ ∃(k:Nat)(y:jS),k<n/\k ∉ ρ/\σ.heap[k]? =some y/\y.w5 (φ k) b o:=by
  rintro b o ⟨k,y,hy,hm⟩;rcases hH2 k y hy with⟨l,hl,rfl,rfl⟩|⟨h1,h2,h3⟩
  ·left;rw[acB l hl] at hm;exact⟨l,_,b8 hl,N8.1 hm⟩
  grind
 have hsep: ∀(k:Nat)(y:jS)(b:Nat),k<n->k ∉ ρ->σ.heap[k]? =some y->y.block (φ k) b-> ∀o,¬ Dq φc H b o:=by
  rintro k y b hk hm hy hb o ⟨l,x,hx,Xf⟩;obtain⟨z,hz,hzb⟩:=Hw l x b hx (jS.mK Xf);have e:=S.apart k (ρf l) y z b hy hz hb hzb
  grind
 have abR: ∀(l:Nat)(hl:l<H'.length)(b:Nat),(H'[l]).block (φ' l) b->b<w.heap.size-> ∃(k:Nat)(x:jS),H[k]? =some x/\x.block (φc k) b:=by
  intro l hl b hb hlt;obtain⟨o,Xf⟩:=MV hb;obtain⟨k,x,hx,hmx⟩:=S'.Bi l _ b o (b8 hl) Xf hlt
  grind [jS.mK]
 have le:(C.env φ σ.heap w).Le n (C.env φ2 H2 w'):=by
  refine⟨by simp only[o9.env];omega,fun k hk=> ?_,fun b o' u hm hcell=> ?_⟩
  ·rcases amZ k hk with⟨l,hl,rfl⟩|hm
   ·have hn:=S'.names l hl;simp only[o9.env];rw[acB l (by omega),av2 l (by omega),BU,acA l H[l] (b8 hl),BU];have h1:lr H'[l]? =lr (some H'[l]):=by grind
    have h2:C'.ln0 l=lr (some H[l]):=by grind
    rw[h1,h2] at hn;exact hn
   grind [o9.env]
  ·have hb:=El hcell;simp only[o9.env] at hb hm ⊢;have hnc: ¬ Dq φc H b o':=fun hh=>hm (.inl (aia b o' hh))
   refine⟨?_,by rw[S'.old b o' hb hnc];exact hcell⟩;rintro(hh|hh)
   ·rcases avx b o' hh with⟨l,x,hx,Xf⟩|⟨k,y,_,_,hy,Xf⟩
    ·exact hnc (S'.Bi l x b o' hx Xf hb)
    ·exact hm (.inl ⟨k,y,hy,Xf⟩)
   ·exact hm (.inr hh)
 have n9:X8 H'.length ρf (C'.env φ' H' w') (C.env φ2 H2 w'):=by
  refine⟨fun l hl=> ?_,fun l hl=> ?_,fun b o' u hm hcell=>⟨?_,hcell⟩⟩
  ·have:=av2 l hl;exact(b9.1 this).1
  ·grind [o9.env,BU]
  ·simp only[o9.env] at hm ⊢;rintro(hh|hh)
   ·rcases avx b o' hh with h1|⟨k,y,hk,hkm,hy,Xf⟩
    ·exact hm (.inl h1)
    ·exact hm (.inr ⟨.inl ⟨k,y,hy,Xf⟩,hsep k y b hk hkm hy (jS.mK Xf) o'⟩)
   ·refine hm (.inr ⟨.inr hh,?_⟩);rintro⟨l,x,hx,Xf⟩;obtain⟨z,hz,hzb⟩:=Hw l x b hx (jS.mK Xf);exact S.rz _ z b o' hz hzb hh
 have S2:lQ C φ2 {σ with heap:=H2} a w':=by
  have Aa:qh C φ2 H2 w' σ.df a.defers:=by
   refine S.defers.step le (fun b hb hno=>S'.mF b hb (fun o' hh=> ?_)) (fun k x b hx hb=> ?_)
   ·obtain⟨l,x,hx,Xf⟩:=hh
    grind [jS.mK]
   ·by_cases hbs:b<w.heap.size
    ·rcases hH2 k x hx with⟨l,hl,rfl,rfl⟩|⟨h1,h2,h3⟩
     ·rw[acB l hl] at hb;obtain⟨q,z,hz',hzb⟩:=abR l hl b (yK.1 hb) hbs
      grind
     grind
    ·exact .inr (by omega)
  refine {slots:=kf.mono le _ _ (kf.nb _ _ S.slots) S.slots,defers:=Aa,mV:= ?_,apart:= ?_,rz:= ?_,size:=Nat.le_trans S.size S'.size,old:= ?_,mF:= ?_,Bi:= ?_,tX:=fun x hx=>(S'.tX x (cf hx S.size)).trans (S.tX x hx),rest:=⟨S'.rest.1.trans S.rest.1,S'.rest.2.trans S.rest.2⟩,low:=⟨S.low.1,by have:=S.low.2;show σ.low<=H2.length;omega⟩,names:= ?_}
  ·intro k y hy;rcases hH2 k y hy with⟨l,hl,rfl,rfl⟩|⟨h1,h2,h3⟩
   ·rw[acB l hl];have r0:=S'.mV l _ (b8 hl);exact mN.n9 n9 (N9 r0) (fun _ _=>rfl) r0
   ·rw[aib k h1 h2];have r0:=S.mV k y h3;exact mN.mono r0 le (fun b hb=>S'.mF b (r0.py hb) (hsep k y b h1 h2 h3 hb))
  ·intro k k' x x' b hx hx' hb hb';rcases hH2 k x hx with⟨l,hl,rfl,rfl⟩|⟨h1,h2,h3⟩<;>rcases hH2 k' x' hx' with⟨l',Kc,rfl,rfl⟩|⟨h1',h2',h3'⟩
   ·rw[acB l hl] at hb;rw[acB l' Kc] at hb';have:=S'.apart l l' _ _ b (b8 hl) (b8 Kc) (yK.1 hb) (yK.1 hb');rw[this]
   ·rw[acB l hl] at hb;rw[aib k' h1' h2'] at hb';exfalso;obtain⟨q,z,hz,hzb⟩:=abR l hl b (yK.1 hb) ((S.mV k' x' h3').py hb');obtain⟨o'',Xf⟩:=MV hzb;exact hsep k' x' b h1' h2' h3' hb' o'' ⟨q,z,hz,Xf⟩
   ·rw[acB l' Kc] at hb';rw[aib k h1 h2] at hb;exfalso;obtain⟨q,z,hz,hzb⟩:=abR l' Kc b (yK.1 hb') ((S.mV k x h3).py hb);obtain⟨o'',Xf⟩:=MV hzb;exact hsep k x b h1 h2 h3 hb o'' ⟨q,z,hz,Xf⟩
   ·rw[aib k h1 h2] at hb;rw[aib k' h1' h2'] at hb';exact S.apart k k' x x' b h3 h3' hb hb'
  ·intro k x b o' hx hb;rcases hH2 k x hx with⟨l,hl,rfl,rfl⟩|⟨h1,h2,h3⟩
   ·rw[acB l hl] at hb;intro hA;have hbs:b<w.heap.size:=cf (C.hA b o' hA) S.size;obtain⟨q,z,hz,hzb⟩:=abR l hl b (yK.1 hb) hbs;obtain⟨z',hz',av1⟩:=Hw q z b hz hzb;exact S.rz _ z' b o' hz' av1 hA
   ·rw[aib k h1 h2] at hb;exact S.rz k x b o' h3 hb
  ·intro b o' hb hm;have hb':b<w.heap.size:=cf hb S.size
   have hnc: ¬ Dq φc H b o':=by
    intro hh;obtain⟨k,y,hy,Xf⟩:=aia b o' hh;exact hm (S.Bi k y b o' hy Xf hb)
   exact(S'.old b o' hb' hnc).trans (S.old b o' hb hm)
  ·intro b hb hm;have hb':b<w.heap.size:=cf hb S.size
   have hnc: ∀o',¬ Dq φc H b o':=by
    intro o' hh;obtain⟨k,y,hy,Xf⟩:=aia b o' hh;exact hm o' (S.Bi k y b o' hy Xf hb)
   exact(S'.mF b hb' hnc).trans (S.mF b hb hm)
  ·intro k x b o' hx Xf hb;rcases hH2 k x hx with⟨l,hl,rfl,rfl⟩|⟨h1,h2,h3⟩
   ·rw[acB l hl] at Xf;obtain⟨q,z,hz,hmz⟩:=S'.Bi l _ b o' (b8 hl) (N8.1 Xf) (cf hb S.size);obtain⟨k2,y2,hy2,azQ⟩:=aia b o' ⟨q,z,hz,hmz⟩;exact S.Bi k2 y2 b o' hy2 azQ hb
   ·rw[aib k h1 h2] at Xf;exact S.Bi k x b o' h3 Xf hb
  ·intro k hk;have hkn:k<n:=by have:=S.low;simp only[n];omega
   have hn:=S.names k hk;show(φ2 k=_/\_)\/_;rcases amZ k hkn with⟨l,hl,rfl⟩|hm
   ·have hn':=S'.names l hl;rw[acB l (by omega),av2 l (by omega),BU];rw[acA l H[l] (b8 hl),BU] at hn;have h1:lr H'[l]? =lr (some H'[l]):=by rw[b8 (by omega)]
    have h2:C'.ln0 l=lr (some H[l]):=by show lr H[l]? =_;rw[b8 hl]
    have h3:C'.φ0 l=φ (ρf l):=rfl;rw[h1,h2,h3] at hn';rcases hn' with⟨ha,hb|hb⟩|⟨⟨q,hq,hlt⟩,hp,hmp⟩
    ·rw[ha,hb];exact hn
    ·rw[hb];rcases hn with⟨hc1,_⟩|⟨⟨q,hq,_⟩,hp,hmp⟩
     ·exact .inl ⟨by rw[ha];exact hc1,.inr rfl⟩
     ·exact .inr ⟨⟨q,hq,fun k' hk'=>by cases hk'⟩,hp,hmp⟩
    ·right;rcases hn with⟨hc1,hc2|hc2⟩|⟨⟨q2,hq2,azR⟩,hp2,azS⟩
     ·rw[hq] at hc2;exact⟨⟨q,hc2.symm,hlt⟩,by rw[<-hc1];exact⟨hp,hmp⟩⟩
     ·rw[hq] at hc2;cases hc2
     ·exact⟨⟨q2,hq2,fun k' hk'=>by have:=hlt k' hk';have:=azR q hq;omega⟩,hp2,azS⟩
   ·rw[aib k hkn hm,azO k hkn hm];exact hn
 refine⟨o.n9 ρf,φ2,H2,hK o H' hV,S2,?_⟩;cases o with
 |ret r=>
  cases e with
  |returned v=>exact nr.n9 n9 r v (nr.nb _ _ qE) qE
  |panicked chain=>exact qE.elim
  |outgrown=>exact qE.elim
 |panic x=>
  cases e with
  |returned v=>exact qE.elim
  |panicked chain=>
   obtain⟨v,hv,hr⟩:=qE;exact⟨v,hv,nr.n9 n9 x v (nr.nb _ _ hr) hr⟩
  |outgrown=>exact qE.elim
def Xk:SW (fun _ w vs R=>Calls P f vs w R):=⟨fun _ _ _ _ _ hr h=>Calls.mono h hr⟩
def aic:SW (SM P):=⟨fun _ _ _ _ _ hr h D rec h1 h2=>(h D rec h1 h2).mono hr⟩
def agf {KL:List AV}(h:FnG P f args H V)(ρ:List Nat)(hlen:ρ.length=H.length)(hnd:ρ.Nodup)
 (hargs:qi KL (qu (mJ ρ σ.heap.length) args)) (Ju: ∀(i:Nat)(k:Nat)(x:jS),ρ[i]? =some k->H[i]? =some x->σ.heap[k]? =some (x.n9 (mJ ρ σ.heap.length)))
 (hK: ∀o H',V o H'->K (o.n9 (mJ ρ σ.heap.length)) (tv ρ σ.heap H')):ya P f KL σ K:=
 ⟨h.1,Yg (T:=fun _ w vs R=>Calls P f vs w R) (l0:=0) Xk h.2 ρ hlen hnd (fun _=>rfl) hargs Ju hK⟩
end call
def mN.axU{x:jS}(r:mN E x hd)(h:E.Le N E')(hn:pM N x)(hs:E'.w=E.w:=by rfl):mN E' x hd:=by
 cases x with
 |cells cs=>obtain⟨b,c,t,h1,h2,rl,h3⟩:=r;exact⟨b,c,t,h1,by rw[hs];exact h2,kf.mono h _ _ hn rl,h3⟩
 |acc qT sz rows=>
  obtain⟨base,cap,h1,h2,h3,h4,h5⟩:=r;refine⟨base,cap,h1,h2,h3,h4,fun a0 ha hc=> ?_⟩;obtain⟨h6,c,t,h7,h8,rl,h9⟩:=h5 a0 ha hc;exact⟨h6,c,t,by rw[hs];exact h7,h8,kf.mono h _ _ (EU hn) rl,h9⟩
 |map es=>obtain⟨r',en,cl,h1,h2,rp⟩:=r;exact⟨r',en,cl,h1,by rw[hs];exact h2,pX.mono h hn rp⟩
 |loop k slots st qP=>obtain⟨D,rec,h1,h2,h3,h4,rl⟩:=r;exact⟨D,rec,h1,by rw[hs];exact h2,by rw[hs];exact h3,h4,kf.mono h _ _ hn rl⟩
 |iter s p=>obtain⟨b,h1,h2⟩:=r;exact⟨b,h1,by rw[hs];exact h2⟩
 |dead=>trivial
def Xl(σ:jI)(x r:AV)(H':List jS):Prop:=
 ∀ (C:o9) (φ:Nat->Value) (a:Act) (w:World),lQ C φ σ a w-> ∀v,nr (C.env φ σ.heap w) x v->
   ∃φ',lQ C φ' {slots:=[],heap:=H',low:=σ.low} {tmps:= #[],defers:=[]} w/\nr (C.env φ' H' w) r v
def PQ(low l k:Nat):Nat:=if k<low then k else if k=l then low else low+1+k
section asM

theorem aid(hl:l<low):(H.take low)[l]? =H[l]? :=by rw[List.getElem?_take,if_pos hl]
def akR{y:jS}(hl:σ.heap[l]? =some y)(DL:σ.low<=l)(hnb: ∀z∈σ.heap.take σ.low,pM σ.low z)(hy:pM σ.low y)(hr:(x.n9 (PQ σ.low l)).nb (σ.low+1)):
 Xl σ x (x.n9 (PQ σ.low l)) (σ.heap.take σ.low++[y]):=by
 intro C φ a w S v hv;have azT:=S.low.2;have hHl:(σ.heap.take σ.low).length=σ.low:=by rw[List.length_take];omega
 let H':=σ.heap.take σ.low++[y]
 let φ':Nat->Value:=fun k=>if k=σ.low then φ l else φ k
 have hφ': ∀k,k<σ.low->φ' k=φ k:=fun k hk=>by simp only[φ'];rw[if_neg (by omega)]
 have hφl:φ' σ.low=φ l:=by simp [φ']
 have am4: ∀k,k<σ.low->H'[k]? =σ.heap[k]? :=by
  intro k hk;simp only[H'];rw[cG (by omega),aid hk]
 have avy:H'[σ.low]? =some y:=by
  simp only[H'];rw[cR (by omega),hHl,Nat.sub_self];rfl
 have aqi:H'.length=σ.low+1:=by simp only[H',List.length_append,hHl,dm,List.length_nil]
 have mH: ∀(k:Nat)(z:jS),H'[k]? =some z->(k<σ.low/\σ.heap[k]? =some z)\/(k=σ.low/\z=y):=by
  intro k z hz;have hk:k<σ.low+1:=by rw[<-aqi];exact(b9.1 hz).1
  by_cases e:k=σ.low
  ·subst e;rw[avy] at hz;cases hz;exact .inr ⟨rfl,rfl⟩
  ·left;rw[am4 k (by omega)] at hz;exact⟨by omega,hz⟩
 let old:Nat->Nat:=fun k=>if k=σ.low then l else k
 have hold: ∀(k:Nat)(z:jS),H'[k]? =some z->σ.heap[old k]? =some z/\φ' k=φ (old k):=by
  intro k z hz;rcases mH k z hz with⟨h1,h2⟩|⟨rfl,rfl⟩
  ·simp only[old];rw[if_neg (by omega)];exact⟨h2,hφ' k h1⟩
  ·simp only[old,jD];exact⟨hl,hφl⟩
 have asO: ∀k k',k<σ.low+1->k'<σ.low+1->old k=old k'->k=k':=by
  intro k k' hk hk' he;simp only[old] at he;split at he<;>split at he<;>omega
 have Jr: ∀b o,Dq φ' H' b o->Dq φ σ.heap b o:=by
  rintro b o ⟨k,z,hz,hm⟩;obtain⟨h1,h2⟩:=hold k z hz;rw[h2] at hm;exact⟨old k,z,h1,hm⟩
 have le:(C.env φ σ.heap w).Le σ.low (C.env φ' H' w):=by
  refine⟨by simp only[o9.env];omega,fun k hk=> .inl ⟨hφ' k hk,.inl (by simp only[o9.env];rw[am4 k hk])⟩,fun b o u hm hc=>⟨fun h=>hm (h.imp (Jr b o) id),hc⟩⟩
 refine⟨φ',{slots:=rfl,defers:=qh.nil,mV:= ?_,apart:= ?_,rz:= ?_,size:=S.size,old:=S.old,mF:=S.mF,Bi:= ?_,tX:=S.tX,rest:=S.rest,low:=⟨S.low.1,by show σ.low<=H'.length;omega⟩,names:= ?_},?_⟩
 ·intro k z hz;show mN (C.env φ' H' w) z (φ' k);obtain⟨h1,h2⟩:=hold k z hz;rw[h2];refine(S.mV (old k) z h1).axU le ?_;rcases mH k z hz with⟨h3,h4⟩|⟨rfl,rfl⟩
  ·exact hnb z (cQ ((aid h3).trans h4))
  ·exact hy
 ·intro k k' z z' b hz hz' hb hb';obtain⟨h1,h2⟩:=hold k z hz;obtain⟨h1',h2'⟩:=hold k' z' hz';rw[h2] at hb;rw[h2'] at hb';have hk:k<σ.low+1:=by rw[<-aqi];exact(b9.1 hz).1
  have hk':k'<σ.low+1:=by rw[<-aqi];exact(b9.1 hz').1
  exact asO k k' hk hk' (S.apart _ _ z z' b h1 h1' hb hb')
 ·intro k z b o hz hb;obtain⟨h1,h2⟩:=hold k z hz;rw[h2] at hb;exact S.rz _ z b o h1 hb
 ·intro k z b o hz hm hb;obtain⟨h1,h2⟩:=hold k z hz;rw[h2] at hm;exact S.Bi _ z b o h1 hm hb
 ·intro k hk;have hk':k<σ.low:=by have:=S.low.1;omega
  show(φ' k=_/\(lr H'[k]? =_\/_))\/_;rw[hφ' k hk',am4 k hk'];exact S.names k hk
 ·
  let E2:Env:={w,mu:=(C.env φ' H' w).mu,φ:=fun k=>if k<σ.low+1 then φ' k else φ (k-(σ.low+1)),ln:=fun k=>if k<σ.low+1 then lr H'[k]? else none,n:=σ.low+1+σ.heap.length}
  have n9:X8 σ.heap.length (PQ σ.low l) (C.env φ σ.heap w) E2:=by
   refine⟨fun k hk=> ?_,fun k hk=> ?_,fun b o u hm hc=>⟨fun h=>hm (h.imp (Jr b o) id),hc⟩⟩
   ·simp only[PQ,E2];split
    ·omega
    ·split<;>omega
   ·simp only[PQ,E2,o9.env];split
    ·rename_i h1;rw[if_pos (by omega),if_pos (by omega),hφ' k h1,am4 k h1];exact⟨rfl,.inl rfl⟩
    ·split
     ·rename_i h1 h2;subst h2;rw[if_pos (by omega),if_pos (by omega),hφl,avy,hl];exact⟨rfl,.inl rfl⟩
     ·rw[if_neg (by omega),if_neg (by omega)];refine⟨?_,.inr rfl⟩;congr 1;omega
  have h1:=nr.n9 n9 x v (nr.nb _ _ hv) hv
  have le2:E2.Le (σ.low+1) (C.env φ' H' w):=by
   refine⟨by simp only[o9.env];show σ.low+1<=H'.length;omega,fun k hk=> .inl ⟨?_,.inl ?_⟩,fun b o u hm hc=>⟨hm,hc⟩⟩
   ·show φ' k=if k<σ.low+1 then φ' k else _
    rw[if_pos hk]
   ·show lr H'[k]? =if k<σ.low+1 then lr H'[k]? else none
    rw[if_pos hk]
  exact nr.mono le2 _ v hr h1
end asM
def ua{args:Array Value}{R R':Ending->FrameMode->World->Prop}(h:CallsDIn F n P f args u w R)(hr: ∀e u' w',R e u' w'->R' e u' w'):CallsDIn F n P f args u w R':=by
 refine⟨h.1,fun c cs hc hroom=> ?_⟩;obtain⟨e,u',w',fr,hR,qD⟩:=h.2 c cs hc hroom;exact⟨e,u',w',fr,hr _ _ _ hR,qD⟩
def ad6(P:Program)(f:FuncId):Value->World->Array Value->(Ending->World->Prop)->Prop:=fun _ w vs R=>
 CallsDIn ct 0 P f vs .returning w fun e u' w'=> ∃r,e= .returned r/\settle u'= .returning/\R (.returned r) w'
def ad7(P:Program)(f:FuncId):Value->World->Array Value->(Ending->World->Prop)->Prop:=fun _ w vs R=> ∀(vs0:Array Value)(v:Value),vs=vs0.push v->
 CallsDIn ct 0 P f vs0 (.panicking [{v,recovered:=false}]) w fun e u' w'=> ∃r,e= .returned r/\
  ((settle u'= .returning/\R (.returned r) w')\/ ∃v',settle u'= .panicking [{v:=v',recovered:=false}]/\R (.panicked [{v:=v',recovered:=false}]) w')
def ZH:SW (ad6 P f):=⟨fun _ _ _ _ _ hr h=>ua h fun _ _ _ ⟨r,h1,h2,h3⟩=>⟨r,h1,h2,hr _ _ h3⟩⟩
def ZI:SW (ad7 P f):=⟨fun _ _ _ _ _ hr h vs0 v hv=>ua (h vs0 v hv) fun _ _ _ ⟨r,h1,h2⟩=>⟨r,h1,h2.imp (fun ⟨h3,h4⟩=>⟨h3,hr _ _ h4⟩) fun ⟨v',h3,h4⟩=>⟨v',h3,hr _ _ h4⟩⟩⟩
def Yh (P:Program) (fin:Option AV->jI->Prop):List (FuncId×List AV)->Option AV->jI->Prop
 |[],m,σ=>fin m σ
 |(f,args)::ds,none,σ=>enters P f=true/\Mi P (ad6 P f) 0 args {σ with df:=ds} (fun o H'=>match o with
    | .ret _=>Yh P fin ds none {σ with heap:=H',df:=ds}
    | .panic _=>False)
 |(f,args)::ds,some x,σ=>enters P f=true/\Mi P (ad7 P f) 0 (args++[x]) {σ with df:=ds} (fun o H'=>match o with
    | .ret _=>Yh P fin ds none {σ with heap:=H',df:=ds}
    | .panic x'=>Yh P fin ds (some x') {σ with heap:=H',df:=ds})
section unw
variable {C:o9} {ds:List Deferred}
def lQ.akS(S:lQ C φ {σ with slots:=σ.slots++[x]} {tmps:=tmps.push v,defers:=ds} w)(hl:σ.slots.length=tmps.size):lQ C φ σ {tmps,defers:=ds} w/\nr (C.env φ σ.heap w) x v:=by
 have h1:=S.slots.take σ.slots.length;have h2:=S.slots.drop σ.slots.length;have hlen:tmps.toList.length=σ.slots.length:=by simp [hl]
 simp only[cC] at h1 h2;rw[cM rfl,cM hlen] at h1;rw[cN rfl,cN hlen] at h2;obtain⟨u,us,he2,r1,_⟩:=h2;simp only[dc] at he2;obtain⟨rfl,_⟩:=he2;exact⟨{S with slots:=h1,defers:=S.defers},r1⟩
def lQ.agh(S:lQ C φ σ {tmps,defers:=ds} w)(h:nr (C.env φ σ.heap w) x v):lQ C φ {σ with slots:=σ.slots++[x]} {tmps:=tmps.push v,defers:=ds} w:=by
 refine {S with slots:= ?_,defers:=S.defers};have hv:kf (C.env φ σ.heap w) [x] [v]:=⟨v,[],rfl,h,rfl⟩;simp only[cC];exact S.slots.append hv
def lQ.len(S:lQ C φ σ {tmps,defers:=ds} w):σ.slots.length=tmps.size:=by
 have:=S.slots.length;simpa using this.symm
def lQ.axV(S:lQ C φ {σ with slots:=σ.slots++[x]} {tmps:=tmps.push v,defers:=ds} w):σ.slots.length=tmps.size:=by
 have:=S.slots.length;simp at this;exact this.symm
def lQ.pop{d:Deferred}(S:lQ C φ σ {tmps,defers:=d::ds} w)(hm:XR d=false):
 ∃f xs df' cap,σ.df=(f,xs)::df'/\d.target= .fn (.func f) cap/\kf (C.env φ σ.heap w) xs (d.args++cap).toList/\lQ C φ {σ with df:=df'} {tmps,defers:=ds} w:=by
 obtain⟨h1,h2,h3⟩:=S.defers;simp only[dn,hm,Bool.not_false,jD,dh,if_false] at h1 h3;cases RZ:σ.df with
 |nil=>rw[RZ] at h3;cases h3
 |cons p df'=>
  obtain⟨f,xs⟩:=p;rw[RZ] at h3;obtain⟨d',s,cap,he,ht,hr,qD⟩:=h3;simp only[dc] at he;obtain⟨rfl,rfl⟩:=he;exact⟨f,xs,df',cap,rfl,ht,hr,{S with slots:=S.slots,defers:=⟨h1,fun d' hd'=>h2 d' (List.mem_cons_of_mem _ hd'),qD⟩}⟩
def acC{d:Deferred}{cap:Array Value}(ht:d.target= .fn (.func f) cap)(he:enters P f=true):(invoke d.target d.args).run P w= .ok (.enter f (d.args++cap)) w:=by
 unfold enters at he;split at he
 ·rename_i fn hfn;simp only[cj,bne_iff_ne,ne_eq] at he;have hnone:fn.body≠none:=by intro hb;simp [hb] at he
  simp [ht,invoke,callFunc,hfn,he.2,hnone]
 ·cases he
def Xm{fn:Func}{R:Ending->World->Prop}{fin:Option AV->jI->Prop}
 (hr: ∀φ σ w,lQ C φ σ {tmps,defers:=[]} w->fin none σ-> ∃v,(results fn tmps).run C.P w= .ok v w/\R (.returned v) w)
 (hp: ∀φ σ x v w,lQ C φ σ {tmps,defers:=[]} w->nr (C.env φ σ.heap w) x v->fin (some x) σ->R (.panicked [{v,recovered:=false}]) w):
 ∀ (ds:List Deferred),
   (∀φ σ w,lQ C φ σ {tmps,defers:=ds} w->Yh C.P fin σ.df none σ->LeavesInM ct 0 C.P fn tmps R ds .returning w)/\
   (∀φ σ x v w,lQ C φ {σ with slots:=σ.slots++[x]} {tmps:=tmps.push v,defers:=ds} w->Yh C.P fin σ.df (some x) σ->LeavesInM ct 0 C.P fn tmps R ds (.panicking [{v,recovered:=false}]) w)
 |[]=>by
  refine⟨fun φ σ w S h=> ?_,fun φ σ x v w S h=> ?_⟩
  ·have hd:σ.df=[]:=by
    have:=S.defers.2.2;cases RZ:σ.df with
    |nil=>rfl
    |cons p r=>rw[RZ] at this;obtain⟨_,_,_,h,_⟩:=this;cases h
   rw[hd] at h;exact hr φ σ w S h
  ·obtain⟨S',hx⟩:=S.akS S.axV
   have hd:σ.df=[]:=by
    have:=S'.defers.2.2;cases RZ:σ.df with
    |nil=>rfl
    |cons p r=>rw[RZ] at this;obtain⟨_,_,_,h,_⟩:=this;cases h
   rw[hd] at h;exact hp φ σ x v w S' hx h
 |d::ds=>by
  obtain⟨ihr,ihp⟩:=Xm hr hp ds;refine⟨fun φ σ w S h=> ?_,fun φ σ x v w S h=> ?_⟩
  ·cases hm:XR d with
   |true=>
    obtain⟨D,hD,_⟩:=S.defers.2.1 d (cO) hm;subst hD;obtain⟨h1,S'⟩:=S.Yd;exact⟨by simp,.inl ⟨D,_,rfl,run_takeDeferred h1,ihr φ σ _ S' h⟩⟩
   |false=>
    obtain⟨f,xs,df',cap,RZ,ht,hxs,S'⟩:=S.pop hm;rw[RZ] at h;obtain⟨he,hc⟩:=h;refine⟨by simp,.inr ⟨fun h=>by simp [ct] at h,_,cap,f,d.args++cap,ht,acC ht he,fun _ _=>trivial,?_⟩⟩;refine ua (hc C φ _ w rfl S' _ hxs) ?_;rintro e u' w' ⟨r,rfl,hs,o,φ',H',hK,S2,qE⟩;cases o with
    |ret r'=>
     simp only;rw[hs];exact ihr φ' _ w' S2 hK
    |panic _=>exact hK.elim
  ·cases hm:XR d with
   |true=>
    obtain⟨D,hD,_⟩:=S.defers.2.1 d (cO) hm;subst hD;obtain⟨h1,S'⟩:=S.Yd;exact⟨by simp,.inl ⟨D,_,rfl,run_takeDeferred h1,ihp φ σ x v _ S' h⟩⟩
   |false=>
    obtain⟨S1,hx⟩:=S.akS S.axV;obtain⟨f,xs,df',cap,RZ,ht,hxs,S'⟩:=S1.pop hm;rw[RZ] at h;obtain⟨he,hc⟩:=h;refine⟨by simp,.inr ⟨fun h=>by simp [ct] at h,_,cap,f,d.args++cap,ht,acC ht he,fun _ _=>trivial,?_⟩⟩
    have hargs:kf (C.env φ σ.heap w) (xs++[x]) ((d.args++cap).push v).toList:=by
     have hv:kf (C.env φ σ.heap w) [x] [v]:=⟨v,[],rfl,hx,rfl⟩;rw[cC];exact hxs.append hv
    refine ua (hc C φ _ w rfl S' _ hargs _ v rfl) ?_;rintro e u' w' ⟨r,rfl,⟨hs,o,φ',H',hK,S2,qE⟩|⟨v',hs,o,φ',H',hK,S2,qE⟩⟩
    ·cases o with
     |ret r'=>
      simp only;rw[hs];exact ihr φ' _ w' S2 hK
     |panic _=>exact qE.elim
    ·cases o with
     |ret r'=>exact qE.elim
     |panic x'=>
      simp only;rw[hs];obtain⟨v2,hv2,hr2⟩:=qE;simp only[dc,PanicEntry.mk.injEq,and_true] at hv2;subst hv2;exact ihp φ' _ x' _ w' (S2.agh hr2) hK
end unw
def ZJ(P:Program)(rs:List ResultVar)(V:sv->List jS->Prop):Option AV->jI->Prop
 |none,σ=> ∃x,JQ P σ rs=some x/\ ∃r H',Xl σ x r H'/\V (.ret r) H'
 |some x,σ=> ∃r H',Xl σ x r H'/\V (.panic r) H'
def avz(P:Program)(rs:List ResultVar)(V:sv->List jS->Prop):mc->jI->Prop
 | .normal,σ=>Yh P (ZJ P rs V) σ.df none σ
 | .ret,σ=>Yh P (ZJ P rs V) σ.df none σ
 | .panic x,σ=>Yh P (ZJ P rs V) σ.df (some x) σ
 |_,_=>False
def aie{fn:Func}(hf:P.funcs[f]? =some fn)(hb:fn.body=some c)(hne:(fn.name != "runtime.NumGoroutine")=true)(hnb:uB H.length args)
 (EB: ∀x∈H,pM H.length x) (hn:fn.ntmps=n) (Oc:fn.results=rs.toArray)
 (h:awp P c (avz P rs V) {slots:=args++cq (n-args.length) .any,heap:=H,low:=H.length}):FnG P f args H V:=by
 refine⟨?_,hnb,EB,fun C φ w hP h0 hN0 hφ0 hM HS vs hr=> ?_⟩
 ·unfold enters;rw[hf];simp only[hb,dH,Bool.true_and];exact hne
 ·subst hP;refine(callsIn_wide (n:=0)).1 (callsIn_of_wp_marks hf hb trivial ?_);have hsz:vs.size=args.length:=by have:=hr.length;simpa using this
  have S:lQ C φ {slots:=args++cq (n-args.length) .any,heap:=H,low:=H.length} {tmps:=vs++cn (fn.ntmps-vs.size) undef,defers:=[]} w:=by
   refine {HS with slots:= ?_,defers:=qh.nil};simp only[cT,cW];refine hr.append ?_;rw[hsz,hn];have:=kf.Be (E:=C.env φ H w) (cq (n-args.length) undef);simpa using this
  refine wpIn_mono (uE (ro:=none) c _ φ _ _ w (.inl rfl) h S) ?_;intro e a' w' hq;have DL: ∀{φ':Nat->Value}{σ':jI}{a'':Act}{w'':World},lQ C φ' σ' a'' w''->σ'.low=H.length:=fun S'=>by rw[<-S'.low.1];exact hN0
  have fin:=Xm (C:=C) (tmps:=a'.tmps) (fn:=fn) (R:=fun e w'=> ∃o φ' H',V o H'/\lQ C φ' {slots:=[],heap:=H',low:=H.length} {tmps:= #[],defers:=[]} w'/\o.Vv (C.env φ' H' w') e) (fin:=ZJ C.P rs V)
   (by
     rintro φ' σ' w' S' ⟨x,hx,r,H',hex,hV⟩;obtain⟨v,hv,rv⟩:=IE (fn:=fn) S' (by rw[Oc];exact hx);obtain⟨φ2,S2,hr2⟩:=hex C φ' _ w' S' v rv;rw[DL S'] at S2;exact⟨v,hv,.ret r,φ2,H',hV,S2,hr2⟩)
   (by
     rintro φ' σ' x v w' S' hx ⟨r,H',hex,hV⟩;obtain⟨φ2,S2,hr2⟩:=hex C φ' _ w' S' v hx;rw[DL S'] at S2;exact⟨.panic r,φ2,H',hV,S2,v,rfl,hr2⟩) a'.defers
  cases e with
  |normal=>obtain⟨φ',σ',S',hq⟩:=hq;exact fin.1 φ' σ' w' S' hq
  |ret=>obtain⟨φ',σ',S',hq⟩:=hq;exact fin.1 φ' σ' w' S' hq
  |exit id=>obtain⟨_,_,_,hq⟩:=hq;exact hq.elim
  |goto l=>obtain⟨_,_,_,hq⟩:=hq;exact hq.elim
  |panic chain=>
   obtain⟨φ',σ',x,v,S',hq,hch,qE⟩:=hq;subst hch;exact fin.2 φ' σ' x v w' (lQ.agh (tmps:=a'.tmps) (ds:=a'.defers) S' qE) hq
  |outgrown=>exact hq.elim
def aoc(P:Program)(rs:List ResultVar)(V:AV->Prop):Option AV->jI->Prop
 |none,σ=>aob V σ.heap (JQ P σ rs)
 |some _,_=>False
def aqj(P:Program)(rs:List ResultVar)(V:AV->Prop):mc->jI->Prop
 | .normal,σ=>Yh P (aoc P rs V) σ.df none σ
 | .ret,σ=>Yh P (aoc P rs V) σ.df none σ
 | .panic x,σ=>Yh P (aoc P rs V) σ.df (some x) σ
 |_,_=>False
def agi {fn:Func} {V:AV->Prop} (hf:P.funcs[f]? =some fn) (hb:fn.body=some c) (hne:(fn.name != "runtime.NumGoroutine")=true) (hnb:uB 0 args)
 (h:awp P c (aqj P fn.results.toList V) {slots:=args++cq (fn.ntmps-args.length) .any,heap:=[]}):GP P f args V:=by
 refine⟨?_,hnb,fun C φ w hP h0 hN hM vs hr=> ?_⟩
 ·unfold enters;rw[hf];simp only[hb,dH,Bool.true_and];exact hne
 ·subst hP;refine (callsIn_wide (n:=0)).1 (callsIn_of_wp_marks hf hb trivial ?_);have hsz:vs.size=args.length:=by have:=hr.length;simpa using this
  have S:lQ C φ {slots:=args++cq (fn.ntmps-args.length) .any,heap:=[]} {tmps:=vs++cn (fn.ntmps-vs.size) undef,defers:=[]} w:=by
   refine {slots:= ?_,defers:=qh.nil,mV:=by simp,apart:=by simp,rz:=by simp,size:=by rw[h0];exact cm _,old:=fun b o _ _=>by rw[h0],mF:=fun b _ _=>by rw[h0],Bi:=by simp,tX:=fun x _=>by rw[h0],rest:=by rw[h0];exact⟨rfl,rfl⟩,low:=⟨hN,cm _⟩,names:=fun l hl=>by rw[hN] at hl;exact absurd hl (cw _)};simp only[cT,cW];refine hr.append ?_;rw[hsz];have:=kf.Be (E:=C.env φ [] w) (cq (fn.ntmps-args.length) undef);simpa using this
  refine wpIn_mono (uE (ro:=none) c _ φ _ _ w (.inl rfl) h S) ?_;intro e a' w' hq
  have fin:=Xm (C:=C) (tmps:=a'.tmps) (fn:=fn) (R:=fun e w'=> ∃r v φ',V r/\e= .returned v/\nr (C.env φ' [] w') r v/\w.heap.size<=w'.heap.size/\(∀b,b<w.heap.size->w'.heap[b]? =w.heap[b]?)/\
        (∀x,x.block<w.heap.size->w'.frozen? x=w.frozen? x)/\w'.output=w.output/\w'.os=w.os) (fin:=aoc C.P fn.results.toList V)
   (by
     intro φ' σ' w' S' hend;simp only[aoc] at hend;cases hx:JQ C.P σ' fn.results.toList with
     |none=>rw[hx] at hend;exact hend.elim
     |some x=>
     rw[hx] at hend;obtain⟨hn,r0,hsub,hV⟩:=hend;obtain⟨v,hv,rv⟩:=IE S' hx;refine⟨v,hv,_,v,φ',hV,rfl,hsub _ _ (by have:=ZA S' (S'.avs (by rw[<-S'.low.1];exact hN)) x v;rw[<-S'.low.1,hN] at this;exact this hn rv),?_,?_,?_,?_⟩
     ·rw[<-h0];exact S'.size
     ·intro b hb;rw[<-h0];exact S'.mF b (by rw[h0];exact hb) (fun o=>hM b o)
     ·intro y hy;rw[<-h0];exact S'.tX y (by rw[h0];exact hy)
     ·rw[<-h0];exact S'.rest)
   (by
     intro φ' σ' x v w' S' hx hend;exact hend.elim) a'.defers
  cases e with
  |normal=>obtain⟨φ',σ',S',hq⟩:=hq;exact fin.1 φ' σ' w' S' hq
  |ret=>obtain⟨φ',σ',S',hq⟩:=hq;exact fin.1 φ' σ' w' S' hq
  |exit id=>obtain⟨_,_,_,hq⟩:=hq;exact hq.elim
  |goto l=>obtain⟨_,_,_,hq⟩:=hq;exact hq.elim
  |panic chain=>
   obtain⟨φ',σ',x,v,S',hq,hch,qE⟩:=hq;subst hch;exact fin.2 φ' σ' x v w' (lQ.agh (tmps:=a'.tmps) (ds:=a'.defers) S' qE) hq
  |outgrown=>exact hq.elim
attribute [go_sem] AV.n9 qu CP jS.n9 sv.n9 mJ tv pT PQ avz
def Od:List AV->List Tmp->List AV->List AV
 |s,p::ps,x::xs=>Od (s.set p x) ps xs
 |s,_,_=>s
def afg{E:Env}: ∀{ps:List Tmp}{xs:List AV}{vs:List Value}{s:List AV}{t:Array Value},kf E xs vs->kf E s t.toList->
 kf E (Od s ps xs) ((ps.zip vs).foldl (fun t (p:Tmp×Value)=>t.setIfInBounds p.1 p.2) t).toList
 |[],_,_,_,_,_,h=>by simpa [Od] using h
 |_::_,[],_,_,_,rfl,h=>by simpa [Od] using h
 |p::ps,x::xs,_,s,t,⟨u,us,rfl,r1,r2⟩,h=>by
  simp only[Od,List.zip_cons_cons,List.foldl_cons];refine afg r2 ?_;have:=h.set (i:=p) r1
  grind
def acD:mc->Option (Option Code)
 | .normal=>some none
 | .ret=>some (some .ret)
 | .exit id=>some (some (.exit id))
 |_=>none
def am5(V:sv->List jS->Prop)(e:mc)(σ:jI):Prop:=
 ∃j k s,acD e=some (om k.js j)/\σ.heap[0]? =some (.loop k s .busy 0)/\ ∃r H',Xl {σ with heap:=σ.heap.set 0 (.loop k s (stP (om k.js j)) j)} (.bool (om k.js j).isNone) r H'/\V (.ret r) H'
def agj{k:u5}(hH:H[0]? =some (.loop k slots .ready 0))
 (hnb:uB H.length args) (EB: ∀x∈H,pM H.length x) (hn:uD k.assign=true/\uD k.body=true)
 (h:awp P k.assign (mc.then (fun σ1=> ∃k1 s1,σ1.heap[0]? =some (.loop k1 s1 .ready 0)/\awp P k.body (am5 V) {σ1 with heap:=σ1.heap.set 0 (.loop k1 s1 .busy 0)}) (fun _ _=>False))
   {slots:=Od slots k.ps.toList args,heap:=H,low:=H.length}):FnT P (SM P) args H V:=by
 refine⟨hnb,EB,fun C φ w hP h0 hN hφ0 hM HS vs hr D rec hφ hw=> ?_⟩;subst hP;have hpos:0<H.length:=(b9.1 hH).1
 have aqk: ∀{φ':Nat->Value}{σ':jI}{a':Act}{w':World},lQ C φ' σ' a' w'->φ' 0= .func (.yield (D+1)) #[] #[]:=by
  intro φ' σ' a' w' S';rcases S'.names 0 (by omega) with⟨h1,_⟩|⟨⟨n,h1,_⟩,_⟩
  ·rw[h1,(hφ0 0 hpos).1];exact hφ
  ·rw[(hφ0 0 hpos).2,hH] at h1;cases h1
 have DL: ∀{φ':Nat->Value}{σ':jI}{a':Act}{w':World},lQ C φ' σ' a' w'->σ'.low=H.length:=fun S'=>by rw[<-S'.low.1];exact hN
 have Ju: ∀{φ':Nat->Value}{σ':jI}{a':Act}{w':World}{k:u5}{s:List AV}{st:LoopState}{c:Int},lQ C φ' σ' a' w'->σ'.heap[0]? =some (.loop k s st c)->
  ∃SV,w'.heap[D+1]? =some (.loop SV)/\(SV.params=k.ps/\SV.assign=k.assign/\SV.body=k.body/\SV.state=st/\SV.pending=om k.js c/\SV.defers=D)/\kf (C.env φ' σ'.heap w') s SV.tmps.toList:=by
  intro φ' σ' a' w' k s st c S' h0;obtain⟨D',SV,e1,g1,g2,g3,rl⟩:=S'.mV 0 _ h0;rw[aqk S'] at e1;simp only[cZ,Fn.yield.injEq,cJ,and_true] at e1;subst e1;exact⟨SV,g1,g3,rl⟩
 obtain⟨aAM,g1,g3,rl⟩:=Ju HS hH;rw[hw] at g1;cases g1;rw[g3.1,g3.2.1,g3.2.2.1];refine roundIn_of_wpIn (F:=ct) trivial ?_
 have S:lQ C φ {slots:=Od slots k.ps.toList args,heap:=H,low:=H.length} {tmps:=(k.ps.zip vs).foldl (fun tmps (t,a)=>tmps.setIfInBounds t a) rec.tmps,defers:=[]} w:=by
  refine {HS with slots:= ?_,defers:=qh.nil};have:=afg (ps:=k.ps.toList) hr rl
  grind [Array.toList_zip]
 refine wpIn_mono (uE (ro:=some (D+1)) k.assign _ φ _ _ w (.inr hn.1) h S) ?_;intro e a1 w1 hq;cases e with
 |exit id=>obtain⟨_,_,_,hq⟩:=hq;exact hq.elim
 |goto l=>obtain⟨_,_,_,hq⟩:=hq;exact hq.elim
 |ret=>obtain⟨_,_,_,hq⟩:=hq;exact hq.elim
 |panic ch=>obtain⟨_,_,_,_,_,hq,_⟩:=hq;exact hq.elim
 |outgrown=>exact hq.elim
 |normal=>
  obtain⟨φ1,σ1,S1,k1,s1,hH1,hbody⟩:=hq;obtain⟨axW,kk,k3,_⟩:=Ju S1 hH1;refine⟨_,run_beginRound kk k3.2.2.2.1,?_⟩;have S2:=S1.agd (st':= .busy) (IF:=0) hH1 (aqk S1) kk
  have e2:({axW with state:= .busy,pending:=om k1.js 0}:Loop)={axW with state:= .busy}:=by
   rw[<-k3.2.2.2.2.1]
  rw[e2] at S2;refine wpIn_mono (uE (ro:=some (D+1)) k.body _ _ _ _ _ (.inr hn.2) hbody S2) ?_
  have fin: ∀(e:mc)(c:Option Code)(φ2:Nat->Value)(σ2:jI)(a2:Act)(w3:World),acD e=some c->lQ C φ2 σ2 a2 w3->am5 V e σ2->
   ∃v w',(Instr.endRound (D+1) c).run C.P w3= .ok v w'/\ ∃o φ' H',V o H'/\lQ C φ' {slots:=[],heap:=H',low:=H.length} {tmps:= #[],defers:=[]} w'/\o.Vv (C.env φ' H' w') (.returned v):=by
   rintro e c φ2 σ2 a2 w3 hj S3 ⟨j,k2,s2,hj',hH2,r,H',hex,hV⟩;rw[hj] at hj';obtain rfl:c=om k2.js j:=Option.some.inj hj';obtain⟨aAN,m1,m3,_⟩:=Ju S3 hH2;have S4:=S3.agd (st':=stP (om k2.js j)) (IF:=j) hH2 (aqk S3) m1;have hend:=run_endRound (P:=C.P) (om k2.js j) m1;have est:(if (om k2.js j).isNone then LoopState.ready else .done)=stP (om k2.js j):=by cases om k2.js j<;>rfl
   rw[est] at hend;obtain⟨φ5,S5,hr5⟩:=hex C φ2 a2 _ S4 (.bool (om k2.js j).isNone) rfl;rw[show σ2.low=H.length from DL S3] at S5;exact⟨_,_,hend,.ret r,φ5,H',hV,S5,hr5⟩
  intro e a2 w3 hq;cases e with
  |normal=>obtain⟨φ2,σ2,S3,hq⟩:=hq;exact fin .normal none φ2 σ2 a2 w3 rfl S3 hq
  |ret=>obtain⟨φ2,σ2,S3,hq⟩:=hq;exact fin .ret _ φ2 σ2 a2 w3 rfl S3 hq
  |exit id=>obtain⟨φ2,σ2,S3,hq⟩:=hq;exact fin (.exit id) _ φ2 σ2 a2 w3 rfl S3 hq
  |goto l=>obtain⟨_,_,_,_,_,_,hq,_⟩:=hq;cases hq
  |panic ch=>obtain⟨_,_,_,_,_,⟨_,_,_,hq,_⟩,_⟩:=hq;cases hq
  |outgrown=>exact hq.elim
def child:Nat->Code->Code
 |0,.seq x _=>x
 |1,.seq _ y=>y
 |0,.cond _ x _=>x
 |1,.cond _ _ y=>y
 |0,.block _ x=>x
 |0,.loop x=>x
 |0,.scope x=>x
 |_,_=> .skip
def sub:List Nat->Code->Code
 |[],c=>c
 |d::p,c=>child d (sub p c)
inductive Kt where
 |at (p:List Nat)
 |cut (p:List Nat)
 |ops (ops:Array Oper) (rest:List Oper)
 |LN (p:List Nat) (rest:List Oper) (j:Nat) (tr:List Tr)
 |blk (id:Nat)
 |lp (m:Nat) (p:List Nat)
 |lq (m:Nat) (p:List Nat)
 |rb
 |rd
def akT(σ:jI):Option jS->Option jI
 |some (.loop k s .ready 0)=>some {σ with heap:=σ.heap.set 0 (.loop k s .busy 0)}
 |_=>none
def ZK(σ:jI):Option jI:=akT σ σ.heap[0]?
section

def akU:Code->Array Oper
 | .region _ ops _=>ops
 |_=> #[]
def qv(M:kD R)(p:List Nat):Array Oper:=akU (sub p M.body)
def vX(M:kD R):Kt->jI->Option (mc×jI)
 | .at p,σ=>exec M (sub p M.body) p σ
 | .cut p,σ=>(M.cut p σ).map fun σ'=>(.normal,σ')
 | .ops ops rest,σ=>sj M ops rest σ
 | .LN p rest j tr,σ=>FI M (qv M p) rest j tr σ
 | .blk _,σ=>some (.normal,σ)
 | .lp m p,σ=>(M.sx p σ).bind (lqN (M.sx p) (exec M (sub (0::p) M.body) (0::p)) m)
 | .lq m p,σ=>lqN (M.sx p) (exec M (sub (0::p) M.body) (0::p)) m σ
 | .rb,σ=>(ZK σ).map fun σ'=>(.normal,σ')
 | .rd,_=>none
def fin(M:kD R):List Kt->mc->jI->Option R
 |[],.normal,σ=>M.out σ
 |[],.ret,σ=>M.out σ
 |[],.panic x,σ=>M.nB x σ
 |[],_,_=>none
 | .rd::_,e,σ=>M.nE e σ
 | .blk id::k,.exit id',σ=>if id'=id then fin M k .normal σ else fin M k (.exit id') σ
 |x::k,.normal,σ=>match vX M x σ with
  |some (e,σ')=>fin M k e σ'
  |none=>none
 |_::k,e,σ=>fin M k e σ
def run(M:kD R)(k:List Kt)(σ:jI):Option R:=fin M k .normal σ
variable {M:kD R} {k:List Kt}
def asQ:run M [] σ=M.out σ:=rfl
def asR{id:Nat}:run M (.blk id::k) σ=run M k σ:=rfl
theorem n5{x:Kt}(h: ∀id,x≠ .blk id)(h2:x≠ .rd:=by simp):fin M (x::k) .normal σ=match vX M x σ with
 |some (e,σ')=>fin M k e σ'
 |none=>none:=by
 cases x<;>first|rfl|exact absurd rfl (h _)|exact absurd rfl h2
def aif:run M (.ops ops []::k) σ=run M k σ:=rfl
def agk:run M (.LN p [] j tr::k) σ=run M k σ:=rfl
def behind(id:Nat):List Kt->Option (List Kt)
 |[]=>none
 | .blk id'::k=>if id=id' then some k else behind id k
 | .rd::_=>none
 |_::k=>behind id k
def axX:Kt->Bool
 | .rd=>true
 |_=>false
def aig:List Kt->Bool
 |[]=>false
 |x::k=>axX x||aig k
def DN{id:Nat}: ∀{k k':List Kt},behind id k=some k'->fin M k (.exit id) σ=run M k' σ
 |[],_,h=>by simp [behind] at h
 | .blk id'::k,k',h=>by
   simp only[behind] at h;split at h
   ·rename_i e;cases h;subst e;simp only[fin,jD];rfl
   ·rename_i e;simp only[fin,e,if_false];exact DN h
 | .at _::k,k',h=>DN (k:=k) (by simpa [behind] using h)
 | .cut _::k,k',h=>DN (k:=k) (by simpa [behind] using h)
 | .ops _ _::k,k',h=>DN (k:=k) (by simpa [behind] using h)
 | .LN _ _ _ _::k,k',h=>DN (k:=k) (by simpa [behind] using h)
 | .lp _ _::k,k',h=>DN (k:=k) (by simpa [behind] using h)
 | .lq _ _::k,k',h=>DN (k:=k) (by simpa [behind] using h)
 | .rb::k,k',h=>DN (k:=k) (by simpa [behind] using h)
 | .rd::k,k',h=>by simp [behind] at h
def DO{id:Nat}: ∀{k:List Kt},behind id k=none->fin M k (.exit id) σ=bif aig k then M.nE (.exit id) σ else none
 |[],_=>rfl
 | .blk id'::k,h=>by
   simp only[behind] at h;split at h
   ·cases h
   ·rename_i e;simp only[fin,e,if_false];exact DO h
 | .rb::k,h=>DO (k:=k) (by simpa [behind] using h)
 | .rd::k,h=>rfl
 | .at _::k,h=>DO (k:=k) (by simpa [behind] using h)
 | .cut _::k,h=>DO (k:=k) (by simpa [behind] using h)
 | .ops _ _::k,h=>DO (k:=k) (by simpa [behind] using h)
 | .LN _ _ _ _::k,h=>DO (k:=k) (by simpa [behind] using h)
 | .lp _ _::k,h=>DO (k:=k) (by simpa [behind] using h)
 | .lq _ _::k,h=>DO (k:=k) (by simpa [behind] using h)
def Ii: ∀{k:List Kt},fin M k .ret σ=bif aig k then M.nE .ret σ else M.out σ
 |[]=>rfl
 | .rb::k=>Ii (k:=k)
 | .rd::k=>rfl
 | .blk _::k=>Ii (k:=k)
 | .at _::k=>Ii (k:=k)
 | .cut _::k=>Ii (k:=k)
 | .ops _ _::k=>Ii (k:=k)
 | .LN _ _ _ _::k=>Ii (k:=k)
 | .lp _ _::k=>Ii (k:=k)
 | .lq _ _::k=>Ii (k:=k)
def agl(M:kD R)(x:AV)(σ:jI)(k:List Kt):Option R:=bif aig k then M.nE (.panic x) σ else M.nB x σ
theorem yL{x:AV}: ∀{k:List Kt},fin M k (.panic x) σ=agl M x σ k
 |[]=>rfl
 | .rb::k=>yL (k:=k)
 | .rd::k=>rfl
 | .blk _::k=>yL (k:=k)
 | .at _::k=>yL (k:=k)
 | .cut _::k=>yL (k:=k)
 | .ops _ _::k=>yL (k:=k)
 | .LN _ _ _ _::k=>yL (k:=k)
 | .lp _ _::k=>yL (k:=k)
 | .lq _ _::k=>yL (k:=k)
def afh(M:kD R)(σ:jI)(id:Nat)(k:List Kt):Option (List Kt)->Option R
 |some k=>run M k σ
 |none=>bif aig k then M.nE (.exit id) σ else none
def akV{id:Nat}{k k':List Kt}:afh M σ id k (some k')=run M k' σ:=rfl
def akW{id:Nat}{k:List Kt}:afh M σ id k none=bif aig k then M.nE (.exit id) σ else none:=rfl
def aql(M:kD R)(σ:jI)(k:List Kt):Option R:=bif aig k then M.nE .ret σ else M.out σ
def acE(M:kD R)(k:List Kt)(σ:jI):Option Code->Option R
 |none=>run M k σ
 |some .ret=>aql M σ k
 |some (.exit id)=>afh M σ id k (behind id k)
 |_=>none
def acF(M:kD R)(k:List Kt)(σ:jI)(H':List jS):Option jS->Option R
 |some (.loop lk _ st qP)=>lU (st=stP (om lk.js qP)) (acE M k {σ with heap:=H'.set σ.heap.length .dead} (om lk.js qP))
 |_=>none
def Xn(M:kD R)(k:List Kt)(σ:jI):Option (AV×List jS)->Option R
 |some (_,H')=>acF M k σ H' H'[σ.heap.length]?
 |none=>none
def am6(M:kD R)(lk:u5)(k:List Kt)(σ:jI):AV->Option R
 | .func (.func f) first cap=>Xn M k σ (M.cl f (first++[.map σ.heap.length]++cap) (σ.heap++[.loop lk σ.slots .ready 0]))
 |_=>none
def akX:acE M k σ none=run M k σ:=rfl
def aod:acE M k σ (some .ret)=aql M σ k:=rfl
def akY{id:Nat}:acE M k σ (some (.exit id))=afh M σ id k (behind id k):=rfl
theorem aih{st:LoopState}:acF M k σ H' (some (.loop lk s st qP))=lU (st=stP (om lk.js qP)) (acE M k {σ with heap:=H'.set σ.heap.length .dead} (om lk.js qP)):=rfl
def aii:Xn M k σ (some (r,H'))=acF M k σ H' H'[σ.heap.length]? :=rfl
def aij:Xn M k σ none=none:=rfl
def aik{o:Option α}{f:α->Option (AV×List jS)}:Xn M k σ (o.bind f)=o.bind fun x=>Xn M k σ (f x):=by cases o<;>rfl
def akZ {cap:List AV}:am6 M lk k σ (.func (.func f) first cap)=Xn M k σ (M.cl f (first++[.map σ.heap.length]++cap) (σ.heap++[.loop lk σ.slots .ready 0])):=rfl
def ZL(M:kD R)(c:Operand)(p:List Nat)(k:List Kt)(σ:jI):AV->Option R
 | .bool b=>bif b then run M (.at (0::p)::k) (acv c true σ) else run M (.at (1::p)::k) (acv c false σ)
 |_=>none
def ail{c:Operand}:ZL M c p k σ (.bool true)=run M (.at (0::p)::k) (acv c true σ):=rfl
def agm{c:Operand}:ZL M c p k σ (.bool false)=run M (.at (1::p)::k) (acv c false σ):=rfl
def ak0{c:Operand}:ZL M c p k σ (.bool b)=bif b then run M (.at (0::p)::k) (acv c true σ) else run M (.at (1::p)::k) (acv c false σ):=rfl
def tw(M:kD R)(p:List Nat):Bool:=
 match sub p M.body with
 | .region _ ops _=>Ez ops
 |_=>false
def asS(js:List (Int×Code)):Code->u5
 | .rangeFunc _ ps as body=>⟨ps,as,body,js⟩
 |_=>⟨#[],.skip,.skip,[]⟩
def lkM(M:kD R)(p:List Nat):u5:=asS (M.js p) (sub p M.body)
def BX(M:kD R)(p:List Nat)(k:List Kt)(σ:jI):Code->Option R
 | .skip=>run M k σ
 | .region _ ops false=>run M (.ops ops ops.toList::k) σ
 | .region _ ops true=>lU (M.P.follows .mixedOrders=true/\tw M p=true) (run M (.LN p ops.toList 0 []::k) σ)
 | .seq _ _=>run M (.at (0::p):: .cut (1::p):: .at (1::p)::k) σ
 | .cond c _ _=>ZL M c p k σ (σ.ev c)
 | .block id _=>run M (.at (0::p):: .blk id::k) σ
 | .loop _=>run M (.lp M.n p::k) σ
 | .exit id=>afh M σ id k (behind id k)
 | .scope _=>run M (.at (0::p)::k) σ
 | .label _=>run M k σ
 | .ret=>aql M σ k
 | .rangeFunc g _ _ _=>am6 M (lkM M p) k σ (σ.ev g)
 |_=>none
theorem aoe{id:Nat}{e:mc}:fin M (.blk id::k) e σ=match (match e with
 | .exit id'=>if id'=id then(mc.normal,σ) else(.exit id',σ)
 |e=>(e,σ)) with
 |(e,σ)=>fin M k e σ:=by
 cases e with
 |exit id'=>
  simp only[fin];split<;>rfl
 |_=>rfl
theorem aim{x:Kt}{e:mc}(h: ∀id,x≠ .blk id)(he:e≠ .normal)(h2:x≠ .rd:=by simp):fin M (x::k) e σ=fin M k e σ:=by
 cases x<;>cases e<;>first|rfl|exact absurd rfl (h _)|exact absurd rfl he|exact absurd rfl h2
def av3:run M (.at p::k) σ=BX M p k σ (sub p M.body):=by
 show fin M (.at p::k) .normal σ=_;rw[n5 (by simp)];simp only[vX];cases hc:sub p M.body with
 |skip=>rfl
 |region id ops b=>
  cases b with
  |false=>
   simp only[exec,BX];show _=fin M (.ops ops ops.toList::k) .normal σ
   grind [n5,vX]
  |true=>
   simp only[exec,BX];show _=lU _ (fin M (.LN p ops.toList 0 []::k) .normal σ)
   grind [n5,vX,tw,qv,akU,lU]
 |seq x y=>
  simp only[exec,BX];show _=fin M (.at (0::p):: .cut (1::p):: .at (1::p)::k) .normal σ;rw[n5 (by simp)];have h0:sub (0::p) M.body=x:=by simp [sub,hc,child]
  have h1:sub (1::p) M.body=y:=by simp [sub,hc,child]
  simp only[vX,h0];cases hx:exec M x (0::p) σ with
  |none=>rfl
  |some r=>
   obtain⟨e1,σ1⟩:=r;cases e1 with
   |normal=>
    simp only;rw[n5 (by simp)];simp only[vX];cases av4:M.cut (1::p) σ1 with
    |none=>rfl
    |some σ2=>
     grind [n5,vX]
   |_=>
    simp_all [aim]
 |cond c x y=>
  simp only[exec,BX];have h0:sub (0::p) M.body=x:=by simp [sub,hc,child]
  have h1:sub (1::p) M.body=y:=by simp [sub,hc,child]
  cases hv:σ.ev c with
  |bool b=>
   simp only[ZL];cases b with
   |true=>
    simp only[ju];show _=fin M (.at (0::p)::k) .normal _
    grind [n5,vX]
   |false=>
    simp only[jv];show _=fin M (.at (1::p)::k) .normal _
    grind [n5,vX]
  |_=>rfl
 |block id x=>
  simp only[exec,BX];have h0:sub (0::p) M.body=x:=by simp [sub,hc,child]
  show _=fin M (.at (0::p):: .blk id::k) .normal σ
  grind [n5,vX,aoe]
 |loop x=>
  simp only[exec,BX];have h0:sub (0::p) M.body=x:=by simp [sub,hc,child]
  show _=fin M (.lp M.n p::k) .normal σ
  grind [n5,vX]
 |exit id=>
  simp only[exec,BX];cases hb:behind id k with
  |none=>exact DO hb
  |some k'=>exact DN hb
 |scope x=>
  simp only[exec,BX];have h0:sub (0::p) M.body=x:=by simp [sub,hc,child]
  show _=fin M (.at (0::p)::k) .normal σ
  grind [n5,vX]
 |label l=>rfl
 |ret=>exact Ii
 |goto l=>rfl
 |rangeFunc g ps as body=>
  have hlk:lkM M p=⟨ps,as,body,M.js p⟩:=by simp only[lkM,hc,asS]
  simp only[exec,BX,hlk];cases hv:σ.ev g with
  |func fn first cap=>
   cases fn with
   |func f=>
    simp only[aqf,am6];cases hcl:M.cl f (first++[.map σ.heap.length]++cap) (σ.heap++[.loop ⟨ps,as,body,M.js p⟩ σ.slots .ready 0]) with
    |none=>rfl
    |some q=>
     obtain⟨r,H'⟩:=q;simp only[Xn];cases hH:H'[σ.heap.length]? with
     |none=>rfl
     |some x=>
      cases x with
      |loop lk s st qP=>
       simp only[asJ,acF];by_cases hst:st=stP (om lk.js qP)
       ·simp only[lU,if_pos hst];generalize om lk.js qP=pc;cases pc with
        |none=>rfl
        |some c=>
         cases c with
         |ret=>exact Ii
         |exit id=>
          simp only[ah9,acE];cases hb:behind id k with
          |none=>exact DO hb
          |some k'=>exact DN hb
         |_=>rfl
       ·simp only[lU,if_neg hst]
      |_=>rfl
   |_=>rfl
  |_=>rfl
 |refuse s=>rfl
def ak1:BX M p k σ .skip=run M k σ:=rfl
def agn{id:Nat}:BX M p k σ (.region id ops false)=run M (.ops ops ops.toList::k) σ:=rfl
def ak2{id:Nat}:BX M p k σ (.region id ops true)=lU (M.P.follows .mixedOrders=true) (lU (tw M p=true) (run M (.LN p ops.toList 0 []::k) σ)):=by
 rw[<-Vy];rfl
def aof{x y:Code}:BX M p k σ (.seq x y)=run M (.at (0::p):: .cut (1::p):: .at (1::p)::k) σ:=rfl
def ak3{c:Operand}{x y:Code}:BX M p k σ (.cond c x y)=ZL M c p k σ (σ.ev c):=rfl
def ain{id:Nat}{x:Code}:BX M p k σ (.block id x)=run M (.at (0::p):: .blk id::k) σ:=rfl
def ak4{x:Code}:BX M p k σ (.loop x)=run M (.lp M.n p::k) σ:=rfl
def ak5{id:Nat}:BX M p k σ (.exit id)=afh M σ id k (behind id k):=rfl
def aio {as:Code}:BX M p k σ (.rangeFunc g ps as body)=am6 M (lkM M p) k σ (σ.ev g):=rfl
def aip{x:Code}:BX M p k σ (.scope x)=run M (.at (0::p)::k) σ:=rfl
def aiq:BX M p k σ (.label l)=run M k σ:=rfl
def aog:BX M p k σ .ret=aql M σ k:=rfl
def av5:run M (.rb::k) σ=(ZK σ).bind fun σ'=>run M k σ':=by
 show fin M (.rb::k) .normal σ=_;rw[n5 (by simp)];simp only[vX];cases ZK σ<;>rfl
def av6:run M (.rd::k) σ=M.nE .normal σ:=rfl
def asU:run M (.cut p::k) σ=(M.cut p σ).bind fun σ'=>run M k σ':=by
 show fin M (.cut p::k) .normal σ=_;rw[n5 (by simp)];simp only[vX];cases M.cut p σ<;>rfl
def av7:run M (.lp m p::k) σ=(M.sx p σ).bind fun σ'=>run M (.lq m p::k) σ':=by
 show fin M (.lp m p::k) .normal σ=_;rw[n5 (by simp)];simp only[vX];cases h:M.sx p σ with
 |none=>rfl
 |some σ'=>
  simp only[cv];show _=fin M (.lq m p::k) .normal σ'
  grind [n5,vX]
def lw:run M (.lq 0 p::k) σ=none:=by
 show fin M (.lq 0 p::k) .normal σ=_
 grind [n5,vX,lqN]
theorem lz:run M (.lq (m+1) p::k) σ=run M (.at (0::p):: .lp m p::k) σ:=by
 show fin M (.lq (m+1) p::k) .normal σ=fin M (.at (0::p):: .lp m p::k) .normal σ;rw[n5 (by simp),n5 (by simp)];simp only[vX,lqN];cases hx:exec M (sub (0::p) M.body) (0::p) σ with
 |none=>rfl
 |some r=>
  obtain⟨e1,σ1⟩:=r;cases e1 with
  |normal=>
   grind [n5,vX]
  |_=>
   grind [aim]
def qj(M:kD R)(ops:Array Oper)(dst:Option Tmp)(rest:List Oper)(k:List Kt)(σ:jI):Option tL->Option R
 |some e=>lU e.pre (run M (.ops ops rest::k) (σ.app dst e))
 |none=>none
def KM(M:kD R)(ops:Array Oper)(dst:Option Tmp)(rest:List Oper)(k:List Kt)(σ:jI):Option (AV×List jS)->Option R
 |some (r,H')=>run M (.ops ops rest::k) (jI.put {σ with heap:=H'} dst r)
 |none=>none
def Mj(M:kD R)(ops:Array Oper)(dst:Option Tmp)(rest:List Oper)(k:List Kt)(σ:jI):Option (sv×List jS)->Option R
 |some (.ret r,H')=>run M (.ops ops rest::k) (jI.put {σ with heap:=H'} dst r)
 |some (.panic x,H')=>agl M x {σ with heap:=H'} k
 |none=>none
def am7(M:kD R)(ops:Array Oper)(dst:Option Tmp)(rest:List Oper)(k:List Kt)(σ:jI):Option (FuncId×List AV)->Option R
 |some p=>run M (.ops ops rest::k) (σ.dfr p dst)
 |none=>none
def am8(M:kD R)(k:List Kt)(σ:jI):Option AV->Option R
 |some x=>agl M x σ k
 |none=>none
def th(M:kD R)(ops:Array Oper)(dst:Option Tmp)(rest:List Oper)(k:List Kt)(σ:jI):Op->Option R
 | .defer c=>am7 M ops dst rest k σ (CN σ (.defer c))
 | .panic x=>am8 M k σ (N5 σ (.panic x))
 |o=>qj M ops dst rest k σ (kI M.P σ o)
def afi(M:kD R)(ops:Array Oper)(o:Oper)(rest:List Oper)(k:List Kt)(σ:jI):Option (Nat×List AV)->Option R
 |some (l,args)=>KM M ops o.dst rest k σ (M.cy l args σ.heap)
 |none=>th M ops o.dst rest k σ o.op
def acG(M:kD R)(ops:Array Oper)(o:Oper)(rest:List Oper)(k:List Kt)(σ:jI):Option (FuncId×List AV)->Option R
 |some (f,args)=>bif M.wL f then Mj M ops o.dst rest k σ (M.cp f args σ.heap) else KM M ops o.dst rest k σ (M.cl f args σ.heap)
 |none=>afi M ops o rest k σ (yieldOf σ o.op)
def air(M:kD R)(ops:Array Oper)(o:Oper)(rest:List Oper)(k:List Kt)(σ:jI):Option Bool->Option R
 |none=>none
 |some b=>bif b then acG M ops o rest k (sw ops o true σ) (lR (sw ops o true σ) o.op) else run M (.ops ops rest::k) ((sw ops o false σ).put o.dst (.raw undef))
def asV {rest:List Oper}:run M (.ops ops (o::rest)::k) σ=air M ops o rest k σ (n6 ops o σ):=by
 have hr: ∀σ,run M (.ops ops rest::k) σ=match sj M ops rest σ with|some (e,σ')=>fin M k e σ'|none=>none:=by
  intro σ;show fin M (.ops ops rest::k) .normal σ=_
  grind [n5,vX]
 have hl:run M (.ops ops (o::rest)::k) σ=match sj M ops (o::rest) σ with|some (e,σ')=>fin M k e σ'|none=>none:=by
  show fin M (.ops ops (o::rest)::k) .normal σ=_
  grind [n5,vX]
 rw[hl];simp only[sj];cases hw:n6 ops o σ with
 |none=>rfl
 |some b=>
  simp only[air];cases b with
  |false=>simp only[jv,hr]
  |true=>
   simp only[ju];cases hc:lR (sw ops o true σ) o.op with
   |some q=>
    grind [acG,Mj,yL,KM]
   |none=>
    simp only[acG];cases hy:yieldOf (sw ops o true σ) o.op with
    |some q=>
     grind [afi,KM]
    |none=>
     simp only[afi]
     have key:(∀c,o.op≠ .defer c)->(∀x,o.op≠ .panic x)->th M ops o.dst rest k (sw ops o true σ) o.op=qj M ops o.dst rest k (sw ops o true σ) (kI M.P (sw ops o true σ) o.op):=by
      simp_all [th]
     by_cases h1: ∃c,o.op= .defer c
     ·obtain⟨c,hc'⟩:=h1;simp only[hc',kI,th]
      grind [am7,N5]
     ·by_cases h2: ∃x,o.op= .panic x
      ·obtain⟨x,hx⟩:=h2;simp only[hx,kI,th,CN]
       grind [am8,yL]
      ·rw[key (fun c hc'=>h1 ⟨c,hc'⟩) (fun x hx=>h2 ⟨x,hx⟩)];cases he:kI M.P (sw ops o true σ) o.op with
       |none=>
        simp_all [qj,CN,N5]
       |some e=>
        grind [qj,lU]
def ak6{rest:List Oper}:air M ops o rest k σ (some true)=acG M ops o rest k (sw ops o true σ) (lR (sw ops o true σ) o.op):=rfl
def ais{rest:List Oper}:air M ops o rest k σ (some false)=run M (.ops ops rest::k) ((sw ops o false σ).put o.dst (.raw undef)):=rfl
def aoh{rest:List Oper}:air M ops o rest k σ (some b)=bif b then acG M ops o rest k (sw ops o true σ) (lR (sw ops o true σ) o.op) else run M (.ops ops rest::k) ((sw ops o false σ).put o.dst (.raw undef)):=rfl
def ak7{rest:List Oper}:acG M ops o rest k σ (some (f,args))=bif M.wL f then Mj M ops o.dst rest k σ (M.cp f args σ.heap) else KM M ops o.dst rest k σ (M.cl f args σ.heap):=rfl
def aoi{rest:List Oper}:Mj M ops dst rest k σ (some (.ret r,H'))=run M (.ops ops rest::k) (jI.put {σ with heap:=H'} dst r):=rfl
def aoj{rest:List Oper}:Mj M ops dst rest k σ (some (.panic x,H'))=agl M x {σ with heap:=H'} k:=rfl
def ak8{rest:List Oper}:Mj M ops dst rest k σ none=none:=rfl
def ak9{rest:List Oper}{o:Option α}{f:α->Option (sv×List jS)}:Mj M ops dst rest k σ (o.bind f)=o.bind fun x=>Mj M ops dst rest k σ (f x):=by
 cases o<;>rfl
def ala{rest:List Oper}{x y:Option (sv×List jS)}:Mj M ops dst rest k σ (bif b then x else y)=bif b then Mj M ops dst rest k σ x else Mj M ops dst rest k σ y:=by cases b<;>rfl
def alb{rest:List Oper}{p:FuncId×List AV}:am7 M ops dst rest k σ (some p)=run M (.ops ops rest::k) (σ.dfr p dst):=rfl
def alc:am8 M k σ (some x)=agl M x σ k:=rfl
def ald{rest:List Oper}:acG M ops o rest k σ none=afi M ops o rest k σ (yieldOf σ o.op):=rfl
def ale{rest:List Oper}:afi M ops o rest k σ (some (l,args))=KM M ops o.dst rest k σ (M.cy l args σ.heap):=rfl
def alf{rest:List Oper}:afi M ops o rest k σ none=th M ops o.dst rest k σ o.op:=rfl
def alg{rest:List Oper}:qj M ops dst rest k σ none=none:=rfl
def alh{rest:List Oper}{up:List (Nat×jS)}{p:Prop}:
 qj M ops dst rest k σ (some {val:=x,rd,up,nw,pre:=p})=lU p (run M (.ops ops rest::k) {σ.put dst x with heap:=lu σ.heap up++nw}):=rfl
def ali{rest:List Oper}{o:Option α}{f:α->Option tL}:qj M ops dst rest k σ (o.bind f)=o.bind fun x=>qj M ops dst rest k σ (f x):=by
 cases o<;>rfl
def aok{rest:List Oper}{p:Prop}[Decidable p]{a b:Option tL}:qj M ops dst rest k σ (if p then a else b)=bif decide p then qj M ops dst rest k σ a else qj M ops dst rest k σ b:=by
 by_cases h:p<;>simp [h]
def alj{rest:List Oper}:KM M ops dst rest k σ (some (r,H'))=run M (.ops ops rest::k) (jI.put {σ with heap:=H'} dst r):=rfl
theorem acH{rest:List Oper}:KM M ops dst rest k σ none=none:=rfl
def alk{rest:List Oper}{o:Option α}{f:α->Option (AV×List jS)}:KM M ops dst rest k σ (o.bind f)=o.bind fun x=>KM M ops dst rest k σ (f x):=by
 cases o<;>rfl
def PS(M:kD R)(p:List Nat)(tr:List Tr)(j:Nat)(e:tL):Prop:=PP (qv M p) tr j e
def Oe(M:kD R)(p:List Nat)(i j:Nat):Bool:=aa2 (qv M p) i j
def alm{e:tL}:PS M p tr j e=(e.idle=true\/(tr.all fun t=>yJ t e||Oe M p t.j j)=true):=rfl
def vY(M:kD R)(p:List Nat)(dst:Option Tmp)(rest:List Oper)(j:Nat)(tr:List Tr)(k:List Kt)(σ:jI):Option tL->Option R
 |some e=>lU (e.pre/\PS M p tr j e) (run M (.LN p rest (j+1) (HE tr j σ.heap.length e)::k) (σ.app dst e))
 |none=>none
def Xo(M:kD R)(p:List Nat)(dst:Option Tmp)(rest:List Oper)(j:Nat)(tr:List Tr)(k:List Kt)(σ:jI):Option AV->Option R
 |some r=>run M (.LN p rest (j+1) tr::k) (σ.put dst r)
 |none=>none
def SX(M:kD R)(p:List Nat)(c:Nat)(rest:List Oper)(j:Nat)(σ:jI):Prop:=Oa M.P (qv M p) c rest j σ
def MW(M:kD R)(p:List Nat)(c:Nat):Bool:=ah4 (qv M p) c
def Jv(M:kD R)(p:List Nat)(dst:Option Tmp)(rest:List Oper)(j:Nat)(tr:List Tr)(k:List Kt)(σ:jI):Option CO->Option R
 |some (.ret e)=>vY M p dst rest j tr k σ (some e)
 |some (.pan x H')=>lU (MW M p j=true\/(KK tr=true/\SX M p j rest (j+1) (σ.put dst (.raw undef)))) (agl M x {σ with slots:=PO (qv M p) σ.slots,heap:=H'} k)
 |none=>none
def Xp(M:kD R)(p:List Nat)(o:Oper)(rest:List Oper)(j:Nat)(tr:List Tr)(k:List Kt)(σ:jI):Option (FuncId×List AV)->Option R
 |some (f,args)=>bif M.yb f then Jv M p o.dst rest j tr k σ (M.co f args σ.heap) else bif M.yd f then vY M p o.dst rest j tr k σ (M.ce f args σ.heap) else Xo M p o.dst rest j tr k σ (M.cd f args)
 |none=>vY M p o.dst rest j tr k σ (kI M.P σ o.op)
def acI(M:kD R)(p:List Nat)(o:Oper)(rest:List Oper)(j:Nat)(tr:List Tr)(k:List Kt)(σ:jI):Option Bool->Option R
 |none=>none
 |some b=>bif b then Xp M p o rest j tr k (sw (qv M p) o true σ) (lR (sw (qv M p) o true σ) o.op) else run M (.LN p rest (j+1) tr::k) ((sw (qv M p) o false σ).put o.dst (.raw undef))
def aqm{rest:List Oper}:run M (.LN p (o::rest) j tr::k) σ=acI M p o rest j tr k σ (n6 (qv M p) o σ):=by
 have hr: ∀j tr σ,run M (.LN p rest j tr::k) σ=match FI M (qv M p) rest j tr σ with|some (e,σ')=>fin M k e σ'|none=>none:=by
  intro j tr σ;show fin M (.LN p rest j tr::k) .normal σ=_
  grind [n5,vX]
 have hl:run M (.LN p (o::rest) j tr::k) σ=match FI M (qv M p) (o::rest) j tr σ with|some (e,σ')=>fin M k e σ'|none=>none:=by
  show fin M (.LN p (o::rest) j tr::k) .normal σ=_
  grind [n5,vX]
 rw[hl];simp only[FI];cases hw:n6 (qv M p) o σ with
 |none=>rfl
 |some b=>
  simp only[acI];cases b with
  |false=>simp only[jv,hr]
  |true=>
   simp only[ju];cases hc:lR (sw (qv M p) o true σ) o.op with
   |some q=>
    obtain⟨f,args⟩:=q;simp only[Xp];cases hic:M.yb f with
    |true=>
     grind [Jv,vY,PS,lU,SX,MW,yL]
    |false=>
    grind [vY,PS,lU,Xo]
   |none=>
    grind [Xp,vY,PS,lU]
def ait{rest:List Oper}:acI M p o rest j tr k σ (some true)=Xp M p o rest j tr k (sw (qv M p) o true σ) (lR (sw (qv M p) o true σ) o.op):=rfl
def ago{rest:List Oper}:acI M p o rest j tr k σ (some false)=run M (.LN p rest (j+1) tr::k) ((sw (qv M p) o false σ).put o.dst (.raw undef)):=rfl
def aln{rest:List Oper}:acI M p o rest j tr k σ (some b)=bif b then Xp M p o rest j tr k (sw (qv M p) o true σ) (lR (sw (qv M p) o true σ) o.op) else run M (.LN p rest (j+1) tr::k) ((sw (qv M p) o false σ).put o.dst (.raw undef)):=rfl
def aiu{rest:List Oper}:Xp M p o rest j tr k σ (some (f,args))=bif M.yb f then Jv M p o.dst rest j tr k σ (M.co f args σ.heap) else bif M.yd f then vY M p o.dst rest j tr k σ (M.ce f args σ.heap) else Xo M p o.dst rest j tr k σ (M.cd f args):=rfl
def alp{rest:List Oper}{e:tL}:Jv M p dst rest j tr k σ (some (.ret e))=vY M p dst rest j tr k σ (some e):=rfl
def alq{rest:List Oper}:Jv M p dst rest j tr k σ (some (.pan x H'))=bif MW M p j then agl M x {σ with slots:=PO (qv M p) σ.slots,heap:=H'} k else lU (KK tr=true) (lU (SX M p j rest (j+1) (σ.put dst (.raw undef))) (agl M x {σ with slots:=PO (qv M p) σ.slots,heap:=H'} k)):=by
 grind [Jv,lU]
def aiv{rest:List Oper}:Jv M p dst rest j tr k σ none=none:=rfl
def aiw{rest:List Oper}{o:Option α}{f:α->Option CO}:Jv M p dst rest j tr k σ (o.bind f)=o.bind fun x=>Jv M p dst rest j tr k σ (f x):=by
 cases o<;>rfl
def aol {c:Nat}:SX M p c [] j σ=True:=rfl
def GR(M:kD R)(p:List Nat)(c j:Nat):Bool:=nI (qv M p) c j
def alr {c:Nat}{rest:List Oper}(h:GR M p c j=true):SX M p c (o::rest) j σ=SX M p c rest (j+1) (σ.put o.dst (.raw undef)):=by
 unfold GR at h;show Oa M.P (qv M p) c (o::rest) j σ=Oa M.P (qv M p) c rest (j+1) (σ.put o.dst (.raw undef));simp only[Oa,h]
def aix{rest:List Oper}:vY M p dst rest j tr k σ none=none:=rfl
def aiy{rest:List Oper}{up:List (Nat×jS)}:
 vY M p dst rest j tr k σ (some {val:=x,rd,up,nw,pre:=pr})=lU pr (lU (PS M p tr j {val:=x,rd,up,nw,pre:=pr}) (run M (.LN p rest (j+1) (HE tr j σ.heap.length {val:=x,rd,up,nw,pre:=pr})::k) {σ.put dst x with heap:=lu σ.heap up++nw})):=by
 rw[<-Vy];rfl
def aiz{rest:List Oper}{o:Option α}{f:α->Option tL}:vY M p dst rest j tr k σ (o.bind f)=o.bind fun x=>vY M p dst rest j tr k σ (f x):=by
 cases o<;>rfl
def als{rest:List Oper}[Decidable pr]{a b:Option tL}:vY M p dst rest j tr k σ (if pr then a else b)=bif decide pr then vY M p dst rest j tr k σ a else vY M p dst rest j tr k σ b:=by
 by_cases h:pr<;>simp [h]
def aiA{rest:List Oper}:Xo M p dst rest j tr k σ (some r)=run M (.LN p rest (j+1) tr::k) (σ.put dst r):=rfl
def aiB{rest:List Oper}:Xo M p dst rest j tr k σ none=none:=rfl
def aiC{rest:List Oper}{o:Option α}{f:α->Option AV}:Xo M p dst rest j tr k σ (o.bind f)=o.bind fun x=>Xo M p dst rest j tr k σ (f x):=by
 cases o<;>rfl
def PT(G:Good M){r:R}(h:run M [.at []] σ=some r)(hQ: ∀σ',M.out σ'=some r->Q .normal σ'/\Q .ret σ')(hP: ∀x σ',M.nB x σ'=some r->Q (.panic x) σ'):awp M.P M.body Q σ:=by
 have h':fin M [.at []] .normal σ=some r:=h;rw[n5 (by simp)] at h';simp only[vX,sub] at h';cases hx:exec M M.body [] σ with
 |none=>simp only[hx] at h';cases h'
 |some q=>
  obtain⟨e,σ'⟩:=q;simp only[hx] at h';refine vW G _ [] Q σ e σ' hx ?_;cases e with
  |normal=>exact(hQ σ' h').1
  |ret=>exact(hQ σ' h').2
  |panic x=>exact hP x σ' h'
  |_=>simp only[fin] at h';cases h'
def aom(G:Good M){r:R}(h:run M [.at []] σ=some r)(hQ: ∀σ',M.out σ'=some r->Q .normal σ'/\Q .ret σ')(hP: ∀x σ',M.nB x σ'=none):awp M.P M.body Q σ:=
 PT G h hQ fun x σ' hx=>by rw[hP x σ'] at hx;cases hx
def acJ:Op->Bool
 | .call {callee:= .value _,..}=>false
 | .panic _=>false
 |_=>true
def acK:Code->Bool
 | .skip=>true
 | .region _ ops _=>ops.toList.all fun o=>acJ o.op
 | .seq x y=>acK x&&acK y
 |_=>false
theorem SY{o:Op}(h:acJ o=true):lR σ o=none:=by
 unfold lR;split
 ·cases h
 ·rfl
theorem aiD{o:Op}(h:acJ o=true):N5 σ o=none:=by
 unfold N5;split
 ·cases h
 ·rfl
def PU{M:kD R}{ops:Array Oper}: ∀(rest:List Oper)(σ:jI)(e:mc)(σ':jI),rest.all (fun o=>acJ o.op)=true->sj M ops rest σ=some (e,σ')->e= .normal
 |[],σ,e,σ',_,h=>by grind [sj]
 |o::rest,σ,e,σ',hc,h=>by
  rw[List.all_cons,cj] at hc;have ih:=fun σ=>PU (M:=M) (ops:=ops) rest σ e σ' hc.2
  simp only[sj] at h
  grind [SY,aiD,lv]
def acL{M:kD R}{ops:Array Oper}: ∀(rest:List Oper)(j:Nat)(tr:List Tr)(σ:jI)(e:mc)(σ':jI),rest.all (fun o=>acJ o.op)=true->FI M ops rest j tr σ=some (e,σ')->e= .normal
 |[],_,_,σ,e,σ',_,h=>by grind [FI]
 |o::rest,j,tr,σ,e,σ',hc,h=>by
  rw[List.all_cons,cj] at hc;have ih:=fun tr σ=>acL (M:=M) (ops:=ops) rest (j+1) tr σ e σ' hc.2
  grind [FI,SY,lv]
def ZM{M:kD R}: ∀(c:Code)(p:List Nat)(σ:jI)(e:mc)(σ':jI),acK c=true->exec M c p σ=some (e,σ')->e= .normal
 | .skip,_,_,e,_,_,h=>by grind [exec]
 | .region _ ops false,_,_,e,_,hp,h=>by
   simp only[exec] at h;exact PU _ _ _ _ hp h
 | .region _ ops true,_,_,e,_,hp,h=>by
   simp only[exec] at h;rw[lv] at h;exact acL _ _ _ _ _ _ hp h.2
 | .seq x y,p,σ,e,σ',hp,h=>by
   simp only[acK,cj] at hp;simp only[exec] at h;cases hx:exec M x (0::p) σ with
   |none=>simp only[hx] at h;cases h
   |some r=>
    obtain⟨e1,σ1⟩:=r;have:=ZM x _ _ _ _ hp.1 hx;subst this;simp only[hx] at h;cases hc:M.cut (1::p) σ1 with
    |none=>grind
    |some σ2=>
     simp only[hc,cv] at h;exact ZM y _ _ _ _ hp.2 h
 | .cond _ _ _,_,_,_,_,hp,_=>by cases hp
 | .block _ _,_,_,_,_,hp,_=>by cases hp
 | .loop _,_,_,_,_,hp,_=>by cases hp
 | .exit _,_,_,_,_,hp,_=>by cases hp
 | .scope _,_,_,_,_,hp,_=>by cases hp
 | .label _,_,_,_,_,hp,_=>by cases hp
 | .ret,_,_,_,_,hp,_=>by cases hp
 | .goto _,_,_,_,_,hp,_=>by cases hp
 | .rangeFunc _ _ _ _,_,_,_,_,hp,_=>by cases hp
 | .refuse _,_,_,_,_,hp,_=>by cases hp
def am9{r:R}(G:Good M)(hbody:M.body= .seq lk.assign lk.body)(hp:acK lk.assign=true)(hn:uD lk.assign=true/\uD lk.body=true)
 (hH:H[0]? =some (.loop lk slots .ready 0)) (hnb:uB H.length args) (EB: ∀x∈H,pM H.length x) (hout: ∀e σ,M.nE e σ=some r->am5 V e σ)
 (h:run M [.at [0],.rb,.at [1],.rd] {slots:=Od slots lk.ps.toList args,heap:=H,low:=H.length}=some r):FnT M.P (SM M.P) args H V:=by
 refine agj hH hnb EB hn ?_;have h0:sub [0] M.body=lk.assign:=by rw[hbody];rfl
 have h1:sub [1] M.body=lk.body:=by rw[hbody];rfl
 have h':fin M [.at [0],.rb,.at [1],.rd] .normal {slots:=Od slots lk.ps.toList args,heap:=H,low:=H.length}=some r:=h;rw[n5 (by simp)] at h';simp only[vX,h0] at h';cases hx:exec M lk.assign [0] {slots:=Od slots lk.ps.toList args,heap:=H,low:=H.length} with
 |none=>simp only[hx] at h';cases h'
 |some q=>
  obtain⟨e,σ'⟩:=q;have:=ZM _ _ _ _ _ hp hx;subst this;simp only[hx] at h';refine vW G _ [0] _ _ .normal σ' hx ?_;rw[n5 (by simp)] at h';simp only[vX] at h';cases hb:ZK σ' with
  |none=>grind
  |some σ2=>
   simp only[hb,dr] at h';unfold ZK akT at hb;split at hb
   ·rename_i k s hk;simp only[cc] at hb;subst hb;refine⟨k,s,hk,?_⟩;rw[n5 (by simp)] at h';simp only[vX,h1] at h';cases LM:exec M lk.body [1] {σ' with heap:=σ'.heap.set 0 (.loop k s .busy 0)} with
    |none=>simp only[LM] at h';cases h'
    |some q=>
     obtain⟨e2,σ3⟩:=q;simp only[LM] at h';refine vW G _ [1] _ _ e2 σ3 LM ?_;exact hout e2 σ3 (by cases e2<;>exact h')
   ·cases hb
def abS{fn:Func}{V:AV->Prop}{r:R}(G:Good M)(hf:M.P.funcs[f]? =some fn)(hb:fn.body=some M.body)(hne:(fn.name != "runtime.NumGoroutine")=true)(hnb:uB 0 args)
 (hn:fn.ntmps=n) (Oc:fn.results=rs.toArray) (hout: ∀σ,M.out σ=some r->σ.df=[]/\aob V σ.heap (JQ M.P σ rs))
 (h:run M [.at []] {slots:=args++cq (n-args.length) .any,heap:=[]}=some r) (hP: ∀x σ',M.nB x σ'=none:=by intros;rfl):GP M.P f args V:=by
 refine ah7 hf hb hne hnb ?_;rw[Oc,hn];refine aom G h (fun σ' hs=> ?_) hP;have:=hout σ' hs;exact⟨this,this⟩
end
end Go.Abs
end
