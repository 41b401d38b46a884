/- A part of the proof: abstract states and the rules for them. -/
import Derived.Test.YtdkeelhebopgkaaGreatDoorCoreC
set_option linter.all false
open Option.some renaming injEq → eQ
open Option renaming bind_eq_some_iff → eR
namespace Go.Abs
variable {x:AV}{f:FuncId}{cs:List AV}{α:Type}{G:List Kt->α->Prop}{n:Nat}{P:Program}{R β:Type}{v:Value}{p:β->Prop}
section
variable {C:o9} {φ:Nat->Value} {σ:jI} {a:Act} {w:World}
def lQ.calm(S:lQ C φ σ a w):o9:=
 {P:=C.P,w0:=w,M0:=fun _ _=>False,A:=fun _ _=>False,hA:=fun _ _ h=>h.elim,hk:=fun b o h=>let ⟨v,h1,h2,_⟩:=S.know b o h;⟨v,h1,h2,fun f=>f⟩}
def lQ.anr(S:lQ C φ σ a w):(C.env φ σ.heap w).Le 0 (S.calm.env φ [] w):=by
 refine⟨Nat.zero_le _,fun l hl=>absurd hl (Nat.not_lt_zero _),fun b o u hm hc=>⟨?_,hc⟩⟩;simp only[o9.env,lQ.calm];rintro(⟨l,x,hx,_⟩|h)
 ·simp at hx
 ·exact h
def ant:Option jS->Option AV
 |some (.cells cs)=>some (.pp cs)
 |_=>none
def DQ(H:List jS):AV->Option AV
 | .ptr l o=>bif o==0 then ant H[l]? else none
 |x=>some x
def auj{H:List jS}:(∀l,DQ H (.ptr l 0)=ant H[l]?)/\(∀k n,DQ H (.int k n)=some (.int k n))/\(∀b,DQ H (.bool b)=some (.bool b))/\(∀s,DQ H (.str s)=some (.str s))/\(∀t z r,DQ H (.lI t z r)=some (.lI t z r))/\(∀c,DQ H (.agg c)=some (.agg c))/\(∀c,DQ H (.pp c)=some (.pp c))/\(∀c,DQ H (.raw c)=some (.raw c))/\ ∀f x y,DQ H (.func f x y)=some (.func f x y):=
 ⟨fun _=>rfl,fun _ _=>rfl,fun _=>rfl,fun _=>rfl,fun _ _ _=>rfl,fun _=>rfl,fun _=>rfl,fun _=>rfl,fun _ _ _=>rfl⟩
def auk:ant (some (.cells cs))=some (.pp cs):=rfl
def ajs(S:lQ C φ σ a w){y:AV}(h:DQ σ.heap x=some y)(hn:y.nb 0)(r:nr (C.env φ σ.heap w) x v):nr (S.calm.env φ [] w) y v:=by
 cases x with
 |ptr l o=>
  simp only[DQ] at h;cases ho:o==0 with
  |false=>rw[ho] at h;cases h
  |true=>
   rw[ho,ju] at h;have ho:=jB.1 ho;subst ho;cases hl:σ.heap[l]? with
   |none=>rw[hl] at h;cases h
   |some z=>
    rw[hl] at h;cases z with
    |cells cs=>
     cases h;obtain⟨_,b,hb,rfl⟩:=r;obtain⟨b',c,t,hb',hc,rl,h1⟩:=S.mV l _ hl;have hb:φ l=_:=hb;rw[hb] at hb';simp only[Value.pointer.injEq,eQ,Addr.mk.injEq,and_true] at hb';subst hb'
     have e:(c.toList.drop 0).take cs.length=c.toList:=by
      rw[List.drop_zero,List.take_of_length_le];have:=rl.length;omega
     refine⟨b,0,rfl,Em (E:=S.calm.env φ [] w) (c:=c) (t:=t) (fr:=(0,0)) hc cs 0 (fun o _ _=> ?_) ?_ ?_⟩
     ·simp only[o9.env,lQ.calm];rintro(⟨l,x,hx,_⟩|h)
      all_goals grind
     ·rw[e];exact kf.mono S.anr _ _ hn rl
     ·rw[e];exact h1
    |_=>cases h
 |_=>cases h;exact nr.mono S.anr _ _ hn r
def aaL(S:lQ C φ σ a w): ∀{xs ys:List AV}{vs:List Value},pN (DQ σ.heap) xs=some ys->uB 0 ys->kf (C.env φ σ.heap w) xs vs->kf (S.calm.env φ [] w) ys vs
 |[],ys,vs,h,_,r=>by simp only[pN,eQ] at h;subst h;exact r
 |x::xs,ys,vs,h,hn,⟨u,us,hv,r1,r2⟩=>by
  simp only[pN,eR,eQ] at h;obtain⟨y,hy,zs,hz,rfl⟩:=h;exact⟨u,us,hv,ajs S hy hn.1 r1,aaL S hz hn.2 r2⟩
def sc1:AV->AV
 | .int k n=> .int k n
 | .bool b=> .bool b
 | .str s=> .str s
 |_=> .any
def sc2:AV->AV
 | .agg cs=> .agg (cs.map sc1)
 |x=>sc1 x
def aoP:AV->AV
 | .EQ cs=> .EQ (cs.map sc2)
 |x=>sc2 x
section
variable {E E':Env}
def anu(h:nr E x v):nr E' (sc1 x) v:=by
 cases x with
 |int=>exact h
 |bool=>exact h
 |str=>exact h
 |_=>exact trivial
def ajt: ∀{xs:List AV}{vs:List Value},kf E xs vs->kf E' (xs.map sc1) vs
 |[],_,h=>h
 |_::_,_,⟨u,us,hv,r1,r2⟩=>⟨u,us,hv,anu r1,ajt r2⟩
def anv(h:nr E x v):nr E' (sc2 x) v:=by
 cases x with
 |agg cs=>obtain⟨vs,hv,hr⟩:=h;exact⟨vs,hv,ajt hr⟩
 |_=>exact anu h
def aju: ∀{xs:List AV}{vs:List Value},kf E xs vs->kf E' (xs.map sc2) vs
 |[],_,h=>h
 |_::_,_,⟨u,us,hv,r1,r2⟩=>⟨u,us,hv,anv r1,aju r2⟩
def ark(h:nr E x v):nr E' (aoP x) v:=by
 cases x with
 |EQ cs=>obtain⟨vs,hv,hr⟩:=h;exact⟨vs,hv,aju hr⟩
 |_=>exact anv h
end
def zN(e:agq):Ent:=fun args H=>(pN (DQ H) args).bind fun as=>(e as).bind fun r=>some (aoP r,H)
def nQ{e:agq}(h:MX P f e):aaC P f (zN e):=by
 intro args σ r H' he;unfold zN at he;simp only[eR,eQ,Prod.mk.injEq] at he;obtain⟨as,hv,q,hq,rfl,rfl⟩:=he;obtain⟨hen,hnb,hc⟩:=h as q hq;refine⟨hen,fun C φ a w hP S vs hr=> ?_⟩;refine(hc S.calm φ w hP rfl rfl (fun _ _ h=>h) vs (aaL S hv hnb hr)).mono ?_;rintro e' w' ⟨r,v,φ',rfl,rfl,Vv,hs,hh,hf,ho⟩;exact⟨.ret (aoP r),φ,σ.heap,⟨rfl,rfl⟩,S.grown hs hh hf ho,ark Vv⟩
def YB:AV->List Nat
 | .ptr l _=>[l]
 |_=>[]
def KR:List AV->List Nat
 |[]=>[]
 |x::xs=>YB x++KR xs
def aw1:(∀l o,YB (.ptr l o)=[l])/\(∀k n,YB (.int k n)=[])/\(∀b,YB (.bool b)=[])/\(∀s,YB (.str s)=[])/\(∀t z r,YB (.lI t z r)=[])/\(∀c,YB (.agg c)=[])/\(∀c,YB (.pp c)=[])/\(∀c,YB (.raw c)=[])/\(∀f x y,YB (.func f x y)=[])/\KR []=[]/\ ∀x xs,KR (x::xs)=YB x++KR xs:=
 ⟨fun _ _=>rfl,fun _ _=>rfl,fun _=>rfl,fun _=>rfl,fun _ _ _=>rfl,fun _=>rfl,fun _=>rfl,fun _=>rfl,fun _ _ _=>rfl,rfl,fun _ _=>rfl⟩
def anw{H:List jS}: ∀{xs ys:List AV},pN (DQ H) xs=some ys-> ∀l∈KR xs,l<H.length
 |[],_,_,l,hl=>by simp [KR] at hl
 |x::xs,ys,h,l,hl=>by
  simp only[pN,eR,eQ] at h;obtain⟨y,hy,zs,hz,rfl⟩:=h;simp only[KR,List.mem_append] at hl;rcases hl with hl|hl
  ·cases x with
   |ptr k o=>
    grind [YB,DQ,ant]
   |_=>simp [YB] at hl
  ·exact anw hz l hl
theorem ac4{H H':List jS}: ∀{xs:List AV},(∀l∈KR xs,H'[l]? =H[l]?)->pN (DQ H') xs=pN (DQ H) xs
 |[],_=>rfl
 |x::xs,h=>by
  have h1:DQ H' x=DQ H x:=by
   cases x with
   |ptr l o=>grind [DQ,KR,YB]
   |_=>rfl
  simp only[pN,h1];rw[ac4 fun l hl=>h l (by simp [KR,hl])]
def Rk(e:agq):List AV->List jS->Option CO:=fun args H=>(pN (DQ H) args).bind fun as=>(e as).bind fun r=>some (.ret {val:=aoP r,rd:=KR args})
def IL{e:agq}(h:MX P f e):agE P f (Rk e):=by
 intro args σ;refine⟨fun ef he=> ?_,fun x H' he=> ?_⟩
 ·simp only[Rk,eR,eQ,CO.ret.injEq] at he;obtain⟨as,hv,r,hr,rfl⟩:=he;refine⟨⟨anw hv,by simp⟩,fun σ' h1 _ _=> ?_⟩
  have:=nQ h args σ' (aoP r) σ'.heap (by
   grind [zN,ac4])
  grind [lu]
 grind [Rk,eR]
end
attribute [go_sem] zN Rk auk auj aw1 aoP sc2 sc1
section aqt
variable {C:o9} {φ:Nat->Value} {σ:jI} {a:Act} {w:World}
def amk{l off s sz:Nat}(hl:σ.heap[l]? =some (.cells cs))(hc:cs[off]? =some (.lI true s [])):
 FE σ {slots:=σ.slots,heap:=σ.heap.set l (.cells (cs.set off (.acc σ.heap.length 0)))++[.acc false sz []],low:=σ.low,df:=σ.df}:=by
 intro C φ a w S;have hlt:l<σ.heap.length:=(List.getElem?_eq_some_iff.1 hl).1;obtain⟨b,c,t,hφ,hh,rl,h1⟩:=S.mV l _ hl;obtain⟨v,hv,base,cap,rfl,_,hcap,_⟩:=rl.get hc;have hcap:cap=0:=hcap rfl;subst hcap
 have S':=S.PK (qT:=false) (sz:=sz) (rows:=[]) (w':=w) (h':= .slice base 0 0) (Nat.le_refl _) (fun _ _=>rfl) (fun _=>rfl) ⟨rfl,rfl⟩ (by
  intro b hb;cases base<;>simp [jS.block] at hb) (fun E' _ _=>⟨base,0,rfl,Nat.le_refl _,fun _=>rfl,by simp,fun b _ h0=>absurd rfl h0⟩)
 refine⟨(fun k=>if k=σ.heap.length then .slice base 0 0 else φ k),?_⟩;have Kc:(σ.heap++[jS.acc false sz []])[l]? =some (.cells cs):=by grind
 have S2:=S'.aqu (l:=l) (cs:=cs) (ds:=cs.set off (.acc σ.heap.length 0)) Kc (by
  intro b2 c2 t2 h3 h4 r
  have e1:b2=b:=by
   grind
  subst e1;rw[show w.heap[b2]? =some (.cells c t (0,0)) from hh] at h4;simp only[eQ,Obj.cells.injEq] at h4;obtain⟨rfl,_⟩:=h4
  have axN:=kf.set (i:=off) (c:= .acc σ.heap.length 0) (v:= .slice base 0 0) r ⟨by simp [o9.env],⟨_,_,_,rfl⟩,fun k hk=>by
   grind [o9.env]⟩
  grind [List.set_getElem_self])
 grind
def agG(l off sz:Nat)(b:Bool)(σ:jI):jI:=
 match σ.heap[l]? with
 |some (.cells cs)=>match cs[off]? with
  |some (.lI true _ [])=>{slots:=σ.slots,heap:=σ.heap.set l (.cells (cs.set off (.acc σ.heap.length 0)))++[.acc b sz []],low:=σ.low,df:=σ.df}
  |_=>σ
 |_=>σ
def aoQ{l off sz:Nat}{b:Bool}{σ:jI}:FE σ (agG l off sz b σ):=by
 unfold agG;split
 ·rename_i cs hl;split
  ·rename_i s hc;cases b with
   |false=>exact amk hl hc
   |true=>exact afj hl hc
  ·exact FE.refl σ
 ·exact FE.refl σ
end aqt
def arl:List (List Nat×Nat×Nat×Nat×Bool)->List Nat->jI->jI
 |[],_,σ=>σ
 |(q,l,o,z,b)::t,p,σ=>if p=q then agG l o z b σ else arl t p σ
def anx: ∀{t:List (List Nat×Nat×Nat×Nat×Bool)}{p:List Nat}{σ:jI},FE σ (arl t p σ)
 |[],_,_=>FE.refl _
 |(q,l,o,z,b)::t,p,σ=>by
  unfold arl;split
  ·exact aoQ
  ·exact anx
noncomputable def aft (fs:List (List Nat×List Nat)) (gs:List (List Nat×Nat×Nat×Nat×Bool)) (p:List Nat) (σ:jI):Option jI:=(Xq fs p σ).map (arl gs p)
def arm(fs:List (List Nat×List Nat))(gs:List (List Nat×Nat×Nat×Nat×Bool)): ∀p σ σ',aft fs gs p σ=some σ'->FE σ σ':=by
 intro p σ σ' h;simp only[aft,Option.map_eq_some_iff] at h;obtain⟨σ1,h1,rfl⟩:=h;exact(qy _ _ _ _ h1).trans anx
def gdM{f:Func}{out:jI->Option R}{cl:FuncId->List AV->List jS->Option (AV×List jS)}{cd:FuncId->List AV->Option AV}{nl:List (List Nat×wX)}{cu:List (List Nat×List Nat)}{gm:List (List Nat×Nat×Nat×Nat×Bool)}{wL:FuncId->Bool}{cp:FuncId->List AV->List jS->Option (sv×List jS)}
 {nB:AV->jI->Option R} {yb:FuncId->Bool} {co:FuncId->List AV->List jS->Option CO} {yd:FuncId->Bool} {ce:FuncId->List AV->List jS->Option tL} {js:List Nat->List (Int×Code)} {cy:Nat->List AV->List jS->Option (AV×List jS)}
 (a: ∀f args σ r H',cl f args (jI.heap σ)=some (r,H')->ya P f args σ (fun o BC=>o= .ret r/\BC=H')) (d: ∀f args r,cd f args=some r->GP P f args (fun v=>v=r))
 (y: ∀l args σ r H',cy l args (jI.heap σ)=some (r,H')->HA P l args σ (fun o BC=>o= .ret r/\BC=H'):=by exact uh) (e: ∀f args σ e,ce f args (jI.heap σ)=some e->IC P f args σ e:=by exact uj)
 (p: ∀f args σ o H',cp f args (jI.heap σ)=some (o,H')->ya P f args σ (fun o' BC=>o'=o/\BC=H'):=by exact vn)
 (c: ∀f args σ,(∀e,co f args (jI.heap σ)=some (.ret e)->IC P f args σ e)/\ ∀x H',co f args σ.heap=some (.pan x H')->acr P f args σ.heap x H':=by exact u1):
 Good (ol P f n out cl cd (qk nl) (aft cu gm) wL cp nB yb co yd ce js cy):=⟨a,d,qg _,arm _ _,y,e,p,c⟩
attribute [go_sem] arl aft agG
section

abbrev aml(M:kD R)(p q:List Nat):Prop:=tw M p=true/\tw M q=true
abbrev aul(M:kD R)(p q r:List Nat):Prop:=tw M p=true/\tw M q=true/\tw M r=true
abbrev aum(M:kD R)(p q r s:List Nat):Prop:=tw M p=true/\tw M q=true/\tw M r=true/\tw M s=true
abbrev aoR(M:kD R)(p:List Nat)(a b c d:Nat):Prop:=Oe M p a b=true/\Oe M p c d=true
abbrev aoS(M:kD R)(p:List Nat)(a b c d e f:Nat):Prop:=Oe M p a b=true/\Oe M p c d=true/\Oe M p e f=true
abbrev Fz(M:kD R)(p:List Nat)(a b c d e f g h:Nat):Prop:=Oe M p a b=true/\Oe M p c d=true/\Oe M p e f=true/\Oe M p g h=true
end
def mB (x:Subtype p:=by
    apply _root_.Subtype.mk
    repeat intro
    simp (config:={maxSteps:=100000000}) only[go_sem,_root_.Nat.reduceAdd,_root_.Nat.reduceSub,_root_.Nat.reduceLeDiff,_root_.Nat.reduceEqDiff,_root_.Nat.reduceBEq,_root_.Nat.reduceMul,_root_.Nat.reduceLT,_root_.Int.reduceLE,_root_.Int.reduceLT,_root_.Int.reduceToNat,_root_.Int.reduceBEq,_root_.Int.reduceEq,_root_.Option.getD_some,mixed, *];exact rfl):Subtype p:=x
def pu (x:Subtype p:=by
    apply _root_.Subtype.mk
    repeat intro
    simp (config:={maxSteps:=100000000})-implicitDefEqProofs only[go_sem,_root_.Nat.reduceAdd,_root_.Nat.reduceSub,_root_.Nat.reduceLeDiff,_root_.Nat.reduceEqDiff,_root_.Nat.reduceBEq,_root_.Nat.reduceMul,_root_.Nat.reduceLT,_root_.Int.reduceLE,_root_.Int.reduceLT,_root_.Int.reduceToNat,_root_.Int.reduceBEq,_root_.Int.reduceEq,_root_.Option.getD_some,mixed, *];exact rfl):Subtype p:=x
section
variable {γ β1 α1 β2 α2:Type}
abbrev zO(P:Program)(g:FuncId)(as:AL α)(t:Ty R)(F:Nat->α->Option R):Prop:= ∀n a r,F n a=some r->GP P g (as.enc (fun _=>0) a) (fun v=>v=t.enc r)
abbrev OKX(P:Program)(g:FuncId)(as:AL γ)(os:OL β)(sA:OL β1)(s:AL α)(F:Nat->β->γ->Option (β1×α)):Prop:= ∀n b a r,F n b a=some r->SG P g as os b a sA s r
abbrev OKP(P:Program)(g:FuncId)(as:AL γ)(os:OL β)(pk:Bool)(sA:OL β1)(s1:AL α1)(BZ:OL β2)(s2:AL α2)(F:Nat->β->γ->Option (PR (β1×α1) (β2×α2))):Prop:= ∀n b a r,F n b a=some r->SP P g as os b a pk sA s1 BZ s2 r
variable {g:FuncId} {T0 T1 T2 T3 T4 T5:Type} {t:Ty R}
def c0{F:Nat->Unit->Option R}(h:zO P g kr t F)(n:Nat): ∀r,F n ()=some r->GP P g [] (fun v=>v=t.enc r):=fun r=>h n () r
def c1{e0:Ty T0}{F:Nat->T0×Unit->Option R}(h:zO P g (kP e0 kr) t F)(n:Nat): ∀x r,F n (x,())=some r->GP P g [e0.enc x] (fun v=>v=t.enc r):=fun x r=>h n (x,()) r
def c2{e0:Ty T0}{e1:Ty T1}{F:Nat->T0×T1×Unit->Option R}(h:zO P g (kP e0 (kP e1 kr)) t F)(n:Nat): ∀x y r,F n (x,y,())=some r->GP P g [e0.enc x,e1.enc y] (fun v=>v=t.enc r):=fun x y r=>h n (x,y,()) r
def c3{e0:Ty T0}{e1:Ty T1}{e2:Ty T2}{F:Nat->T0×T1×T2×Unit->Option R}(h:zO P g (kP e0 (kP e1 (kP e2 kr))) t F)(n:Nat): ∀x y z r,F n (x,y,z,())=some r->GP P g [e0.enc x,e1.enc y,e2.enc z] (fun v=>v=t.enc r):=fun x y z r=>h n (x,y,z,()) r
def c4{e0:Ty T0}{e1:Ty T1}{e2:Ty T2}{e3:Ty T3}{F:Nat->T0×T1×T2×T3×Unit->Option R}(h:zO P g (kP e0 (kP e1 (kP e2 (kP e3 kr)))) t F)(n:Nat): ∀x y z u r,F n (x,y,z,u,())=some r->GP P g [e0.enc x,e1.enc y,e2.enc z,e3.enc u] (fun v=>v=t.enc r):=fun x y z u r=>h n (x,y,z,u,()) r
def c5{e0:Ty T0}{e1:Ty T1}{e2:Ty T2}{e3:Ty T3}{e4:Ty T4}{F:Nat->T0×T1×T2×T3×T4×Unit->Option R}(h:zO P g (kP e0 (kP e1 (kP e2 (kP e3 (kP e4 kr))))) t F)(n:Nat): ∀x y z u v r,F n (x,y,z,u,v,())=some r->GP P g [e0.enc x,e1.enc y,e2.enc z,e3.enc u,e4.enc v] (fun w=>w=t.enc r):=fun x y z u v r=>h n (x,y,z,u,v,()) r
def c6{e0:Ty T0}{e1:Ty T1}{e2:Ty T2}{e3:Ty T3}{e4:Ty T4}{e5:Ty T5}{F:Nat->T0×T1×T2×T3×T4×T5×Unit->Option R}(h:zO P g (kP e0 (kP e1 (kP e2 (kP e3 (kP e4 (kP e5 kr)))))) t F)(n:Nat): ∀x y z u v w r,F n (x,y,z,u,v,w,())=some r->GP P g [e0.enc x,e1.enc y,e2.enc z,e3.enc u,e4.enc v,e5.enc w] (fun q=>q=t.enc r):=fun x y z u v w r=>h n (x,y,z,u,v,w,()) r
def fC{as:AL α}{F:Nat->α->Option R}(h: ∀n a r,F (n+1) a=some r->uB 0 (as.enc (fun _=>0) a)->GP P g (as.enc (fun _=>0) a) (fun v=>v=t.enc r))(h0: ∀a,F 0 a=none:=by intros;rfl)(hn:as.need=0:=by rfl):zO P g as t F
 |0,a,r,e=>by rw[h0] at e;cases e
 |n+1,a,r,e=>h n a r e (by have:=as.nb (fun _=>0) a;rw[hn] at this;exact this)
def fX{as:AL γ}{os:OL β}{sA:OL β1}{s:AL α}{F:Nat->β->γ->Option (β1×α)}(h: ∀n b a r,F (n+1) b a=some r->SG P g as os b a sA s r)(h0: ∀b a,F 0 b a=none:=by intros;rfl):OKX P g as os sA s F
 |0,b,a,r,e=>by rw[h0] at e;cases e
 |n+1,b,a,r,e=>h n b a r e
def fP{as:AL γ}{os:OL β}{pk:Bool}{sA:OL β1}{s1:AL α1}{BZ:OL β2}{s2:AL α2}{F:Nat->β->γ->Option (PR (β1×α1) (β2×α2))}(h: ∀n b a r,F (n+1) b a=some r->SP P g as os b a pk sA s1 BZ s2 r)(h0: ∀b a,F 0 b a=none:=by intros;rfl):OKP P g as os pk sA s1 BZ s2 F
 |0,b,a,r,e=>by rw[h0] at e;cases e
 |n+1,b,a,r,e=>h n b a r e
end
abbrev LB(G:List Kt->α->Prop)(p:List Nat)(K:List Kt):Type:={B:α->α // ∀m X,G (.lq m p::K) X->G (.at (0::p):: .lp m p::K) (B X)}
abbrev LB2(G0:List Kt->β->Prop)(p0:List Nat)(K0:List Kt)(G:List Kt->α->Prop)(p:List Nat)(K:Nat->List Kt):Type:={B:β->α->α // ∀n Y m X,G0 (.lq n p0::K0) Y->G (.lq m p::K n) X->G (.at (0::p):: .lp m p::K n) (B Y X)}
def Ij[Fu α]{p:List Nat}{K:List Kt}(b:LB G p K)(L:Nat->α)(m:Nat)(hL:L=w8 b.1:=by rfl)
 (h0:G (.lq 0 p::K) Fu.z:=by repeat intro
                             exact lw) (hs: ∀m Z,G (.at (0::p):: .lp m p::K) Z->G (.lq (m+1) p::K) Z:=by
   intro m Z h
   repeat intro
   exact lz.trans (h ..)):G (.lq m p::K) (L m):=hL ▸ sE (G:=fun m Z=>G (.lq m p::K) Z) h0 (fun m X h=>hs m _ (b.2 m X h)) m
def arn[Fu α]{G0:List Kt->β->Prop}{p0:List Nat}{K0:List Kt}{p:List Nat}{K:Nat->List Kt}(b:LB2 G0 p0 K0 G p K){Y:β}(h:G0 (.lq n p0::K0) Y)(L:Nat->α)(m:Nat)(hL:L=w8 (b.1 Y):=by rfl)
 (h0:G (.lq 0 p::K n) Fu.z:=by repeat intro
                               exact lw) (hs: ∀m Z,G (.at (0::p):: .lp m p::K n) Z->G (.lq (m+1) p::K n) Z:=by
   intro m Z h
   repeat intro
   exact lz.trans (h ..)):G (.lq m p::K n) (L m):=hL ▸ sE (G:=fun m Z=>G (.lq m p::K n) Z) h0 (fun m X h'=>hs m _ (b.2 n Y m X h h')) m
end Go.Abs
