/- A part of the proof: abstract states and the rules for them. -/
import Derived.Test.YtdkeelhebopgkaaGreatDoorCoreC
set_option linter.all false
open Option renaming bind_eq_some_iff → eQ
open Option.some renaming injEq → eR
open List renaming range → eS
namespace Go.Abs
variable {x:AV}{b:Bool}{f:FuncId}{cs:List AV}{α:Type}{G:List Kt->α->Prop}{n:Nat}{P:Program}{R β:Type}{v:Value}{p:β->Prop}
section
variable {C:pX} {φ:Nat->Value} {σ:jZ} {a:Act} {w:World}
def mo.calm(S:mo C φ σ a w):pX:=
 {P:=C.P,w0:=w,M0:=fun _ _=>False,A:=fun _ _=>False,hA:=fun _ _ h=>h.elim,hk:=fun b o h=>let ⟨v,h1,h2,_⟩:=S.know b o h;⟨v,h1,h2,fun f=>f⟩}
def mo.apf(S:mo C φ σ a w):(C.env φ σ.heap w).Le 0 (S.calm.env φ [] w):=by
 refine⟨Nat.zero_le _,fun l hl=>absurd hl (Nat.not_lt_zero _),fun b o u hm hc=>⟨?_,hc⟩⟩;simp only[pX.env,mo.calm];rintro(⟨l,x,hx,_⟩|h)
 ·simp at hx
 ·exact h
def apg:Option kq->Option AV
 |some (.cells cs)=>some (.pp cs)
 |_=>none
def EE(H:List kq):AV->Option AV
 | .ptr l o=>bif o==0 then apg H[l]? else none
 |x=>some x
def awI{H:List kq}:(∀l,EE H (.ptr l 0)=apg H[l]?)/\(∀k n,EE H (.int k n)=some (.int k n))/\(∀b,EE H (.bool b)=some (.bool b))/\(∀s,EE H (.str s)=some (.str s))/\(∀t z r,EE H (.mb t z r)=some (.mb t z r))/\(∀c,EE H (.agg c)=some (.agg c))/\(∀c,EE H (.pp c)=some (.pp c))/\(∀c,EE H (.raw c)=some (.raw c))/\ ∀f x y,EE H (.func f x y)=some (.func f x y):=
 ⟨fun _=>rfl,fun _ _=>rfl,fun _=>rfl,fun _=>rfl,fun _ _ _=>rfl,fun _=>rfl,fun _=>rfl,fun _=>rfl,fun _ _ _=>rfl⟩
def awJ:apg (some (.cells cs))=some (.pp cs):=rfl
def ak8(S:mo C φ σ a w){y:AV}(h:EE σ.heap x=some y)(hn:y.nb 0)(r:n8 (C.env φ σ.heap w) x v):n8 (S.calm.env φ [] w) y v:=by
 cases x with
 |ptr l o=>
  simp only[EE] at h;cases ho:o==0 with
  |false=>rw[ho] at h;cases h
  |true=>
   rw[ho,jM] at h;have ho:=jS.1 ho;subst ho;cases hl:σ.heap[l]? with
   |none=>rw[hl] at h;cases h
   |some z=>
    rw[hl] at h;cases z with
    |cells cs=>
     cases h;obtain⟨_,b,hb,rfl⟩:=r;obtain⟨b',c,t,hb',hc,rl,h1⟩:=S.nN l _ hl;have hb:φ l=_:=hb;rw[hb] at hb';simp only[Value.pointer.injEq,eR,Addr.mk.injEq,and_true] at hb';subst hb'
     have e:(c.toList.drop 0).take cs.length=c.toList:=by
      rw[List.drop_zero,List.take_of_length_le];have:=rl.length;omega
     refine⟨b,0,rfl,Fa (E:=S.calm.env φ [] w) (c:=c) (t:=t) (fr:=(0,0)) hc cs 0 (fun o _ _=> ?_) ?_ ?_⟩
     ·simp only[pX.env,mo.calm];rintro(⟨l,x,hx,_⟩|h)
      all_goals grind
     ·rw[e];exact kC.mono S.apf _ _ hn rl
     ·rw[e];exact h1
    |_=>cases h
 |_=>cases h;exact n8.mono S.apf _ _ hn r
def acr(S:mo C φ σ a w): ∀{xs ys:List AV}{vs:List Value},ql (EE σ.heap) xs=some ys->vK 0 ys->kC (C.env φ σ.heap w) xs vs->kC (S.calm.env φ [] w) ys vs
 |[],ys,vs,h,_,r=>by simp only[ql,eR] at h;subst h;exact r
 |x::xs,ys,vs,h,hn,⟨u,us,hv,r1,r2⟩=>by
  simp only[ql,eQ,eR] at h;obtain⟨y,hy,zs,hz,rfl⟩:=h;exact⟨u,us,hv,ak8 S hy hn.1 r1,acr S hz hn.2 r2⟩
def sc1:AV->AV
 | .int k n=> .int k n
 | .bool b=> .bool b
 | .str s=> .str s
 |_=> .any
def sc2:AV->AV
 | .agg cs=> .agg (cs.map sc1)
 |x=>sc1 x
def aqL:AV->AV
 | .FI cs=> .FI (cs.map sc2)
 |x=>sc2 x
section
variable {E E':Env}
def aph(h:n8 E x v):n8 E' (sc1 x) v:=by
 cases x with
 |int=>exact h
 |bool=>exact h
 |str=>exact h
 |_=>exact trivial
def ak9: ∀{xs:List AV}{vs:List Value},kC E xs vs->kC E' (xs.map sc1) vs
 |[],_,h=>h
 |_::_,_,⟨u,us,hv,r1,r2⟩=>⟨u,us,hv,aph r1,ak9 r2⟩
def api(h:n8 E x v):n8 E' (sc2 x) v:=by
 cases x with
 |agg cs=>obtain⟨vs,hv,hr⟩:=h;exact⟨vs,hv,ak9 hr⟩
 |_=>exact aph h
def ala: ∀{xs:List AV}{vs:List Value},kC E xs vs->kC E' (xs.map sc2) vs
 |[],_,h=>h
 |_::_,_,⟨u,us,hv,r1,r2⟩=>⟨u,us,hv,api r1,ala r2⟩
def atm(h:n8 E x v):n8 E' (aqL x) v:=by
 cases x with
 |FI cs=>obtain⟨vs,hv,hr⟩:=h;exact⟨vs,hv,ala hr⟩
 |_=>exact api h
end
def AQ(e:aid):Ent:=fun args H=>(ql (EE H) args).bind fun as=>(e as).bind fun r=>some (aqL r,H)
def oP{e:aid}(h:Oj P f e):aci P f (AQ e):=by
 intro args σ r H' he;unfold AQ at he;simp only[eQ,eR,Prod.mk.injEq] at he;obtain⟨as,hv,q,hq,rfl,rfl⟩:=he;obtain⟨hen,hnb,hc⟩:=h as q hq;refine⟨hen,fun C φ a w hP S vs hr=> ?_⟩;refine(hc S.calm φ w hP rfl rfl (fun _ _ h=>h) vs (acr S hv hnb hr)).mono ?_;rintro e' w' ⟨r,v,φ',rfl,rfl,No,hs,hh,hf,ho⟩;exact⟨.ret (aqL r),φ,σ.heap,⟨rfl,rfl⟩,S.grown hs hh hf ho,atm No⟩
def aaq:AV->List Nat
 | .ptr l _=>[l]
 |_=>[]
def LW:List AV->List Nat
 |[]=>[]
 |x::xs=>aaq x++LW xs
def azr:(∀l o,aaq (.ptr l o)=[l])/\(∀k n,aaq (.int k n)=[])/\(∀b,aaq (.bool b)=[])/\(∀s,aaq (.str s)=[])/\(∀t z r,aaq (.mb t z r)=[])/\(∀c,aaq (.agg c)=[])/\(∀c,aaq (.pp c)=[])/\(∀c,aaq (.raw c)=[])/\(∀f x y,aaq (.func f x y)=[])/\LW []=[]/\ ∀x xs,LW (x::xs)=aaq x++LW xs:=
 ⟨fun _ _=>rfl,fun _ _=>rfl,fun _=>rfl,fun _=>rfl,fun _ _ _=>rfl,fun _=>rfl,fun _=>rfl,fun _=>rfl,fun _ _ _=>rfl,rfl,fun _ _=>rfl⟩
def apj{H:List kq}: ∀{xs ys:List AV},ql (EE H) xs=some ys-> ∀l∈LW xs,l<H.length
 |[],_,_,l,hl=>by simp [LW] at hl
 |x::xs,ys,h,l,hl=>by
  simp only[ql,eQ,eR] at h;obtain⟨y,hy,zs,hz,rfl⟩:=h;simp only[LW,List.mem_append] at hl;rcases hl with hl|hl
  ·cases x with
   |ptr k o=>
    grind [aaq,EE,apg]
   |_=>simp [aaq] at hl
  ·exact apj hz l hl
theorem aeF{H H':List kq}: ∀{xs:List AV},(∀l∈LW xs,H'[l]? =H[l]?)->ql (EE H') xs=ql (EE H) xs
 |[],_=>rfl
 |x::xs,h=>by
  have h1:EE H' x=EE H x:=by
   cases x with
   |ptr l o=>grind [EE,LW,aaq]
   |_=>rfl
  simp only[ql,h1];rw[aeF fun l hl=>h l (by simp [LW,hl])]
def SK(e:aid):List AV->List kq->Option CO:=fun args H=>(ql (EE H) args).bind fun as=>(e as).bind fun r=>some (.ret {val:=aqL r,rd:=LW args})
def JG{e:aid}(h:Oj P f e):air P f (SK e):=by
 intro args σ;refine⟨fun ef he=> ?_,fun x H' he=> ?_⟩
 ·simp only[SK,eQ,eR,CO.ret.injEq] at he;obtain⟨as,hv,r,hr,rfl⟩:=he;refine⟨⟨apj hv,by simp⟩,fun σ' h1 _ _=> ?_⟩
  have:=oP h args σ' (aqL r) σ'.heap (by
   grind [AQ,aeF])
  grind [lU]
 grind [SK,eQ]
end
attribute [go_sem] AQ SK awJ awI azr aqL sc2 sc1
section asq
variable {C:pX} {φ:Nat->Value} {σ:jZ} {a:Act} {w:World}
def an4{l off s sz:Nat}(hl:σ.heap[l]? =some (.cells cs))(hc:cs[off]? =some (.mb true s [])):
 GF σ {slots:=σ.slots,heap:=σ.heap.set l (.cells (cs.set off (.acc σ.heap.length 0)))++[.acc false sz []],low:=σ.low,df:=σ.df}:=by
 intro C φ a w S;have hlt:l<σ.heap.length:=(List.getElem?_eq_some_iff.1 hl).1;obtain⟨b,c,t,hφ,hh,rl,h1⟩:=S.nN l _ hl;obtain⟨v,hv,base,cap,rfl,_,hcap,_⟩:=rl.get hc;have hcap:cap=0:=hcap rfl;subst hcap
 have S':=S.Q2 (rT:=false) (sz:=sz) (rows:=[]) (w':=w) (h':= .slice base 0 0) (Nat.le_refl _) (fun _ _=>rfl) (fun _=>rfl) ⟨rfl,rfl⟩ (by
  intro b hb;cases base<;>simp [kq.block] at hb) (fun E' _ _=>⟨base,0,rfl,Nat.le_refl _,fun _=>rfl,by simp,fun b _ h0=>absurd rfl h0⟩)
 refine⟨(fun k=>if k=σ.heap.length then .slice base 0 0 else φ k),?_⟩;have QT:(σ.heap++[kq.acc false sz []])[l]? =some (.cells cs):=by grind
 have S2:=S'.asr (l:=l) (cs:=cs) (ds:=cs.set off (.acc σ.heap.length 0)) QT (by
  intro b2 c2 t2 h3 h4 r
  have e1:b2=b:=by
   grind
  subst e1;rw[show w.heap[b2]? =some (.cells c t (0,0)) from hh] at h4;simp only[eR,Obj.cells.injEq] at h4;obtain⟨rfl,_⟩:=h4
  have aAj:=kC.set (i:=off) (c:= .acc σ.heap.length 0) (v:= .slice base 0 0) r ⟨by simp [pX.env],⟨_,_,_,rfl⟩,fun k hk=>by
   grind [pX.env]⟩
  grind [List.set_getElem_self])
 grind
def aiu(l off sz:Nat)(b:Bool)(σ:jZ):jZ:=
 match σ.heap[l]? with
 |some (.cells cs)=>match cs[off]? with
  |some (.mb true _ [])=>{slots:=σ.slots,heap:=σ.heap.set l (.cells (cs.set off (.acc σ.heap.length 0)))++[.acc b sz []],low:=σ.low,df:=σ.df}
  |_=>σ
 |_=>σ
def aqM{l off sz:Nat}{σ:jZ}:GF σ (aiu l off sz b σ):=by
 unfold aiu;split
 ·rename_i cs hl;split
  ·rename_i s hc;cases b with
   |false=>exact an4 hl hc
   |true=>exact ag1 hl hc
  ·exact GF.refl σ
 ·exact GF.refl σ
end asq
def atn:List (List Nat×Nat×Nat×Nat×Bool)->List Nat->jZ->jZ
 |[],_,σ=>σ
 |(q,l,o,z,b)::t,p,σ=>if p=q then aiu l o z b σ else atn t p σ
def apk: ∀{t:List (List Nat×Nat×Nat×Nat×Bool)}{p:List Nat}{σ:jZ},GF σ (atn t p σ)
 |[],_,_=>GF.refl _
 |(q,l,o,z,b)::t,p,σ=>by
  unfold atn;split
  ·exact aqM
  ·exact apk
noncomputable def ahb (fs:List (List Nat×List Nat)) (gs:List (List Nat×Nat×Nat×Nat×Bool)) (p:List Nat) (σ:jZ):Option jZ:=(Y3 fs p σ).map (atn gs p)
def ato(fs:List (List Nat×List Nat))(gs:List (List Nat×Nat×Nat×Nat×Bool)): ∀p σ σ',ahb fs gs p σ=some σ'->GF σ σ':=by
 intro p σ σ' h;simp only[ahb,Option.map_eq_some_iff] at h;obtain⟨σ1,h1,rfl⟩:=h;exact(rq _ _ _ _ h1).trans apk
def gdM{f:Func}{out:jZ->Option R}{cl:FuncId->List AV->List kq->Option (AV×List kq)}{cd:FuncId->List AV->Option AV}{nl:List (List Nat×yd)}{cu:List (List Nat×List Nat)}{gm:List (List Nat×Nat×Nat×Nat×Bool)}{uR:FuncId->Bool}{cp:FuncId->List AV->List kq->Option (sO×List kq)}
 {oz:AV->jZ->Option R} {vf:FuncId->Bool} {co:FuncId->List AV->List kq->Option CO} {vJ:FuncId->Bool} {ce:FuncId->List AV->List kq->Option ux} {js:List Nat->List (Int×Code)} {cy:Nat->List AV->List kq->Option (AV×List kq)}
 (a: ∀f args σ r H',cl f args (jZ.heap σ)=some (r,H')->zD P f args σ (fun o Cs=>o= .ret r/\Cs=H')) (d: ∀f args r,cd f args=some r->IR P f args (fun v=>v=r))
 (y: ∀l args σ r H',cy l args (jZ.heap σ)=some (r,H')->IQ P l args σ (fun o Cs=>o= .ret r/\Cs=H'):=by exact vg) (e: ∀f args σ e,ce f args (jZ.heap σ)=some e->Jw P f args σ e:=by exact vi)
 (p: ∀f args σ o H',cp f args (jZ.heap σ)=some (o,H')->zD P f args σ (fun o' Cs=>o'=o/\Cs=H'):=by exact wM)
 (c: ∀f args σ,(∀e,co f args (jZ.heap σ)=some (.ret e)->Jw P f args σ e)/\ ∀x H',co f args σ.heap=some (.pan x H')->ad2 P f args σ.heap x H':=by exact wm):
 Good (oI P f n out cl cd (q9 nl) (ahb cu gm) uR cp oz vf co vJ ce js cy):=⟨a,d,qS _,ato _ _,y,e,p,c⟩
attribute [go_sem] atn ahb aiu
section

abbrev an5(M:kU R)(p q:List Nat):Prop:=tM M p=true/\tM M q=true
abbrev atp(M:kU R)(p q r:List Nat):Prop:=tM M p=true/\tM M q=true/\tM M r=true
abbrev an6(M:kU R)(p q r s:List Nat):Prop:=tM M p=true/\tM M q=true/\tM M r=true/\tM M s=true
abbrev aqN(M:kU R)(p:List Nat)(a b c d:Nat):Prop:=Py M p a b=true/\Py M p c d=true
abbrev aqO(M:kU R)(p:List Nat)(a b c d e f:Nat):Prop:=Py M p a b=true/\Py M p c d=true/\Py M p e f=true
abbrev Ej(M:kU R)(p:List Nat)(a b c d e f g h:Nat):Prop:=Py M p a b=true/\Py M p c d=true/\Py M p e f=true/\Py M p g h=true
end
def mB (x:Subtype p:=by
    apply _root_.Subtype.mk
    repeat intro
    simp (config:={maxSteps:=100000000}) only[go_sem,_root_.Nat.reduceAdd,_root_.Nat.reduceSub,_root_.Nat.reduceLeDiff,_root_.Nat.reduceEqDiff,_root_.Nat.reduceBEq,_root_.Nat.reduceMul,_root_.Nat.reduceLT,_root_.Int.reduceLE,_root_.Int.reduceLT,_root_.Int.reduceToNat,_root_.Int.reduceBEq,_root_.Int.reduceEq,_root_.Option.getD_some,mixed, *];exact rfl):Subtype p:=x
def Cv (x:Subtype p:=by
    apply _root_.Subtype.mk
    repeat intro
    simp (config:={maxSteps:=100000000})-implicitDefEqProofs only[go_sem,_root_.Nat.reduceAdd,_root_.Nat.reduceSub,_root_.Nat.reduceLeDiff,_root_.Nat.reduceEqDiff,_root_.Nat.reduceBEq,_root_.Nat.reduceMul,_root_.Nat.reduceLT,_root_.Int.reduceLE,_root_.Int.reduceLT,_root_.Int.reduceToNat,_root_.Int.reduceBEq,_root_.Int.reduceEq,_root_.Option.getD_some,mixed, *];exact rfl):Subtype p:=x
section
variable {γ β1 α1 β2 α2:Type}
abbrev OKC(P:Program)(g:FuncId)(as:AL α)(t:Ty R)(F:Nat->α->Option R):Prop:= ∀n a r,F n a=some r->IR P g (as.enc (fun _=>0) a) (fun v=>v=t.enc r)
variable {g:FuncId} {T0 T1 T2 T3 T4 T5:Type} {t:Ty R}
def c0{F:Nat->Unit->Option R}(h:OKC P g kP t F)(n:Nat): ∀r,F n ()=some r->IR P g [] (fun v=>v=t.enc r):=fun r=>h n () r
def c1{e0:Ty T0}{F:Nat->T0×Unit->Option R}(h:OKC P g (mh e0 kP) t F)(n:Nat): ∀x r,F n (x,())=some r->IR P g [e0.enc x] (fun v=>v=t.enc r):=fun x r=>h n (x,()) r
def c2{e0:Ty T0}{e1:Ty T1}{F:Nat->T0×T1×Unit->Option R}(h:OKC P g (mh e0 (mh e1 kP)) t F)(n:Nat): ∀x y r,F n (x,y,())=some r->IR P g [e0.enc x,e1.enc y] (fun v=>v=t.enc r):=fun x y r=>h n (x,y,()) r
def c3{e0:Ty T0}{e1:Ty T1}{e2:Ty T2}{F:Nat->T0×T1×T2×Unit->Option R}(h:OKC P g (mh e0 (mh e1 (mh e2 kP))) t F)(n:Nat): ∀x y z r,F n (x,y,z,())=some r->IR P g [e0.enc x,e1.enc y,e2.enc z] (fun v=>v=t.enc r):=fun x y z r=>h n (x,y,z,()) r
def c4{e0:Ty T0}{e1:Ty T1}{e2:Ty T2}{e3:Ty T3}{F:Nat->T0×T1×T2×T3×Unit->Option R}(h:OKC P g (mh e0 (mh e1 (mh e2 (mh e3 kP)))) t F)(n:Nat): ∀x y z u r,F n (x,y,z,u,())=some r->IR P g [e0.enc x,e1.enc y,e2.enc z,e3.enc u] (fun v=>v=t.enc r):=fun x y z u r=>h n (x,y,z,u,()) r
def c5{e0:Ty T0}{e1:Ty T1}{e2:Ty T2}{e3:Ty T3}{e4:Ty T4}{F:Nat->T0×T1×T2×T3×T4×Unit->Option R}(h:OKC P g (mh e0 (mh e1 (mh e2 (mh e3 (mh e4 kP))))) t F)(n:Nat): ∀x y z u v r,F n (x,y,z,u,v,())=some r->IR P g [e0.enc x,e1.enc y,e2.enc z,e3.enc u,e4.enc v] (fun w=>w=t.enc r):=fun x y z u v r=>h n (x,y,z,u,v,()) r
def c6{e0:Ty T0}{e1:Ty T1}{e2:Ty T2}{e3:Ty T3}{e4:Ty T4}{e5:Ty T5}{F:Nat->T0×T1×T2×T3×T4×T5×Unit->Option R}(h:OKC P g (mh e0 (mh e1 (mh e2 (mh e3 (mh e4 (mh e5 kP)))))) t F)(n:Nat): ∀x y z u v w r,F n (x,y,z,u,v,w,())=some r->IR P g [e0.enc x,e1.enc y,e2.enc z,e3.enc u,e4.enc v,e5.enc w] (fun q=>q=t.enc r):=fun x y z u v w r=>h n (x,y,z,u,v,w,()) r
end
abbrev LB(G:List Kt->α->Prop)(p:List Nat)(K:List Kt):Type:={B:α->α // ∀m X,G (.lq m p::K) X->G (.at (0::p):: .lp m p::K) (B X)}
abbrev LB2(G0:List Kt->β->Prop)(p0:List Nat)(K0:List Kt)(G:List Kt->α->Prop)(p:List Nat)(K:Nat->List Kt):Type:={B:β->α->α // ∀n Y m X,G0 (.lq n p0::K0) Y->G (.lq m p::K n) X->G (.at (0::p):: .lp m p::K n) (B Y X)}
def BK[Fu α]{p:List Nat}{K:List Kt}(b:LB G p K)(L:Nat->α)(m:Nat)(hL:L=yC b.1:=by rfl)
 (h0:G (.lq 0 p::K) Fu.z:=by repeat intro
                             exact JA) (hs: ∀m Z,G (.at (0::p):: .lp m p::K) Z->G (.lq (m+1) p::K) Z:=by
   intro m Z h
   repeat intro
   first
    |exact CR.trans (h ..)
    |(refine CR.trans ?_;apply h<;>assumption)):G (.lq m p::K) (L m):=hL ▸ an3 (G:=fun m Z=>G (.lq m p::K) Z) h0 (fun m X h=>hs m _ (b.2 m X h)) m
def an7[Fu α]{G0:List Kt->β->Prop}{p0:List Nat}{K0:List Kt}{p:List Nat}{K:Nat->List Kt}(b:LB2 G0 p0 K0 G p K){Y:β}(h:G0 (.lq n p0::K0) Y)(L:Nat->α)(m:Nat)(hL:L=yC (b.1 Y):=by rfl)
 (h0:G (.lq 0 p::K n) Fu.z:=by repeat intro
                               exact JA) (hs: ∀m Z,G (.at (0::p):: .lp m p::K n) Z->G (.lq (m+1) p::K n) Z:=by
   intro m Z h
   repeat intro
   first
    |exact CR.trans (h ..)
    |(refine CR.trans ?_;apply h<;>assumption)):G (.lq m p::K n) (L m):=hL ▸ an3 (G:=fun m Z=>G (.lq m p::K n) Z) h0 (fun m X h'=>hs m _ (b.2 n Y m X h h')) m
section
variable {T0 T1 T2 T3 T4 T5:Type}
abbrev SC0(M:kU R)(N:Nat):Type:={B:Option R // run M [.at []] (ini [] N)=B}
abbrev aqP(P:Program)(g:FuncId)(t:Ty R)(F:Option R):Prop:= ∀r,F=some r->IR P g [] (fun v=>v=t.enc r)
abbrev NA(M:kU R)(t0:Ty T0)(N:Nat):Type:={B:T0->Option R // ∀a,run M [.at []] (ini [t0.enc a] N)=B a}
abbrev xm(P:Program)(g:FuncId)(t0:Ty T0)(t:Ty R)(F:T0->Option R):Prop:= ∀a r,F a=some r->IR P g [t0.enc a] (fun v=>v=t.enc r)
abbrev SC2(M:kU R)(t0:Ty T0)(t1:Ty T1)(N:Nat):Type:={B:T0->T1->Option R // ∀a b,run M [.at []] (ini [t0.enc a,t1.enc b] N)=B a b}
abbrev GO(P:Program)(g:FuncId)(t0:Ty T0)(t1:Ty T1)(t:Ty R)(F:T0->T1->Option R):Prop:= ∀a b r,F a b=some r->IR P g [t0.enc a,t1.enc b] (fun v=>v=t.enc r)
abbrev SC3(M:kU R)(t0:Ty T0)(t1:Ty T1)(t2:Ty T2)(N:Nat):Type:={B:T0->T1->T2->Option R // ∀a b c,run M [.at []] (ini [t0.enc a,t1.enc b,t2.enc c] N)=B a b c}
abbrev aiv(P:Program)(g:FuncId)(t0:Ty T0)(t1:Ty T1)(t2:Ty T2)(t:Ty R)(F:T0->T1->T2->Option R):Prop:= ∀a b c r,F a b c=some r->IR P g [t0.enc a,t1.enc b,t2.enc c] (fun v=>v=t.enc r)
variable {fn:Func} {m:Nat} {cl:FuncId->List AV->List kq->Option (AV×List kq)} {cd:FuncId->List AV->Option AV} {rG:List Nat->jZ->Option jZ} {cut:List Nat->jZ->Option jZ} {uR:FuncId->Bool} {cp:FuncId->List AV->List kq->Option (sO×List kq)}
 {vf:FuncId->Bool} {co:FuncId->List AV->List kq->Option CO} {vJ:FuncId->Bool} {ce:FuncId->List AV->List kq->Option ux} {js:List Nat->List (Int×Code)} {cy:Nat->List AV->List kq->Option (AV×List kq)} {k:Nat} {g:FuncId} {rs:List ResultVar} {p1 p2:List Loc} {b1 b2:List Nat} {low:Nat} {t:Ty R} {t0:Ty T0} {t1:Ty T1} {t2:Ty T2} {t3:Ty T3} {t4:Ty T4} {t5:Ty T5}
def azs(w:SC0 (oI P fn m (nH P rs t) cl cd rG cut uR cp (fun _ _=>none) vf co vJ ce js cy) k)(G:Good (oI P fn m (nH P rs t) cl cd rG cut uR cp (fun _ _=>none) vf co vJ ce js cy))(hf:P.funcs[g]? =some fn)(hn:fn.ntmps=k)(Ia:fn.results=rs.toArray)(hb:fn.body=some (fn.body.getD .skip):=by exact rfl)(hne:(fn.name != "runtime.NumGoroutine")=true:=by exact rfl):aqP P g t w.1:=
 fun r h=>okC (w.2.trans h) G hf trivial hn Ia hb hne
def azt{F:Nat->Option R}(h: ∀n,aqP P g t (F (n+1)))(h0:F 0=none:=by intros;rfl): ∀n,aqP P g t (F n)
 |0=>fun r h=>by rw[h0] at h;cases h
 |n+1=>h n
def zd(w:NA (oI P fn m (nH P rs t) cl cd rG cut uR cp (fun _ _=>none) vf co vJ ce js cy) t0 k)(G:Good (oI P fn m (nH P rs t) cl cd rG cut uR cp (fun _ _=>none) vf co vJ ce js cy))(hf:P.funcs[g]? =some fn)(hn:fn.ntmps=k)(Ia:fn.results=rs.toArray)(hb:fn.body=some (fn.body.getD .skip):=by exact rfl)(hne:(fn.name != "runtime.NumGoroutine")=true:=by exact rfl):xm P g t0 t w.1:=
 fun a r h=>okC ((w.2 a).trans h) G hf ⟨t0.nb 0 _,trivial⟩ hn Ia hb hne
def Cb{F:Nat->T0->Option R}(h: ∀n,xm P g t0 t (F (n+1)))(h0: ∀a,F 0 a=none:=by intros;rfl): ∀n,xm P g t0 t (F n)
 |0=>fun a r h=>by rw[h0] at h;cases h
 |n+1=>h n
def Ks(w:SC2 (oI P fn m (nH P rs t) cl cd rG cut uR cp (fun _ _=>none) vf co vJ ce js cy) t0 t1 k)(G:Good (oI P fn m (nH P rs t) cl cd rG cut uR cp (fun _ _=>none) vf co vJ ce js cy))(hf:P.funcs[g]? =some fn)(hn:fn.ntmps=k)(Ia:fn.results=rs.toArray)(hb:fn.body=some (fn.body.getD .skip):=by exact rfl)(hne:(fn.name != "runtime.NumGoroutine")=true:=by exact rfl):GO P g t0 t1 t w.1:=
 fun a b r h=>okC ((w.2 a b).trans h) G hf ⟨t0.nb 0 _,t1.nb 0 _,trivial⟩ hn Ia hb hne
def LX{F:Nat->T0->T1->Option R}(h: ∀n,GO P g t0 t1 t (F (n+1)))(h0: ∀a b,F 0 a b=none:=by intros;rfl): ∀n,GO P g t0 t1 t (F n)
 |0=>fun a b r h=>by rw[h0] at h;cases h
 |n+1=>h n
def atq(w:SC3 (oI P fn m (nH P rs t) cl cd rG cut uR cp (fun _ _=>none) vf co vJ ce js cy) t0 t1 t2 k)(G:Good (oI P fn m (nH P rs t) cl cd rG cut uR cp (fun _ _=>none) vf co vJ ce js cy))(hf:P.funcs[g]? =some fn)(hn:fn.ntmps=k)(Ia:fn.results=rs.toArray)(hb:fn.body=some (fn.body.getD .skip):=by exact rfl)(hne:(fn.name != "runtime.NumGoroutine")=true:=by exact rfl):aiv P g t0 t1 t2 t w.1:=
 fun a b c r h=>okC ((w.2 a b c).trans h) G hf ⟨t0.nb 0 _,t1.nb 0 _,t2.nb 0 _,trivial⟩ hn Ia hb hne
def azu{F:Nat->T0->T1->T2->Option R}(h: ∀n,aiv P g t0 t1 t2 t (F (n+1)))(h0: ∀a b c,F 0 a b c=none:=by intros;rfl): ∀n,aiv P g t0 t1 t2 t (F n)
 |0=>fun a b c r h=>by rw[h0] at h;cases h
 |n+1=>h n
end
section
variable {γ β1 α1 β2 α2 Φ:Type}
abbrev SX(M:kU R)(as:AL γ)(os:OL β)(N:Nat)(u:Φ->β->γ->Option R):Type:={B:Φ // ∀b a,run M [.at []] (ait as os b a N)=u B b a}
abbrev Xt(P:Program)(g:FuncId)(as:AL γ)(os:OL β)(sD:OL β1)(s:AL α)(F:β->γ->Option (β1×α)):Prop:= ∀b a r,F b a=some r->SG P g as os b a sD s r
abbrev qR(P:Program)(g:FuncId)(as:AL γ)(os:OL β)(pk:Bool)(sD:OL β1)(s1:AL α1)(zJ:OL β2)(s2:AL α2)(F:β->γ->Option (PR (β1×α1) (β2×α2))):Prop:= ∀b a r,F b a=some r->SP P g as os b a pk sD s1 zJ s2 r
variable {fn:Func} {m:Nat} {cl:FuncId->List AV->List kq->Option (AV×List kq)} {cd:FuncId->List AV->Option AV} {rG:List Nat->jZ->Option jZ} {cut:List Nat->jZ->Option jZ} {uR:FuncId->Bool} {cp:FuncId->List AV->List kq->Option (sO×List kq)}
 {vf:FuncId->Bool} {co:FuncId->List AV->List kq->Option CO} {vJ:FuncId->Bool} {ce:FuncId->List AV->List kq->Option ux} {js:List Nat->List (Int×Code)} {cy:Nat->List AV->List kq->Option (AV×List kq)} {k:Nat} {g:FuncId} {rs:List ResultVar} {p1 p2:List Loc} {b1 b2:List Nat} {low:Nat}
 {as:AL γ} {os:OL β} {os0:OL β1} {s:AL α} {sD:OL β1} {yB:AL α1} {zJ:OL β2} {FQ:AL α2} {c:MX}
def abv{u:Φ->β->γ->Option (β1×α)}(e:SX (oI P fn m (CT P rs p1 b1 low os0 s) cl cd rG cut uR cp (fun _ _=>none) vf co vJ ce js cy) as os k u)(G:Good (oI P fn m (CT P rs p1 b1 low os0 s) cl cd rG cut uR cp (fun _ _=>none) vf co vJ ce js cy))(hf:P.funcs[g]? =some fn)(hn:fn.ntmps=k)(Ia:fn.results=rs.toArray)(h1:decide (as.need<=os.size)=true:=by kernel_rfl)(h2:decide (os.need<=os.size)=true:=by kernel_rfl)(Vh:b1=eS low:=by exact rfl)(hb:fn.body=some (fn.body.getD .skip):=by exact rfl)(hne:(fn.name != "runtime.NumGoroutine")=true:=by exact rfl):Xt P g as os os0 s (u e.1):=fun b a r h=>okG ((e.2 b a).trans h) G hf hn Ia h1 h2 Vh hb hne
def A6{u:Φ->β->γ->Option (PR (β1×α1) (β2×α2))}(e:SX (oI P fn m (py P rs p1 b1 low sD yB) cl cd rG cut uR cp (pz p2 b2 low zJ FQ) vf co vJ ce js cy) as os k u)(G:Good (oI P fn m (py P rs p1 b1 low sD yB) cl cd rG cut uR cp (pz p2 b2 low zJ FQ) vf co vJ ce js cy))(hf:P.funcs[g]? =some fn)(hn:fn.ntmps=k)(Ia:fn.results=rs.toArray)(h1:decide (as.need<=os.size)=true:=by kernel_rfl)(h2:decide (os.need<=os.size)=true:=by kernel_rfl)(hone: ∀b a,∃y,FQ.enc (zJ.lens b) a=[y]:=by exact fun b a=>⟨_,rfl⟩)(Vh:b1=eS low:=by exact rfl)(hb2:b2=eS low:=by exact rfl)(hb:fn.body=some (fn.body.getD .skip):=by exact rfl)(hne:(fn.name != "runtime.NumGoroutine")=true:=by exact rfl):qR P g as os true sD yB zJ FQ (u e.1):=fun b a r h=>okP ((e.2 b a).trans h) G hf hn Ia h1 h2 hone Vh hb2 hb hne
def aBq{u:Φ->β->γ->Option (PR (β1×α1) (β2×α2))}(e:SX (oI P fn m (aam P rs p1 b1 low sD yB p2 zJ FQ) cl cd rG cut uR cp (fun _ _=>none) vf co vJ ce js cy) as os k u)(G:Good (oI P fn m (aam P rs p1 b1 low sD yB p2 zJ FQ) cl cd rG cut uR cp (fun _ _=>none) vf co vJ ce js cy))(hf:P.funcs[g]? =some fn)(hn:fn.ntmps=k)(Ia:fn.results=rs.toArray)(h1:decide (as.need<=os.size)=true:=by kernel_rfl)(h2:decide (os.need<=os.size)=true:=by kernel_rfl)(Vh:b1=eS low:=by exact rfl)(hb:fn.body=some (fn.body.getD .skip):=by exact rfl)(hne:(fn.name != "runtime.NumGoroutine")=true:=by exact rfl):qR P g as os false sD yB zJ FQ (u e.1):=fun b a r h=>okS ((e.2 b a).trans h) G hf hn Ia h1 h2 Vh hb hne
def ax2{u:Φ->β->γ->Option (PR (β1×α1) (β2×α2))}(hc:atg P c)(e:SX (oI P fn m (aeD c (py P rs p1 b1 low sD yB) (pz p2 b2 low zJ FQ)) cl cd rG cut uR cp (aeE c (py P rs p1 b1 low sD yB) (pz p2 b2 low zJ FQ)) vf co vJ ce js cy) as os k u)(G:Good (oI P fn m (aeD c (py P rs p1 b1 low sD yB) (pz p2 b2 low zJ FQ)) cl cd rG cut uR cp (aeE c (py P rs p1 b1 low sD yB) (pz p2 b2 low zJ FQ)) vf co vJ ce js cy))(hf:P.funcs[g]? =some fn)(hn:fn.ntmps=k)(Ia:fn.results=rs.toArray)(h1:decide (as.need<=os.size)=true:=by kernel_rfl)(h2:decide (os.need<=os.size)=true:=by kernel_rfl)(hone: ∀b a,∃y,FQ.enc (zJ.lens b) a=[y]:=by exact fun b a=>⟨_,rfl⟩)(Vh:b1=eS low:=by exact rfl)(hb2:b2=eS low:=by exact rfl)(hb:fn.body=some (fn.body.getD .skip):=by exact rfl)(hne:(fn.name != "runtime.NumGoroutine")=true:=by exact rfl):qR P g as os true sD yB zJ FQ (u e.1):=fun b a r h=>aC5 hc ((e.2 b a).trans h) G hf hn Ia h1 h2 hone Vh hb2 hb hne
def abw{u:Φ->β->γ->Option (β1×α)}{F:Nat->Φ}(h: ∀n,Xt P g as os sD s (u (F (n+1))))(h0: ∀b a,u (F 0) b a=none:=by intros;rfl): ∀n,Xt P g as os sD s (u (F n))
 |0=>fun b a r h=>by rw[h0] at h;cases h
 |n+1=>h n
def Rm{u:Φ->β->γ->Option (PR (β1×α1) (β2×α2))}{pk:Bool}{F:Nat->Φ}(h: ∀n,qR P g as os pk sD yB zJ FQ (u (F (n+1))))(h0: ∀b a,u (F 0) b a=none:=by intros;rfl): ∀n,qR P g as os pk sD yB zJ FQ (u (F n))
 |0=>fun b a r h=>by rw[h0] at h;cases h
 |n+1=>h n
end
def mC (x:Subtype p:=by
    apply _root_.Subtype.mk
    repeat (first|refine _root_.Prod.forall.2 ?_|intro)
    simp (config:={maxSteps:=100000000}) only[go_sem,_root_.Nat.reduceAdd,_root_.Nat.reduceSub,_root_.Nat.reduceLeDiff,_root_.Nat.reduceEqDiff,_root_.Nat.reduceBEq,_root_.Nat.reduceMul,_root_.Nat.reduceLT,_root_.Int.reduceLE,_root_.Int.reduceLT,_root_.Int.reduceToNat,_root_.Int.reduceBEq,_root_.Int.reduceEq,_root_.Option.getD_some,mixed, *];exact rfl):Subtype p:=x
def yD (x:Subtype p:=by
    apply _root_.Subtype.mk
    repeat (first|refine _root_.Prod.forall.2 ?_|intro)
    simp (config:={maxSteps:=100000000})-implicitDefEqProofs only[go_sem,_root_.Nat.reduceAdd,_root_.Nat.reduceSub,_root_.Nat.reduceLeDiff,_root_.Nat.reduceEqDiff,_root_.Nat.reduceBEq,_root_.Nat.reduceMul,_root_.Nat.reduceLT,_root_.Int.reduceLE,_root_.Int.reduceLT,_root_.Int.reduceToNat,_root_.Int.reduceBEq,_root_.Int.reduceEq,_root_.Option.getD_some,mixed, *];exact rfl):Subtype p:=x
end Go.Abs
