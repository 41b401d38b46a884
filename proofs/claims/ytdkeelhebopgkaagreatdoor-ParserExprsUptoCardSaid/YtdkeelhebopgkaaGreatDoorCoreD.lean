/- A part of the proof: abstract states and the rules for them. -/
import Derived.Test.YtdkeelhebopgkaaGreatDoorCoreC
set_option linter.all false
open Go renaming FuncId→aMS,Program→aMT
open Option renaming bind_eq_some_iff→eO
open Option.some renaming injEq→eP
open List renaming range→eQ,getElem?_eq_some_iff→eR,set_getElem_self→eS
namespace Go.Abs
variable {x:AV}{b:Bool}{f:aMS}{cs:List AV}{K:List Kt}{W:Type}{G:List Kt->W->Prop}{n s:Nat}{P:aMT}{R O:Type}{v:Value}{J:jX}{M:kR R}{p:O->Prop}
section
variable {C:tg} {U:Nat->Value} {a:Act} {w:World}
def nr.calm(S:nr C U J a w):tg:=
 {P:=C.P,w0:=w,M0:=fun _ _=>False,A:=fun _ _=>False,hA:=fun _ _ h=>h.elim,hk:=fun b o h=>let ⟨v,h1,h2,_⟩:=S.know b o h;⟨v,h1,h2,fun f=>f⟩}
def nr.ayk(S:nr C U J a w):(C.env U J.heap w).Le 0 (S.calm.env U [] w):=by
 refine⟨Nat.zero_le _,fun l hl=>absurd hl (Nat.not_lt_zero _),fun b o u hm hc=>⟨?_,hc⟩⟩;simp only[tg.env,nr.calm];rintro(⟨l,x,hx,_⟩|h)
 ·simp at hx
 ·exact h
def ayl:Option kp->Option AV
 |some (.cells cs)=>some (.pp cs)
 |_=>none
def HH(H:List kp):AV->Option AV
 |.ptr l o=>bif o==0 then ayl H[l]? else none
 |x=>some x
def aEZ{H:List kp}:(∀l,HH H (.ptr l 0)=ayl H[l]?)/\(∀k n,HH H (.int k n)=some (.int k n))/\(∀b,HH H (.bool b)=some (.bool b))/\(∀s,HH H (.str s)=some (.str s))/\(∀t z r,HH H (.lS t z r)=some (.lS t z r))/\(∀c,HH H (.agg c)=some (.agg c))/\(∀c,HH H (.pp c)=some (.pp c))/\(∀c,HH H (.uE c)=some (.uE c))/\∀f x y,HH H (.func f x y)=some (.func f x y):=
 ⟨fun _=>rfl,fun _ _=>rfl,fun _=>rfl,fun _=>rfl,fun _ _ _=>rfl,fun _=>rfl,fun _=>rfl,fun _=>rfl,fun _ _ _=>rfl⟩
def aE0:ayl (some (.cells cs))=some (.pp cs):=rfl
def at0(S:nr C U J a w){y:AV}(h:HH J.heap x=some y)(hn:y.nb 0)(r:pO (C.env U J.heap w) x v):pO (S.calm.env U [] w) y v:=by
 cases x with
 |ptr l o=>
  simp only[HH]at h;cases ho:o==0 with
  |false=>rw[ho]at h;cases h
  |true=>
   rw[ho,jK]at h;have ho:=beq_iff_eq.1 ho;subst ho;cases hl:J.heap[l]? with
   |none=>rw[hl]at h;cases h
   |some z=>
    rw[hl]at h;cases z with
    |cells cs=>
     cases h;obtain⟨_,b,hb,rfl⟩:=r;obtain⟨b',c,t,Gs,hc,rl,h1⟩:=S.sF l _ hl;have hb:U l=_:=hb;rw[hb]at Gs;simp only[Value.pointer.injEq,eP,Addr.mk.injEq,and_true]at Gs;subst Gs
     have e:(c.toList.drop 0).take cs.length=c.toList:=by
      rw[List.drop_zero,List.take_of_length_le];have:=rl.length;omega
     refine⟨b,0,rfl,It (E:=S.calm.env U [] w) (c:=c) (t:=t) (fr:=(0,0)) hc cs 0 (fun o _ _=>?_) ?_ ?_⟩
     ·simp only[tg.env,nr.calm];rintro(⟨l,x,hx,_⟩|h)
      all_goals grind
     ·rw[e];exact kQ.mono S.ayk _ _ hn rl
     ·rw[e];exact h1
    |_=>cases h
 |_=>cases h;exact pO.mono S.ayk _ _ hn r
def aj7(S:nr C U J a w):∀{xs ys:List AV}{vs:List Value},so (HH J.heap) xs=some ys->xB 0 ys->kQ (C.env U J.heap w) xs vs->kQ (S.calm.env U [] w) ys vs
 |[],ys,vs,h,_,r=>by simp only[so,eP]at h;subst h;exact r
 |x::xs,ys,vs,h,hn,⟨u,us,hv,r1,r2⟩=>by
  simp only[so,eO,eP]at h;obtain⟨y,hy,zs,hz,rfl⟩:=h;exact⟨u,us,hv,at0 S hy hn.1 r1,aj7 S hz hn.2 r2⟩
def sc1:AV->AV
 |.int k n=>.int k n
 |.bool b=>.bool b
 |.str s=>.str s
 |_=>.any
def sc2:AV->AV
 |.agg cs=>.agg (cs.map sc1)
 |x=>sc1 x
def azB:AV->AV
 |.Je cs=>.Je (cs.map sc2)
 |x=>sc2 x
section
variable {E E':D4}
def aym(h:pO E x v):pO E' (sc1 x) v:=by
 cases x with
 |int=>exact h
 |bool=>exact h
 |str=>exact h
 |_=>exact trivial
def at1:∀{xs:List AV}{vs:List Value},kQ E xs vs->kQ E' (xs.map sc1) vs
 |[],_,h=>h
 |_::_,_,⟨u,us,hv,r1,r2⟩=>⟨u,us,hv,aym r1,at1 r2⟩
def ayn(h:pO E x v):pO E' (sc2 x) v:=by
 cases x with
 |agg cs=>obtain⟨vs,hv,hr⟩:=h;exact⟨vs,hv,at1 hr⟩
 |_=>exact aym h
def at2:∀{xs:List AV}{vs:List Value},kQ E xs vs->kQ E' (xs.map sc2) vs
 |[],_,h=>h
 |_::_,_,⟨u,us,hv,r1,r2⟩=>⟨u,us,hv,ayn r1,at2 r2⟩
def aB8(h:pO E x v):pO E' (azB x) v:=by
 cases x with
 |Je cs=>obtain⟨vs,hv,hr⟩:=h;exact⟨vs,hv,at2 hr⟩
 |_=>exact ayn h
end
def qP(e:aqB):Ent:=fun args H=>(so (HH H) args).bind fun as=>(e as).bind fun r=>some (azB r,H)
def lD{e:aqB}(h:UE P f e):afa P f (qP e):=by
 intro args J r H' he;unfold qP at he;simp only[eO,eP,Prod.mk.injEq]at he;obtain⟨as,hv,q,hq,rfl,rfl⟩:=he;obtain⟨hen,Nb,hc⟩:=h as q hq;refine⟨hen,fun C U a w hP S vs hr=>?_⟩;refine(hc S.calm U w hP rfl rfl (fun _ _ h=>h) vs (aj7 S hv Nb hr)).mono ?_;rintro e' w' ⟨r,v,U',rfl,rfl,rep,hs,hh,hf,ho⟩;exact⟨.ret (azB r),U,J.heap,⟨rfl,rfl⟩,S.axP hs hh hf ho,aB8 rep⟩
def ahH:AV->List Nat
 |.ptr l _=>[l]
 |_=>[]
def QI:List AV->List Nat
 |[]=>[]
 |x::xs=>ahH x++QI xs
def aHx:(∀l o,ahH (.ptr l o)=[l])/\(∀k n,ahH (.int k n)=[])/\(∀b,ahH (.bool b)=[])/\(∀s,ahH (.str s)=[])/\(∀t z r,ahH (.lS t z r)=[])/\(∀c,ahH (.agg c)=[])/\(∀c,ahH (.pp c)=[])/\(∀c,ahH (.uE c)=[])/\(∀f x y,ahH (.func f x y)=[])/\QI []=[]/\∀x xs,QI (x::xs)=ahH x++QI xs:=
 ⟨fun _ _=>rfl,fun _ _=>rfl,fun _=>rfl,fun _=>rfl,fun _ _ _=>rfl,fun _=>rfl,fun _=>rfl,fun _=>rfl,fun _ _ _=>rfl,rfl,fun _ _=>rfl⟩
def ayo{H:List kp}: ∀{xs ys:List AV},so (HH H) xs=some ys-> ∀l∈QI xs,l<H.length
 |[],_,_,l,hl=>by simp [QI]at hl
 |x::xs,ys,h,l,hl=>by
  simp only[so,eO,eP]at h;obtain⟨y,hy,zs,hz,rfl⟩:=h;simp only[QI,List.mem_append]at hl;rcases hl with hl|hl
  ·cases x with
   |ptr k o=>
    grind [ahH,HH,ayl]
   |_=>simp [ahH]at hl
  ·exact ayo hz l hl
theorem amM{H H':List kp}:∀{xs:List AV},(∀l∈QI xs,H'[l]? =H[l]?)->so (HH H') xs=so (HH H) xs
 |[],_=>rfl
 |x::xs,h=>by
  have h1:HH H' x=HH H x:=by
   cases x with
   |ptr l o=>grind [HH,QI,ahH]
   |_=>rfl
  simp only[so,h1];rw[amM fun l hl=>h l (by simp [QI,hl])]
def QJ(e:aqB):List AV->List kp->Option CO:=fun args H=>(so (HH H) args).bind fun as=>(e as).bind fun r=>some (.ret {val:=azB r,rd:=QI args})
def Fx{e:aqB}(h:UE P f e):aqP P f (QJ e):=by
 intro args J;refine⟨fun ef he=>?_,fun x H' he=>?_⟩
 ·simp only[QJ,eO,eP,CO.ret.injEq]at he;obtain⟨as,hv,r,hr,rfl⟩:=he;refine⟨⟨ayo hv,by simp⟩,fun J' h1 _ _=>?_⟩
  have:=lD h args J' (azB r) J'.heap (by
   grind [qP,amM])
  grind [mN]
 grind [QJ,eO]
end
attribute [go_sem] qP QJ aE0 aEZ aHx azB sc2 sc1
section aBi
variable {C:tg} {U:Nat->Value} {a:Act} {w:World}
def awZ {l off sz:Nat}(hl:J.heap[l]? =some (.cells cs))(hc:cs[off]? =some (.lS true s [])):
 Kr J {kr:=J.kr,heap:=J.heap.set l (.cells (cs.set off (.mE J.heap.length 0)))++[.mE false sz []],low:=J.low,df:=J.df}:=by
 intro C U a w S;have me:l<J.heap.length:=(eR.1 hl).1;obtain⟨b,c,t,hφ,hh,rl,h1⟩:=S.sF l _ hl;obtain⟨v,hv,base,cap,rfl,_,G9,_⟩:=rl.get hc;have G9:cap=0:=G9 rfl;subst G9
 have S':=S.XO (vA:=false) (sz:=sz) (rows:=[]) (w':=w) (h':=.slice base 0 0) (Nat.le_refl _) (fun _ _=>rfl) (fun _=>rfl) ⟨rfl,rfl⟩ (by
  intro b hb;cases base<;>simp [kp.block]at hb) (fun E' _ _=>⟨base,0,rfl,Nat.le_refl _,fun _=>rfl,by simp,fun b _ h0=>absurd rfl h0⟩)
 refine⟨(fun k=>if k=J.heap.length then .slice base 0 0 else U k),?_⟩;have hl':(J.heap++[kp.mE false sz []])[l]? =some (.cells cs):=by grind
 have S2:=S'.aBj (l:=l) (cs:=cs) (ds:=cs.set off (.mE J.heap.length 0)) hl' (by
  intro b2 c2 t2 h3 h4 r
  have e1:b2=b:=by
   grind
  subst e1;rw[show w.heap[b2]? =some (.cells c t (0,0))from hh]at h4;simp only[eP,Obj.cells.injEq]at h4;obtain⟨rfl,_⟩:=h4
  have aDw:=kQ.set (i:=off) (c:=.mE J.heap.length 0) (v:=.slice base 0 0) r ⟨by simp [tg.env],⟨_,_,_,rfl⟩,fun k hk=>by
   grind [tg.env]⟩
  grind [eS])
 grind
def aqS(l off sz:Nat)(b:Bool)(J:jX):jX:=
 match J.heap[l]? with
 |some (.cells cs)=>match cs[off]? with
  |some (.lS true _ [])=>{kr:=J.kr,heap:=J.heap.set l (.cells (cs.set off (.mE J.heap.length 0)))++[.mE b sz []],low:=J.low,df:=J.df}
  |_=>J
 |_=>J
def azC{l off sz:Nat}:Kr J (aqS l off sz b J):=by
 unfold aqS;split
 ·rename_i cs hl;split
  ·rename_i s hc;cases b with
   |false=>exact awZ hl hc
   |true=>exact ape hl hc
  ·exact Kr.refl J
 ·exact Kr.refl J
end aBi
def aB9:List (List Nat×Nat×Nat×Nat×Bool)->List Nat->jX->jX
 |[],_,J=>J
 |(q,l,o,z,b)::t,p,J=>if p=q then aqS l o z b J else aB9 t p J
def ayp:∀{t:List (List Nat×Nat×Nat×Nat×Bool)}{p:List Nat}{J:jX},Kr J (aB9 t p J)
 |[],_,_=>Kr.refl _
 |(q,l,o,z,b)::t,p,J=>by
  unfold aB9;split
  ·exact azC
  ·exact ayp
noncomputable def amN (fs:List (List Nat×List Nat)) (gs:List (List Nat×Nat×Nat×Nat×Bool)) (p:List Nat) (J:jX):Option jX:=(agb fs p J).map (aB9 gs p)
def aCa(fs:List (List Nat×List Nat))(gs:List (List Nat×Nat×Nat×Nat×Bool)):∀p J J',amN fs gs p J=some J'->Kr J J':=by
 intro p J J' h;simp only[amN,Option.map_eq_some_iff]at h;obtain⟨J1,h1,rfl⟩:=h;exact(nn _ _ _ _ h1).trans ayp
def gdM{f:Func}{out:jX->Option R}{cl:aMS->List AV->List kp->Option (AV×List kp)}{cd:aMS->List AV->Option AV}{nl:List (List Nat×wH)}{cu:List (List Nat×List Nat)}{gm:List (List Nat×Nat×Nat×Nat×Bool)}{wF:aMS->Bool}{cp:aMS->List AV->List kp->Option (uP×List kp)}
 {pT:AV->jX->Option R} {uO:aMS->Bool} {co:aMS->List AV->List kp->Option CO} {uR:aMS->Bool} {ce:aMS->List AV->List kp->Option wO} {js:List Nat->List (Int×Code)} {cy:Nat->List AV->List kp->Option (AV×List kp)}
 (a:∀f args J r H',cl f args (jX.heap J)=some (r,H')->BE P f args J (fun o EX=>o=.ret r/\EX=H')) (d:∀f args r,cd f args=some r->Ku P f args (fun v=>v=r))
 (y:∀l args J r H',cy l args (jX.heap J)=some (r,H')->M5 P l args J (fun o EX=>o=.ret r/\EX=H'):=by exact oR) (e:∀f args J e,ce f args (jX.heap J)=some e->NY P f args J e:=by exact oS)
 (p:∀f args J o H',cp f args (jX.heap J)=some (o,H')->BE P f args J (fun o' EX=>o'=o/\EX=H'):=by exact pM)
 (c:∀f args J,(∀e,co f args (jX.heap J)=some (.ret e)->NY P f args J e)/\∀x H',co f args J.heap=some (.pan x H')->al7 P f args J.heap x H':=by exact qe):
 Fh (nX P f n out cl cd (qF nl) (amN cu gm) wF cp pT uO co uR ce js cy):=⟨a,d,mU _,aCa _ _,y,e,p,c⟩
attribute [go_sem] aB9 amN aqS
section

abbrev aoa(M:kR R)(p q:List Nat):Prop:=sP M p=true/\sP M q=true
abbrev azD(M:kR R)(p q r:List Nat):Prop:=sP M p=true/\sP M q=true/\sP M r=true
abbrev aCb(M:kR R)(p q r s:List Nat):Prop:=sP M p=true/\sP M q=true/\sP M r=true/\sP M s=true
abbrev aob(M:kR R)(p:List Nat)(a b c d:Nat):Prop:=N3 M p a b=true/\N3 M p c d=true
abbrev akF(M:kR R)(p:List Nat)(a b c d e f:Nat):Prop:=N3 M p a b=true/\N3 M p c d=true/\N3 M p e f=true
abbrev Bh(M:kR R)(p:List Nat)(a b c d e f g h:Nat):Prop:=N3 M p a b=true/\N3 M p c d=true/\N3 M p e f=true/\N3 M p g h=true
end
def mB (x:Subtype p:=by
    apply _root_.Subtype.mk
    repeat intro
    simp (config:={maxSteps:=100000000}) only[go_sem,_root_.Nat.reduceAdd,_root_.Nat.reduceSub,_root_.Nat.reduceLeDiff,_root_.Nat.reduceEqDiff,_root_.Nat.reduceBEq,_root_.Nat.reduceMul,_root_.Nat.reduceLT,_root_.Int.reduceLE,_root_.Int.reduceLT,_root_.Int.reduceToNat,_root_.Int.reduceBEq,_root_.Int.reduceEq,_root_.Option.getD_some,mixed, *];exact rfl):Subtype p:=x
def yp (x:Subtype p:=by
    apply _root_.Subtype.mk
    repeat intro
    simp (config:={maxSteps:=100000000})-implicitDefEqProofs only[go_sem,_root_.Nat.reduceAdd,_root_.Nat.reduceSub,_root_.Nat.reduceLeDiff,_root_.Nat.reduceEqDiff,_root_.Nat.reduceBEq,_root_.Nat.reduceMul,_root_.Nat.reduceLT,_root_.Int.reduceLE,_root_.Int.reduceLT,_root_.Int.reduceToNat,_root_.Int.reduceBEq,_root_.Int.reduceEq,_root_.Option.getD_some,mixed, *];exact rfl):Subtype p:=x
section
variable {γ O1 W1 O2 W2:Type}
abbrev OKC(P:aMT)(g:aMS)(as:AL W)(t:Ty R)(F:Nat->W->Option R):Prop:=∀n a r,F n a=some r->Ku P g (as.enc (fun _=>0) a) (fun v=>v=t.enc r)
variable {g:aMS} {T0 T1 T2 T3 T4 T5:Type} {t:Ty R}
def c0{F:Nat->Unit->Option R}(h:OKC P g k7 t F)(n:Nat):∀r,F n ()=some r->Ku P g [] (fun v=>v=t.enc r):=fun r=>h n () r
def c1{e0:Ty T0}{F:Nat->T0×Unit->Option R}(h:OKC P g (mH e0 k7) t F)(n:Nat):∀x r,F n (x,())=some r->Ku P g [e0.enc x] (fun v=>v=t.enc r):=fun x r=>h n (x,()) r
def c2{e0:Ty T0}{e1:Ty T1}{F:Nat->T0×T1×Unit->Option R}(h:OKC P g (mH e0 (mH e1 k7)) t F)(n:Nat):∀x y r,F n (x,y,())=some r->Ku P g [e0.enc x,e1.enc y] (fun v=>v=t.enc r):=fun x y r=>h n (x,y,()) r
def c3{e0:Ty T0}{e1:Ty T1}{e2:Ty T2}{F:Nat->T0×T1×T2×Unit->Option R}(h:OKC P g (mH e0 (mH e1 (mH e2 k7))) t F)(n:Nat):∀x y z r,F n (x,y,z,())=some r->Ku P g [e0.enc x,e1.enc y,e2.enc z] (fun v=>v=t.enc r):=fun x y z r=>h n (x,y,z,()) r
def c4{e0:Ty T0}{e1:Ty T1}{e2:Ty T2}{e3:Ty T3}{F:Nat->T0×T1×T2×T3×Unit->Option R}(h:OKC P g (mH e0 (mH e1 (mH e2 (mH e3 k7)))) t F)(n:Nat):∀x y z u r,F n (x,y,z,u,())=some r->Ku P g [e0.enc x,e1.enc y,e2.enc z,e3.enc u] (fun v=>v=t.enc r):=fun x y z u r=>h n (x,y,z,u,()) r
def c5{e0:Ty T0}{e1:Ty T1}{e2:Ty T2}{e3:Ty T3}{e4:Ty T4}{F:Nat->T0×T1×T2×T3×T4×Unit->Option R}(h:OKC P g (mH e0 (mH e1 (mH e2 (mH e3 (mH e4 k7))))) t F)(n:Nat):∀x y z u v r,F n (x,y,z,u,v,())=some r->Ku P g [e0.enc x,e1.enc y,e2.enc z,e3.enc u,e4.enc v] (fun w=>w=t.enc r):=fun x y z u v r=>h n (x,y,z,u,v,()) r
def c6{e0:Ty T0}{e1:Ty T1}{e2:Ty T2}{e3:Ty T3}{e4:Ty T4}{e5:Ty T5}{F:Nat->T0×T1×T2×T3×T4×T5×Unit->Option R}(h:OKC P g (mH e0 (mH e1 (mH e2 (mH e3 (mH e4 (mH e5 k7)))))) t F)(n:Nat):∀x y z u v w r,F n (x,y,z,u,v,w,())=some r->Ku P g [e0.enc x,e1.enc y,e2.enc z,e3.enc u,e4.enc v,e5.enc w] (fun q=>q=t.enc r):=fun x y z u v w r=>h n (x,y,z,u,v,w,()) r
end
abbrev LB(G:List Kt->W->Prop)(p:List Nat)(K:List Kt):Type:={B:W->W //∀m X,G (.lq m p::K) X->G (.at (0::p)::.lp m p::K) (B X)}
abbrev LB2(G0:List Kt->O->Prop)(p0:List Nat)(K0:List Kt)(G:List Kt->W->Prop)(p:List Nat)(K:Nat->List Kt):Type:={B:O->W->W //∀n aLV m X,G0 (.lq n p0::K0) aLV->G (.lq m p::K n) X->G (.at (0::p)::.lp m p::K n) (B aLV X)}
def yL[Fu W]{p:List Nat}(b:LB G p K)(L:Nat->W)(m:Nat)(hL:L=xb b.1:=by rfl)
 (h0:G (.lq 0 p::K) Fu.z:=by repeat intro
                             exact Jm) (hs:∀m Z,G (.at (0::p)::.lp m p::K) Z->G (.lq (m+1) p::K) Z:=by
   intro m Z h
   repeat intro
   first
    |exact C7.trans (h ..)
    |(refine C7.trans ?_;apply h<;>assumption)):G (.lq m p::K) (L m):=hL ▸ awX (G:=fun m Z=>G (.lq m p::K) Z) h0 (fun m X h=>hs m _ (b.2 m X h)) m
def aqT[Fu W]{G0:List Kt->O->Prop}{p0:List Nat}{K0:List Kt}{p:List Nat}{K:Nat->List Kt}(b:LB2 G0 p0 K0 G p K){aLV:O}(h:G0 (.lq n p0::K0) aLV)(L:Nat->W)(m:Nat)(hL:L=xb (b.1 aLV):=by rfl)
 (h0:G (.lq 0 p::K n) Fu.z:=by repeat intro
                               exact Jm) (hs:∀m Z,G (.at (0::p)::.lp m p::K n) Z->G (.lq (m+1) p::K n) Z:=by
   intro m Z h
   repeat intro
   first
    |exact C7.trans (h ..)
    |(refine C7.trans ?_;apply h<;>assumption)):G (.lq m p::K n) (L m):=hL ▸ awX (G:=fun m Z=>G (.lq m p::K n) Z) h0 (fun m X h'=>hs m _ (b.2 n aLV m X h h')) m
section
variable {T0 T1 T2 T3 T4 T5:Type}
abbrev SC0(M:kR R)(N:Nat):Type:={B:Option R // run M [.at []] (UJ [] N)=B}
abbrev azE(P:aMT)(g:aMS)(t:Ty R)(F:Option R):Prop:=∀r,F=some r->Ku P g [] (fun v=>v=t.enc r)
abbrev R2(M:kR R)(t0:Ty T0)(N:Nat):Type:={B:T0->Option R //∀a,run M [.at []] (UJ [t0.enc a] N)=B a}
abbrev zm(P:aMT)(g:aMS)(t0:Ty T0)(t:Ty R)(F:T0->Option R):Prop:=∀a r,F a=some r->Ku P g [t0.enc a] (fun v=>v=t.enc r)
abbrev SC2(M:kR R)(t0:Ty T0)(t1:Ty T1)(N:Nat):Type:={B:T0->T1->Option R //∀a b,run M [.at []] (UJ [t0.enc a,t1.enc b] N)=B a b}
abbrev Gx(P:aMT)(g:aMS)(t0:Ty T0)(t1:Ty T1)(t:Ty R)(F:T0->T1->Option R):Prop:=∀a b r,F a b=some r->Ku P g [t0.enc a,t1.enc b] (fun v=>v=t.enc r)
abbrev SC3(M:kR R)(t0:Ty T0)(t1:Ty T1)(t2:Ty T2)(N:Nat):Type:={B:T0->T1->T2->Option R //∀a b c,run M [.at []] (UJ [t0.enc a,t1.enc b,t2.enc c] N)=B a b c}
abbrev aqU(P:aMT)(g:aMS)(t0:Ty T0)(t1:Ty T1)(t2:Ty T2)(t:Ty R)(F:T0->T1->T2->Option R):Prop:=∀a b c r,F a b c=some r->Ku P g [t0.enc a,t1.enc b,t2.enc c] (fun v=>v=t.enc r)
abbrev SC4(M:kR R)(t0:Ty T0)(t1:Ty T1)(t2:Ty T2)(t3:Ty T3)(N:Nat):Type:={B:T0->T1->T2->T3->Option R //∀a b c d,run M [.at []] (UJ [t0.enc a,t1.enc b,t2.enc c,t3.enc d] N)=B a b c d}
abbrev aE1(P:aMT)(g:aMS)(t0:Ty T0)(t1:Ty T1)(t2:Ty T2)(t3:Ty T3)(t:Ty R)(F:T0->T1->T2->T3->Option R):Prop:=∀a b c d r,F a b c d=some r->Ku P g [t0.enc a,t1.enc b,t2.enc c,t3.enc d] (fun v=>v=t.enc r)
abbrev SC6(M:kR R)(t0:Ty T0)(t1:Ty T1)(t2:Ty T2)(t3:Ty T3)(t4:Ty T4)(t5:Ty T5)(N:Nat):Type:={B:T0->T1->T2->T3->T4->T5->Option R //∀a b c d e f,run M [.at []] (UJ [t0.enc a,t1.enc b,t2.enc c,t3.enc d,t4.enc e,t5.enc f] N)=B a b c d e f}
abbrev aE2(P:aMT)(g:aMS)(t0:Ty T0)(t1:Ty T1)(t2:Ty T2)(t3:Ty T3)(t4:Ty T4)(t5:Ty T5)(t:Ty R)(F:T0->T1->T2->T3->T4->T5->Option R):Prop:=∀a b c d e f r,F a b c d e f=some r->Ku P g [t0.enc a,t1.enc b,t2.enc c,t3.enc d,t4.enc e,t5.enc f] (fun v=>v=t.enc r)
variable {fn:Func} {m:Nat} {cl:aMS->List AV->List kp->Option (AV×List kp)} {cd:aMS->List AV->Option AV} {rK:List Nat->jX->Option jX} {cut:List Nat->jX->Option jX} {wF:aMS->Bool} {cp:aMS->List AV->List kp->Option (uP×List kp)}
 {uO:aMS->Bool} {co:aMS->List AV->List kp->Option CO} {uR:aMS->Bool} {ce:aMS->List AV->List kp->Option wO} {js:List Nat->List (Int×Code)} {cy:Nat->List AV->List kp->Option (AV×List kp)} {k:Nat} {g:aMS} {rs:List ResultVar} {p1 p2:List R6} {b1 b2:List Nat} {low:Nat} {t:Ty R} {t0:Ty T0} {t1:Ty T1} {t2:Ty T2} {t3:Ty T3} {t4:Ty T4} {t5:Ty T5}
def aHy(w:SC0 (nX P fn m (nT P rs t) cl cd rK cut wF cp (fun _ _=>none) uO co uR ce js cy) k)(G:Fh (nX P fn m (nT P rs t) cl cd rK cut wF cp (fun _ _=>none) uO co uR ce js cy))(hf:P.funcs[g]? =some fn)(hn:fn.ntmps=k)(Kg:fn.results=rs.toArray)(hb:fn.body=some (fn.body.getD .skip):=by exact rfl)(wN:(fn.name != "runtime.NumGoroutine")=true:=by exact rfl):azE P g t w.1:=
 fun r h=>okC (w.2.trans h) G hf trivial hn Kg hb wN
def aHz{F:Nat->Option R}(h:∀n,azE P g t (F (n+1)))(h0:F 0=none:=by intros;rfl):∀n,azE P g t (F n)
 |0=>fun r h=>by rw[h0]at h;cases h
 |n+1=>h n
def Ap(w:R2 (nX P fn m (nT P rs t) cl cd rK cut wF cp (fun _ _=>none) uO co uR ce js cy) t0 k)(G:Fh (nX P fn m (nT P rs t) cl cd rK cut wF cp (fun _ _=>none) uO co uR ce js cy))(hf:P.funcs[g]? =some fn)(hn:fn.ntmps=k)(Kg:fn.results=rs.toArray)(hb:fn.body=some (fn.body.getD .skip):=by exact rfl)(wN:(fn.name != "runtime.NumGoroutine")=true:=by exact rfl):zm P g t0 t w.1:=
 fun a r h=>okC ((w.2 a).trans h) G hf ⟨t0.nb 0 _,trivial⟩ hn Kg hb wN
def AH{F:Nat->T0->Option R}(h:∀n,zm P g t0 t (F (n+1)))(h0:∀a,F 0 a=none:=by intros;rfl):∀n,zm P g t0 t (F n)
 |0=>fun a r h=>by rw[h0]at h;cases h
 |n+1=>h n
def IS(w:SC2 (nX P fn m (nT P rs t) cl cd rK cut wF cp (fun _ _=>none) uO co uR ce js cy) t0 t1 k)(G:Fh (nX P fn m (nT P rs t) cl cd rK cut wF cp (fun _ _=>none) uO co uR ce js cy))(hf:P.funcs[g]? =some fn)(hn:fn.ntmps=k)(Kg:fn.results=rs.toArray)(hb:fn.body=some (fn.body.getD .skip):=by exact rfl)(wN:(fn.name != "runtime.NumGoroutine")=true:=by exact rfl):Gx P g t0 t1 t w.1:=
 fun a b r h=>okC ((w.2 a b).trans h) G hf ⟨t0.nb 0 _,t1.nb 0 _,trivial⟩ hn Kg hb wN
def IT{F:Nat->T0->T1->Option R}(h:∀n,Gx P g t0 t1 t (F (n+1)))(h0:∀a b,F 0 a b=none:=by intros;rfl):∀n,Gx P g t0 t1 t (F n)
 |0=>fun a b r h=>by rw[h0]at h;cases h
 |n+1=>h n
def azF(w:SC3 (nX P fn m (nT P rs t) cl cd rK cut wF cp (fun _ _=>none) uO co uR ce js cy) t0 t1 t2 k)(G:Fh (nX P fn m (nT P rs t) cl cd rK cut wF cp (fun _ _=>none) uO co uR ce js cy))(hf:P.funcs[g]? =some fn)(hn:fn.ntmps=k)(Kg:fn.results=rs.toArray)(hb:fn.body=some (fn.body.getD .skip):=by exact rfl)(wN:(fn.name != "runtime.NumGoroutine")=true:=by exact rfl):aqU P g t0 t1 t2 t w.1:=
 fun a b c r h=>okC ((w.2 a b c).trans h) G hf ⟨t0.nb 0 _,t1.nb 0 _,t2.nb 0 _,trivial⟩ hn Kg hb wN
def aCc{F:Nat->T0->T1->T2->Option R}(h:∀n,aqU P g t0 t1 t2 t (F (n+1)))(h0:∀a b c,F 0 a b c=none:=by intros;rfl):∀n,aqU P g t0 t1 t2 t (F n)
 |0=>fun a b c r h=>by rw[h0]at h;cases h
 |n+1=>h n
def aK5(w:SC4 (nX P fn m (nT P rs t) cl cd rK cut wF cp (fun _ _=>none) uO co uR ce js cy) t0 t1 t2 t3 k)(G:Fh (nX P fn m (nT P rs t) cl cd rK cut wF cp (fun _ _=>none) uO co uR ce js cy))(hf:P.funcs[g]? =some fn)(hn:fn.ntmps=k)(Kg:fn.results=rs.toArray)(hb:fn.body=some (fn.body.getD .skip):=by exact rfl)(wN:(fn.name != "runtime.NumGoroutine")=true:=by exact rfl):aE1 P g t0 t1 t2 t3 t w.1:=
 fun a b c d r h=>okC ((w.2 a b c d).trans h) G hf ⟨t0.nb 0 _,t1.nb 0 _,t2.nb 0 _,t3.nb 0 _,trivial⟩ hn Kg hb wN
def aK6{F:Nat->T0->T1->T2->T3->Option R}(h:∀n,aE1 P g t0 t1 t2 t3 t (F (n+1)))(h0:∀a b c d,F 0 a b c d=none:=by intros;rfl):∀n,aE1 P g t0 t1 t2 t3 t (F n)
 |0=>fun a b c d r h=>by rw[h0]at h;cases h
 |n+1=>h n
def aK7(w:SC6 (nX P fn m (nT P rs t) cl cd rK cut wF cp (fun _ _=>none) uO co uR ce js cy) t0 t1 t2 t3 t4 t5 k)(G:Fh (nX P fn m (nT P rs t) cl cd rK cut wF cp (fun _ _=>none) uO co uR ce js cy))(hf:P.funcs[g]? =some fn)(hn:fn.ntmps=k)(Kg:fn.results=rs.toArray)(hb:fn.body=some (fn.body.getD .skip):=by exact rfl)(wN:(fn.name != "runtime.NumGoroutine")=true:=by exact rfl):aE2 P g t0 t1 t2 t3 t4 t5 t w.1:=
 fun a b c d e f r h=>okC ((w.2 a b c d e f).trans h) G hf ⟨t0.nb 0 _,t1.nb 0 _,t2.nb 0 _,t3.nb 0 _,t4.nb 0 _,t5.nb 0 _,trivial⟩ hn Kg hb wN
def aK8{F:Nat->T0->T1->T2->T3->T4->T5->Option R}(h:∀n,aE2 P g t0 t1 t2 t3 t4 t5 t (F (n+1)))(h0:∀a b c d e f,F 0 a b c d e f=none:=by intros;rfl):∀n,aE2 P g t0 t1 t2 t3 t4 t5 t (F n)
 |0=>fun a b c d e f r h=>by rw[h0]at h;cases h
 |n+1=>h n
end
section
variable {γ O1 W1 O2 W2 Φ:Type}
abbrev SX(M:kR R)(as:AL γ)(os:OL O)(N:Nat)(u:Φ->O->γ->Option R):Type:={B:Φ //∀b a,run M [.at []] (aqR as os b a N)=u B b a}
abbrev R8(P:aMT)(g:aMS)(as:AL γ)(os:OL O)(uB:OL O1)(s:AL W)(F:O->γ->Option (O1×W)):Prop:=∀b a r,F b a=some r->SG P g as os b a uB s r
abbrev sV(P:aMT)(g:aMS)(as:AL γ)(os:OL O)(pk:Bool)(uB:OL O1)(s1:AL W1)(BK:OL O2)(s2:AL W2)(F:O->γ->Option (PR (O1×W1) (O2×W2))):Prop:=∀b a r,F b a=some r->SP P g as os b a pk uB s1 BK s2 r
variable {fn:Func} {m:Nat} {cl:aMS->List AV->List kp->Option (AV×List kp)} {cd:aMS->List AV->Option AV} {rK:List Nat->jX->Option jX} {cut:List Nat->jX->Option jX} {wF:aMS->Bool} {cp:aMS->List AV->List kp->Option (uP×List kp)}
 {uO:aMS->Bool} {co:aMS->List AV->List kp->Option CO} {uR:aMS->Bool} {ce:aMS->List AV->List kp->Option wO} {js:List Nat->List (Int×Code)} {cy:Nat->List AV->List kp->Option (AV×List kp)} {k:Nat} {g:aMS} {rs:List ResultVar} {p1 p2:List R6} {b1 b2:List Nat} {low:Nat}
 {as:AL γ} {os:OL O} {os0:OL O1} {s:AL W} {uB:OL O1} {AG:AL W1} {BK:OL O2} {Jn:AL W2} {c:R7}
def abF{u:Φ->O->γ->Option (O1×W)}(e:SX (nX P fn m (Dj P rs p1 b1 low os0 s) cl cd rK cut wF cp (fun _ _=>none) uO co uR ce js cy) as os k u)(G:Fh (nX P fn m (Dj P rs p1 b1 low os0 s) cl cd rK cut wF cp (fun _ _=>none) uO co uR ce js cy))(hf:P.funcs[g]? =some fn)(hn:fn.ntmps=k)(Kg:fn.results=rs.toArray)(h1:decide (as.lZ<=os.size)=true:=by kernel_rfl)(h2:decide (os.lZ<=os.size)=true:=by kernel_rfl)(hb1:b1=eQ low:=by exact rfl)(hb:fn.body=some (fn.body.getD .skip):=by exact rfl)(wN:(fn.name != "runtime.NumGoroutine")=true:=by exact rfl):R8 P g as os os0 s (u e.1):=fun b a r h=>okG ((e.2 b a).trans h) G hf hn Kg h1 h2 hb1 hb wN
def Dk{u:Φ->O->γ->Option (PR (O1×W1) (O2×W2))}(e:SX (nX P fn m (qI P rs p1 b1 low uB AG) cl cd rK cut wF cp (qJ p2 b2 low BK Jn) uO co uR ce js cy) as os k u)(G:Fh (nX P fn m (qI P rs p1 b1 low uB AG) cl cd rK cut wF cp (qJ p2 b2 low BK Jn) uO co uR ce js cy))(hf:P.funcs[g]? =some fn)(hn:fn.ntmps=k)(Kg:fn.results=rs.toArray)(h1:decide (as.lZ<=os.size)=true:=by kernel_rfl)(h2:decide (os.lZ<=os.size)=true:=by kernel_rfl)(zu: ∀b a,∃y,Jn.enc (BK.mX b) a=[y]:=by exact fun b a=>⟨_,rfl⟩)(hb1:b1=eQ low:=by exact rfl)(hb2:b2=eQ low:=by exact rfl)(hb:fn.body=some (fn.body.getD .skip):=by exact rfl)(wN:(fn.name != "runtime.NumGoroutine")=true:=by exact rfl):sV P g as os true uB AG BK Jn (u e.1):=fun b a r h=>okP ((e.2 b a).trans h) G hf hn Kg h1 h2 zu hb1 hb2 hb wN
def aHA{u:Φ->O->γ->Option (PR (O1×W1) (O2×W2))}(e:SX (nX P fn m (afd P rs p1 b1 low uB AG p2 BK Jn) cl cd rK cut wF cp (fun _ _=>none) uO co uR ce js cy) as os k u)(G:Fh (nX P fn m (afd P rs p1 b1 low uB AG p2 BK Jn) cl cd rK cut wF cp (fun _ _=>none) uO co uR ce js cy))(hf:P.funcs[g]? =some fn)(hn:fn.ntmps=k)(Kg:fn.results=rs.toArray)(h1:decide (as.lZ<=os.size)=true:=by kernel_rfl)(h2:decide (os.lZ<=os.size)=true:=by kernel_rfl)(hb1:b1=eQ low:=by exact rfl)(hb:fn.body=some (fn.body.getD .skip):=by exact rfl)(wN:(fn.name != "runtime.NumGoroutine")=true:=by exact rfl):sV P g as os false uB AG BK Jn (u e.1):=fun b a r h=>okS ((e.2 b a).trans h) G hf hn Kg h1 h2 hb1 hb wN
def aGc{u:Φ->O->γ->Option (PR (O1×W1) (O2×W2))}(hc:aB3 P c)(e:SX (nX P fn m (amK c (qI P rs p1 b1 low uB AG) (qJ p2 b2 low BK Jn)) cl cd rK cut wF cp (amL c (qI P rs p1 b1 low uB AG) (qJ p2 b2 low BK Jn)) uO co uR ce js cy) as os k u)(G:Fh (nX P fn m (amK c (qI P rs p1 b1 low uB AG) (qJ p2 b2 low BK Jn)) cl cd rK cut wF cp (amL c (qI P rs p1 b1 low uB AG) (qJ p2 b2 low BK Jn)) uO co uR ce js cy))(hf:P.funcs[g]? =some fn)(hn:fn.ntmps=k)(Kg:fn.results=rs.toArray)(h1:decide (as.lZ<=os.size)=true:=by kernel_rfl)(h2:decide (os.lZ<=os.size)=true:=by kernel_rfl)(zu: ∀b a,∃y,Jn.enc (BK.mX b) a=[y]:=by exact fun b a=>⟨_,rfl⟩)(hb1:b1=eQ low:=by exact rfl)(hb2:b2=eQ low:=by exact rfl)(hb:fn.body=some (fn.body.getD .skip):=by exact rfl)(wN:(fn.name != "runtime.NumGoroutine")=true:=by exact rfl):sV P g as os true uB AG BK Jn (u e.1):=fun b a r h=>aK4 hc ((e.2 b a).trans h) G hf hn Kg h1 h2 zu hb1 hb2 hb wN
def ahI{u:Φ->O->γ->Option (O1×W)}{F:Nat->Φ}(h:∀n,R8 P g as os uB s (u (F (n+1))))(h0:∀b a,u (F 0) b a=none:=by intros;rfl):∀n,R8 P g as os uB s (u (F n))
 |0=>fun b a r h=>by rw[h0]at h;cases h
 |n+1=>h n
def Wa{u:Φ->O->γ->Option (PR (O1×W1) (O2×W2))}{pk:Bool}{F:Nat->Φ}(h:∀n,sV P g as os pk uB AG BK Jn (u (F (n+1))))(h0:∀b a,u (F 0) b a=none:=by intros;rfl):∀n,sV P g as os pk uB AG BK Jn (u (F n))
 |0=>fun b a r h=>by rw[h0]at h;cases h
 |n+1=>h n
end
def mC (x:Subtype p:=by
    apply _root_.Subtype.mk
    repeat (first|refine _root_.Prod.forall.2 ?_|intro)
    simp (config:={maxSteps:=100000000}) only[go_sem,_root_.Nat.reduceAdd,_root_.Nat.reduceSub,_root_.Nat.reduceLeDiff,_root_.Nat.reduceEqDiff,_root_.Nat.reduceBEq,_root_.Nat.reduceMul,_root_.Nat.reduceLT,_root_.Int.reduceLE,_root_.Int.reduceLT,_root_.Int.reduceToNat,_root_.Int.reduceBEq,_root_.Int.reduceEq,_root_.Option.getD_some,mixed, *];exact rfl):Subtype p:=x
def Al (x:Subtype p:=by
    apply _root_.Subtype.mk
    repeat (first|refine _root_.Prod.forall.2 ?_|intro)
    simp (config:={maxSteps:=100000000})-implicitDefEqProofs only[go_sem,_root_.Nat.reduceAdd,_root_.Nat.reduceSub,_root_.Nat.reduceLeDiff,_root_.Nat.reduceEqDiff,_root_.Nat.reduceBEq,_root_.Nat.reduceMul,_root_.Nat.reduceLT,_root_.Int.reduceLE,_root_.Int.reduceLT,_root_.Int.reduceToNat,_root_.Int.reduceBEq,_root_.Int.reduceEq,_root_.Option.getD_some,mixed, *];exact rfl):Subtype p:=x
def qX.bnd{f:Fn}{xs ys:List AV}(h:qX xs ys):Ma (.func f xs []) (.func f ys []):=by
 rintro E v ⟨a,b,rfl,h1,h2⟩;exact⟨a,b,rfl,h E _ h1,h2⟩
section
variable {γ δ:Type}
def aE3(f:aMS)(c:VL γ)(s:VL δ)(Y:List Nat)(L:D8):List AV->Option (γ×δ)
 |.func (.func f') cs []::xs=>bif decide (f'=f)then(c.mL Y L cs).bind fun y=>(s.mL Y L xs).bind fun a=>some (y,a)else none
 |_=>none
def vlB (f:aMS) (c:VL γ) (s:VL δ):VL (γ×δ) where
 enc L g:=.func (.func f) (c.enc L g.1) []::s.enc L g.2
 mL:=aE3 f c s
 lZ:=max c.lZ s.lZ
 nb L g:=⟨⟨tB (by omega) _ (c.nb L g.1),trivial⟩,tB (by omega) _ (s.nb L g.2)⟩
 ok Y L vs g h:=by
  unfold aE3 at h;split at h
  ·rename_i f' cs xs;cases hc:decide (f'=f)with
   |false=>simp [hc]at h
   |true=>
    simp only[hc,jK,eO,eP]at h;obtain⟨y,hy,a,ha,rfl⟩:=h;obtain rfl:=jO hc;refine qX.cons ?_ (s.ok Y L _ _ ha);simp only[AV.qC,sO];exact(qX.bnd (c.ok Y L _ _ hy))
  ·cases h
def aE4(f:aMS)(c:VL γ)(s:AL δ)(Y:List Nat)(L:D8)(H:List kp):List AV->Option (γ×δ)
 |.func (.func f') cs []::xs=>bif decide (f'=f)then(c.mL Y L cs).bind fun y=>(s.mL Y L H xs).bind fun a=>some (y,a)else none
 |_=>none
def alB (f:aMS) (c:VL γ) (s:AL δ):AL (γ×δ) where
 enc L g:=.func (.func f) (c.enc L g.1) []::s.enc L g.2
 mL:=aE4 f c s
 lZ:=max c.lZ s.lZ
 nb L g:=⟨⟨tB (by omega) _ (c.nb L g.1),trivial⟩,tB (by omega) _ (s.nb L g.2)⟩
 ok Y L H n vs g hv h:=by
  unfold aE4 at h;split at h
  ·rename_i f' cs xs;cases hc:decide (f'=f)with
   |false=>simp [hc]at h
   |true=>
    simp only[hc,jK,eO,eP]at h;obtain⟨y,hy,a,ha,rfl⟩:=h;obtain rfl:=jO hc;refine Bf.cons ?_ (s.ok Y L H n _ _ (hv.mono (by omega)) ha);simp only[AV.qC,sO];exact Co.sub (qX.bnd (c.ok Y L _ _ hy)) ⟨X5 (hv.mono (a:=c.lZ) (by omega)).lt _ (c.nb L y),trivial⟩
  ·cases h
def aJy{c:VL γ}{s:VL δ}:(∀L g,(vlB f c s).enc L g=.func (.func f) (c.enc L g.1) []::s.enc L g.2)/\∀Y L xs,(vlB f c s).mL Y L xs=aE3 f c s Y L xs:=⟨fun _ _=>rfl,fun _ _ _=>rfl⟩
def aJz{c:VL γ}{s:AL δ}:(∀L g,(alB f c s).enc L g=.func (.func f) (c.enc L g.1) []::s.enc L g.2)/\(∀Y L H xs,(alB f c s).mL Y L H xs=aE4 f c s Y L H xs)/\(alB f c s).lZ=max c.lZ s.lZ:=⟨fun _ _=>rfl,fun _ _ _ _=>rfl,rfl⟩
def aJA{c:VL γ}{s:VL δ}:(vlB f c s).lZ=max c.lZ s.lZ:=rfl
def aE5(f:aMS)(a:Ty W):AV->Option W
 |.func (.func g) [x] []=>if g=f then a.mL [] x else none
 |_=>none
def aJB(f:aMS)(a:Ty W):Ty W where
 enc x:=.func (.func f) [a.enc x] []
 mL _:=aE5 f a
 ok H n v x h:=by
  unfold aE5 at h;split at h
  ·split at h
   ·rename_i e;subst e;exact Co.sub (Ma.func (qX.cons (a.ok [] 0 _ _ h).qc qX.nil) qX.nil) ⟨⟨a.nb n x,trivial⟩,trivial⟩
   ·cases h
  ·cases h
 nb n x:=⟨⟨a.nb n x,trivial⟩,trivial⟩
def aHB{a:Ty W}:(∀x,(aJB f a).enc x=.func (.func f) [a.enc x] [])/\∀H v,(aJB f a).mL H v=aE5 f a v:=⟨fun _=>rfl,fun _ _=>rfl⟩
attribute [go_sem] aJy aJz aJA aE3 aE4 aE5 aHB
end
noncomputable def aCd (M:kR R) (K:List Kt) (s:Nat) (J:jX):Option AV->Option R
 |some (.bool b)=>bif b then run M K {J with kr:=J.kr.set s (.bool true)} else run M K {J with kr:=J.kr.set s (.bool false)}
 |_=>run M K J
def aHC:aCd M K s J (some (.bool b))=bif b then run M K {J with kr:=J.kr.set s (.bool true)} else run M K {J with kr:=J.kr.set s (.bool false)}:=rfl
def aE6{q:List Nat}(hc:M.cut q J=some J):run M (.cut q::K) J=aCd M K s J J.kr[s]? :=by
 rw[alm,hc,Option.bind_some];cases h:J.kr[s]? with
 |none=>rfl
 |some v=>
  cases v with
  |bool b=>
   have e:J.kr.set s (.bool b)=J.kr:=by
    obtain⟨hs,he⟩:=eR.1 h;rw[<-he,eS]
   cases b with
   |true=>simp only[aCd,jK,e]
   |false=>simp only[aCd,jL,e]
  |_=>rfl
attribute [go_sem] aHC
end Go.Abs
