/- A part of the proof: plain facts. -/
import Derived.Test.YtpdbjkgnmjnebaaGreatDoorLawA
import Derived.Test.YtpdbjkgnmjnebaaGreatDoorReadA
set_option linter.all false
open List renaming getElem_mem→ko,take_succ_eq_append_getElem→ku,mem_cons_of_mem→ky,mem_cons_self→kz,take_length→kB,length_cons→kE,drop_eq_getElem_cons→kF,mem_singleton→kG,getElem?_eq_getElem→kH,mem_append→kI,length_nil→kJ,contains_eq_any_beq→kK,drop_eq_nil_of_le→kM,set_getElem_self→kN,drop_zero→kO
open Option renaming bind_some→kp
open Int renaming lt_irrefl→kq,ofNat_lt→kv,natCast_nonneg→kA,toNat_natCast→kD,le_refl→kL
open Nat renaming strongRecOn→kr,le_refl→kx,zero_le→kC
open SizeOf renaming sizeOf→kw
namespace Go.Abs
variable {l xs:List Syntax}{out sK:List lH}{W:Type}
section
theorem aO2.aKs{e:Syntax}(h:aO2 false e):afs e:=by cases h;assumption
theorem aO2.lv{e:Syntax}(h:aO2 false e):∀l∈e.mK,ahX l:=by cases h;assumption
theorem aO2.WG{e:Syntax}(h:aO2 false e):∀y∈e.mR,aO2 (e.kind==14) y:=by cases h;assumption
theorem aO2.aMI:∀e:Syntax,aO2 false e->∀z∈(uI e).2,aO2 false z/\z.rI<=e.rI:=by
 intro e;induction e using Syntax.ind with
 |h e ih=>
  intro hw z hz;cases hk:aOK e with
  |none=>rw[aPl hk]at hz;cases hz
  |some p=>
   obtain⟨a,b⟩:=p;rw[aPm hk]at hz;obtain⟨k2,km⟩:=Sx hk
   have ka:∀y∈e.mR,aO2 false y/\y.rI<=e.rI:=fun y hy=>by
    have:=hw.WG y hy;rw[k2]at this;exact⟨this,Nat.le_of_lt (Syntax.am1 hy)⟩
   have ma:a∈e.mR:=by rw[km];simp
   have mb:b∈e.mR:=by rw[km];simp
   rcases kI.1 hz with h|h
   ·have:=ih a ma (ka a ma).1 z h;exact⟨this.1,Nat.le_trans this.2 (ka a ma).2⟩
   ·rw[kG]at h;subst h;exact ka _ mb
variable {T:List k7}
def aKt(T:List k7)(y:Syntax):Prop:=∃n∈T,∃s∈n.parts,y=aCo s
def IQ(T:List k7):aoH->List Syntax->Prop
 |.expr e,o=>aO2 false e->(zw T e=none/\o=[e])\/∀y∈o,aKt T y\/(aO2 false y/\y.rI<=e.rI/\kw y<kw e)
 |.parts n ps _ l,o=>n∈T->(∀s∈ps,s∈n.parts)->(∀z∈l,aO2 false z)->∀y∈o,aKt T y\/∃z∈l,aO2 false y/\y.rI<=z.rI/\kw y<=kw z
theorem Prn.aMJ{c:aoH}{o:List Syntax}(h:Prn T c o):IQ T c o:=by
 induction h with
 |leaf ha=>exact fun _=>.inl ⟨ha,rfl⟩
 | @app e n l o ha h ih=>
   intro hw;have A:=BU ha;have sp:=aO2.aMI e hw;rw[A.lR]at sp;refine .inr fun y hy=>?_
   rcases ih A.mem (fun s hs=>hs) (fun z hz=>(sp z hz).1) y hy with h|⟨z,hz,h1,h2,h3⟩
   ·exact .inl h
   ·exact .inr ⟨h1,Nat.le_trans h2 (sp z hz).2,Nat.lt_of_le_of_lt h3 (A.size z hz)⟩
 |nil=>intro _ _ _ y hy;cases hy
 | @sym n s ps i l o hs h ih=>
   intro hn hp hl y hy;rcases List.mem_cons.1 hy with rfl|hy
   ·exact .inl ⟨n,hn,s,hp s kz,rfl⟩
   ·exact ih hn (fun t ht=>hp t (ky _ ht)) hl y hy
 | @apart n ps i x l o1 o2 ha h1 h2 ih1 ih2=>
   intro hn hp hl y hy;have hx:=hl x kz;rcases kI.1 hy with hy|hy
   ·rcases ih1 hx with⟨h,rfl⟩|h
    ·rw[kG]at hy;subst hy;exact .inr ⟨_,kz,hx,kx _,kx _⟩
    ·rcases h y hy with h|⟨q1,q2,q3⟩
     ·exact .inl h
     ·exact .inr ⟨x,kz,q1,q2,Nat.le_of_lt q3⟩
   ·rcases ih2 hn (fun t ht=>hp t (ky _ ht)) (fun z hz=>hl z (ky _ hz)) y hy with h|⟨z,hz,h⟩
    ·exact .inl h
    ·exact .inr ⟨z,ky _ hz,h⟩
 | @whole n ps i x l o ha h ih=>
   intro hn hp hl y hy;rcases List.mem_cons.1 hy with rfl|hy
   ·exact .inr ⟨_,kz,hl _ kz,kx _,kx _⟩
   ·rcases ih hn (fun t ht=>hp t (ky _ ht)) (fun z hz=>hl z (ky _ hz)) y hy with h|⟨z,hz,h⟩
    ·exact .inl h
    ·exact .inr ⟨z,ky _ hz,h⟩
structure TW(T:List k7):Prop where
 len:T.length<=cap
 sm:∀n∈T,Nsm n
 ok:VQ T=true
theorem aAN(g:TW T){x:Syntax}(hw:aO2 false x)(sm:x.rI<=1048576):
 ∃ (L:IX x->List Syntax) (o:List Syntax) (lg sy:Bool),(∀i,(L i).map vN=o)/\(∀l b i,Ev (fun n=>zf n i.1 T l b) (((T,(l||lg,())),(b,())),(L i,(sy,()))))/\
   (sy=true->o.length<=4096/\∀y∈o,aKt T y\/(aO2 false y/\y.rI<=x.rI/\kw y<kw x)):=by
 obtain⟨o,ho,amg⟩:=aCv g.len g.sm g.ok x (by simp only[cap];omega);have hit:=ho.aMJ hw;by_cases hl:4096<o.length
 ·rw[kR hl]at amg;refine⟨fun _=>[],[],true,false,fun _=>rfl,fun l b i=>?_,fun h=>by cases h⟩;obtain⟨l',_,ev⟩:=amg i.1 i.2;refine Ev.fn (fun n=>by simp only[zf,l6,Dr,mC];exact rfl) ?_;refine Ev.bind ev ?_;rw[Bool.or_true];exact Ev.pure
 ·rw[kS hl] at amg;obtain ⟨L,hL⟩: ∃L:IX x->List Syntax,∀i,(L i).map vN=o/\Ev (fun f=>D4 f T i.1) (L i,0):=Classical.axiomOfChoice (fun i:IX x=>amg i.1 i.2);refine ⟨L,o,false,decide (1<o.length)||(o.length==1&&(o.head?.map (·.kind))==some 17),fun i=>(hL i).1,fun l b i=> ?_,fun hs=>⟨by omega,?_⟩⟩
  ·obtain⟨h1,ev⟩:=hL i;generalize L i=L at h1 ev;have hlen:L.length=o.length:=by have:=congrArg List.length h1;rwa [List.length_map]at this
   refine Ev.fn (fun n=>by simp only[zf,l6,Dr,mC];exact rfl) ?_;refine Ev.bind ev ?_;simp only[bne_self_eq_false,kQ,Bool.or_false,hlen];by_cases h2:1<o.length
   ·rw[kR h2,kR (show(1:Int)<(o.length:Int) by omega)];exact Ev.pure
   ·rw[kS h2,kS (show ¬ (1:Int)<(o.length:Int) by omega)];simp only[kQ,Bool.false_or]
    match L,h1,hlen with
    |[],h1,hlen=>
     subst h1;exact Ev.pure
    |[y],h1,hlen=>
     subst h1;simp only[List.map_cons,List.map_nil,kE,kJ,List.head?_cons,Option.map_some,(KN y).1];have e:(some y.kind==some (17:Int))=(y.kind==17):=rfl;rw[e];exact Ev.pure
    |y::z::r,h1,hlen=>simp only[kE]at hlen;omega
  ·rcases hit with⟨_,rfl⟩|h
   ·have:=hw.aKs.hi;simp only[kE,kJ,List.head?_cons,Option.map_some]at hs;simp at hs;omega
   ·exact h
theorem aKu(g:TW T){x:Syntax}(hw:aO2 false x)(sm:x.rI<=1048576)(he:Sz x.kind=true->D nH T x)(ha:D oI T x)
 (ih:∀y,kw y<kw x->aO2 false y->y.rI<=1048576->D pE T y/\D oI T y):D pE T x:=by
 intro l b hb;refine TI.fn (fun i n=>by simp only[aiN,Gw,nj,mC];exact rfl) ?_;refine TI.rQ (fun _=>wq hb) fun _=>?_
 simp only[IX.kind];refine TI.bind (TI.one ((ac7 x.kind).tot (Q:=(· =Sz x.kind)) rfl)) fun c hc=>?_
 subst hc;refine TI.rQ (fun hbd=>QS (Ig (he hbd) (pq (by simp)) (pq (by simp)) hb)) fun _=>?_
 obtain⟨L,o,lg,sy,h1,h2,h3⟩:=aAN g hw sm;refine TI.aEU (fun i=>h2 l b i) ?_;refine TI.rQ (fun hsy=>?_) fun _=>QS (ha _ b hb)
 obtain⟨hol,hit⟩:=h3 hsy;have hlen:∀i,(L i).length=o.length:=fun i=>by have:=congrArg List.length (h1 i);rwa [List.length_map]at this
 simp only[hlen]
 have loop: ∀ (l:Bool) (b:lH),b.length<=65536->TI (fun (i:IL o) n=>sV (lu n) n n i.1 o.length 0 T l b) (WQ T):=fun l b hb=>by
  refine TI.Jh (F:=fun(i:IL o) n m=>sV (lu n) n m i.1 o.length 0 T l b) ?_;refine If.up (S:=Bool×lH) (L:=fun(i:IL o) n m k s=>sV (lu n) n m i.1 o.length k T s.1 s.2) o.length (fun _ s=>s.2.length<=65536) (WQ T) ?_ ?_ 0 (l,b) (by omega) hb
  ·intro k s hi hI next
   obtain⟨l,b⟩:=s;simp only at hI;refine If.lp (fun i n m=>by simp only[Qx,B7,nj,mB];exact rfl) ?_;simp only[hi,kv,decide_true,kP,IL.Nu _ hi,kp,IX.kind,IX.text];rw[mM (by omega)]
   have st:∀l b,b.length<=65536->If (fun(i:IL o) n m=>bif o[k].kind==17 then(nU n [o[k].text] T l b).bind fun x=>sV (lu n) n m i.1 o.length ((k+1:Nat):Int) x.fst.fst.fst x.fst.fst.snd.fst x.fst.snd.fst
    else(FG n o[k].kind).bind fun x_1=>bif x_1 then(oI n (i.WG k hi).1 T l b).bind fun x=>sV (lu n) n m i.1 o.length ((k+1:Nat):Int) x.fst.fst.fst x.fst.fst.snd.fst x.fst.snd.fst
     else(zf n (i.WG k hi).1 T l b).bind fun x_2=>bif x_2.snd.snd.fst then(mU n [40] (i.WG k hi).1 [41] x_2.fst.fst.fst x_2.fst.fst.snd.fst x_2.fst.snd.fst).bind fun x=>sV (lu n) n m i.1 o.length ((k+1:Nat):Int) x.fst.fst.fst x.fst.fst.snd.fst x.fst.snd.fst
      else(oI n (i.WG k hi).1 x_2.fst.fst.fst x_2.fst.fst.snd.fst x_2.fst.snd.fst).bind fun x=>sV (lu n) n m i.1 o.length ((k+1:Nat):Int) x.fst.fst.fst x.fst.fst.snd.fst x.fst.snd.fst) (WQ T):=fun l b hb=>by
    rcases hit o[k] (ko hi)with⟨n,hn,s,hs,e⟩|⟨q1,q2,q3⟩
    ·have ek:o[k].kind=17:=by rw[e];rfl
     have et:o[k].text=s:=by rw[e];rfl
     have:=(g.sm n hn).aKk s hs;rw[ek,et];exact If.w (VS (by unfold D9;simp only[cap]at this;omega) hb) fun l b hb=>next (l,b) hb
    ·obtain⟨ho,hap⟩:=ih o[k] q3 q1 (by omega);have hk:(o[k].kind==17)=false:=by have:=q1.aKs.hi;rw[kV];omega
     rw[hk];simp only[kQ];refine If.nK (TI.one ((ac7 o[k].kind).tot (Q:=Yes) trivial)) fun c _=>?_
     refine If.rQ (fun _=>If.w (TI.uV (fun i:IL o=>i.WG k hi) (hap l b hb)) fun l b hb=>next (l,b) hb) fun _=>?_
     obtain⟨L',o',lg',sy',_,h2',_⟩:=aAN g q1 (by omega);refine If.aEU (fun i:IL o=>h2' l b (i.WG k hi)) ?_
     exact If.rQ (fun _=>If.w (TI.uV (fun i:IL o=>i.WG k hi) (asV ho (pq (by simp)) (pq (by simp)) hb)) fun l b hb=>next (l,b) hb)
      fun _=>If.w (TI.uV (fun i:IL o=>i.WG k hi) (hap _ b hb)) fun l b hb=>next (l,b) hb
   exact If.rQ (fun _=>If.w (VS (pq (by simp)) hI) fun l b hb=>st l b hb) fun _=>st l b hI
  ·intro s hI;refine If.lp (fun i n m=>by simp only[Qx,B7,nj,mB];exact rfl) ?_;simp only[kq,decide_false,kQ];exact If.of1 (wq hI)
 exact TI.uV (fun i:IX x=>(⟨L i,h1 i⟩:IL o)) (loop _ b hb)
theorem aCD(g:TW T):∀(k:Nat)(c:Bool)(x:Syntax),kw x<=k->x.rI<=1048576->aO2 c x->
 (c=false->D nH T x/\D pE T x/\D oI T x/\D pN T x)/\(c=true->D nN T x):=by
 intro k;induction k with
 |zero=>intro c x hx;cases x;simp only[Syntax.mk.sizeOf_spec]at hx;omega
 |succ k ih=>
  intro c x hx hb hw
  have ik:∀c y,y∈x.mR->aO2 c y->(c=false->D nH T y/\D pE T y/\D oI T y/\D pN T y)/\(c=true->D nN T y):=fun c y hy h=>
   ih c y (by have:=Syntax.alR hy;omega) (by have:=Syntax.am1 hy;omega) h
  refine⟨fun hc=>?_,fun hc=>?_⟩
  ·subst hc
   have e0:∀y∈x.mR,x.kind≠14->aO2 false y:=fun y hy h=>by
    have:=hw.WG y hy
    rwa [kV.2 h]at this
   have p:axu T x:=⟨hw.aKs,by omega,fun y hy h=>((ik false y hy (e0 y hy h)).1 rfl).1,fun y hy h=>((ik false y hy (e0 y hy h)).1 rfl).2.1,fun y hy h=>((ik false y hy (e0 y hy h)).1 rfl).2.2.1,fun y hy h=>((ik false y hy (e0 y hy h)).1 rfl).2.2.2,fun y hy h=>by
    have:=hw.WG y hy;rw[h]at this;exact(ik true y hy this).2 rfl,hw.lv⟩
   have io:∀y,kw y<kw x->aO2 false y->y.rI<=1048576->D pE T y/\D oI T y:=fun y h1 h2 h3=>by
    have:=(ih false y (by omega) h3 h2).1 rfl;exact⟨this.2.1,this.2.2.1⟩
   cases hbd:Sz x.kind with
   |true=>
    have he:=aCA p hbd;have ha:=azP p fun _=>he
    have hp:=aFj p fun _ _=>ha
    exact⟨he,aKu g hw hb (fun _=>he) hp io,hp,ha⟩
   |false=>
    by_cases hk:x.kind=2\/x.kind=11
    ·have hp:D oI T x:=aFj p fun h2 h11=>absurd hk (by omega)
     have ho:=aKu g hw hb (fun h=>by rw[hbd]at h;cases h) hp io;have he:=aAM hbd ho;exact⟨he,ho,hp,azP p fun _=>he⟩
    ·have ha:=azP p fun h=>by
      rcases h with h|h|h
      ·exact absurd (.inl h) hk
      ·exact absurd (.inr h) hk
      ·rw[hbd]at h;cases h
     have hp:=aFj p fun _ _=>ha
     have ho:=aKu g hw hb (fun h=>by rw[hbd]at h;cases h) hp io;exact⟨aAM hbd ho,ho,hp,ha⟩
  ·subst hc;cases hw with
   |ta h2 h1 hk=>
    refine aFn h2 h1 (by omega) (fun y hy ht=>?_) (fun y hy ht=>?_)
    ·have:=hk y hy;rw[ht]at this;exact(ik true y hy this).2 rfl
    ·have:=hk y hy;rw[ht]at this;exact((ik false y hy this).1 rfl).1
end
theorem aAO:∀(s:lH)(nW:Nat),s.all EA=true->∃m:Nat,Lib.decFrom nW s=some m
 |[],nW,_=>⟨nW,rfl⟩
 |c::t,nW,h=>by
  have:=aAO t (nW*10+(c.toNat-48)) (by grind)
  grind [Lib.decFrom,Lib.digitVal,EA]
def aKv(s:lH):Prop:=s.length<=18/\∃m,Lib.atoi s=some m
theorem aH7(p:UInt8->Bool)(r:lH):(r.take (zX p r)).all p=true:=by
 grind [zX,List.prefix_iff_eq_take,List.takeWhile_prefix,List.all_takeWhile]
theorem aKw{r:lH}(h:zX EA r<=6)(h1:1<=zX EA r):aKv (r.take (zX EA r)):=by
 have ha:=aH7 EA r;have hl:(r.take (zX EA r)).length=zX EA r:=axr (Z0 EA r);revert ha hl;generalize r.take (zX EA r)=s;intro ha hl;have hm:=fun c t=>aAO (c::t) 0
 refine⟨by omega,?_⟩
 match s,hl with
 |[],hl=>rw[kJ]at hl;omega
 |c::t,hl=>
  have hd:EA c=true:=by grind
  have e1:(c==45)=false:=by rw[kV];rintro rfl;cases hd
  have e2:(c==43)=false:=by rw[kV];rintro rfl;cases hd
  obtain⟨m,hm⟩:=hm c t ha;exact⟨m,by grind [Lib.atoi,Lib.decNat]⟩
theorem aH8{c:UInt8}{t:lH}(h:(aOL sK (c::t)).2.2=0)(hk:(aOL sK (c::t)).1=1):aKv ((c::t).take (aOL sK (c::t)).2.1):=by
 rw[aOL]at h hk ⊢
 grind [asR,EQ,aul,aKw,asI,aCw]
structure Kok(b:Nat)(l:List mG):Prop where
 pos:0<l.length
 len:l.length<=b+1
 txt:∀t∈l,t.text.length<=b
 num:∀t∈l,t.kind=1->aKv t.text
 last:∀(i:Nat)(h:i<l.length),i+1=l.length->l[i].kind=4
theorem aMK:∀(d:Nat)(r:lH)(a:Nat),r.length<=d->(hdT (aOL sK) r a).2.2=0->Kok r.length (hdT (aOL sK) r a).1:=by
 intro d;induction d with
 |zero=>
  intro r a hr _;obtain rfl:=List.length_eq_zero_iff.1 (Nat.le_zero.1 hr);rw[hdT];constructor<;>grind
 |succ d ih=>
  intro r a hr he
  match r,hr with
  |[],_=>rw[hdT];constructor<;>grind
  |c::t,hr=>
   rw[hdT]at he ⊢;cases h0:(aOL sK (c::t)).2.2==0 with
   |false=>grind
   |true=>
    rw[h0]at he;simp only[kP]at he ⊢;have hp:=aAL (eq_of_beq h0);have hn:=aH8 (eq_of_beq h0);have:=ih ((t.drop ((aOL sK (c::t)).2.1-1)).drop (AC false (t.drop ((aOL sK (c::t)).2.1-1)))) (a+(aOL sK (c::t)).2.1+AC false (t.drop ((aOL sK (c::t)).2.1-1))) (by grind);generalize hdT (aOL sK) _ (a+_+_)=z at*;cases hz:z.2.2==0 with
    |false=>grind
    |true=>
     obtain⟨k1,k2,k3,k4,k5⟩:=this (eq_of_beq hz);simp only[kP];refine⟨by simp,by grind,by grind,by grind,fun i hi h=>?_⟩
     match i with
     |0=>grind
     |i+1=>grind
theorem aH9{s:lH}(h:(asS sK s).2.2=0):Kok s.length (asS sK s).1:=by
 unfold asS at h ⊢;have:=aMK (sK:=sK) _ (s.drop (AC false s)) (AC false s) (kx _);have hl:(s.drop (AC false s)).length<=s.length:=by simp
 cases h1:sK.all alI with
 |false=>grind
 |true=>
  cases h2:decide (65536<s.length)with
  |true=>grind
  |false=>
   rw[h1,h2]at h;obtain⟨k1,k2,k3,k4,k5⟩:=this h;exact⟨k1,by grind,by grind,k4,k5⟩
def OkP{A B:Type}(P:A->Prop):PR A B->Prop
 |.ok a=>P a
 |.pn _=>True
section
variable {A B R:Type} {P:A->Prop} {Q:R->Prop} {F:Nat->Option (PR A B)}
theorem lZ.pr{G:Nat->A->Option R}{H:Nat->B->Option R}(h:lZ F (OkP P))(ha:∀a,P a->lZ (fun n=>G n a) Q)(hb:∀b,lZ (fun n=>H n b) Q:=by intros;exact lZ.pure trivial):lZ (fun n=>(F n).bind fun x=>prc x (G n) (H n)) Q:=
 lZ.bind h fun r hr=>match r,hr with
  |.ok a,h=>ha a h
  |.pn b,_=>hb b
theorem l1.pr{G:Nat->Nat->A->Option R}{H:Nat->Nat->B->Option R}(h:lZ F (OkP P))(ha:∀a,P a->l1 (fun n m=>G n m a) Q)(hb:∀b,l1 (fun n m=>H n m b) Q:=by intros;exact l1.pure trivial):l1 (fun n m=>(F n).bind fun x=>prc x (G n m) (H n m)) Q:=
 l1.nK h fun r hr=>match r,hr with
  |.ok a,h=>ha a h
  |.pn b,_=>hb b
end
structure Kx where
 T:List mG
 b:Int
 tb:List k7
 sy:List lH
 k:Nat
 ok:k<=70000/\Kok k T
 sm:sy.length<=144
def Kx.st(Z:Kx)(i:Nat)(d:Int):kZ:={vP:={K4:=Z.T,next:=(i:Int),base:=Z.b},Od:=Z.tb,C5:=Z.sy,depth:=d}
def Kx.At(Z:Kx)(d:Int)(i:Nat)(p:kZ):Prop:=∃j,i<=j/\j<Z.T.length/\p=Z.st j d
section
variable {Z:Kx} {d:Int} {i j:Nat} {p:kZ}
theorem Kx.At.of(h:j<Z.T.length)(hi:i<=j):Z.At d i (Z.st j d):=⟨j,hi,h,rfl⟩
theorem Kx.At.le(h:Z.At d j p)(hi:i<=j):Z.At d i p:=by
 obtain⟨k,h1,h2,h3⟩:=h;exact⟨k,by omega,h2,h3⟩
theorem Kx.len(Z:Kx):Z.T.length<=70001:=by
 have:=Z.ok.2.len;have:=Z.ok.1;omega
theorem Kx.At.lt(h:Z.At d i p):i<70001:=by
 obtain⟨k,h1,h2,h3⟩:=h;have:=Z.len;omega
theorem azQ(h:j<Z.T.length):lZ (fun n=>oh n (Z.st j d)) (· =Z.T[j]):=by
 refine lZ.fn (fun n=>by simp only[oh,l6,alP,mB];exact rfl) ?_;exact lZ.Nu h (lZ.pure rfl)
theorem aqM(h:Z.At d i p):lZ (fun n=>oh n p) fun t=>t∈Z.T:=by
 obtain⟨j,hij,hj,rfl⟩:=h;exact(azQ hj).imp fun r e=>by rw[e];exact ko hj
theorem asW(h:Z.At d i p):lZ (fun n=>uc n p) fun _=>True:=by
 refine lZ.fn (fun n=>by simp only[uc,l6,Lm,mB];exact rfl) ?_;exact lZ.bind (aqM h) fun _ _=>lZ.pure trivial
theorem axx(h:Z.At d i p):lZ (fun n=>uE n p) fun _=>True:=by
 refine lZ.fn (fun n=>by simp only[uE,l6,MA,mB];exact rfl) ?_;obtain⟨j,hij,hj,rfl⟩:=h;refine lZ.rQ (fun _=>lZ.pure trivial) fun h0=>?_
 have hl:=Z.len
 have e:IntKind.i64.wrap ((Z.st j d).vP.next-1)=((j-1:Nat):Int):=by
  have:((j:Int)==0)=false:=h0;show IntKind.i64.wrap ((j:Int)-1)=_;rw[qo]<;>grind
 rw[e];exact lZ.Nu (xs:=Z.T) (by omega) (lZ.pure trivial)
theorem isJ(h:j<Z.T.length)(k:Int)(s:lH):lZ (fun n=>xd n (Z.st j d) k s) fun b=>b=true->Z.T[j].kind=k:=by
 refine lZ.fn (fun n=>by simp only[xd,l6,NT,mB];exact rfl) ?_;refine lZ.bind (azQ h) fun t e=>lZ.rQ (fun h=>lZ.pure fun _=>?_) fun _=>lZ.pure nofun
 rw[<-e];exact eq_of_beq h
theorem isA(h:Z.At d i p)(k:Int)(s:lH):lZ (fun n=>xd n p k s) fun _=>True:=by
 obtain⟨j,hij,hj,rfl⟩:=h;exact(isJ hj k s).imp fun _ _=>trivial
theorem aoK(h:Z.At d i p)(s:lH):lZ (fun n=>qZ n p s) fun _=>True:=by
 refine lZ.fn (fun n=>by simp only[qZ,l6,IU,mB];exact rfl) ?_;exact lZ.bind (isA h 2 s) fun _ _=>lZ.pure trivial
theorem al1(h:Z.At d i p)(e:Int){P:(((kZ×Unit)×Unit)×Unit)->Prop}:lZ (fun n=>uK n e p) (OkP P):=by
 refine lZ.fn (fun n=>by simp only[uK,l6,IT,Ea];exact rfl) ?_;exact lZ.bind (asW h) fun _ _=>lZ.pure trivial
theorem aO9(h:Z.At d i p)(c:Bool):lZ (fun n=>q4 n c p) (OkP fun a=>a.fst.fst.fst=p/\c=true):=by
 refine lZ.fn (fun n=>by simp only[q4,l6,IY,Ea];exact rfl) ?_;exact lZ.rQ (fun h=>lZ.pure ⟨rfl,h⟩) fun _=>lZ.pr (al1 h 4 (P:=fun _=>False)) fun _ h=>h.elim
theorem RU(h:Z.At d i p)(k:Int):lZ (fun n=>pO n k p) (OkP fun a=>Z.At d i a.fst.fst.fst/\k<200):=by
 refine lZ.fn (fun n=>by simp only[pO,l6,LF,Ea];exact rfl) ?_;exact lZ.rQ (fun _=>lZ.pr (al1 h 7 (P:=fun _=>False)) fun _ h=>h.elim) fun hk=>lZ.pure ⟨h,by grind⟩
def Kx.nx(Z:Kx)(j:Nat):Nat:=if j+1<Z.T.length then j+1 else j
theorem aAP(h:j<Z.T.length):Z.nx j<Z.T.length/\j<=Z.nx j/\(Z.T[j].kind≠4->Z.nx j=j+1):=by
 have:=Z.ok.2.last j h
 grind [Kx.nx]
theorem aAQ(h:j<Z.T.length):lZ (fun n=>nV n (Z.st j d)) (· =((Z.st (Z.nx j) d,()),Z.T[j].text,())):=by
 refine lZ.fn (fun n=>by simp only[nV,l6,Lo,mB];exact rfl) ?_;refine lZ.bind (azQ h) fun t e=>?_
 have hl:=Z.len;have e:IntKind.i64.wrap ((Z.st j d).vP.next+1)=((j+1:Nat):Int):=mM (by omega);rw[e];refine lZ.rQ (fun h=>?_) fun h=>?_
 all_goals
  have h:decide (((j+1:Nat):Int)<(Z.T.length:Int))=_:=h;refine lZ.pure ?_
  grind [Kx.nx,Kx.st]
theorem aPn(h:Z.At d i p):lZ (fun n=>nV n p) fun x=>Z.At d i x.fst.fst:=by
 obtain⟨j,hij,hj,rfl⟩:=h
 exact(aAQ hj).imp fun r e=>by
  have:=aAP hj;rw[e];exact .of this.1 (by omega)
theorem Eu(h:Z.At d i p)(s:lH):lZ (fun n=>oB n p s) fun x=>Z.At d i x.fst.fst:=by
 refine lZ.fn (fun n=>by simp only[oB,l6,IZ,mB];exact rfl) ?_;exact lZ.bind (aoK h s) fun _ _=>lZ.rQ (fun _=>lZ.bind (aPn h) fun _ h=>lZ.pure h) fun _=>lZ.pure h
theorem aOM(h:Z.At d i p)(s:lH):lZ (fun n=>qn n s p) (OkP fun a=>Z.At d i a.fst.fst.fst):=by
 refine lZ.fn (fun n=>by simp only[qn,l6,LG,Ea];exact rfl) ?_;refine lZ.bind (aoK h s) fun _ _=>lZ.rQ (fun _=>?_) fun _=>lZ.bind (isA h 3 s) fun _ _=>?_
 all_goals exact lZ.pr (aO9 h _) fun a e=>lZ.bind (aPn (e.1 ▸ h)) fun _ h=>lZ.pure h
theorem aML(s:lH)(h:s.length<=100000):lZ (fun n=>strings_Contains n s [46]) fun _=>True:=by
 refine⟨Lib.contains s [46],trivial,1,fun n hn=>?_⟩;obtain⟨k,rfl⟩:∃k,n=k+1:=⟨n-1,by omega⟩;show(bif decide (s.length<4294967281)then some (Lib.contains s [46])else none)=_;rw[kR (by omega)];rfl
theorem Kx.txt{t:mG}(h:t∈Z.T):t.text.length<=100000:=by
 have:=Z.ok.2.txt t h;have:=Z.ok.1;omega
theorem auB(h:j<Z.T.length):lZ (fun n=>yT n (Z.st j d)) fun b=>b=true->Z.T[j].kind=0:=by
 refine lZ.fn (fun n=>by simp only[yT,l6,IG,mB];exact rfl) ?_;refine lZ.bind (azQ h) fun t e=>lZ.rQ (fun h0=>?_) fun _=>lZ.pure nofun
 subst e;exact lZ.bind (aML _ (Kx.txt (ko h))) fun _ _=>lZ.pure fun _=>eq_of_beq h0
theorem aqN(h:Z.At d i p):lZ (fun n=>vF n p) fun _=>True:=by
 refine lZ.fn (fun n=>by simp only[vF,l6,DY,mB];exact rfl) ?_;obtain⟨j,hij,hj,rfl⟩:=h;exact lZ.bind (auB hj) fun _ _=>lZ.rQ (fun _=>lZ.pure trivial) fun _=>lZ.bind (aoK (.of hj hij) _) fun _ _=>lZ.pure trivial
def Kx.V(Z:Kx)(d:Int)(i:Nat)(Q:W->Prop):PR (((kZ×Unit)×Unit)×(W×Unit)) (((kZ×Unit)×Unit)×(lF×Unit))->Prop:=OkP fun a=>Z.At d i a.fst.fst.fst/\Q a.snd.fst
def Yy(_:W):Prop:=True
theorem ac8(h:Z.At d i p):lZ (fun n=>tY n p) (Z.V d i Yy):=by
 refine lZ.fn (fun n=>by simp only[tY,l6,FT,Ea];exact rfl) ?_;exact lZ.bind (aqN h) fun _ _=>lZ.pr (aO9 h _) fun a e=>lZ.bind (aPn (e.1 ▸ h)) fun _ h=>lZ.pure ⟨h,trivial⟩
theorem aqO(h:Z.At d i p):lZ (fun n=>vG n p) (Z.V d (i+1) Yy):=by
 refine lZ.fn (fun n=>by simp only[vG,l6,DZ,Ea];exact rfl) ?_;obtain⟨j,hij,hj,rfl⟩:=h;refine lZ.bind (auB hj) fun c hc=>lZ.pr (aO9 (.of hj hij) _) fun a e=>?_
 rw[e.1];have:=aAP hj;have hk:=hc e.2;exact lZ.bind (aAQ hj) fun x e=>lZ.pure ⟨by rw[e];exact .of this.1 (by have:=this.2.2 (by omega);omega),trivial⟩
theorem aKx(h:Z.At d i p):lZ (fun n=>vG n p) (Z.V d i Yy):=(aqO h).imp fun r hr=>by
 cases r with
 |ok a=>exact⟨hr.1.le (by omega),trivial⟩
 |pn b=>trivial
theorem aIM(h:Z.At d i p):lZ (fun n=>D0 n p) (Z.V d i Yy):=by
 refine lZ.fn (fun n=>by simp only[D0,l6,LH,Ea];exact rfl) ?_;exact lZ.bind (aqM h) fun _ _=>lZ.pr (aO9 h _) fun a e=>lZ.bind (aPn (e.1 ▸ h)) fun _ h=>lZ.pure ⟨h,trivial⟩
theorem aMM(h:Z.At d i p):lZ (fun n=>uL n p) (Z.V d (i+1) Yy):=by
 refine lZ.fn (fun n=>by simp only[uL,l6,I0,Ea];exact rfl) ?_;obtain⟨j,hij,hj,rfl⟩:=h;refine lZ.bind (azQ hj) fun t et=>lZ.pr (aO9 (.of hj hij) _) fun a e=>?_
 subst et;rw[e.1];have:=aAP hj;have hk:Z.T[j].kind=1:=eq_of_beq e.2;refine lZ.bind (aAQ hj) fun x e=>?_
 obtain⟨h18,m,hm⟩:=Z.ok.2.num _ (ko hj) hk;subst e;refine lZ.bind (P:=Yy) ⟨(m,()),trivial,1,fun n hn=>?_⟩ fun _ _=>lZ.pure ⟨.of this.1 (by have:=this.2.2 (by omega);omega),trivial⟩
 obtain⟨k,rfl⟩:∃k,n=k+1:=⟨n-1,by omega⟩
 grind [strconv_Atoi]
theorem aKy(h:Z.At d i p):lZ (fun n=>uL n p) (Z.V d i Yy):=(aMM h).imp fun r hr=>by
 cases r with
 |ok a=>exact⟨hr.1.le (by omega),trivial⟩
 |pn b=>trivial
theorem aMN:∀(m:Nat)(l:List lH)(p:kZ),200<=m+l.length->l.length<=200->Z.At d i p->l1 (fun n q=>Au n q p l) (Z.V d i fun l=>l.length<=200):=by
 intro m;induction m using kr with
 |ind m ih=>
  intro l p hm hl h;refine l1.lp (fun n m=>by simp only[VD,As];exact rfl) ?_;refine l1.nK (aqN h) fun _ _=>l1.rQ (fun _=>?_) fun _=>l1.pure ⟨h,hl⟩
  refine l1.pr (RU h _) fun a ha=>l1.nK (aPn ha.1) fun x hx=>l1.rQ (fun _=>?_) fun hf=>?_
  ·exact ih (m-1) (by omega) _ _ (by simp;omega) (by simp;omega) hx
  ·grind
theorem azR(h:Z.At d i p):lZ (fun n=>Cw n p) (Z.V d i fun l=>l.length<=200):=by
 refine lZ.fn (fun n=>by simp only[Cw,l6,EN];exact rfl) ?_;refine lZ.pr (ac8 h) fun a ha=>?_
 refine lZ.Jh (F:=fun n q=>D1 n q _ _) ?_;refine l1.lp (fun n m=>by simp only[D1,Dn];exact rfl) ?_;have h:=ha.1;refine l1.nK (aqN h) fun _ _=>l1.rQ (fun _=>?_) fun _=>l1.pure ⟨h,by simp⟩
 refine l1.pr (RU h _) fun a ha=>l1.nK (aPn ha.1) fun x hx=>l1.rQ (fun _=>?_) fun hf=>?_
 ·exact aMN 200 _ _ (by omega) (by simp) hx
 ·grind
end
section
variable {Z:Kx} {d:Int} {i j:Nat} {p:kZ}
def Kx.L(Z:Kx)(d:Int)(i:Nat):PR (((kZ×Unit)×Unit)×(List lz×Unit)) (((kZ×Unit)×Unit)×(lF×Unit))->Prop:=OkP fun a=>Z.At d (i+a.snd.fst.length) a.fst.fst.fst
theorem aMO{a k:Int}(h:Z.At d i p):∀(m:Nat)(l:List lz)(v N:Nat),l.length=N->v+m=N->N<=100000->l1 (fun n q=>xg (mO n) n q a k (N:Int) (v:Int) p l) (OkP fun r=>Z.At d i r.fst.fst.fst/\r.snd.fst.length=N):=by
 intro m;induction m with
 |zero=>
  intro l v N hl hv hN;refine l1.lp (fun n m=>by simp only[Nb,Ao,xh,JT];exact rfl) ?_;rw[kS (by omega)];exact l1.pure ⟨h,hl⟩
 |succ m ih=>
  intro l v N hl hv hN;refine l1.lp (fun n m=>by simp only[Nb,Ao,xh,JT];exact rfl) ?_;have q9:v<l.length:=by omega
  simp only[kR (show(v:Int)<(N:Int) by omega),yA q9,kR q9,kR (kA v),Bool.and_self,kp,kD,kP,kH q9];refine l1.rQ (fun _=>l1.pure trivial) fun _=>?_
  rw[mM (by omega)];exact ih _ _ _ (by simp [hl]) (by omega) hN
theorem asX{l:List lz}(h:Z.At d (i+l.length) p){L:Int}(hL:L=(l.length:Int)):
 lZ (fun n=>(oB n p [43]).bind fun x_1=>bif x_1.snd.fst then(uc n x_1.fst.fst).bind fun x_2=>(uL n x_1.fst.fst).bind fun x_3=>
  prc x_3 (fun x_4=>xg (mO n) n n x_2 x_4.snd.fst L 0 x_4.fst.fst.fst l) (fun y=>some (PR.pn (((y.fst.fst.fst,()),()),y.snd.fst,())))else some (PR.ok (((x_1.fst.fst,()),()),l,()))) (Z.L d i):=by
 have hl:=h.lt;subst hL;refine lZ.bind (Eu h _) fun x h=>lZ.rQ (fun _=>lZ.bind (asW h) fun y _=>lZ.pr (aKy h) fun a ha=>?_) fun _=>lZ.pure h
 refine(lZ.Jh (F:=fun n q=>xg (mO n) n q _ _ _ _ _ _) (aMO ha.1 l.length l 0 l.length rfl (by omega) (by omega))).imp fun r hr=>?_
 cases r with
 |ok r=>
  show Z.At d (i+r.snd.fst.length) _;rw[hr.2];exact hr.1
 |pn _=>trivial
theorem aIa{m:Nat}(hA:∀(j:Nat)(p:kZ),Z.At d j p->Z.T.length<=j+m->lZ (fun n=>sH n p) (Z.L d j))(hm:Z.T.length<=i+m):∀(f:Nat)(v:Int)(out:List lz)(p:kZ),0<=v->200<=v+f->Z.At d (i+out.length) p->
 l1 (fun n q=>qm (mO n) n q v p out) (OkP fun a=>Z.At d (i+a.fst.snd.snd.snd.fst.length) a.fst.fst.fst):=by
 intro f;induction f using kr with
 |ind f ih=>
  intro v out p hv hf h;refine l1.lp (fun n m=>by simp only[Fg,rS,xh,JT];exact rfl) ?_;refine l1.pr (RU h _) fun a ha=>?_
  refine l1.pr (P:=fun a=>Z.At d (i+a.fst.snd.snd.fst.length) a.fst.snd.snd.snd.fst.fst) ?_ fun b hb=>l1.nK (Eu hb _) fun x hx=>l1.rQ (fun _=>?_) fun _=>l1.pure hx
  ·refine lZ.fn (fun n=>by simp only[acy,Ct,xh,Ea];exact rfl) ?_;refine lZ.pr (hA _ _ ha.1 (by omega)) fun b hb=>?_
   have hl:=hb.lt;rw[kR (by omega)];refine lZ.pure ?_;show Z.At d (i+(out++b.snd.fst).length) _;rw[List.length_append,<-Nat.add_assoc];exact hb
  ·have:=ha.2;rw[qo (by omega) (by omega)];exact ih (f-1) (by omega) _ _ _ (by omega) (by omega) hx
theorem aKz:∀(m i:Nat)(p:kZ),Z.At d i p->Z.T.length<=i+m->lZ (fun n=>sH n p) (Z.L d i):=by
 intro m;induction m with
 |zero=>
  intro i p ⟨j,h1,h2,_⟩ hm;omega
 |succ m ih=>
  intro i p h hm;refine lZ.fn (fun n=>by simp only[afL,Ek,xh,Ea];exact rfl) ?_;have hh:=h;obtain⟨j,hij,hj,rfl⟩:=hh;have hl:=Z.len;refine lZ.bind (azQ hj) fun t _=>lZ.rQ (fun _=>lZ.pr (aMM h) fun a ha=>asX (l:=[{name:=[],plus:=a.snd.fst}]) ha.1 rfl) fun _=>?_
  refine lZ.bind (isJ hj 0 _) fun b hb=>lZ.rQ (fun uD=>lZ.rQ (fun q9=>?_) fun _=>lZ.pr (aqO h) fun a ha=>asX (l:=[_]) ha.1 rfl) fun _=>lZ.pr (aqO h) fun a ha=>asX (l:=[_]) ha.1 rfl
  have e1:IntKind.i64.wrap ((Z.st j d).vP.next+1)=((j+1:Nat):Int):=mM (by omega);rw[e1]at q9 ⊢;have q9:decide (((j+1:Nat):Int)<(Z.T.length:Int))=true:=q9;have hj1:j+1<Z.T.length:=by grind
  refine lZ.Nu (xs:=Z.T) hj1 (lZ.rQ (fun _=>lZ.Nu (xs:=Z.T) hj1 (lZ.rQ (fun _=>?_) fun _=>lZ.pr (aqO h) fun a ha=>asX (l:=[_]) ha.1 rfl)) fun _=>lZ.pr (aqO h) fun a ha=>asX (l:=[_]) ha.1 rfl);have:=(aAP hj).2.2 (by have:=hb uD;omega);refine lZ.bind (aAQ hj) fun x e=>?_
  subst e;refine lZ.bind (aPn (.of (by omega) (show i+1<=Z.nx j by omega))) fun x hx=>?_
  refine lZ.pr (P:=fun a=>Z.At d (i+1+a.fst.snd.snd.snd.fst.length) a.fst.fst.fst) ?_ fun a ha=>?_
  ·refine lZ.fn (fun n=>by simp only[Hv,sj,xh,Ea];exact rfl) ?_;exact lZ.Jh (F:=fun n q=>qm (mO n) n q 0 _ []) (aIa ih (by omega) 200 0 [] _ (by omega) (by omega) hx)
  ·exact lZ.pr (aOM (ha.le (show i+a.fst.snd.snd.snd.fst.length<=_ by omega)) _) fun b hb=>asX hb rfl
def LvG(l:ld):Prop:=l.A8.length<=1000000
theorem aFo(h:Z.At d i p):lZ (fun n=>CY n p) (Z.V d i LvG):=by
 refine lZ.fn (fun n=>by simp only[CY,l6,Ke,Ea];exact rfl) ?_;refine lZ.bind (Eu h _) fun x h=>lZ.rQ (fun _=>lZ.pure ⟨h,kC _⟩) fun _=>lZ.pr (aKz Z.T.length i _ h (by omega)) fun a ha=>?_
 have:=ha.lt;exact lZ.pure ⟨ha.le (by omega),show a.snd.fst.length<=_ by omega⟩
theorem aOa(h:Z.At d i p):lZ (fun n=>KM n p) (Z.V d i LvG):=by
 refine lZ.fn (fun n=>by simp only[KM,l6,MI,Ea];exact rfl) ?_;refine lZ.bind (aqM h) fun t _=>lZ.rQ (fun _=>lZ.pr (aKy h) fun a ha=>lZ.pure ⟨ha.1,show 1<=1000000 by omega⟩) fun _=>?_
 have hh:=h;obtain⟨j,hij,hj,rfl⟩:=hh;refine lZ.bind (auB hj) fun c _=>lZ.rQ (fun _=>lZ.bind (aPn h) fun x h=>lZ.pure ⟨h,show 1<=1000000 by omega⟩) fun _=>?_
 refine lZ.bind (Eu h _) fun x h=>lZ.rQ (fun _=>lZ.pr (aFo h) fun a ha=>lZ.pr (aOM ha.1 _) fun b hb=>lZ.pure ⟨hb,ha.2⟩) fun _=>?_
 exact lZ.bind (Eu h _) fun x h=>lZ.pure ⟨h,kC _⟩
def LsG(l:List ld):Prop:=l.length<=1000/\∀x∈l,LvG x
theorem aIb:∀(f:Nat)(v:Int)(out:List ld)(p:kZ),(out.length:Int)<=v->200<=v+f->(∀x∈out,LvG x)->Z.At d i p->
 l1 (fun n q=>qf n q v p out) (OkP fun a=>Z.At d i a.fst.fst.fst/\LsG a.fst.snd.snd.snd.fst):=by
 intro f;induction f using kr with
 |ind f ih=>
  intro v out p hv hf ho h;refine l1.lp (fun n m=>by simp only[EO,rH,JT];exact rfl) ?_;refine l1.pr (RU h _) fun a ha=>?_
  have:=ha.2;refine l1.pr (P:=fun a=>Z.At d i a.fst.snd.snd.snd.fst.fst/\a.fst.snd.snd.fst.length=out.length+1/\∀x∈a.fst.snd.snd.fst,LvG x) ?_ fun b hb=>l1.nK (Eu hb.1 _) fun x hx=>l1.rQ (fun _=>?_) fun _=>l1.pure ⟨hx,by show b.fst.snd.snd.fst.length<=_;omega,hb.2.2⟩
  ·refine lZ.fn (fun n=>by simp only[Jb,l6,FV,Ea];exact rfl) ?_;refine lZ.pr (aFo ha.1) fun b hb=>?_
   rw[kR (by omega)];exact lZ.pure ⟨hb.1,by simp,by have:=hb.2;grind⟩
  ·rw[qo (by omega) (by omega)];exact ih (f-1) (by omega) _ _ _ (by omega) (by omega) hb.2.2 hx
theorem aAR(h:Z.At d i p):lZ (fun n=>Fp n p) (Z.V d i LsG):=by
 refine lZ.fn (fun n=>by simp only[Fp,l6,Jc,Ea];exact rfl) ?_;refine lZ.bind (Eu h _) fun x h=>lZ.rQ (fun _=>?_) fun _=>lZ.pure ⟨h,by simp [LsG]⟩
 refine lZ.pr (P:=fun a=>Z.At d i a.fst.fst.fst/\LsG a.fst.snd.snd.snd.fst) ?_ fun a ha=>lZ.pr (aOM ha.1 _) fun b hb=>lZ.pure ⟨hb,ha.2⟩
 refine lZ.fn (fun n=>by simp only[uH,l6,uk,Ea];exact rfl) ?_;exact lZ.Jh (F:=fun n q=>qf n q 0 _ []) (aIb 200 0 [] _ (by simp) (by omega) (by simp) h)
end
inductive Gd:Syntax->Prop
 |mk {k:Int} {s:lH} {n:Int} {ns:List lH} {ls:List ld} {ks:List Syntax} {f t:Int} (h1:ns.length<=1000) (h2:LsG ls) (h4:ks.length<=1000) (h6:k=13->2<=ks.length) (h5:∀x∈ks,Gd x):Gd (.mk k s n ns ls ks f t)
theorem LsG.nil:LsG []:=by simp [LsG]
section
variable {k:Int} {s:lH} {n:Int} {x y z:Syntax} {f t:Int}
theorem Gd.nol{ns:List lH}{ks:List Syntax}(hk:k≠13)(h1:ns.length<=1000)(h4:ks.length<=1000)(h5:∀x∈ks,Gd x):Gd (.mk k s n ns [] ks f t):=.mk h1 .nil h4 (fun e=>absurd e hk) h5
theorem Gd.lev{ls:List ld}(hk:k≠13)(h:LsG ls):Gd (.mk k s n [] ls [] f t):=.mk (by simp) h (by simp) (fun e=>absurd e hk) (by simp)
theorem Gd.zero(hk:k≠13):Gd (.mk k s n [] [] [] f t):=.lev hk .nil
theorem Gd.one(hk:k≠13)(h:Gd x):Gd (.mk k s n [] [] [x] f t):=.nol hk (by simp) (by simp) (by simpa using h)
theorem Gd.two(h:Gd x)(hy:Gd y):Gd (.mk k s n [] [] [x,y] f t):=.mk (by simp) .nil (by simp) (fun _=>by simp) (by simp [h,hy])
theorem Gd.three(h:Gd x)(hy:Gd y)(hz:Gd z):Gd (.mk k s n [] [] [x,y,z] f t):=.mk (by simp) .nil (by simp) (fun _=>by simp) (by simp [h,hy,hz])
theorem Gd.to(h:Gd x):Gd (.mk x.kind x.text x.num x.mZ x.mK x.mR f t):=by cases h;exact .mk ‹_› ‹_› ‹_› ‹_› ‹_›
theorem Gd.WG(h:Gd x)(hk:x.kind=13):∃h:1<x.mR.length,Gd x.mR[1]:=by
 cases h with
 |mk h1 h2 h4 h6 h5=>exact⟨h6 hk,h5 _ (ko _)⟩
end
theorem axy(l:List lH)(h:l.length<=1000000):Ev (fun n=>A9 n l) ((l,()),()):=by
 refine⟨1,fun n hn=>?_⟩;obtain⟨k,rfl⟩:∃k,n=k+1:=⟨n-1,by omega⟩;cases l with
 |nil=>rfl
 |cons x xs=>
  grind [A9,GZ]
theorem axz(l:List ld)(h:l.length<=1000000):Ev (fun n=>Ad n l) ((l,()),()):=by
 refine⟨1,fun n hn=>?_⟩;obtain⟨k,rfl⟩:∃k,n=k+1:=⟨n-1,by omega⟩;cases l with
 |nil=>rfl
 |cons x xs=>
  grind [Ad,CG]
theorem axA(l:List Syntax)(h:l.length<=1000000):Ev (fun n=>Ed n l) ((l,()),()):=by
 refine⟨1,fun n hn=>?_⟩;obtain⟨k,rfl⟩:∃k,n=k+1:=⟨n-1,by omega⟩;cases l with
 |nil=>rfl
 |cons x xs=>
  grind [Ed,G7]
theorem auC(l:List lz)(h:l.length<=1000000):Ev (fun n=>C9 n l) l:=by
 refine⟨1,fun n hn=>?_⟩;obtain⟨k,rfl⟩:∃k,n=k+1:=⟨n-1,by omega⟩;cases l with
 |nil=>rfl
 |cons x xs=>
  grind [C9,FH]
theorem aCE{t:Syntax}(h:Gd t):Ev (fun n=>zY n t) t:=by
 induction h with
 | @mk k s num ns ls ks f t h1 h2 h4 h6 h5 ih=>
   have h7:=h2.1
   have mR:∀(d i:Nat),i+d=ks.length->pX (fun n m=>Hf (zY n) n m (ks.length:Int) (i:Int) k s num f t ns ls ks) (Syntax.mk k s num ns ls ks f t):=by
    intro d;induction d with
    |zero=>
     intro i hi;refine pX.lp (fun n m=>by simp only[XS,He,mB];exact rfl) ?_
     grind [pX.pure]
    |succ d ihd=>
     intro i hi;have q9:i<ks.length:=by omega
     refine pX.lp (fun n m=>by simp only[XS,He,mB];exact rfl) ?_;rw[kR (by omega)];simp only[kP,yA q9,kp,kD,kH q9];refine pX.nK (ih _ (ko q9)) ?_;rw[kN,mM (by omega)];exact ihd (i+1) (by omega)
   have aOb:∀(d i:Nat),i+d=ls.length->pX (fun n m=>Hh (zY n) n m (ls.length:Int) (i:Int) k s num ks f t ns ls) (Syntax.mk k s num ns ls ks f t):=by
    intro d;induction d with
    |zero=>
     intro i hi;refine pX.lp (fun n m=>by simp only[XT,Hg,mB];exact rfl) ?_;rw[kS (by omega)];simp only[kQ];refine pX.nK (axA ks (by omega)) ?_;exact pX.of1 (Ev.Jh (F:=fun n m=>Hf (zY n) n m (ks.length:Int) 0 k s num f t ns ls ks) (mR ks.length 0 (by omega)))
    |succ d ihd=>
     intro i hi;have q9:i<ls.length:=by omega
     refine pX.lp (fun n m=>by simp only[XT,Hg,mB];exact rfl) ?_;rw[kR (by omega)];simp only[kP,yA q9,kp,kD,kH q9];refine pX.nK (auC _ (h2.2 _ (ko q9))) ?_;simp only[kR q9,kP];rw[show({alb:=ls[i].alb,A8:=ls[i].A8}:ld)=ls[i] from rfl,kN,mM (by omega)];exact ihd (i+1) (by omega)
   refine Ev.fn (fun n=>by simp only[zY,l6,Vv,mB];exact rfl) ?_;refine Ev.bind (axy ns (by omega)) ?_;refine Ev.bind (axz ls (by omega)) ?_;exact Ev.Jh (F:=fun n m=>Hh (zY n) n m (ls.length:Int) 0 k s num ks f t ns ls) (aOb ls.length 0 (by omega))
def BdG(l:List lD):Prop:=∀b∈l,Gd b.t
theorem aFp(l:List lH)(hl:l.length<=100000){t:Syntax}(h:Gd t):lZ (fun n=>L6 n l t) fun r=>r.length=l.length/\BdG r:=by
 refine lZ.fn (fun n=>by simp only[L6,l6,XY,mB];exact rfl) ?_;refine lZ.Jh (F:=fun n m=>Jt n m l (l.length:Int) 0 t []) ?_;refine l1.up (L:=fun n m i out=>Jt n m l (l.length:Int) i t out) l.length (fun i out=>out.length=i/\BdG out) _ ?_ ?_ 0 [] (kC _) ⟨rfl,nofun⟩
 ·intro i out hi ho next
  refine l1.lp (fun n m=>by simp only[ZI,Js,mB];exact rfl) ?_;simp only[kR (show(i:Int)<(l.length:Int) by omega),kP];refine l1.Nu hi (l1.nK ((aCE h).tot (Q:=Gd) h) fun x hx=>?_);rw[kR (by omega),mM (by omega)];exact next _ ⟨by simp [ho.1],by have:=ho.2;grind [BdG]⟩
 ·intro out ho;refine l1.lp (fun n m=>by simp only[ZI,Js,mB];exact rfl) ?_;simp only[kq,decide_false,kQ];exact l1.pure ho
theorem aAS{x:Syntax}{l:List lD}(hl:l.length<=1000000)(hb:BdG l){body:Syntax}(h:Gd body):lZ (fun n=>Ot n x l body) Gd:=by
 refine lZ.fn (fun n=>by simp only[Ot,l6,aaP,mB];exact rfl) ?_;refine lZ.bind (P:=(· =l)) ?_ fun r e=>?_
 ·refine lZ.fn (fun n=>by simp only[alT,l6,G8,mB];exact rfl) ?_;exact lZ.pure rfl
 subst e;refine lZ.bind (P:=fun a=>Gd a.fst.snd.snd.fst.fst) ?_ fun a ha=>lZ.pure ha
 refine lZ.fn (fun n=>by simp only[Hi,l6,EJ,mC];exact rfl) ?_
 have key:∀(k:Nat),k<=r.length->∀body:Syntax,Gd body->l1 (fun n m=>wR n m r ((k:Int)-1) 0 x body) fun a=>Gd a.fst.snd.snd.fst.fst:=by
  intro k;induction k with
  |zero=>
   intro hk body h;refine l1.lp (fun n m=>by simp only[Jo,wQ,mB];exact rfl) ?_;rw[kS (by omega)];exact l1.pure h
  |succ k ih=>
   intro hk body h;have hkl:k<r.length:=by omega
   refine l1.lp (fun n m=>by simp only[Jo,wQ,mB];exact rfl) ?_;rw[show((k+1:Nat):Int)-1=(k:Int) by omega,kR (kA k)];simp only[kP,yA hkl,kp,beq_self_eq_true];refine l1.nK (P:=fun a=>a.fst.fst.snd=0/\a.snd.fst=true/\Gd a.fst.snd.snd.fst.fst/\a.fst.snd.fst.fst=x) ?_ fun a ha=>?_
   ·refine lZ.fn (fun n=>by simp only[IA,l6,FI,mB];exact rfl) ?_;exact lZ.pure ⟨rfl,rfl,.two (hb _ (ko hkl)) h,rfl⟩
   ·obtain⟨a1,a2,a3,a4⟩:=ha;rw[a1,a2,a4,qo (by omega) (by omega)];exact ih (by omega) _ a3
 rw[qo (by omega) (by omega)];exact lZ.Jh (F:=fun n m=>wR n m r ((r.length:Int)-1) 0 x body) (key _ (kx _) body h)
section
variable {Z:Kx} {d:Int} {i j:Nat} {p:kZ}
theorem aAT(h:Z.At d i p):lZ (fun n=>B0 n p) fun _=>True:=by
 refine lZ.fn (fun n=>by simp only[B0,l6,II,mB];exact rfl) ?_;refine lZ.bind (aqM h) fun t _=>?_
 (repeat' (first|exact lZ.pure trivial|exact l1.pure trivial|refine lZ.rQ (fun _=>?_) (fun _=>?_)|refine l1.rQ (fun _=>?_) (fun _=>?_)))
theorem aFq(h:Z.At d i p):lZ (fun n=>Am n p) fun _=>True:=by
 refine lZ.fn (fun n=>by simp only[Am,l6,FR,mB];exact rfl) ?_;refine lZ.bind (aqM h) fun t _=>?_
 (repeat' (first|exact lZ.pure trivial|exact l1.pure trivial|refine lZ.rQ (fun _=>?_) (fun _=>?_)|refine l1.rQ (fun _=>?_) (fun _=>?_)))
 obtain⟨j,_,_,rfl⟩:=h;have:=Z.sm;exact lZ.bind ((anG Z.sy t.text (by simp only[cap];omega)).tot (Q:=Yy) trivial) fun _ _=>lZ.pure trivial
theorem aIN(h:Z.At d i p):lZ (fun n=>DW n p) fun x=>Z.At d i x.fst.fst/\Gd x.snd.fst:=by
 refine lZ.fn (fun n=>by simp only[DW,l6,Lp,JT];exact rfl) ?_;exact lZ.bind (axx h) fun _ _=>lZ.bind (axx h) fun _ _=>lZ.pure ⟨h,.zero (by decide)⟩
theorem aIc(h:Z.At d i p):lZ (fun n=>Ff n p) (OkP fun _=>True):=by
 refine lZ.fn (fun n=>by simp only[Ff,l6,I1,Ea];exact rfl) ?_;exact lZ.bind (aqM h) fun t _=>lZ.pr (aO9 h _) fun _ _=>lZ.pure trivial
theorem aFr(t:mG)(s:lH):lZ (fun n=>Cm n t s) fun _=>True:=by
 refine lZ.fn (fun n=>by simp only[Cm,l6,EH,mB];exact rfl) ?_
 (repeat' (first|exact lZ.pure trivial|exact l1.pure trivial|refine lZ.rQ (fun _=>?_) (fun _=>?_)|refine l1.rQ (fun _=>?_) (fun _=>?_)))
theorem aFs(h:Z.At d i p){k:Nat}(hk:k<Z.T.length):lZ (fun n=>Ef n p (k:Int)) fun x=>Z.At d i x.fst.fst/\x.snd.fst.length<=100000:=by
 refine lZ.fn (fun n=>by simp only[Ef,l6,Ho,mB];exact rfl) ?_;obtain⟨j,hij,hj,rfl⟩:=h;have hl:=Z.len;refine lZ.Nu (xs:=Z.T) hk (lZ.bind (aFr _ _) fun _ _=>lZ.rQ (fun _=>?_) fun _=>lZ.pure ⟨.of hj hij,kC _⟩)
 have e2:decide (0<=((k+1:Nat):Int)/\((k+1:Nat):Int)<=((Z.st j d).vP.K4.length:Int)/\((Z.st j d).vP.K4.length:Int)<=((Z.st j d).vP.K4.length:Int))=true:=
  kR ⟨by omega,by show((k+1:Nat):Int)<=(Z.T.length:Int);omega,kL _⟩
 rw[mM (by omega),e2];simp only[kP,kD,kB];have hm:∀t∈Z.T.drop (k+1),t.text.length<=100000:=fun t ht=>Kx.txt (List.mem_of_mem_drop ht)
 have hll:(Z.T.drop (k+1)).length<=100000:=by simp;omega
 revert hm hll;show _->_->lZ (fun n=>ud n n (Z.T.drop (k+1)) ((Z.T.drop (k+1)).length:Int) 0 (Z.st j d) []) _;generalize Z.T.drop (k+1)=D;intro hm hll;refine lZ.Jh (F:=fun n m=>ud n m D (D.length:Int) 0 (Z.st j d) []) ?_;refine l1.up (L:=fun n m i out=>ud n m D (D.length:Int) i (Z.st j d) out) D.length (fun i out=>out.length<=i) _ ?_ ?_ 0 [] (kC _) (by simp)
 ·intro q out hi ho next
  refine l1.lp (fun n m=>by simp only[Lt,xY,mB];exact rfl) ?_;simp only[kR (show(q:Int)<(D.length:Int) by omega),kP]
  have go:l1 (fun n m=>bif decide ((out.length+1)*16<=17592186044416)then ud n m D (D.length:Int) (IntKind.i64.wrap ((q:Int)+1)) (Z.st j d) (out++[D[q].text])else none) fun x=>Z.At d i x.fst.fst/\x.snd.fst.length<=100000:=by
   rw[kR (by omega),mM (by omega)];exact next _ (by show(out++[_]).length<=_;simp;omega)
  refine l1.Nu hi (l1.nK (aFr _ _) fun _ _=>l1.rQ (fun _=>l1.pure ⟨.of hj hij,by show out.length<=_;omega⟩) fun _=>l1.nK (aFr _ _) fun _ _=>l1.rQ (fun _=>go) fun _=>l1.rQ (fun _=>?_) fun _=>l1.pure ⟨.of hj hij,kC _⟩);exact l1.nK (aML _ (hm _ (ko hi))) fun _ _=>l1.rQ (fun _=>l1.pure ⟨.of hj hij,kC _⟩) fun _=>go
 ·intro out ho;refine l1.lp (fun n m=>by simp only[Lt,xY,mB];exact rfl) ?_;simp only[kq,decide_false,kQ];exact l1.pure ⟨.of hj hij,kC _⟩
end
def Nt(Z:Kx)(d:Int)(f:Nat->kZ->Option (PR (((kZ×Unit)×Unit)×(Syntax×Unit)) (((kZ×Unit)×Unit)×(lF×Unit)))):Prop:=∀p,Z.At d 0 p->lZ (fun n=>f n p) (Z.V d 0 Gd)
def KsG(l:List Syntax):Prop:=l.length<=1000/\∀x∈l,Gd x
theorem KsG.aEW{x:Syntax}(h:KsG l)(hl:l.length<200)(hx:Gd x):KsG (l++[x]):=⟨by simp;omega,by have:=h.2;grind⟩
def Kx.aO2(Z:Kx)(d:Int):PR (((kZ×Unit)×((Syntax×Unit)×Unit))×Unit) (((kZ×Unit)×((Syntax×Unit)×Unit))×(lF×Unit))->Prop:=OkP fun a=>Z.At d 0 a.fst.fst.fst/\Gd a.fst.snd.fst.fst
def NpA(Z:Kx):Prop:=∀l:List Syntax,l.length<=200->(∀x∈l,Gd x)->lZ (fun n=>HA n Z.tb l) fun x=>0<=x.snd.fst/\Gd x.fst
section
variable {Z:Kx} {d:Int} {p:kZ}
theorem aMP(hta:Nt Z d nF):∀(m:Nat)(v:Int)(p:kZ)(x:Syntax),0<=v->200<=v+m->Z.At d 0 p->Gd x->
 l1 (fun n q=>uO (lc n) n q v p x) (Z.V d 0 Gd):=by
 intro m;induction m using kr with
 |ind m ih=>
  intro v p x hv hm h hx;refine l1.lp (fun n m=>by simp only[QY,xK,mc,JT];exact rfl) ?_;refine l1.nK (Eu h _) fun y h=>l1.rQ (fun _=>l1.pr (RU h _) fun a ha=>l1.pr (hta _ ha.1) fun b hb=>?_) fun _=>l1.pure ⟨h,hx⟩
  have:=ha.2;rw[qo (by omega) (by omega)];exact ih (m-1) (by omega) _ _ _ (by omega) (by omega) hb.1 (.two hx hb.2)
theorem aOc(hta:Nt Z d nF):Nt Z d qU:=by
 intro p h;refine lZ.fn (fun n=>by simp only[VN,yu,mc,Ea];exact rfl) ?_;exact lZ.pr (hta p h) fun a ha=>lZ.Jh (F:=fun n q=>uO (lc n) n q 1 _ _) (aMP hta 200 1 _ _ (by omega) (by omega) ha.1 ha.2)
theorem aMQ(hta:Nt Z d nF):∀(m:Nat)(l:List Syntax)(p:kZ),200<=m+l.length->KsG l->Z.At d 0 p->
 l1 (fun n q=>ye (lc n) n q p l) (Z.V d 0 KsG):=by
 intro m;induction m using kr with
 |ind m ih=>
  intro l p hm hl h;refine l1.lp (fun n m=>by simp only[Yr,BT,mc,JT];exact rfl) ?_;refine l1.nK (aoK h _) fun _ _=>l1.rQ (fun _=>l1.pure ⟨h,hl⟩) fun _=>l1.pr (RU h _) fun a ha=>l1.pr (aOc hta _ ha.1) fun b hb=>?_
  have:=ha.2;have hs:=hl.aEW (by omega) hb.2;rw[kR (by omega)];exact l1.nK (Eu hb.1 _) fun x hx=>l1.rQ (fun _=>ih (m-1) (by omega) _ _ (by simp;omega) hs hx) fun _=>l1.pure ⟨hx,hs⟩
theorem aIO(hta:Nt Z d nF)(h:Z.At d 0 p):lZ (fun n=>sr n p) (Z.V d 0 KsG):=by
 refine lZ.fn (fun n=>by simp only[acY,CD,mc,Ea];exact rfl) ?_;exact lZ.Jh (F:=fun n q=>ye (lc n) n q _ _) (aMQ hta 200 [] _ (by simp) (by simp [KsG]) h)
theorem aFt(hta:Nt Z d nF)(h:Z.At d 0 p)(w:lH)(f:Int):lZ (fun n=>tE n p (.mk 15 w 0 [] [] [] f 0)) (Z.aO2 d):=by
 refine lZ.fn (fun n=>by simp only[af8,Es,mc,Ea];exact rfl) ?_;simp only[Syntax.WN];exact lZ.pr (aOM h _) fun a h=>lZ.pr (aIO hta h) fun b hb=>lZ.pr (aOM hb.1 _) fun c hc=>lZ.pure ⟨hc,.nol (by decide) (by simp) hb.2.1 hb.2.2⟩
theorem aMR(hta:Nt Z d nF)(h:Z.At d 0 p)(f:Int):lZ (fun n=>vb n p (.mk 0 [] 0 [] [] [] f 0)) (Z.aO2 d):=by
 refine lZ.fn (fun n=>by simp only[ahI,Fz,mc,Ea];exact rfl) ?_;simp only[Syntax.WN];refine lZ.bind (aqM h) fun _ _=>lZ.rQ (fun _=>lZ.bind (aPn h) fun _ h=>lZ.pr (aAR h) fun _ h=>lZ.pure ⟨h.1,.lev (by decide) h.2⟩) fun _=>?_
 refine lZ.bind (Eu h _) fun _ h=>lZ.rQ (fun _=>lZ.pr (aIM h) fun _ h=>lZ.pr (aAR h.1) fun _ h=>lZ.pure ⟨h.1,.lev (by decide) h.2⟩) fun _=>?_
 refine lZ.bind (Eu h _) fun _ h=>lZ.rQ (fun _=>lZ.pure ⟨h,.zero (by decide)⟩) fun _=>?_
 refine lZ.bind (aqM h) fun _ _=>lZ.rQ (fun _=>lZ.pr (aKy h) fun _ h=>lZ.pure ⟨h.1,.zero (by decide)⟩) fun _=>?_
 refine lZ.bind (isA h _ _) fun _ _=>lZ.rQ (fun _=>lZ.bind (aPn h) fun _ h=>lZ.pure ⟨h,.zero (by decide)⟩) fun _=>?_
 refine lZ.bind (isA h _ _) fun _ _=>lZ.rQ (fun _=>lZ.bind (aPn h) fun _ h=>lZ.pr (aOa h) fun _ h=>lZ.pure ⟨h.1,.lev (by decide) ⟨by simp,by simpa using h.2⟩⟩) fun _=>?_
 refine lZ.bind (Eu h _) fun _ h=>lZ.rQ (fun _=>lZ.pure ⟨h,.zero (by decide)⟩) fun _=>?_
 refine lZ.bind (isA h _ _) fun _ _=>lZ.rQ (fun _=>lZ.bind (aPn h) fun _ h=>?_) fun _=>lZ.pr (al1 h _ (P:=fun _=>False)) fun _ h=>h.elim
 exact lZ.pr (aOM h _) fun a h=>lZ.pr (aIO hta h) fun b hb=>lZ.pr (aOM hb.1 _) fun c hc=>lZ.pure ⟨hc,.nol (by decide) (by simp) hb.2.1 hb.2.2⟩
theorem aKA(h:Z.At d 0 p)(y:Syntax)(hl:KsG l):∀(k:Nat),k<=l.length->∀o:Syntax,Gd o->
 l1 (fun n m=>zk (lc n) n m ((k:Int)-1) p y l o) (Z.V d 0 Gd):=by
 have hll:=hl.1;intro k;induction k with
 |zero=>
  intro hk o ho;refine l1.lp (fun n m=>by simp only[Ms,zj,mc,JT];exact rfl) ?_;rw[kS (by omega)];exact l1.pure ⟨h,.to ho⟩
 |succ k ih=>
  intro hk o ho;have hkl:k<l.length:=by omega
  refine l1.lp (fun n m=>by simp only[Ms,zj,mc,JT];exact rfl) ?_;rw[show((k+1:Nat):Int)-1=(k:Int) by omega,kR (kA k)];simp only[kP,yA hkl,kp];refine l1.nK (axx h) fun _ _=>?_
  rw[qo (by omega) (by omega)];exact ih (by omega) _ (.two (hl.2 _ (ko hkl)) ho)
theorem aKB(hex:Nt Z d mz)(y:Syntax):∀(m:Nat)(l:List Syntax)(p:kZ),200<=m+l.length->1<=l.length->KsG l->Z.At d 0 p->
 l1 (fun n q=>zl (lc n) n q p y l) (Z.V d 0 Gd):=by
 intro m;induction m using kr with
 |ind m ih=>
  intro l p hm h1 hl h;refine l1.lp (fun n m=>by simp only[aOV,CC,mc,JT];exact rfl) ?_;refine l1.nK (Eu h _) fun _ h=>l1.rQ (fun _=>l1.pr (RU h _) fun a ha=>l1.pr (hex _ ha.1) fun b hb=>?_) fun _=>l1.pr (aOM h _) fun a ha=>?_
  ·have:=ha.2;rw[kR (by omega)];exact ih (m-1) (by omega) _ _ (by simp;omega) (by simp) (hl.aEW (by omega) hb.2) hb.1
  ·have:=hl.1;rw[show IntKind.i64.wrap ((l.length:Int)-1)=((l.length-1:Nat):Int) by grind [qo],show IntKind.i64.wrap ((l.length:Int)-2)=((l.length-1:Nat):Int)-1 by grind [qo]];refine l1.Nu (by omega) (l1.of1 (lZ.Jh (F:=fun n m=>zk (lc n) n m _ _ _ _ _) (aKA ha y hl _ (by omega) _ (hl.2 _ (ko _)))))
theorem aId(hex:Nt Z d mz)(h:Z.At d 0 p)(f:Int):lZ (fun n=>tZ n (.mk 0 [] 0 [] [] [] f 0) p) (Z.V d 0 Gd):=by
 refine lZ.fn (fun n=>by simp only[aeG,Dw,mc,Ea];exact rfl) ?_;simp only[Syntax.WN];refine lZ.pr (hex p h) fun a ha=>lZ.bind (Eu ha.1 _) fun _ h=>lZ.rQ (fun _=>lZ.pure ⟨h,ha.2⟩) fun _=>?_
 refine lZ.bind (Eu h _) fun _ h=>lZ.rQ (fun _=>lZ.pr (hex _ h) fun b hb=>lZ.pr (aOM hb.1 _) fun _ h=>lZ.bind (axx h) fun _ _=>lZ.pure ⟨h,.two ha.2 hb.2⟩) fun _=>?_
 refine lZ.bind (aoK h _) fun _ _=>lZ.pr (aO9 h _) fun b hb=>?_
 exact lZ.Jh (F:=fun n q=>zl (lc n) n q _ _ _) (aKB hex _ 200 _ _ (by omega) (by simp) ⟨by simp,by simpa using ha.2⟩ (hb.1 ▸ h))
theorem aKC(hex:Nt Z d mz)(hta:Nt Z d nF):Nt Z d tD:=by
 intro p h;refine lZ.fn (fun n=>by simp only[af7,Er,mc,Ea];exact rfl) ?_;exact lZ.bind (asW h) fun _ _=>lZ.bind (Eu h _) fun _ h=>lZ.rQ (fun _=>lZ.pr (aId hex h _) fun _ h=>lZ.pure h) fun _=>lZ.pr (aMR hta h _) fun _ h=>lZ.bind (axx h.1) fun _ _=>lZ.pure ⟨h.1,.to h.2⟩
theorem aMS:∀(m:Nat)(v:Int)(p:kZ)(x:Syntax),0<=v->200<=v+m->Z.At d 0 p->Gd x->
 l1 (fun n q=>Bo (lc n) n q v p x) (Z.V d 0 Gd):=by
 intro m;induction m using kr with
 |ind m ih=>
  intro v p x hv hm h hx;refine l1.lp (fun n m=>by simp only[acS,Ep,mc,JT];exact rfl) ?_;refine l1.nK (aoK h _) fun _ _=>l1.rQ (fun _=>?_) fun _=>l1.nK (aoK h _) fun _ _=>l1.rQ (fun _=>?_) fun _=>l1.pure ⟨h,hx⟩
  all_goals
   refine l1.pr (RU h _) fun a ha=>?_
   have:=ha.2;rw[qo (by omega) (by omega)];refine l1.nK (aPn ha.1) fun _ h=>l1.rQ (fun _=>?_) fun _=>?_
   all_goals exact l1.nK (axx h) fun _ _=>ih (m-1) (by omega) _ _ _ (by omega) (by omega) h (.one (by decide) hx)
theorem aMT(hb:Nt Z d tD):Nt Z d s7:=by
 intro p h;refine lZ.fn (fun n=>by simp only[ahH,Fy,mc,Ea];exact rfl) ?_;exact lZ.pr (hb p h) fun a ha=>lZ.Jh (F:=fun n q=>Bo (lc n) n q 0 _ _) (aMS 200 0 _ _ (by omega) (by omega) ha.1 ha.2)
theorem aOd(ht:Nt Z d s7):∀(m:Nat)(v:Int)(p:kZ)(x:Syntax),0<=v->200<=v+m->Z.At d 0 p->Gd x->
 l1 (fun n q=>Cb (lc n) n q v p x) (Z.V d 0 Gd):=by
 intro m;induction m using kr with
 |ind m ih=>
  intro v p x hv hm h hx;refine l1.lp (fun n m=>by simp only[aex,Fw,mc,JT];exact rfl) ?_;refine l1.nK (aAT h) fun y _=>l1.rQ (fun _=>l1.pr (RU h _) fun a ha=>l1.pr (ht _ ha.1) fun b hb=>?_) fun _=>l1.pure ⟨h,hx⟩
  have:=ha.2;rw[qo (by omega) (by omega)];exact ih (m-1) (by omega) _ _ _ (by omega) (by omega) hb.1 (.two hx hb.2)
theorem aOe(hb:Nt Z d s7):Nt Z d uF:=by
 intro p h;refine lZ.fn (fun n=>by simp only[aiT,GC,mc,Ea];exact rfl) ?_;exact lZ.pr (hb p h) fun a ha=>lZ.Jh (F:=fun n q=>Cb (lc n) n q 1 _ _) (aOd hb 200 1 _ _ (by omega) (by omega) ha.1 ha.2)
theorem aMU(hb:Nt Z d uF):Nt Z d s6:=by
 intro p h;refine lZ.fn (fun n=>by simp only[ahG,Fv,mc,Ea];exact rfl) ?_;exact lZ.bind (aFq h) fun _ _=>lZ.rQ (fun _=>lZ.bind (asW h) fun _ _=>lZ.bind (aPn h) fun _ h=>lZ.bind (axx h) fun _ _=>lZ.pure ⟨h,.zero (by decide)⟩) fun _=>lZ.pr (hb _ h) fun _ h=>lZ.pure h
theorem aOf{S:Type}{xs:List S}{k:Int}(h0:0<=k)(h1:decide (k<(xs.length:Int))=true):∃x,AU xs k=some x:=by
 obtain⟨q,rfl⟩:=Int.eq_ofNat_of_zero_le h0;exact⟨_,yA (by simpa using h1)⟩
theorem opL(hn:NpA Z)(hi:Nt Z d s6):∀(m:Nat)(l:List Syntax)(p:kZ),200<=m+l.length->l.length<=200->(∀x∈l,Gd x)->Z.At d 0 p->
 l1 (fun n q=>C1 (lc n) n q p l) (Z.V d 0 Gd):=by
 intro m;induction m using kr with
 |ind m ih=>
  intro l p hm hl hg h;refine l1.lp (fun n m=>by simp only[afZ,GB,mc,JT];exact rfl) ?_;refine l1.nK (aFq h) fun _ _=>l1.rQ (fun _=>?_) fun _=>l1.nK (aAT h) fun _ _=>l1.rQ (fun _=>?_) fun _=>?_
  rotate_left 2
  ·refine l1.of1 (lZ.pr (aO9 h _) fun a ha=>?_);rw[ha.1];have hl0:0<l.length:=by simpa using ha.2
   have i0:AU l 0=some l[0]:=yA (i:=0) hl0;rw[i0];have ht:p.Od=Z.tb:=by obtain⟨_,_,_,rfl⟩:=h;rfl
   rw[ht];refine lZ.rQ (fun _=>lZ.rQ (fun _=>lZ.pure ⟨h,hg _ (ko _)⟩) fun _=>?_) fun _=>?_
   all_goals
    refine lZ.bind (hn l hl hg) fun x hx=>lZ.rQ (fun _=>lZ.rQ (fun hk=>?_) fun _=>lZ.rQ (fun _=>?_) fun _=>lZ.pure ⟨h,hx.2⟩) fun _=>lZ.rQ (fun _=>?_) fun _=>lZ.pure ⟨h,hx.2⟩
    ·obtain⟨y,hy⟩:=aOf hx.1 hk;rw[hy];exact lZ.pure trivial
    all_goals exact lZ.pr (al1 h _ (P:=fun _=>False)) fun _ h=>h.elim
  all_goals
   refine l1.pr (RU h _) fun a ha=>l1.pr (hi _ ha.1) fun b hb=>?_
   have:=ha.2;rw[kR (by omega)];exact ih (m-1) (by omega) _ _ (by simp;omega) (by simp;omega) (by have:=hb.2;grind) hb.1
theorem opA(hn:NpA Z)(hi:Nt Z d s6):Nt Z d uB:=by
 intro p h;refine lZ.fn (fun n=>by simp only[akj,Je,mc,Ea];exact rfl) ?_;exact lZ.Jh (F:=fun n q=>C1 (lc n) n q _ _) (opL hn hi 200 [] _ (by simp) (by simp) (by simp) h)
end
section
variable {Z:Kx} {d:Int} {p:kZ}
theorem BdG.aOg{s:lH}{x:Syntax}(h:Gd x):BdG [{name:=s,t:=x}]:=by simpa [BdG] using h
theorem aIe(hex:Nt Z d mz)(sh:lH){l:List lH}(hl:l.length<=200)(h:Z.At d 0 p):
 lZ (fun n=>(qn n [58] p).bind fun x=>prc x (fun x=>(mz n x.fst.fst.fst).bind fun x=>prc x (fun x=>(qn n sh x.fst.fst.fst).bind fun x_1=>prc x_1 (fun x_2=>(L6 n l x.snd.fst).bind fun x=>some (PR.ok (((x_2.fst.fst.fst,()),()),x,())))
    fun y=>some (PR.pn (((y.fst.fst.fst,()),()),y.snd.fst,()))) fun y=>some (PR.pn (((y.fst.fst.fst,()),()),y.snd.fst,()))) fun y=>some (PR.pn (((y.fst.fst.fst,()),()),y.snd.fst,()))) (Z.V d 0 fun l=>l.length<=200/\BdG l):=
 lZ.pr (aOM h _) fun _ h=>lZ.pr (hex _ h) fun a ha=>lZ.pr (aOM ha.1 _) fun _ h=>lZ.bind (aFp l (by omega) ha.2) fun r hr=>lZ.pure ⟨h,by show r.length<=_;omega,hr.2⟩
theorem aIf(hex:Nt Z d mz)(op sh:lH):∀(m:Nat)(l:List lH)(p:kZ),200<=m+l.length->l.length<=200->Z.At d 0 p->
 l1 (fun n q=>CB (lc n) n q op sh p l) (Z.V d 0 fun l=>l.length<=200/\BdG l):=by
 intro m;induction m using kr with
 |ind m ih=>
  intro l p hm hl h;refine l1.lp (fun n m=>by simp only[aOU,CA,mc];exact rfl) ?_;refine l1.rQ (fun _=>l1.of1 (aIe hex sh hl h)) fun _=>l1.nK (aqN h) fun _ _=>l1.rQ (fun _=>l1.pr (RU h _) fun a ha=>l1.nK (aPn ha.1) fun x h=>?_) fun _=>l1.of1 (aIe hex sh hl h)
  have:=ha.2;rw[kR (by omega)];exact ih (m-1) (by omega) _ _ (by simp;omega) (by simp;omega) h
theorem aAU(hex:Nt Z d mz)(h:Z.At d 0 p)(op sh:lH):lZ (fun n=>sW n op sh p) (Z.V d 0 fun l=>l.length<=200/\BdG l):=by
 refine lZ.fn (fun n=>by simp only[aeF,Dv,mc];exact rfl) ?_;refine lZ.pr (aOM h _) fun _ h=>lZ.pr (ac8 h) fun a ha=>?_
 refine lZ.Jh (F:=fun n q=>HE (lc n) n q op sh _ _) ?_;refine l1.lp (fun n m=>by simp only[HE,FZ,mc];exact rfl) ?_;have h:=ha.1;exact l1.rQ (fun _=>l1.of1 (aIe hex sh (by simp) h)) fun _=>l1.nK (aqN h) fun _ _=>l1.rQ (fun _=>l1.pr (RU h _) fun a ha=>l1.nK (aPn ha.1) fun x h=>aIf hex op sh 200 _ _ (by omega) (by simp) h) fun _=>l1.of1 (aIe hex sh (by simp) h)
theorem aFu(hex:Nt Z d mz)(h:Z.At d 0 p)(x:Syntax)(s:lH){l:List lD}(hl:l.length<=200/\BdG l):lZ (fun n=>th n x l s p) (Z.V d 0 Gd):=by
 refine lZ.fn (fun n=>by simp only[acZ,CE,mc,Ea];exact rfl) ?_;exact lZ.pr (aOM h _) fun _ h=>lZ.pr (hex _ h) fun a ha=>lZ.bind (aAS (by omega) hl.2 ha.2) fun _ hx=>lZ.pure ⟨ha.1,hx⟩
theorem aOh(hex:Nt Z d mz)(f:Int):∀(m v:Nat)(l:List lD)(p:kZ),200<=v+m->v<=200->l.length<=200*v->BdG l->Z.At d 0 p->
 l1 (fun n q=>Ca (lc n) n q f (v:Int) p l) (Z.V d 0 Gd):=by
 intro m;induction m using kr with
 |ind m ih=>
  intro v l p hm hv hl hb h;refine l1.lp (fun n m=>by simp only[aev,Ft,mc,JT];exact rfl) ?_;refine l1.rQ (fun _=>?_) fun _=>l1.nK (aoK h _) fun _ _=>l1.rQ (fun _=>l1.of1 (lZ.pr (aOM h _) fun _ h=>lZ.pr (hex _ h) fun a ha=>lZ.bind (aAS (by omega) hb ha.2) fun _ hx=>lZ.pure ⟨ha.1,hx⟩)) fun _=>?_
  all_goals
   refine l1.pr (RU h _) fun a ha=>?_
   have:=ha.2;rw[mM (by omega)];refine l1.nK (aoK ha.1 _) fun _ _=>l1.rQ (fun _=>l1.pr (aAU hex ha.1 _ _) fun b uD=>?_) fun _=>l1.pr (ac8 ha.1) fun b uD=>l1.nK (aIN uD.1) fun c hc=>?_
   ·have h1:=uD.2.1;rw[kR (by omega)];exact ih (m-1) (by omega) _ _ _ (by omega) (by omega) (by simp;omega) (by have:=uD.2.2;grind [BdG]) uD.1
   ·rw[kR (by omega)];exact ih (m-1) (by omega) _ _ _ (by omega) (by omega) (by simp;omega) (by have:=hc.2;grind [BdG]) hc.1
theorem aOi(hex:Nt Z d mz)(h:Z.At d 0 p)(f:Int):lZ (fun n=>wi n f p) (Z.V d 0 Gd):=by
 refine lZ.fn (fun n=>by simp only[aiR,Gy,mc,Ea];exact rfl) ?_;exact lZ.bind (aPn h) fun _ h=>lZ.Jh (F:=fun n q=>Ca (lc n) n q f 0 _ []) (aOh hex f 200 0 [] _ (by omega) (by omega) (by simp) nofun h)
theorem aOj(hex:Nt Z d mz)(h:Z.At d 0 p)(f:Int):lZ (fun n=>wj n f p) (Z.V d 0 Gd):=by
 refine lZ.fn (fun n=>by simp only[aiS,GA,mc,Ea];exact rfl) ?_;refine lZ.bind (aPn h) fun _ h=>lZ.pr (ac8 h) fun _ h=>lZ.bind (aIN h.1) fun z hz=>lZ.bind (Eu hz.1 _) fun _ h=>lZ.rQ (fun _=>lZ.pr (hex _ h) fun a ha=>lZ.pr (aOM ha.1 _) fun _ h=>?_) fun _=>lZ.pr (aOM h _) fun _ h=>?_
 all_goals exact lZ.pr (hex _ h) fun b hb=>lZ.pr (aOM hb.1 _) fun _ h=>lZ.pr (hex _ h) fun c hc=>lZ.pure ⟨hc.1,.three (by first|exact ha.2|exact hz.2) hb.2 hc.2⟩
theorem aKD(hex:Nt Z d mz)(ho:Nt Z d uB)(h:Z.At d 0 p)(f:Int):lZ (fun n=>ut n f p) (Z.V d 0 Gd):=by
 refine lZ.fn (fun n=>by simp only[af6,Eo,mc,Ea];exact rfl) ?_;obtain⟨k,hk,e⟩:∃k:Nat,k<Z.T.length/\p.vP.next=k:=by obtain⟨j,_,hj,rfl⟩:=h;exact⟨j,hj,rfl⟩
 rw[e];refine lZ.pr (ho p h) fun a ha=>lZ.bind (Eu ha.1 _) fun _ h=>lZ.rQ (fun _=>lZ.bind (aFs h hk) fun w hw=>?_) fun _=>lZ.pure ⟨h,ha.2⟩
 refine lZ.rQ (fun h13=>lZ.rQ (fun _=>lZ.rQ (fun _=>?_) fun _=>?_) fun _=>?_) fun _=>?_
 ·obtain⟨h1,hg⟩:=ha.2.WG (eq_of_beq h13);refine lZ.Nu (xs:=a.snd.fst.mR) (i:=1) h1 (lZ.bind (aFp _ hw.2 hg) fun r hr=>lZ.pr (hex _ hw.1) fun b hb=>lZ.bind (aAS (by have:=hr.1;have:=hw.2;omega) hr.2 hb.2) fun _ hx=>lZ.pure ⟨hb.1,hx⟩)
 all_goals exact lZ.pr (hex _ hw.1) fun b hb=>lZ.bind (aAS (by simp) (.aOg ha.2) hb.2) fun _ hx=>lZ.pure ⟨hb.1,hx⟩
theorem up(h:Z.At d 0 p)(hd:0<=d/\d<200):Z.At (d+1) 0 {vP:=p.vP,Od:=p.Od,C5:=p.C5,depth:=IntKind.i64.wrap (p.depth+1)}:=by
 obtain⟨j,hij,hj,rfl⟩:=h;refine⟨j,hij,hj,?_⟩;show({vP:=_,Od:=_,C5:=_,depth:=IntKind.i64.wrap (d+1)}:kZ)=_;rw[qo (by omega) (by omega)];rfl
theorem dn(h:Z.At (d+1) 0 p)(hd:0<=d/\d<200):Z.At d 0 {vP:=p.vP,Od:=p.Od,C5:=p.C5,depth:=IntKind.i64.wrap (p.depth-1)}:=by
 obtain⟨j,hij,hj,rfl⟩:=h;refine⟨j,hij,hj,?_⟩;show({vP:=_,Od:=_,C5:=_,depth:=IntKind.i64.wrap (d+1-1)}:kZ)=_;rw[qo (by omega) (by omega),show d+1-1=d by omega];rfl
theorem qrE(p:kZ):lZ (fun n=>ux n p) (· =(((),({vP:=p.vP,Od:=p.Od,C5:=p.C5,depth:=IntKind.i64.wrap (p.depth-1)},()),()),())):=by
 refine lZ.fn (fun n=>by simp only[ux,l6,EG,mB];exact rfl) ?_;exact lZ.pure rfl
theorem qrT(p:kZ):lZ (fun n=>xw n p) (· =(((),({vP:=p.vP,Od:=p.Od,C5:=p.C5,depth:=IntKind.i64.wrap (p.depth-1)},()),()),())):=by
 refine lZ.fn (fun n=>by simp only[xw,l6,Da,mB];exact rfl) ?_;exact lZ.pure rfl
theorem aAV(hd:0<=d/\d<200){F:Nat->Option (PR (((kZ×Unit)×Unit)×(Syntax×Unit)) (((kZ×Unit)×Unit)×(lF×Unit)))}(hF:lZ F (Z.V (d+1) 0 Gd)):
 lZ (fun n=>(F n).bind fun x=>prc x (fun x=>(ux n x.fst.fst.fst).bind fun x_3=>some (PR.ok (((x_3.fst.snd.fst.fst,()),()),x.snd.fst,()))) fun y=>(ux n y.fst.fst.fst).bind fun x=>some (PR.pn (((x.fst.snd.fst.fst,()),()),y.snd.fst,()))) (Z.V d 0 Gd):=
 lZ.pr hF (fun a ha=>lZ.bind (qrE _) fun x e=>lZ.pure ⟨by rw[e];exact dn ha.1 hd,ha.2⟩) fun b=>lZ.bind (qrE _) fun _ _=>lZ.pure trivial
theorem aMV(hd:0<=d/\d<200)(hex:Nt Z (d+1) mz)(ho:Nt Z (d+1) uB):Nt Z d mz:=by
 intro p h;refine lZ.fn (fun n=>by simp only[UY,B9,mc,Ea];exact rfl) ?_;refine lZ.pr (RU h _) fun a ha=>?_
 have h:=up ha.1 hd;refine lZ.bind (asW h) fun _ _=>lZ.bind (isA h _ _) fun _ _=>lZ.rQ (fun _=>aAV hd (aOi hex h _)) fun _=>lZ.bind (isA h _ _) fun _ _=>lZ.rQ (fun _=>aAV hd (aOj hex h _)) fun _=>lZ.bind (isA h _ _) fun _ _=>lZ.rQ (fun _=>lZ.bind (aPn h) fun _ h=>?_) fun _=>lZ.bind (aoK h _) fun _ _=>lZ.rQ (fun _=>?_) fun _=>lZ.bind (aoK h _) fun _ _=>lZ.rQ (fun _=>?_) fun _=>aAV hd (aKD hex ho h _)
 all_goals exact lZ.pr (aAU hex h _ _) (fun b hb=>aAV hd (aFu hex hb.1 _ _ hb.2)) fun b=>lZ.bind (qrE _) fun _ _=>lZ.pure trivial
theorem aMW(w:lH)(f:Int):∀(m:Nat)(l:List lH)(p:kZ),200<=m+l.length->l.length<=200->Z.At d 0 p->
 l1 (fun n q=>AA (lc n) n q p 15 w 0 [] [] f 0 l) (Z.aO2 d):=by
 intro m;induction m using kr with
 |ind m ih=>
  intro l p hm hl h;refine l1.lp (fun n m=>by simp only[abe,Dx,mc,JT];exact rfl) ?_;refine l1.nK (aqM h) fun _ _=>l1.rQ (fun _=>l1.pr (RU h _) fun a ha=>l1.nK (P:=fun x=>∃s q,Z.At d 0 q/\x=(((q,()),()),s,())) ?_ fun x ⟨s,q,hq,e⟩=>?_) fun _=>l1.pure ⟨h,.nol (by decide) (by omega) (by simp) (by simp)⟩
  ·refine lZ.fn (fun n=>by simp only[aOF,l6,Hj,mC];exact rfl) ?_;obtain⟨j,hij,hj,e⟩:=ha.1;rw[e];have hl:=Z.len;have e:IntKind.i64.wrap ((Z.st j d).vP.next+1)=((j+1:Nat):Int):=mM (by omega);rw[e];refine lZ.bind (azQ hj) fun t _=>lZ.rQ (fun hh=>lZ.pure ⟨_,Z.st (j+1) d,.of ?_ (by omega),rfl⟩) fun _=>lZ.pure ⟨_,Z.st j d,.of hj hij,rfl⟩
   have hh:decide (((j+1:Nat):Int)<(Z.T.length:Int))=true:=hh
   grind
  ·have:=ha.2;subst e;rw[kR (by omega)];exact ih (m-1) (by omega) _ _ (by simp;omega) (by simp;omega) hq
theorem aKE(hex:Nt Z d mz)(hta:Nt Z d nF)(h:Z.At d 0 p)(w:lH)(f:Int):lZ (fun n=>uu n p (.mk 15 w 0 [] [] [] f 0)) (Z.aO2 d):=by
 refine lZ.fn (fun n=>by simp only[af9,Et,mc,Ea];exact rfl) ?_;simp only[Syntax.WN]
 repeat' (refine lZ.rQ (fun _=>?_) fun _=>?_)
 all_goals first
  |refine lZ.bind (aPn h) fun _ h=>?_
  |exact lZ.pr (al1 h _ (P:=fun _=>False)) fun _ h=>h.elim
 all_goals first
  |exact lZ.pure ⟨h,.zero (by decide)⟩
  |exact lZ.pr (hex _ h) fun a ha=>lZ.pure ⟨ha.1,.one (by decide) ha.2⟩
  |exact lZ.pr (hta _ h) fun a ha=>lZ.pure ⟨ha.1,.one (by decide) ha.2⟩
  |exact lZ.pr (aKx h) fun a ha=>lZ.pure ⟨ha.1,.nol (by decide) (by simp) (by simp) (by simp)⟩
  |exact lZ.pr (ac8 h) fun a ha=>lZ.pure ⟨ha.1,.nol (by decide) (by simp) (by simp) (by simp)⟩
  |exact lZ.pr (azR h) fun a ha=>lZ.pure ⟨ha.1,.nol (by decide) (by have:=ha.2;omega) (by simp) (by simp)⟩
  |exact lZ.pr (aFt hta h _ _) fun a ha=>lZ.pure ha
  |exact lZ.pr (aIM h) fun a ha=>lZ.Jh (F:=fun n q=>AA (lc n) n q _ 15 w 0 [] [] f 0 _) (aMW w f 200 _ _ (by omega) (by simp) ha.1)
theorem aIg(hd:0<=d/\d<200)(hex:Nt Z (d+1) mz)(hta:Nt Z (d+1) nF):Nt Z d nF:=by
 intro p h;refine lZ.fn (fun n=>by simp only[QM,Az,mc,Ea];exact rfl) ?_;refine lZ.pr (RU h _) fun a ha=>?_
 have h:=up ha.1 hd;refine lZ.bind (aqM h) fun _ _=>lZ.bind (asW h) fun _ _=>lZ.bind (aoK h _) fun _ _=>lZ.rQ (fun _=>lZ.pr (aFt hta h _ _) (fun b hb=>?_) ?_) fun _=>lZ.bind (aqM h) fun _ _=>lZ.pr (aO9 h _) (fun c hc=>lZ.pr (aKE hex hta (hc.1 ▸ h) _ _) (fun b hb=>?_) ?_) ?_
 all_goals first
  |exact lZ.bind (axx hb.1) fun _ _=>lZ.bind (qrT _) fun x e=>lZ.pure ⟨by rw[e];exact dn hb.1 hd,.to hb.2⟩
  |exact fun b=>lZ.bind (qrT _) fun _ _=>lZ.pure trivial
theorem aFv(hn:NpA Z):∀(m:Nat)(d:Int),200<=d+m->0<=d->Nt Z d mz/\Nt Z d nF
 |0,d,hd,_=>by
  constructor
  all_goals
   intro p h;have e:p.depth=d:=by obtain⟨_,_,_,rfl⟩:=h;rfl
  ·refine lZ.fn (fun n=>by simp only[UY,B9,mc,Ea];exact rfl) ?_;exact lZ.pr (RU h _) fun a ha=>absurd ha.2 (by omega)
  ·refine lZ.fn (fun n=>by simp only[QM,Az,mc,Ea];exact rfl) ?_;exact lZ.pr (RU h _) fun a ha=>absurd ha.2 (by omega)
 |m+1,d,hd,h0=>by
  by_cases h2:d<200
  ·obtain⟨h1,h3⟩:=aFv hn m (d+1) (by omega) (by omega);exact⟨aMV ⟨h0,h2⟩ h1 (opA hn (aMU (aOe (aMT (aKC h1 h3))))),aIg ⟨h0,h2⟩ h1 h3⟩
  ·exact aFv hn 0 d (by omega) h0
end
def auD(out:List lH)(s:lH):List lH:=bif s==[]||out.contains s then out else out++[s]
def ah0(out:List lH)(ps:List lH):List lH:=ps.foldl auD out
def Z5(out:List lH)(T:List k7):List lH:=T.foldl (fun out n=>ah0 out n.parts) out
def ah1(T:List k7):Nat:=(T.map fun n=>n.parts.length).sum
theorem am3:∀(ps:List lH)(out:List lH),(ah0 out ps).length<=out.length+ps.length
 |[],out=>kx _
 |s::ps,out=>by
  have h1:=am3 ps (auD out s)
  grind [ah0,auD]
theorem ah2(n:k7)(T:List k7):ah1 (n::T)=n.parts.length+ah1 T:=by grind [ah1]
def Met(m:List (lH×Bool))(out:List lH):Prop:=∀s,(qw s m).getD false=(s==[]||out.contains s)
theorem Met.ins{m:List (lH×Bool)}(h:Met m out){s:lH}(hs:(qw s m).getD false=false):Met (ET s true m) (out++[s]):=by
 intro t;rw[N1,kK,List.any_append,<-kK,List.any_cons,List.any_nil,Bool.or_false];cases hts:t==s with
 |true=>simp
 |false=>rw[kQ,h t,Bool.or_false]
theorem aIh(f:Nat)(X:List k7->Int->Int->List (lH×Bool)->List lH->Option (List lH))(T:List k7)(tl:Int)(i:Nat)(parts:List lH)(hl:parts.length<=1048640)(hi:i<=1048641)(R:Option (List lH)):
 ∀d j:Nat,∀(m:List (lH×Bool))(out:List lH),j+d=parts.length->out.length+d<=4000000->Met m out->(∀m',Met m' (ah0 out (parts.drop j))->X T tl ((i+1:Nat):Int) m' (ah0 out (parts.drop j))=R)->∀k,d<k->
  Gk f X k T tl (i:Int) parts (parts.length:Int) (j:Int) m out=R:=by
 intro d;induction d with
 |zero=>
  intro j m out hj ho hm hX k hk;obtain⟨k,rfl⟩:∃k',k=k'+1:=⟨k-1,by omega⟩;simp only[Rb,CP,mB];rw[kS (show ¬ (j:Int)<(parts.length:Int) by omega),kQ,mM (by omega)];rw[kM (by omega)]at hX;exact hX m hm
 |succ d ih=>
  intro j m out hj ho hm hX k hk;obtain⟨k,rfl⟩:∃k',k=k'+1:=⟨k-1,by omega⟩;have hjl:j<parts.length:=by omega
  simp only[Rb,CP,yA hjl,kp,mB];rw[kR (show(j:Int)<(parts.length:Int) by omega),kP,mM (by omega)];rw[kF hjl]at hX;have hX:∀m',Met m' (ah0 (auD out parts[j]) (parts.drop (j+1)))->X T tl ((i+1:Nat):Int) m' (ah0 (auD out parts[j]) (parts.drop (j+1)))=R:=hX;unfold auD at hX;rw[hm];cases hq:parts[j]==[]||out.contains parts[j]with
  |true=>
   rw[hq]at hX;rw[kP];exact ih (j+1) m out (by omega) (by omega) hm hX k (by omega)
  |false=>
   rw[hq]at hX;rw[kQ,kR (show(out.length+1)*16<=17592186044416 by omega),kP];exact ih (j+1) _ _ (by omega) (by grind) (hm.ins (by rw[hm];exact hq)) hX k (by omega)
theorem aFw(T:List k7)(hT:T.length<=cap)(hN:∀n∈T,Nsm n)(hp:ah1 T<=cap):Ev (fun f=>Bu f T) (Z5 [] T):=by
 simp only[cap]at hT hp;refine Ev.fn (fun n=>by simp only[Bu,l6,NO,mB];exact rfl) ?_
 have key:∀(d i:Nat)(out:List lH),i+d=T.length->out.length+ah1 (T.drop i)<=2000000->∃N,∀f m,N<=f->N<=m->∀mt,Met mt out->Gl f m T (T.length:Int) (i:Int) mt out=some (Z5 out (T.drop i)):=by
  intro d;induction d with
  |zero=>
   intro i out hi ho;refine⟨1,fun f m hf hm mt hmt=>?_⟩;obtain⟨m,rfl⟩:∃m',m=m'+1:=⟨m-1,by omega⟩;simp only[Rc,CQ];rw[kS (show ¬ (i:Int)<(T.length:Int) by omega),kQ,kM (by omega)];rfl
  |succ d ih=>
   intro i out hi ho;have q9:i<T.length:=by omega
   have hs:=(hN _ (ko q9)).len;simp only[cap]at hs;rw[kF q9,ah2]at ho;have hlen:=am3 T[i].parts out;obtain⟨N,hN'⟩:=ih (i+1) (ah0 out T[i].parts) (by omega) (by omega);refine⟨max (N+1) 6000000,fun f m hf hm mt hmt=>?_⟩;obtain⟨m,rfl⟩:∃m',m=m'+1:=⟨m-1,by omega⟩;simp only[Rc,CQ,yA q9,kp];rw[kR (show(i:Int)<(T.length:Int) by omega),kP,kF q9];refine aIh f _ T _ i T[i].parts hs (by omega) _ T[i].parts.length 0 mt out (by omega) (by omega) hmt (fun m' hm'=>?_) f (by omega);rw[kO]at hm' ⊢;exact hN' f m (by omega) (by omega) m' hm'
 obtain⟨N,hN'⟩:=key T.length 0 [] (by omega) (by grind);rw[kO]at hN';refine⟨N,fun n hn=>hN' n n hn hn _ fun s=>?_⟩;rw[N1];cases s==[]<;>rfl
theorem asY:∀(T:List k7)(out:List lH),(Z5 out T).length<=out.length+ah1 T
 |[],out=>kx _
 |n::T,out=>by
  have h1:=asY T (ah0 out n.parts)
  grind [am3,Z5,ah2]
theorem aFx{s x:lH}(h:x∈auD out s):x∈out\/(x=s/\s≠[]):=by
 grind [auD]
theorem asZ:∀{ps out:List lH}{x:lH},x∈ah0 out ps->x∈out\/(x∈ps/\x≠[])
 |[],out,x,h=>.inl h
 |s::ps,out,x,h=>by
  rcases asZ (ps:=ps) (out:=auD out s) h with h|⟨h,h2⟩
  all_goals grind [aFx]
theorem as0:∀{T:List k7}{out:List lH}{x:lH},x∈Z5 out T->x∈out\/∃n∈T,x∈n.parts/\x≠[]
 |[],out,x,h=>.inl h
 |n::T,out,x,h=>by
  rcases as0 (T:=T) (out:=ah0 out n.parts) h with h|⟨m,hm,h⟩
  all_goals grind [asZ]
structure aOk(T:List k7):Prop where
 len:T.length<=9
 small:∀n∈T,n.parts.length<=16
 tab:VQ T=true
structure aFy(T:List k7):Prop where
 few:aOk T
 nsm:∀n∈T,Nsm n
def cIn:Cmd->List Syntax
 |.parts _ _ _ lR _ r=>lR++r
 |.first _ r=>r
 |.tW _ r=>r
 |.loop _ out _ r=>out::r
def aKF:Out->List Syntax
 |.bad r=>r
 |.val x _ r=>x::r
 |.lR l _ r=>l++r
theorem axB{f t:Int}:∀(l:List Syntax)(o:Syntax),Gd o->(∀x∈l,Gd x)->Gd (aAF o l f t)
 |[],o,h,_=>h
 |x::l,o,h,hl=>axB l (aMz o x f t) (.two h (hl x (by simp))) fun y hy=>hl y (by simp [hy])
theorem aCF{n:k7}{f t:Int}(h:∀x∈l,Gd x):Gd (aqy n l f t):=axB l _ (.zero (by decide)) h
theorem Yx.gd{T:List k7}{c:Cmd}{o:Out}(h:Yx T c o):(∀x∈cIn c,Gd x)->∀x∈aKF o,Gd x:=by
 induction h
 all_goals
  intro hx
  grind [cIn,aKF,aCF]
namespace aFy
variable {T:List k7} (g:aFy T)
include g
theorem aMX:T.length<=cap:=by have:=g.few.len;simp [cap];omega
theorem ok:TOk T:=TOk.of g.few.tab
theorem as1:ah1 T<=144:=by
 have:∀aOG:List k7,(∀n∈aOG,n.parts.length<=16)->ah1 aOG<=16*aOG.length:=by
  intro aOG;induction aOG with
  |nil=>intro _;exact kx _
  |cons n aOG ih=>grind [ah2]
 have:=this T fun n hn=>g.few.small n hn
 have:=g.few.len;omega
theorem aqP:(Z5 [] T).length<=144:=by
 have h1:=asY T [];have:=g.as1;rw[kJ]at h1;omega
theorem aAW:Ev (fun f=>Bu f T) (Z5 [] T):=by
 have:=g.as1;exact aFw T g.aMX g.nsm (by simp [cap];omega)
theorem aIi{s:lH}(hs:s.length<=65536):Ev (fun n=>Yc n s (Z5 [] T)) (asS (Z5 [] T) s):=
 aH4 s (by simp [sml];omega) _ (by have:=g.aqP;omega) fun y hy=>by
  rcases as0 hy with h|⟨n,hn,h1,_⟩
  ·cases h
  ·exact aE2 ((g.nsm n hn).aKk y h1)
theorem npA(l:List Syntax)(hl:l.length<=200)(h:∀x∈l,Gd x):lZ (fun n=>HA n T l) fun x=>0<=x.snd.fst/\Gd x.fst:=by
 obtain⟨o,ho,_⟩:=Yx.aAH g.ok l.length 0 l (kx _);refine(azL g.aMX g.nsm (by simp [cap];omega) g.few.tab (by omega) ho).tot ?_;have hg:=ho.gd h;rcases aoW ho rfl with⟨q,rfl⟩|⟨x,hh,q,rfl⟩
 ·exact⟨kA _,.zero (by decide)⟩
 ·cases q with
  |nil=>exact⟨kL _,hg x (by simp [aKF])⟩
  |cons y q=>exact⟨kA _,.zero (by decide)⟩
end aFy
theorem aMY{T:List k7}(g:aFy T){s:lH}(hs:s.length<=65536):lZ (fun n=>ZZ n s T) Yy:=by
 refine lZ.fn (fun n=>by simp only[ZZ,l6,abi,JT];exact rfl) ?_
 have qp:∀(x:lF)(z:Syntax),lZ (fun n=>(DG n x z 0 0).bind fun x=>some (x.fst.fst.fst,x.fst.snd.fst.fst,x.fst.snd.snd.fst.fst)) Yy:=by
  intro x z;refine lZ.bind (P:=Yy) ?_ fun _ _=>lZ.pure trivial
  refine lZ.fn (fun n=>by simp only[DG,l6,NS,mB];exact rfl) ?_;refine lZ.bind (P:=Yy) ?_ fun _ _=>lZ.pure trivial
  refine lZ.fn (fun n=>by simp only[aau,l6,Vq,mC];exact rfl) ?_;exact lZ.pure trivial
 refine lZ.rQ (fun _=>lZ.pure trivial) fun _=>lZ.pr (P:=fun a=>∃Z:Kx,NpA Z/\Z.At 0 0 a.fst.fst.fst) ?_ (fun a ⟨Z,hn,h⟩=>lZ.pr ((aFv hn 200 0 (by omega) (by omega)).1 _ h) (fun b hb=>lZ.pr (aIc hb.1) (fun _ _=>lZ.bind (P:=Yy) ?_ fun _ _=>lZ.pure trivial) fun _=>qp _ _) fun _=>qp _ _) fun _=>qp _ _
 ·refine lZ.fn (fun n=>by simp only[Sq,l6,NY,Ea];exact rfl) ?_;refine lZ.bind (g.aAW.tot (Q:=(· =Z5 [] T)) rfl) fun w e=>?_
  subst e;refine lZ.pr (P:=fun a=>∃l,Kok s.length l/\a.snd.fst={K4:=l,next:=0,base:=0}) ?_ fun a ⟨l,hl,e⟩=>lZ.pure ⟨{T:=l,b:=0,tb:=T,sy:=Z5 [] T,k:=s.length,ok:=⟨by omega,hl⟩,sm:=g.aqP},g.npA,⟨0,kx _,hl.pos,by show({vP:=a.snd.fst,Od:=_,C5:=_,depth:=_}:kZ)=_;rw[e];rfl⟩⟩
  refine lZ.fn (fun n=>by simp only[Sp,l6,NW,Ea];exact rfl) ?_;have e1:decide ((0:Int)<=0/\(0:Int)<=(s.length:Int)/\(s.length:Int)<=(s.length:Int))=true:=kR ⟨kL _,kA _,kL _⟩;simp only[e1,kP,kD,kB,Int.toNat_zero,kO];refine lZ.bind ((g.aIi hs).tot (Q:=(· =asS (Z5 [] T) s)) rfl) fun w e=>lZ.rQ (fun _=>lZ.pure trivial) fun h=>lZ.pure ⟨w.fst,?_,rfl⟩
  subst e;exact aH9 (by simpa using h)
 ·refine lZ.fn (fun n=>by simp only[G6,l6,NP,mB];exact rfl) ?_;exact lZ.pure trivial
theorem aCG(xs:List k7)(h:xs.length<=cap+1):Ev (fun n=>G3 n xs) ((xs,()),()):=by
 simp only[cap]at h;refine⟨1,fun n hn=>?_⟩;obtain⟨k,rfl⟩:∃k,n=k+1:=⟨n-1,by omega⟩;cases xs with
 |nil=>rfl
 |cons x xs=>
  rw[kE]at h;show(bif decide ((xs.length+1)*56<=17592186044416)then some ((x::xs,()),())else none)=_;rw[kR (by omega)];rfl
theorem aCH(xs:List lH)(h:xs.length<=cap+1):Ev (fun n=>A9 n xs) ((xs,()),()):=by
 simp only[cap]at h;refine⟨1,fun n hn=>?_⟩;obtain⟨k,rfl⟩:∃k,n=k+1:=⟨n-1,by omega⟩;cases xs with
 |nil=>rfl
 |cons x xs=>
  rw[kE]at h;show(bif decide ((xs.length+1)*16<=17592186044416)then some ((x::xs,()),())else none)=_;rw[kR (by omega)];rfl
def aIj(T:List k7)(n:k7):List k7×Int:=bif VQ T then(bif ac5 T n==0 then(T++[n],0)else([],ac5 T n))else([],3)
theorem aIk{T:List k7}{n:k7}(hT:T.length<=cap)(hN:∀n∈T,Nsm n)(hn:Nsm n):Ev (fun f=>Qr f T n) (aIj T n):=by
 obtain⟨ri,hri,evi⟩:=am0 hT hN;have hT':=hT;simp only[cap]at hT';have r2:decide ((T.length+1)*56<=17592186044416)=true:=kR (by omega);unfold aIj;rcases hri with⟨ht,sz,B,C,I,rfl,X⟩|⟨ht,rfl⟩
 ·have g:=TOk.of ht;obtain⟨r,hr,evr⟩:=aAK g X hn;rw[ht];simp only[kP];refine Ev.fn (fun n=>by simp only[Qr,l6,Qq,JT];exact rfl) ?_;refine Ev.bind evi ?_;simp only[prc];refine Ev.bind evr ?_;rw[hr.1,bne];cases ac5 T n==0 with
  |false=>exact Ev.pure
  |true=>
   simp only[Bool.not_true,kQ,kP];refine Ev.bind (aCH _ (by have:=hn.len;omega)) (Ev.bind (aCG T (by omega)) ?_);rw[r2];exact Ev.pure
 ·rw[ht];refine Ev.fn (fun n=>by simp only[Qr,l6,Qq,JT];exact rfl) ?_;exact Ev.bind evi Ev.pure
section voc
variable {w:List lH}
abbrev VE(w:List lH)(x:Syntax):Prop:=TI (fun(i:IX x) n=>pG n w i.1) (fun r=>r=0->aO2 false x)
abbrev VT(w:List lH)(x:Syntax):Prop:=TI (fun(i:IX x) n=>q8 n w i.1) (fun r=>r=0->aO2 true x)
theorem axC(h:∀y∈xs,VE w y)(hl:xs.length<=2097152):TI (fun(i:IL xs) n=>mQ n i.1 w) (fun r=>r=0->∀y∈xs,aO2 false y):=by
 refine TI.fn (fun i n=>by simp only[HV,sF,pF,mB];exact rfl) ?_;simp only[IL.len];refine TI.Jh (F:=fun(i:IL xs) n m=>qC (lJ n) n m w i.1 xs.length 0) ?_;refine If.up (S:=Unit) (L:=fun(i:IL xs) n m k _=>qC (lJ n) n m w i.1 xs.length k) xs.length (fun k _=>∀y∈xs.take k,aO2 false y) _ ?_ ?_ 0 () (by omega) (fun y hy=>by simp at hy)
 ·intro k u hi hI next
  refine If.lp (fun i n m=>by simp only[yf,qB,pF,mB];exact rfl) ?_;simp only[hi,kv,decide_true,kP,IL.Nu _ hi,kp];refine If.nK (TI.uV (fun i:IL xs=>i.WG k hi) (h _ (ko hi))) fun r hr=>?_
  rw[mM (by omega)];refine If.rQ (fun hc=>If.pure fun h0=>by rw[h0]at hc;cases hc) fun hc=>next u fun y hy=>?_
  rw[ku hi]at hy;rcases kI.1 hy with hy|hy
  ·exact hI y hy
  ·rw[kG]at hy;subst hy;exact hr (by simpa [bne] using hc)
 ·intro u hI;refine If.lp (fun i n m=>by simp only[yf,qB,pF,mB];exact rfl) ?_;simp only[kq,decide_false,kQ];rw[kB]at hI;exact If.pure fun _=>hI
theorem aqQ(h:∀y∈xs,VT w y)(hl:xs.length<=2097152):TI (fun(i:IL xs) n=>nk n i.1 w) (fun r=>r=0->∀y∈xs,aO2 true y):=by
 refine TI.fn (fun i n=>by simp only[KP,tI,pF,mB];exact rfl) ?_;simp only[IL.len];refine TI.Jh (F:=fun(i:IL xs) n m=>rz (lJ n) n m w i.1 xs.length 0) ?_;refine If.up (S:=Unit) (L:=fun(i:IL xs) n m k _=>rz (lJ n) n m w i.1 xs.length k) xs.length (fun k _=>∀y∈xs.take k,aO2 true y) _ ?_ ?_ 0 () (by omega) (fun y hy=>by simp at hy)
 ·intro k u hi hI next
  refine If.lp (fun i n m=>by simp only[AB,rq,pF,mB];exact rfl) ?_;simp only[hi,kv,decide_true,kP,IL.Nu _ hi,kp];refine If.nK (TI.uV (fun i:IL xs=>i.WG k hi) (h _ (ko hi))) fun r hr=>?_
  rw[mM (by omega)];refine If.rQ (fun hc=>If.pure fun h0=>by rw[h0]at hc;cases hc) fun hc=>next u fun y hy=>?_
  rw[ku hi]at hy;rcases kI.1 hy with hy|hy
  ·exact hI y hy
  ·rw[kG]at hy;subst hy;exact hr (by simpa [bne] using hc)
 ·intro u hI;refine If.lp (fun i n m=>by simp only[AB,rq,pF,mB];exact rfl) ?_;simp only[kq,decide_false,kQ];rw[kB]at hI;exact If.pure fun _=>hI
theorem al2{x:Syntax}(h:x.rI<=1048576):x.mR.length<=1048576/\x.mK.length<=1048576/\x.text.length<=1048576/\x.mZ.length<=1048576/\(∀l∈x.mK,l.rI<=1048576)/\∀s∈x.mZ,s.length<=1048576:=by
 rw[Syntax.VR]at h;have h1:=FD (bk:=Syntax.rI) (fun y=>by rw[Syntax.VR];omega) x.mR;have h2:=FD (bk:=ld.rI) ld.aqF x.mK;have h3:=FD (bk:=fun s:lH=>s.length+1) (fun _=>Nat.le_add_left _ _) x.mZ;refine⟨by omega,by omega,by omega,by omega,fun l hl=>?_,fun s hs=>?_⟩
 ·have:=Nv (bk:=ld.rI) hl;omega
 ·have:=Nv (bk:=fun s:lH=>s.length+1) hs;omega
theorem auE(hw:w.length<=4194304){x:Syntax}(sm:x.rI<=1048576)(he:∀y∈x.mR,VE w y)(ht:∀y∈x.mR,VT w y):VE w x:=by
 obtain⟨k1,k2,k3,k4,k5,k6⟩:=al2 sm;refine TI.fn (fun i n=>by simp only[Q1,wH,pF,mB];exact rfl) ?_;refine TI.bind (aFm x) fun c hc=>?_
 refine TI.rQ (fun hc1=>?_) fun _=>TI.pure fun h=>by cases h
 have hf:=hc hc1;simp only[IX.kind,IX.mK,IX.text];refine TI.bind (TI.one (axv hw x.mK (by omega) fun l hl=>by have:=k5 l hl;omega)) fun v hv=>?_
 have tail:∀v:Int,(v=0->∀l∈x.mK,ahX l)->TI (fun(i:IX x) n=>bif v !=0 then some v else bif x.kind==14 then(nk n i.1.mR w).bind fun x=>some x else(mQ n i.1.mR w).bind fun x=>some x) (fun r=>r=0->aO2 false x):=fun v hv=>by
  refine TI.rQ (fun hc=>TI.pure fun h0=>by rw[h0]at hc;cases hc) fun hv0=>?_
  have hv0:v=0:=by simpa [bne] using hv0
  refine TI.rQ (fun h14=>?_) fun h14=>?_
  ·refine TI.bind (TI.uV (fun i:IX x=>i.ks) (aqQ ht (by omega))) fun r hr=>TI.pure fun h0=>?_
   exact .ex hf (hv hv0) (by rw[h14];exact hr h0)
  ·refine TI.bind (TI.uV (fun i:IX x=>i.ks) (axC he (by omega))) fun r hr=>TI.pure fun h0=>?_
   exact .ex hf (hv hv0) (by rw[h14];exact hr h0)
 have tv:=tail v fun h0=>hv.resolve_left (by omega)
 have t29:=tail 29 fun h0=>by cases h0
 repeat' first
  |exact tv
  |exact t29
  |refine TI.rQ (fun _=>?_) (fun _=>?_)
  |refine TI.bind (TI.one (abm hw x.text (by omega))) fun _ _=>?_
  |refine TI.bind (TI.one (ajE hw x.text (by omega))) fun _ _=>?_
  |refine TI.bind (P:=Yes) (TI.one ((ac7 x.kind).tot trivial)) fun _ _=>?_
end voc
theorem aqR{n:k7}:∀(r pre:List k7),ahU pre (r++[n])=(ahU pre r&&ac5 (pre++r) n==0)
 |[],pre=>by simp [ahU]
 |m::r,pre=>by
  rw[List.cons_append,ahU,ahU,aqR r (pre++[m]),List.append_assoc,List.singleton_append,Bool.and_assoc]
theorem axD{T:List k7}(hl:T.length<=cap)(hN:∀n∈T,Nsm n):lZ (fun n=>NF n T) (fun r=>r=true->VQ T=true):=by
 refine lZ.fn (fun n=>by simp only[NF,l6,Qt,mB];exact rfl) ?_;refine lZ.Jh (F:=fun n m=>D6 n m [] T T.length 0) ?_;refine l1.up (S:=List k7) (L:=fun n m i a=>D6 n m a T T.length i) T.length (fun i a=>a=T.take i/\VQ (T.take i)=true) _ ?_ ?_ 0 [] (by omega) ⟨rfl,rfl⟩
 ·intro i a hi hI next
  obtain⟨rfl,hI⟩:=hI;simp only[cap]at hl;refine l1.lp (fun n m=>by simp only[UP,D5,mB];exact rfl) ?_;simp only[hi,kv,decide_true,kP];refine l1.Nu hi ?_;rw[mM (by omega)];refine l1.nK ((aIk (T:=T.take i) (n:=T[i]) (by rw[List.length_take];simp only[cap];omega) (fun n hn=>hN n (List.mem_of_mem_take hn)) (hN _ (ko hi))).tot (Q:=(· =aIj (T.take i) T[i])) rfl) fun y hy=>?_
  subst hy;unfold aIj;rw[hI,kP];cases ha:ac5 (T.take i) T[i]==0 with
  |false=>
   simp only[kQ,bne,ha,Bool.not_false,kP];exact l1.pure fun h=>by cases h
  |true=>
   simp only[kP,bne_self_eq_false,kQ];refine next _ ⟨(ku hi).symm,?_⟩
   rw[ku hi];unfold VQ at hI ⊢;rw[aqR,hI,List.nil_append,ha];rfl
 ·intro a hI;obtain⟨rfl,hI⟩:=hI;refine l1.lp (fun n m=>by simp only[UP,D5,mB];exact rfl) ?_;simp only[kq,decide_false,kQ];rw[kB]at hI;exact l1.pure fun _=>hI
structure FOk(w:List lH)(s:lH)(f:lC):Prop where
 tac:f.adI=arL s
 h2:s=[60,124,62]->f.mR=2
 h1:s=[114,101,112,101,97,116]\/s=[97,108,108]->f.mR=1
 nm:∀y,f.name=some y->y.2=w/\(y.1=126\/y.1=128\/y.1=168)
theorem aFz(w:List lH)(s:lH):lZ (fun n=>Cn n w s) (fun r=>r.2=true->FOk w s r.1):=by
 refine lZ.fn (fun n=>by simp only[Cn,l6,EI,mB];exact rfl) ?_
 repeat' first
  |exact lZ.pure fun h=>by cases h
  |refine lZ.rQ (fun h=>lZ.pure fun _=>?_) fun _=>?_
 all_goals
  have e:=beq_iff_eq.1 h;subst e;refine⟨rfl,fun h=>?_,fun h=>?_,fun y h=>?_⟩
  ·first
    |rfl
    |exact absurd h (by decide)
  ·first
    |rfl
    |exact absurd h (by decide)
  ·first
    |(cases h;done)
    |(cases h;exact⟨rfl,.inl rfl⟩)
    |(cases h;exact⟨rfl,.inr (.inl rfl)⟩)
    |(cases h;exact⟨rfl,.inr (.inr rfl)⟩)
section voc
variable {w:List lH} (hw:w.length<=4194304)
include hw
theorem aFA(s:lH)(hs:s.length<=4194304)(f:lC){y:Nat×List lH}(hf:f.name=some y)(hy:y.2=w/\(y.1=126\/y.1=128\/y.1=168)):lZ (fun n=>zH n s f) (fun r=>r.1=(f,())):=by
 obtain⟨g,v⟩:=y;obtain⟨rfl,hg⟩:=hy;refine lZ.fn (fun n=>by simp only[zH,l6,B5];exact rfl) ?_;simp only[hf,kp];rcases hg with h|h|h<;>simp only at h<;>subst h
 ·exact lZ.bind (abm hw s hs) fun x _=>lZ.pure rfl
 ·exact lZ.bind (ajE hw s hs) fun x _=>lZ.pure rfl
 ·exact lZ.bind (akn hw s hs) fun x _=>lZ.pure rfl
theorem aMZ(l:List lH)(hl:l.length<=1048576)(hn:∀s∈l,s.length<=4194304)(f:lC){y:Nat×List lH}(hf:f.name=some y)(hy:y.2=w/\(y.1=126\/y.1=128\/y.1=168)):lZ (fun n=>qi n l f) (fun r=>r.1=((f,()),())):=by
 refine lZ.fn (fun n=>by simp only[qi,l6,rN,mC];exact rfl) ?_;refine lZ.bind (P:=fun r=>r.1=((f,()),())) ?_ fun x hx=>lZ.pure (by rw[hx])
 refine lZ.fn (fun n=>by simp only[sY,l6,sI,mC];exact rfl) ?_;refine lZ.Jh (F:=fun n m=>oW n m l l.length 0 f) ?_;refine l1.up (S:=Unit) (L:=fun n m i _=>oW n m l l.length i f) l.length (fun _ _=>True) _ ?_ ?_ 0 () (by omega) trivial
 ·intro i u hi _ next
  refine l1.lp (fun n m=>by simp only[uM,oV,mB];exact rfl) ?_;simp only[hi,kv,decide_true,kP];refine l1.Nu hi ?_;refine l1.nK (aFA hw _ (hn _ (ko hi)) f hf hy) fun x hx=>?_
  rw[mM (by omega),hx];exact l1.rQ (fun _=>l1.pure rfl) fun _=>next u trivial
 ·intro u _;refine l1.lp (fun n m=>by simp only[uM,oV,mB];exact rfl) ?_;simp only[kq,decide_false,kQ];exact l1.pure rfl
theorem aM0{x:Syntax}(sm:x.rI<=1048576)(he:∀y∈x.mR,VE w y)(ht:∀y∈x.mR,VT w y):VT w x:=by
 obtain⟨k1,k2,k3,k4,k5,k6⟩:=al2 sm
 have j1:∀f:lC,FOk w x.text f->((x.text=[60,124,62]->x.mR.length=2)/\(x.text=[114,101,112,101,97,116]\/x.text=[97,108,108]->x.mR.length=1))->TI (fun(i:IX x) n=>(yw (lJ n) n).val w i.1 f) (fun r=>r=0->aO2 true x):=fun f hf hk=>by
  simp only[yw,pF];refine TI.rQ (fun h=>?_) fun h=>?_
  ·refine TI.bind (TI.uV (fun i:IX x=>i.ks) (aqQ ht (by omega))) fun r hr=>TI.pure fun h0=>?_
   exact .ta hk.1 hk.2 (by rw[<-hf.tac,h];exact hr h0)
  ·refine TI.bind (TI.uV (fun i:IX x=>i.ks) (axC he (by omega))) fun r hr=>TI.pure fun h0=>?_
   exact .ta hk.1 hk.2 (by rw[<-hf.tac,h];exact hr h0)
 have j2:∀f:lC,FOk w x.text f->((x.text=[60,124,62]->x.mR.length=2)/\(x.text=[114,101,112,101,97,116]\/x.text=[97,108,108]->x.mR.length=1))->TI (fun(i:IX x) n=>(vB (lJ n) n).val w i.1 f) (fun r=>r=0->aO2 true x):=fun f hf hk=>by
  simp only[vB,IX.mZ];cases hn:f.name with
  |none=>simp only[Option.isSome_none,kQ];exact j1 f hf hk
  |some y=>
   simp only[Option.isSome_some,kP];refine TI.bind (TI.one (aMZ hw x.mZ (by omega) (fun s hs=>by have:=k6 s hs;omega) f hn (hf.nm y hn))) fun r hr=>?_
   rw[hr];exact TI.rQ (fun _=>TI.pure fun h=>by cases h) fun _=>j1 f hf hk
 have j3:∀f:lC,FOk w x.text f->((x.text=[60,124,62]->x.mR.length=2)/\(x.text=[114,101,112,101,97,116]\/x.text=[97,108,108]->x.mR.length=1))->TI (fun(i:IX x) n=>(yx (lJ n) n).val w i.1 f) (fun r=>r=0->aO2 true x):=fun f hf hk=>by
  simp only[yx,IX.text,IX.len]
  have last:0<x.mR.length->TI (fun(i:IX x) n=>(AU i.1.mR (IntKind.i64.wrap ((x.mR.length:Int)-1))).bind fun y=>(CS n y).bind fun c=>bif c then some 3 else(vB (lJ n) n).val w i.1 f) (fun r=>r=0->aO2 true x):=fun h0=>by
   rw[qo (by omega) (by omega),show(x.mR.length:Int)-1=((x.mR.length-1:Nat):Int)from by omega];have hl:x.mR.length-1<x.mR.length:=by omega
   simp only[IX.Nu _ hl,kp]
   have al:TI (fun(i:IX x.mR[x.mR.length-1]) n=>CS n i.1) Yes:=by
    refine TI.fn (fun i n=>by simp only[CS,l6,ay4,mB];exact rfl) ?_;simp only[IX.kind,IX.text]
    repeat' first
     |exact TI.pure trivial
     |refine TI.rQ (fun _=>?_) (fun _=>?_)
   exact TI.bind (TI.uV (fun i:IX x=>i.WG (x.mR.length-1) hl) al) fun c _=>TI.rQ (fun _=>TI.pure fun h=>by cases h) fun _=>j2 f hf hk
  refine TI.rQ (fun h=>last (by have:=hk.1 (beq_iff_eq.1 h);omega)) fun _=>TI.rQ (fun h=>last (by have:=hk.2 (.inl (beq_iff_eq.1 h));omega)) fun _=>TI.rQ (fun h=>last (by have:=hk.2 (.inr (beq_iff_eq.1 h));omega)) fun _=>j2 f hf hk
 have j4:∀(f:lC)(v1 v2 v3:Bool),(v1=true->FOk w x.text f)->(v1=true->v3=false->(x.text=[60,124,62]->x.mR.length=2)/\(x.text=[114,101,112,101,97,116]\/x.text=[97,108,108]->x.mR.length=1))->TI (fun(i:IX x) n=>(yy (lJ n) n).val w v1 v2 v3 i.1 f) (fun r=>r=0->aO2 true x):=fun f v1 v2 v3 hf hk=>by
  simp only[yy,IX.kind,IX.num,IX.mK];have no:∀{I:Type},TI (fun(_:I) _=>some (3:Int)) (fun r=>r=0->aO2 true x):=TI.pure fun h=>by cases h
  exact TI.rQ (fun _=>no) fun _=>TI.rQ (fun h1=>TI.rQ (fun _=>no) fun _=>TI.rQ (fun _=>no) fun _=>TI.rQ (fun _=>no) fun _=>TI.rQ (fun _=>no) fun h3=>j3 f (hf h1) (hk h1 h3)) fun _=>no
 have j5:∀(f:lC)(v1 v2:Bool),(v1=true->FOk w x.text f)->TI (fun(i:IX x) n=>(yz (lJ n) n).val w v1 v2 i.1 f) (fun r=>r=0->aO2 true x):=fun f v1 v2 hf=>by
  simp only[yz,IX.len];refine TI.rQ (fun h0=>TI.rQ (fun _=>j4 f v1 v2 true hf fun _ h=>by cases h) fun uP=>?_) fun h0=>?_
  ·have e:(x.mR.length:Int)=f.mR:=by simpa [bne] using uP
   exact j4 f v1 v2 _ hf fun h1 _=>⟨fun h=>by have:=(hf h1).h2 h;omega,fun h=>by have:=(hf h1).h1 h;omega⟩
  ·have h0:=of_decide_eq_false h0;exact j4 f v1 v2 _ hf fun h1 _=>⟨fun h=>by have:=(hf h1).h2 h;omega,fun h=>by have:=(hf h1).h1 h;omega⟩
 refine TI.fn (fun i n=>by simp only[aO8,zI,pF];exact rfl) ?_;simp only[IX.text,IX.mZ];refine TI.bind (TI.one (aFz w x.text)) fun r hr=>?_
 repeat' first
  |exact j5 _ _ _ hr
  |refine TI.rQ (fun _=>?_) (fun _=>?_)
theorem aIl:∀x:Syntax,x.rI<=1048576->VE w x/\VT w x:=by
 intro x;induction x using Syntax.ind with
 |h x ih=>
  intro sm;have k:∀y∈x.mR,VE w y/\VT w y:=fun y hy=>ih y hy (by have:=Syntax.am1 hy;omega)
  exact⟨auE hw sm (fun y hy=>(k y hy).1) fun y hy=>(k y hy).2,aM0 hw sm (fun y hy=>(k y hy).1) fun y hy=>(k y hy).2⟩
end voc
set_option maxRecDepth 100000
theorem aIm{T:List k7}(h8:T.length<=8)(hN:∀n∈T,Nsm n){x:Syntax}(sm:x.rI<=1048576):TI (fun(i:IX x) n=>JV n T i.1) Yes:=by
 have hl:T.length<=cap:=by simp only[cap];omega
 refine TI.fn (fun i n=>by simp only[JV,l6,VP];exact rfl) ?_;refine TI.bind (TI.one (axD hl hN)) fun r hr=>TI.rQ (fun h=>?_) fun _=>TI.pure trivial
 have ht:=hr h;have ok:=TOk.of ht;have g:aFy T:=⟨⟨by omega,fun n hn=>(ok.ok hn).few,ht⟩,hN⟩;have hw:(Z5 [] T).length<=4194304:=by have:=g.aqP;omega
 refine TI.bind (TI.one (g.aAW.tot (Q:=(· =Z5 [] T)) rfl)) fun w e=>?_
 subst e;refine TI.bind (aIl hw x sm).1 fun c hc=>TI.rQ (fun _=>TI.pure trivial) fun h0=>?_
 have wf:=hc (by simpa [bne] using h0);have wex:=((aCD ⟨hl,hN,ht⟩ _ false x (kx _) sm wf).1 rfl).1;refine TI.w (wex false [] (by simp)) fun l b hb=>?_
 simp only[wr];refine TI.rQ (fun _=>TI.pure trivial) fun _=>?_
 have st:lZ (fun n=>Ir n T l b) (· =(((T,(l,())),(b,())),(b,()))):=⟨_,rfl,1,fun n hn=>by
  obtain⟨k,rfl⟩:∃k,n=k+1:=⟨n-1,by omega⟩;rfl⟩
 refine TI.bind (TI.one st) fun y e=>?_
 subst e;refine TI.bind (TI.one (aMY g hb)) fun y _=>TI.rQ (fun _=>TI.pure trivial) fun _=>?_
 refine TI.bind (TI.one st) fun y e=>?_
 subst e;exact TI.pure trivial
theorem aIn(l:List lH)(hl:l.length<=1048576):lZ (fun n=>td n l ()) Yes:=by
 refine lZ.fn (fun n=>by simp only[td,l6,uY,mB];exact rfl) ?_;refine lZ.bind (P:=Yes) ?_ fun x _=>lZ.pure trivial
 refine lZ.fn (fun n=>by simp only[xc,l6,wu,mB];exact rfl) ?_;refine lZ.Jh (F:=fun n m=>rn n m l l.length 0) ?_;refine l1.up (S:=Unit) (L:=fun n m i _=>rn n m l l.length i) l.length (fun _ _=>True) _ ?_ ?_ 0 () (by omega) trivial
 ·intro i u hi _ next
  refine l1.lp (fun n m=>by simp only[Ah,rk,mB];exact rfl) ?_;simp only[hi,kv,decide_true,kP];refine l1.Nu hi ?_;rw[mM (by omega)];refine l1.nK (P:=Yes) ?_ fun x _=>l1.rQ (fun _=>l1.pure trivial) fun _=>next u trivial
  refine lZ.fn (fun n=>by simp only[aah,l6,Vh,mB];exact rfl) ?_;exact lZ.pure trivial
 ·intro u _;refine l1.lp (fun n m=>by simp only[Ah,rk,mB];exact rfl) ?_;simp only[kq,decide_false,kQ];exact l1.pure trivial
theorem aIo(l:List lz)(hl:l.length<=1048576):lZ (fun n=>sB n l ()) Yes:=by
 refine lZ.fn (fun n=>by simp only[sB,l6,uj,mB];exact rfl) ?_;refine lZ.bind (P:=Yes) ?_ fun x _=>lZ.pure trivial
 refine lZ.fn (fun n=>by simp only[vQ,l6,uW,mB];exact rfl) ?_;refine lZ.Jh (F:=fun n m=>qH n m l l.length 0) ?_;refine l1.up (S:=Unit) (L:=fun n m i _=>qH n m l l.length i) l.length (fun _ _=>True) _ ?_ ?_ 0 () (by omega) trivial
 ·intro i u hi _ next
  refine l1.lp (fun n m=>by simp only[yC,qG,mB];exact rfl) ?_;simp only[hi,kv,decide_true,kP];refine l1.Nu hi ?_;rw[mM (by omega)];refine l1.nK (P:=Yes) ?_ fun x _=>l1.rQ (fun _=>l1.pure trivial) fun _=>next u trivial
  refine lZ.fn (fun n=>by simp only[aai,l6,Vi,mB];exact rfl) ?_;exact lZ.pure trivial
 ·intro u _;refine l1.lp (fun n m=>by simp only[yC,qG,mB];exact rfl) ?_;simp only[kq,decide_false,kQ];exact l1.pure trivial
theorem arP(l:List lH)(k:Int)(hl:l.length<=cap):lZ (fun n=>SJ n l k) Yes:=by
 refine lZ.fn (fun n=>by simp only[SJ,l6,Vy,mB];exact rfl) ?_;refine lZ.rQ (fun _=>?_) fun _=>lZ.pure trivial
 refine lZ.bind (P:=Yes) ?_ fun x _=>lZ.pure trivial
 refine lZ.fn (fun n=>by simp only[uX,l6,uy,mB];exact rfl) ?_;refine lZ.bind (P:=Yes) ?_ fun x _=>lZ.pure trivial
 refine lZ.fn (fun n=>by simp only[wo,l6,vi,mB];exact rfl) ?_;refine lZ.Jh (F:=fun n m=>qP n m l l.length 0) ?_;refine l1.up (S:=Unit) (L:=fun n m i _=>qP n m l l.length i) l.length (fun _ _=>True) _ ?_ ?_ 0 () (by omega) trivial
 ·intro i u hi _ next
  refine l1.lp (fun n m=>by simp only[yS,qO,mB];exact rfl) ?_;simp only[hi,kv,decide_true,kP];refine l1.Nu hi ?_;rw[mM (by simp only[cap]at hl;omega)];refine l1.nK (P:=Yes) ?_ fun x _=>l1.rQ (fun _=>l1.pure trivial) fun _=>next u trivial
  refine lZ.fn (fun n=>by simp only[Vg,l6,Pu,mB];exact rfl) ?_;exact lZ.pure trivial
 ·intro u _;refine l1.lp (fun n m=>by simp only[yS,qO,mB];exact rfl) ?_;simp only[kq,decide_false,kQ];exact l1.pure trivial
theorem axE(T:List k7)(hl:T.length<=cap)(hN:∀n∈T,Nsm n):lZ (fun n=>ZT n T) (fun r=>r=true->T.length<=8):=by
 refine lZ.fn (fun n=>by simp only[ZT,l6,aa4,mB];exact rfl) ?_;refine lZ.rQ (fun h8=>?_) fun _=>lZ.pure fun h=>by cases h
 have h8:=kT h8;refine lZ.bind (P:=Yes) ?_ fun x _=>lZ.pure fun _=>by omega
 refine lZ.fn (fun n=>by simp only[u7,l6,uA,mB];exact rfl) ?_;refine lZ.bind (P:=Yes) ?_ fun x _=>lZ.pure trivial
 refine lZ.fn (fun n=>by simp only[wv,l6,vm,mB];exact rfl) ?_;refine lZ.Jh (F:=fun n m=>qS n m T T.length 0) ?_;refine l1.up (S:=Unit) (L:=fun n m i _=>qS n m T T.length i) T.length (fun _ _=>True) _ ?_ ?_ 0 () (by omega) trivial
 ·intro i u hi _ next
  refine l1.lp (fun n m=>by simp only[ze,qR,mB];exact rfl) ?_;simp only[hi,kv,decide_true,kP];refine l1.Nu hi ?_;rw[mM (by omega)];refine l1.nK (P:=Yes) ?_ fun x _=>l1.rQ (fun _=>l1.pure trivial) fun _=>next u trivial
  refine lZ.fn (fun n=>by simp only[aaV,l6,VB,mB];exact rfl) ?_;refine lZ.bind (arP _ _ (hN _ (ko hi)).len) fun x _=>?_
  exact lZ.rQ (fun _=>lZ.pure trivial) fun _=>lZ.pure trivial
 ·intro u _;refine l1.lp (fun n m=>by simp only[ze,qR,mB];exact rfl) ?_;simp only[kq,decide_false,kQ];exact l1.pure trivial
theorem axF:∀(x:Syntax),x.rI<=1048576->∀aKG:Int,lZ (fun n=>B2 n x aKG) Yes:=by
 intro x;induction x using Syntax.ind with
 |h x ih=>
  intro sm aKG;obtain⟨k1,k2,k3,k4,k5,k6⟩:=al2 sm
  have mR:∀a:Int,lZ (fun n=>Hr (B2 n) n n a 0 x) Yes:=fun a=>by
   refine lZ.Jh (F:=fun n m=>Hr (B2 n) n m a 0 x) ?_;refine l1.up (S:=Int) (L:=fun n m i a=>Hr (B2 n) n m a i x) x.mR.length (fun _ _=>True) _ ?_ ?_ 0 a (by omega) trivial
   ·intro i a hi _ next
    refine l1.lp (fun n m=>by simp only[acn,Ly,mB];exact rfl) ?_;simp only[hi,kv,decide_true,kP];refine l1.rQ (fun _=>?_) fun _=>l1.pure trivial
    refine l1.Nu hi ?_;refine l1.nK (ih _ (ko hi) (by have:=Syntax.am1 (ko hi);omega) a) fun r _=>?_
    rw[mM (i:=i) (by omega)];exact next _ trivial
   ·intro a _;refine l1.lp (fun n m=>by simp only[acn,Ly,mB];exact rfl) ?_;simp only[kq,decide_false,kQ];exact l1.pure trivial
  refine lZ.fn (fun n=>by simp only[B2,l6,aaS,mB];exact rfl) ?_;refine lZ.rQ (fun _=>lZ.pure trivial) fun _=>?_
  refine lZ.bind (aIn x.mZ (by omega)) fun c _=>lZ.rQ (fun _=>lZ.pure trivial) fun _=>?_
  generalize IntKind.i64.wrap (IntKind.i64.wrap (aKG-1)-(x.mZ.length:Int))=v;refine lZ.Jh (F:=fun n m=>LA (B2 n) n m v 0 x) ?_;refine l1.up (S:=Int) (L:=fun n m i a=>LA (B2 n) n m a i x) x.mK.length (fun _ _=>True) _ ?_ ?_ 0 v (by omega) trivial
  ·intro i a hi _ next
   refine l1.lp (fun n m=>by simp only[aco,Lz,mB];exact rfl) ?_;simp only[hi,kv,decide_true,kP];refine l1.rQ (fun _=>?_) fun _=>l1.of1 (mR a)
   refine l1.Nu hi (l1.Nu hi ?_)
   have hal:x.mK[i].A8.length<=1048576:=by
    have h1:=k5 _ (ko hi);have h2:=FD (bk:=lz.rI) (fun x=>by unfold lz.rI;omega) x.mK[i].A8;unfold ld.rI at h1;omega
   refine l1.nK (aIo _ hal) fun c _=>l1.rQ (fun _=>l1.pure trivial) fun _=>?_
   rw[mM (i:=i) (by omega)];exact next _ trivial
  ·intro a _;refine l1.lp (fun n m=>by simp only[aco,Lz,mB];exact rfl) ?_;simp only[kq,decide_false,kQ];exact l1.of1 (mR a)
theorem aFB:∀(x:Syntax),x.rI<=1048576->∀k:Int,lZ (fun n=>La n x k) (fun e=>vN e=vN x):=by
 intro x;induction x using Syntax.ind with
 |h x ih=>
  intro sm k;obtain⟨k1,_⟩:=al2 sm;refine lZ.fn (fun n=>by simp only[La,l6,adU,mB];exact rfl) ?_;refine lZ.Jh (F:=fun n m=>M4 (La n) n m k x.mR x.mR.length 0 x.kind x.text x.num x.mZ x.mK k (IntKind.i64.wrap (k+1)) []) ?_;refine l1.up (S:=List Syntax) (L:=fun n m i a=>M4 (La n) n m k x.mR x.mR.length i x.kind x.text x.num x.mZ x.mK k (IntKind.i64.wrap (k+1)) a) x.mR.length (fun i a=>a.length=i/\a.map vN=(x.mR.take i).map vN) _ ?_ ?_ 0 [] (by omega) ⟨rfl,by simp⟩
  ·intro i a hi hI next
   obtain⟨ha,hI⟩:=hI;refine l1.lp (fun n m=>by simp only[ae3,M3,mB];exact rfl) ?_;simp only[hi,kv,decide_true,kP];refine l1.Nu hi ?_;refine l1.nK (ih _ (ko hi) (by have:=Syntax.am1 (ko hi);omega) _) fun e he=>?_
   have hr:decide ((a.length+1)*120<=17592186044416)=true:=kR (by omega);simp only[hr,kP];rw[mM (i:=i) (by omega)];exact next _ ⟨by rw[List.length_append,List.length_singleton,ha],by rw[ku hi,List.map_append,List.map_append,hI,List.map_singleton,List.map_singleton,he]⟩
  ·intro a hI;obtain⟨ha,hI⟩:=hI;refine l1.lp (fun n m=>by simp only[ae3,M3,mB];exact rfl) ?_;simp only[kq,decide_false,kQ];rw[kB]at hI;refine l1.pure ?_;rw[alW,alW x];show Syntax.mk x.kind x.text x.num x.mZ x.mK (a.map vN) 0 0=_;rw[hI]
theorem aFC(k:Nat):aOI (k+300)=some true:=kX
theorem aCI:Ev (fun n=>aOI n) true:=⟨300,fun n hn=>by
 obtain⟨k,rfl⟩:∃k,n=k+300:=⟨n-300,by omega⟩;exact aFC k⟩
theorem aqS(x0:List k7)(x1:Syntax)(x2:Int)(h:wk k7.rI x0+(x1.rI+1)<=1048576)(_:∀y∈x0,y.wf)(_:x1.wf)(_:wfI .u8 x2):∃n,FB n x0 x1 x2=some true:=by
 have hT:x0.length<=cap/\∀n∈x0,Nsm n:=by
  have:wk k7.rI x0<=1048576:=by omega
  have h1:=FD (bk:=k7.rI) (fun x=>by unfold k7.rI;omega) x0;refine⟨by simp only[cap];omega,fun n hn=>Nsm.of ?_⟩;have:=Nv (bk:=k7.rI) hn;simp only[cap];omega
 have sm:x1.rI<=1048576:=by omega
 have aw:∀{P:Bool->Prop},P true->lZ (fun n=>(aOI n).bind fun x=>some x) P:=fun h=>Ev.tot (Ev.bind aCI Ev.pure) h
 have key:Ev (fun n=>FB n x0 x1 x2) true:=by
  refine lZ.ev ?_;refine lZ.fn (fun n=>by simp only[FB,l6,Jg,mB];exact rfl) ?_;refine lZ.bind (axE x0 hT.1 hT.2) fun t ht=>lZ.rQ (fun h=>?_) fun _=>aw rfl
  have h8:=ht h;refine lZ.bind (P:=Yes) ?_ fun c _=>lZ.rQ (fun _=>?_) fun _=>aw rfl
  ·refine lZ.fn (fun n=>by simp only[ahj,l6,aaW,mB];exact rfl) ?_;exact lZ.bind (axF x1 sm _) fun c _=>lZ.pure trivial
  obtain⟨r,_,hr⟩:=aIm h8 hT.2 (x:=vN x1) (by rw[aqH];exact sm);refine lZ.bind ((hr ⟨x1,rfl⟩).tot (Q:=(· =r)) rfl) fun y e=>?_
  subst e;refine lZ.bind (aFB x1 sm _) fun e he=>?_
  refine lZ.bind ((hr ⟨e,he⟩).tot (Q:=(· =y)) rfl) fun z e=>?_
  subst e;simp only[beq_self_eq_true,kP];exact aw rfl
 obtain⟨N,h⟩:=key;exact⟨N,h N (kx _)⟩
end Go.Abs
