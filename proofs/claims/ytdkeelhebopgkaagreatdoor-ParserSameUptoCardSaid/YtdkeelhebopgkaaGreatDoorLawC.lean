/- A part of the proof: plain facts. -/
import Derived.Test.YtdkeelhebopgkaaGreatDoorLawB
set_option linter.all false
open List renaming mem_singleton → jC,length_append → jD,mem_cons → jF,contains_iff_mem → jG,take_succ_eq_append_getElem → jH,not_mem_nil → jI,getElem_mem → jJ,length_cons → jK
open Nat renaming zero_le → jE,add_zero → jL
namespace Go.Abs
variable {f t:Int}{ld:List Str}{ks xs:List Syntax}{k:List Tk}{c n:Nat}{s v w:Str}{p:Str->Prop}{x:Syntax}
def PS(S:Src):Nat->List Syntax->List Tk->Prop
 |0,[x],k=> ∀d i j,Is S i k j->Ed S j->Re x j (S.u0 d i)
 |1,[x],k=> ∀d i j,Is S i k j->Ed S j->Re x j (S.DB d i)
 |2,[x],k=> ∀d i j,Is S i k j->Ed S j-> ∀m,(∃a,((S.DB d i).bind fun x j=>S.alts (S.DB d) m x j)= .er 7 a)\/ ∃y m',mz y=mz x/\((S.DB d i).bind fun x j=>S.alts (S.DB d) m x j)=S.alts (S.DB d) m' y j
 |3,xs,k=> ∀d i j,Is S i k j->S.sym [125] j=true-> ∀m out,Rq (fun l:List Syntax=>l.map mz=out.map mz++xs.map mz) j (S.Ll (S.DB d) m out i)
 |_,_,_=>True
theorem Sh.tk1(h:Sh p n xs s k):n=1\/n=2-> ∃t k',k=t::k'/\(t.1==2&&t.2==[125])=false:=by
 induction h with
 |ex|nms|No|blk|foc=>exact fun _=>⟨_,_,rfl,rfl⟩
 |up _ ih=>exact fun _=>ih (.inl rfl)
 |alt _ _ ih _=>
  grind
 |_=>omega
section
variable {S:Src} {ex ta:Nat->Rs Syntax} {i:Nat}
theorem amd(h:S.K i=(3,[102,117,110])):S.ye ex ta i=S.agt ex i:=by unfold Src.ye;rw[Of h];rfl
theorem ame(h:S.K i=(3,[108,101,116])):S.ye ex ta i=S.Ni ex i:=by grind [Src.ye,Of]
theorem auM(h:S.K i=(3,[83,105,103,109,97])):S.ye ex ta i=(S.binder ex [40] [41] (S.nx i)).bind fun l j=>S.product ex 5 0 i l [44] j:=by grind [Src.ye,Of]
theorem auN(h:S.K i=(2,[123])):S.ye ex ta i=(S.binder ex [123] [125] i).bind fun l j=>S.product ex 4 1 i l [45,62] j:=by grind [Src.ye,Of,mT]
theorem auO(h:S.K i=(2,[91])):S.ye ex ta i=(S.binder ex [91] [93] i).bind fun l j=>S.product ex 4 2 i l [45,62] j:=by grind [Src.ye,Of,mT]
end
theorem az2{S:Src}{ex:Nat->Rs Syntax}(hv:Vb v){i:Nat}(k1:S.K i=vtk v)(n1:i+1<S.len)(k2:S.K (i+1)=(2,[61,62]))(m:Nat):S.Pl ex (m+2) [] i= .ok [{name:=v,t:=S.hole (i+1)}] (i+1):=by
 rw[Src.Pl,apL hv k1 rfl,apL hv k1 rfl,aoE hv k1 n1]
 grind [Rs.bind,Src.Pl,mT]
theorem Sh.k17(h:Sh p 0 [x] s k):x.kind≠17:=by
 cases h with
 |ww a _=>simp [Syntax.ww];omega
 |_=>simp [Syntax.ww]
section
variable {S:Src} (hS:∀y,S.isS y=false)
include hS
omit hS in
theorem axN{ex ta:Nat->Rs Syntax}{ns:List Str}{i j:Nat}(k0:S.K i=(0,w))(h:Rq (fun p:List Str×List Syntax=>p.1=ns/\p.2.map mz=ks.map mz) j (S.known ex ta w i)):Re (.mk 15 w 0 ns [] ks f t) j (S.WM ex ta i):=by
 unfold Src.WM;rw[mT k0,k0];exact h.bind fun p hp=> .ok (by rw[hp.1];exact stL hp.2)
omit hS in
theorem auP{ex ta:Nat->Rs Syntax}(h:exW.contains w=true)(i:Nat):S.known ex ta w i=(ex (S.nx i)).bind fun x j=> .ok ([],[x]) j:=by
 simp only[exW,jG,jF,jI,or_false] at h;rcases h with rfl|rfl|rfl|rfl|rfl<;>rfl
omit hS in
theorem auQ{ex ta:Nat->Rs Syntax}(h:noW.contains w=true)(i:Nat):S.known ex ta w i= .ok ([],[]) (S.nx i):=by
 simp only[noW,jG,jF,jI,or_false] at h;rcases h with rfl|rfl|rfl|rfl<;>rfl
omit hS in
theorem auR{ex ta:Nat->Rs Syntax}(h:snW.contains w=true)(i:Nat):S.known ex ta w i=(S.ML (S.nx i)).bind fun s j=> .ok ([s],[]) j:=by
 simp only[snW,jG,jF,jI,or_false] at h;rcases h with rfl|rfl|rfl|rfl<;>rfl
omit hS in
theorem amf: ∀{vs:List Str}(m:Nat)(out:List Str)(i j:Nat),(∀v∈vs,Nm v)->Is S i (vs.map vtk) j->((S.K j).1==0)=false->Rq (· =out++vs) j (S.Lm m out i)
 |[],0,out,i,j,_,hi,hj=>by
  obtain rfl:i=j:=hi;unfold Src.Lm;rw[hj];exact .ok (by simp)
 |[],m+1,out,i,j,_,hi,hj=>by
  obtain rfl:i=j:=hi;unfold Src.Lm;rw[hj];exact .ok (by simp)
 |v::vs,m,out,i,j,h,hi,hj=>by
  have hk:S.K i=(0,v):=by rw[hi.1];unfold vtk;rw[jT.2 (h v (by simp)).2.1];rfl
  cases m with
  |zero=>
   unfold Src.Lm;rw[hk];exact .deep
  |succ m=>
   unfold Src.Lm;rw[hk,Jr hi.2.1];exact(amf m _ _ j (fun u hu=>h u (by simp [hu])) hi.2.2 hj).imp fun x e=>by rw[e];simp
omit hS in
theorem aCc{ex ta:Nat->Rs Syntax}{ns:List Str}(h:aum w ns){i j:Nat}(n0:i+1<S.len)(hi:Is S (i+1) (ns.map vtk) j)(hj:Ed S j):Rq (fun p:List Str×List Syntax=>p.1=ns/\p.2.map mz=([]:List Syntax).map mz) j (S.known ex ta w i):=by
 rcases h with⟨hw,rfl⟩|⟨rfl,v,rfl,hv⟩|⟨rfl,h1,hv⟩|⟨hw,v,rfl,hv,hd⟩|⟨rfl,h1,hv⟩
 ·obtain rfl:i+1=j:=hi;rw[auQ hw,Jr n0];exact .ok ⟨rfl,rfl⟩
 ·obtain⟨k1,n1,rfl⟩:=hi;show Rq _ _ ((S.var (S.nx i)).bind fun s j=> .ok ([s],[]) j);rw[Jr n0,aoE hv k1 n1];exact .ok ⟨rfl,rfl⟩
 ·show Rq _ _ ((S.vars (S.nx i)).bind fun l j=> .ok (l,[]) j)
  match ns,h1,hv,hi with
  |v::vs,_,hv,hi=>
   unfold Src.vars;rw[Jr n0,aoE (hv v (by simp)) hi.1 hi.2.1];refine(auL (vs:=vs) 199 [v] _ j (fun u hu=>hv u (by simp [hu])) hi.2.2 hj.var).bind fun l hl=> .ok ⟨hl,rfl⟩
 ·obtain⟨k1,n1,rfl⟩:=hi;have hk:S.K (i+1)=(0,v):=by rw[k1];unfold vtk;rw[jT.2 hv.2.1];rfl
  rw[auR hw,Jr n0];unfold Src.ML Src.simple;rw[hk,hd,Jr n1];exact .ok ⟨rfl,rfl⟩
 ·show Rq _ _ ((S.name (S.nx i)).bind fun s j=>(S.Lm 199 [s] j).bind fun l k=> .ok (l,[]) k)
  match ns,h1,hv,hi with
  |v::vs,_,hv,hi=>
   have hk:S.K (i+1)=(0,v):=by rw[hi.1];unfold vtk;rw[jT.2 (hv v (by simp)).2.1];rfl
   unfold Src.name;rw[Jr n0,hk,Jr hi.2.1];exact(amf (vs:=vs) 199 [v] _ j (fun u hu=>hv u (by simp [hu])) hi.2.2 hj.k01.1).bind fun l hl=> .ok ⟨hl,rfl⟩
theorem Sh.read(h:Sh Nk n xs s k):PS S n xs k:=by
 induction h with
 | @nm s n f t ls h hp hn hl=>
   intro d i j hi hj
   match d with
   |0=>exact .deep
   |d+1=>
    rcases hn with rfl|rfl
    ·obtain⟨k0,n0,hi⟩:=hi;refine ajc hS ?_ (by rw[mT k0];rfl) (by rw[k0];rfl) hj (show(0:Int)≠17 by decide);unfold Src.fill;rw[k0,Jr n0];exact(afD hl hi (hj.sy rfl)).bind fun l hl=> .ok (by rw[hl];exact stL rfl)
    ·obtain⟨k0,n0,k1,n1,hi⟩:=hi;refine ajc hS ?_ (by rw[mT k0];rfl) (by rw[k0];rfl) hj (show(0:Int)≠17 by decide);unfold Src.fill Src.name;rw[k0,mT k0,Jr n0,k1,Jr n1];exact(afD hl hi (hj.sy rfl)).bind fun l hl=> .ok (by rw[hl];exact stL rfl)
 |hole=>
  intro d i j hi hj
  match d with
  |0=>exact .deep
  |d+1=>
   obtain⟨k0,n0,rfl⟩:=hi;refine ajc hS ?_ (by rw[mT k0];rfl) (by rw[k0];rfl) hj (show(1:Int)≠17 by decide);unfold Src.fill;rw[k0,mT k0,mT k0,Jr n0];exact .ok (stL rfl)
 |app hx hy ih1 ih2=>
  intro d i j hi hj
  match d with
  |0=>exact .deep
  |d+1=>
   obtain⟨k0,n0,hi⟩:=hi;obtain⟨q,a1,k1,n1,k2,n2,hi⟩:=hi.app;obtain⟨r,a2,k3,n3,rfl⟩:=hi.app;refine exE hS ?_ (by rw[k0];rfl) hj (show(2:Int)≠17 by decide);refine(acH (auJ k0 n0 (ih1 d _ _ a1 (.of k1 rfl)) k1 n1) (by rw[mT k2];rfl) (by rw[mT k2];rfl)).bind fun x' hx'=> ?_
   unfold Src.US;rw[(bg (ex:=S.u0 d) (ta:=S.DB d) (i:=q+1) (by rw[k2];rfl)).1];refine(acH (auJ k2 n2 (ih2 d _ _ a2 (.of k3 rfl)) k3 n3) (hj.sy rfl) (hj.sy rfl)).bind fun y' hy'=> ?_
   rw[(hj.stop hS).US];exact .ok (stL (st2 hx' hy'))
 | @agB v b y l f t g hv hy ih=>
   intro d i j hi hj
   match d with
   |0=>exact .deep
   |d+1=>
    obtain⟨k0,n0,k1,n1,k2,n2,hi⟩:=hi;have hf:S.Pl (S.u0 d) 200 [] (i+1)= .ok [{name:=v,t:=S.hole (i+1+1)}] (i+1+1):=az2 hv k1 n1 k2 198;show Re _ j (S.ye (S.u0 d) (S.DB d) i);rw[amd k0];unfold Src.agt;rw[Jr n0,hf];simp [Rs.bind];rw[Kl k2 n2];exact(ih d _ _ hi hj).bind fun y' hy'=> .ok (stL (st2 (stL rfl) hy'))
 | @lam v a b x y k l f t hv hx _ hy ih1 ih2=>
   intro d i j hi hj
   match d with
   |0=>exact .deep
   |d+1=>
    obtain⟨k0,n0,hi⟩:=hi;have k1:=hi.1;obtain⟨q,hi,⟨p,hp,kp⟩,hb⟩:=axM hv hi fun p q hp hq=>ih1 d p q hp (.of hq rfl)
    obtain⟨k2,n2,hi⟩:=hi;show Re _ j (S.ye (S.u0 d) (S.DB d) i);rw[amd k0];unfold Src.agt;rw[Jr n0];unfold Src.Pl;rw[mT k1,mT k1];refine Rq.bind (P:=fun l=> ∃t,mz t=mz x/\l=[({name:=v,t:=t}:kg)]) (j:=q) (hb.bind fun l hl=> ?_) fun l hl=> ?_
    ·obtain⟨t,ht,rfl⟩:=hl;unfold Src.Pl;rw[mT k2];exact .ok ⟨t,ht,rfl⟩
    ·obtain⟨t,ht,rfl⟩:=hl;rw[Kl k2 n2];exact(ih2 d _ _ hi hj).bind fun y' hy'=> .ok (stL (st2 ht hy'))
 | @pi0 a b x y k l f t hx hy ih1 ih2=>
   intro d i j hi hj
   match d with
   |0=>exact .deep
   |d+1=>
    obtain⟨k0,n0,k1,n1,hi⟩:=hi;obtain⟨q,a1,k2,n2,k3,n3,k4,n4,hi⟩:=hi.app;have st:Stop S (q+1+1):=Stop.sym k4 rfl (hS _)
    have h1:Re x (q+1) (S.u0 d (i+1)):=by
     match d with
     |0=>exact .deep
     |d+1=>exact exE hS (aoD (acH (auJ k1 n1 (ih1 d _ _ a1 (.of k2 rfl)) k2 n2) (by rw[mT k3];rfl) (by rw[mT k3];rfl)) ((Ed.of k3 rfl).stop hS).b) (by rw[k1];rfl) (.of k3 rfl) hx.k17
    have ho:=opE (ex:=S.u0 d) (ta:=S.DB d) hS (aoD (acH (auJ k0 n0 h1 k3 n3) st.s1 st.s2) st.b) (by rw[k0];rfl) st hx.k17;rw[show S.u0 (d+1) i=S.ye (S.u0 d) (S.DB d) i from rfl,(bg (by rw[k0];rfl)).2];rcases ho with⟨a,ho⟩|⟨x',ho,hx'⟩
    ·rw[auu ho];exact .deep
    ·rcases ih2 d _ _ hi hj with⟨a,hb⟩|⟨y',hb,hy'⟩
     ·rw[auy ho k4 (Jr n4) hb];exact .deep
     ·rw[arB ho k4 (Jr n4) hb k1];exact .ok (stL (st2 hx' hy'))
 | @pi v a b x y k l n f t hv hn hx hy ih1 ih2=>
   intro d i j hi hj
   match d with
   |0=>exact .deep
   |d+1=>
    have prod: ∀{o c:Str}{q:Nat},Is S q ((2,[45,62])::l) j->Rq (fun b=> ∃t,mz t=mz x/\b=[({name:=v,t:=t}:kg)]) q (S.binder (S.u0 d) o c i)->Re (.mk 4 v n [] [] [x,y] f t) j ((S.binder (S.u0 d) o c i).bind fun l j=>S.product (S.u0 d) 4 n i l [45,62] j):=fun hi hb=>by
     obtain⟨k2,n2,hi⟩:=hi;refine hb.bind fun l hl=> ?_
     obtain⟨t,ht,rfl⟩:=hl;unfold Src.product;rw[Kl k2 n2];exact(ih2 d _ _ hi hj).bind fun y' hy'=> .ok (stL (st2 ht hy'))
    rcases hn with rfl|rfl|rfl
    ·obtain⟨k0,n0,k1,n1,k2,n2,hi⟩:=hi;obtain⟨q,a1,k3,n3,k4,n4,hi⟩:=hi.app;have k3:S.K q=(2,[41]):=k3;have st:Stop S (q+1):=Stop.sym k4 rfl (hS _)
     have hb:Rq (fun z=>z.kind=13/\z.from_=S.F i/\ ∃t,mz t=mz x/\z.kids.getD 1 X1=t) (q+1) (S.basic (S.u0 d) (S.DB d) i):=by
      unfold Src.basic Src.HZ;rw[mT k0,Jr n0];refine(az1 hS hv k1 n1 (.of k2 rfl) d).bind fun z hz=> ?_
      rw[mT k2,mT k2,Jr n2];refine(ih1 d _ _ a1 (.of k3 rfl)).bind fun t ht=> ?_
      rw[Kl k3 n3];exact .ok ⟨rfl,rfl,t,ht,rfl⟩
     have ho:Rq (fun z=>z.kind=13/\z.from_=S.F i/\ ∃t,mz t=mz x/\z.kids.getD 1 X1=t) (q+1) (S.op (S.u0 d) (S.DB d) i):=by
      rcases hb with⟨a,hb⟩|⟨z,hb,hz⟩
      ·have:Re (.mk 13 [] 0 [] [] [] 0 0) (q+1) (S.op (S.u0 d) (S.DB d) i):=opE hS (aoD (acH (.inl ⟨a,hb⟩) st.s1 st.s2) st.b) (by rw[k0];rfl) st (show(13:Int)≠17 by decide);unfold Src.op Src.zC Src.item Src.app Src.Zx at this ⊢;rw[hb] at this ⊢;have hs:S.II i=false:=by grind [Src.II]
       rw[hs,(bg (ex:=S.u0 d) (ta:=S.DB d) (i:=i) (by rw[k0];rfl)).1];exact .deep
      ·have hs:S.II i=false:=by grind [Src.II]
       unfold Src.op Src.zC Src.item Src.app Src.Zx;rw[hs,(bg (ex:=S.u0 d) (ta:=S.DB d) (i:=i) (by rw[k0];rfl)).1,hb];simp [Rs.bind];rw[st.Gy];simp;rw[st.US];simp;rw[st.zC]
       grind [Rq,Src.afd]
     rw[show S.u0 (d+1) i=S.ye (S.u0 d) (S.DB d) i from rfl,(bg (by rw[k0];rfl)).2];refine ho.bind fun z ⟨z1,z2,t,ht,z3⟩=> ?_
     rw[mT k4,Jr n4,aCb hv k0 k1 k2 n2,z1,z2,z3];refine(ih2 d _ _ hi hj).bind fun y' hy'=> ?_
     simp;exact .ok (stL (st2 ht hy'))
    ·have k0:=hi.1;obtain⟨q,hi,_,hb⟩:=axM (o:=[123]) (c:=[125]) hv hi fun p q hp hq=>ih1 d p q hp (.of hq rfl)
     show Re _ j (S.ye (S.u0 d) (S.DB d) i);rw[auN k0];exact prod hi hb
    ·have k0:=hi.1;obtain⟨q,hi,_,hb⟩:=axM (o:=[91]) (c:=[93]) hv hi fun p q hp hq=>ih1 d p q hp (.of hq rfl)
     show Re _ j (S.ye (S.u0 d) (S.DB d) i);rw[auO k0];exact prod hi hb
 |YR hv hx hy ih1 ih2=>
  intro d i j hi hj
  match d with
  |0=>exact .deep
  |d+1=>
   obtain⟨k0,n0,hi⟩:=hi;obtain⟨q,hi,_,hb⟩:=axM hv hi fun p q hp hq=>ih1 d p q hp (.of hq rfl)
   obtain⟨k2,n2,hi⟩:=hi;show Re _ j (S.ye (S.u0 d) (S.DB d) i);rw[auM k0,Jr n0];refine hb.bind fun l hl=> ?_
   obtain⟨t,ht,rfl⟩:=hl;unfold Src.product;rw[Kl k2 n2];exact(ih2 d _ _ hi hj).bind fun y' hy'=> .ok (stL (st2 ht hy'))
 | @pair a b x y k l f t hx hy ih1 ih2=>
   intro d i j hi hj
   match d with
   |0=>exact .deep
   |d+1=>
    obtain⟨k0,n0,hi⟩:=hi;obtain⟨q,a1,k1,n1,hi⟩:=hi.app;obtain⟨r,a2,k2,n2,rfl⟩:=hi.app;refine exE hS (aoD (acH ?_ (hj.sy rfl) (hj.sy rfl)) (hj.stop hS).b) (by rw[k0];rfl) hj (show(6:Int)≠17 by decide);unfold Src.basic Src.HZ;rw[mT k0,Jr n0];refine(ih1 d _ _ a1 (.of k1 rfl)).bind fun x' hx'=> ?_
    rw[mT k1,mT k1];unfold Src.adm;rw[mT k1,Jr n1];refine Rq.bind (P:=fun l=> ∃y',mz y'=mz y/\l=[y']) (j:=r) ((ih2 d _ _ a2 (.of k2 rfl)).bind fun y' hy'=> ?_) fun l hl=> ?_
    ·unfold Src.adm;rw[mT k2];exact .ok ⟨y',hy',rfl⟩
    ·obtain⟨y',hy',rfl⟩:=hl;rw[Kl k2 n2];exact .ok (stL (st2 hx' hy'))
 |ww hn hx ih=>
  intro d i j hi hj
  match d with
  |0=>exact .deep
  |d+1=>
   obtain⟨k0,n0,hi⟩:=hi;obtain⟨q,a1,k1,n1,k2,n2,rfl⟩:=hi.app;refine exE hS (aoD (Rq.bind (auJ k0 n0 (ih d _ _ a1 (.of k1 rfl)) k1 n1) fun x' hx'=> ?_) (hj.stop hS).b) (by rw[k0];rfl) hj (show _≠(17:Int) by simp [Syntax.ww];omega);unfold Src.Gy;rw[mT k2,mT k2,Jr n2];rcases hn with rfl|rfl
   ·unfold Src.Gy;rw[k2,hj.sy rfl,hj.sy rfl];exact .ok (stL (st1 hx'))
   ·unfold Src.Gy;rw[k2,hj.sy rfl,hj.sy rfl];exact .ok (stL (st1 hx'))
 |agC hv hy hz ih2 ih3=>
  intro d i j hi hj
  match d with
  |0=>exact .deep
  |d+1=>
   obtain⟨k0,n0,k1,n1,k2,n2,hi⟩:=hi;obtain⟨q,a1,k3,n3,hi⟩:=hi.app;have h58:S.sym [58] (i+1+1)=false:=by rw[mT k2];rfl
   show Re _ j (S.ye (S.u0 d) (S.DB d) i);rw[ame k0];unfold Src.Ni;rw[Jr n0,aoE hv k1 n1];simp [Rs.bind,h58];rw[Kl k2 n2];refine(ih2 d _ _ a1 (.of k3 rfl)).bind fun y' hy'=> ?_
   rw[ajb k3 n3 rfl];exact(ih3 d _ _ hi hj).bind fun z' hz'=> .ok (stL (by simp [hy',hz'];rw[show mz (S.hole (i+1+1))=_ from stL rfl]))
 | @Ni v a b c x y z k l m f t hv hx _ hy hz ih1 ih2 ih3=>
   intro d i j hi hj
   match d with
   |0=>exact .deep
   |d+1=>
    obtain⟨k0,n0,k1,n1,k2,n2,hi⟩:=hi;obtain⟨p,a0,k4,n4,hi⟩:=hi.app;obtain⟨q,a1,k3,n3,hi⟩:=hi.app;have h58:S.sym [58] (i+1+1)=true:=by rw[mT k2];rfl
    show Re _ j (S.ye (S.u0 d) (S.DB d) i);rw[ame k0];unfold Src.Ni;rw[Jr n0,aoE hv k1 n1];simp [Rs.bind,h58];rw[Jr n2];refine Rq.bind (P:=fun x'=>mz x'=mz x) (j:=p) (ih1 d _ _ a0 (.of k4 rfl)) fun x' hx'=> ?_
    rw[Kl k4 n4];refine(ih2 d _ _ a1 (.of k3 rfl)).bind fun y' hy'=> ?_
    rw[ajb k3 n3 rfl];exact(ih3 d _ _ hi hj).bind fun z' hz'=> .ok (stL (by grind))
 |agD=>
  intro d i j hi hj
  match d with
  |0=>exact .deep
  |d+1=>
   obtain⟨k0,n0,rfl⟩:=hi;refine ajc hS ?_ (by rw[mT k0];rfl) (by rw[k0];rfl) hj (show(10:Int)≠17 by decide);unfold Src.fill;rw[k0,mT k0,mT k0,Of k0,Jr n0];exact .ok (stL rfl)
 | @sort lv f t hl=>
   intro d i j hi hj
   match d with
   |0=>exact .deep
   |d+1=>
    obtain⟨k0,n0,k1,n1,hi⟩:=hi;obtain⟨q,a1,k2,n2,rfl⟩:=hi.app;refine ajc hS ?_ (by rw[mT k0];rfl) (by rw[k0];rfl) hj (show(11:Int)≠17 by decide);unfold Src.fill Src.one Src.simple;rw[k0,mT k0,mT k0,Of k0,Of k0,Jr n0,k1,mT k1,Jr n1];refine Rq.bind (P:=(· =lv)) (j:=q+1) ((amc hl a1 (.of k2 rfl)).bind fun l hl=> ?_) fun l hl=> .ok (by rw[hl];exact stL rfl)
    rw[Kl k2 n2];exact .ok hl
 |num hn=>
  intro d i j hi hj
  match d with
  |0=>exact .deep
  |d+1=>
   obtain⟨k0,n0,rfl⟩:=hi;refine ajc hS ?_ (by rw[mT k0];rfl) (by rw[k0];rfl) hj (show(12:Int)≠17 by decide);unfold Src.fill;rw[k0,mT k0,mT k0,aoC k0 n0];exact .ok (by grind [stL])
 |Ob hx hy ih1 ih2=>
  intro d i j hi hj
  match d with
  |0=>exact .deep
  |d+1=>
   obtain⟨k0,n0,hi⟩:=hi;obtain⟨q,a1,k1,n1,hi⟩:=hi.app;obtain⟨r,a2,k2,n2,rfl⟩:=hi.app;refine exE hS (aoD (acH ?_ (hj.sy rfl) (hj.sy rfl)) (hj.stop hS).b) (by rw[k0];rfl) hj (show(13:Int)≠17 by decide);unfold Src.basic Src.HZ;rw[mT k0,Jr n0];refine(ih1 d _ _ a1 (.of k1 rfl)).bind fun x' hx'=> ?_
   rw[mT k1,mT k1,Jr n1];refine(ih2 d _ _ a2 (.of k2 rfl)).bind fun y' hy'=> ?_
   rw[Kl k2 n2];exact .ok (stL (st2 hx' hy'))
 |by_ hk ih=>
  intro d i j hi hj
  match d with
  |0=>exact .deep
  |d+1=>
   obtain⟨k0,n0,hi⟩:=hi;obtain⟨q,h1,h2⟩:=afF (l:=[]) hi fun p q h1 h2=>(ih d p q h1 h2 200 []).imp fun l e=>e
   obtain rfl:q=j:=h1;refine ajc hS ?_ (by rw[mT k0];rfl) (by rw[k0];rfl) hj (show(14:Int)≠17 by decide);unfold Src.fill;rw[k0,mT k0,mT k0,Of k0,Of k0,mT k0,Of k0,Jr n0];exact h2.bind fun l hl=> .ok (stL hl)
 |agE=>
  intro d i j hi hj
  match d with
  |0=>exact .deep
  |d+1=>
   obtain⟨k0,n0,rfl⟩:=hi;refine ajc hS ?_ (by rw[mT k0];rfl) (by rw[k0];rfl) hj (show(16:Int)≠17 by decide);unfold Src.fill;rw[k0,mT k0,mT k0,Of k0,Of k0,mT k0,Jr n0];exact .ok (stL rfl)
 |ex hw hx ih=>
  intro d i j hi hj
  match d with
  |0=>exact .deep
  |d+1=>
   obtain⟨k0,n0,hi⟩:=hi;refine axN k0 ?_;rw[auP hw,Jr n0];exact(ih d _ _ hi hj).bind fun x' hx'=> .ok ⟨rfl,st1 hx'⟩
 |nms hw=>
  intro d i j hi hj
  match d with
  |0=>exact .deep
  |d+1=>
   obtain⟨k0,n0,hi⟩:=hi;exact axN k0 (aCc hw n0 hi hj)
 | @No w a x k f t hw hx ih=>
   intro d i j hi hj
   match d with
   |0=>exact .deep
   |d+1=>
    obtain⟨k0,n0,hi⟩:=hi;refine axN (ex:=S.u0 d) (ta:=S.DB d) k0 ?_;have e:S.known (S.u0 d) (S.DB d) w i=(S.DB d (S.nx i)).bind fun x j=> .ok ([],[x]) j:=by rcases hw with rfl|rfl<;>rfl
    rw[e,Jr n0];exact(ih d _ _ hi hj).bind fun x' hx'=> .ok ⟨rfl,st1 hx'⟩
 | @blk a ks k f t hk ih=>
   intro d i j hi hj
   match d with
   |0=>exact .deep
   |d+1=>
    have k0:=hi.1;obtain⟨q,h1,h2⟩:=afF (l:=[]) hi fun p q h1 h2=>(ih d p q h1 h2 200 []).imp fun l e=>e
    obtain rfl:q=j:=h1;show Re _ _ (S.WM _ _ i);unfold Src.WM;rw[mT k0,k0];refine Rq.bind (P:=fun p:List Str×List Syntax=>p.1=[]/\p.2.map mz=ks.map mz) (j:=q) (h2.bind fun l hl=> .ok ⟨rfl,hl⟩) fun p hp=> .ok (by rw[hp.1];exact stL hp.2)
 |foc hk ih=>
  intro d i j hi hj
  match d with
  |0=>exact .deep
  |d+1=>
   obtain⟨k0,n0,hi⟩:=hi;obtain⟨q,h1,h2⟩:=afF (l:=[]) hi fun p q h1 h2=>(ih d p q h1 h2 200 []).imp fun l e=>e
   obtain rfl:q=j:=h1;refine axN k0 ?_;show Rq _ _ ((S.block (S.DB d) (S.nx i)).bind fun l j=> .ok ([],l) j);rw[Jr n0];exact h2.bind fun l hl=> .ok ⟨rfl,hl⟩
 |up _ ih=>
  intro d i j hi hj m;rcases ih d i j hi hj with⟨a,h⟩|⟨y,h,hy⟩
  ·exact .inl ⟨a,by rw[h];rfl⟩
  ·exact .inr ⟨y,m,hy,by rw[h];rfl⟩
 |alt hx hy ih1 ih2=>
  intro d i j hi hj m;obtain⟨q,a1,k1,n1,a2⟩:=hi.app;rcases ih1 d i q a1 (.of k1 rfl) m with⟨a,h⟩|⟨x',m',hx',h⟩
  ·exact .inl ⟨a,h⟩
  ·rw[h]
   match m' with
   |0=>
    unfold Src.alts;rw[mT k1];exact .inl ⟨_,rfl⟩
   |m'+1=>
    have e:S.alts (S.DB d) (m'+1) x' q=(S.DB d (q+1)).bind fun y j=>S.alts (S.DB d) m' (.mk 15 [60,124,62] 0 [] [] [x',y] x'.from_ y.to) j:=by
     rw[Src.alts,mT k1,Jr n1];rfl
    rw[e];rcases ih2 d _ j a2 hj with⟨a,h⟩|⟨y',h,hy'⟩
    ·exact .inl ⟨a,by rw[h];rfl⟩
    ·exact .inr ⟨.mk 15 [60,124,62] 0 [] [] [x',y'] x'.from_ y'.to,m',stL (st2 hx' hy'),by rw[h];rfl⟩
 |nil=>
  intro d i j hi hj m out;obtain rfl:i=j:=hi
  match m with
  |0=>unfold Src.Ll;rw[hj];exact .ok (by simp)
  |m+1=>unfold Src.Ll;rw[hj];exact .ok (by simp)
 |cons hx hy ih1 ih2=>
  intro d i j hi hj m out;obtain⟨q,a1,k1,n1,a2⟩:=hi.app
  have h0:S.sym [125] i=false:=by
   obtain⟨t,k',rfl,ht⟩:=hx.tk1 (.inr rfl);rw[mT a1.1];exact ht
  match m with
  |0=>unfold Src.Ll;rw[h0];exact .deep
  |m+1=>
   unfold Src.Ll Src.alt;rw[h0];rcases ih1 d i q a1 (.of k1 rfl) 199 with⟨a,h⟩|⟨x',m',hx',h⟩
   ·simp only[jN];rw[h];exact .deep
   ·simp only[jN];rw[h]
    have e:S.alts (S.DB d) m' x' q= .ok x' q:=by
     match m' with
     |0=>unfold Src.alts;rw[mT k1];rfl
     |m'+1=>unfold Src.alts;rw[mT k1];rfl
    rw[e];simp only[Rs.bind];rw[mT k1,Jr n1];exact(ih2 d _ j a2 hj m (out++[x'])).imp fun l e=>by rw[e];simp [hx']
end
noncomputable def nds (x:Syntax):Nat:=1+x.levels.length+x.names.length+(x.kids.attach.map fun k=>nds k.1).sum
termination_by x.vI
decreasing_by exact Syntax.afz k.2
theorem auS(x:Syntax):nds x=1+x.levels.length+x.names.length+(x.kids.map nds).sum:=by
 grind [nds,List.attach_map_val]
theorem Rg.few(h:Rg x):x.kids.length<=1000000/\x.levels.length<=1000000/\x.names.length<=1000000:=by
 cases h with
 |mk h1 h2 h3 h4 h5 h6 h7 h8=>exact⟨h4,h2,h1⟩
theorem Rg.kid(h:Rg x):(∀y∈x.kids,Rg y)/\ ∀l∈x.levels,LSm l:=by
 cases h with
 |mk h1 h2 h3 h4 h5 h6 h7 h8=>exact⟨h7,h3⟩
theorem auT(h:Rg x): ∀k:Int,-1<=k->k<=400->lI (fun n=>qX n x k) fun r=>(-3000000*(k+2)<=r/\r<=k)/\(0<=r->(nds x:Int)<=k-r):=by
 refine Rg.ind (P:=fun x=> ∀k:Int,-1<=k->k<=400->lI (fun n=>qX n x k) fun r=>(-3000000*(k+2)<=r/\r<=k)/\(0<=r->(nds x:Int)<=k-r)) ?_ h;intro x hx ih k h1 h2;obtain⟨f1,f2,f3⟩:=hx.few;refine lI.fn (fun n=>by simp only[qX,kG,Jk,mB];exact rfl) ?_;rw[wrap_small (by omega) (by omega)];refine lI.zH (F:=fun n m=>xB (qX n) n m (k-1) 0 x) ?_
 have out: ∀s:Int,(-3000000*(k+1)-2<=s/\s<=k-1)->(0<=s->((x.kids.map nds).sum:Int)<=k-1-s)->lg (fun _ _=>some (IntKind.i64.wrap (IntKind.i64.wrap (s-(x.levels.length:Int))-(x.names.length:Int)))) fun r=>(-3000000*(k+2)<=r/\r<=k)/\(0<=r->(nds x:Int)<=k-r):=fun s hs h0=>lg.pure (by
  grind [wrap_small,auS])
 refine lg.up (S:=Int) (L:=fun n m i s=>xB (qX n) n m s i x) x.kids.length (fun i s=>(-3000000*(k+1)-2<=s/\s<=k-1)/\(0<=s->(((x.kids.take i).map nds).sum:Int)<=k-1-s)) _ ?_ ?_ 0 _ (by omega) ⟨by omega,fun _=>by grind⟩
 ·intro i s hi hs next
  refine lg.lp (fun n m=>by simp only[DP,xA,mB];exact rfl) ?_;simp only[hi,Int.ofNat_lt,decide_true,jM];refine lg.p9 (fun h0=> ?_) (fun h0=> ?_)
  ·have h0:=jQ h0;refine lg.idx hi (lg.lQ (ih _ (jJ hi) s (by omega) (by omega)) fun r hr=> ?_);rw[kO (by omega)]
   grind [jH]
  grind
 ·intro s hs;refine lg.lp (fun n m=>by simp only[DP,xA,mB];exact rfl) ?_
  grind
inductive Pln:Syntax->Prop
 |mk {k:Int} {s:Str} {n:Int} {ns:List Str} {ls:List j7} {ks:List Syntax} {f t:Int} (h0:k=0->Nk s) (hk: ∀x∈ks,Pln x):Pln (.mk k s n ns ls ks f t)
theorem Pln.of(h0:x.kind=0->Nk x.text)(hk: ∀y∈x.kids,Pln y):Pln x:=by
 obtain⟨k,s,n,ns,ls,ks,f,t⟩:=x;exact .mk h0 hk
theorem Pln.kid(h:Pln x): ∀y∈x.kids,Pln y:=by cases h with|mk h0 hk=>exact hk
theorem Pln.nk(h:Pln x):x.kind=0->Nk x.text:=by cases h with|mk h0 hk=>exact h0
theorem arC(h:Rg x):lI (fun n=>xj n x) fun b=>b=true->Pln x:=by
 refine Rg.ind (P:=fun x=>lI (fun n=>xj n x) fun b=>b=true->Pln x) ?_ h;intro x hx ih;obtain⟨f1,_,_⟩:=hx.few
 have go:(x.kind=0->Nk x.text)->lI (fun n=>AC (xj n) n n 0 x) fun b=>b=true->Pln x:=fun h0=>by
  refine lI.zH (F:=fun n m=>AC (xj n) n m 0 x) ?_;refine lg.up (S:=Unit) (L:=fun n m i _=>AC (xj n) n m i x) x.kids.length (fun i _=> ∀y∈x.kids.take i,Pln y) _ ?_ ?_ 0 () (by omega) (by simp)
  ·intro i s hi hs next
   refine lg.lp (fun n m=>by simp only[P4,Db,mB];exact rfl) ?_;simp only[hi,Int.ofNat_lt,decide_true,jM];refine lg.idx hi (lg.lQ (ih _ (jJ hi)) fun b hb=>lg.p9 (fun hc=> ?_) fun _=>lg.pure fun h=>by cases h);rw[kO (by omega)];refine next () fun y hy=> ?_
   grind [jH]
  ·intro s hs;refine lg.lp (fun n m=>by simp only[P4,Db,mB];exact rfl) ?_;simp only[Int.lt_irrefl,decide_false,jN];rw[List.take_length] at hs;exact lg.pure fun _=> .of h0 hs
 refine lI.fn (fun n=>by simp only[xj,kG,OV,mB];exact rfl) ?_;refine lI.p9 (fun hk=>lI.p9 (fun _=>lI.pure fun h=>by cases h) fun h95=> ?_) fun hk=>go fun h=>absurd h (jT.1 hk)
 refine Ev.to (YO x.text) (lI.p9 (fun _=>lI.pure fun h=>by cases h) fun hkw=>go fun _=>⟨jT.1 h95,hkw⟩)
theorem Pln.two {k n:Int}{ns:List Str}{ls:List j7}{y:Syntax}(h:Pln (.mk k s n ns ls (x::y::ks) f t)):(∀z∈[x],Pln z)/\ ∀z∈[y],Pln z:=
 ⟨fun z hz=>by rw[jC.1 hz];exact h.kid x (by simp [Syntax.ww]),fun z hz=>by rw[jC.1 hz];exact h.kid y (by simp [Syntax.ww])⟩
theorem Pln.thr {k n:Int}{ns:List Str}{ls:List j7}{y w:Syntax}(h:Pln (.mk k s n ns ls [x,y,w] f t)): ∀z∈[w],Pln z:=fun z hz=>by rw[jC.1 hz];exact h.kid w (by simp [Syntax.ww])
theorem Sh.pl(h:Sh p n xs s k):(∀x∈xs,Pln x)->Sh Nk n xs s k:=by
 induction h with
 |nm h _ hn hl=>
  intro g;have g:=(g _ (jC.2 rfl)).nk rfl;exact .nm h g hn hl
 |hole=>exact fun _=> .hole
 |app _ _ i1 i2=>exact fun g=>have g:=(g _ (jC.2 rfl)).two; .app (i1 g.1) (i2 g.2)
 |agB hv _ i2=>exact fun g=> .agB hv (i2 (g _ (jC.2 rfl)).two.2)
 |lam hv _ hh _ i1 i2=>exact fun g=>have g:=(g _ (jC.2 rfl)).two; .lam hv (i1 g.1) hh (i2 g.2)
 |pi0 _ _ i1 i2=>exact fun g=>have g:=(g _ (jC.2 rfl)).two; .pi0 (i1 g.1) (i2 g.2)
 |pi hv hn _ _ i1 i2=>exact fun g=>have g:=(g _ (jC.2 rfl)).two; .pi hv hn (i1 g.1) (i2 g.2)
 |YR hv _ _ i1 i2=>exact fun g=>have g:=(g _ (jC.2 rfl)).two; .YR hv (i1 g.1) (i2 g.2)
 |pair _ _ i1 i2=>exact fun g=>have g:=(g _ (jC.2 rfl)).two; .pair (i1 g.1) (i2 g.2)
 |ww hn _ i1=>exact fun g=> .ww hn (i1 (g _ (jC.2 rfl)).kid)
 |agC hv _ _ i2 i3=>exact fun g=>have g:=g _ (jC.2 rfl); .agC hv (i2 g.two.2) (i3 g.thr)
 |Ni hv _ hh _ _ i1 i2 i3=>exact fun g=>have g:=g _ (jC.2 rfl); .Ni hv (i1 g.two.1) hh (i2 g.two.2) (i3 g.thr)
 |agD=>exact fun _=> .agD
 |sort hl=>exact fun _=> .sort hl
 |num hn=>exact fun _=> .num hn
 |Ob _ _ i1 i2=>exact fun g=>have g:=(g _ (jC.2 rfl)).two; .Ob (i1 g.1) (i2 g.2)
 |by_ _ i1=>exact fun g=> .by_ (i1 (g _ (jC.2 rfl)).kid)
 |ex hw _ i1=>exact fun g=> .ex hw (i1 (g _ (jC.2 rfl)).kid)
 |No hw _ i1=>exact fun g=> .No hw (i1 (g _ (jC.2 rfl)).kid)
 |blk _ i1=>exact fun g=> .blk (i1 (g _ (jC.2 rfl)).kid)
 |foc _ i1=>exact fun g=> .foc (i1 (g _ (jC.2 rfl)).kid)
 |agE=>exact fun _=> .agE
 |nms hw=>exact fun _=> .nms hw
 |up _ i1=>exact fun g=> .up (i1 g)
 |alt _ _ i1 i2=>exact fun g=>have g:=(g _ (jC.2 rfl)).two; .alt (i1 g.1) (i2 g.2)
 |nil=>exact fun _=> .nil
 |cons _ _ i1 i2=>exact fun g=> .cons (i1 fun z hz=>g z (by simp at hz;simp [hz])) (i2 fun z hz=>g z (by simp [hz]))
theorem aoF(hk:x.kids.length<=1000000)(h: ∀y∈x.kids,Ev (fun n=>oU n y) true){c:Int}(hc:c=x.kids.length):Ev (fun n=>Ar (oU n) n n c 0 x) true:=by
 subst hc;refine Ev.zH (F:=fun n m=>Ar (oU n) n m x.kids.length 0 x) ?_
 have key: ∀d i:Nat,i+d=x.kids.length->kR (fun n m=>Ar (oU n) n m x.kids.length (i:Int) x) true:=by
  intro d;induction d with
  |zero=>
   intro i hi;refine kR.lp (fun n m=>by simp only[PN,CV,mB];exact rfl) ?_
   grind [kR.pure]
  |succ d ih=>
   intro i hi;have hlt:i<x.kids.length:=by omega
   refine kR.lp (fun n m=>by simp only[PN,CV,mB];exact rfl) ?_;rw[jO (show(i:Int)<(x.kids.length:Int) by omega),kO (by omega)];exact kR.idx hlt (kR.lQ (h _ (jJ hlt)) (ih (i+1) (by omega)))
 exact key x.kids.length 0 (Nat.zero_add _)
theorem Sh.known(h:Sh p n xs s k):(∀x∈xs,Rg x)-> ∀x∈xs,Ev (fun n=>oU n x) true:=by
 have go: ∀{x:Syntax},Rg x->(∀y∈x.kids,Ev (fun n=>oU n y) true)->((x.kind=0\/x.kind=1\/x.kind=10\/x.kind=12\/x.kind=16)/\x.kids.length=0)\/(x.kind=11/\x.levels.length=1/\x.kids.length=0)\/((x.kind=7\/x.kind=8)/\x.kids.length=1)\/((x.kind=2\/x.kind=3\/x.kind=4\/x.kind=5\/x.kind=6\/x.kind=13)/\x.kids.length=2)\/(x.kind=9/\x.kids.length=3)\/x.kind=14\/(x.kind=15/\(x.text=[60,124,62]->x.kids.length=2))->Ev (fun n=>oU n x) true:=by
  intro x hr hy hc;have hl:=fun{c}=>aoF (c:=c) hr.few.1 hy
  refine Ev.fn (fun n=>by simp only[oU,kG,OO,mB];exact rfl) ?_;rcases hc with⟨h,e⟩|⟨h,e1,e⟩|⟨h,e⟩|⟨h,e⟩|⟨h,e⟩|h|⟨h,e⟩
  ·rcases h with h|h|h|h|h<;>(grind)
  ·grind
  ·rcases h with h|h<;>(grind)
  ·rcases h with h|h|h|h|h|h<;>(simp_all)
  ·simp_all
  ·simp_all
  ·simp only[h,Int.reduceBEq,jM,jN]
   grind
 have two: ∀{x a b:Syntax},Rg x->x.kids=[a,b]->((∀z∈[a],Rg z)-> ∀z∈[a],Ev (fun n=>oU n z) true)->((∀z∈[b],Rg z)-> ∀z∈[b],Ev (fun n=>oU n z) true)-> ∀y∈x.kids,Ev (fun n=>oU n y) true:=by
  intro x a b hr e i1 i2 y hy;have g:=hr.kid.1
  grind
 have hol: ∀g:Int,Ev (fun n=>oU n (.mk 1 [] 0 [] [] [] g g)) true:=fun g=>go (.mk (by simp) (by simp) (by simp) (by simp) (fun e=>by cases e) (Int.le_refl _) (by simp) (by simp)) (by simp [Syntax.ww]) (by simp [Syntax.ww])
 have one: ∀{x:Syntax},Rg x->((∀z∈x.kids,Rg z)-> ∀z∈x.kids,Ev (fun n=>oU n z) true)-> ∀y∈x.kids,Ev (fun n=>oU n y) true:=fun hr i=>i hr.kid.1
 induction h with
 |hole=>exact fun g z hz=>by obtain rfl:=jC.1 hz;exact go (g _ hz) (by simp [Syntax.ww]) (by simp [Syntax.ww])
 |agD=>exact fun g z hz=>by obtain rfl:=jC.1 hz;exact go (g _ hz) (by simp [Syntax.ww]) (by simp [Syntax.ww])
 |agE=>exact fun g z hz=>by obtain rfl:=jC.1 hz;exact go (g _ hz) (by simp [Syntax.ww]) (by simp [Syntax.ww])
 |nm _ _ _ _=>exact fun g z hz=>by obtain rfl:=jC.1 hz;exact go (g _ hz) (by simp [Syntax.ww]) (by simp [Syntax.ww])
 |sort _=>exact fun g z hz=>by obtain rfl:=jC.1 hz;exact go (g _ hz) (by simp [Syntax.ww]) (by simp [Syntax.ww])
 |num _=>exact fun g z hz=>by obtain rfl:=jC.1 hz;exact go (g _ hz) (by simp [Syntax.ww]) (by simp [Syntax.ww])
 |nms hw=>exact fun g z hz=>by obtain rfl:=jC.1 hz;exact go (g _ hz) (by simp [Syntax.ww]) (.inr (.inr (.inr (.inr (.inr (.inr ⟨rfl,fun e=>by have e:_=_:=e;subst e;have:=hw.ok.1;exact absurd this (by decide)⟩))))))
 |app _ _ i1 i2=>exact fun g z hz=>by obtain rfl:=jC.1 hz;exact go (g _ hz) (two (g _ hz) rfl i1 i2) (by simp [Syntax.ww])
 |pi0 _ _ i1 i2=>exact fun g z hz=>by obtain rfl:=jC.1 hz;exact go (g _ hz) (two (g _ hz) rfl i1 i2) (by simp [Syntax.ww])
 |pi _ _ _ _ i1 i2=>exact fun g z hz=>by obtain rfl:=jC.1 hz;exact go (g _ hz) (two (g _ hz) rfl i1 i2) (by simp [Syntax.ww])
 |YR _ _ _ i1 i2=>exact fun g z hz=>by obtain rfl:=jC.1 hz;exact go (g _ hz) (two (g _ hz) rfl i1 i2) (by simp [Syntax.ww])
 |pair _ _ i1 i2=>exact fun g z hz=>by obtain rfl:=jC.1 hz;exact go (g _ hz) (two (g _ hz) rfl i1 i2) (by simp [Syntax.ww])
 |Ob _ _ i1 i2=>exact fun g z hz=>by obtain rfl:=jC.1 hz;exact go (g _ hz) (two (g _ hz) rfl i1 i2) (by simp [Syntax.ww])
 |lam _ _ _ _ i1 i2=>exact fun g z hz=>by obtain rfl:=jC.1 hz;exact go (g _ hz) (two (g _ hz) rfl i1 i2) (by simp [Syntax.ww])
 |agB _ _ i2=>exact fun g z hz=>by obtain rfl:=jC.1 hz;exact go (g _ hz) (two (g _ hz) rfl (fun _ z hz=>by rw[jC.1 hz];exact hol _) i2) (by simp [Syntax.ww])
 |agC _ _ _ i2 i3=>
  intro g z hz;obtain rfl:=jC.1 hz;have gk:=(g _ hz).kid.1;refine go (g _ hz) (fun y hy=> ?_) (by simp [Syntax.ww]);rcases jF.1 hy with rfl|hy
  ·exact hol _
  grind
 |Ni _ _ _ _ _ i1 i2 i3=>
  intro g z hz;obtain rfl:=jC.1 hz;have gk:=(g _ hz).kid.1;refine go (g _ hz) (fun y hy=> ?_) (by simp [Syntax.ww]);rcases jF.1 hy with rfl|hy
  ·exact i1 (fun z hz=>gk z (by simp at hz;simp [Syntax.ww,hz])) _ (by simp)
  ·rcases jF.1 hy with rfl|hy
   ·exact i2 (fun z hz=>gk z (by simp at hz;simp [Syntax.ww,hz])) _ (by simp)
   grind
 |ww hn _ i1=>exact fun g z hz=>by obtain rfl:=jC.1 hz;exact go (g _ hz) (one (g _ hz) i1) (by simp only[Syntax.ww];simp;omega)
 |by_ _ i1=>exact fun g z hz=>by obtain rfl:=jC.1 hz;exact go (g _ hz) (one (g _ hz) i1) (by simp [Syntax.ww])
 |ex hw _ i1=>exact fun g z hz=>by obtain rfl:=jC.1 hz;exact go (g _ hz) (one (g _ hz) i1) (.inr (.inr (.inr (.inr (.inr (.inr ⟨rfl,fun e=>by have e:_=_:=e;subst e;exact absurd hw (by decide)⟩))))))
 |No hw _ i1=>exact fun g z hz=>by obtain rfl:=jC.1 hz;exact go (g _ hz) (one (g _ hz) i1) (.inr (.inr (.inr (.inr (.inr (.inr ⟨rfl,fun e=>by have e:_=_:=e;subst e;exact absurd hw (by decide)⟩))))))
 |blk _ i1=>exact fun g z hz=>by obtain rfl:=jC.1 hz;exact go (g _ hz) (one (g _ hz) i1) (.inr (.inr (.inr (.inr (.inr (.inr ⟨rfl,fun e=>by cases e⟩))))))
 |foc _ i1=>exact fun g z hz=>by obtain rfl:=jC.1 hz;exact go (g _ hz) (one (g _ hz) i1) (.inr (.inr (.inr (.inr (.inr (.inr ⟨rfl,fun e=>by cases e⟩))))))
 |up _ i1=>exact i1
 |alt _ _ i1 i2=>exact fun g z hz=>by obtain rfl:=jC.1 hz;exact go (g _ hz) (two (g _ hz) rfl i1 i2) (.inr (.inr (.inr (.inr (.inr (.inr ⟨rfl,fun _=>rfl⟩))))))
 |nil=>exact fun _ z hz=>by cases hz
 |cons _ _ i1 i2=>
  intro g z hz;rcases jF.1 hz with rfl|hz
  ·exact i1 (fun y hy=>g y (by simp at hy;simp [hy])) _ (by simp)
  grind
theorem ajd{c:Nat}: ∀{l:List Str},(∀s∈l,s.length<=c)->(W2 l).length<=l.length*(c+2)
 |[],_=>jE _
 |[s],h=>by grind [W2]
 |s::t::l,h=>by
  have h2:=ajd (l:=t::l) fun x hx=>h x (by simp [hx])
  grind [W2,Nat.add_mul]
theorem auU{a:j7}(h:W3 a)(hm:LSm a):(lvS a).length<=16500000:=by
 unfold LSm at hm;unfold lvS;rcases h with⟨h,_⟩|⟨h,_,h2⟩
 ·grind
 ·have:=ajd (c:=80) (l:=a.lz.map ZC) fun s hs=>by grind [at_len]
  grind
theorem aCd{ls:List j7}(h: ∀l∈ls,W3 l)(hm: ∀l∈ls,LSm l):(lsS ls).length<=3+16500002*ls.length:=by
 have:=ajd (c:=16500000) (l:=ls.map lvS) fun s hs=>by grind [auU]
 grind [lsS]
theorem Vb.len(h:Vb v):v.length<=64:=by
 rcases h with rfl|h
 ·decide
 ·exact h.1.1.2.1
theorem Ly {k n:Int}{ns:List Str}{ls:List j7}(g: ∀z∈[Syntax.mk k s n ns ls ks f t],Rg z)(i:(∀z∈ks,Rg z)->c<=20000000*(ks.map nds).sum):c+20000000*(1+ls.length+ns.length)<=20000000*([Syntax.mk k s n ns ls ks f t].map nds).sum:=by
 have h:=i (g _ (jC.2 rfl)).kid.1;have e:=auS (.mk k s n ns ls ks f t);simp [Syntax.ww] at e
 grind
theorem aje {y:Syntax}{a b:Nat}(i1:(∀z∈[x],Rg z)->a<=20000000*([x].map nds).sum)(i2:(∀z∈[y],Rg z)->b<=20000000*([y].map nds).sum)(g: ∀z∈[x,y],Rg z):a+b<=20000000*([x,y].map nds).sum:=by
 grind
theorem aCe {y w:Syntax}{a b:Nat}(i1:(∀z∈[x],Rg z)->a<=20000000*([x].map nds).sum)(i2:(∀z∈[y],Rg z)->b<=20000000*([y].map nds).sum)(i3:(∀z∈[w],Rg z)->c<=20000000*([w].map nds).sum)(g: ∀z∈[x,y,w],Rg z):a+b+c<=20000000*([x,y,w].map nds).sum:=by
 grind
theorem apM(h:nmB s=true):s.length<=64:=(Nm.of h).1.2.1
theorem Sh.len(h:Sh p n xs s k):(∀x∈xs,Rg x)->s.length+2*(3-n)<=20000000*(xs.map nds).sum:=by
 induction h with
 | @nm s n f t ls h _ hn hl=>
   intro g;have e:=Ly (c:=0) g fun _=>jE _
   have:=aCd hl (g _ (jC.2 rfl)).kid.2;have:=h.2.1
   grind
 |hole=>intro g;have e:=Ly (c:=0) g fun _=>jE _;grind
 |app _ _ i1 i2=>intro g;have e:=Ly g (aje i1 i2);grind
 |agB hv _ i2=>
  intro g;have e:=Ly g (aje (a:=0) (fun _=>jE _) i2);have:=hv.len
  grind
 |lam hv _ _ _ i1 i2=>intro g;have e:=Ly g (aje i1 i2);have:=hv.len;grind [jD]
 |pi0 _ _ i1 i2=>intro g;have e:=Ly g (aje i1 i2);grind
 |pi hv _ _ _ i1 i2=>intro g;have e:=Ly g (aje i1 i2);have:=hv.len;grind [jD]
 |YR hv _ _ i1 i2=>intro g;have e:=Ly g (aje i1 i2);have:=hv.len;grind [jD]
 |pair _ _ i1 i2=>intro g;have e:=Ly g (aje i1 i2);grind
 |ww _ _ i1=>intro g;have e:=Ly g i1;grind
 |agC hv _ _ i2 i3=>
  intro g;have e:=Ly g (aCe (a:=0) (fun _=>jE _) i2 i3);have:=hv.len
  grind [jD]
 |Ni hv _ _ _ _ i1 i2 i3=>intro g;have e:=Ly g (aCe i1 i2 i3);have:=hv.len;grind [jD]
 |agD=>intro g;have e:=Ly (c:=0) g fun _=>jE _;grind
 |sort hl=>
  intro g;have e:=Ly (c:=0) g fun _=>jE _
  have:=auU hl ((g _ (jC.2 rfl)).kid.2 _ (jC.2 rfl))
  grind [jD]
 | @num n f t hn=>
   intro g;have e:=Ly (c:=0) g fun _=>jE _
   have:=(Jd n.toNat).2.2.1 5 (by omega)
   grind
 |Ob _ _ i1 i2=>intro g;have e:=Ly g (aje i1 i2);grind
 |by_ _ i1=>intro g;have e:=Ly g i1;grind
 |agE=>intro g;have e:=Ly (c:=0) g fun _=>jE _;grind
 |ex hw _ i1=>
  intro g;have e:=Ly g i1;have:=apM (List.all_eq_true.1 (show exW.all nmB=true by decide) _ (jG.1 hw))
  grind
 | @nms w ns f t hw=>
   intro g;have e:=Ly (c:=0) g fun _=>jE _
   obtain⟨h1,h2⟩:=hw.ok;have:=apM h1
   have h3:(ns.flatMap (32:: ·)).length<=65*ns.length:=by
    clear e g hw;induction ns with
    |nil=>simp
    |cons v ns ih=>
     have hv:v.length<=64:=(h2 v (by simp)).elim (fun e=>by rw[e];decide) fun h=>h.1.2.1
     grind
   grind
 |No hw _ i1=>
  intro g;have e:=Ly g i1
  grind [jK]
 |blk _ i1=>intro g;have e:=Ly g i1;grind
 |foc _ i1=>intro g;have e:=Ly g i1;grind [jD]
 |up _ i1=>intro g;have:=i1 g;omega
 |alt _ _ i1 i2=>intro g;have e:=Ly g (aje i1 i2);grind
 |nil=>simp
 |cons _ _ i1 i2=>
  grind
theorem axO(c:UInt8):abT c=uX c:=by
 unfold abT uX aq6
 have:((c.toNat:Int)==95)=(c==95):=by
  rw[Bool.eq_iff_iff,jS,jS];exact⟨fun h=>UInt8.toNat_inj.1 (show c.toNat=(95:UInt8).toNat by show c.toNat=95;omega),fun h=>by rw[h];rfl⟩
 grind
theorem apN: ∀(s:Str)(b:Bool),FG b s=true->Kj s=s.length/\(b=true-> ∃c t,s=c::t/\uX c=true)
 |[],b,h=>by
  refine⟨by rw[AO];rfl,fun hb=> ?_⟩;rw[hb] at h;cases h
 |c::s,b,h=>by
  rw[FG,axO] at h
  have word:Cr c=true->Kj s=s.length->Kj (c::s)=(c::s).length:=fun hw h=>by
   grind [sC,pK,AO]
  cases hb:uX c with
  |true=>
   rw[hb] at h;exact⟨word (by unfold Cr;rw[hb];rfl) (apN s false h).1,fun _=>⟨c,s,rfl,hb⟩⟩
  |false=>
   rw[hb] at h;cases b with
   |true=>cases h
   |false=>
    rw[jN] at h;refine⟨?_,fun h=>by cases h⟩;cases h46:(c.toNat:Int)==46 with
    |true=>
     obtain rfl:c=46:=UInt8.toNat_inj.1 (show c.toNat=46 by have:=jS.1 h46;omega);obtain⟨h1,h2⟩:=apN s true h;obtain⟨d,t,rfl,hd⟩:=h2 rfl;rw[AO];show 0+(bif (46:UInt8)==46&&uX d then 1+Kj (d::t) else 0)=_
     grind
    |false=>
     rw[h46] at h;cases hw:((c.toNat:Int)==39)||(decide (48<=(c.toNat:Int))&&decide ((c.toNat:Int)<=57)) with
     |false=>rw[hw] at h;cases h
     |true=>
      rw[hw] at h;refine word ?_ (apN s false h).1;unfold Cr qH;simp [jS] at hw;rcases hw with hw|hw
      ·obtain rfl:c=39:=UInt8.toNat_inj.1 (show c.toNat=39 by omega);rfl
      grind
theorem auV(h:MR s=true):Wd s:=by
 unfold MR at h;rw[Bool.and_eq_true,jR] at h;obtain⟨h1,h2⟩:=apN s true h.1;exact⟨h1,by omega,h2 rfl⟩
theorem arD{n:jY}(h:xN n=0):Wd n.target:=by
 grind [xN,auV]
theorem amg{f t:Int}: ∀(l:List Syntax)(o:Syntax),CG o->(∀x∈l,CG x)->CG (afn o l f t)
 |[],_,h,_=>h
 |x::l,_,h,hl=>amg l _ (h.two (hl x (by simp)) fun h1 h2=>⟨_,_,.app h1 h2⟩) fun y hy=>hl y (by simp [hy])
theorem ahN{n:jY}{l:List Syntax}(hn:xN n=0)(hl: ∀x∈l,CG x):CG (WP n l f t):=amg l _ ⟨_,_,.nm (arD hn) trivial (.inl rfl) (by simp)⟩ hl
def G17(r:List Syntax):Prop:= ∀x∈r,CG x\/x.kind=17
def SI:Cmd->Out->Prop
 | .parts _ _ _ ops _ r,.ops l _ _=>G17 r->(∀x∈ops,CG x)-> ∀x∈l,CG x
 | .first _ r,.val x _ _=>G17 r->CG x
 | .level _ r,.val x _ _=>G17 r->CG x
 | .loop _ out _ r,.val x _ _=>G17 r->CG out->CG x
 |_,_=>True
theorem G17.suf{q r:List Syntax}(h:G17 r)(hs:q<:+r):G17 q:=fun x hx=>h x (hs.subset hx)
theorem Kk.sh{T:List jY}(g:ZA T){c:Cmd}{o:Out}(h:Kk T c o):SI c o:=by
 induction h with
 |WQ=>exact fun _ h=>h
 | @hole n ps i ops e r x h q o h1 h2 ih1 ih2=>
   rcases LG h2 with⟨q',rfl⟩|⟨l,e',q',rfl⟩
   ·trivial
   ·exact fun hr ho=>ih2 (hr.suf h1.suff) fun y hy=>(List.mem_append.1 hy).elim (ho y) fun hy=>by rw[jC.1 hy];exact ih1 hr
 | @sym n s ps i ops e y r o hs h1 h2 h3 ih=>
   rcases LG h3 with⟨q',rfl⟩|⟨l,e',q',rfl⟩
   ·trivial
   ·exact fun hr ho=>ih (hr.suf (List.suffix_cons _ _)) ho
 |QN hx=>exact fun hr=>(hr _ (by simp)).resolve_right hx
 |first hx hb h1 ih=>exact fun hr=>ahN (g.chk _ (QO hb).1) (ih hr (by simp))
 |stop _=>exact fun _ h=>h
 | @go m out has r n l e q o hg h1 h2 ih1 ih2=>
   rcases Lx h2 rfl with⟨q',rfl⟩|⟨x,h,q',rfl⟩
   ·trivial
   ·exact fun hr ho=>ih2 (hr.suf h1.suff) (ahN (g.chk _ (QP hg).1) (ih1 hr fun y hy=>by grind))
 | @level m r x h q o h1 h2 ih1 ih2=>
   rcases Lx h2 rfl with⟨q',rfl⟩|⟨x',h',q',rfl⟩
   ·trivial
   ·exact fun hr=>ih2 (hr.suf h1.suff) (ih1 hr)
 |_=>trivial
theorem auW(r:Str):Kj (r.take (Kj r))=Kj r:=by
 have h1:=ai7 (w:=32) rfl rfl [] r (Kj r) (Nat.le_refl _) (abS r);have h2:=ai7 (w:=32) rfl rfl [] (r.take (Kj r)) (r.take (Kj r)).length (abS _) (Nat.le_refl _)
 grind
theorem az3{c:UInt8}{t:Str}(h:(qn ld (c::t)).2.2=0)(hk:(qn ld (c::t)).1=0):Nm ((c::t).take (qn ld (c::t)).2.1):=by
 rw[qn] at h hk ⊢;cases hb:uX c with
 |true=>
  rw[hb] at h hk;revert h hk;have hl:((c::t).take (Kj (c::t))).length=Kj (c::t):=WY (abS _)
  have hw: ∀k,1<=k-> ∃d u,(c::t).take k=d::u/\uX d=true:=fun k hk=>by
   obtain⟨k,rfl⟩: ∃j,k=j+1:=⟨k-1,by omega⟩;exact⟨c,t.take k,rfl,hb⟩
  have h1:1<=Kj (c::t):=by
   grind [AO,sC,Cr,pK]
  unfold QR;cases h64:decide (64<Kj (c::t)) with
  |true=>intro h;cases h
  |false=>
   cases h95:(c::t).take (Kj (c::t))==[95] with
   |true=>intro _ h;cases h
   |false=>
    cases ld.contains ((c::t).take (Kj (c::t))) with
    |true=>intro _ h;cases h
    |false=>
     cases hkw:kws.contains ((c::t).take (Kj (c::t))) with
     |true=>intro _ h;cases h
     |false=>
      intro _ _;exact⟨⟨by grind [auW],by grind,hw _ h1⟩,jT.1 h95,hkw⟩
 |false=>
  grind [UT,MQ,ZB]
theorem az4: ∀(r:Str)(a:Nat),∀t∈(H7 (qn ld) r a).1,t.kind=0->Nm t.text:=by
 intro r;induction h:r.length using Nat.strongRecOn generalizing r with
 |ind d ih=>
  intro a
  match r,h with
  |[],_=>
   grind [H7]
  |q::t,h=>
   grind [H7,az3]
section
variable {T:List jY} (g:ab0 T)
include g
theorem tkn(hs:s.length<=65536)(h0:(wk (tz [] T) s).2.2=0):(Zc T s).S.Tkn where
 nm:=fun i hi=>by
  grind [Zc,wk,az4,Cx.S]
 num:=fun i hi=>by
  have ht:=g.tk hs h0;rcases Nat.lt_or_ge i (Zc T s).T.length with h|h
  ·exact ht.sok.num i h hi
  grind [Cx.S]
 np:=fun l hl h0=>by
  obtain⟨o,ho,e⟩:=g.npR (l:=l);have e:(Zc T s).S.np l=oz l o:=e;rw[e] at h0 ⊢;obtain⟨x,hh,rfl,e2⟩:=ab0.ahL ho h0;rw[e2];exact(ho.sh g.ok:SI (.level 0 l) (.val x hh [])) hl
theorem axP(hs:s.length<=65536)(h:(IL T s).2.2=0):CG (IL T s).1/\Rg (IL T s).1:=by
 obtain⟨x,j,h0,hx,hj,h4,he,hr⟩:=ary g hs h;rw[he];exact⟨(afC (tkn g hs h0) 200).1 0 x j hx,hr⟩
end
theorem ayc{Z:Cx}{e:Tk}: ∀(k:List Tk)(i:Nat),(Z.T.map KH).drop i=k++[e]->Is Z.S i k (i+k.length)/\Z.S.K (i+k.length)=e
 |[],i,h=>by
  refine⟨rfl,?_⟩;have h1:((Z.T.map KH).drop i)[0]? =some e:=by rw[h];rfl
  rw[List.getElem?_drop,List.getElem?_map] at h1;simp only[jL,Option.map_eq_some_iff] at h1;obtain⟨t,h1,h2⟩:=h1;show Z.S.K (i+0)=e;rw[jL,show Z.S.K i=(t.kind,t.text) by simp [Cx.S,h1]];exact h2
 |t::k,i,h=>by
  have h1:((Z.T.map KH).drop i)[0]? =some t:=by rw[h];rfl
  have hl:=congrArg List.length h;rw[List.length_drop,List.length_map,jD,jK,List.length_singleton] at hl;have h2:(Z.T.map KH).drop (i+1)=k++[e]:=by rw[<-List.drop_drop,h];rfl
  obtain⟨k1,k2⟩:=ayc k (i+1) h2;rw[List.getElem?_drop,List.getElem?_map] at h1;simp only[jL,Option.map_eq_some_iff] at h1;obtain⟨u,h1,h3⟩:=h1;rw[jK,show i+(k.length+1)=i+1+k.length by omega];exact⟨⟨(show Z.S.K i=(u.kind,u.text) by simp [Cx.S,h1]).trans h3,show i+1<Z.T.length by omega,k1⟩,k2⟩
theorem aDl:ab0 []:=⟨⟨by decide,by simp,rfl⟩,by simp⟩
theorem auX(h:Sh Nk 0 [x] s k)(hs:s.length<=65536):(IL [] s).2.2=7\/((IL [] s).2.2=0/\mz (IL [] s).1=mz x):=by
 have ht:GB (s++[]) (k++[(4,[])]):=h.tks (fun _=> .nil) .nil;rw[List.append_nil] at ht;have hS:wk (tz [] []) s=ZF [] s 0:=afv (ld:=[]) rfl hs;have h0:(wk (tz [] []) s).2.2=0:=by rw[hS];exact ht.1
 obtain⟨h1,h2⟩:=ayc (Z:=Zc [] s) k 0 (by
  show((wk (tz [] []) s).1.map KH).drop 0=_;rw[hS,List.drop_zero];exact ht.2)
 rw[Nat.zero_add] at h1 h2;have hp:=h.read (S:=(Zc [] s).S) (fun y=>rfl) 200 0 k.length h1 (.of h2 rfl);rcases hp with⟨a,ha⟩|⟨y,hy,he⟩
 ·exact .inl (by rw[auv h0 ha])
 ·refine .inr ?_;rw[aut h0 hy (by rw[h2])];exact⟨rfl,he⟩
theorem ajf(x0:Str)(x1:List jY)(h:(x0.length+1)+E7 jY.vI x1<=1048576)(_:True)(_: ∀y∈x1,y.wf): ∃n,I5 n x0 x1=some true:=by
 obtain⟨h1,h2⟩:=aB1 (x0:=x0) (x1:=x1) (by omega);refine acE (lI.ev ?_);refine lI.fn (fun n=>by simp only[I5,kG,FE,mB];exact rfl) ?_;refine lI.p9 (fun _=>auq rfl) fun hl=> ?_
 have hl:=of_decide_eq_false hl;refine lI.bind (axr h1 h2) fun b hb=> ?_
 cases b with
 |false=>exact auq rfl
 |true=>
  have g:ab0 x1:=⟨hb rfl,h2⟩;simp only[jM];refine Ev.to (apA g (by omega)) ?_;cases he:(IL x1 x0).2.2==0 with
  |false=>
   simp only[bne,he,Bool.not_false,jM];exact Ev.to QQ (lI.pure rfl)
  |true=>
   obtain⟨⟨t,k,hsh⟩,hr⟩:=axP g (s:=x0) (by omega) (jS.1 he);simp only[bne,he,Bool.not_true,jN];revert hsh hr;generalize (IL x1 x0).1=x;intro hr hsh;have hs1: ∀y∈[x],Rg y:=fun y hy=>by grind
   obtain⟨r,hr1,hr2⟩:=auT hr 400 (by decide) (by decide);have hk:Ev (fun n=>oU n x) true:=hsh.known hs1 x (jC.2 rfl)
   have tail:lI (fun n=>(xl n).bind fun y=>bif y then(qX n x 400).bind fun z=>bif decide (z<0) then some true else(oU n x).bind fun x=>some x else some false) (· =true):=
    Ev.to QQ (Ev.to hr2 (lI.p9 (fun _=>lI.pure rfl) fun _=>Ev.to hk (lI.pure rfl)))
   refine Ev.to hr2 (lI.p9 (fun _=>tail) fun hn=> ?_);obtain⟨b,Vh,hb2⟩:=arC hr;refine Ev.to hb2 ?_;cases b with
   |false=>exact tail
   |true=>
    refine Ev.to hk ?_;have hN:=hsh.pl fun y hy=>by grind
    have hlen:=hN.len hs1;have hsz:=hr1.2 (by grind);simp only[List.map_cons,List.map_nil,List.sum_cons,List.sum_nil] at hlen;have hn0:=of_decide_eq_false hn;refine Ev.to (hN.ev (by omega)) ?_;rcases Nat.lt_or_ge 65536 t.length with hlt|hle
    ·have hx:Ev (fun n=>Dz n t []) (X1,0,5):=by
      refine Ev.fn (fun n=>by simp only[Dz,kG,Jo,Cv];exact rfl) ?_;rw[jO (show(65536:Int)<(t.length:Int) by omega)];exact Ev.pure
     refine Ev.to hx (Ev.to QQ ?_);rw[jO (show(65536:Int)<(t.length:Int) by omega)];exact lI.pure rfl
    ·refine Ev.to (apA aDl hle) (Ev.to QQ ?_);rcases auX hN hle with h7|⟨h0,hst⟩
     ·rw[h7];exact lI.pure rfl
     ·rw[h0];have:=aus hr (IL [] t).1;rw[hst,WL] at this;exact Ev.to this (lI.pure rfl)
theorem agF(a b:Syntax)(ha:a.vI<ZG)(hb:b.vI<ZG):Ev (fun n=>DX n a b) true:=by
 refine lI.ev ?_;refine lI.fn (fun n=>by simp only[DX,kG,FF,mB];exact rfl) ?_;have awk: ∀{Q:Bool->Prop},Q true->lI (fun n=>(xl n).bind fun x=>some x) Q:=fun q=>Ev.tot ahF q
 refine lI.bind (ahM a 200 ha) fun x _=> ?_
 refine lI.p9 (fun _=>awk rfl) fun _=> ?_
 refine lI.bind (ahM b 200 hb) fun y _=> ?_
 refine lI.p9 (fun _=>awk rfl) fun _=> ?_
 have hs:Ev (fun n=>R0 n a b) (UR (mz a) (mz b)):=by
  refine Ev.fn (fun n=>by simp only[R0,kG,RZ,mB];exact rfl) ?_;exact Ev.bind (aur a b ha) Ev.pure
 refine Ev.tot (r:=true) (Ev.bind QQ ?_) rfl;simp only[jM];refine Ev.bind (apF a b ha) (Ev.bind hs ?_);rw[beq_self_eq_true];simp only[jM];have h2:=apF a a ha;rw[WL] at h2;exact Ev.bind h2 Ev.pure
theorem ajg(x0 x1:Syntax)(h:x0.vI+x1.vI<=1048576)(_:x0.wf)(_:x1.wf): ∃n,DX n x0 x1=some true:=
 acE (agF x0 x1 (by unfold ZG;omega) (by unfold ZG;omega))
end Go.Abs
