/- A part of the proof: plain facts. -/
import Derived.Test.YtpdbjkgnmjnebaaGreatDoorCoreC
import Derived.Test.YtpdbjkgnmjnebaaGreatDoorReadA
import Derived.KernelRfl
import Derived.Lib.ItoaNum
set_option linter.all false
open Option renaming bind_some→iO,isSome_none→kg
open List renaming drop_eq_getElem_cons→iP,getElem_mem→iQ,length_cons→iR,drop_eq_nil_of_le→iS,length_append→iT,length_singleton→iX,length_drop→iZ,length_nil→ja,drop_zero→jb,drop_drop→jg,mem_append→jh,append_assoc→jm,take_length→jp,suffix_refl→jq,take_succ_eq_append_getElem→jt,drop→jv,take→jw,getElem?_append_right→jy,mem_of_find?_eq_some→jA,contains_cons→jB,length_eq_zero_iff→jD,take_of_length_le→jE,map_cons→jF,mem_cons→jG,drop_length→jH,set_append_right→jI,append_nil→jM,mem_cons_of_mem→jN,nil_append→jO,drop_succ_cons→jP,take_zero→jQ,mem_cons_self→jS,mem_singleton→jT,any_cons→jU,all_nil→jV,suffix_cons→jW,any_nil→jX,cons_append→jY,length_map→j7,length_reverse→j9
open Bool renaming true_and→iU,not_false→iW,and_eq_true→jc,false_or→je,not_true→jf,or_false→jx,false_and→jC,or_eq_false_iff→jL,or_eq_true→j8,or_comm→kf
open SizeOf renaming sizeOf→iV
open Nat renaming le_refl→iY,strongRecOn→jk,zero_le→ju,add_zero→jJ,le_add_left→j6
open Int renaming toNat_natCast→jd,lt_irrefl→ji,ofNat_lt→jr,le_refl→jR,natCast_add→jZ
open Exists renaming imp→jj
open Go.Lib renaming join→jl,contains→jo,indexAny→jK,index→ke,itoa→kj
open Go.Utf8 renaming decode→jz
noncomputable section
namespace Go.Abs
variable {c:Bool}{sK:List lH}{N j k:Nat}{a:Syntax}{W:Type}{p:UInt8->Bool}{t:lH}
section
variable {R S T:Type}
def Ev(F:Nat->Option R)(r:R):Prop:=∃N,∀n,N<=n->F n=some r
def pX(F:Nat->Nat->Option R)(r:R):Prop:=∃N,∀n m,N<=n->N<=m->F n m=some r
theorem Ev.fn{F G:Nat->Option R}{r:R}(h:∀n,F (n+1)=G n)(hg:Ev G r):Ev F r:=by
 obtain⟨N,hN⟩:=hg;refine⟨N+1,fun n hn=>?_⟩;obtain⟨k,rfl⟩:∃k,n=k+1:=⟨n-1,by omega⟩;rw[h];exact hN k (by omega)
theorem Ev.Jh{F:Nat->Nat->Option R}{r:R}(h:pX F r):Ev (fun n=>F n n) r:=by
 obtain⟨N,hN⟩:=h;exact⟨N,fun n hn=>hN n n hn hn⟩
theorem pX.of1{F:Nat->Option R}{r:R}(h:Ev F r):pX (fun n _=>F n) r:=by
 obtain⟨N,hN⟩:=h;exact⟨N,fun n m hn _=>hN n hn⟩
theorem pX.lp{F G:Nat->Nat->Option R}{r:R}(h:∀n m,F n (m+1)=G n m)(hg:pX G r):pX F r:=by
 obtain⟨N,hN⟩:=hg;refine⟨N+1,fun n m hn hm=>?_⟩;obtain⟨k,rfl⟩:∃k,m=k+1:=⟨m-1,by omega⟩
 grind
theorem Ev.pure{r:R}:Ev (fun _=>some r) r:=⟨0,fun _ _=>rfl⟩
theorem pX.pure{r:R}:pX (fun _ _=>some r) r:=⟨0,fun _ _ _ _=>rfl⟩
theorem Ev.bind{F:Nat->Option S}{G:Nat->S->Option R}{x:S}{r:R}(h:Ev F x)(hg:Ev (fun n=>G n x) r):Ev (fun n=>(F n).bind (G n)) r:=by
 obtain⟨N,hN⟩:=h;obtain⟨M,hM⟩:=hg;refine⟨max N M,fun n hn=>?_⟩
 grind
theorem pX.bind{F:Nat->Nat->Option S}{G:Nat->Nat->S->Option R}{x:S}{r:R}(h:pX F x)(hg:pX (fun n m=>G n m x) r):pX (fun n m=>(F n m).bind (G n m)) r:=by
 obtain⟨N,hN⟩:=h;obtain⟨M,hM⟩:=hg;refine⟨max N M,fun n m hn hm=>?_⟩
 grind
theorem pX.nK{F:Nat->Option S}{G:Nat->Nat->S->Option R}{x:S}{r:R}(h:Ev F x)(hg:pX (fun n m=>G n m x) r):pX (fun n m=>(F n).bind (G n m)) r:=
 pX.bind (F:=fun n _=>F n) (pX.of1 h) hg
theorem Ev.congr{F G:Nat->Option R}{r:R}(hg:Ev G r)(h:∀n,F n=G n):Ev F r:=by
 rw[show F=G from funext h];exact hg
def lZ(F:Nat->Option R)(Q:R->Prop):Prop:=∃r,Q r/\Ev F r
def l1(F:Nat->Nat->Option R)(Q:R->Prop):Prop:=∃r,Q r/\pX F r
theorem lZ.fn{F G:Nat->Option R}{Q:R->Prop}(h:∀n,F (n+1)=G n)(hg:lZ G Q):lZ F Q:=jj (fun _ k=>⟨k.1,Ev.fn h k.2⟩) hg
theorem lZ.Jh{F:Nat->Nat->Option R}{Q:R->Prop}(h:l1 F Q):lZ (fun n=>F n n) Q:=jj (fun _ k=>⟨k.1,Ev.Jh k.2⟩) h
theorem l1.of1{F:Nat->Option R}{Q:R->Prop}(h:lZ F Q):l1 (fun n _=>F n) Q:=jj (fun _ k=>⟨k.1,pX.of1 k.2⟩) h
theorem l1.lp{F G:Nat->Nat->Option R}{Q:R->Prop}(h:∀n m,F n (m+1)=G n m)(hg:l1 G Q):l1 F Q:=jj (fun _ k=>⟨k.1,pX.lp h k.2⟩) hg
theorem lZ.pure{r:R}{Q:R->Prop}(h:Q r):lZ (fun _=>some r) Q:=⟨r,h,Ev.pure⟩
theorem l1.pure{r:R}{Q:R->Prop}(h:Q r):l1 (fun _ _=>some r) Q:=⟨r,h,pX.pure⟩
theorem lZ.bind{F:Nat->Option S}{G:Nat->S->Option R}{P:S->Prop}{Q:R->Prop}(h:lZ F P)(hg:∀x,P x->lZ (fun n=>G n x) Q):lZ (fun n=>(F n).bind (G n)) Q:=by
 obtain⟨x,hx,hF⟩:=h;obtain⟨r,hr,hG⟩:=hg x hx;exact⟨r,hr,Ev.bind hF hG⟩
theorem l1.bind{F:Nat->Nat->Option S}{G:Nat->Nat->S->Option R}{P:S->Prop}{Q:R->Prop}(h:l1 F P)(hg:∀x,P x->l1 (fun n m=>G n m x) Q):l1 (fun n m=>(F n m).bind (G n m)) Q:=by
 obtain⟨x,hx,hF⟩:=h;obtain⟨r,hr,hG⟩:=hg x hx;exact⟨r,hr,pX.bind hF hG⟩
theorem l1.nK{F:Nat->Option S}{G:Nat->Nat->S->Option R}{P:S->Prop}{Q:R->Prop}(h:lZ F P)(hg:∀x,P x->l1 (fun n m=>G n m x) Q):l1 (fun n m=>(F n).bind (G n m)) Q:=
 l1.bind (F:=fun n _=>F n) (l1.of1 h) hg
theorem lZ.Nu{xs:List S}{i:Nat}{G:Nat->S->Option R}{Q:R->Prop}(hi:i<xs.length)(hg:lZ (fun n=>G n xs[i]) Q):lZ (fun n=>(AU xs (i:Int)).bind (G n)) Q:=by
 grind [AU]
theorem l1.Nu{xs:List S}{i:Nat}{G:Nat->Nat->S->Option R}{Q:R->Prop}(hi:i<xs.length)(hg:l1 (fun n m=>G n m xs[i]) Q):l1 (fun n m=>(AU xs (i:Int)).bind (G n m)) Q:=by
 grind [AU]
theorem lZ.rQ{A B:Nat->Option R}{Q:R->Prop}(h1:c=true->lZ A Q)(h2:c=false->lZ B Q):lZ (fun n=>bif c then A n else B n) Q:=by
 cases c with
 |true=>exact h1 rfl
 |false=>exact h2 rfl
theorem l1.rQ{A B:Nat->Nat->Option R}{Q:R->Prop}(h1:c=true->l1 A Q)(h2:c=false->l1 B Q):l1 (fun n m=>bif c then A n m else B n m) Q:=by
 cases c with
 |true=>exact h1 rfl
 |false=>exact h2 rfl
theorem lZ.imp{F:Nat->Option R}{P Q:R->Prop}(h:lZ F P)(k:∀r,P r->Q r):lZ F Q:=jj (fun r x=>⟨k r x.1,x.2⟩) h
theorem lZ.ev{F:Nat->Option R}{r:R}(h:lZ F (· =r)):Ev F r:=by obtain⟨s,rfl,h⟩:=h;exact h
theorem Ev.tot{F:Nat->Option R}{r:R}{Q:R->Prop}(h:Ev F r)(q:Q r):lZ F Q:=⟨r,q,h⟩
theorem l1.up {L:Nat->Nat->Int->S->Option R} (len:Nat) (I:Nat->S->Prop) (Q:R->Prop)
 (h1:∀i s,i<len->I i s->(∀s',I (i+1) s'->l1 (fun n m=>L n m ((i+1:Nat):Int) s') Q)->l1 (fun n m=>L n m (i:Int) s) Q)
 (h2:∀s,I len s->l1 (fun n m=>L n m (len:Int) s) Q):∀(i:Nat)(s:S),i<=len->I i s->l1 (fun n m=>L n m (i:Int) s) Q:=by
 intro i s hi h;obtain⟨k,hk⟩:∃k,k=len-i:=⟨_,rfl⟩;induction k generalizing i s with
 |zero=>obtain rfl:i=len:=by omega
        exact h2 s h
 |succ k ih=>grind
theorem qo{n:Int}(h: -9223372036854775808<=n)(h2:n<=9223372036854775807):IntKind.i64.wrap n=n:=by
 grind [IntKind.wrap,IntKind.signed,IntKind.bits]
theorem mM{i:Nat}(h:i<9223372036854775807):IntKind.i64.wrap ((i:Int)+1)=((i+1:Nat):Int):=by
 grind [qo]
theorem yA{xs:List S}{i:Nat}(hi:i<xs.length):AU xs (i:Int)=some xs[i]:=by simp [AU]
theorem pX.Nu{xs:List S}{i:Nat}{G:Nat->Nat->S->Option R}{r:R}(hi:i<xs.length)(hg:pX (fun n m=>G n m xs[i]) r):pX (fun n m=>(AU xs (i:Int)).bind (G n m)) r:=by
 simp [yA hi];exact hg
end
section
theorem ahR(h:(List.range 256).all (fun n=>p (UInt8.ofNat n))=true)(c:UInt8):p c=true:=by
 have:=List.all_eq_true.1 h c.toNat (List.mem_range.2 c.toNat_lt)
 rwa [UInt8.ofNat_toNat]at this
def aN1(c:UInt8):Bool:=(decide (97<=c.toNat)&&decide (c.toNat<=122))||(decide (65<=c.toNat)&&decide (c.toNat<=90))
def ahS(c:UInt8):Bool:=aN1 c||c==95
def EA(c:UInt8):Bool:=decide (48<=c.toNat)&&decide (c.toNat<=57)
def auj(c:UInt8):Bool:=ahS c||(EA c||c==39)
def HH(c:UInt8):Int:=bif ahS c then 1 else bif EA c then 2 else bif c==34 then 3 else 0
theorem Yt(c:UInt8):Ev (fun n=>HZ n (c.toNat:Int)) (HH c):=by
 refine Ev.fn (fun n=>by simp only[HZ,l6,aaq,mB];exact rfl) ?_;refine Ev.congr Ev.pure (fun _=>?_)
 have:=ahR (p:=fun c=>decide ((bif decide (97<=(c.toNat:Int))then
  bif decide ((c.toNat:Int)<=122)then some 1
  else
   bif decide (65<=(c.toNat:Int))then
    bif decide ((c.toNat:Int)<=90)then some 1
    else
     bif (c.toNat:Int)==95 then some 1
     else
      bif decide (48<=(c.toNat:Int))then bif decide ((c.toNat:Int)<=57)then some 2 else bif (c.toNat:Int)==34 then some 3 else some 0
      else bif (c.toNat:Int)==34 then some 3 else some 0
   else
    bif (c.toNat:Int)==95 then some 1
    else
     bif decide (48<=(c.toNat:Int))then bif decide ((c.toNat:Int)<=57)then some 2 else bif (c.toNat:Int)==34 then some 3 else some 0
     else bif (c.toNat:Int)==34 then some 3 else some 0
  else
   bif decide (65<=(c.toNat:Int))then
    bif decide ((c.toNat:Int)<=90)then some 1
    else
     bif (c.toNat:Int)==95 then some 1
     else
      bif decide (48<=(c.toNat:Int))then bif decide ((c.toNat:Int)<=57)then some 2 else bif (c.toNat:Int)==34 then some 3 else some 0
      else bif (c.toNat:Int)==34 then some 3 else some 0
   else
    bif (c.toNat:Int)==95 then some 1
    else
     bif decide (48<=(c.toNat:Int))then bif decide ((c.toNat:Int)<=57)then some 2 else bif (c.toNat:Int)==34 then some 3 else some 0
     else bif (c.toNat:Int)==34 then some 3 else some 0)=some (HH c))) (kX) c
 exact kT this
theorem alH(c:UInt8)(k:Nat)(hk:k<256):((c.toNat:Int)==(k:Int))=(c==UInt8.ofNat k):=by
 rw[Bool.eq_iff_iff];constructor
 ·grind [UInt8.ofNat_toNat]
 simp_all [Nat.mod_eq_of_lt]
theorem ac2(c:UInt8):(HH c==1)=ahS c:=by grind [HH]
theorem ac3(c:UInt8):(HH c==2)=EA c:=by
 have:=ahR (p:=fun c=>(HH c==2)==EA c) (kX) c;exact eq_of_beq this
theorem aii(c:UInt8):Ev (fun n=>Dc n (c.toNat:Int)) (auj c):=by
 refine Ev.fn (fun n=>by simp only[Dc,l6,XP,mB];exact rfl) ?_;refine Ev.bind (Yt c) ?_;rw[ac2];unfold auj;cases ahS c with
 |true=>exact Ev.pure
 |false=>
  simp only[kQ,je];refine Ev.bind (Yt c) ?_;rw[ac3];cases EA c with
  |true=>exact Ev.pure
  |false=>
   simp only[kQ,je];rw[show((c.toNat:Int)==39)=(c==39)from alH c 39 (by decide)];exact Ev.pure
def aAD:lH:=[33,35,36,37,38,42,43,45,47,58,60,61,62,63,64,92,94,124,126]
def kws:List lH:=[[102,117,110],[108,101,116],[105,110],[83,105,103,109,97],[80,114,111,112],[84,121,112,101],
       [98,121],[97,120,105,111,109],[100,101,102],[116,104,101,111,114,101,109],
       [105,110,100,117,99,116,105,118,101],[102,117,110,99,116,105,111,110],[97,110,100],
       [101,110,100],[99,108,97,115,115],[105,110,115,116,97,110,99,101],
       [110,111,116,97,116,105,111,110],[110,97,109,101,115,112,97,99,101],[111,112,101,110],
       [99,104,101,99,107],[101,118,97,108],[105,109,112,111,114,116]]
def D7:List lH:=[[40],[41],[40,41],[123],[125],[91],[93],[44],[59],[58],[58,61],[45,62],[61,62],[124],[64],
     [43],[95],[46,123],[46,49],[46,50],[60,124,62]]
theorem aHP(k:Nat):Ur (k+80)=some D7:=kX
theorem asG:Ev (fun n=>Ur n) D7:=by
 refine⟨80,fun n hn=>?_⟩;obtain⟨k,rfl⟩:∃k,n=k+80:=⟨n-80,by omega⟩;exact aHP k
def LV:List (lH×Bool):=kws.map fun s=>(s,true)
theorem azz(k:Nat):Lv (k+250)=some ((LV,()),()):=kX
theorem anB:Ev (fun n=>Lv n) ((LV,()),()):=by
 refine⟨250,fun n hn=>?_⟩;obtain⟨k,rfl⟩:∃k,n=k+250:=⟨n-250,by omega⟩;exact azz k
theorem akl(s:lH):∀xs:List lH,(qw s (xs.map fun x=>(x,true))).getD false=xs.contains s
 |[]=>rfl
 |x::xs=>by
  rw[jF,qw,jB];cases s==x with
  |true=>rfl
  |false=>exact akl s xs
theorem aqq(s:lH):Ev (fun n=>M9 n s) (kws.contains s):=by
 refine Ev.fn (fun n=>by simp only[M9,l6,Vz,mB];exact rfl) ?_;refine Ev.bind anB ?_;rw[<-akl];exact Ev.pure
abbrev big:Nat:=4611686018427387904
theorem zu{s:lH}(h:k<s.length):s.drop k=s[k]::s.drop (k+1):=iP h
def zX(p:UInt8->Bool)(r:lH):Nat:=(r.takeWhile p).length
theorem aw4(p:UInt8->Bool):zX p []=0:=rfl
theorem EQ(p:UInt8->Bool)(c:UInt8)(r:lH):zX p (c::r)=bif p c then zX p r+1 else 0:=by
 grind [zX,List.takeWhile_cons]
theorem Z0(p:UInt8->Bool):∀r:lH,zX p r<=r.length
 |[]=>iY _
 |c::r=>by rw[EQ];have:=Z0 p r;grind
theorem aEL{R:Type}{s:lH}(hs:s.length<big)(p:UInt8->Bool){L:Nat->Nat->Int->Option R}{r:R}
 (step:∀k:Nat,∀hk:k<s.length,p s[k]=true->pX (fun n m=>L n m ((k+1:Nat):Int)) r->pX (fun n m=>L n m (k:Int)) r)
 (stop:∀k:Nat,k<=s.length->(∀hk:k<s.length,p s[k]=false)->k=N->pX (fun n m=>L n m (k:Int)) r):
 ∀k:Nat,k<=s.length->k+zX p (s.drop k)=N->pX (fun n m=>L n m (k:Int)) r:=by
 have key:∀d k:Nat,k+d=s.length->k+zX p (s.drop k)=N->pX (fun n m=>L n m (k:Int)) r:=by
  intro d;induction d with
  |zero=>
   grind [aw4]
  |succ d ih=>
   intro k hk hN;have q9:k<s.length:=by omega
   rw[zu q9,EQ]at hN
   grind
 intro k hk hN;exact key (s.length-k) k (by omega) hN
def ajy(r:lH):Nat:=zX auj r
def nmT(r:lH):Nat:=
 match h:r.drop (ajy r)with
 |d::c::t=>bif d==46&&ahS c then ajy r+(1+nmT (c::t))else ajy r
 |_=>ajy r
termination_by r.length
decreasing_by
 grind [iR]
def tlT:lH->Nat
 |d::c::t=>bif d==46&&ahS c then 1+nmT (c::t)else 0
 |_=>0
theorem auk(r:lH):nmT r=ajy r+tlT (r.drop (ajy r)):=by
 grind [nmT,tlT]
theorem aqr(r:lH):ajy r<=r.length:=Z0 _ _
theorem aEM:∀r:lH,tlT r<=r.length:=by
 intro r;induction h:r.length using jk generalizing r with
 |ind k ih=>
  unfold tlT
  grind [aqr,auk]
theorem aEN(r:lH):nmT r<=r.length:=by
 grind [aqr,aEM,auk]
def Z1{R:Type}(F:Nat->Nat->Nat->Option R)(r:R):Prop:=∃N,∀n m p,N<=n->N<=m->N<=p->F n m p=some r
section ev3
variable {R S:Type}
theorem Z1.lp{F G:Nat->Nat->Nat->Option R}{r:R}(h:∀n m p,F n m (p+1)=G n m p)(hg:Z1 G r):Z1 F r:=by
 obtain⟨N,hN⟩:=hg;refine⟨N+1,fun n m p h1 h2 h3=>?_⟩;obtain⟨q,rfl⟩:∃q,p=q+1:=⟨p-1,by omega⟩
 grind
theorem Z1.to2{F:Nat->Nat->Nat->Option R}{r:R}(h:Z1 F r):pX (fun n m=>F n m n) r:=by
 obtain⟨N,hN⟩:=h;exact⟨N,fun n m h1 h2=>hN n m n h1 h2 h1⟩
theorem Z1.Jh{F:Nat->Nat->Option R}{r:R}(h:pX F r):Z1 (fun n m _=>F n m) r:=by
 obtain⟨N,hN⟩:=h;exact⟨N,fun n m p h1 h2 _=>hN n m h1 h2⟩
theorem Z1.pure{r:R}:Z1 (fun _ _ _=>some r) r:=⟨0,fun _ _ _ _ _ _=>rfl⟩
theorem Z1.nK{F:Nat->Option S}{G:Nat->Nat->Nat->S->Option R}{x:S}{r:R}(h:Ev F x)(hg:Z1 (fun n m p=>G n m p x) r):Z1 (fun n m p=>(F n).bind (G n m p)) r:=by
 obtain⟨N,hN⟩:=h;obtain⟨M,hM⟩:=hg;refine⟨max N M,fun n m p h1 h2 h3=>?_⟩
 grind
theorem Z1.Nu{xs:List S}{i:Nat}{G:Nat->Nat->Nat->S->Option R}{r:R}(hi:i<xs.length)(hg:Z1 (fun n m p=>G n m p xs[i]) r):Z1 (fun n m p=>(AU xs (i:Int)).bind (G n m p)) r:=by
 grind [AU]
end ev3
theorem aCe{R:Type}{s:lH}(p:UInt8->Bool){L:Nat->Nat->Nat->Int->Option R}{r:R}
 (step:∀k:Nat,∀hk:k<s.length,p s[k]=true->Z1 (fun n m q=>L n m q ((k+1:Nat):Int)) r->Z1 (fun n m q=>L n m q (k:Int)) r)
 (stop:∀k:Nat,k<=s.length->(∀hk:k<s.length,p s[k]=false)->k=N->Z1 (fun n m q=>L n m q (k:Int)) r):
 ∀k:Nat,k<=s.length->k+zX p (s.drop k)=N->Z1 (fun n m q=>L n m q (k:Int)) r:=by
 have key:∀d k:Nat,k+d=s.length->k+zX p (s.drop k)=N->Z1 (fun n m q=>L n m q (k:Int)) r:=by
  intro d;induction d with
  |zero=>
   grind [aw4]
  |succ d ih=>
   intro k hk hN;have q9:k<s.length:=by omega
   rw[zu q9,EQ]at hN
   grind
 intro k hk hN;exact key (s.length-k) k (by omega) hN
abbrev Scn:=(lH×Int×Unit)×List (lH×Bool)×List (lH×Bool)×List (lH×Bool)×Unit
def scn(s:lH)(uV:Int)(r1 r2 r3:List (lH×Bool)):Scn:=((s,uV,()),r1,r2,r3,())
def pk(x:Scn)(r:Int×Int×Int):Scn×Int×Int×Int×Unit:=(x,r.1,r.2.1,r.2.2,())
def asH(s:lH)(uV:Nat)(r1 r2:List (lH×Bool))(to:Nat):Int×Int×Int:=
 bif decide ((64:Int)<(((s.take to).drop uV).length:Int))then(0,uV,5)
 else bif (s.take to).drop uV==[95] then(2,to,0)
 else bif (qw ((s.take to).drop uV) r2).getD false then(2,to,0)
 else bif (qw ((s.take to).drop uV) r1).getD false then(3,to,0)
 else(0,to,0)
theorem aHQ (s:lH) (hs:s.length<big) (uV:Nat) (r1 r2 r3:List (lH×Bool)) (ha:uV<=s.length):
 Ev (fun n=>IP n s (uV:Int) r1 r2 r3) (pk (scn s uV r1 r2 r3) (asH s uV r1 r2 (uV+nmT (s.drop uV)))):=by
 simp only[big]at hs
 have CF: ∀to:Nat,uV<=to->to<=s.length->Z1 (fun n m p=>bif decide ((0:Int)<=(uV:Int)/\(uV:Int)<=(to:Int)/\(to:Int)<=(s.length:Int)) then
  bif decide ((64:Int)<((jv (uV:Int).toNat (jw (to:Int).toNat s)).length:Int))then
   some (((s,(uV:Int),()),r1,r2,r3,()),(0:Int),(uV:Int),(5:Int),())
  else
   bif jv (uV:Int).toNat (jw (to:Int).toNat s)==[95] then
    some (((s,(uV:Int),()),r1,r2,r3,()),(2:Int),(to:Int),(0:Int),())
   else
    bif (qw (jv (uV:Int).toNat (jw (to:Int).toNat s)) r2).getD false then
     some (((s,(uV:Int),()),r1,r2,r3,()),(2:Int),(to:Int),(0:Int),())
    else
     bif (qw (jv (uV:Int).toNat (jw (to:Int).toNat s)) r1).getD false then
      some (((s,(uV:Int),()),r1,r2,r3,()),(3:Int),(to:Int),(0:Int),())
     else some (((s,(uV:Int),()),r1,r2,r3,()),(0:Int),(to:Int),(0:Int),())
  else none) (pk (scn s uV r1 r2 r3) (asH s uV r1 r2 to)):=by
  intro to h1 h2;have e:decide ((0:Int)<=(uV:Int)/\(uV:Int)<=(to:Int)/\(to:Int)<=(s.length:Int))=true:=kR (by omega);simp only[e,kP,jd];unfold asH;cases decide ((64:Int)<(((s.take to).drop uV).length:Int))with
  |true=>exact Z1.pure
  |false=>
   cases (s.take to).drop uV==[95]with
   |true=>exact Z1.pure
   |false=>
    cases (qw ((s.take to).drop uV) r2).getD false with
    |true=>exact Z1.pure
    |false=>
     cases (qw ((s.take to).drop uV) r1).getD false with
     |true=>exact Z1.pure
     |false=>exact Z1.pure
 have outer: ∀k:Nat,uV<=k->k<=s.length->pX (fun n m=>vR n m (k:Int) s (uV:Int) r1 r2 r3) (pk (scn s uV r1 r2 r3) (asH s uV r1 r2 (k+nmT (s.drop k)))):=by
  intro k;induction h:s.length-k using jk generalizing k with
  |ind d ih=>
   intro hak hk;refine pX.lp (G:=fun n m=>xO n (vR n m) n (k:Int) s (uV:Int) r1 r2 r3) (fun n m=>by simp_all [ace,Eh]) ?_;refine Z1.to2 (F:=fun n m p=>xO n (vR n m) p (k:Int) s (uV:Int) r1 r2 r3) ?_
   have agl:∀q:Nat,k<=q->q=k+ajy (s.drop k)->k+nmT (s.drop k)=q+tlT (s.drop q):=by
    grind [auk,jg]
   refine aCe (s:=s) auj (L:=fun n m p k=>xO n (vR n m) p k s (uV:Int) r1 r2 r3) (N:=k+ajy (s.drop k)) ?_ ?_ k hk rfl
   ·intro q q9 hp next
    refine Z1.lp (fun n m p=>by simp only[On,Be,mB];exact rfl) ?_;have e:decide ((q:Int)<(s.length:Int))=true:=kR (by omega);simp only[e,kP];refine Z1.Nu q9 (Z1.nK (aii _) ?_);rw[hp,mM (by omega)]
    grind
   ·intro q hle hp hN;have hq:=aqr (s.drop k);rw[iZ]at hq;rw[agl q (by omega) hN];refine Z1.lp (fun n m p=>by simp only[On,Be,mB];exact rfl) ?_;rw[mM (by omega)];have stop:tlT (s.drop q)=0->q+tlT (s.drop q)=q:=by omega
    by_cases q9:q<s.length
    ·have e:decide ((q:Int)<(s.length:Int))=true:=kR (by omega);simp only[e,kP];refine Z1.Nu q9 (Z1.nK (aii _) ?_);rw[hp q9];simp only[kQ];by_cases h1:q+1<s.length
     ·have e1:decide ((s.length:Int)<=((q+1:Nat):Int))=false:=kS (by omega);simp only[e1,kQ];refine Z1.Nu q9 ?_;rw[show((s[q].toNat:Int) !=46)= !(s[q]==46)from by rw[bne,show((s[q].toNat:Int)==46)=(s[q]==46)from alH _ 46 (by decide)]];rw[zu q9,zu h1];simp only[tlT];cases s[q]==46 with
      |false=>
       simp only[iW,kP,jC,kQ,jJ];exact CF q (by omega) hle
      |true=>
       simp only[jf,kQ,iU];refine Z1.Nu h1 (Z1.nK (Yt _) ?_);rw[bne,ac2];cases ahS s[q+1]with
       |false=>
        simp only[iW,kP,kQ,jJ];exact CF q (by omega) hle
       |true=>
        simp only[jf,kQ,kP];have:=ih (s.length-(q+1)) (by omega) (q+1) rfl (by omega) (by omega);rw[zu h1]at this
        grind [Z1.Jh]
     ·have e1:decide ((s.length:Int)<=((q+1:Nat):Int))=true:=kR (by omega)
      have:tlT (s.drop q)=0:=by
       have hl:(s.drop q).length<=1:=by rw[iZ];omega
       match s.drop q,hl with
       |[],_=>rfl
       |[_],_=>rfl
       |_::_::_,hl=>simp at hl
      rw[stop this];simp only[e1,kP];exact CF q (by omega) hle
    ·have e:decide ((q:Int)<(s.length:Int))=false:=kS (by omega);have e1:decide ((s.length:Int)<=((q+1:Nat):Int))=true:=kR (by omega);rw[iS (show s.length<=q by omega)];simp only[e,e1,kP,kQ,tlT,jJ];exact CF q (by omega) hle
 refine Ev.fn (fun n=>by simp only[IP,l6,Lx,mC];exact rfl) ?_
 grind [Ev.Jh]
def aul(r:lH):Int×Nat×Int:=
 bif decide (6<zX EA r)then(0,0,5)
 else bif decide (1<zX EA r)&&r.head?==some 48 then(0,0,4)
 else match r.drop (zX EA r)with
  |d::_=>bif ahS d||d==39 then(0,zX EA r,4)else(1,zX EA r,0)
  |[]=>(1,zX EA r,0)
def aw5(uV:Nat)(r:Int×Nat×Int):Int×Int×Int:=(r.1,((uV+r.2.1:Nat):Int),r.2.2)
theorem aEO{a b:Nat}(h:b<=a)(ha:a<big):IntKind.i64.wrap ((a:Int)-(b:Int))=((a-b:Nat):Int):=by
 grind [qo]
theorem aCf (s:lH) (hs:s.length<big) (uV:Nat) (r1 r2 r3:List (lH×Bool)) (ha:uV<s.length):
 Ev (fun n=>Fa n s (uV:Int) r1 r2 r3) (pk (scn s uV r1 r2 r3) (aw5 uV (aul (s.drop uV)))):=by
 refine Ev.fn (fun n=>by simp only[Fa,l6,IS,mC];exact rfl) ?_;have hr:=Z0 EA (s.drop uV);rw[iZ]at hr;have hd0:s.drop uV=s[uV]::s.drop (uV+1):=zu ha;refine Ev.Jh (F:=fun n m=>yV n m (uV:Int) s (uV:Int) r1 r2 r3) ?_;have hb:s.length<4611686018427387904:=hs
 have CF: ∀q:Nat,q=uV+zX EA (s.drop uV)->(∀hq:q<s.length,EA s[q]=false)->pX (fun n m=>bif decide (6<IntKind.i64.wrap ((q:Int)-(uV:Int))) then some (((s,(uV:Int),()),r1,r2,r3,()),(0:Int),(uV:Int),(5:Int),())
  else
   bif decide (1<IntKind.i64.wrap ((q:Int)-(uV:Int))) then
    (AU s (uV:Int)).bind fun x=>
      bif (x.toNat:Int)==48 then some (((s,(uV:Int),()),r1,r2,r3,()),(0:Int),(uV:Int),(4:Int),())
      else
       bif decide ((q:Int)<(s.length:Int))then
        (AU s (q:Int)).bind fun x=>
          (Dc n (x.toNat:Int)).bind fun x=>
            bif x then some (((s,(uV:Int),()),r1,r2,r3,()),(0:Int),(q:Int),(4:Int),())
            else some (((s,(uV:Int),()),r1,r2,r3,()),(1:Int),(q:Int),(0:Int),())
       else some (((s,(uV:Int),()),r1,r2,r3,()),(1:Int),(q:Int),(0:Int),())
   else
    bif decide ((q:Int)<(s.length:Int))then
     (AU s (q:Int)).bind fun x=>
       (Dc n (x.toNat:Int)).bind fun x=>
         bif x then some (((s,(uV:Int),()),r1,r2,r3,()),(0:Int),(q:Int),(4:Int),())
         else some (((s,(uV:Int),()),r1,r2,r3,()),(1:Int),(q:Int),(0:Int),())
    else some (((s,(uV:Int),()),r1,r2,r3,()),(1:Int),(q:Int),(0:Int),())) (pk (scn s uV r1 r2 r3) (aw5 uV (aul (s.drop uV)))):=by
  intro q hq hdq
  have aim:IntKind.i64.wrap ((q:Int)-(uV:Int))=((zX EA (s.drop uV):Nat):Int):=by
   rw[aEO (by omega) (by simp only[big];omega)];congr 1;omega
  have e6:decide ((6:Int)<((zX EA (s.drop uV):Nat):Int))=decide (6<zX EA (s.drop uV)):=decide_eq_decide.2 (by omega);have e1:decide ((1:Int)<((zX EA (s.drop uV):Nat):Int))=decide (1<zX EA (s.drop uV)):=decide_eq_decide.2 (by omega)
  have rest:pX (fun n m=>bif decide ((q:Int)<(s.length:Int))then
        (AU s (q:Int)).bind fun x=>
          (Dc n (x.toNat:Int)).bind fun x=>
            bif x then some (((s,(uV:Int),()),r1,r2,r3,()),(0:Int),(q:Int),(4:Int),())
            else some (((s,(uV:Int),()),r1,r2,r3,()),(1:Int),(q:Int),(0:Int),())
        else some (((s,(uV:Int),()),r1,r2,r3,()),(1:Int),(q:Int),(0:Int),())) (pk (scn s uV r1 r2 r3) (aw5 uV (match (s.drop uV).drop (zX EA (s.drop uV))with
  |d::_=>bif ahS d||d==39 then(0,zX EA (s.drop uV),4)else(1,zX EA (s.drop uV),0)
  |[]=>(1,zX EA (s.drop uV),0)))):=by
   rw[jg,<-hq];by_cases q9:q<s.length
   ·have e:decide ((q:Int)<(s.length:Int))=true:=kR (by omega);simp only[e,kP,zu q9];refine pX.Nu q9 (pX.nK (aii _) ?_);have hd:=hdq q9;unfold auj;rw[hd,je];cases (ahS s[q]||s[q]==39)with
    |true=>simp only[kP];rw[show(q:Int)=((uV+zX EA (s.drop uV):Nat):Int)from by rw[hq]];exact pX.pure
    |false=>simp only[kQ];rw[show(q:Int)=((uV+zX EA (s.drop uV):Nat):Int)from by rw[hq]];exact pX.pure
   ·have e:decide ((q:Int)<(s.length:Int))=false:=kS (by omega);simp only[e,kQ,iS (show s.length<=q by omega)];rw[show(q:Int)=((uV+zX EA (s.drop uV):Nat):Int)from by rw[hq]];exact pX.pure
  unfold aul;simp only[aim,e6,e1];cases decide (6<zX EA (s.drop uV))with
  |true=>simp only[kP];exact pX.pure
  |false=>
   simp only[kQ];cases decide (1<zX EA (s.drop uV))with
   |false=>grind
   |true=>
    simp only[kP,iU];refine pX.Nu ha ?_;rw[show((s[uV].toNat:Int)==48)=(s[uV]==48)from alH _ 48 (by decide)];have hh:((s.drop uV).head?==some 48)=(s[uV]==48):=by rw[hd0];rfl
    rw[hh];cases s[uV]==48 with
    |true=>simp only[kP];exact pX.pure
    |false=>simp only[kQ];exact rest
 refine aEL hs EA (L:=fun n m k=>yV n m k s (uV:Int) r1 r2 r3) (N:=uV+zX EA (s.drop uV)) ?_ ?_ uV (by omega) rfl
 ·intro q q9 hp next
  refine pX.lp (fun n m=>by simp only[Mi,yU,mB];exact rfl) ?_;have e:decide ((q:Int)<(s.length:Int))=true:=kR (by omega);simp only[e,kP];refine pX.Nu q9 (pX.nK (Yt _) ?_);rw[ac3,hp,mM (by omega)]
  grind
 ·intro q hle hp hN;refine pX.lp (fun n m=>by simp only[Mi,yU,mB];exact rfl) ?_;by_cases q9:q<s.length
  ·have e:decide ((q:Int)<(s.length:Int))=true:=kR (by omega);have f:=CF q hN hp;simp only[e,kP]at f ⊢;refine pX.Nu q9 (pX.nK (Yt _) ?_);rw[ac3,hp q9]
   grind
  ·have e:decide ((q:Int)<(s.length:Int))=false:=kS (by omega);have f:=CF q hN hp
   grind
def whB(c:UInt8):Bool:=c==32||(c==9||(c==13||c==10))
def n10(c:UInt8):Bool:= !(c==10)
theorem aAE(c:UInt8):n10 c= !(c==10):=rfl
def AC:Bool->lH->Nat
 |_,[]=>0
 |true,x::r=>bif x==10 then AC false r+1 else AC true r+1
 |false,x::r=>bif whB x then AC false r+1 else bif x==45&&r.head?==some 45 then AC true r+1 else 0
theorem aCg(b:Bool):AC b []=0:=by cases b<;>rfl
theorem ac4:∀(b:Bool)(r:lH),AC b r<=r.length
 |b,[]=>by exact iY _
 |true,x::r=>by
  rw[AC];have h1:=ac4 false r;have h2:=ac4 true r
  grind
 |false,x::r=>by
  rw[AC];have h1:=ac4 false r;have h2:=ac4 true r
  grind
theorem aqs:∀r:lH,AC true r=zX n10 r+AC false (r.drop (zX n10 r))
 |[]=>rfl
 |x::r=>by
  rw[AC,EQ,aAE];cases hx:x==10 with
  |true=>
   grind [AC,whB]
  |false=>
   simp only[kQ,iW,kP];rw[aqs r,jP];omega
theorem aCh{r:lH}(h:r.head?=some 45)(h2:(r.drop 1).head?=some 45):AC false r=AC true r:=by
 match r,h with
 |x::t,h=>
  obtain rfl:x=45:=by simpa using h
  have h2:t.head?=some 45:=h2;rw[AC,AC,h2];rfl
theorem azA{x:UInt8}{r:lH}(h:whB x=true):AC false (x::r)=AC false r+1:=by rw[AC,h,kP]
theorem aCi{x:UInt8}{r:lH}(h:whB x=false)(h2:(x==45&&r.head?==some 45)=false):AC false (x::r)=0:=by grind [AC]
theorem aHR{s:lH}(h:k<s.length)(e:s[k]=45):0<zX n10 (s.drop k):=by
 grind [zu,EQ,n10]
theorem aw6:∀r:lH,(ke r [10]= -1/\zX n10 r=r.length)\/(ke r [10]=(zX n10 r:Int)/\zX n10 r<r.length)
 |[]=>.inl ⟨rfl,rfl⟩
 |x::r=>by
  rw[EQ];unfold ke
  have e:([10]:lH).isPrefixOf (x::r)=(x==10):=by
   grind
  rw[e,aAE];cases x==10 with
  |true=>exact .inr ⟨rfl,by simp⟩
  |false=>
   have:=aw6 r
   grind
theorem aHS(r:lH):(Lib.cut r [10]).1.length=zX n10 r:=by
 grind [Lib.cut,aw6]
theorem aum(s p:lH):Ev (fun n=>KG n s p) (decide (p.length<=s.length)&&s.take p.length==p):=by
 refine Ev.fn (fun n=>by simp only[KG,l6,MC,mB];exact rfl) ?_;refine Ev.fn (fun n=>by simp only[Bv,l6,Ab,mB];exact rfl) ?_
 grind [Ev.pure]
theorem aqt(k:Nat)(c:UInt8):B1 (k+40) [32,9,13,10] (IntKind.i32.wrap (c.toNat:Int))=some (whB c):=by
 have:=ahR (p:=fun c=>decide (B1 (k+40) [32,9,13,10] (IntKind.i32.wrap (c.toNat:Int))=some (whB c))) (kX) c;exact kT this
abbrev sml:Nat:=4294967281
theorem aoE(c:UInt8):Ev (fun n=>B1 n [32,9,13,10] (IntKind.i32.wrap (c.toNat:Int))) (whB c):=by
 refine⟨40,fun n hn=>?_⟩;obtain⟨k,rfl⟩:∃k,n=k+40:=⟨n-40,by omega⟩;exact aqt k c
theorem aKh(r:lH)(h:r.length<sml):Ev (fun n=>strings_Cut n r [10]) (Lib.cut r [10]):=by
 refine⟨1,fun n hn=>?_⟩;obtain⟨k,rfl⟩:∃k,n=k+1:=⟨n-1,by omega⟩;show(bif decide (r.length<4294967281)then some (Lib.cut r [10])else none)=_;rw[kR h];rfl
theorem anC(s sub:lH)(h:s.length<sml):Ev (fun n=>strings_Contains n s sub) (jo s sub):=by
 refine⟨1,fun n hn=>?_⟩;obtain⟨k,rfl⟩:∃k,n=k+1:=⟨n-1,by omega⟩;show(bif decide (s.length<4294967281)then some (jo s sub)else none)=_;rw[kR h];rfl
theorem aCj{s:lH}(h:k<s.length):AU (s.drop k) 0=some s[k]:=by
 rw[zu h];rfl
theorem aEP{s:lH}:(decide (([45,45]:lH).length<=(s.drop k).length)&&(s.drop k).take ([45,45]:lH).length==[45,45])=((s.drop k).head?==some 45&&(s.drop (k+1)).head?==some 45):=by
 rw[show s.drop (k+1)=(s.drop k).drop 1 from by rw[jg]]
 match s.drop k with
 |[]=>rfl
 |[a]=>simp
 |a::b::t=>
  simp
theorem aCk(s:lH)(hs:s.length<sml)(r1 r2 r3:List (lH×Bool)):∀k:Nat,k<=s.length->
 pX (fun n m=>Ej n m s (k:Int) r1 r2 r3) (scn s ((k+AC false (s.drop k):Nat):Int) r1 r2 r3,()):=by
 intro k;induction h:s.length-k using jk generalizing k with
 |ind d ih=>
  intro hk;have hb:s.length<4294967281:=hs;refine pX.lp (fun n m=>by simp only[acq,Ei,mB];exact rfl) ?_;by_cases q9:k<s.length
  ·have e1:decide ((k:Int)<(s.length:Int))=true:=kR (by omega);have e2:decide ((0:Int)<=(k:Int)/\(k:Int)<=(s.length:Int)/\(s.length:Int)<=(s.length:Int))=true:=kR (by omega);simp only[e1,e2,kP,jp,jd,aCj q9,iO];refine pX.nK (aoE _) ?_;cases hw:whB s[k]with
   |true=>
    simp only[kP];rw[mM (by omega),zu q9,azA hw]
    grind
   |false=>
    simp only[kQ];refine pX.nK (aum _ _) ?_;rw[aEP];cases hc:(s.drop k).head?==some 45&&(s.drop (k+1)).head?==some 45 with
    |false=>
     simp only[kQ]
     have:AC false (s.drop k)=0:=by
      grind [zu,aCi]
     rw[this];exact pX.pure
    |true=>
     simp only[kP];simp only[jc,beq_iff_eq]at hc;have hr:=Z0 n10 (s.drop k);rw[iZ]at hr;have e45:s[k]=45:=by simp_all
     have hp:=aHR q9 e45;refine pX.nK (aKh _ (by grind)) ?_;rw[aHS,aCh hc.1 (by rw[jg];exact hc.2),aqs,jg];rw[qo (by omega) (by omega),<-jZ];have:=ih (s.length-(k+zX n10 (s.drop k))) (by omega) (k+zX n10 (s.drop k)) rfl (by omega)
     grind
  ·have e1:decide ((k:Int)<(s.length:Int))=false:=kS (by omega);simp only[e1,kQ];rw[iS (by omega),aCg];exact pX.pure
theorem aw7(s:lH)(hs:s.length<sml)(r1 r2 r3:List (lH×Bool))(k:Nat)(hk:k<=s.length):
 Ev (fun n=>Bw n s (k:Int) r1 r2 r3) (scn s ((k+AC false (s.drop k):Nat):Int) r1 r2 r3,()):=by
 refine Ev.fn (fun n=>by simp only[Bw,l6,LD,mC];exact rfl) ?_
 grind [Ev.Jh,aCk]
def aOJ(r:lH):Nat->List lH->Nat
 |b,[]=>b
 |b,y::l=>aOJ r (bif decide (b<y.length)&&r.take y.length==y then y.length else b) l
theorem aeL(r:lH):∀(l:List lH)(b:Nat),(aOJ r b l=b\/(b<aOJ r b l/\aOJ r b l<=r.length/\r.take (aOJ r b l)∈l))/\b<=aOJ r b l/\∀y∈l,r.take y.length=y->y.length<=aOJ r b l
 |[],b=>⟨.inl rfl,iY _,fun y hy=>by cases hy⟩
 |y::l,b=>by
  rw[aOJ];cases hc:decide (b<y.length)&&r.take y.length==y with
  |true=>
   obtain⟨h1,h2,h3⟩:=aeL r l y.length
   grind
  |false=>
   obtain⟨h1,h2,h3⟩:=aeL r l b
   grind
theorem aEQ(r:lH)(l:List lH):aOJ r 0 l<=r.length:=by
 grind [aeL]
theorem aCl(s:lH)(hs:s.length<sml)(k:Nat)(hk:k<=s.length)(r1 r2 r3:List (lH×Bool))(l:List lH)
 (h3:∀y,(qw y r3).getD false=l.contains y) (h8:∀y∈l,(s.drop k).take y.length=y->y.length<=8):
 Ev (fun n=>EZ n s (k:Int) r1 r2 r3) (pk (scn s k r1 r2 r3) (bif aOJ (s.drop k) 0 l==0 then(0,(k:Int),4)else(2,((k+aOJ (s.drop k) 0 l:Nat):Int),0))):=by
 refine Ev.fn (fun n=>by simp only[EZ,l6,Iy,mC];exact rfl) ?_;simp only[sml]at hs;obtain⟨q1,q2,q3⟩:=aeL (s.drop k) l 0;generalize hN:aOJ (s.drop k) 0 l=N at*
 have key:∀v:Nat,N<=v->k+v<=s.length->pX (fun n m=>Cl n m (v:Int) s (k:Int) r1 r2 r3) (pk (scn s k r1 r2 r3) (bif N==0 then(0,(k:Int),4)else(2,((k+N:Nat):Int),0))):=by
  intro v;induction v with
  |zero=>
   intro hv hkv;obtain rfl:N=0:=by omega
   refine pX.lp (fun n m=>by simp only[Me,yR,mB];exact rfl) ?_;exact pX.pure
  |succ v ih=>
   intro hv hkv;refine pX.lp (fun n m=>by simp only[Me,yR,mB];exact rfl) ?_;have e1:decide ((0:Int)<((v+1:Nat):Int))=true:=kR (by omega);rw[qo (n:=(k:Int)+((v+1:Nat):Int)) (by omega) (by omega),<-jZ];have e2:decide ((0:Int)<=(k:Int)/\(k:Int)<=((k+(v+1):Nat):Int)/\((k+(v+1):Nat):Int)<=(s.length:Int))=true:=kR (by omega);simp only[e1,e2,kP,jd,h3];rw[show jv k (jw (k+(v+1)) s)=(s.drop k).take (v+1)from by simp_all [List.drop_take]];have hlen:((s.drop k).take (v+1)).length=v+1:=by grind
   cases hc:l.contains ((s.drop k).take (v+1))with
   |true=>
    simp only[kP];have hm:(s.drop k).take (v+1)∈l:=by simpa using hc
    have:=q3 _ hm (by rw[hlen]);rw[hlen]at this;obtain rfl:N=v+1:=by omega
    exact pX.pure
   |false=>
    grind [qo]
 rw[qo (by omega) (by omega),show(s.length:Int)-(k:Int)=((s.length-k:Nat):Int)from by omega]
 have hN8:N<=8:=by
  grind
 have hNk:N<=s.length-k:=by
  grind
 by_cases h:((s.length-k:Nat):Int)<8
 ·simp only[if_pos h]
  grind [Ev.Jh]
 ·simp only[if_neg h]
  grind [Ev.Jh]
set_option maxRecDepth 100000
def qb(c:UInt8):Bool:= !(c==34)&& !(c==10)
theorem aKi(c:UInt8):qb c=(!(c==34)&& !(c==10)):=rfl
def aw8(s:lH):Int:=if zX qb s<s.length then(zX qb s:Int)else-1
theorem aqu:∀s:lH,jK s [34,10]=aw8 s
 |[]=>rfl
 |x::s=>by
  unfold jK aw8;rw[EQ,aKi,aqu s]
  grind [aw8]
theorem aun{s:lH}{i:Nat}(h:i<s.length):(sb s).get! i=s[i]:=by
 show(s.toArray)[i]! =s[i];simp [h]
theorem aqv{s:lH}{p:Nat}(h:p<s.length)(hb:s[p].toNat<128):jz (sb s) p=(s[p].toNat,1):=by
 grind [jz,aun]
theorem aPc{s:lH}{i:Nat}(h:(decide (i<(sb s).size)&&((sb s).get! i).toNat / 64==2)=true):∃hi:i<s.length,128<=s[i].toNat:=by
 grind [SH,aun]
def aER(s:lH)(p w:Nat):Prop:=1<=w/\∀j,j<w->∃h:p+j<s.length,128<=s[p+j].toNat
theorem anD{s:lH}{p:Nat}(h:p<s.length)(hb:128<=s[p].toNat):128<=(jz (sb s) p).1/\aER s p (jz (sb s) p).2:=by
 have h0:∀j,j<1->∃h:p+j<s.length,128<=s[p+j].toNat:=fun j hj=>by
  grind
 have one:aER s p 1:=⟨iY _,h0⟩;unfold jz;simp only[jJ,aun h];rw[if_neg (by omega)];split
 ·rename_i h1;rw[jc]at h1;have c1:=aPc h1.2
  have two:aER s p 2:=⟨by omega,fun j hj=>by
   grind⟩
  split
  ·rename_i h2;exact⟨h2,two⟩
  ·exact⟨by decide,one⟩
 ·split
  ·rename_i _ h1;rw[jc,jc]at h1;have c1:=aPc h1.1.2;have c2:=aPc h1.2
   have three:aER s p 3:=⟨by omega,fun j hj=>by
    grind⟩
   split
   ·grind
   ·exact⟨by decide,one⟩
  ·split
   ·rename_i _ _ h1;rw[jc,jc,jc]at h1;have c1:=aPc h1.1.1.2;have c2:=aPc h1.1.2;have c3:=aPc h1.2
    have four:aER s p 4:=⟨by omega,fun j hj=>by
     grind⟩
    split
    ·grind
    ·exact⟨by decide,one⟩
   ·exact⟨by decide,one⟩
theorem aqw{c:Nat}(h:128<=c):∃l b,aEa (c:Int)=l++[b]/\128<=b.toNat/\1<=l.length/\l.length<=3:=by
 unfold aEa;simp only[Utf8.encode];generalize hd:(if Utf8.valid (c:Int)=true then(c:Int).toNat else Utf8.runeError)=d
 have hd':128<=d:=by
  grind [Utf8.runeError]
 have hb:128<=(UInt8.ofNat (128+d % 64)).toNat:=by
  rw[UInt8.toNat_ofNat'];omega
 rw[if_neg (by omega)];split
 ·exact⟨[_],_,rfl,hb,by simp,by simp⟩
 ·split
  ·exact⟨[_,_],_,rfl,hb,by simp,by simp⟩
  ·exact⟨[_,_,_],_,rfl,hb,by simp,by simp⟩
theorem ajz(k:Nat)(x:Int):strings_IndexByte (k+3) [] x=some (-1):=kX
theorem arG(k:Nat):nG (k+8) [34,10] 65533=some (-1):=kX
theorem arH(k:Nat)(c:UInt8):((nG (k+8) [34,10] (c.toNat:Int)).map fun x=>decide (0<=x))=some (!qb c)\/128<=c.toNat:=by
 have:=ahR (p:=fun c=>decide (((nG (k+8) [34,10] (c.toNat:Int)).map fun x=>decide (0<=x))=some (!qb c))||decide (128<=c.toNat)) (kX) c
 grind
theorem aoF(c:UInt8)(hc:c.toNat<128):lZ (fun n=>nG n [34,10] (c.toNat:Int)) (fun x=>decide (0<=x)= !qb c):=by
 have key:∀k,((nG (k+8) [34,10] (c.toNat:Int)).map fun x=>decide (0<=x))=some (!qb c):=fun k=>(arH k c).resolve_right (by omega)
 have e:∀k,nG (k+8) [34,10] (c.toNat:Int)=nG 8 [34,10] (c.toNat:Int):=by
  intro k;have:=ahR (p:=fun c=>decide (nG (k+8) [34,10] (c.toNat:Int)=nG 8 [34,10] (c.toNat:Int))||decide (128<=c.toNat)) (kX) c
  grind
 have k0:=key 0;rw[Option.map_eq_some_iff]at k0;obtain⟨x,hx,hd⟩:=k0;refine⟨x,hd,8,fun n hn=>?_⟩;obtain⟨k,rfl⟩:∃k,n=k+8:=⟨n-8,by omega⟩
 grind
theorem aqx{c:Nat}(hc:128<=c):Ev (fun n=>nG n [34,10] (c:Int)) (-1):=by
 by_cases h3:c=65533
 ·subst h3;refine⟨8,fun n hn=>?_⟩;obtain⟨k,rfl⟩:∃k,n=k+8:=⟨n-8,by omega⟩;exact arG k
 ·refine Ev.fn (fun n=>by simp only[nG,l6,Gr,mB];exact rfl) ?_;have e1:decide ((0:Int)<=(c:Int))=true:=kR (by omega);have e2:decide ((c:Int)<128)=false:=kS (by omega);have e3:((c:Int)==65533)=false:=by rw[kV];omega
  simp only[e1,e2,e3,kP,kQ]
  have hv:∃b,Ev (fun n=>xa n (c:Int)) b:=by
   refine⟨bif decide ((c:Int)<55296)then true else bif decide (57343<(c:Int))then decide ((c:Int)<=1114111)else false,?_⟩;refine Ev.fn (fun n=>by simp only[xa,l6,BK,mB];exact rfl) ?_
   grind [Ev.pure]
  obtain⟨b,hv⟩:=hv;refine Ev.bind hv ?_;cases b with
  |false=>exact Ev.pure
  |true=>
   simp only[kP];obtain⟨l,b,hl,hb,h1,h4⟩:=aqw hc;rw[hl];have hlen:(l++[b]).length=l.length+1:=by simp
   rw[hlen,qo (by omega) (by omega),show((l.length+1:Nat):Int)-1=(l.length:Int)from by omega];refine Ev.Jh (F:=fun n m=>BZ n m [34,10] (l++[b]) (l.length:Int) (l.length:Int)) ?_;refine pX.lp (fun n m=>by simp only[PZ,BY];exact rfl) ?_;by_cases hl1:l.length=1
   ·rw[hl1]
    have qe:AU (l++[b]) ((1:Nat):Int)=some b:=by
     grind [yA]
    have uP:(((10:UInt8).toNat:Int) !=(b.toNat:Int))=true:=by
     grind
    have aMw:AU (l++[b]) (1:Int)=some b:=qe;have i1:AU ([34,10]:lH) ((1:Nat):Int)=some 10:=rfl;have hz:decide (((1:Nat):Int)<(([34,10]:lH).length:Int))=true:=rfl;simp only[hz,kP,i1,qe,iO,uP];have hw:IntKind.i64.wrap (((1:Nat):Int)+1)=((2:Nat):Int):=mM (by omega);have hd2:decide ((0:Int)<=((2:Nat):Int)/\((2:Nat):Int)<=(([34,10]:lH).length:Int)/\(([34,10]:lH).length:Int)<=(([34,10]:lH).length:Int))=true:=rfl;simp only[hw,hd2,kP];have aMx:jv ((2:Nat):Int).toNat (jw ([34,10]:lH).length [34,10])=[]:=rfl
    have hs:Ev (fun n=>strings_IndexByte n [] (b.toNat:Int)) (-1):=by
     refine⟨3,fun n hn=>?_⟩;obtain⟨k,rfl⟩:∃k,n=k+3:=⟨n-3,by omega⟩;exact ajz k _
    exact pX.nK (x:= -1) hs pX.pure
   grind [pX.pure]
theorem aij{q:UInt8->Bool}:∀{r:lH}{p:Nat},p<=zX q r->∀h:p<r.length,(q r[p]=true->p+1<=zX q r)/\(q r[p]=false->zX q r=p)
 |[],p,_,h=>absurd h (Nat.not_lt_zero _)
 |x::r,0,hp,h=>by
  grind [EQ]
 |x::r,p+1,hp,h=>by
  rw[EQ]at hp ⊢;cases hx:q x with
  |false=>rw[hx]at hp;simp at hp
  |true=>
   rw[hx]at hp;simp at hp ⊢;have:=aij (q:=q) (r:=r) (p:=p) (by omega) (by simpa using h)
   grind
theorem aHT{c:UInt8}(h:128<=c.toNat):qb c=true:=by
 have:=ahR (p:=fun c=>qb c||decide (c.toNat<128)) (kX) c
 grind
theorem arI(s:lH):∀p:Nat,p<=zX qb s->pX (fun n m=>xH n m [34,10] s p) (aw8 s):=by
 intro p;induction h:s.length-p using jk generalizing p with
 |ind d ih=>
  intro hp;have hr:=Z0 qb s;refine pX.lp (fun n m=>by simp only[Rn,CX,mB];exact rfl) ?_;by_cases q9:p<s.length
  ·have e:decide (p<s.length)=true:=kR q9;simp only[e,kP];have st:=aij hp q9;rcases Nat.lt_or_ge s[p].toNat 128 with hb|hb
   ·rw[aqv q9 hb];obtain⟨x,hx,hev⟩:=aoF s[p] hb;refine pX.nK hev ?_;rw[hx];cases hq:qb s[p]with
    |true=>
     grind
    |false=>
     grind [aw8,pX.pure]
   ·obtain⟨h1,hw,h2⟩:=anD q9 hb;refine pX.nK (aqx h1) ?_;have e0:decide ((0:Int)<= -1)=false:=rfl;simp only[e0,kQ]
    have run:∀j,j<=(jz (sb s) p).2->p+j<=zX qb s:=by
     intro j;induction j with
     |zero=>intro _;exact hp
     |succ j ihj=>
      grind [aij,aHT]
    have:=run _ (iY _)
    grind
  grind [aw8,pX.pure]
theorem aES(t:lH)(ht:t.length<sml):Ev (fun n=>(vX n t [34,10]).or (strings_IndexAny n t [34,10])) (aw8 t):=by
 simp only[sml]at ht;by_cases h8:8<t.length
 ·refine⟨1,fun n hn=>?_⟩;obtain⟨k,rfl⟩:∃k,n=k+1:=⟨n-1,by omega⟩
  grind [vX,aqu]
 ·have hL:∀n,vX n t [34,10]=none:=by
   intro n;cases n with
   |zero=>rfl
   |succ k=>
    show(bif decide (2<=([34,10]:lH).length)&&(decide (8<t.length)&&(decide (t.length<4294967281)&&(decide (([34,10]:lH).length<4294967281)&&([34,10]:lH).all (fun b=>decide (b.toNat<128)))))then some (jK t [34,10])else none)=_;rw[kS h8];rfl
  simp only[hL,Option.none_or];refine Ev.fn (fun n=>by simp only[strings_IndexAny,l6,IO,mB];exact rfl) ?_;have e0:(([34,10]:lH)==[])=false:=rfl;have e1:((([34,10]:lH).length:Int)==1)=false:=rfl;simp only[e0,e1,kQ]
  have hs:Ev (fun n=>strings_shouldUseASCIISet n (t.length:Int)) false:=by
   refine Ev.fn (fun n=>by simp only[strings_shouldUseASCIISet,l6,zC,mB];exact rfl) ?_
   grind [Ev.pure]
  refine Ev.bind hs ?_;simp only[kQ];exact Ev.Jh (F:=fun n m=>xH n m [34,10] t 0) (arI t 0 (ju _))
def asI(r:lH):Int×Nat×Int:=
 match (r.drop 1).drop (zX qb (r.drop 1))with
 |d::_=>bif d==34 then(2,zX qb (r.drop 1)+2,0)else(0,0,4)
 |[]=>(0,0,4)
theorem aET{c:UInt8}(h:qb c=false):(c==10)= !(c==34):=by
 grind [qb]
theorem aCm(s:lH)(hs:s.length<sml)(k:Nat)(hk:k<s.length)(r1 r2 r3:List (lH×Bool)):
 Ev (fun n=>Fc n s (k:Int) r1 r2 r3) (pk (scn s k r1 r2 r3) (aw5 k (asI (s.drop k)))):=by
 refine Ev.fn (fun n=>by simp only[Fc,l6,IW,mC];exact rfl) ?_;simp only[sml]at hs;rw[mM (by omega)];have e:decide ((0:Int)<=((k+1:Nat):Int)/\((k+1:Nat):Int)<=(s.length:Int)/\(s.length:Int)<=(s.length:Int))=true:=kR (by omega);simp only[e,kP,jp,jd];refine Ev.bind (aES _ (by grind)) ?_;unfold asI aw8;rw[show(s.drop k).drop 1=s.drop (k+1)from by rw[jg]];have hr:=Z0 qb (s.drop (k+1));rw[iZ]at hr;generalize hm:zX qb (s.drop (k+1))=m at*;rw[jg];by_cases h:m<(s.drop (k+1)).length
 ·rw[if_pos h];rw[iZ]at h;have hl:k+1+m<s.length:=by omega
  have e1:decide ((m:Int)<0)=false:=kS (by omega);simp only[e1,kQ];rw[qo (n:=((k+1:Nat):Int)+(m:Int)) (by omega) (by omega),<-jZ,yA hl,iO,zu hl]
  have hq:qb s[k+1+m]=false:=by
   have:=aij (q:=qb) (r:=s.drop (k+1)) (p:=m) (by omega) (by rw[iZ];omega)
   grind
  rw[show((s[k+1+m].toNat:Int)==10)=(s[k+1+m]==10)from alH _ 10 (by decide),aET hq];cases h34:s[k+1+m]==34 with
  |false=>simp only[h34,iW,kP,kQ];exact Ev.pure
  |true=>
   simp only[h34,jf,kP,kQ];rw[qo (n:=(k:Int)+(m:Int)) (by omega) (by omega),qo (by omega) (by omega),show(k:Int)+(m:Int)+2=((k+(m+2):Nat):Int)from by omega];exact Ev.pure
 ·rw[if_neg h];rw[iZ]at h;rw[iS (show s.length<=k+1+m by omega)];exact Ev.pure
section
variable {I alC R S:Type}
def TI(F:I->Nat->Option R)(Q:R->Prop):Prop:=∃r,Q r/\∀i,Ev (F i) r
def If(F:I->Nat->Nat->Option R)(Q:R->Prop):Prop:=∃r,Q r/\∀i,pX (F i) r
variable {Q:R->Prop} {P:S->Prop}
theorem TI.fn{F G:I->Nat->Option R}(h:∀i n,F i (n+1)=G i n)(hg:TI G Q):TI F Q:=jj (fun _ k=>⟨k.1,fun i=>Ev.fn (h i) (k.2 i)⟩) hg
theorem If.lp{F G:I->Nat->Nat->Option R}(h:∀i n m,F i n (m+1)=G i n m)(hg:If G Q):If F Q:=jj (fun _ k=>⟨k.1,fun i=>pX.lp (h i) (k.2 i)⟩) hg
theorem TI.Jh{F:I->Nat->Nat->Option R}(h:If F Q):TI (fun i n=>F i n n) Q:=jj (fun _ k=>⟨k.1,fun i=>Ev.Jh (k.2 i)⟩) h
theorem If.of1{F:I->Nat->Option R}(h:TI F Q):If (fun i n _=>F i n) Q:=jj (fun _ k=>⟨k.1,fun i=>pX.of1 (k.2 i)⟩) h
theorem TI.pure{r:R}(h:Q r):TI (fun(_:I) _=>some r) Q:=⟨r,h,fun _=>Ev.pure⟩
theorem If.pure{r:R}(h:Q r):If (fun(_:I) _ _=>some r) Q:=⟨r,h,fun _=>pX.pure⟩
theorem TI.bind{F:I->Nat->Option S}{G:I->Nat->S->Option R}(h:TI F P)(hg:∀x,P x->TI (fun i n=>G i n x) Q):TI (fun i n=>(F i n).bind (G i n)) Q:=by
 obtain⟨x,hx,hF⟩:=h;obtain⟨r,hr,hG⟩:=hg x hx;exact⟨r,hr,fun i=>Ev.bind (hF i) (hG i)⟩
theorem If.nK{F:I->Nat->Option S}{G:I->Nat->Nat->S->Option R}(h:TI F P)(hg:∀x,P x->If (fun i n m=>G i n m x) Q):If (fun i n m=>(F i n).bind (G i n m)) Q:=by
 obtain⟨x,hx,hF⟩:=h;obtain⟨r,hr,hG⟩:=hg x hx;exact⟨r,hr,fun i=>pX.nK (hF i) (hG i)⟩
theorem TI.rQ{A B:I->Nat->Option R}(h1:c=true->TI A Q)(h2:c=false->TI B Q):TI (fun i n=>bif c then A i n else B i n) Q:=by
 cases c with
 |true=>exact h1 rfl
 |false=>exact h2 rfl
theorem If.rQ{A B:I->Nat->Nat->Option R}(h1:c=true->If A Q)(h2:c=false->If B Q):If (fun i n m=>bif c then A i n m else B i n m) Q:=by
 cases c with
 |true=>exact h1 rfl
 |false=>exact h2 rfl
theorem TI.one{F:Nat->Option R}(h:lZ F Q):TI (fun(_:I)=>F) Q:=jj (fun _ k=>⟨k.1,fun _=>k.2⟩) h
theorem TI.uV(f:I->alC){F:alC->Nat->Option R}(h:TI F Q):TI (fun i=>F (f i)) Q:=jj (fun _ k=>⟨k.1,fun i=>k.2 (f i)⟩) h
theorem TI.aEU{F:I->Nat->Option S}{G:I->Nat->S->Option R}{x:I->S}(h:∀i,Ev (F i) (x i))(hg:TI (fun i n=>G i n (x i)) Q):TI (fun i n=>(F i n).bind (G i n)) Q:=by
 obtain⟨r,hr,hG⟩:=hg;exact⟨r,hr,fun i=>Ev.bind (h i) (hG i)⟩
theorem If.aEU{F:I->Nat->Option S}{G:I->Nat->Nat->S->Option R}{x:I->S}(h:∀i,Ev (F i) (x i))(hg:If (fun i n m=>G i n m (x i)) Q):If (fun i n m=>(F i n).bind (G i n m)) Q:=by
 obtain⟨r,hr,hG⟩:=hg;exact⟨r,hr,fun i=>pX.nK (h i) (hG i)⟩
theorem If.up {L:I->Nat->Nat->Int->S->Option R} (len:Nat) (A:Nat->S->Prop) (Q:R->Prop)
 (h1:∀i s,i<len->A i s->(∀s',A (i+1) s'->If (fun j n m=>L j n m ((i+1:Nat):Int) s') Q)->If (fun j n m=>L j n m (i:Int) s) Q)
 (h2:∀s,A len s->If (fun j n m=>L j n m (len:Int) s) Q):∀(i:Nat)(s:S),i<=len->A i s->If (fun j n m=>L j n m (i:Int) s) Q:=by
 intro i s hi h;obtain⟨k,hk⟩:∃k,k=len-i:=⟨_,rfl⟩;induction k generalizing i s with
 |zero=>obtain rfl:i=len:=by omega
        exact h2 s h
 |succ k ih=>exact h1 i s (by omega) h fun s' h'=>ih (i+1) s' (by omega) h' (by omega)
end
def aw9(c:UInt8):Bool:=aAD.contains c
theorem arJ(c:UInt8):jo aAD [c]=aw9 c:=by
 have:=ahR (p:=fun c=>decide (jo aAD [c]=aw9 c)) (kX) c;exact kT this
def dd:lH->Bool
 |[]=>false
 |x::r=>(x==45&&r.head?==some 45)||dd r
theorem anE:∀s:lH,jo s [45,45]=dd s
 |[]=>rfl
 |x::r=>by
  have ih:=anE r;unfold jo at ih ⊢;unfold ke dd
  have hp:([45,45]:List UInt8).isPrefixOf (x::r)=(x==45&&r.head?==some 45):=by
   cases r with
   |nil=>simp [List.isPrefixOf]
   |cons y t=>
    grind
  grind
def alI(s:lH):Bool:=
 match s with
 |[]=>false
 |c::t=>bif ahS c then(c::t).all auj&&(!((c::t)==[95])&& !kws.contains (c::t))else(c::t).all aw9&&(!dd (c::t)&&(decide ((c::t).length<=8)&&(!D7.contains (c::t)||(c::t)==[43])))
theorem axa{s:lH}(h:k<s.length):(s.drop k).all p=(p s[k]&&(s.drop (k+1)).all p):=by
 rw[zu h,List.all_cons]
theorem aHU(s:lH):pX (fun n m=>EP n m s D7 ((D7.length:Nat):Int) 0) (!D7.contains s||s==[43]):=by
 have key:∀d k:Nat,k+d=D7.length->pX (fun n m=>EP n m s D7 ((D7.length:Nat):Int) (k:Int)) (!(D7.drop k).contains s||s==[43]):=by
  intro d;have hle:D7.length=21:=rfl;induction d with
  |zero=>
   intro k hk;refine pX.lp (fun n m=>by simp only[ZJ,Jw,mB];exact rfl) ?_
   grind [pX.pure]
  |succ d ih=>
   intro k hk;have q9:k<D7.length:=by omega
   refine pX.lp (fun n m=>by simp only[ZJ,Jw,mB];exact rfl) ?_;have:decide ((k:Int)<((D7.length:Nat):Int))=true:=kR (by omega);simp only[this,kP];refine pX.Nu q9 ?_;rw[iP q9,jB,show(s==D7[k])=(D7[k]==s)from Bool.eq_iff_iff.2 ⟨fun h=>by simpa using (beq_iff_eq.1 h).symm,fun h=>by simpa using (beq_iff_eq.1 h).symm⟩];cases D7[k]==s with
   |true=>grind [pX.pure]
   |false=>
    grind [mM]
 exact key D7.length 0 (by omega)
theorem asJ(s:lH)(hs:s.length<sml):Ev (fun n=>Qd n s) (alI s):=by
 refine Ev.fn (fun n=>by simp only[Qd,l6,Ya,mB];exact rfl) ?_;simp only[sml]at hs
 match s with
 |[]=>exact Ev.pure
 |c::t=>
  simp only[show((c::t)==([]:lH))=false from rfl,kQ,show AU (c::t) 0=some c from rfl,iO];refine Ev.bind (Yt c) ?_;rw[ac2,alI];have hs':(c::t).length<4294967281:=hs;generalize hst:c::t=s at*;cases ahS c with
  |true=>
   simp only[kP]
   have key:∀d k:Nat,k+d=s.length->pX (fun n m=>JA n m s (s.length:Int) (k:Int)) ((s.drop k).all auj&&(!(s==[95])&& !kws.contains s)):=by
    intro d;induction d with
    |zero=>
     intro k hk;refine pX.lp (fun n m=>by simp only[ZL,Jz,mB];exact rfl) ?_;have:decide ((k:Int)<(s.length:Int))=false:=kS (by omega);simp only[this,kQ];rw[iS (by omega)];simp only[jV,iU];cases s==[95]with
     |true=>exact pX.pure
     |false=>
      simp only[kQ,iW,iU];exact pX.nK (aqq s) pX.pure
    |succ d ih=>
     intro k hk;have q9:k<s.length:=by omega
     refine pX.lp (fun n m=>by simp only[ZL,Jz,mB];exact rfl) ?_;have:decide ((k:Int)<(s.length:Int))=true:=kR (by omega);simp only[this,kP];refine pX.Nu q9 (pX.nK (aii _) ?_);rw[axa q9];cases auj s[k]with
     |false=>grind [pX.pure]
     |true=>
      simp only[kP,iU];rw[mM (by omega)];exact ih (k+1) (by omega)
   exact Ev.Jh (F:=fun n m=>JA n m s (s.length:Int) 0) (key s.length 0 (by omega))
  |false=>
   simp only[kQ]
   have key:∀d k:Nat,k+d=s.length->pX (fun n m=>Jy n m s (s.length:Int) (k:Int)) ((s.drop k).all aw9&&(!dd s&&(decide (s.length<=8)&&(!D7.contains s||s==[43])))):=by
    intro d;induction d with
    |zero=>
     intro k hk;refine pX.lp (fun n m=>by simp only[ZK,Jx,mB];exact rfl) ?_;have:decide ((k:Int)<(s.length:Int))=false:=kS (by omega);simp only[this,kQ];rw[iS (by omega)];simp only[jV,iU];refine pX.nK (anC s [45,45] hs') ?_;rw[anE];cases dd s with
     |true=>grind [pX.pure]
     |false=>
      simp only[kQ,iW,iU];by_cases h8:s.length<=8
      ·have e1:decide ((8:Int)<(s.length:Int))=false:=kS (by omega);have e2:decide (s.length<=8)=true:=kR h8;simp only[e1,e2,kQ,iU];exact pX.nK asG (pX.of1 (Ev.Jh (F:=fun n m=>EP n m s D7 ((D7.length:Nat):Int) 0) (aHU s)))
      grind [pX.pure]
    |succ d ih=>
     intro k hk;have q9:k<s.length:=by omega
     refine pX.lp (fun n m=>by simp only[ZK,Jx,mB];exact rfl) ?_;rw[mM (by omega)];have e1:decide ((k:Int)<(s.length:Int))=true:=kR (by omega);have e2:decide ((0:Int)<=(k:Int)/\(k:Int)<=((k+1:Nat):Int)/\((k+1:Nat):Int)<=(s.length:Int))=true:=kR (by omega);simp only[e1,e2,kP,jd];rw[show jv k (jw (k+1) s)=[s[k]] from by grind [zu]];refine pX.nK (anC aAD [s[k]] (by simp only[sml];decide)) ?_;rw[arJ,axa q9];cases aw9 s[k]with
     |false=>grind [pX.pure]
     |true=>
      grind
   exact Ev.Jh (F:=fun n m=>Jy n m s (s.length:Int) 0) (key s.length 0 (by omega))
abbrev cap:Nat:=1048640
def aEV(c:UInt8):Bool:=(decide (97<=(c.toNat:Int))&&decide ((c.toNat:Int)<=122))||((decide (65<=(c.toNat:Int))&&decide ((c.toNat:Int)<=90))||((c.toNat:Int)==95))
def ahT:Bool->lH->Bool
 |b,[]=> !b
 |b,c::s=>bif aEV c then ahT false s else bif b then false else bif ((c.toNat:Int)==46)then ahT true s else bif ((c.toNat:Int)==39)||(decide (48<=(c.toNat:Int))&&decide ((c.toNat:Int)<=57))then ahT false s else false
def alJ(s:lH):Bool:=ahT true s&&decide ((s.length:Int)<=64)
def Yw(n:k7):Bool:=n.parts.getD 0 []==[]
def rgt(n:k7):Bool:=n.parts.getD (n.parts.length-1) []==[]
def alL:List lH->Bool
 |x::y::r=>(x==[]&&y==[])||alL (y::r)
 |_=>false
def QQ(n:k7):Int:=
 bif decide (n.parts.length=0)||decide (16<n.parts.length)then 6
 else bif alL n.parts||n.parts.all (· ==[])then 3
 else bif n.parts.all (fun s=>s==[]||alI s)then
  (bif decide (n.tW<0)||(decide (100<n.tW)||(decide (n.HX<0)||decide (2<n.HX)))then 2
  else bif !(n.HX==0)&& !(Yw n&&rgt n)then 1 else bif alJ n.target then 0 else 29)
 else 4
def wD(n:k7):lH:=bif Yw n then n.parts.getD 1 [] else n.parts.getD 0 []
def xm(n:k7):List lH:=bif Yw n then n.parts.drop 2 else n.parts.drop 1
def aPk(a b:k7):Bool:=(Yw a&&(xm b).contains (wD a))||(Yw b&&(xm a).contains (wD b))
def Yu(t n:k7):Bool:=Yw t==Yw n&&wD t==wD n
def ac5(T:List k7)(n:k7):Int:=
 bif QQ n==0 then(bif decide (100<=T.length)then 6 else bif aPk n n||T.any (fun t=>Yu t n||aPk t n)then 8 else 0)else QQ n
def ahU(pre:List k7):List k7->Bool
 |[]=>true
 |n::r=>ac5 pre n==0&&ahU (pre++[n]) r
def VQ(T:List k7):Bool:=ahU [] T
def FC(T:List k7)(s:lH)(c:Bool):Option k7:=T.find? fun n=>Yw n==c&&wD n==s
structure Ok(n:k7):Prop where
 pos:0<n.parts.length
 few:n.parts.length<=16
 adj:alL n.parts=false
 sym:n.parts.all (· ==[])=false
 lo:0<=n.tW
 hi:n.tW<=100
 alo:0<=n.HX
 ahi:n.HX<=2
theorem Ok.of{n:k7}(h:QQ n=0):Ok n:=by
 unfold QQ at h;cases h1:decide (n.parts.length=0)||decide (16<n.parts.length)with
 |true=>grind
 |false=>
  rw[h1,kQ]at h;cases h2:alL n.parts||n.parts.all (· ==[])with
  |true=>grind
  |false=>
   rw[h2,kQ]at h;cases h3:n.parts.all (fun s=>s==[]||alI s)with
   |false=>grind
   |true=>
    rw[h3,kP]at h;cases h4:decide (n.tW<0)||(decide (100<n.tW)||(decide (n.HX<0)||decide (2<n.HX)))with
    |true=>grind
    |false=>
     simp only[jL,decide_eq_false_iff_not]at h1 h2 h4;exact⟨by omega,by omega,h2.1,h2.2,by omega,by omega,by omega,by omega⟩
structure TOk(T:List k7):Prop where
 chk:∀n∈T,QQ n=0
 aN2:∀a∈T,∀b∈T,aPk a b=false
 aHV:∀a∈T,∀b∈T,Yu a b=true->a=b
 len:T.length<=100
theorem azB(a b:k7):aPk a b=aPk b a:=by unfold aPk;rw[kf]
theorem azC{a b:k7}(h:Yu a b=true):Yu b a=true:=by
 grind [Yu]
theorem aCn{T:List k7}{n:k7}(h:ac5 T n=0):QQ n=0/\T.length<100/\aPk n n=false/\∀t∈T,Yu t n=false/\aPk t n=false:=by
 unfold ac5 at h
 grind
theorem TOk.nil:TOk []:=⟨by simp,by simp,by simp,by simp⟩
theorem TOk.aEW{T:List k7}{n:k7}(g:TOk T)(h:ac5 T n=0):TOk (T++[n]):=by
 obtain⟨h1,h2,h3,h4⟩:=aCn h;refine⟨fun a ha=>?_,fun a ha b hb=>?_,fun a ha b hb e=>?_,by grind⟩
 ·rcases jh.1 ha with ha|ha
  ·exact g.chk a ha
  grind
 ·rcases jh.1 ha with ha|ha<;>rcases jh.1 hb with hb|hb
  ·exact g.aN2 a ha b hb
  all_goals grind [azB]
 ·rcases jh.1 ha with ha|ha<;>rcases jh.1 hb with hb|hb
  ·exact g.aHV a ha b hb e
  all_goals grind [azC]
theorem TOk.go:∀{r pre:List k7},TOk pre->ahU pre r=true->TOk (pre++r)
 |[],pre,g,_=>by rw[jM];exact g
 |n::r,pre,g,h=>by
  rw[ahU,jc,beq_iff_eq]at h;have:=TOk.go (g.aEW h.1) h.2
  rwa [jm]at this
theorem TOk.of{T:List k7}(h:VQ T=true):TOk T:=by simpa using TOk.go TOk.nil h
theorem TOk.ok{T:List k7}(g:TOk T){n:k7}(h:n∈T):Ok n:=Ok.of (g.chk n h)
theorem Sw{T:List k7}{s:lH}{n:k7}(h:FC T s c=some n):n∈T/\Yw n=c/\wD n=s:=by
 have h1:=jA h;have h2:=List.find?_some h
 grind
theorem aik{T:List k7}(g:TOk T){n:k7}(h:n∈T):FC T (wD n) (Yw n)=some n:=by
 cases hf:FC T (wD n) (Yw n)with
 |none=>
  have:=List.find?_eq_none.1 hf n h;simp at this
 |some m=>
  obtain⟨a,b,c⟩:=Sw hf;rw[g.aHV m a n h (by unfold Yu;simp [b,c])]
theorem axb:∀{l:List lH}{i:Nat},alL l=false->i+1<l.length->l.getD i []=[]->l.getD (i+1) []≠[]
 |[],i,_,h,_=>by simp at h
 |[x],i,_,h,_=>by simp at h
 |x::y::r,0,h,_,e=>by
  grind [alL]
 |x::y::r,i+1,h,hl,e=>by
  rw[alL,jL]at h;have:=axb (l:=y::r) (i:=i) h.2 (by simpa using hl) (by simpa using e);simpa using this
theorem Ok.aEX{n:k7}(k:Ok n)(h:Yw n=true):2<=n.parts.length:=by
 have hp:=k.pos
 match hn:n.parts with
 |[]=>rw[hn]at hp;simp at hp
 |[x]=>
  unfold Yw at h;rw[hn]at h;have:=k.sym
  grind
 |x::y::r=>simp
theorem Ok.aKj{n:k7}(k:Ok n)(h:rgt n=true):2<=n.parts.length:=by
 have hp:=k.pos
 match hn:n.parts with
 |[]=>rw[hn]at hp;simp at hp
 |[x]=>
  unfold rgt at h;rw[hn]at h;have:=k.sym
  grind
 |x::y::r=>simp
theorem Ok.aoV{n:k7}(k:Ok n):wD n≠[]:=by
 unfold wD;cases h:Yw n with
 |true=>
  rw[kP];exact axb k.adj (by have:=k.aEX h;omega) (by grind [Yw])
 |false=>grind [Yw]
def azD(n:k7):Bool:=Yw n&&rgt n
def JQ(n:k7)(i:Nat):Int:=
 bif decide (0<i)&&decide (i<n.parts.length-1)then 0
 else bif (azD n&&(decide (i=0)&& !(n.HX==1)))||(azD n&&(decide (0<i)&& !(n.HX==2)))then n.tW+1 else n.tW
def aMy(s:lH)(f t:Int):Syntax:=.mk 0 s 0 [] [] [] f t
def aMz(o x:Syntax)(f t:Int):Syntax:=.mk 2 [] 0 [] [] [o,x] f t
def aAF(o:Syntax)(lR:List Syntax)(f t:Int):Syntax:=lR.foldl (fun o x=>aMz o x f t) o
def aqy(n:k7)(lR:List Syntax)(f t:Int):Syntax:=aAF (aMy n.target f t) lR f t
def aoG:List Syntax->Option lH
 |[]=>none
 |x::_=>bif x.kind==17 then some x.text else none
inductive Cmd where
 |parts (n:k7) (ps:List lH) (i:Nat) (lR:List Syntax) (e:Int) (r:List Syntax)
 |first (m:Int) (r:List Syntax)
 |loop (m:Int) (out:Syntax) (has:Int) (r:List Syntax)
 |tW (m:Int) (r:List Syntax)
inductive Out where
 |bad (r:List Syntax)
 |val (x:Syntax) (h:Int) (r:List Syntax)
 |lR (l:List Syntax) (e:Int) (r:List Syntax)
def azE(T:List k7)(m has:Int)(r:List Syntax):Option k7:=
 match aoG r with
 |none=>none
 |some s=>match FC T s true with
  |none=>none
  |some n=>bif decide (n.tW<m)||decide (has<JQ n 0)then none else some n
def azF(T:List k7)(m:Int)(x:Syntax):Option k7:=
 match FC T x.text false with
 |none=>none
 |some n=>bif rgt n&&decide (n.tW<m)then none else some n
def aEY(n:k7):Int:=bif rgt n then n.tW else 101
inductive Yx(T:List k7):Cmd->Out->Prop
 |aqz {n i lR e r}:Yx T (.parts n [] i lR e r) (.lR lR e r)
 |auo {n ps i lR e r q}:Yx T (.tW (JQ n i) r) (.bad q)->Yx T (.parts n ([]::ps) i lR e r) (.bad q)
 |alb {n ps i lR e r x h q o}:Yx T (.tW (JQ n i) r) (.val x h q)->Yx T (.parts n ps (i+1) (lR++[x]) x.to q) o->Yx T (.parts n ([]::ps) i lR e r) o
 |azG {n s ps i lR e r}:s≠[]->aoG r≠some s->Yx T (.parts n (s::ps) i lR e r) (.bad r)
 |sym {n s ps i lR e y r o}:s≠[]->y.kind=17->y.text=s->Yx T (.parts n ps (i+1) lR y.to r) o->Yx T (.parts n (s::ps) i lR e (y::r)) o
 |alO {m}:Yx T (.first m []) (.bad [])
 |amV {m x r}:x.kind≠17->Yx T (.first m (x::r)) (.val x 101 r)
 |amW {m x r}:x.kind=17->azF T m x=none->Yx T (.first m (x::r)) (.bad (x::r))
 |aqA {m x r n q}:x.kind=17->azF T m x=some n->Yx T (.parts n n.parts 0 [] 0 (x::r)) (.bad q)->Yx T (.first m (x::r)) (.bad q)
 |first {m x r n l e q}:x.kind=17->azF T m x=some n->Yx T (.parts n n.parts 0 [] 0 (x::r)) (.lR l e q)->Yx T (.first m (x::r)) (.val (aqy n l x.rJ e) (aEY n) q)
 |stop {m out has r}:azE T m has r=none->Yx T (.loop m out has r) (.val out has r)
 |aEZ {m out has r n q}:azE T m has r=some n->Yx T (.parts n (n.parts.drop 1) 1 [out] 0 r) (.bad q)->Yx T (.loop m out has r) (.bad q)
 |go {m out has r n l e q o}:azE T m has r=some n->Yx T (.parts n (n.parts.drop 1) 1 [out] 0 r) (.lR l e q)->Yx T (.loop m (aqy n l out.rJ e) n.tW q) o->Yx T (.loop m out has r) o
 |alQ {m r q}:Yx T (.first m r) (.bad q)->Yx T (.tW m r) (.bad q)
 |tW {m r x h q o}:Yx T (.first m r) (.val x h q)->Yx T (.loop m x h q) o->Yx T (.tW m r) o
def Cmd.rest:Cmd->List Syntax
 |.parts _ _ _ _ _ r=>r
 |.first _ r=>r
 |.loop _ _ _ r=>r
 |.tW _ r=>r
def Out.rest:Out->List Syntax
 |.bad r=>r
 |.val _ _ r=>r
 |.lR _ _ r=>r
theorem Yx.azH{T:List k7}{c:Cmd}{o:Out}(h:Yx T c o):o.rest<:+c.rest:=by
 induction h with
 |aqz=>exact jq _
 |auo _ ih=>exact ih
 |alb _ _ ih1 ih2=>exact ih2.trans ih1
 |azG _ _=>exact jq _
 |sym _ _ _ _ ih=>exact ih.trans (jW _ _)
 |alO=>exact jq _
 |amV _=>exact jW _ _
 |amW _ _=>exact jq _
 |aqA _ _ _ ih=>exact ih
 |first _ _ _ ih=>exact ih
 |stop _=>exact jq _
 |aEZ _ _ ih=>exact ih
 |go _ _ _ ih1 ih2=>exact ih2.trans ih1
 |alQ _ ih=>exact ih
 |tW _ _ ih1 ih2=>exact ih2.trans ih1
def Cmd.zV:Cmd->Bool
 |.parts .. =>true
 |_=>false
def aE0(c:Cmd):Out->Prop
 |.bad _=>True
 |.val .. =>c.zV=false
 |.lR .. =>c.zV=true
theorem Yx.aIJ{T:List k7}{c:Cmd}{o:Out}(h:Yx T c o):aE0 c o:=by
 induction h with
 |alb _ _ _ ih=>exact ih
 |sym _ _ _ _ ih=>exact ih
 |go _ _ _ _ ih=>exact ih
 |tW _ _ _ ih=>exact ih
 |_=>first|trivial|rfl
theorem asK{T:List k7}{n:k7}{ps:List lH}{i:Nat}{lR:List Syntax}{e:Int}{r:List Syntax}{o:Out}(h:Yx T (.parts n ps i lR e r) o):(∃q,o=.bad q)\/∃l e' q,o=.lR l e' q:=by
 have:=h.aIJ
 match o,this with
 |.bad q,_=>exact .inl ⟨q,rfl⟩
 |.val x h q,this=>grind [aE0,Cmd.zV]
 |.lR l e' q,_=>exact .inr ⟨l,e',q,rfl⟩
theorem aoW{T:List k7}{c:Cmd}{o:Out}(h:Yx T c o)(hc:c.zV=false):(∃q,o=.bad q)\/∃x hh q,o=.val x hh q:=by
 have:=h.aIJ
 match o,this with
 |.bad q,_=>exact .inl ⟨q,rfl⟩
 |.val x h q,_=>exact .inr ⟨x,h,q,rfl⟩
 |.lR l e' q,this=>grind [aE0]
theorem amX{T:List k7}{m:Int}{x:Syntax}{n:k7}(h:azF T m x=some n):n∈T/\Yw n=false/\wD n=x.text/\(rgt n=true->m<=n.tW):=by
 grind [azF,Sw]
theorem asL{r:List Syntax}{s:lH}(h:aoG r=some s):∃y r',r=y::r'/\y.kind=17/\y.text=s:=by
 match r with
 |[]=>simp [aoG]at h
 |y::r'=>
  have h:(bif y.kind==17 then some y.text else none)=some s:=h
  grind
theorem aAG{y:Syntax}{r:List Syntax}(h:y.kind=17):aoG (y::r)=some y.text:=by
 show(bif y.kind==17 then some y.text else none)=some y.text;rw[beq_iff_eq.2 h];rfl
theorem amY{T:List k7}{m has:Int}{r:List Syntax}{n:k7}(h:azE T m has r=some n):n∈T/\Yw n=true/\aoG r=some (wD n)/\m<=n.tW/\JQ n 0<=has:=by
 unfold azE at h
 all_goals grind [Sw]
theorem aqB{n:k7}(h:Yw n=true):wD n=n.parts.getD 1 []:=by unfold wD;rw[h];rfl
theorem anF{n:k7}(h:Yw n=false):wD n=n.parts.getD 0 []:=by unfold wD;rw[h];rfl
theorem azI{n:k7}(k:Ok n)(h:Yw n=true):n.parts=[]::wD n::n.parts.drop 2:=by
 have h2:=k.aEX h;rw[aqB h];unfold Yw at h
 match hp:n.parts with
 |[]=>rw[hp]at h2;simp at h2
 |[x]=>rw[hp]at h2;simp at h2
 |x::y::r=>grind
theorem axc{n:k7}(k:Ok n)(h:Yw n=false):n.parts=wD n::n.parts.drop 1:=by
 have h2:=k.pos;rw[anF h]
 match hp:n.parts with
 |[]=>rw[hp]at h2;simp at h2
 |x::r=>rfl
theorem Yx.aAH{T:List k7}(g:TOk T):∀(k:Nat)(m:Int)(r:List Syntax),r.length<=k->∃o,Yx T (.tW m r) o/\(∀x h q,o=.val x h q->q.length<r.length):=by
 intro k;induction k with
 |zero=>
  intro m r hr;have:r=[]:=jD.1 (by omega);subst this;exact⟨_,.alQ .alO,fun x h q e=>by cases e⟩
 |succ k ih=>
  intro m r hr
  have parts:∀(n:k7)(ps:List lH)(i:Nat)(lR:List Syntax)(e:Int)(r:List Syntax),r.length<=k->∃o,Yx T (.parts n ps i lR e r) o:=by
   intro n ps;induction ps with
   |nil=>intro i lR e r _;exact⟨_,.aqz⟩
   |cons s ps ihp=>
    intro i lR e r hr;by_cases hs:s=[]
    ·subst hs;obtain⟨o,ho,_⟩:=ih (JQ n i) r hr;rcases aoW ho rfl with⟨q,rfl⟩|⟨x,h,q,rfl⟩
     ·exact⟨_,.auo ho⟩
     ·obtain⟨o,h2⟩:=ihp (i+1) (lR++[x]) x.to q (Nat.le_trans ho.azH.length_le hr);exact⟨_,.alb ho h2⟩
    ·by_cases hq:aoG r=some s
     ·obtain⟨y,r',rfl,h1,h2⟩:=asL hq;rw[iR]at hr;obtain⟨o,h3⟩:=ihp (i+1) lR y.to r' (by omega);exact⟨_,.sym hs h1 h2 h3⟩
     ·exact⟨_,.azG hs hq⟩
  have aE1:∀(n:k7)(ps:List lH)(i:Nat)(lR:List Syntax)(e:Int)(y:Syntax)(r:List Syntax),r.length<=k->wD n≠[]->y.kind=17->y.text=wD n->∃o,Yx T (.parts n (wD n::ps) i lR e (y::r)) o/\o.rest<:+r:=by
   intro n ps i lR e y r hr h0 h1 h2;obtain⟨o,ho⟩:=parts n ps (i+1) lR y.to r hr;exact⟨_,.sym h0 h1 h2 ho,ho.azH⟩
  have loop:∀(j:Nat)(m:Int)(out:Syntax)(has:Int)(r:List Syntax),r.length<=j->j<=k->∃o,Yx T (.loop m out has r) o:=by
   intro j;induction j with
   |zero=>
    intro m out has r hr _;have:r=[]:=jD.1 (by omega);subst this;exact⟨_,.stop rfl⟩
   |succ j ihj=>
    intro m out has r hr hj;cases hg:azE T m has r with
    |none=>exact⟨_,.stop hg⟩
    |some n=>
     obtain⟨hn,hl,hs,_,_⟩:=amY hg;obtain⟨y,r',rfl,h1,h2⟩:=asL hs;rw[iR]at hr;have kn:=g.ok hn
     have hp:n.parts.drop 1=wD n::n.parts.drop 2:=by
      grind [azI]
     obtain⟨o,ho,hsf⟩:=aE1 n (n.parts.drop 2) 1 [out] 0 y r' (by omega) kn.aoV h1 h2;rw[<-hp]at ho;rcases asK ho with⟨q,rfl⟩|⟨l,e,q,rfl⟩
     ·exact⟨_,.aEZ hg ho⟩
     ·have:=hsf.length_le;obtain⟨o,h3⟩:=ihj m (aqy n l out.rJ e) n.tW q (by simp [Out.rest]at this;omega) (by omega);exact⟨_,.go hg ho h3⟩
  have first: ∃o,Yx T (.first m r) o/\(∀x h q,o= .val x h q->q.length<r.length):=by
   match r,hr with
   |[],_=>exact⟨_,.alO,fun x h q e=>by cases e⟩
   |x::r,hr=>
    rw[iR]at hr;by_cases hx:x.kind=17
    ·cases hb:azF T m x with
     |none=>exact⟨_,.amW hx hb,fun x h q e=>by cases e⟩
     |some n=>
      obtain⟨hn,hl,hh,_⟩:=amX hb;have kn:=g.ok hn;obtain⟨o,ho,hsf⟩:=aE1 n (n.parts.drop 1) 0 [] 0 x r (by omega) kn.aoV hx hh.symm;rw[<-axc kn hl]at ho;rcases asK ho with⟨q,rfl⟩|⟨l,e,q,rfl⟩
      ·exact⟨_,.aqA hx hb ho,fun x h q e=>by cases e⟩
      ·refine⟨_,.first hx hb ho,fun x' h' q' e'=>?_⟩
       grind [Out.rest]
    ·exact⟨_,.amV hx,fun x h q e=>by cases e;simp⟩
  obtain⟨o,ho,q9⟩:=first
  rcases aoW ho rfl with⟨q,rfl⟩|⟨x,h,q,rfl⟩
  ·exact⟨_,.alQ ho,fun x h q e=>by cases e⟩
  ·have hq:=q9 x h q rfl;obtain⟨o,h2⟩:=loop k m x h q (by omega) (iY _);refine⟨o,.tW ho h2,fun x' h' q' e'=>?_⟩;have:=h2.azH.length_le
   grind [Out.rest,Cmd.rest]
theorem Syntax.alR{e x:Syntax}(h:x∈e.mR):iV x<iV e:=by
 cases e;have:=List.sizeOf_lt_of_mem h
 grind [Syntax.mR]
theorem Syntax.ind{P:Syntax->Prop}(h:∀e,(∀x∈e.mR,P x)->P e):∀e,P e:=by
 have:∀(k:Nat)(e:Syntax),iV e<=k->P e:=by
  intro k;induction k with
  |zero=>intro e he;exact h e fun x hx=>absurd (Syntax.alR hx) (by omega)
  |succ k ih=>intro e he;exact h e fun x hx=>ih x (by have:=Syntax.alR hx;omega)
 exact fun e=>this _ e (iY _)
def aOK(e:Syntax):Option (Syntax×Syntax):=bif e.kind==2 then(match e.mR with|[a,b]=>some (a,b)|_=>none)else none
theorem Sx {e b:Syntax}(h:aOK e=some (a,b)):e.kind=2/\e.mR=[a,b]:=by
 grind [aOK]
theorem aqC {e b:Syntax}(h:aOK e=some (a,b)):iV a<iV e/\iV b<iV e:=by
 have:=(Sx h).2
 simp_all [Syntax.alR]
def uI(e:Syntax):Syntax×List Syntax:=
 match h:aOK e with
 |none=>(e,[])
 |some (a,b)=>((uI a).1,(uI a).2++[b])
termination_by iV e
decreasing_by all_goals exact(aqC h).1
theorem aPl{e:Syntax}(h:aOK e=none):uI e=(e,[]):=by
 grind [uI]
theorem aPm {e b:Syntax}(h:aOK e=some (a,b)):uI e=((uI a).1,(uI a).2++[b]):=by
 grind [uI]
def aeM(n:k7):Nat:=n.parts.countP (· ==[])
def zw(T:List k7)(e:Syntax):Option (k7×List Syntax):=
 bif (uI e).1.kind==0&&((uI e).1.mK.length==0&&(uI e).1.num==0)then
  (match T.find? (fun n=>n.target==(uI e).1.text)with
  |none=>none
  |some n=>bif aeM n==(uI e).2.length then some (n,(uI e).2)else none)
 else none
theorem axd:∀(e:Syntax),∀x∈(uI e).2,iV x<iV e:=by
 intro e;induction e using Syntax.ind with
 |h e ih=>
  intro x hx;cases hk:aOK e with
  |none=>grind [aPl]
  |some p=>
   obtain⟨a,b⟩:=p;rw[aPm hk]at hx;have hs:=aqC hk;rcases jh.1 hx with h|h
   ·have:=ih a (by rw[(Sx hk).2];simp) x h;omega
   grind
structure App(T:List k7)(e:Syntax)(n:k7)(l:List Syntax):Prop where
 mem:n∈T
 kind:(uI e).1.kind=0
 mK:(uI e).1.mK=[]
 num:(uI e).1.num=0
 text:(uI e).1.text=n.target
 lR:(uI e).2=l
 holes:aeM n=l.length
theorem BU{T:List k7}{e:Syntax}{n:k7}{l:List Syntax}(h:zw T e=some (n,l)):App T e n l:=by
 unfold zw at h;cases hc:(uI e).1.kind==0&&((uI e).1.mK.length==0&&(uI e).1.num==0)with
 |false=>rw[hc]at h;simp at h
 |true=>
  rw[hc,kP]at h;simp only[jc,beq_iff_eq]at hc;split at h
  ·simp at h
  ·rename_i m hf;cases hh:aeM m==(uI e).2.length with
   |false=>rw[hh]at h;simp at h
   |true=>
    rw[hh,kP]at h;simp at h;obtain⟨rfl,h⟩:=h;have h2:=List.find?_some hf;simp at h2 hh;exact⟨jA hf,hc.1,jD.1 hc.2.1,hc.2.2,h2.symm,h,by rw[hh,h]⟩
theorem App.size{T:List k7}{e:Syntax}{n:k7}{l:List Syntax}(h:App T e n l):∀x∈l,iV x<iV e:=by
 intro x hx;rw[<-h.lR]at hx;exact axd e x hx
def abj(T:List k7)(n:k7)(i:Nat)(x:Syntax):Bool:=
 match zw T x with
 |none=>false
 |some (m,_)=> !((Yw m||rgt m)&&decide (m.tW<JQ n i))
def LW(n:k7):Nat:=n.parts.length-1
def Ji(T:List k7)(e:Syntax):Int:=
 match h:zw T e with
 |none=>1000
 |some (m,l)=>
  bif rgt m then
   (match h2:l.getLast? with
   |none=>JQ m (LW m)
   |some x=>bif abj T m (LW m) x then min (JQ m (LW m)) (Ji T x)else JQ m (LW m))
  else 1000
termination_by iV e
decreasing_by exact(BU h).size x (List.mem_of_getLast? h2)
theorem Z2{T:List k7}{e:Syntax}(h:zw T e=none):Ji T e=1000:=by
 grind [Ji]
theorem Z3{T:List k7}{e:Syntax}{m:k7}{l:List Syntax}(h:zw T e=some (m,l))(hr:rgt m=false):Ji T e=1000:=by
 grind [Ji]
theorem Z4{T:List k7}{e x:Syntax}{m:k7}{l:List Syntax}(h:zw T e=some (m,l))(hr:rgt m=true)(hx:l.getLast?=some x):Ji T e=bif abj T m (LW m) x then min (JQ m (LW m)) (Ji T x)else JQ m (LW m):=by
 grind [Ji]
def abk(T:List k7)(n:k7)(i:Nat)(x:Syntax):Bool:=abj T n i x&&(decide (0<i)||decide (n.tW<Ji T x))
def aCo(s:lH):Syntax:=.mk 17 s 0 [] [] [] 0 0
inductive aoH where
 |expr (e:Syntax)
 |parts (n:k7) (ps:List lH) (i:Nat) (l:List Syntax)
inductive Prn(T:List k7):aoH->List Syntax->Prop
 |leaf {e}:zw T e=none->Prn T (.expr e) [e]
 |app {e n l o}:zw T e=some (n,l)->Prn T (.parts n n.parts 0 l) o->Prn T (.expr e) o
 |nil {n i l}:Prn T (.parts n [] i l) []
 |sym {n s ps i l o}:s≠[]->Prn T (.parts n ps (i+1) l) o->Prn T (.parts n (s::ps) i l) (aCo s::o)
 |apart {n ps i x l o1 o2}:abk T n i x=true->Prn T (.expr x) o1->Prn T (.parts n ps (i+1) l) o2->Prn T (.parts n ([]::ps) i (x::l)) (o1++o2)
 |whole {n ps i x l o}:abk T n i x=false->Prn T (.parts n ps (i+1) l) o->Prn T (.parts n ([]::ps) i (x::l)) (x::o)
theorem Prn.aAH (T:List k7): ∀ (k:Nat) (e:Syntax),iV e<=k-> ∃o,Prn T (.expr e) o:=by
 intro k;induction k with
 |zero=>intro e he;cases e;grind
 |succ k ih=>
  intro e he;cases ha:zw T e with
  |none=>exact⟨_,.leaf ha⟩
  |some p=>
   obtain⟨n,l⟩:=p;have A:=BU ha
   have parts: ∀ (ps:List lH) (i:Nat) (l:List Syntax),(∀x∈l,iV x<=k)->ps.countP (· ==[])=l.length-> ∃o,Prn T (.parts n ps i l) o:=by
    intro ps;induction ps with
    |nil=>intro i l _ _;exact⟨_,.nil⟩
    |cons s ps ihp=>
     intro i l hl hc;by_cases hs:s=[]
     ·subst hs
      match l,hl,hc with
      |[],_,hc=>simp at hc
      |x::l,hl,hc=>
       obtain⟨o2,h2⟩:=ihp (i+1) l (fun y hy=>hl y (jN _ hy)) (by simpa using hc);cases hap:abk T n i x with
       |true=>
        obtain⟨o1,h1⟩:=ih x (hl x jS);exact⟨_,.apart hap h1 h2⟩
       |false=>exact⟨_,.whole hap h2⟩
     ·obtain⟨o,h⟩:=ihp (i+1) l hl (by simpa [hs] using hc);exact⟨_,.sym hs h⟩
   obtain⟨o,ho⟩:=parts n.parts 0 l (fun x hx=>by have:=A.size x hx;omega) A.holes;exact⟨o,.app ha ho⟩
theorem axe{n:k7}(k:Ok n)(i:Nat):JQ n i<=101:=by
 unfold JQ;have:=k.hi
 grind
theorem aCp{n:k7}(k:Ok n)(hr:rgt n=true):1<=n.parts.countP (· ==[]):=by
 have:[]∈n.parts:=by
  have h:=beq_iff_eq.1 hr;have hp:=k.pos
  grind
 grind
theorem azJ(c:UInt8):Ev (fun n=>Zj n (c.toNat:Int)) (aEV c)/\True:=by
 unfold aEV;constructor
 ·refine Ev.fn (fun n=>by simp only[Zj,l6,aal,mB];exact rfl) ?_
  grind [Ev.pure]
 ·trivial
theorem aAI(s:lH)(hl:s.length<=cap*4):Ev (fun n=>Sf n s) (alJ s):=by
 refine lZ.ev ?_;refine lZ.fn (fun n=>by simp only[Sf,l6,agU,mB];exact rfl) ?_;refine lZ.Jh (F:=fun n m=>PP n m s true s.length 0) ?_;refine l1.up (S:=Bool) (L:=fun n m i b=>PP n m s b s.length i) s.length (fun i b=>ahT true s=ahT b (s.drop i)) _ ?_ ?_ 0 true (by omega) rfl
 ·intro i b hi hI next
  refine l1.lp (fun n m=>by simp only[agT,PO,mB];exact rfl) ?_;simp only[hi,jr,decide_true,kP];refine l1.Nu hi ?_;rw[iP hi,ahT]at hI;rw[mM (by simp only[cap]at hl;omega)];refine l1.nK ((azJ s[i]).1.tot (Q:=(· =aEV s[i])) rfl) fun x hx=>?_
  subst hx;cases h1:aEV s[i]with
  |true=>
   grind
  |false=>
   rw[h1,kQ]at hI;cases b with
   |true=>exact l1.pure (by grind [alJ])
   |false=>
    simp only[kQ]at hI ⊢;cases h2:((s[i].toNat:Int)==46)with
    |true=>
     grind
    |false=>
     rw[h2,kQ]at hI;simp only[kQ];cases h3:((s[i].toNat:Int)==39)with
     |true=>
      grind
     |false=>
      rw[h3,je]at hI;have e:((s[i].toNat:Int) !=39)=true:=by rw[bne,h3];rfl
      simp only[e,kP];refine l1.rQ (fun h4=>l1.pure ?_) fun h4=>l1.rQ (fun h5=>l1.pure ?_) fun h5=>next _ ?_
      all_goals grind [alJ]
 ·intro b hI;refine l1.lp (fun n m=>by simp only[agT,PO,mB];exact rfl) ?_;simp only[ji,decide_false,kQ];rw[jH,ahT]at hI;cases b with
  |true=>exact l1.pure (by unfold alJ;rw[hI];rfl)
  |false=>exact l1.pure (by unfold alJ;rw[hI];simp)
theorem Nv{W:Type}{bk:W->Nat}:∀{xs:List W}{x:W},x∈xs->bk x+1<=wk bk xs
 |y::ys,x,h=>by
  rw[wk];rcases jG.1 h with e|e
  ·grind [aqo]
  ·have:=Nv (bk:=bk) e;omega
theorem FD{W:Type}{bk:W->Nat}(h:∀x,1<=bk x):∀xs:List W,xs.length+1<=wk bk xs
 |[]=>aqo []
 |x::xs=>by
  have h1:=FD h xs
  grind [wk]
structure Nsm(n:k7):Prop where
 len:n.parts.length<=cap
 aKk:∀s∈n.parts,s.length<=cap
 target:n.target.length<=cap
theorem Nsm.of{n:k7}(h:n.rI<=cap):Nsm n:=by
 unfold k7.rI at h;have h1:=FD (bk:=fun m:lH=>m.length+1) (fun _=>j6 _ _) n.parts;refine⟨by omega,fun s hs=>?_,by omega⟩
 grind [Nv]
theorem aup(i:Nat):decide (0<(i:Int))=decide (0<i):=decide_eq_decide.2 (by omega)
theorem aKl(i k:Nat):decide ((i:Int)<(k:Int))=decide (i<k):=decide_eq_decide.2 (by omega)
theorem auq(i:Nat):((i:Int)==0)=decide (i=0):=by grind
theorem nat_eq(i k:Nat):((i:Int)==(k:Int))=decide (i=k):=by grind
theorem ac6(h:0<k)(h2:k<=cap):IntKind.i64.wrap ((k:Int)-1)=((k-1:Nat):Int):=by
 grind [qo]
theorem aAJ{xs:List lH}{i:Nat}(h:i<xs.length):xs.getD i []=xs[i]:=by
 grind
theorem aqD{xs:List W}(h:0<xs.length):AU xs 0=some xs[0]:=yA (i:=0) h
theorem aCq{xs:List W}(h:1<xs.length):AU xs 1=some xs[1]:=yA (i:=1) h
theorem ail{n:k7}(h:0<n.parts.length):Ev (fun k=>DA k n) (Yw n)/\True:=by
 unfold Yw;rw[aAJ h];constructor
 ·refine Ev.fn (fun n=>by simp only[DA,l6,Vm,mB];exact rfl) ?_;rw[aqD h];exact Ev.pure
 ·trivial
theorem LX{n:k7}(h:0<n.parts.length)(h2:n.parts.length<=cap):Ev (fun k=>BW k n) (rgt n)/\True:=by
 unfold rgt;rw[aAJ (by omega)];constructor
 ·refine Ev.fn (fun n=>by simp only[BW,l6,Sc,mB];exact rfl) ?_
  grind [ac6,yA,Ev.pure]
 ·trivial
theorem Ok.sml{n:k7}(k:Ok n):n.parts.length<=cap:=by have:=k.few;simp only[cap];omega
theorem SN{n:k7}(k:Ok n){i:Nat}(hi:i<n.parts.length):Ev (fun f=>FN f n (i:Int)) (JQ n i):=by
 refine Ev.fn (fun n=>by simp only[FN,l6,Vu,mB];exact rfl) ?_;have hp:=k.pos;refine Ev.bind (ail hp).1 ?_;unfold JQ azD;have e2:IntKind.i64.wrap ((n.parts.length:Int)-1)=((n.parts.length-1:Nat):Int):=ac6 hp k.sml;have e3:IntKind.i64.wrap (n.tW+1)=n.tW+1:=qo (by have:=k.lo;omega) (by have:=k.hi;omega);simp only[aup,auq,e2,aKl,e3];cases Yw n with
 |false=>
  grind [Ev.pure]
 |true=>
  simp only[kP,iU];refine Ev.bind (LX hp k.sml).1 ?_
  grind [Ev.pure]
def axf (n:k7):Int:=bif decide (n.tW<0)||(decide (100<n.tW)||(decide (n.HX<0)||decide (2<n.HX))) then 2
    else bif !(n.HX==0)&& !(Yw n&&rgt n)then 1 else bif alJ n.target then 0 else 29
def aHW(n:k7):Int:=bif n.parts.all (fun s=>s==[]||alI s)then axf n else 4
theorem aHX{n:k7}{lf rt nm:Nat->Option Bool}(h1:Ev lf (Yw n))(h2:Ev rt (rgt n))(h3:Ev nm (alJ n.target)):
 Ev (fun f=>bif decide (n.tW<0)then some 2 else bif decide (100<n.tW)then some 2 else bif decide (n.HX<0)then some 2 else bif decide (2<n.HX)then some 2 else
  bif n.HX !=0 then(lf f).bind fun x=>bif x then(rt f).bind fun x=>bif x then(nm f).bind fun x=>bif x then some 0 else some 29 else some 1 else some 1
  else(nm f).bind fun x=>bif x then some 0 else some 29) (axf n):=by
 have nme:Ev (fun f=>(nm f).bind fun x=>bif x then some (0:Int)else some 29) (bif alJ n.target then 0 else 29):=by
  refine Ev.bind h3 ?_
  grind [Ev.pure]
 unfold axf;cases decide (n.tW<0)with
 |true=>exact Ev.pure
 |false=>
 cases decide (100<n.tW)with
 |true=>exact Ev.pure
 |false=>
 cases decide (n.HX<0)with
 |true=>exact Ev.pure
 |false=>
 cases decide (2<n.HX)with
 |true=>exact Ev.pure
 |false=>
 simp [bne];cases n.HX==0 with
 |true=>grind
 |false=>
  refine Ev.bind h1 ?_;cases Yw n with
  |false=>exact Ev.pure
  |true=>
   refine Ev.bind h2 ?_
   grind [Ev.pure]
theorem aE2{s:lH}(h:s.length<=cap):s.length<sml:=by grind
theorem aN3{s:lH}(h:s.length<=cap):s.length<=cap*4:=by omega
theorem asM{p:W->Bool}{s:List W}(h:k<s.length):(s.drop k).all p=(p s[k]&&(s.drop (k+1)).all p):=by
 grind [iP]
theorem aKm{n:k7}(h:Nsm n)(hp:0<n.parts.length):pX (fun f m=>Cv f m n.parts (n.parts.length:Int) 0 n) (aHW n):=by
 have hl:=h.len;simp only[cap]at hl
 have key:∀d i:Nat,i+d=n.parts.length->pX (fun f m=>Cv f m n.parts (n.parts.length:Int) (i:Int) n) (bif (n.parts.drop i).all (fun s=>s==[]||alI s)then axf n else 4):=by
  intro d;induction d with
  |zero=>
   intro i hi;refine pX.lp (fun n m=>by simp only[Wq,Fh,mB];exact rfl) ?_;have:decide ((i:Int)<(n.parts.length:Int))=false:=kS (by omega);simp only[this,kQ,iS (show n.parts.length<=i by omega),jV,kP];exact pX.of1 (aHX (ail hp).1 (LX hp h.len).1 (aAI _ (aN3 h.target)))
  |succ d ih=>
   intro i hi;have q9:i<n.parts.length:=by omega
   refine pX.lp (fun n m=>by simp only[Wq,Fh,mB];exact rfl) ?_;have:decide ((i:Int)<(n.parts.length:Int))=true:=kR (by omega);simp only[this,kP];refine pX.Nu q9 ?_;rw[asM q9];have next:=ih (i+1) (by omega)
   rw[<-mM (by omega)]at next
   cases n.parts[i]==[]with
   |true=>grind
   |false=>
    simp only[kQ,je];refine pX.nK (asJ _ (aE2 (h.aKk _ (iQ q9)))) ?_
    grind [pX.pure]
 exact key n.parts.length 0 (by omega)
theorem axg{l:List lH}{i:Nat}(h:0<i)(hi:i<l.length):alL (l.drop (i-1))=((l[i-1]==[]&&l[i]==[])||alL (l.drop i)):=by
 grind [iP,alL]
theorem aHY(l:List lH)(i:Nat)(h:l.length<=i):alL (l.drop (i-1))=false:=by
 match hd:l.drop (i-1)with
 |[]=>rfl
 |[x]=>rfl
 |x::y::r=>
  grind [iR]
def ajA(n:k7)(b:Bool)(i:Nat):Int:=bif alL (n.parts.drop (i-1))||(!b&&(n.parts.drop i).all (· ==[]))then 3 else aHW n
theorem akm{n:k7}{b:Bool}{i:Nat}(hi:i<n.parts.length)(h:i=0\/(n.parts[i-1]==[]&&n.parts[i]==[])=false):
 ajA n b i=ajA n (b|| !(n.parts[i]==[])) (i+1):=by
 unfold ajA;rw[asM hi]
 have:alL (n.parts.drop (i-1))=alL (n.parts.drop i):=by
  grind [axg]
 grind
theorem aCr{n:k7}{b:Bool}{i:Nat}(h0:0<i)(hi:i<n.parts.length)(h1:(n.parts[i-1]==[])=true)(h2:(n.parts[i]==[])=true):ajA n b i=3:=by
 grind [ajA,axg]
theorem aCs{i:Nat}(h0:0<i)(h:i<=cap):IntKind.i64.wrap ((i:Int)-1)=((i-1:Nat):Int):=ac6 h0 h
theorem axh{n:k7}(h1:0<n.parts.length)(h2:n.parts.length<=16):QQ n=ajA n false 0:=by
 grind [QQ,ajA,aHW,axf]
theorem aE3{n:k7}(h:Nsm n):Ev (fun f=>Qk f n) (QQ n):=by
 refine Ev.fn (fun n=>by simp only[Qk,l6,So,mB];exact rfl) ?_;have hl:=h.len;rw[auq,show decide ((16:Int)<(n.parts.length:Int))=decide (16<n.parts.length)from decide_eq_decide.2 (by omega)];by_cases h0:n.parts.length=0
 ·grind [QQ,Ev.pure]
 by_cases h16:16<n.parts.length
 ·grind [QQ,Ev.pure]
 have hp:0<n.parts.length:=by omega
 rw[kS h0,kS h16,axh hp (by omega)];simp only[kQ]
 have key: ∀d i c:Nat,i+d=n.parts.length->c<=i->pX (fun f m=>Fj f m (c:Int) n.parts (n.parts.length:Int) (i:Int) n) (ajA n (!decide (c=0)) i):=by
  intro d;induction d with
  |zero=>
   intro i c hi hc;refine pX.lp (fun n m=>by simp only[Wr,Fi,mB];exact rfl) ?_;have:decide ((i:Int)<(n.parts.length:Int))=false:=kS (by omega);simp only[this,kQ,auq]
   have e:ajA n (!decide (c=0)) i=bif decide (c=0)then 3 else aHW n:=by
    grind [ajA,aHY]
   rw[e];cases decide (c=0)with
   |true=>exact pX.pure
   |false=>exact pX.of1 (Ev.Jh (F:=fun f m=>Cv f m n.parts (n.parts.length:Int) 0 n) (aKm h hp))
  |succ d ih=>
   intro i c hi hc;have q9:i<n.parts.length:=by omega
   refine pX.lp (fun n m=>by simp only[Wr,Fi,mB];exact rfl) ?_;have:decide ((i:Int)<(n.parts.length:Int))=true:=kR (by omega);simp only[this,kP];refine pX.Nu q9 ?_;cases hx:n.parts[i]==[]with
   |true=>
    simp only[kP,aup];by_cases h0:0<i
    ·rw[kR h0];simp only[kP];rw[aCs h0 (by omega)];refine pX.Nu (show i-1<n.parts.length by omega) ?_;cases hy:n.parts[i-1]==[]with
     |true=>grind [aCr,pX.pure]
     |false=>
      simp only[kQ];rw[akm q9 (.inr (by rw[hy];rfl)),hx,jf,jx,mM (by simp only[cap]at hl;omega)];exact ih (i+1) c (by omega) (by omega)
    ·rw[kS h0];simp only[kQ];rw[akm q9 (.inl (by omega)),hx,jf,jx,mM (by simp only[cap]at hl;omega)];exact ih (i+1) c (by omega) (by omega)
   |false=>
    simp only[kQ];rw[akm q9 (.inr (by rw[hx,Bool.and_false])),hx,iW,Bool.or_true,mM (by simp only[cap]at hl;omega),mM (by simp only[cap]at hl;omega)];have:=ih (i+1) (c+1) (by omega) (by omega)
    grind
 exact Ev.Jh (F:=fun f m=>Fj f m 0 n.parts (n.parts.length:Int) 0 n) (key n.parts.length 0 0 (by omega) (iY _))
theorem N1{W:Type}(x s:lH)(v:W):∀es:List (lH×W),qw x (ET s v es)=bif x==s then some v else qw x es
 |[]=>by
  simp [ET,qw]
 |(k,u)::es=>by
  have ih:=N1 x s v es
  grind [ET,qw]
structure Idx(T:List k7)(sz:Int)(B C:List (lH×k7))(I:List (lH×Bool)):Prop where
 sz:sz=(T.length:Int)
 b:∀s,qw s B=FC T s false
 c:∀s,qw s C=FC T s true
 i:∀s,s≠[]->(qw s I).getD false=T.any (fun t=>(xm t).contains s)
theorem Idx.nil:Idx [] 0 [] [] []:=⟨rfl,fun _=>rfl,fun _=>rfl,fun _ _=>rfl⟩
def aur(l:List lH)(I:List (lH×Bool)):List (lH×Bool):=l.foldl (fun I s=>bif s==[] then I else ET s true I) I
theorem amZ:∀(l:List lH)(I:List (lH×Bool))(s:lH),s≠[]->(qw s (aur l I)).getD false=(l.contains s||(qw s I).getD false)
 |[],I,s,_=>rfl
 |x::l,I,s,hs=>by
  have ih:=amZ l (bif x==[] then I else ET x true I) s hs
  grind [aur,N1]
theorem aeN(T:List k7)(n:k7)(s:lH)(c:Bool):FC (T++[n]) s c=(FC T s c).or (bif Yw n==c&&wD n==s then some n else none):=by
 grind [FC]
theorem axi(rest:List lH)(hl:rest.length<=cap)(sz:Int)(B C:List (lH×k7)):∀(d i:Nat)(I:List (lH×Bool)),i+d=rest.length->
 pX (fun f m=>xQ f m rest (rest.length:Int) (i:Int) sz B C I) (((IntKind.i64.wrap (sz+1),()),B,C,aur (rest.drop i) I,()),0,()):=by
 simp only[cap]at hl;intro d;induction d with
 |zero=>
  intro i I hi;refine pX.lp (fun n m=>by simp only[OK,Bi,JT];exact rfl) ?_;have:decide ((i:Int)<(rest.length:Int))=false:=kS (by omega);simp only[this,kQ,iS (show rest.length<=i by omega)];exact pX.pure
 |succ d ih=>
  intro i I hi;have q9:i<rest.length:=by omega
  refine pX.lp (fun n m=>by simp only[OK,Bi,JT];exact rfl) ?_;have:decide ((i:Int)<(rest.length:Int))=true:=kR (by omega);simp only[this,kP];refine pX.Nu q9 ?_;rw[mM (by omega),iP q9];cases hx:rest[i]==[]with
  |true=>
   simp only[kP];have:=ih (i+1) I (by omega)
   grind [aur]
  |false=>
   simp only[kQ];have:=ih (i+1) (ET rest[i] true I) (by omega)
   grind [aur]
abbrev aN4:=((Int×Unit)×((List (lH×k7))×((List (lH×k7))×((List (lH×Bool))×Unit))))×(Int×Unit)
theorem aE4(rest:List lH)(hl:rest.length<=cap)(hd:lH)(sz:Int)(B C:List (lH×k7))(I:List (lH×Bool))(n:k7)(h0:qw [] C=none):∀(d i:Nat),i+d=rest.length->
 pX (fun f m=>Bk f m hd rest rest (rest.length:Int) (i:Int) sz B C I n) (bif (rest.drop i).any (fun s=>(qw s C).isSome)then(((sz,()),B,C,I,()),8,())else(((IntKind.i64.wrap (sz+1),()),B,ET hd n C,aur rest I,()),0,())):=by
 have hl':=hl;simp only[cap]at hl;intro d;induction d with
 |zero=>
  intro i hi;refine pX.lp (fun n m=>by simp only[OM,Bj,JT];exact rfl) ?_;have:decide ((i:Int)<(rest.length:Int))=false:=kS (by omega);simp only[this,kQ,iS (show rest.length<=i by omega),jX];have:=axi rest hl' sz B (ET hd n C) rest.length 0 I (by omega);exact pX.of1 (Ev.Jh (F:=fun f m=>xQ f m rest (rest.length:Int) 0 sz B (ET hd n C) I) this)
 |succ d ih=>
  intro i hi;have q9:i<rest.length:=by omega
  refine pX.lp (fun n m=>by simp only[OM,Bj,JT];exact rfl) ?_;have:decide ((i:Int)<(rest.length:Int))=true:=kR (by omega);simp only[this,kP];refine pX.Nu q9 ?_;rw[mM (by omega),iP q9,jU];have next:=ih (i+1) (by omega)
  cases hf:qw rest[i] C with
  |none=>grind [oel]
  |some x=>
   grind [oel,pX.pure]
theorem aE5(rest:List lH)(hl:rest.length<=cap)(hd:lH)(sz:Int)(B C:List (lH×k7))(I:List (lH×Bool))(n:k7)(h0:qw [] C=none):∀(d i:Nat),i+d=rest.length->
 pX (fun f m=>Bm f m hd rest rest (rest.length:Int) (i:Int) sz B C I n) (bif (rest.drop i).any (fun s=>(qw s C).isSome)then(((sz,()),B,C,I,()),8,())else(((IntKind.i64.wrap (sz+1),()),ET hd n B,C,aur rest I,()),0,())):=by
 have hl':=hl;simp only[cap]at hl;intro d;induction d with
 |zero=>
  intro i hi;refine pX.lp (fun n m=>by simp only[ON,Bl,JT];exact rfl) ?_;have:decide ((i:Int)<(rest.length:Int))=false:=kS (by omega);simp only[this,kQ,iS (show rest.length<=i by omega),jX];have:=axi rest hl' sz (ET hd n B) C rest.length 0 I (by omega);exact pX.of1 (Ev.Jh (F:=fun f m=>xQ f m rest (rest.length:Int) 0 sz (ET hd n B) C I) this)
 |succ d ih=>
  intro i hi;have q9:i<rest.length:=by omega
  refine pX.lp (fun n m=>by simp only[ON,Bl,JT];exact rfl) ?_;have:decide ((i:Int)<(rest.length:Int))=true:=kR (by omega);simp only[this,kP];refine pX.Nu q9 ?_;rw[mM (by omega),iP q9,jU];have next:=ih (i+1) (by omega)
  cases hf:qw rest[i] C with
  |none=>grind [oel]
  |some x=>
   grind [oel,pX.pure]
theorem anG(xs:List lH)(s:lH)(hl:xs.length<=cap):Ev (fun n=>qQ n xs s) (xs.contains s):=by
 simp only[cap]at hl;refine Ev.fn (fun n=>by simp only[qQ,l6,FM,mB];exact rfl) ?_
 have key:∀d i:Nat,i+d=xs.length->pX (fun f m=>C7 f m xs s (xs.length:Int) (i:Int)) (bif (xs.drop i).contains s then((i+(xs.drop i).idxOf s:Nat):Int)else-1):=by
  intro d;induction d with
  |zero=>
   intro i hi;refine pX.lp (fun n m=>by simp only[MV,z8,mB];exact rfl) ?_
   grind [pX.pure]
  |succ d ih=>
   intro i hi;have q9:i<xs.length:=by omega
   refine pX.lp (fun n m=>by simp only[MV,z8,mB];exact rfl) ?_;have:decide ((i:Int)<(xs.length:Int))=true:=kR (by omega);simp only[this,kP];refine pX.Nu q9 ?_;rw[mM (by omega),iP q9,jB,List.idxOf_cons];cases hx:s==xs[i]with
   |true=>
    grind [pX.pure]
   |false=>
    have EC:(xs[i]==s)=false:=by grind
    simp only[kQ,je,EC]
    grind
 have h1:=key xs.length 0 (by omega);rw[jb]at h1
 have h2:Ev (fun n=>Gi n xs s) (bif xs.contains s then((0+xs.idxOf s:Nat):Int)else-1):=by
  refine Ev.fn (fun n=>by simp only[Gi,l6,JY,mB];exact rfl) ?_
  grind [Ev.Jh]
 refine Ev.bind h2 ?_;cases xs.contains s with
 |true=>simp_all [Ev.pure]
 |false=>exact Ev.pure
theorem axj{T:List k7}{n:k7}:T.any (fun t=>Yu t n||aPk t n)=(T.any (fun t=>Yu t n)||(T.any (fun t=>Yw t&&(xm n).contains (wD t))||T.any (fun t=>Yw n&&(xm t).contains (wD n)))):=by
 induction T with
 |nil=>rfl
 |cons t T ih=>
  grind [aPk]
theorem axk{T:List k7}{n:k7}:T.any (fun t=>Yu t n)=(FC T (wD n) (Yw n)).isSome:=by
 grind [FC,Yu]
theorem axl{T:List k7}{n:k7}{C:List (lH×k7)}(hc:∀s,qw s C=FC T s true):(xm n).any (fun s=>(qw s C).isSome)=T.any (fun t=>Yw t&&(xm n).contains (wD t)):=by
 grind [FC]
theorem asO{n:k7}:xm n=bif Yw n then(n.parts.take n.parts.length).drop 2 else(n.parts.take n.parts.length).drop 1:=by
 grind [xm]
theorem Idx.aMA{T:List k7}{sz:Int}{B C:List (lH×k7)}{I:List (lH×Bool)}{n:k7}(X:Idx T sz B C I)(hT:T.length<=100)(hl:Yw n=true)(hf:FC T (wD n) true=none):
 Idx (T++[n]) (IntKind.i64.wrap (sz+1)) B (ET (wD n) n C) (aur (xm n) I):=by
 refine⟨?_,fun s=>?_,fun s=>?_,fun s hs=>?_⟩
 ·rw[X.sz,mM (by omega),iT,iX]
 ·rw[X.b,aeN,hl];cases FC T s false<;>rfl
 ·rw[N1,X.c,aeN]
  grind
 ·rw[amZ _ _ _ hs,X.i s hs,List.any_append,jU,jX,jx,kf]
theorem Idx.aMB{T:List k7}{sz:Int}{B C:List (lH×k7)}{I:List (lH×Bool)}{n:k7}(X:Idx T sz B C I)(hT:T.length<=100)(hl:Yw n=false)(hf:FC T (wD n) false=none):
 Idx (T++[n]) (IntKind.i64.wrap (sz+1)) (ET (wD n) n B) C (aur (xm n) I):=by
 refine⟨?_,fun s=>?_,fun s=>?_,fun s hs=>?_⟩
 ·rw[X.sz,mM (by omega),iT,iX]
 ·rw[N1,X.b,aeN]
  grind
 ·rw[X.c,aeN,hl];cases FC T s true<;>rfl
 ·rw[amZ _ _ _ hs,X.i s hs,List.any_append,jU,jX,jx,kf]
theorem aAK{T:List k7}{sz:Int}{B C:List (lH×k7)}{I:List (lH×Bool)}{n:k7}(g:TOk T)(X:Idx T sz B C I)(h:Nsm n):
 lZ (fun f=>D3 f n sz B C I) (fun r=>r.2.1=ac5 T n/\(ac5 T n=0->Idx (T++[n]) r.1.1.1 r.1.2.1 r.1.2.2.1 r.1.2.2.2.1)):=by
 refine lZ.fn (fun n=>by simp only[D3,l6,LO,Ea];exact rfl) ?_;refine lZ.bind ((aE3 h).tot (Q:=(· =QQ n)) rfl) fun x hx=>?_
 subst hx;cases hc:QQ n==0 with
 |false=>
  simp only[bne,hc,iW,kP];have e:ac5 T n=QQ n:=by unfold ac5;rw[hc];rfl
  refine lZ.pure ⟨e.symm,fun h0=>?_⟩
  grind
 |true=>
 simp only[bne,hc,jf,kQ];have k:Ok n:=Ok.of (beq_iff_eq.1 hc);rw[show decide ((100:Int)<=sz)=decide (100<=T.length)from by rw[X.sz];exact decide_eq_decide.2 (by omega)];have hT:=g.len;cases aMC:decide (100<=T.length)with
 |true=>
  simp only[kP];have e:ac5 T n=6:=by unfold ac5;rw[hc,aMC];rfl
  exact lZ.pure ⟨e.symm,fun h0=>by rw[e]at h0;cases h0⟩
 |false=>
 simp only[kQ];have ea:ac5 T n=bif aPk n n||T.any (fun t=>Yu t n||aPk t n)then 8 else 0:=by unfold ac5;rw[hc,aMC];rfl
 have bad:(aPk n n||T.any (fun t=>Yu t n||aPk t n))=true->lZ (fun _:Nat=>some ((((sz,()),B,C,I,()),8,()):aN4)) (fun r=>r.2.1=ac5 T n/\(ac5 T n=0->Idx (T++[n]) r.1.1.1 r.1.2.1 r.1.2.2.1 r.1.2.2.2.1)):=fun hb=>
  lZ.pure ⟨by rw[ea,hb];rfl,fun h0=>by rw[ea,hb]at h0;cases h0⟩
 have h0:qw [] C=none:=by
  rw[X.c];cases hf:FC T [] true with
  |none=>rfl
  |some m=>
   obtain⟨a,_,c⟩:=Sw hf;exact absurd c (g.ok a).aoV
 have hin:(xm n).length<=cap:=by
  have:=k.sml
  grind [xm]
 refine lZ.bind (P:=fun r=>r=bif Yw n then(PR.ok (((sz,()),B,C,I,()),wD n,xm n,()))else(PR.pn (((sz,()),B,C,I,()),wD n,xm n,()))) ?_ fun x hx=>?_
 ·refine lZ.fn (fun n=>by simp only[Ld,l6,IF,mC];exact rfl) ?_;refine lZ.bind ((ail k.pos).1.tot (Q:=(· =Yw n)) rfl) fun x hx=>?_
  subst hx;cases hl:Yw n with
  |true=>
   have h2:=k.aEX hl;simp only[kP];rw[aCq (by omega),kR (show(2:Int)<=(n.parts.length:Int)/\(n.parts.length:Int)<=(n.parts.length:Int) by omega)];refine lZ.pure ?_
   grind [aqB,asO]
  |false=>
   have h2:=k.pos;simp only[kQ];rw[aqD h2,kR (show(1:Int)<=(n.parts.length:Int)/\(n.parts.length:Int)<=(n.parts.length:Int) by omega)];refine lZ.pure ?_
   grind [anF,asO]
 ·subst hx;cases hl:Yw n with
  |true=>
   simp only[kP,prc]
   have eC:(aPk n n||T.any (fun t=>Yu t n||aPk t n))=((FC T (wD n) true).isSome||((xm n).contains (wD n)||(T.any (fun t=>(xm t).contains (wD n))||(xm n).any (fun s=>(qw s C).isSome)))):=by
    rw[axj,axk,axl X.c,hl]
    grind [aPk]
   rw[eC]at ea bad;rw[X.c];cases hf:FC T (wD n) true with
   |some m=>rw[hf]at bad;exact bad rfl
   |none=>
    simp only[oel];refine lZ.bind ((ail k.pos).1.tot (Q:=(· =Yw n)) rfl) fun x hx=>?_
    subst hx;rw[hl];simp only[kP];rw[X.i _ k.aoV];cases hi:T.any (fun t=>(xm t).contains (wD n))with
    |true=>
     grind
    |false=>
     simp only[kQ];refine lZ.bind ((anG _ _ hin).tot (Q:=(· =(xm n).contains (wD n))) rfl) fun x hx=>?_
     subst hx;cases hcn:(xm n).contains (wD n)with
     |true=>
      grind
     |false=>
      simp only[kQ];have:=aE4 (xm n) hin (wD n) sz B C I n h0 (xm n).length 0 (by omega);rw[jb]at this;refine(Ev.Jh (F:=fun f m=>Bk f m (wD n) (xm n) (xm n) ((xm n).length:Int) 0 sz B C I n) this).tot ?_;rw[hf,hcn,hi]at ea;simp only[kg,je]at ea;cases hr:(xm n).any (fun s=>(qw s C).isSome)with
      |true=>
       grind
      |false=>
       rw[hr]at ea;exact⟨ea.symm,fun _=>X.aMA hT hl hf⟩
  |false=>
   simp only[kQ,prc]
   have eC:(aPk n n||T.any (fun t=>Yu t n||aPk t n))=((FC T (wD n) false).isSome||(xm n).any (fun s=>(qw s C).isSome)):=by
    rw[axj,axk,axl X.c,hl]
    grind [aPk]
   rw[eC]at ea bad;rw[X.b];cases hf:FC T (wD n) false with
   |some m=>rw[hf]at bad;exact bad rfl
   |none=>
    simp only[oel];refine lZ.bind ((ail k.pos).1.tot (Q:=(· =Yw n)) rfl) fun x hx=>?_
    subst hx;rw[hl];simp only[kQ];have:=aE5 (xm n) hin (wD n) sz B C I n h0 (xm n).length 0 (by omega);rw[jb]at this;refine(Ev.Jh (F:=fun f m=>Bm f m (wD n) (xm n) (xm n) ((xm n).length:Int) 0 sz B C I n) this).tot ?_;rw[hf]at ea;simp only[kg,je]at ea;cases hr:(xm n).any (fun s=>(qw s C).isSome)with
    |true=>
     grind
    |false=>
     rw[hr]at ea;exact⟨ea.symm,fun _=>X.aMB hT hl hf⟩
abbrev StP:=((List Syntax)×(Int×Unit))×((Int×Unit)×((List (lH×k7))×((List (lH×k7))×((List (lH×Bool))×Unit))))
def pos(L r:List Syntax):Int:=((L.length-r.length:Nat):Int)
theorem azK{L t r:List Syntax}(h:L=t++r):pos L r=(t.length:Int):=by
 grind [pos]
theorem aus(L:List Syntax):pos L []=(L.length:Int):=rfl
theorem aHZ(L:List Syntax):pos L L=0:=by unfold pos;rw[Nat.sub_self];rfl
theorem ahV{L:List Syntax}{y:Syntax}{r:List Syntax}(h:y::r<:+L):decide ((L.length:Int)<=pos L (y::r))=false/\AU L (pos L (y::r))=some y:=by
 obtain⟨t,rfl⟩:=h
 grind [azK,yA]
theorem axm{L:List Syntax}{y:Syntax}{r:List Syntax}(h:y::r<:+L)(hL:L.length<=cap):IntKind.i64.wrap (pos L (y::r)+1)=pos L r:=by
 obtain⟨t,rfl⟩:=h;simp only[cap]at hL;rw[iT]at hL;rw[azK rfl,azK (t:=t++[y]) (by simp),mM (by omega),iT,iX]
theorem aCt{L:List Syntax}{y:Syntax}{r:List Syntax}(h:y::r<:+L):r<:+L:=(jW y r).trans h
section prog
variable (L:List Syntax) (sz:Int) (B C:List (lH×k7)) (I:List (lH×Bool))
def psP(r:List Syntax):StP:=((L,pos L r,()),(sz,()),B,C,I,())
def arK:Out->PR (StP×(Syntax×(Int×Unit))) (StP×(Unit×Unit))
 |.bad q=>.pn (psP L sz B C I q,(),())
 |.val x h q=>.ok (psP L sz B C I q,x,h,())
 |.lR _ _ q=>.pn (psP L sz B C I q,(),())
def aE6(n:k7)(start:Int):Out->PR (StP×(Syntax×Unit)) (StP×(Unit×Unit))
 |.bad q=>.pn (psP L sz B C I q,(),())
 |.val _ _ q=>.pn (psP L sz B C I q,(),())
 |.lR l e q=>.ok (psP L sz B C I q,aqy n l start e,())
theorem aeO{r:List Syntax}(h:r<:+L):Ev (fun f=>Ae f L (pos L r) sz B C I) (psP L sz B C I r,match aoG r with|none=>([],false,())|some s=>(s,true,())):=by
 refine Ev.fn (fun n=>by simp only[Ae,l6,FK,mC];exact rfl) ?_
 match r,h with
 |[],h=>
  rw[aus,kR (jR _)];exact Ev.pure
 |y::r,h=>
  obtain⟨h1,h2⟩:=ahV h;rw[h1,h2];simp only[kQ,iO];rw[show aoG (y::r)=bif y.kind==17 then some y.text else none from rfl,bne];cases y.kind==17<;>exact Ev.pure
theorem aH0(n:k7)(lR:List Syntax)(hl:lR.length<=cap)(f t:Int)(r:List Syntax):∀(d i:Nat)(k:Int)(s:lH)(mR:List Syntax)(a b:Int),i+d=lR.length->
 pX (fun g m=>yY (l8 g) g m f t (lR.length:Int) (i:Int) L (pos L r) sz B C I lR k s mR a b) (.ok (psP L sz B C I r,aAF (Syntax.mk k s 0 [] [] mR a b) (lR.drop i) f t,())):=by
 simp only[cap]at hl;intro d;induction d with
 |zero=>
  intro i k s mR a b hi;refine pX.lp (fun n m=>by simp only[Mk,yX,my,JT];exact rfl) ?_;have:decide ((i:Int)<(lR.length:Int))=false:=kS (by omega);simp only[this,kQ,iS (show lR.length<=i by omega)];exact pX.pure
 |succ d ih=>
  intro i k s mR a b hi;have q9:i<lR.length:=by omega
  refine pX.lp (fun n m=>by simp only[Mk,yX,my,JT];exact rfl) ?_;have:decide ((i:Int)<(lR.length:Int))=true:=kR (by omega);simp only[this,kP];refine pX.Nu q9 ?_;rw[mM (by omega),iP q9];exact ih (i+1) 2 [] _ f t (by omega)
theorem aH1(n:k7)(lR:List Syntax)(hl:lR.length<=cap)(f t:Int)(r:List Syntax):∀(d i:Nat)(k:Int)(s:lH)(mR:List Syntax)(a b:Int),i+d=lR.length->
 pX (fun g m=>y9 (l8 g) g m f t lR (lR.length:Int) (i:Int) L (pos L r) sz B C I k s mR a b) (.ok (psP L sz B C I r,aAF (Syntax.mk k s 0 [] [] mR a b) (lR.drop i) f t,())):=by
 simp only[cap]at hl;intro d;induction d with
 |zero=>
  intro i k s mR a b hi;refine pX.lp (fun n m=>by simp only[Ml,yZ,my,JT];exact rfl) ?_;have:decide ((i:Int)<(lR.length:Int))=false:=kS (by omega);simp only[this,kQ,iS (show lR.length<=i by omega)];exact pX.pure
 |succ d ih=>
  intro i k s mR a b hi;have q9:i<lR.length:=by omega
  refine pX.lp (fun n m=>by simp only[Ml,yZ,my,JT];exact rfl) ?_;have:decide ((i:Int)<(lR.length:Int))=true:=kR (by omega);simp only[this,kP];refine pX.Nu q9 ?_;rw[mM (by omega),iP q9];exact ih (i+1) 2 [] _ f t (by omega)
def PG:Cmd->Out->Prop
 |.tW m r,o=>Ev (fun f=>qx f m L (pos L r) sz B C I) (arK L sz B C I o)
 |.first m r,o=>Ev (fun f=>oQ f m L (pos L r) sz B C I) (arK L sz B C I o)
 |.loop m out has r,o=>pX (fun f k=>tz (l8 f) f k m has L (pos L r) sz B C I out) (arK L sz B C I o)
 |.parts n ps i lR e r,o=>Ok n->∀(rJ j:Nat)(start:Int),i=rJ+j->rJ+j<=n.parts.length->ps=n.parts.drop i->lR.length<=i->
     pX (fun f k=>Cs (l8 f) f k (rJ:Int) start e (n.parts.drop rJ) ((n.parts.drop rJ).length:Int) (j:Int) L (pos L r) sz B C I n lR) (aE6 L sz B C I n start o)/\
     pX (fun f k=>za (l8 f) f k (rJ:Int) lR start e (n.parts.drop rJ) ((n.parts.drop rJ).length:Int) (j:Int) L (pos L r) sz B C I n) (aE6 L sz B C I n start o)
variable {L} {sz} {B} {C} {I} {T:List k7}
theorem aE7{lR:List Syntax}(h:lR.length<17):decide ((lR.length+1)*120<=17592186044416)=true:=kR (by omega)
theorem SO{n:k7}(k:Ok n){rJ:Nat}(hf:rJ<=n.parts.length){lR:List Syntax}(ho:lR.length<=rJ){r:List Syntax}{o:Out}(h:PG L sz B C I (.parts n (n.parts.drop rJ) rJ lR 0 r) o)(start:Int):
 Ev (fun f=>rL f n (rJ:Int) lR start L (pos L r) sz B C I) (aE6 L sz B C I n start o):=by
 refine Ev.fn (fun n=>by simp only[ad9,Dg,my,Ea];exact rfl) ?_;rw[kR (show(0:Int)<=(rJ:Int)/\(rJ:Int)<=(n.parts.length:Int)/\(n.parts.length:Int)<=(n.parts.length:Int) by omega)];simp only[kP,jd,jp];exact Ev.Jh (F:=fun f k=>za (l8 f) f k (rJ:Int) lR start 0 (n.parts.drop rJ) ((n.parts.drop rJ).length:Int) 0 L (pos L r) sz B C I n) (h k rJ 0 start (by omega) (by omega) rfl ho).2
theorem alU{n:k7}{s:lH}{ps:List lH}{i rJ:Nat}(hps:s::ps=n.parts.drop i)(hi:i=rJ+j):
 ((j:Int)<((n.parts.drop rJ).length:Int))/\AU (n.parts.drop rJ) (j:Int)=some s/\ps=n.parts.drop (i+1)/\i<n.parts.length:=by
 grind [iR,iP,yA]
theorem alV {i rJ:Nat}{n:k7}(hi:i=rJ+j)(k:Ok n)(hle:rJ+j<=n.parts.length):IntKind.i64.wrap ((rJ:Int)+(j:Int))=((rJ+j:Nat):Int):=by
 have:=k.few
 grind [qo]
theorem Yx.prog(g:TOk T)(X:Idx T sz B C I)(hL:L.length<=cap){c:Cmd}{o:Out}(h:Yx T c o):c.rest<:+L->PG L sz B C I c o:=by
 induction h with
 | @aqz n i lR e r=>
   intro hr k rJ j start hi hle hps ho
   have hj:rJ+j=n.parts.length:=by
    grind [ja]
   have he:decide ((j:Int)<((n.parts.drop rJ).length:Int))=false:=kS (by rw[iZ];omega);have hoc:lR.length<=cap:=by have:=k.sml;omega
   constructor
   ·refine pX.lp (fun n m=>by simp only[xz,tA,my,JT];exact rfl) ?_;simp only[he,kQ];have:=aH0 L sz B C I n lR hoc start e r lR.length 0 0 n.target [] start e (by omega);exact pX.of1 (Ev.Jh (F:=fun f m=>yY (l8 f) f m start e (lR.length:Int) 0 L (pos L r) sz B C I lR 0 n.target [] start e) this)
   ·refine pX.lp (fun n m=>by simp only[xA,tB,my,JT];exact rfl) ?_;simp only[he,kQ];have:=aH1 L sz B C I n lR hoc start e r lR.length 0 0 n.target [] start e (by omega);exact pX.of1 (Ev.Jh (F:=fun f m=>y9 (l8 f) f m start e lR (lR.length:Int) 0 L (pos L r) sz B C I 0 n.target [] start e) this)
 | @auo n ps i lR e r q h1 ih=>
   intro hr k rJ j start hi hle hps ho;obtain⟨q9,hx,hd,hil⟩:=alU hps hi;constructor
   ·refine pX.lp (fun n m=>by simp only[xz,tA,my,JT];exact rfl) ?_;rw[kR q9];simp only[kP,hx,iO,beq_self_eq_true];rw[alV hi k hle,<-hi];refine pX.nK (SN k (i:=i) (by omega)) (pX.nK (ih hr) ?_);exact pX.pure
   ·refine pX.lp (fun n m=>by simp only[xA,tB,my,JT];exact rfl) ?_;rw[kR q9];simp only[kP,hx,iO,beq_self_eq_true];rw[alV hi k hle,<-hi];refine pX.nK (SN k (i:=i) (by omega)) (pX.nK (ih hr) ?_);exact pX.pure
 | @alb n ps i lR e r x h q o h1 h2 ih1 ih2=>
   intro hr k rJ j start hi hle hps ho;obtain⟨q9,hx,hd,hil⟩:=alU hps hi;have hq:q<:+L:=(h1.azH (o:=.val x h q)).trans hr;have next:=(ih2 hq k rJ (j+1) start (by omega) (by omega) hd (by grind)).1
   have hw:IntKind.i64.wrap ((j:Int)+1)=((j+1:Nat):Int):=mM (by have:=k.few;omega);constructor
   ·refine pX.lp (fun n m=>by simp only[xz,tA,my,JT];exact rfl) ?_;rw[kR q9];simp only[kP,hx,iO,beq_self_eq_true];rw[alV hi k hle,<-hi];refine pX.nK (SN k (i:=i) (by omega)) (pX.nK (ih1 hr) ?_);simp only[arK,prc,psP];rw[aE7 (by have:=k.few;omega),hw];exact next
   ·refine pX.lp (fun n m=>by simp only[xA,tB,my,JT];exact rfl) ?_;rw[kR q9];simp only[kP,hx,iO,beq_self_eq_true];rw[alV hi k hle,<-hi];refine pX.nK (SN k (i:=i) (by omega)) (pX.nK (ih1 hr) ?_);simp only[arK,prc,psP];rw[aE7 (by have:=k.few;omega),hw];exact next
 | @azG n s ps i lR e r hs hq=>
   intro hr k rJ j start hi hle hps ho;obtain⟨q9,hx,hd,hil⟩:=alU hps hi;have hs':(s==[])=false:=kV.2 hs;constructor
   ·refine pX.lp (fun n m=>by simp only[xz,tA,my,JT];exact rfl) ?_;rw[kR q9];simp only[kP,hx,iO,hs',kQ];refine pX.nK (aeO L sz B C I hr) ?_;cases hy:aoG r with
    |none=>exact pX.pure
    |some t=>
     have:(t==s)=false:=kV.2 fun e=>hq (by rw[hy,e])
     simp only[kP,this,kQ];exact pX.pure
   ·refine pX.lp (fun n m=>by simp only[xA,tB,my,JT];exact rfl) ?_;rw[kR q9];simp only[kP,hx,iO,hs',kQ];refine pX.nK (aeO L sz B C I hr) ?_;cases hy:aoG r with
    |none=>exact pX.pure
    |some t=>
     have:(t==s)=false:=kV.2 fun e=>hq (by rw[hy,e])
     simp only[kP,this,kQ];exact pX.pure
 | @sym n s ps i lR e y r o hs hk ht h2 ih=>
   intro hr k rJ j start hi hle hps ho;obtain⟨q9,hx,hd,hil⟩:=alU hps hi;have hs':(s==[])=false:=kV.2 hs;simp only[Cmd.rest]at hr ih;obtain⟨aOp,aOq⟩:=ih (aCt hr) k rJ (j+1) start (by omega) (by omega) hd (by omega);have hw:IntKind.i64.wrap ((j:Int)+1)=((j+1:Nat):Int):=mM (by have:=k.few;omega);have hp:=axm hr hL;constructor
   ·refine pX.lp (fun n m=>by simp only[xz,tA,my,JT];exact rfl) ?_;rw[kR q9];simp only[kP,hx,iO,hs',kQ];refine pX.nK (aeO L sz B C I hr) ?_
    simp_all [aAG,psP,ahV]
   ·refine pX.lp (fun n m=>by simp only[xA,tB,my,JT];exact rfl) ?_;rw[kR q9];simp only[kP,hx,iO,hs',kQ];refine pX.nK (aeO L sz B C I hr) ?_
    simp_all [aAG,psP,ahV]
 | @alO m=>
   intro hr;show Ev (fun f=>oQ f m L (pos L []) sz B C I) _;refine Ev.fn (fun n=>by simp only[xB,sx,my,Ea];exact rfl) ?_;rw[aus,kR (jR _)];exact Ev.pure
 | @amV m x r hx=>
   intro hr;show Ev (fun f=>oQ f m L (pos L (x::r)) sz B C I) _;refine Ev.fn (fun n=>by simp only[xB,sx,my,Ea];exact rfl) ?_;obtain⟨h1,h2⟩:=ahV hr;rw[h1,h2,axm hr hL];have:(x.kind !=17)=true:=by grind
   simp only[kQ,iO,this,kP];exact Ev.pure
 | @amW m x r hx hb=>
   intro hr;show Ev (fun f=>oQ f m L (pos L (x::r)) sz B C I) _;refine Ev.fn (fun n=>by simp only[xB,sx,my,Ea];exact rfl) ?_;obtain⟨h1,h2⟩:=ahV hr;rw[h1,h2];have:(x.kind !=17)=false:=by rw[bne,beq_iff_eq.2 hx];rfl
   simp only[kQ,iO,this,X.b];unfold azF at hb;cases hf:FC T x.text false with
   |none=>exact Ev.pure
   |some n=>
    rw[hf]at hb;have kn:=g.ok (Sw hf).1;simp only[oel];cases hc:rgt n&&decide (n.tW<m)with
    |false=>simp only[hc]at hb;cases hb
    |true=>
     rw[jc]at hc;refine Ev.bind (LX kn.pos kn.sml).1 ?_;rw[hc.1,hc.2];exact Ev.pure
 | @aqA m x r n q hx hb h1 ih=>
   intro hr;show Ev (fun f=>oQ f m L (pos L (x::r)) sz B C I) _;refine Ev.fn (fun n=>by simp only[xB,sx,my,Ea];exact rfl) ?_;obtain⟨e1,e2⟩:=ahV hr;rw[e1,e2];have:(x.kind !=17)=false:=by rw[bne,beq_iff_eq.2 hx];rfl
   obtain⟨hn,hl,hh,aKn⟩:=amX hb;have kn:=g.ok hn;have hf:FC T x.text false=some n:=by grind [aik]
   simp only[kQ,iO,this,X.b,hf,oel];have xn:=SO kn (ju _) (iY 0) (lR:=[]) (ih hr) x.rJ;refine Ev.bind (LX kn.pos kn.sml).1 ?_;cases hrg:rgt n with
   |true=>
    have:decide (n.tW<m)=false:=kS (by have:=aKn hrg;omega);simp only[kP,this,kQ];refine Ev.bind (LX kn.pos kn.sml).1 ?_;rw[hrg];exact Ev.bind xn Ev.pure
   |false=>
    simp only[kQ];refine Ev.bind (LX kn.pos kn.sml).1 ?_;rw[hrg];exact Ev.bind xn Ev.pure
 | @first m x r n l e q hx hb h1 ih=>
   intro hr;show Ev (fun f=>oQ f m L (pos L (x::r)) sz B C I) _;refine Ev.fn (fun n=>by simp only[xB,sx,my,Ea];exact rfl) ?_;obtain⟨e1,e2⟩:=ahV hr;rw[e1,e2];have:(x.kind !=17)=false:=by rw[bne,beq_iff_eq.2 hx];rfl
   obtain⟨hn,hl,hh,aKn⟩:=amX hb;have kn:=g.ok hn;have hf:FC T x.text false=some n:=by grind [aik]
   simp only[kQ,iO,this,X.b,hf,oel];have xn:=SO kn (ju _) (iY 0) (lR:=[]) (ih hr) x.rJ;refine Ev.bind (LX kn.pos kn.sml).1 ?_;have ho:aEY n=bif rgt n then n.tW else 101:=rfl
   cases hrg:rgt n with
   |true=>
    rw[hrg]at ho;have:decide (n.tW<m)=false:=kS (by have:=aKn hrg;omega);simp only[kP,this,kQ];refine Ev.bind (LX kn.pos kn.sml).1 ?_;rw[hrg];refine Ev.bind xn ?_
    grind [aE6,arK,prc,Ev.pure]
   |false=>
    rw[hrg]at ho;simp only[kQ];refine Ev.bind (LX kn.pos kn.sml).1 ?_;rw[hrg];refine Ev.bind xn ?_
    grind [aE6,arK,prc,Ev.pure]
 | @stop m out has r hg=>
   intro hr;show pX (fun f k=>tz (l8 f) f k m has L (pos L r) sz B C I out) _;refine pX.lp (fun n m=>by simp only[EL,wz,my,JT];exact rfl) ?_;refine pX.nK (aeO L sz B C I hr) ?_;unfold azE at hg;cases hs:aoG r with
   |none=>exact pX.pure
   |some s=>
    rw[hs]at hg;simp only at hg;simp only[kP,psP,X.c];cases hf:FC T s true with
    |none=>exact pX.pure
    |some n=>
     rw[hf]at hg;have kn:=g.ok (Sw hf).1;simp only[oel];cases h1:decide (n.tW<m)with
     |true=>exact pX.pure
     |false=>
      simp only[kQ];refine pX.nK (SN kn (i:=0) kn.pos) ?_;cases h2:decide (has<JQ n 0)with
      |true=>exact pX.pure
      |false=>simp [h1,h2]at hg
 | @aEZ m out has r n q hg h1 ih=>
   intro hr;show pX (fun f k=>tz (l8 f) f k m has L (pos L r) sz B C I out) _;refine pX.lp (fun n m=>by simp only[EL,wz,my,JT];exact rfl) ?_;refine pX.nK (aeO L sz B C I hr) ?_;obtain⟨hn,hl,hs,hm,hh⟩:=amY hg;have kn:=g.ok hn;have hf:FC T (wD n) true=some n:=by rw[<-hl];exact aik g hn
   have xn:=SO kn kn.pos (iY 1) (lR:=[out]) (ih hr) out.rJ;rw[hs];simp only[kP,psP,X.c,hf,oel];rw[kS (show ¬ n.tW<m by omega)];simp only[kQ];refine pX.nK (SN kn (i:=0) kn.pos) ?_;rw[kS (show ¬ has<JQ n 0 by omega)];exact pX.nK xn pX.pure
 | @go m out has r n l e q o hg h1 h2 ih1 ih2=>
   intro hr;show pX (fun f k=>tz (l8 f) f k m has L (pos L r) sz B C I out) _;refine pX.lp (fun n m=>by simp only[EL,wz,my,JT];exact rfl) ?_;refine pX.nK (aeO L sz B C I hr) ?_;obtain⟨hn,hl,hs,hm,hh⟩:=amY hg;have kn:=g.ok hn;have hf:FC T (wD n) true=some n:=by rw[<-hl];exact aik g hn
   have xn:=SO kn kn.pos (iY 1) (lR:=[out]) (ih1 hr) out.rJ;rw[hs];simp only[kP,psP,X.c,hf,oel];rw[kS (show ¬ n.tW<m by omega)];simp only[kQ];refine pX.nK (SN kn (i:=0) kn.pos) ?_;rw[kS (show ¬ has<JQ n 0 by omega)];refine pX.nK xn ?_;exact ih2 ((h1.azH (o:=.lR l e q)).trans hr)
 | @alQ m r q h1 ih=>
   intro hr;show Ev (fun f=>qx f m L (pos L r) sz B C I) _;refine Ev.fn (fun n=>by simp only[P8,An,my,Ea];exact rfl) ?_;exact Ev.bind (ih hr) Ev.pure
 | @tW m r x h q o h1 h2 ih1 ih2=>
   intro hr;show Ev (fun f=>qx f m L (pos L r) sz B C I) _;refine Ev.fn (fun n=>by simp only[P8,An,my,Ea];exact rfl) ?_;refine Ev.bind (ih1 hr) ?_;exact Ev.Jh (F:=fun f k=>tz (l8 f) f k m h L (pos L q) sz B C I x) (ih2 ((h1.azH (o:=.val x h q)).trans hr))
end prog
section ref
variable (T:List k7) (L:List Syntax)
variable {T} {L}
theorem aut{n:k7}{s:lH}{ps:List lH}{i:Nat}(hps:s::ps=n.parts.drop i):decide ((i:Int)<(n.parts.length:Int))=true/\AU n.parts (i:Int)=some s/\ps=n.parts.drop (i+1)/\i<n.parts.length:=by
 obtain⟨h1,h2,h3,h4⟩:=alU (n:=n) (rJ:=0) (j:=i) hps (by omega)
 grind
theorem Ev.aN5{S R:Type}{F:Nat->Option S}{x:S}{G:Nat->S->Option R}{Q:R->Prop}(h:Ev F x)(hg:lZ (fun n=>G n x) Q):lZ (fun n=>(F n).bind (G n)) Q:=
 lZ.bind (h.tot (Q:=(· =x)) rfl) fun y hy=>by subst hy;exact hg
end ref
def aE8(T:List k7)(b:Bool)(r:PR (Unit×Unit) (((Int×Unit)×((List (lH×k7))×((List (lH×k7))×((List (lH×Bool))×Unit))))×Unit)):Prop:=
 (b=true/\∃sz B C I,r=.pn (((sz,()),B,C,I,()),())/\Idx T sz B C I)\/(b=false/\r=.ok ((),()))
theorem am0{T:List k7}(hl:T.length<=cap)(h:∀n∈T,Nsm n):
 lZ (fun f=>DH f T) (aE8 T (VQ T)):=by
 refine lZ.fn (fun n=>by simp only[DH,l6,NX,mC];exact rfl) ?_;simp only[cap]at hl
 have aJQ:Ev (fun f=>Kp f) (((0,()),[],[],[],()),()):=by
  refine Ev.fn (fun n=>by simp only[Kp,l6,Mz,mC];exact rfl) ?_;exact Ev.pure
 refine aJQ.aN5 ?_
 have key:∀(d i:Nat)(sz:Int)(B C:List (lH×k7))(I:List (lH×Bool)),i+d=T.length->TOk (T.take i)->Idx (T.take i) sz B C I->
  l1 (fun f m=>C0 f m T (T.length:Int) (i:Int) sz B C I) (aE8 T (ahU (T.take i) (T.drop i))):=by
  intro d;induction d with
  |zero=>
   intro i sz B C I hi g X;refine l1.lp (fun n m=>by simp only[RF,CZ,mB];exact rfl) ?_;have:decide ((i:Int)<(T.length:Int))=false:=kS (by omega);simp only[this,kQ,iS (show T.length<=i by omega)];rw[jE (by omega)]at X;exact l1.pure (.inl ⟨by first|rfl|trivial,sz,B,C,I,rfl,X⟩)
  |succ d ih=>
   intro i sz B C I hi g X;have q9:i<T.length:=by omega
   refine l1.lp (fun n m=>by simp only[RF,CZ,mB];exact rfl) ?_;have:decide ((i:Int)<(T.length:Int))=true:=kR (by omega);simp only[this,kP];refine l1.Nu q9 ?_;refine l1.nK (aAK g X (h _ (iQ q9))) fun r hr=>?_
   obtain⟨h1,h2⟩:=hr;rw[h1,iP q9,ahU];cases ha:ac5 (T.take i) T[i]==0 with
   |false=>simp only[bne,ha,iW,kP,jC];exact l1.pure (.inr ⟨rfl,rfl⟩)
   |true=>
    simp only[bne,ha,jf,kQ,iU];have h0:=beq_iff_eq.1 ha;have g':=g.aEW h0;have X':=h2 h0;have e:T.take i++[T[i]]=T.take (i+1):=by simp_all
    grind [mM]
 have:=key T.length 0 0 [] [] [] (by omega) (by rw[jQ];exact TOk.nil) (by rw[jQ];exact Idx.nil);rw[jQ,jb]at this;exact lZ.Jh (F:=fun f m=>C0 f m T (T.length:Int) 0 0 [] [] []) this
def zS:Syntax:=.mk 0 [] 0 [] [] [] 0 0
def ua(L:List Syntax):Out->Syntax×Int×Int
 |.bad q=>(zS,pos L q,4)
 |.val x _ q=>bif q.isEmpty then(x,0,0)else(zS,pos L q,4)
 |.lR _ _ _=>(zS,0,0)
theorem azL{T:List k7}{L:List Syntax}(hl:T.length<=cap)(h:∀n∈T,Nsm n)(hL:L.length<=cap)(ht:VQ T=true)(hb: ¬ 4096<L.length){o:Out}(ho:Yx T (.tW 0 L) o):
 Ev (fun f=>HA f T L) (ua L o):=by
 obtain⟨ri,hri,evi⟩:=am0 hl h;have aMD:decide ((4096:Int)<(L.length:Int))=decide (4096<L.length):=decide_eq_decide.2 (by omega);have g:=TOk.of ht;rcases hri with⟨_,sz,B,C,I,rfl,X⟩|⟨ht',rfl⟩
 ·refine Ev.fn (fun n=>by simp only[HA,l6,St,JT];exact rfl) ?_;refine Ev.bind evi ?_;simp only[prc,aMD,kS hb,kQ];have hp:Ev (fun f=>qx f 0 L (pos L L) sz B C I) (arK L sz B C I o):=Yx.prog g X hL ho (jq _);rw[aHZ]at hp;refine Ev.bind hp ?_
  have qp:∀(x:Syntax)(q:List Syntax),Ev (fun f=>(AD f () x 0 0 L (pos L q) sz B C I).bind fun x=>some (x.fst.snd.fst.fst,x.fst.snd.snd.fst.fst,x.fst.snd.snd.snd.fst.fst)) (zS,pos L q,4):=by
   intro x q;refine Ev.bind (x:=(((),(zS,()),(pos L q,()),(4,()),(L,pos L q,()),(sz,()),B,C,I,()),())) ?_ Ev.pure;refine Ev.fn (fun n=>by simp only[AD,l6,asP,mB];exact rfl) ?_;exact Ev.pure
  rcases aoW ho rfl with⟨q,rfl⟩|⟨x,hh,q,rfl⟩
  ·simp only[arK,prc,psP];exact qp _ _
  ·simp only[arK,prc,psP];have hs:q<:+L:=ho.azH (o:=.val x hh q)
   match q,hs with
   |[],hs=>
    rw[aus,kS (ji _)];simp only[kQ];refine Ev.bind (x:=(((),(x,()),(0,()),(0,()),(L,(L.length:Int),()),(sz,()),B,C,I,()),())) ?_ Ev.pure;refine Ev.fn (fun n=>by simp only[CR,l6,asN,mB];exact rfl) ?_;exact Ev.pure
   |y::q,hs=>
    have:=(ahV hs).1;rw[kR (show pos L (y::q)<(L.length:Int) by grind)];exact qp _ _
 ·rw[ht]at ht';cases ht'
theorem Syntax.VR(e:Syntax):e.rI=1+((e.text.length+1)+(1+(wk (fun m:lH=>m.length+1) e.mZ+(wk ld.rI e.mK+(wk Syntax.rI e.mR+(1+(1+1))))))):=by
 cases e;simp [Syntax.rI,Syntax.text,Syntax.mZ,Syntax.mK,Syntax.mR,Syntax.aqp]
mutual
def D8:Syntax->Nat
 |.mk _ _ _ _ _ mR _ _=>1+yN mR
def yN:List Syntax->Nat
 |[]=>0
 |x::xs=>D8 x+yN xs
end
theorem Sy(e:Syntax):D8 e=1+yN e.mR:=by cases e;rw[D8];rfl
theorem ajB:∀a b:List Syntax,yN (a++b)=yN a+yN b
 |[],b=>by rw[yN];simp
 |x::a,b=>by rw[jY,yN,yN,ajB a b];omega
abbrev nlm:Nat:=4611686018427387904
theorem aE9:∀(k:Nat)(pre mid suf:List Syntax),mid.length=k->pre.length+k<nlm->pX (fun n m=>BJ n m pre.length ((pre.length:Int)+mid.length-1) (pre++(mid++suf))) ((pre++(mid.reverse++suf),()),()):=by
 intro k;induction k using jk with
 |ind k ih=>
  intro pre mid suf hk aME;refine pX.lp (fun n m=>by simp only[XF,BI,mB];exact rfl) ?_
  match mid,hk with
  |[],hk=>
   have:decide ((pre.length:Int)<(pre.length:Int)+([]:List Syntax).length-1)=false:=by simp;omega
   simp only[this,kQ];exact pX.pure
  |[x],hk=>
   have:decide ((pre.length:Int)<(pre.length:Int)+([x]:List Syntax).length-1)=false:=by simp
   simp only[this,kQ];exact pX.pure
  |x::y'::rest,hk=>
   obtain⟨Q2,y,hy⟩:∃Q2 y,y'::rest=Q2++[y]:=⟨(y'::rest).dropLast,(y'::rest).getLast (by simp),(List.dropLast_concat_getLast (by simp)).symm⟩;rw[hy]at hk ⊢;simp only[iR,iT,ja]at hk;have hd:decide ((pre.length:Int)<(pre.length:Int)+(x::(Q2++[y])).length-1)=true:=by simp only[iR,iT,ja,kU];omega
   have e1:((pre.length:Int)+(x::(Q2++[y])).length-1)=((pre.length+Q2.length+1:Nat):Int):=by simp only[iR,iT,ja];omega
   have g1:(pre++(x::(Q2++[y])++suf))[pre.length+Q2.length+1]? =some y:=by
    rw[jy (by omega)];have:pre.length+Q2.length+1-pre.length=Q2.length+1:=by omega
    rw[this];simp
   have g0:(pre++(x::(Q2++[y])++suf))[pre.length]? =some x:=by
    rw[jy (by omega)];simp
   have s0:(pre++(x::(Q2++[y])++suf)).set pre.length y=pre++(y::(Q2++[y])++suf):=by
    rw[jI _ _ (by omega)];simp
   have g2:(pre++(y::(Q2++[y])++suf))[pre.length+Q2.length+1]? =some y:=by
    rw[jy (by omega)];have:pre.length+Q2.length+1-pre.length=Q2.length+1:=by omega
    rw[this];simp
   have s1:(pre++(y::(Q2++[y])++suf)).set (pre.length+Q2.length+1) x=(pre++[y])++(Q2++(x::suf)):=by
    rw[jI _ _ (by omega)];have:pre.length+Q2.length+1-pre.length=Q2.length+1:=by omega
    rw[this];simp only[jY,List.set_cons_succ,jm];rw[jI _ _ (by omega)];simp
   rw[e1]at hd;simp only[e1];simp only[hd,kP];have n0:(0:Int)<=((pre.length+Q2.length+1:Nat):Int):=by omega
   have n1:(0:Int)<=(pre.length:Int):=by omega
   simp only[AU,n0,n1,kW,jd,g1,g0,g2,s0,s1,iO]
   have w1:IntKind.i64.wrap ((pre.length:Int)+1)=((pre++[y]).length:Int):=by
    simp only[nlm]at aME;rw[mM (by omega)];simp
   have w2:IntKind.i64.wrap (((pre.length+Q2.length+1:Nat):Int)-1)=((pre++[y]).length:Int)+Q2.length-1:=by
    simp only[nlm]at aME;rw[qo (by omega) (by omega)];simp;omega
   rw[w1,w2];have:=ih Q2.length (by omega) (pre++[y]) Q2 (x::suf) rfl (by simp;omega);have e:pre++((x::(Q2++[y])).reverse++suf)=(pre++[y])++(Q2.reverse++(x::suf)):=by simp
   rw[e];exact this
theorem abl(r:List Syntax)(h:r.length<nlm):Ev (fun n=>Ec n r) ((r.reverse,()),()):=by
 refine Ev.fn (fun n=>by simp only[Ec,l6,G4,mB];exact rfl) ?_;have:=aE9 r.length [] r [] rfl (by simpa using h);simp only[jO,jM,ja]at this;have w:IntKind.i64.wrap ((r.length:Int)-1)=(0:Nat)+(r.length:Int)-1:=by simp only[nlm]at h;rw[qo (by omega) (by omega)];omega
 rw[w];exact Ev.Jh this
def azM(T:List k7)(h:Syntax)(lR:List Syntax):Option (k7×List Syntax):=
 bif h.kind==0&&(h.mK.length==0&&h.num==0)then
  (match T.find? (fun n=>n.target==h.text)with
  |none=>none
  |some n=>bif aeM n==lR.length then some (n,lR)else none)
 else none
theorem axn:∀e:Syntax,D8 (uI e).1+yN (uI e).2<=D8 e:=by
 intro e;induction e using Syntax.ind with
 |h e ih=>
  cases hk:aOK e with
  |none=>rw[aPl hk];simp [yN]
  |some p=>
   obtain⟨a,b⟩:=p;have hm:=(Sx hk).2;have:=ih a (by rw[hm];simp);rw[aPm hk,Sy e,hm,ajB];simp only[yN];omega
theorem aFa{e:Syntax}(h:aOK e=none)(hk:e.kind=2):((e.mR.length:Int)==2)=false:=by
 unfold aOK at h;rw[hk]at h
 match hq:e.mR with
 |[]=>rfl
 |[x]=>rfl
 |[x,y]=>rw[hq]at h;cases h
 |x::y::z::r=>rw[kV];simp only[iR];omega
def APr(M:List (lH×k7))(o:Option (k7×List Syntax))(r:(Unit×((List (lH×k7))×Unit))×(k7×((List Syntax)×(Bool×Unit)))):Prop:=
 r.1=((),M,())/\match o with
   |some (n,l)=>r.2=(n,l,true,())
   |none=>r.2.2.2.1=false
theorem aH2(h:k<=4000000):decide ((k+1)*120<=17592186044416)=true:=kR (by omega)
theorem aFb(n:k7)(hn:n.parts.length<=cap)(M:List (lH×k7))(r4:List Syntax)(hr:r4.length<=4000000):∀(d i c:Nat),i+d=n.parts.length->c<=i->
 pX (fun f k=>uf f k (c:Int) n.parts (n.parts.length:Int) (i:Int) M r4 n) (((),M,()),n,r4.reverse,((c+(n.parts.drop i).countP (· ==[]):Nat):Int)==(r4.length:Int),()):=by
 simp only[cap]at hn;intro d;induction d with
 |zero=>
  intro i c hi hc;refine pX.lp (fun n m=>by simp only[H7,vY,mB];exact rfl) ?_;have:decide ((i:Int)<(n.parts.length:Int))=false:=kS (by omega);simp only[this,kQ,iS (show n.parts.length<=i by omega),List.countP_nil,jJ];refine pX.nK (abl r4 (by simp only[nlm];omega)) ?_;simp only[j9,decide_true,kP,beq_self_eq_true];exact pX.pure
 |succ d ih=>
  intro i c hi hc;have q9:i<n.parts.length:=by omega
  refine pX.lp (fun n m=>by simp only[H7,vY,mB];exact rfl) ?_;have:decide ((i:Int)<(n.parts.length:Int))=true:=kR (by omega);simp only[this,kP];refine pX.Nu q9 ?_;rw[mM (i:=i) (by omega),iP q9,List.countP_cons];cases hx:n.parts[i]==[]with
  |true=>
   simp only[kP];rw[mM (by omega)];have:=ih (i+1) (c+1) (by omega) (by omega)
   rwa [show c+1+(n.parts.drop (i+1)).countP (· ==[])=c+((n.parts.drop (i+1)).countP (· ==[])+if true=true then 1 else 0)from by simp;omega]at this
  |false=>
   simp only[kQ];have:=ih (i+1) c (by omega) (by omega)
   rwa [show c+(n.parts.drop (i+1)).countP (· ==[])=c+((n.parts.drop (i+1)).countP (· ==[])+if false=true then 1 else 0)from by simp]at this
theorem ahW {T:List k7} (hN: ∀n∈T,Nsm n) {M:List (lH×k7)} (hM: ∀s,qw s M=T.find? (fun n=>n.target==s)) (e:Syntax) (he:D8 e<=cap):
 lZ (fun f=>vE f e M) (APr M (zw T e)):=by
 refine lZ.fn (fun n=>by simp only[vE,l6,DV,mC];exact rfl) ?_;simp only[cap]at he
 have key: ∀ (e:Syntax) (r4:List Syntax),r4.length+D8 e<=2000000->l1 (fun f k=>vZ f k M e r4) (APr M (azM T (uI e).1 ((uI e).2++r4.reverse))):=by
  intro e;induction e using Syntax.ind with
  |h e ih=>
   intro r4 hr;refine l1.lp (fun n m=>by simp only[Ut,zE,mB];exact rfl) ?_
   have CF:aOK e=none->l1 (fun f k=>bif e.kind !=0 then some (((),M,()),(⟨[],0,0,[]⟩:k7),([]:List Syntax),false,()) else bif decide (0<(e.mK.length:Int)) then some (((),M,()),⟨[],0,0,[]⟩,[],false,()) else bif e.num !=0 then some (((),M,()),⟨[],0,0,[]⟩,[],false,()) else
    oel (qw e.text M) (some (((),M,()),⟨[],0,0,[]⟩,[],false,())) fun x=>uf f f 0 x.parts (x.parts.length:Int) 0 M r4 x) (APr M (azM T (uI e).1 ((uI e).2++r4.reverse))):=by
    intro hk;rw[aPl hk];unfold azM;simp only[bne,jO];cases h0:e.kind==0 with
    |false=>simp only[iW,kP,jC,kQ];exact l1.pure ⟨rfl,rfl⟩
    |true=>
     simp only[jf,kQ,iU];cases hl:e.mK.length==0 with
     |false=>
      have:decide (0<(e.mK.length:Int))=true:=kR (by have:=kV.1 hl;omega);simp only[this,kP,jC,kQ];exact l1.pure ⟨rfl,rfl⟩
     |true=>
      have:decide (0<(e.mK.length:Int))=false:=kS (by have:=beq_iff_eq.1 hl;omega);simp only[this,kQ,iU];cases hn:e.num==0 with
      |false=>simp only[iW,kP,kQ];exact l1.pure ⟨rfl,rfl⟩
      |true=>
       simp only[jf,kQ,kP,hM];cases hf:T.find? (fun n=>n.target==e.text)with
       |none=>exact l1.pure ⟨rfl,rfl⟩
       |some n=>
        have hs:=hN n (jA hf);have:=aFb n hs.len M r4 (by omega) n.parts.length 0 0 (by omega) (iY _);have:=Ev.Jh (F:=fun f k=>uf f k 0 n.parts (n.parts.length:Int) 0 M r4 n) this;refine l1.of1 (this.tot ?_);rw[jb,Nat.zero_add,nat_eq,j9];show APr M (bif aeM n==r4.length then some (n,r4.reverse)else none) _;unfold aeM;cases hq:n.parts.countP (· ==[])==r4.length with
        |true=>exact⟨rfl,by show(n,r4.reverse,decide _,())=_;rw[kR (beq_iff_eq.1 hq)]⟩
        |false=>exact⟨rfl,kS (kV.1 hq)⟩
   cases hk:aOK e with
   |none=>
    cases h2:e.kind==2 with
    |false=>simp only[kQ];exact CF hk
    |true=>
     simp only[kP,aFa hk (beq_iff_eq.1 h2),kQ];exact CF hk
   |some p=>
    obtain⟨a,b⟩:=p;obtain⟨hk2,hm⟩:=Sx hk;have aMF:D8 e=1+(D8 a+D8 b):=by rw[Sy e,hm];simp [yN]
    have hb:=Sy b;have hr4:decide ((r4.length+1)*120<=17592186044416)=true:=aH2 (by omega);rw[beq_iff_eq.2 hk2,hm,aPm hk];simp only[kP,iR,ja,hr4];have:=ih a (by rw[hm];simp) (r4++[b]) (by rw[iT,iX];omega);rw[List.reverse_append]at this;rw[jm];exact this
 have:=key e [] (by rw[ja];omega);rw[List.reverse_nil,jM]at this;exact lZ.Jh (F:=fun f k=>vZ f k M e []) this
theorem axo{n:k7}(k:Ok n)(hr:rgt n=true):0<LW n/\LW n<n.parts.length:=by
 have:=k.aKj hr;unfold LW;omega
theorem axp{T:List k7}{n:k7}(k:Ok n)(hr:rgt n=true)(x:Syntax):abk T n (LW n) x=abj T n (LW n) x:=by
 unfold abk;rw[kR (axo k hr).1,Bool.true_or,Bool.and_true]
theorem App.nodes{T:List k7}{e:Syntax}{n:k7}{l:List Syntax}(A:App T e n l):yN l<D8 e:=by
 have:=axn e;have h:=Sy (uI e).1;rw[A.lR]at this;omega
theorem aqE:∀{l:List Syntax}{x:Syntax},x∈l->D8 x<=yN l
 |y::l,x,h=>by
  rw[yN];rcases jG.1 h with e|e
  ·subst e;omega
  ·have:=aqE e;omega
theorem App.last{T:List k7}{e:Syntax}{n:k7}{l:List Syntax}(A:App T e n l)(k:Ok n)(hr:rgt n=true):∃x,l.getLast?=some x/\0<l.length/\x∈l/\∀h:l.length-1<l.length,l[l.length-1]=x:=by
 have h1:=aCp k hr;have h2:=A.holes;unfold aeM at h2;have hp:0<l.length:=by omega
 refine⟨l[l.length-1],?_,hp,iQ _,fun _=>rfl⟩;rw[List.getLast?_eq_getElem?,List.getElem?_eq_getElem (by omega)]
theorem App.len{T:List k7}{e:Syntax}{n:k7}{l:List Syntax}(A:App T e n l)(k:Ok n):l.length<=16:=by
 have h2:=A.holes;have:=List.countP_le_length (p:=(· ==[])) (l:=n.parts);have h3:=k.few;unfold aeM at h2;omega
theorem aKo(a b:Int):(if a<b then a else b)=min a b:=by rw[Int.min_def];split<;>split<;>omega
section prn
variable {T:List k7} (g:TOk T) (hT:T.length<=cap) (hN:∀n∈T,Nsm n) {M:List (lH×k7)} (hM:∀s,qw s M=T.find? (fun n=>n.target==s))
theorem aFc{T:List k7}(g:TOk T):∀(k:Nat)(e:Syntax),iV e<=k->Ji T e<=1000:=by
 intro k;induction k with
 |zero=>intro e he;cases e;simp only[Syntax.mk.sizeOf_spec]at he;omega
 |succ k ih=>
  intro e he;cases ha:zw T e with
  |none=>rw[Z2 ha];exact jR _
  |some p=>
   obtain⟨m,l⟩:=p;have A:=BU ha;have km:=g.ok A.mem;cases hr:rgt m with
   |false=>rw[Z3 ha hr];exact jR _
   |true=>
    obtain⟨x,hx,_,hm,_⟩:=A.last km hr;rw[Z4 ha hr hx];have h1:JQ m (LW m)<=1000:=by have:=axe km (LW m);omega
    cases abj T m (LW m) x with
    |false=>exact h1
    |true=>exact Int.le_trans (Int.min_le_left _ _) h1
include g hT hN hM
theorem axq:∀(k:Nat)(x:Syntax),iV x<=k->D8 x<=cap->
 (∀(n:k7)(i:Nat),Ok n->i<n.parts.length->Ev (fun f=>rF f n (i:Int) x M) (((),M,()),abk T n i x,()))/\
 (∀v:Int,v<=1000->pX (fun f m=>tS (nM f) f m v M x) (((),M,()),min v (Ji T x),()))/\
 Ev (fun f=>p6 f x M) (((),M,()),Ji T x,()):=by
 intro k;induction k with
 |zero=>intro x hx;cases x;simp only[Syntax.mk.sizeOf_spec]at hx;omega
 |succ k ih=>
  intro x hx aMF;obtain⟨pa,hpa,eva⟩:=ahW hN hM x aMF;obtain⟨ps,pn,pl,pb,pu⟩:=pa;obtain⟨hps,hpa⟩:=hpa;have hps:ps=((),M,()):=hps;subst hps
  have loop:∀v:Int,v<=1000->pX (fun f m=>tS (nM f) f m v M x) (((),M,()),min v (Ji T x),()):=by
   intro v hv;refine pX.lp (fun n m=>by simp only[Sl,yp,EK,mB];exact rfl) ?_;refine pX.nK eva ?_;cases ha:zw T x with
   |none=>
    rw[ha]at hpa;have hb:pb=false:=hpa;subst hb;rw[Z2 ha,Int.min_eq_left hv];exact pX.pure
   |some p=>
    obtain⟨m,l⟩:=p;rw[ha]at hpa;have hb:(pn,pl,pb,pu)=(m,l,true,()):=hpa;have q1:m=pn:=congrArg (·.1) hb.symm;have q2:l=pl:=congrArg (·.2.1) hb.symm;have q3:true=pb:=congrArg (·.2.2.1) hb.symm;subst q1 q2 q3;have A:=BU ha;have km:=g.ok A.mem;simp only[kP];refine pX.nK (LX km.pos km.sml).1 ?_;cases hr:rgt m with
    |false=>rw[Z3 ha hr,Int.min_eq_left hv];exact pX.pure
    |true=>
     obtain⟨y,hy,hlen,aFK,qe⟩:=A.last km hr;have aOC:=A.len km;have lp:=axo km hr;simp only[kP];rw[ac6 km.pos km.sml,ac6 hlen (by simp only[cap];omega)];refine pX.nK (SN km lp.2) ?_;refine pX.Nu (show l.length-1<l.length by omega) ?_;rw[qe];have hyn:D8 y<=cap:=by have:=aqE aFK;have:=A.nodes;omega
     obtain⟨h1,h2,_⟩:=ih y (by have:=A.size y aFK;omega) hyn;refine pX.nK (h1 m (LW m) km lp.2) ?_;rw[Z4 ha hr hy,axp km hr];have hle:JQ m (LW m)<=1000:=by have:=axe km (LW m);omega
     rw[show m.parts.length-1=LW m from rfl,aKo];cases abj T m (LW m) y with
     |false=>simp only[kQ];rw[Int.min_comm];exact pX.pure
     |true=>
      simp only[kP];have:=h2 (min (JQ m (LW m)) v) (Int.le_trans (Int.min_le_right _ _) hv);rw[show min v (min (JQ m (LW m)) (Ji T y))=min (min (JQ m (LW m)) v) (Ji T y)from by rw[<-Int.min_assoc,Int.min_comm v]];exact this
  have aIK:Ev (fun f=>p6 f x M) (((),M,()),Ji T x,()):=by
   refine Ev.fn (fun n=>by simp only[aO4,zF,EK,mC];exact rfl) ?_;have:=loop 1000 (jR _);rw[Int.min_eq_right (aFc g _ x (iY _))]at this;exact Ev.Jh (F:=fun f m=>tS (nM f) f m 1000 M x) this
  refine⟨fun n i kn hi=>?_,loop,aIK⟩
  ·refine Ev.fn (fun n=>by simp only[aaM,BM,EK,Ea];exact rfl) ?_;refine Ev.bind eva ?_;unfold abk abj;cases ha:zw T x with
   |none=>
    rw[ha]at hpa;have hb:pb=false:=hpa;subst hb;exact Ev.pure
   |some p=>
    obtain⟨m,l⟩:=p;rw[ha]at hpa;have hb:(pn,pl,pb,pu)=(m,l,true,()):=hpa;have q1:m=pn:=congrArg (·.1) hb.symm;have q2:l=pl:=congrArg (·.2.1) hb.symm;have q3:true=pb:=congrArg (·.2.2.1) hb.symm;subst q1 q2 q3;have A:=BU ha;have km:=g.ok A.mem
    have tail:Ev (fun f=>bif decide (0<(i:Int))then some (((),M,()),true,())else(p6 f x M).bind fun x=>some (((),x.fst.snd.fst,()),decide (n.tW<x.snd.fst),())) (((),M,()),(decide (0<i)||decide (n.tW<Ji T x)),()):=by
     rw[aup];cases decide (0<i)with
     |true=>exact Ev.pure
     |false=>simp only[kQ,je];exact Ev.bind aIK Ev.pure
    simp only[kP];refine Ev.bind (ail km.pos).1 ?_;cases Yw m with
    |true=>
     simp only[kP,Bool.true_or,iU];refine Ev.bind (SN kn hi) ?_;cases decide (m.tW<JQ n i)with
     |true=>exact Ev.pure
     |false=>simp only[kQ,iW,iU];exact tail
    |false=>
     simp only[kQ,je];refine Ev.bind (LX km.pos km.sml).1 ?_;cases rgt m with
     |true=>
      simp only[kP,iU];refine Ev.bind (SN kn hi) ?_;cases decide (m.tW<JQ n i)with
      |true=>exact Ev.pure
      |false=>simp only[kQ,iW,iU];exact tail
     |false=>simp only[kQ,jC,iW,iU];exact tail
omit g hT hN hM
def aN6:aoH->List Syntax->Prop
 |.expr e,o=>o.length<=17*D8 e
 |.parts _ ps _ l,o=>o.length<=ps.length+17*yN l
include g in
theorem Prn.len{c:aoH}{o:List Syntax}(h:Prn T c o):aN6 c o:=by
 induction h with
 | @leaf e ha=>
   show 1<=17*D8 e;have:=Sy e;omega
 | @app e n l o ha h ih=>
   have A:=BU ha;have ih:o.length<=n.parts.length+17*yN l:=ih;show o.length<=17*D8 e;have:=A.nodes;have:=(g.ok A.mem).few;omega
 |nil=>exact ju _
 | @sym n s ps i l o hs h ih=>
   have ih:o.length<=ps.length+17*yN l:=ih;show(aCo s::o).length<=(s::ps).length+17*yN l;rw[iR,iR];omega
 | @apart n ps i x l o1 o2 ha h1 h2 ih1 ih2=>
   have ih1:o1.length<=17*D8 x:=ih1;have ih2:o2.length<=ps.length+17*yN l:=ih2;show(o1++o2).length<=([]::ps).length+17*yN (x::l);rw[iT,iR,yN];omega
 | @whole n ps i x l o ha h ih=>
   have ih:o.length<=ps.length+17*yN l:=ih;show(x::o).length<=([]::ps).length+17*yN (x::l);have:=Sy x;rw[iR,iR,yN];omega
def PE(T:List k7)(M:List (lH×k7)):aoH->List Syntax->Prop
 |.expr e,o=>D8 e<=cap->∀out:List Syntax,out.length+o.length<=40000000->Ev (fun f=>sN f e out M) (((),out++o,M,()),())
 |.parts n ps i l,o=>yN l<=cap->Ok n->i<=n.parts.length->ps=n.parts.drop i->∀out:List Syntax,out.length+o.length<=40000000->
     pX (fun f k=>xC (sN f) f k l n.parts (n.parts.length:Int) (i:Int) out M n) (((),out++o,M,()),())
theorem azN(h:k<=40000001):decide (k*120<=17592186044416)=true:=kR (by omega)
include g hT hN hM
theorem Prn.prog{c:aoH}{o:List Syntax}(h:Prn T c o):PE T M c o:=by
 induction h with
 | @leaf e ha=>
   intro hn out ho;obtain⟨pa,hpa,eva⟩:=ahW hN hM e hn;obtain⟨ps,pn,pl,pb,pu⟩:=pa;obtain⟨hps,hpa⟩:=hpa;have hps:ps=((),M,()):=hps;subst hps;rw[ha]at hpa;have hb:pb=false:=hpa;subst hb;refine Ev.fn (fun n=>by simp only[sN,l6,BP,mC];exact rfl) ?_;refine Ev.bind eva ?_;rw[iX]at ho;rw[azN (k:=out.length+1) (by omega)];exact Ev.pure
 | @app e n l o ha h ih=>
   intro hn out ho;have A:=BU ha;obtain⟨pa,hpa,eva⟩:=ahW hN hM e hn;obtain⟨ps,pn,pl,pb,pu⟩:=pa;obtain⟨hps,hpa⟩:=hpa;have hps:ps=((),M,()):=hps;subst hps;rw[ha]at hpa;have hb:(pn,pl,pb,pu)=(n,l,true,()):=hpa;have q1:n=pn:=congrArg (·.1) hb.symm;have q2:l=pl:=congrArg (·.2.1) hb.symm;have q3:true=pb:=congrArg (·.2.2.1) hb.symm;subst q1 q2 q3;refine Ev.fn (fun n=>by simp only[sN,l6,BP,mC];exact rfl) ?_;refine Ev.bind eva ?_;have:=ih (by have:=A.nodes;omega) (g.ok A.mem) (ju _) (jb).symm out ho;exact Ev.Jh (F:=fun f k=>xC (sN f) f k l n.parts (n.parts.length:Int) 0 out M n) this
 | @nil n i l=>
   intro hn k hle hps out ho
   have hj:i=n.parts.length:=by
    have:=congrArg List.length hps;rw[iZ,ja]at this;omega
   refine pX.lp (fun n m=>by simp only[zG,tN,mB];exact rfl) ?_;rw[kS (show ¬ (i:Int)<(n.parts.length:Int) by omega),jM];exact pX.pure
 | @sym n s ps i l o hs h ih=>
   intro hn k hle hps out ho;obtain⟨he,hx,hd,hil⟩:=aut hps;have hs':(s==[])=false:=kV.2 hs;have hk:=k.few;rw[iR]at ho;refine pX.lp (fun n m=>by simp only[zG,tN,mB];exact rfl) ?_;simp only[he,kP,hx,iO,hs',kQ,azN (k:=out.length+1) (by omega)];rw[mM (by omega)];have:=ih hn k (by omega) hd (out++[aCo s]) (by rw[iT,iX];omega);rw[jm]at this;exact this
 | @apart n ps i x l o1 o2 ha h1 h2 ih1 ih2=>
   intro hn k hle hps out ho;obtain⟨he,hx,hd,hil⟩:=aut hps;have hk:=k.few;rw[yN]at hn;rw[iT]at ho;refine pX.lp (fun n m=>by simp only[zG,tN,mB];exact rfl) ?_;simp only[he,kP,hx,iO,beq_self_eq_true,show AU (x::l) 0=some x from rfl];refine pX.nK ((axq g hT hN hM _ x (iY _) (by omega)).1 n i k hil) ?_;rw[ha];simp only[kP];refine pX.nK (ih1 (by omega) out (by omega)) ?_;rw[kR (show(1:Int)<=((x::l).length:Int)/\((x::l).length:Int)<=((x::l).length:Int) by rw[iR];omega)];simp only[kP,jp,jP,jb];rw[mM (by omega),<-jm];exact ih2 (by omega) k (by omega) hd (out++o1) (by rw[iT];omega)
 | @whole n ps i x l o ha h ih=>
   intro hn k hle hps out ho;obtain⟨he,hx,hd,hil⟩:=aut hps;have hk:=k.few;rw[yN]at hn;rw[iR]at ho;refine pX.lp (fun n m=>by simp only[zG,tN,mB];exact rfl) ?_;simp only[he,kP,hx,iO,beq_self_eq_true,show AU (x::l) 0=some x from rfl];refine pX.nK ((axq g hT hN hM _ x (iY _) (by omega)).1 n i k hil) ?_;rw[ha];simp only[kQ,azN (k:=out.length+1) (by omega),kP];rw[kR (show(1:Int)<=((x::l).length:Int)/\((x::l).length:Int)<=((x::l).length:Int) by rw[iR];omega)];simp only[kP,jp,jP,jb];rw[mM (by omega)];have:=ih (by omega) k (by omega) hd (out++[x]) (by rw[iT,iX];omega);rw[jm]at this;exact this
end prn
def aKp(T:List k7)(e:Syntax)(p:List Syntax×Int):Prop:=
 (VQ T=false/\p=([],3))\/(VQ T=true/\∃o,Prn T (.expr e) o/\p=bif decide (4096<o.length)then([],5)else(o,0))
theorem asQ(T:List k7)(n:k7)(s:lH):(T++[n]).find? (fun n=>n.target==s)=(T.find? (fun n=>n.target==s)).or (bif n.target==s then some n else none):=by
 rw[List.find?_append,List.find?_cons,List.find?_nil];cases n.target==s<;>rfl
theorem aFd{T:List k7}{e:Syntax}(hT:T.length<=cap)(hN:∀n∈T,Nsm n)(he:D8 e<=cap):
 ∃p,aKp T e p/\Ev (fun f=>D4 f T e) p:=by
 obtain⟨ri,hri,evi⟩:=am0 hT hN;have hT':=hT;simp only[cap]at hT';rcases hri with⟨ht,sz,B,C,I,rfl,X⟩|⟨ht,rfl⟩
 ·have g:=TOk.of ht;obtain ⟨o,ho⟩:=Prn.aAH T _ e (iY _);have hlen:o.length<=17*D8 e:=Prn.len g ho;have hl2:o.length<=40000000:=by simp only[cap] at he;omega
  have e4:decide ((4096:Int)<(o.length:Int))=decide (4096<o.length):=decide_eq_decide.2 (by omega);refine⟨_,.inr ⟨ht,o,ho,rfl⟩,?_⟩
  ·refine Ev.fn (fun n=>by simp only[D4,l6,L7,JT];exact rfl) ?_;refine Ev.bind evi ?_;simp only[prc]
   have key:∀(d i:Nat)(M:List (lH×k7)),i+d=T.length->(∀s,qw s M=(T.take i).find? (fun n=>n.target==s))->pX (fun f m=>Fo f m T (T.length:Int) (i:Int) e M) (bif decide (4096<o.length)then([],5)else(o,0)):=by
    intro d;induction d with
    |zero=>
     intro i M hi hM;refine pX.lp (fun n m=>by simp only[Wz,Fm,JT];exact rfl) ?_;have:decide ((i:Int)<(T.length:Int))=false:=kS (by omega);simp only[this,kQ];rw[jE (by omega)]at hM;refine pX.nK (Prn.prog g hT hN hM ho he [] (by rw[ja];omega)) ?_;rw[jO,e4];cases decide (4096<o.length)<;>exact pX.pure
    |succ d ih=>
     intro i M hi hM;have q9:i<T.length:=by omega
     refine pX.lp (fun n m=>by simp only[Wz,Fm,JT];exact rfl) ?_;have:decide ((i:Int)<(T.length:Int))=true:=kR (by omega);simp only[this,kP,yA q9,iO];rw[mM (by omega)];have et:T.take (i+1)=T.take i++[T[i]]:=(jt q9);cases hf:qw T[i].target M with
     |some x=>
      simp only[oel];refine ih (i+1) M (by omega) fun s=>?_
      rw[et,asQ,hM];cases hs:T[i].target==s with
      |false=>cases (T.take i).find? (fun n=>n.target==s)<;>rfl
      |true=>
       have:=beq_iff_eq.1 hs;subst this;rw[<-hM,hf];rfl
     |none=>
      simp only[oel];refine ih (i+1) _ (by omega) fun s=>?_
      rw[et,asQ,N1,hM];cases hs:s==T[i].target with
      |true=>
       have:=beq_iff_eq.1 hs;subst this;rw[<-hM,hf];simp
      |false=>
       have:(T[i].target==s)=false:=by rw[Bool.eq_false_iff]at hs ⊢;intro h;exact hs (by rw[beq_iff_eq]at h ⊢;exact h.symm)
       rw[this];cases (T.take i).find? (fun n=>n.target==s)<;>rfl
   exact Ev.Jh (F:=fun f m=>Fo f m T (T.length:Int) 0 e []) (key T.length 0 [] (by omega) (fun s=>by rw[jQ];rfl))
 ·refine⟨([],3),.inl ⟨ht,rfl⟩,?_⟩
  ·refine Ev.fn (fun n=>by simp only[D4,l6,L7,JT];exact rfl) ?_;exact Ev.bind evi Ev.pure
theorem azO:∀e:Syntax,D8 e<=e.rI:=by
 intro e;induction e using Syntax.ind with
 |h e ih=>
  rw[Sy,Syntax.VR]
  have:∀l:List Syntax,(∀x∈l,D8 x<=x.rI)->yN l<=wk Syntax.rI l:=by
   intro l;induction l with
   |nil=>intro _;exact ju _
   |cons x l ihl=>
    intro h;rw[yN,wk];have h1:=h x jS;have h2:=ihl fun y hy=>h y (jN _ hy)
    omega
  have:=this e.mR ih;omega
abbrev Yes{R:Type}:R->Prop:=fun _=>True
theorem Syntax.am1{x k:Syntax}(h:k∈x.mR):k.rI<x.rI:=by
 grind [Nv,Syntax.VR]
theorem ld.aqF(x:ld):1<=x.rI:=by unfold ld.rI;omega
def vN(x:Syntax):Syntax:=Syntax.mk x.kind x.text x.num x.mZ x.mK (x.mR.attach.map fun k=>vN k.1) 0 0
termination_by x.rI
decreasing_by exact Syntax.am1 k.2
theorem alW(x:Syntax):vN x=Syntax.mk x.kind x.text x.num x.mZ x.mK (x.mR.map vN) 0 0:=by
 grind [vN,List.attach_map_val]
theorem KN(x:Syntax):(vN x).kind=x.kind/\(vN x).text=x.text/\(vN x).num=x.num/\(vN x).mZ=x.mZ/\(vN x).mK=x.mK/\(vN x).mR=x.mR.map vN:=by
 rw[alW];exact⟨rfl,rfl,rfl,rfl,rfl,rfl⟩
theorem anH(e:Syntax):aOK (vN e)=(aOK e).map fun p=>(vN p.1,vN p.2):=by
 unfold aOK;rw[(KN e).1,(KN e).2.2.2.2.2];cases e.kind==2 with
 |false=>rfl
 |true=>
  match e.mR with
  |[]=>rfl
  |[a]=>rfl
  |[a,b]=>rfl
  |a::b::c::r=>rfl
theorem auu(e:Syntax):uI (vN e)=(vN (uI e).1,(uI e).2.map vN):=by
 induction e using Syntax.ind with
 |h e ih=>
  cases hk:aOK e with
  |none=>rw[aPl hk,aPl (by rw[anH,hk];rfl)];rfl
  |some p=>
   obtain⟨a,b⟩:=p;rw[aPm hk,aPm (e:=vN e) (a:=vN a) (b:=vN b) (by rw[anH,hk];rfl),ih a (by rw[(Sx hk).2];simp)];simp
theorem QR(T:List k7)(e:Syntax):zw T (vN e)=(zw T e).map fun p=>(p.1,p.2.map vN):=by
 unfold zw;rw[auu];simp only[(KN _).1,(KN _).2.1,(KN _).2.2.1,(KN _).2.2.2.2.1,j7];cases (uI e).1.kind==0&&((uI e).1.mK.length==0&&(uI e).1.num==0)with
 |false=>rfl
 |true=>
  simp only[kP];cases T.find? (fun n=>n.target==(uI e).1.text)with
  |none=>rfl
  |some n=>
   simp only;cases aeM n==(uI e).2.length<;>rfl
theorem alX(T:List k7)(n:k7)(i:Nat)(x:Syntax):abj T n i (vN x)=abj T n i x:=by
 unfold abj;rw[QR];cases zw T x<;>rfl
theorem auv{T:List k7}(g:TOk T):∀(k:Nat)(e:Syntax),iV e<=k->Ji T (vN e)=Ji T e:=by
 intro k;induction k with
 |zero=>intro e he;cases e;simp only[Syntax.mk.sizeOf_spec]at he;omega
 |succ k ih=>
  intro e he;have hs:=QR T e;cases ha:zw T e with
  |none=>rw[ha]at hs;rw[Z2 ha,Z2 hs]
  |some p=>
   obtain⟨m,l⟩:=p;rw[ha]at hs;have A:=BU ha;have km:=g.ok A.mem;cases hr:rgt m with
   |false=>rw[Z3 ha hr,Z3 hs hr]
   |true=>
    obtain⟨x,hx,_,hm,_⟩:=A.last km hr;rw[Z4 ha hr hx,Z4 hs hr (x:=vN x) (by rw[List.getLast?_map,hx];rfl),alX,ih x (by have:=A.size x hm;omega)]
theorem alY{T:List k7}(g:TOk T)(n:k7)(i:Nat)(x:Syntax):abk T n i (vN x)=abk T n i x:=by
 unfold abk;rw[alX,auv g _ x (iY _)]
theorem aCu(s:lH):vN (aCo s)=aCo s:=by
 rw[alW];rfl
def aoH.vN:aoH->aoH
 |.expr e=>.expr (Go.Abs.vN e)
 |.parts n ps i l=>.parts n ps i (l.map Go.Abs.vN)
theorem Prn.vN{T:List k7}(g:TOk T){c:aoH}{o:List Syntax}(h:Prn T c o):Prn T c.vN (o.map Go.Abs.vN):=by
 induction h with
 | @leaf e ha=>exact .leaf (by rw[QR,ha];rfl)
 | @app e n l o ha h ih=>exact .app (l:=l.map Go.Abs.vN) (by rw[QR,ha];rfl) ih
 |nil=>exact .nil
 |sym hs h ih=>rw[jF,aCu];exact .sym hs ih
 |apart ha h1 h2 ih1 ih2=>rw[List.map_append];exact .apart (by rw[alY g,ha]) ih1 ih2
 |whole ha h ih=>rw[jF];exact .whole (by rw[alY g,ha]) ih
theorem Prn.aHV{T:List k7}{c:aoH}{o:List Syntax}(h:Prn T c o):∀{o':List Syntax},Prn T c o'->o=o':=by
 induction h with
 |leaf ha=>
  intro o' h';cases h' with
  |leaf _=>rfl
  |app hb _=>rw[ha]at hb;cases hb
 |app ha h ih=>
  intro o' h';cases h' with
  |leaf hb=>rw[ha]at hb;cases hb
  |app hb h2=>rw[ha]at hb;cases hb;exact ih h2
 |nil=>intro o' h';cases h';rfl
 |sym hs h ih=>
  intro o' h';cases h' with
  |sym _ h2=>rw[ih h2]
  |apart _ _ _=>exact absurd rfl hs
  |whole _ _=>exact absurd rfl hs
 |apart ha h1 h2 ih1 ih2=>
  intro o' h';cases h' with
  |sym hs _=>exact absurd rfl hs
  |apart _ k1 k2=>rw[ih1 k1,ih2 k2]
  |whole hb _=>rw[ha]at hb;cases hb
 |whole ha h ih=>
  intro o' h';cases h' with
  |sym hs _=>exact absurd rfl hs
  |apart hb _ _=>rw[ha]at hb;cases hb
  |whole _ h2=>rw[ih h2]
theorem aqG{W O:Type}{f:W->Nat}{g:O->Nat}{h:W->O}:∀l:List W,(∀x∈l,g (h x)=f x)->wk g (l.map h)=wk f l
 |[],_=>rfl
 |x::l,k=>by
  rw[jF,wk,wk,k x jS,aqG l fun y hy=>k y (jN _ hy)]
theorem aqH(e:Syntax):(vN e).rI=e.rI:=by
 induction e using Syntax.ind with
 |h e ih=>
  have f:=KN e;rw[Syntax.VR,Syntax.VR,f.2.1,f.2.2.2.1,f.2.2.2.2.1,f.2.2.2.2.2,aqG e.mR ih]
theorem aCv{T:List k7}(hT:T.length<=cap)(hN:∀n∈T,Nsm n)(ht:VQ T=true)(x:Syntax)(hx:x.rI<=cap):
 ∃o,Prn T (.expr x) o/\∀e,vN e=x->∃l,l.map vN=o/\Ev (fun f=>D4 f T e) (bif decide (4096<o.length)then([],5)else(l,0)):=by
 have g:=TOk.of ht;obtain⟨o,ho⟩:=Prn.aAH T _ x (iY _);refine⟨o,ho,fun e he=>?_⟩;obtain⟨p,hp,ev⟩:=aFd (e:=e) hT hN (by have:=azO e;have:=aqH e;rw[he]at this;omega);rcases hp with⟨h,_⟩|⟨_,l,hl,rfl⟩
 ·rw[ht]at h;cases h
 ·have h2:Prn T (.expr (vN e)) (l.map vN):=hl.vN g;rw[he]at h2;have h3:=h2.aHV ho;refine⟨l,h3,?_⟩;rw[<-h3,j7];exact ev
abbrev IX(x:Syntax):={e:Syntax // vN e=x}
abbrev IL(xs:List Syntax):={l:List Syntax // l.map vN=xs}
namespace IL
variable {xs:List Syntax}
theorem len(i:IL xs):i.1.length=xs.length:=by
 have h:=congrArg List.length i.2
 rwa [j7]at h
def WG(i:IL xs)(j:Nat)(h:j<xs.length):IX xs[j]:=⟨i.1[j]'(by rw[i.len];exact h),by simp only[<-i.2,List.getElem_map]⟩
theorem Nu(i:IL xs)(h:j<xs.length):AU i.1 (j:Int)=some (i.WG j h).1:=yA (by rw[i.len];exact h)
end IL
namespace IX
variable {x:Syntax}
theorem kind(i:IX x):i.1.kind=x.kind:=by rw[<-(KN i.1).1,i.2]
theorem text(i:IX x):i.1.text=x.text:=by rw[<-(KN i.1).2.1,i.2]
theorem num(i:IX x):i.1.num=x.num:=by rw[<-(KN i.1).2.2.1,i.2]
theorem mZ(i:IX x):i.1.mZ=x.mZ:=by rw[<-(KN i.1).2.2.2.1,i.2]
theorem mK(i:IX x):i.1.mK=x.mK:=by rw[<-(KN i.1).2.2.2.2.1,i.2]
def ks(i:IX x):IL x.mR:=⟨i.1.mR,by rw[<-(KN i.1).2.2.2.2.2,i.2]⟩
theorem len(i:IX x):i.1.mR.length=x.mR.length:=i.ks.len
def WG(i:IX x)(j:Nat)(h:j<x.mR.length):IX x.mR[j]:=i.ks.WG j h
theorem Nu(i:IX x)(h:j<x.mR.length):AU i.1.mR (j:Int)=some (i.WG j h).1:=i.ks.Nu h
end IX
def Jj(k:Int):Int:=if k=2\/k=3\/k=4\/k=5\/k=6\/k=13 then 2 else if k=7\/k=8 then 1 else if k=9 then 3 else if k=14 then-1 else 0
theorem Yv:Jj 2=2/\Jj 3=2/\Jj 4=2/\Jj 5=2/\Jj 6=2/\Jj 13=2/\Jj 7=1/\Jj 8=1/\Jj 9=3:=by decide
def Sz(k:Int):Bool:=k==3||(k==4||(k==5||k==9))
structure afs(e:Syntax):Prop where
 lo:0<=e.kind
 hi:e.kind<17
 tac:e.kind≠15
 ar:e.kind≠14->(e.mR.length:Int)=Jj e.kind
 srt:e.kind=11->e.mK.length=1
 num:e.kind=12->0<=e.num/\e.num<=999999
def arL(s:lH):Bool:=s==[60,124,62]||(s==[114,101,112,101,97,116]||(s==[97,108,108]||(s==[102,111,99,117,115]||s==[123])))
def ahX(l:ld):Prop:=∀a∈l.A8,0<=a.plus/\a.plus<=999999
inductive aO2:Bool->Syntax->Prop
 |ex {e:Syntax} (f:afs e) (lv:∀l∈e.mK,ahX l) (k:∀y∈e.mR,aO2 (e.kind==14) y):aO2 false e
 |ta {e:Syntax} (h2:e.text=[60,124,62]->e.mR.length=2) (h1:e.text=[114,101,112,101,97,116]\/e.text=[97,108,108]->e.mR.length=1) (k:∀y∈e.mR,aO2 (arL e.text) y):aO2 true e
theorem al0(sep:lH):∀l:List lH,(jl l sep).length<=wk (fun s:lH=>s.length+sep.length) l
 |[]=>by simp [jl,List.intercalate]
 |[x]=>by rw[Lib.join_one];simp [wk];omega
 |x::y::r=>by
  have ih:=al0 sep (y::r);rw[Lib.join_cons];rw[Lib.join_cons]at ih;simp only[Lib.joinTail,jF,List.flatten_cons,iT,wk]at ih ⊢;omega
theorem aqI(k:Nat):nG (k+8) [32,40] 65533=some (-1):=kX
theorem aqJ(c:UInt8)(hc:c.toNat<128):lZ (fun n=>nG n [32,40] (c.toNat:Int)) Yes:=by
 have e:∀k,(nG (k+8) [32,40] (c.toNat:Int))=nG 8 [32,40] (c.toNat:Int)/\(nG 8 [32,40] (c.toNat:Int)).isSome=true:=by
  intro k;have:=ahR (p:=fun c=>decide (nG (k+8) [32,40] (c.toNat:Int)=nG 8 [32,40] (c.toNat:Int)/\(nG 8 [32,40] (c.toNat:Int)).isSome=true)||decide (128<=c.toNat)) (kX) c
  grind
 obtain⟨x,hx⟩:=Option.isSome_iff_exists.1 (e 0).2;refine⟨x,trivial,8,fun n hn=>?_⟩;obtain⟨k,rfl⟩:∃k,n=k+8:=⟨n-8,by omega⟩;exact(e k).1.trans hx
theorem aoI{c:Nat}(hc:128<=c):Ev (fun n=>nG n [32,40] (c:Int)) (-1):=by
 by_cases h3:c=65533
 ·subst h3;refine⟨8,fun n hn=>?_⟩;obtain⟨k,rfl⟩:∃k,n=k+8:=⟨n-8,by omega⟩;exact aqI k
 ·refine Ev.fn (fun n=>by simp only[nG,l6,Gr,mB];exact rfl) ?_;have e1:decide ((0:Int)<=(c:Int))=true:=kR (by omega);have e2:decide ((c:Int)<128)=false:=kS (by omega);have e3:((c:Int)==65533)=false:=by rw[kV];omega
  simp only[e1,e2,e3,kP,kQ]
  have hv:∃b,Ev (fun n=>xa n (c:Int)) b:=by
   refine⟨bif decide ((c:Int)<55296)then true else bif decide (57343<(c:Int))then decide ((c:Int)<=1114111)else false,?_⟩;refine Ev.fn (fun n=>by simp only[xa,l6,BK,mB];exact rfl) ?_
   grind [Ev.pure]
  obtain⟨b,hv⟩:=hv;refine Ev.bind hv ?_;cases b with
  |false=>exact Ev.pure
  |true=>
   simp only[kP];obtain⟨l,b,hl,hb,h1,h4⟩:=aqw hc;rw[hl];have hlen:(l++[b]).length=l.length+1:=by simp
   rw[hlen,qo (by omega) (by omega),show((l.length+1:Nat):Int)-1=(l.length:Int)from by omega];refine Ev.Jh (F:=fun n m=>BZ n m [32,40] (l++[b]) (l.length:Int) (l.length:Int)) ?_;refine pX.lp (fun n m=>by simp only[PZ,BY];exact rfl) ?_;by_cases hl1:l.length=1
   ·rw[hl1]
    have qe:AU (l++[b]) ((1:Nat):Int)=some b:=by
     grind [yA]
    have uP:(((40:UInt8).toNat:Int) !=(b.toNat:Int))=true:=by
     grind
    have aMw:AU (l++[b]) (1:Int)=some b:=qe;have i1:AU ([32,40]:lH) ((1:Nat):Int)=some 40:=rfl;have hz:decide (((1:Nat):Int)<(([32,40]:lH).length:Int))=true:=rfl;simp only[hz,kP,i1,qe,iO,uP];have hw:IntKind.i64.wrap (((1:Nat):Int)+1)=((2:Nat):Int):=mM (by omega);have hd2:decide ((0:Int)<=((2:Nat):Int)/\((2:Nat):Int)<=(([32,40]:lH).length:Int)/\(([32,40]:lH).length:Int)<=(([32,40]:lH).length:Int))=true:=rfl;simp only[hw,hd2,kP];have aMx:jv ((2:Nat):Int).toNat (jw ([32,40]:lH).length [32,40])=[]:=rfl
    have hs:Ev (fun n=>strings_IndexByte n [] (b.toNat:Int)) (-1):=by
     refine⟨3,fun n hn=>?_⟩;obtain⟨k,rfl⟩:∃k,n=k+3:=⟨n-3,by omega⟩;exact ajz k _
    exact pX.nK (x:= -1) hs pX.pure
   grind [pX.pure]
theorem aqK(s:lH):∀p:Nat,l1 (fun n m=>xH n m [32,40] s p) Yes:=by
 intro p;induction h:s.length-p using jk generalizing p with
 |ind d ih=>
  refine l1.lp (fun n m=>by simp only[Rn,CX,mB];exact rfl) ?_;by_cases q9:p<s.length
  ·have e:decide (p<s.length)=true:=kR q9;simp only[e,kP];rcases Nat.lt_or_ge s[p].toNat 128 with hb|hb
   ·rw[aqv q9 hb];refine l1.nK (aqJ s[p] hb) fun x _=>?_
    exact l1.rQ (fun _=>l1.pure trivial) fun _=>ih (s.length-(p+1)) (by omega) (p+1) rfl
   ·obtain⟨h1,hw,h2⟩:=anD q9 hb;refine l1.nK ((aoI h1).tot (Q:=(· = -1)) rfl) fun x hx=>?_
    subst hx;have e0:decide ((0:Int)<= -1)=false:=rfl;simp only[e0,kQ];exact ih (s.length-(p+(jz (sb s) p).2)) (by omega) _ rfl
  ·have e:decide (p<s.length)=false:=kS q9;simp only[e,kQ];exact l1.pure trivial
theorem aoJ(t:lH)(ht:t.length<sml):lZ (fun n=>strings_ContainsAny n t [32,40]) Yes:=by
 simp only[sml]at ht;refine lZ.fn (fun n=>by simp only[strings_ContainsAny,l6,Kb,mB];exact rfl) ?_;refine lZ.bind (P:=Yes) ?_ fun x _=>lZ.pure trivial
 by_cases h8:8<t.length
 ·refine⟨jK t [32,40],trivial,1,fun n hn=>?_⟩;obtain⟨k,rfl⟩:∃k,n=k+1:=⟨n-1,by omega⟩
  grind [vX]
 ·have hL:∀n,vX n t [32,40]=none:=by
   intro n;cases n with
   |zero=>rfl
   |succ k=>
    show(bif decide (2<=([32,40]:lH).length)&&(decide (8<t.length)&&(decide (t.length<4294967281)&&(decide (([32,40]:lH).length<4294967281)&&([32,40]:lH).all (fun b=>decide (b.toNat<128)))))then some (jK t [32,40])else none)=_;rw[kS h8];rfl
  simp only[hL,Option.none_or];refine lZ.fn (fun n=>by simp only[strings_IndexAny,l6,IO,mB];exact rfl) ?_;have e0:(([32,40]:lH)==[])=false:=rfl;have e1:((([32,40]:lH).length:Int)==1)=false:=rfl;simp only[e0,e1,kQ]
  have hs:Ev (fun n=>strings_shouldUseASCIISet n (t.length:Int)) false:=by
   refine Ev.fn (fun n=>by simp only[strings_shouldUseASCIISet,l6,zC,mB];exact rfl) ?_
   grind [Ev.pure]
  refine lZ.bind (hs.tot (Q:=(· =false)) rfl) fun x hx=>?_
  subst hx;simp only[kQ];exact lZ.Jh (F:=fun n m=>xH n m [32,40] t 0) (aqK t 0)
def asR(sK:List lH)(r:lH):Int×Nat×Int:=
 bif decide (64<nmT r)then(0,0,5)
 else bif r.take (nmT r)==[95] then(2,nmT r,0)
 else bif sK.contains (r.take (nmT r))then(2,nmT r,0)
 else bif kws.contains (r.take (nmT r))then(3,nmT r,0)
 else(0,nmT r,0)
def aCw(sK:List lH)(r:lH):Int×Nat×Int:=bif aOJ r 0 (D7++sK)==0 then(0,0,4)else(2,aOJ r 0 (D7++sK),0)
def aOL(sK:List lH):lH->Int×Nat×Int
 |[]=>(0,0,4)
 |c::t=>bif ahS c then asR sK (c::t)else bif EA c then aul (c::t)else bif c==34 then asI (c::t)else aCw sK (c::t)
theorem ahY{s:lH}(n:Nat):(s.take (k+n)).drop k=(s.drop k).take n:=by grind [List.drop_take]
theorem axr{r:lH}{n:Nat}(h:n<=r.length):(r.take n).length=n:=by rw[List.length_take];omega
theorem aFe(s:lH)(k:Nat)(hk:k<=s.length)(r2:List (lH×Bool))(sK:List lH)(h2:∀y,(qw y r2).getD false=sK.contains y):
 asH s k LV r2 (k+nmT (s.drop k))=aw5 k (asR sK (s.drop k)):=by
 unfold asH asR;have hn:=aEN (s.drop k);have hl:((s.drop k).take (nmT (s.drop k))).length=nmT (s.drop k):=axr hn;have hkw:∀y,(qw y LV).getD false=kws.contains y:=fun y=>akl y kws
 rw[ahY,hl,h2,hkw];have e:decide ((64:Int)<((nmT (s.drop k):Nat):Int))=decide (64<nmT (s.drop k)):=decide_eq_decide.2 (by omega);rw[e];cases decide (64<nmT (s.drop k))<;>cases (s.drop k).take (nmT (s.drop k))==[95]<;>cases sK.contains ((s.drop k).take (nmT (s.drop k)))<;>cases kws.contains ((s.drop k).take (nmT (s.drop k)))<;>rfl
theorem aH3{r:lH}(h:(aul r).2.2=0):(aul r).2.1=zX EA r:=by
 grind [aul]
theorem aAL{c:UInt8}(h:(aOL sK (c::t)).2.2=0):1<=(aOL sK (c::t)).2.1/\(aOL sK (c::t)).2.1<=(c::t).length:=by
 rw[aOL]at h ⊢;cases hb:ahS c with
 |true=>
  grind [aEN,auk,ajy,EQ,auj,asR]
 |false=>
  cases hd:EA c with
  |true=>
   grind [Z0,EQ,aH3]
  |false=>
   cases hq:c==34 with
   |true=>
    grind [asI,iR]
   |false=>
    grind [aCw,aEQ]
def hdT(T:lH->Int×Nat×Int):lH->Nat->List mG×Int×Int
 |[],a=>([⟨4,[],(a:Int)⟩],0,0)
 |c::t,a=>
  bif (T (c::t)).2.2==0 then
   let r:=t.drop ((T (c::t)).2.1-1)
   let z:=hdT T (r.drop (AC false r)) (a+(T (c::t)).2.1+AC false r)
   bif z.2.2==0 then(⟨(T (c::t)).1,(c::t).take (T (c::t)).2.1,(a:Int)⟩::z.1,0,0)else([],z.2.1,z.2.2)
  else([],((a+(T (c::t)).2.1:Nat):Int),(T (c::t)).2.2)
termination_by r=>r.length
decreasing_by grind
def axs(out:List mG)(z:List mG×Int×Int):List mG×Int×Int:=bif z.2.2==0 then(out++z.1,0,0)else([],z.2.1,z.2.2)
theorem aFf(out:List mG)(x:mG)(z:List mG×Int×Int):axs (out++[x]) z=axs out (bif z.2.2==0 then(x::z.1,0,0)else([],z.2.1,z.2.2)):=by
 grind [axs]
theorem aCx(T:lH->Int×Nat×Int)(s:lH)(k:Nat)(hk:k<s.length)(h0:(T (s.drop k)).2.2=0)(h1:1<=(T (s.drop k)).2.1)(h2:k+(T (s.drop k)).2.1<=s.length):
 hdT T (s.drop k) k=let e:=k+(T (s.drop k)).2.1
  let j:=e+AC false (s.drop e)
  let z:=hdT T (s.drop j) j
  bif z.2.2==0 then(⟨(T (s.drop k)).1,(s.drop k).take (T (s.drop k)).2.1,(k:Int)⟩::z.1,0,0)else([],z.2.1,z.2.2):=by
 have hd:=zu hk
 have e:(s.drop (k+1)).drop ((T (s.drop k)).2.1-1)=s.drop (k+(T (s.drop k)).2.1):=by
  rw[jg];congr 1;omega
 grind [hdT,jg]
theorem aFg(T:lH->Int×Nat×Int)(s:lH)(k:Nat)(hk:k<s.length)(h0:((T (s.drop k)).2.2==0)=false):hdT T (s.drop k) k=([],((k+(T (s.drop k)).2.1:Nat):Int),(T (s.drop k)).2.2):=by
 grind [zu,hdT]
theorem aFh(T:lH->Int×Nat×Int)(s:lH):hdT T (s.drop s.length) s.length=([⟨4,[],(s.length:Int)⟩],0,0):=by
 rw[jH,hdT]
def asS(sK:List lH)(s:lH):List mG×Int×Int:=
 bif sK.all alI then
  bif decide (65536<s.length)then([],0,5)else hdT (aOL sK) (s.drop (AC false s)) (AC false s)
 else([],0,1)
theorem anI{W:Type}(x s:lH)(v:W):∀es:List (lH×W),qw x (ET s v es)=bif x==s then some v else qw x es
 |[]=>by grind [ET,qw]
 |(k,u)::es=>by
  simp [ET];cases hk:s==k with
  |true=>
   grind [qw]
  |false=>
   simp [qw,anI x s v es]
   grind
def Jk(l:List lH)(r:List (lH×Bool)):List (lH×Bool):=l.foldl (fun r y=>ET y true r) r
theorem ahZ(y:lH):∀(l:List lH)(r:List (lH×Bool)),(qw y (Jk l r)).getD false=(l.contains y||(qw y r).getD false)
 |[],r=>rfl
 |x::l,r=>by
  show(qw y (Jk l (ET x true r))).getD false=_;rw[ahZ y l,anI,jB];cases y==x<;>simp
theorem aCy(aKq:sK.all alI=true){r:lH}{c:UInt8}(hr:r=c::t)(hb:ahS c=false):∀y∈D7++sK,r.take y.length=y->y.length<=8:=by
 intro y hy he;rcases jh.1 hy with h|h
 ·have:∀y∈D7,y.length<=8:=by decide
  exact this y h
 ·have hs:=List.all_eq_true.1 aKq y h
  match y,hs,he with
  |d::u,hs,he=>
   grind [alI]
theorem aCz(s:lH)(hs:s.length<sml)(sK:List lH)(aKq:sK.all alI=true)(r1 r2:List (lH×Bool))(h1:∀y,(qw y r1).getD false=sK.contains y)(h2:∀y,(qw y r2).getD false=(D7++sK).contains y):
 ∀(k:Nat)(out:List mG),k<=s.length->out.length<=k->pX (fun n m=>FU n m s LV r1 r2 s (k:Int) out) (axs out (hdT (aOL sK) (s.drop k) k)):=by
 intro k;have hs':s.length<4294967281:=hs;induction h:s.length-k using jk generalizing k with
 |ind d ih=>
  intro out hk anO;have SR:decide ((out.length+1)*32<=17592186044416)=true:=kR (by omega);refine pX.lp (fun n m=>by simp only[aox,SL,mB];exact rfl) ?_;by_cases q9:k<s.length
  ·have e1:decide ((k:Int)<(s.length:Int))=true:=kR (by omega);simp only[e1,kP];refine pX.Nu q9 ?_;refine pX.nK (Yt _) ?_;have hd:=zu q9
   have arM:aOL sK (s.drop k)=bif ahS s[k] then asR sK (s.drop k)else bif EA s[k] then aul (s.drop k)else bif s[k]==34 then asI (s.drop k)else aCw sK (s.drop k):=by
    rw[hd];rfl
   have tail:∀xx,xx=pk (scn s k LV r1 r2) (aw5 k (aOL sK (s.drop k)))->pX (fun n m=>
    bif xx.snd.snd.snd.fst !=0 then some ([],xx.snd.snd.fst,xx.snd.snd.snd.fst)
    else
     bif decide (0<=xx.fst.fst.snd.fst/\xx.fst.fst.snd.fst<=xx.snd.snd.fst/\xx.snd.snd.fst<=(s.length:Int)) then
      bif decide ((out.length+1)*32<=17592186044416) then
       (Bw n xx.fst.fst.fst xx.snd.snd.fst xx.fst.snd.fst xx.fst.snd.snd.fst xx.fst.snd.snd.snd.fst).bind fun x_1=>
         FU n m s x_1.fst.snd.fst x_1.fst.snd.snd.fst x_1.fst.snd.snd.snd.fst x_1.fst.fst.fst x_1.fst.fst.snd.fst
          (out++[{kind:=xx.snd.fst,text:=jv xx.fst.fst.snd.fst.toNat (jw xx.snd.snd.fst.toNat s),uV:=xx.fst.fst.snd.fst}])
      else none
     else none) (axs out (hdT (aOL sK) (s.drop k) k)):=by
    intro xx hxx;subst hxx;simp only[pk,scn,aw5];cases h0:(aOL sK (s.drop k)).2.2==0 with
    |false=>
     grind [aFg,axs,pX.pure]
    |true=>
     have hb:((aOL sK (s.drop k)).2.2 !=0)=false:=by rw[bne,h0];rfl
     simp only[hb,kQ];have hp:=aAL (sK:=sK) (c:=s[k]) (t:=s.drop (k+1)) (by rw[<-hd];exact eq_of_beq h0);rw[<-hd,iZ]at hp;obtain⟨n,hn⟩:∃n,(aOL sK (s.drop k)).2.1=n:=⟨_,rfl⟩;rw[hn]at hp;simp only[hn];have e2:decide ((0:Int)<=(k:Int)/\(k:Int)<=((k+n:Nat):Int)/\((k+n:Nat):Int)<=(s.length:Int))=true:=kR (by omega);simp only[e2,SR,kP,jd];rw[ahY];refine pX.nK (aw7 s hs LV r1 r2 (k+n) (by omega)) ?_;have hsk:=ac4 false (s.drop (k+n));rw[iZ]at hsk;rw[aCx _ s k q9 (eq_of_beq h0) (by rw[hn];omega) (by rw[hn];omega)];simp only[hn,scn];have:=ih (s.length-(k+n+AC false (s.drop (k+n)))) (by omega) _ rfl (out++[⟨(aOL sK (s.drop k)).1,(s.drop k).take n,(k:Int)⟩]) (by omega) (by grind)
     grind [aFf]
   cases hb:ahS s[k]with
   |true=>
    have c0:(HH s[k]==0)=false:=by unfold HH;rw[hb];rfl
    have c1:(HH s[k]==1)=true:=by rw[ac2,hb]
    simp only[c0,c1,kQ,kP];have hw:=aHQ s (by simp only[big];omega) k LV r1 r2 hk;rw[aFe s k hk r1 sK h1]at hw;rw[hb,kP]at arM;rw[<-arM]at hw;exact pX.nK hw (tail _ rfl)
   |false=>
    rw[hb,kQ]at arM;have c1:(HH s[k]==1)=false:=by rw[ac2,hb]
    cases hdg:EA s[k]with
    |true=>
     have c0:(HH s[k]==0)=false:=by unfold HH;rw[hb,hdg];rfl
     have c2:(HH s[k]==2)=true:=by rw[ac3,hdg]
     simp only[c0,c1,c2,kQ,kP];rw[hdg,kP]at arM;have hw:=aCf s (by simp only[big];omega) k LV r1 r2 q9;rw[<-arM]at hw;exact pX.nK hw (tail _ rfl)
    |false=>
     rw[hdg,kQ]at arM;have c2:(HH s[k]==2)=false:=by rw[ac3,hdg]
     cases hq:s[k]==34 with
     |true=>
      have c0:(HH s[k]==0)=false:=by grind [HH]
      have c3:(HH s[k]==3)=true:=by grind [HH]
      simp only[c0,c1,c2,c3,kQ,kP];rw[hq,kP]at arM;have hw:=aCm s hs k q9 LV r1 r2;rw[<-arM]at hw;exact pX.nK hw (tail _ rfl)
     |false=>
      have c0:(HH s[k]==0)=true:=by grind [HH]
      simp only[c0,kP];rw[hq,kQ]at arM;have hw:=aCl s hs k hk LV r1 r2 (D7++sK) h2 (aCy aKq hd hb)
      have e:(bif aOJ (s.drop k) 0 (D7++sK)==0 then((0:Int),(k:Int),(4:Int))else(2,((k+aOJ (s.drop k) 0 (D7++sK):Nat):Int),0))=aw5 k (aCw sK (s.drop k)):=by
       unfold aCw;generalize aOJ (s.drop k) 0 (D7++sK)=q;cases q==0<;>rfl
      rw[e,<-arM]at hw;exact pX.nK hw (tail _ rfl)
  ·have e1:decide ((k:Int)<(s.length:Int))=false:=kS (by omega);obtain rfl:k=s.length:=by omega
   rw[aFh];simp only[e1,kQ,SR,kP];exact pX.pure
theorem aFi{T:lH->Int×Nat×Int}{r:lH}{a:Nat}:axs [] (hdT T r a)=hdT T r a:=by
 unfold axs
 match r with
 |[]=>rw[hdT];rfl
 |c::t=>
  grind [hdT]
theorem aH4(s:lH)(hs:s.length<sml)(sK:List lH)(hl:sK.length<1000)(hy:∀y∈sK,y.length<sml):Ev (fun n=>Yc n s sK) (asS sK s):=by
 refine Ev.fn (fun n=>by simp only[Yc,l6,aek,mB];exact rfl) ?_;have hs':s.length<4294967281:=hs;refine Ev.bind anB ?_
 have l2:∀(l:List lH)(hll:l.length<1000)(j:Int)(r1:List (lH×Bool))(L:List (List lH))(b:Int)(X:Nat->Nat->List (lH×Bool)->Option (List mG×Int×Int))(res:List mG×Int×Int),
  ∀d k:Nat,k+d=l.length->∀r2,pX (fun n m=>zZ n m s L b (IntKind.i64.wrap (j+1)) LV r1 (Jk (l.drop k) r2) s) res->
  Z1 (fun n m p=>DB n (zZ n m) p s L b j l ((l.length:Nat):Int) (k:Int) LV r1 r2 s) res:=by
  intro l hll j r1 L b X res d;induction d with
  |zero=>
   intro k hk r2 aw3;refine Z1.lp (fun n m p=>by simp only[afk,Nc,mB];exact rfl) ?_;have:decide ((k:Int)<(l.length:Int))=false:=kS (by omega);simp only[this,kQ];rw[iS (show l.length<=k by omega)]at aw3;exact Z1.Jh aw3
  |succ d ih=>
   intro k hk r2 aw3;have q9:k<l.length:=by omega
   refine Z1.lp (fun n m p=>by simp only[afk,Nc,mB];exact rfl) ?_;have:decide ((k:Int)<(l.length:Int))=true:=kR (by omega);simp only[this,kP];refine Z1.Nu q9 ?_;rw[mM (by omega)];refine ih (k+1) (by omega) _ ?_;rw[iP q9]at aw3;exact aw3
 have key:∀d k:Nat,k+d=sK.length->∀r1,(∀y,(qw y (Jk (sK.drop k) r1)).getD false=sK.contains y)->((sK.take k).all alI=true)->
  pX (fun n m=>Nf n m s sK sK ((sK.length:Nat):Int) (k:Int) LV r1 [] s) (bif (sK.drop k).all alI then(bif decide (65536<s.length)then([],0,5)else hdT (aOL sK) (s.drop (AC false s)) (AC false s))else([],0,1)):=by
  intro d;induction d with
  |zero=>
   intro k hk r1 hr1 amg;refine pX.lp (fun n m=>by simp only[afl,Nd,mB];exact rfl) ?_;have:decide ((k:Int)<(sK.length:Int))=false:=kS (by omega);simp only[this,kQ];rw[iS (show sK.length<=k by omega)]at hr1 ⊢;rw[jE (by omega)]at amg;simp only[jV,kP];refine pX.nK asG ?_;refine pX.of1 (Ev.Jh (F:=fun n m=>zZ n m s [D7,sK] 2 0 LV r1 [] s) ?_);refine pX.lp (G:=fun n m=>DB n (zZ n m) n s [D7,sK] 2 0 D7 ((D7.length:Nat):Int) 0 LV r1 [] s) (fun n m=>by simp only[VC,JU];exact rfl) ?_;refine Z1.to2 (F:=fun n m p=>DB n (zZ n m) p s [D7,sK] 2 0 D7 ((D7.length:Nat):Int) ((0:Nat):Int) LV r1 [] s) ?_;refine l2 D7 (by decide) 0 r1 _ 2 (fun _ _ _=>none) _ D7.length 0 (by omega) [] ?_;refine pX.lp (G:=fun n m=>DB n (zZ n m) n s [D7,sK] 2 1 sK ((sK.length:Nat):Int) 0 LV r1 (Jk D7 []) s) (fun n m=>by simp only[VC,JU];exact rfl) ?_;refine Z1.to2 (F:=fun n m p=>DB n (zZ n m) p s [D7,sK] 2 1 sK ((sK.length:Nat):Int) ((0:Nat):Int) LV r1 (Jk D7 []) s) ?_;refine l2 sK hl 1 r1 _ 2 (fun _ _ _=>none) _ sK.length 0 (by omega) (Jk D7 []) ?_;rw[jb]
   refine pX.lp (G:=fun n m=>bif decide ((65536:Int)<(s.length:Int))then some ([],0,5)else(Bw n s 0 LV r1 (Jk sK (Jk D7 []))).bind fun x=>
    FU n n s x.fst.snd.fst x.fst.snd.snd.fst x.fst.snd.snd.snd.fst x.fst.fst.fst x.fst.fst.snd.fst []) (fun n m=>by simp only[VC,JU];exact rfl) ?_
   have e:decide ((65536:Int)<(s.length:Int))=decide (65536<s.length):=decide_eq_decide.2 (by omega);rw[e];cases decide (65536<s.length)with
   |true=>exact pX.pure
   |false=>
    simp only[kQ];have hk0:=aw7 s hs LV r1 (Jk sK (Jk D7 [])) 0 (ju _);rw[jb,Nat.zero_add]at hk0;refine pX.nK hk0 ?_;have hsk:=ac4 false s
    have:=aCz s hs sK amg r1 (Jk sK (Jk D7 [])) hr1 (fun y=>by
     grind [ahZ,qw]) (AC false s) [] hsk (ju _)
    rw[aFi]at this;exact pX.of1 (Ev.Jh (F:=fun n m=>FU n m s LV r1 (Jk sK (Jk D7 [])) s ((AC false s:Nat):Int) []) this)
  |succ d ih=>
   intro k hk r1 hr1 amg;have q9:k<sK.length:=by omega
   refine pX.lp (fun n m=>by simp only[afl,Nd,mB];exact rfl) ?_;have:decide ((k:Int)<(sK.length:Int))=true:=kR (by omega);simp only[this,kP];refine pX.Nu q9 (pX.nK (asJ _ (hy _ (iQ q9))) ?_);rw[iP q9,List.all_cons];cases hsy:alI sK[k]with
   |false=>exact pX.pure
   |true=>
    simp only[kP,iU];rw[mM (by omega)];refine ih (k+1) (by omega) _ ?_ ?_
    ·rw[iP q9]at hr1;exact hr1
    grind [jt]
 exact Ev.Jh (F:=fun n m=>Nf n m s sK sK ((sK.length:Nat):Int) 0 LV [] [] s) (key sK.length 0 (by omega) [] (fun y=>by grind [ahZ,qw]) rfl)
theorem aH5(k:Nat)(h:k<4611686018427387904):Ev (fun n=>strconv_Itoa n (k:Int)) (kj k):=by
 refine⟨1,fun n hn=>?_⟩;obtain⟨m,rfl⟩:∃m,n=m+1:=⟨n-1,by omega⟩;show(bif decide ((0:Int)<=(k:Int))&&decide ((k:Int)<=9223372036854775807)then some (kj k)else none)=_;rw[kR (show(0:Int)<=(k:Int) by omega),kR (show(k:Int)<=9223372036854775807 by omega)];rfl
theorem auw(l:List lH)(sep:lH)(h:(jl l sep).length<=140737488355328)(hl:l.length<=140737488355328):Ev (fun n=>strings_Join n l sep) (jl l sep):=by
 refine Ev.fn (G:=fun _=>some (jl l sep)) (fun n=>?_) Ev.pure;simp only[strings_Join,kR h,kR hl,Bool.and_self,kP]
theorem ajC:∀(k u:Nat),u<10 ^ (k+1)->(Lib.decDigits u).length<=k+1
 |0,u,h=>by rw[Lib.decDigits_one (by omega)];simp
 |k+1,u,h=>by
  by_cases h10:u<10
  ·rw[Lib.decDigits_one h10];simp
  ·rw[Lib.decDigits,dif_neg h10,iT,iX];have:=ajC k (u / 10) (by rw[Nat.pow_succ]at h;omega);omega
theorem aIL{n:Int}(h:0<=n/\n<=999999):∃s:lH,s.length<=6/\Ev (fun f=>strconv_Itoa f n) s:=by
 obtain⟨k,rfl⟩:∃k:Nat,n=k:=⟨n.toNat,by omega⟩;refine⟨kj k,?_,aH5 k (by omega)⟩;unfold kj;rw[if_neg (by omega),jd];exact ajC 5 k (by omega)
theorem am2{W:Type}(f:W->Nat)(x:W):∀l:List W,wk f (l++[x])=wk f l+f x
 |[]=>by simp only[jO,wk];omega
 |y::l=>by rw[jY,wk,wk,am2 f x l];omega
theorem asU{f:W->Nat}{l:List W}{i:Nat}(h:i<l.length):wk f (l.drop i)=f l[i]+wk f (l.drop (i+1)):=by
 rw[iP h,wk]
abbrev auy(s:lH):Nat:=s.length+2
theorem aqL(l:ld)(hp:ahX l)(hb:l.rI<=4194304):lZ (fun n=>M1 n l) (fun s=>s.length<=16*l.rI):=by
 have hbk:l.rI=1+(wk lz.rI l.A8+1):=rfl;have hl:l.A8.length+1<=wk lz.rI l.A8:=FD (fun x=>by unfold lz.rI;omega) _;refine lZ.fn (fun n=>by simp only[M1,l6,Vo,mB];exact rfl) ?_;refine lZ.rQ (fun _=>lZ.pure (by simp only[iR,ja];omega)) fun _=>?_
 refine lZ.Jh (F:=fun n m=>DF n m l.A8 l.A8.length 0 []) ?_;refine l1.up (S:=List lH) (L:=fun n m i a=>DF n m l.A8 l.A8.length i a) l.A8.length (fun i a=>a.length=i/\wk auy a+11*wk lz.rI (l.A8.drop i)<=11*wk lz.rI l.A8+1) _ ?_ ?_ 0 [] (by omega) ⟨rfl,by rw[jb];simp only[wk];omega⟩
 ·intro i a hi ⟨ha,hI⟩ next
  refine l1.lp (fun n m=>by simp only[XG,G5,mB];exact rfl) ?_;simp only[hi,jr,decide_true,kP];refine l1.Nu hi ?_;rw[asU hi]at hI;have hr:decide ((a.length+1)*16<=17592186044416)=true:=kR (by omega);have hx:l.A8[i].rI=l.A8[i].name.length+3:=by unfold lz.rI;omega
  obtain⟨s,hs,hev⟩:=aIL (hp _ (iQ hi))
  have nx:∀t:lH,t.length<=l.A8[i].name.length+9->l1 (fun n m=>DF n m l.A8 l.A8.length ((i+1:Nat):Int) (a++[t])) (fun s=>s.length<=16*l.rI):=fun t ht=>by
   refine next _ ⟨by rw[iT,iX,ha],?_⟩
   rw[am2];simp only[auy];omega
  simp only[hr,kP];rw[mM (by omega)];refine l1.rQ (fun _=>?_) fun _=>l1.rQ (fun _=>nx _ (by omega)) fun _=>?_
  ·refine l1.nK (hev.tot (Q:=(· =s)) rfl) fun y hy=>?_
   subst hy;exact nx _ (by omega)
  ·have hn:decide (l.A8[i].name.length<=9223372036854775804)=true:=kR (by omega);simp only[hn,kP];refine l1.nK (hev.tot (Q:=(· =s)) rfl) fun y hy=>?_
   subst hy;have hn:decide (l.A8[i].name.length+3+y.length<=9223372036854775807)=true:=kR (by omega);simp only[hn,kP];exact nx _ (by simp only[iT,iR,ja];omega)
 ·intro a ⟨ha,hI⟩;refine l1.lp (fun n m=>by simp only[XG,G5,mB];exact rfl) ?_;simp only[ji,decide_false,kQ];rw[jH]at hI;simp only[wk]at hI;refine l1.rQ (fun h1=>?_) fun _=>?_
  ·have h1:=beq_iff_eq.1 h1;have h0:0<a.length:=by omega
   refine l1.Nu (i:=0) h0 (l1.pure ?_);have:auy a[0]+1<=wk auy a:=Nv (iQ h0);simp only[auy]at this;omega
  ·have hj:=al0 [44,32] a;have hj:(jl a [44,32]).length<=wk auy a:=hj;refine l1.nK ((auw a [44,32] (by omega) (by omega)).tot (Q:=(· =jl a [44,32])) rfl) fun y hy=>?_
   subst hy;have h1:decide (4+(jl a [44,32]).length<=9223372036854775807)=true:=kR (by omega);have h2:decide ((jl a [44,32]).length<=9223372036854775802)=true:=kR (by omega);simp only[h1,h2,kP];exact l1.pure (by simp only[iT,iR,ja];omega)
abbrev WR:Type:=(((List k7)×(Bool×Unit))×(lH×Unit))×Unit
def wr(T:List k7)(l:Bool)(b:lH):WR:=(((T,(l,())),(b,())),())
def WQ(T:List k7)(r:WR):Prop:=∃l b,r=wr T l b/\b.length<=65536
variable {T:List k7}
theorem auz(ss:List lH)(l:Bool)(b:lH)(hs:∀s∈ss,s.length<=1099511627776)(hn:ss.length<=1048576)(hb:b.length<=65536):lZ (fun n=>nU n ss T l b) (WQ T):=by
 refine lZ.fn (fun n=>by simp only[nU,l6,Lf,mC];exact rfl) ?_;refine lZ.Jh (F:=fun n m=>Bd n m ss ss.length 0 T l b) ?_;refine l1.up (S:=Bool×lH) (L:=fun n m i s=>Bd n m ss ss.length i T s.1 s.2) ss.length (fun _ s=>s.2.length<=65536) _ ?_ ?_ 0 (l,b) (by omega) hb
 ·intro i s hi hI next
  obtain⟨l,b⟩:=s;simp only at hI;refine l1.lp (fun n m=>by simp only[Oi,Bc,mB];exact rfl) ?_;simp only[hi,jr,decide_true,kP];refine l1.Nu hi ?_;have hsl:=hs _ (iQ hi);rw[mM (by omega)]
  have e1:lZ (fun n=>Gn n T l b) (· =(((T,(l,())),(b,())),((b.length:Int),()))):=by
   refine lZ.fn (fun n=>by simp only[Gn,l6,alM,mC];exact rfl) ?_;exact lZ.pure rfl
  refine l1.nK e1 fun y hy=>?_
  subst hy;simp only;rw[qo (by omega) (by omega)];refine l1.rQ (fun _=>next (true,b) hI) fun hk=>l1.rQ (fun _=>next (l,b) hI) fun _=>?_
  have hk:=of_decide_eq_false hk
  have e2:lZ (fun n=>zz n ss[i] T l b) (· =(((T,(l,())),(b++ss[i],())),((ss[i].length:Int),()))):=by
   refine lZ.fn (fun n=>by simp only[zz,l6,BX,mC];exact rfl) ?_
   have e3:lZ (fun n=>EF n T l b) (· =(((T,(l,())),(b,())),())):=⟨_,rfl,1,fun n hn=>by
    obtain⟨k,rfl⟩:∃k,n=k+1:=⟨n-1,by omega⟩;rfl⟩
   refine lZ.bind e3 fun y hy=>?_
   subst hy;have h4:decide ((b.length+ss[i].length)*1<=17592186044416)=true:=kR (by omega);simp only[h4,kP];exact lZ.pure rfl
  refine l1.nK e2 fun y hy=>?_
  subst hy;exact next (l,b++ss[i]) (by simp only[iT];omega)
 ·intro s hI;refine l1.lp (fun n m=>by simp only[Oi,Bc,mB];exact rfl) ?_;simp only[ji,decide_false,kQ];exact l1.pure ⟨s.1,s.2,rfl,hI⟩
end
section
theorem IX.aqD{x:Syntax}(h:0<x.mR.length)(i:IX x):AU i.1.mR 0=some (i.WG 0 h).1:=i.Nu h
theorem IX.aCq{x:Syntax}(h:1<x.mR.length)(i:IX x):AU i.1.mR 1=some (i.WG 1 h).1:=i.Nu h
theorem IX.aN7{x:Syntax}(h:2<x.mR.length)(i:IX x):AU i.1.mR 2=some (i.WG 2 h).1:=i.Nu h
variable {T:List k7}
abbrev D(F:Nat->Syntax->List k7->Bool->lH->Option WR)(T:List k7)(y:Syntax):Prop:=∀(l:Bool)(b:lH),b.length<=65536->TI (fun(i:IX y) n=>F n i.1 T l b) (WQ T)
theorem TI.w{I R:Type}{Q:R->Prop}{F:I->Nat->Option WR}{G:I->Nat->WR->Option R}(h:TI F (WQ T))(hg:∀l b,b.length<=65536->TI (fun i n=>G i n (wr T l b)) Q):TI (fun i n=>(F i n).bind (G i n)) Q:=
 TI.bind h fun r hr=>by
   obtain⟨l,b,rfl,hb⟩:=hr;exact hg l b hb
theorem If.w{I R:Type}{Q:R->Prop}{F:I->Nat->Option WR}{G:I->Nat->Nat->WR->Option R}(h:TI F (WQ T))(hg:∀l b,b.length<=65536->If (fun i n m=>G i n m (wr T l b)) Q):If (fun i n m=>(F i n).bind (G i n m)) Q:=
 If.nK h fun r hr=>by
  obtain⟨l,b,rfl,hb⟩:=hr;exact hg l b hb
theorem wq{I:Type}{l:Bool}{b:lH}(h:b.length<=65536):TI (fun(_:I) _=>some (wr T l b)) (WQ T):=TI.pure ⟨l,b,rfl,h⟩
theorem QS{I:Type}{F:I->Nat->Option WR}(h:TI F (WQ T)):TI (fun i n=>(F i n).bind fun x=>some (((x.fst.fst.fst,x.fst.fst.snd.fst,()),x.fst.snd.fst,()),())) (WQ T):=TI.w h fun l b hb=>wq hb
def D9(s:lH):Prop:=s.length<=1099511627776
theorem VS{I:Type}{s:lH}{l:Bool}{b:lH}(hs:D9 s)(hb:b.length<=65536):TI (fun(_:I) n=>nU n [s] T l b) (WQ T):=
 TI.one (auz [s] l b (fun t ht=>by rw[jT]at ht;subst ht;exact hs) (by simp) hb)
theorem aH6{I:Type}{s:lH}{l:Bool}{b:lH}(hs:D9 s)(ht:D9 t)(hb:b.length<=65536):TI (fun(_:I) n=>nU n [s,t] T l b) (WQ T):=
 TI.one (auz [s,t] l b (fun u hu=>by
   rcases jG.1 hu with rfl|hu
   ·exact hs
   ·rw[jT]at hu;subst hu;exact ht) (by simp) hb)
section aKr
variable {y:Syntax} {s1 s2:lH} {l:Bool} {b:lH}
theorem Ig(h:D nH T y)(h1:D9 s1)(h2:D9 s2)(hb:b.length<=65536):TI (fun(i:IX y) n=>lT n s1 i.1 s2 T l b) (WQ T):=by
 refine TI.fn (fun i n=>by simp only[HR,sD,nj,mC];exact rfl) ?_;exact TI.w (VS h1 hb) fun l b hb=>TI.w (h l b hb) fun l b hb=>QS (VS h2 hb)
theorem asV(h:D pE T y)(h1:D9 s1)(h2:D9 s2)(hb:b.length<=65536):TI (fun(i:IX y) n=>mU n s1 i.1 s2 T l b) (WQ T):=by
 refine TI.fn (fun i n=>by simp only[JJ,s3,nj,mC];exact rfl) ?_;exact TI.w (VS h1 hb) fun l b hb=>TI.w (h l b hb) fun l b hb=>QS (VS h2 hb)
theorem axt(h:D pN T y)(h1:D9 s1)(h2:D9 s2)(hb:b.length<=65536):TI (fun(i:IX y) n=>ng n s1 i.1 s2 T l b) (WQ T):=by
 refine TI.fn (fun i n=>by simp only[HT,sE,nj,mC];exact rfl) ?_;exact TI.w (VS h1 hb) fun l b hb=>TI.w (h l b hb) fun l b hb=>QS (VS h2 hb)
theorem ajD(h:D nN T y)(h1:D9 s1)(h2:D9 s2)(hb:b.length<=65536):TI (fun(i:IX y) n=>mL n s1 i.1 s2 T l b) (WQ T):=by
 refine TI.fn (fun i n=>by simp only[Ge,rU,nj,mC];exact rfl) ?_;exact TI.w (VS h1 hb) fun l b hb=>TI.w (h l b hb) fun l b hb=>QS (VS h2 hb)
end aKr
theorem afs.len{x:Syntax}(f:afs x){k:Int}(h:x.kind=k)(hk:k≠14):(x.mR.length:Int)=Jj k:=by rw[<-h];exact f.ar (by rw[h];exact hk)
theorem pq{s:lH}(h:s.length<=100):D9 s:=by unfold D9;omega
theorem aeP{x:Syntax}(h:x.rI<=2097152):x.text.length<=2097152:=by rw[Syntax.VR]at h;omega
structure axu(T:List k7)(x:Syntax):Prop where
 f:afs x
 sm:x.rI<=2097152
 ex:∀y∈x.mR,x.kind≠14->D nH T y
 op:∀y∈x.mR,x.kind≠14->D pE T y
 ap:∀y∈x.mR,x.kind≠14->D oI T y
 uV:∀y∈x.mR,x.kind≠14->D pN T y
 ta:∀y∈x.mR,x.kind=14->D nN T y
 lv:∀l∈x.mK,ahX l
theorem aMG{x:Syntax}(p:axu T x)(hk:x.kind=4):D tg T x:=by
 intro l b hb;have hl:=p.f.len hk (by decide);simp only[Yv]at hl;have h0:0<x.mR.length:=by omega
 have m0:=iQ h0;have k4:x.kind≠14:=by omega
 have ht:=aeP p.sm;refine TI.fn (fun i n=>by simp only[acK,Cx,nj,mC];exact rfl) ?_;simp only[IX.aqD h0,iO,IX.kind,IX.text,IX.num];have d1:decide (1+x.text.length<=9223372036854775807)=true:=kR (by omega);have d2:decide (x.text.length<=9223372036854775803)=true:=kR (by omega);simp only[d1,d2,kP]
 have ar:∀(c d:UInt8),TI (fun(i:IX x) n=>(lT n (c::(x.text++[32,58,32])) (i.WG 0 h0).1 [d] T l b).bind fun x=>some (((x.fst.fst.fst,x.fst.fst.snd.fst,()),x.fst.snd.fst,()),())) (WQ T):=fun c d=>
  QS (TI.uV (fun i:IX x=>i.WG 0 h0) (Ig (p.ex _ m0 k4) (by unfold D9;simp;omega) (pq (by simp)) hb))
 have op:TI (fun(i:IX x) n=>(pE n (i.WG 0 h0).1 T l b).bind fun x=>some (((x.fst.fst.fst,x.fst.fst.snd.fst,()),x.fst.snd.fst,()),())) (WQ T):=QS (TI.uV (fun i:IX x=>i.WG 0 h0) (p.op _ m0 k4 l b hb));refine TI.rQ (fun _=>TI.rQ (fun _=>?_) fun _=>TI.rQ (fun _=>op) fun _=>TI.rQ (fun _=>ar _ _) fun _=>TI.rQ (fun _=>ar _ _) fun _=>ar _ _) fun _=>TI.rQ (fun _=>op) fun _=>TI.rQ (fun _=>ar _ _) fun _=>TI.rQ (fun _=>ar _ _) fun _=>ar _ _
 exact QS (TI.uV (fun i:IX x=>i.WG 0 h0) (asV (p.op _ m0 k4) (pq (by simp)) (pq (by simp)) hb))
theorem aCA{x:Syntax}(p:axu T x)(hk:Sz x.kind=true):D nH T x:=by
 intro l b hb;have ht:=aeP p.sm;have k4:x.kind≠14:=by intro h;rw[h]at hk;cases hk
 have h0:0<x.mR.length:=by
  have:=p.f.ar k4;simp only[Sz,j8,beq_iff_eq]at hk;rcases hk with h|h|h|h<;>rw[h]at this<;>simp only[Yv]at this<;>omega
 have h1:1<x.mR.length:=by
  have:=p.f.ar k4;simp only[Sz,j8,beq_iff_eq]at hk;rcases hk with h|h|h|h<;>rw[h]at this<;>simp only[Yv]at this<;>omega
 have m0:=iQ h0;have m1:=iQ h1;refine TI.fn (fun i n=>by simp only[RH,Bn,nj,Ea];exact rfl) ?_;refine TI.rQ (fun _=>wq hb) fun _=>?_
 have d0:decide (0<(x.mR.length:Int))=true:=kR (by omega);simp only[IX.len,d0,kP,IX.aqD h0,IX.aCq h1,iO,IX.kind,IX.text,IX.num];have d1:decide (5+x.text.length<=9223372036854775807)=true:=kR (by omega);have d2:decide (x.text.length<=9223372036854775799)=true:=kR (by omega);have d3:decide (7+x.text.length<=9223372036854775807)=true:=kR (by omega);have d4:decide (x.text.length<=9223372036854775797)=true:=kR (by omega);simp only[d1,d2,d3,d4,kP];have e1:∀(l:Bool)(b:lH),b.length<=65536->TI (fun(i:IX x) n=>(nH n (i.WG 1 h1).1 T l b).bind fun x=>some (((x.fst.fst.fst,x.fst.fst.snd.fst,()),x.fst.snd.fst,()),())) (WQ T):=fun l b hb=>QS (TI.uV (fun i:IX x=>i.WG 1 h1) (p.ex _ m1 k4 l b hb))
 have ar0:∀(s1 s2:lH)(l:Bool)(b:lH),s1.length<=4194304->s2.length<=100->b.length<=65536->TI (fun(i:IX x) n=>lT n s1 (i.WG 0 h0).1 s2 T l b) (WQ T):=fun s1 s2 l b q1 q2 hb=>TI.uV (fun i:IX x=>i.WG 0 h0) (Ig (p.ex _ m0 k4) (by unfold D9;omega) (pq q2) hb)
 have ar1:∀(s1 s2:lH)(l:Bool)(b:lH),s1.length<=4194304->s2.length<=100->b.length<=65536->TI (fun(i:IX x) n=>lT n s1 (i.WG 1 h1).1 s2 T l b) (WQ T):=fun s1 s2 l b q1 q2 hb=>TI.uV (fun i:IX x=>i.WG 1 h1) (Ig (p.ex _ m1 k4) (by unfold D9;omega) (pq q2) hb)
 have st:D9 x.text:=by unfold D9;omega
 refine TI.rQ (fun _=>?_) fun n3=>TI.rQ (fun h4=>?_) fun n4=>TI.rQ (fun _=>?_) fun n5=>TI.rQ (fun h9=>?_) fun n9=>?_
 ·refine TI.rQ (fun _=>?_) fun _=>?_
  ·exact TI.w (aH6 (pq (by simp)) st hb) fun l b hb=>TI.w (VS (pq (by simp)) hb) fun l b hb=>e1 l b hb
  ·exact TI.w (ar0 _ _ l b (by simp;omega) (by simp) hb) fun l b hb=>TI.w (VS (pq (by simp)) hb) fun l b hb=>e1 l b hb
 ·exact TI.w (aMG p (by simpa using h4) l b hb) fun l b hb=>TI.w (VS (pq (by simp)) hb) fun l b hb=>e1 l b hb
 ·exact TI.w (ar0 _ _ l b (by simp;omega) (by simp) hb) fun l b hb=>e1 l b hb
 ·have h9:x.kind=9:=by simpa using h9
  have h2:2<x.mR.length:=by
   have:=p.f.ar k4;rw[h9]at this;simp only[Yv]at this;omega
  have m2:=iQ h2;simp only[IX.aN7 h2,iO];have e2:∀(l:Bool)(b:lH),b.length<=65536->TI (fun(i:IX x) n=>(nH n (i.WG 2 h2).1 T l b).bind fun x=>some (((x.fst.fst.fst,x.fst.fst.snd.fst,()),x.fst.snd.fst,()),())) (WQ T):=fun l b hb=>QS (TI.uV (fun i:IX x=>i.WG 2 h2) (p.ex _ m2 k4 l b hb))
  refine TI.w (aH6 (pq (by simp)) st hb) fun l b hb=>TI.rQ (fun _=>?_) fun _=>?_
  ·exact TI.w (ar1 _ _ l b (by simp) (by simp) hb) fun l b hb=>e2 l b hb
  ·exact TI.w (ar0 _ _ l b (by simp) (by simp) hb) fun l b hb=>TI.w (ar1 _ _ l b (by simp) (by simp) hb) fun l b hb=>e2 l b hb
 ·simp only[Sz,n3,n4,n5,n9,jx]at hk;cases hk
theorem aAM{x:Syntax}(hk:Sz x.kind=false)(ho:D pE T x):D nH T x:=by
 intro l b hb;simp only[Sz,jL]at hk;obtain⟨n3,n4,n5,n9⟩:=hk;refine TI.fn (fun i n=>by simp only[RH,Bn,nj,Ea];exact rfl) ?_;refine TI.rQ (fun _=>wq hb) fun _=>?_
 simp only[IX.len,IX.kind,n3,n4,n5,n9,kQ];refine TI.rQ (fun h0=>?_) fun _=>QS (ho l b hb)
 have h0:0<x.mR.length:=by have:=kT h0;omega
 simp only[IX.aqD h0,iO];exact QS (ho l b hb)
theorem aFj{x:Syntax}(p:axu T x)(ha:x.kind≠2->x.kind≠11->D pN T x):D oI T x:=by
 intro l b hb;refine TI.fn (fun i n=>by simp only[ahw,Fs,nj,mC];exact rfl) ?_;refine TI.rQ (fun _=>wq hb) fun _=>?_
 simp only[IX.kind];refine TI.rQ (fun h2=>?_) fun n2=>TI.rQ (fun h11=>?_) fun n11=>QS (ha (by simpa using n2) (by simpa using n11) l b hb)
 ·have h2:x.kind=2:=by simpa using h2
  have hl:=p.f.len h2 (by decide);simp only[Yv]at hl;have h0:0<x.mR.length:=by omega
  have h1:1<x.mR.length:=by omega
  have k4:x.kind≠14:=by omega
  simp only[IX.aqD h0,IX.aCq h1,iO,IX.kind]
  have tl:∀(l:Bool)(b:lH),b.length<=65536->TI (fun(i:IX x) n=>(nU n [[32]] T l b).bind fun x_1=>(pN n (i.WG 1 h1).1 x_1.fst.fst.fst x_1.fst.fst.snd.fst x_1.fst.snd.fst).bind fun x=>some (((x.fst.fst.fst,x.fst.fst.snd.fst,()),x.fst.snd.fst,()),())) (WQ T):=fun l b hb=>
   TI.w (VS (pq (by simp)) hb) fun l b hb=>QS (TI.uV (fun i:IX x=>i.WG 1 h1) (p.uV _ (iQ h1) k4 l b hb))
  refine TI.rQ (fun _=>?_) fun _=>?_
  ·exact TI.w (TI.uV (fun i:IX x=>i.WG 0 h0) (p.ap _ (iQ h0) k4 l b hb)) fun l b hb=>tl l b hb
  ·exact TI.w (TI.uV (fun i:IX x=>i.WG 0 h0) (p.uV _ (iQ h0) k4 l b hb)) fun l b hb=>tl l b hb
 ·have h11:x.kind=11:=by simpa using h11
  have hl:=p.f.srt h11;have h0:0<x.mK.length:=by omega
  have hlb:x.mK[0].rI<=2097152:=by
   have:=p.sm;rw[Syntax.VR]at this;have:=Nv (bk:=ld.rI) (iQ h0);omega
  simp only[IX.mK,show AU x.mK 0=some x.mK[0] from yA h0,iO];refine TI.bind (TI.one (aqL _ (p.lv _ (iQ h0)) (by omega))) fun s hs=>?_
  refine TI.bind (TI.one (aoJ s (by simp only[sml];omega))) fun c _=>?_
  have d1:decide (1+s.length<=9223372036854775807)=true:=kR (by omega);have d2:decide (s.length<=9223372036854775805)=true:=kR (by omega);simp only[d1,d2,kP];refine TI.rQ (fun _=>?_) fun _=>?_
  ·exact QS (aH6 (pq (by simp)) (by unfold D9;simp;omega) hb)
  ·exact QS (aH6 (pq (by simp)) (by unfold D9;omega) hb)
end
section
theorem aCB(s:lH)(hl:s.length<=4194304):lZ (fun n=>Sf n s) Yes:=(aAI s (by simp only[cap];omega)).tot trivial
theorem arN(l:List lH)(s:lH)(hl:l.length<=4194304):lZ (fun n=>xX n l s) Yes:=by
 refine lZ.fn (fun n=>by simp only[xX,l6,DS,mB];exact rfl) ?_;refine lZ.bind (P:=Yes) ?_ fun x hx=>lZ.pure trivial
 refine lZ.fn (fun n=>by simp only[JZ,l6,GY,mB];exact rfl) ?_;refine lZ.Jh (F:=fun n m=>xW n m l s l.length 0) ?_;refine l1.up (S:=Unit) (L:=fun n m i _=>xW n m l s l.length i) l.length (fun _ _=>True) _ ?_ ?_ 0 () (by omega) trivial
 ·intro i u hi _ next
  refine l1.lp (fun n m=>by simp only[K5,xV,mB];exact rfl) ?_;simp only[hi,jr,decide_true,kP];refine l1.Nu hi ?_;rw[mM (by omega)];exact l1.rQ (fun _=>l1.pure trivial) fun _=>next u trivial
 ·intro u _;refine l1.lp (fun n m=>by simp only[K5,xV,mB];exact rfl) ?_;simp only[ji,decide_false,kQ];exact l1.pure trivial
section voc
variable {w:List lH} (hw:w.length<=4194304)
include hw
theorem abm(s:lH)(hs:s.length<=4194304):lZ (fun n=>su n w s) Yes:=by
 refine lZ.fn (fun n=>by simp only[su,l6,Bx,mB];exact rfl) ?_;refine lZ.bind (aCB s hs) fun x _=>?_
 repeat' first
  |exact lZ.pure trivial
  |refine lZ.bind ((aqq s).tot (Q:=Yes) trivial) fun x _=>?_
  |refine lZ.bind (arN w s hw) fun x _=>?_
  |refine lZ.rQ (fun _=>?_) (fun _=>?_)
theorem akn(s:lH)(hs:s.length<=4194304):lZ (fun n=>sA n w s) Yes:=by
 refine lZ.fn (fun n=>by simp only[sA,l6,Dm,mB];exact rfl) ?_;refine lZ.bind (abm hw s hs) fun x _=>?_
 refine lZ.rQ (fun _=>?_) fun _=>lZ.pure trivial
 have:lZ (fun n=>strings_Contains n s [46]) Yes:=⟨jo s [46],trivial,1,fun n hn=>by
  obtain⟨k,rfl⟩:∃k,n=k+1:=⟨n-1,by omega⟩;show(bif decide (s.length<4294967281)then some (jo s [46])else none)=_;rw[kR (by omega)];rfl⟩
 exact lZ.bind this fun x _=>lZ.pure trivial
theorem ajE(s:lH)(hs:s.length<=4194304):lZ (fun n=>wh n w s) Yes:=by
 refine lZ.fn (fun n=>by simp only[wh,l6,B4,mB];exact rfl) ?_;refine lZ.rQ (fun _=>lZ.pure trivial) fun _=>?_
 exact lZ.bind (akn hw s hs) fun x _=>lZ.pure trivial
omit hw in
theorem aFk{P:W->Prop}{l:List W}(h:j<l.length)(a:P l[j])(r:∀x∈l.drop (j+1),P x):∀x∈l.drop j,P x:=by
 intro x hx;rw[iP h]at hx;rcases jG.1 hx with rfl|hx
 ·exact a
 ·exact r x hx
theorem aCC(ats:List lz)(hl:ats.length<=4194304)(hn:∀a∈ats,a.name.length<=4194304):∀(d j:Nat)(v1:Int),j+d=ats.length->
 ∃ (o:Option Int) (N:Nat),(o≠none-> ∀a∈ats.drop j,0<=a.plus/\a.plus<=999999)/\ ∀f X k v2 v3 v4,N<=f->N<=k->
   yt f X k w v1 v2 v3 v4 ats (ats.length:Int) (j:Int)=(match o with|none=>some 3|some v=>X w v v2 v3 (IntKind.i64.wrap (v4+1))):=by
 intro d;induction d with
 |zero=>
  intro j v1 hj;refine⟨some v1,1,fun _ a ha=>?_,fun f X k v2 v3 v4 hf hk=>?_⟩
  ·rw[iS (by omega)]at ha;cases ha
  ·obtain⟨k,rfl⟩:∃k',k=k'+1:=⟨k-1,by omega⟩;simp only[xj,sv,mB];rw[kS (show ¬ (j:Int)<(ats.length:Int) by omega),kQ]
 |succ d ih=>
  intro j v1 hj;have q9:j<ats.length:=by omega
  obtain⟨b,_,N0,hb⟩:=akn hw ats[j].name (hn _ (iQ q9));have e:decide ((j:Int)<(ats.length:Int))=true:=kR (by omega);by_cases h0:ats[j].plus<0
  ·refine⟨none,1,fun h=>absurd rfl h,fun f X k v2 v3 v4 hf hk=>?_⟩;obtain⟨k,rfl⟩:∃k',k=k'+1:=⟨k-1,by omega⟩;simp only[xj,sv,e,kP,yA q9,iO,kR h0,mB]
  ·by_cases h9:999999<ats[j].plus
   ·refine⟨none,1,fun h=>absurd rfl h,fun f X k v2 v3 v4 hf hk=>?_⟩;obtain⟨k,rfl⟩:∃k',k=k'+1:=⟨k-1,by omega⟩;simp only[xj,sv,e,kP,yA q9,iO,kS h0,kQ,kR h9,mB]
   ·obtain⟨o,N,ho,hN⟩:=ih (j+1) (bif ats[j].name==[] then v1 else bif b then v1 else 29) (by omega);refine⟨o,N0+N+1,fun h=>aFk q9 ⟨by omega,by omega⟩ (ho h),fun f X k v2 v3 v4 hf hk=>?_⟩;obtain⟨k,rfl⟩:∃k',k=k'+1:=⟨k-1,by omega⟩;simp only[xj,sv,e,kP,yA q9,iO,kS h0,kS h9,kQ,hb f (by omega),mB];rw[mM (by omega)];rw[<-hN f X k v2 v3 v4 (by omega) (by omega)];cases ats[j].name==[]<;>cases b<;>rfl
theorem axv(ls:List ld)(hl:ls.length<=4194304)(hb:∀l∈ls,l.rI<=4194304):lZ (fun n=>A5 n w ls) (fun r=>r=3\/∀l∈ls,ahX l):=by
 refine lZ.fn (fun n=>by simp only[A5,l6,Dp,mB];exact rfl) ?_;refine lZ.Jh (F:=fun n m=>vp n m w 0 ls ls.length 0) ?_;refine l1.up (S:=Int) (L:=fun n m i v=>vp n m w v ls ls.length i) ls.length (fun i _=>∀l∈ls.take i,ahX l) _ ?_ ?_ 0 0 (by omega) (fun l hl=>by simp at hl)
 ·intro i v hi hI next
  refine l1.lp (fun n m=>by simp only[Hx,vo];exact rfl) ?_;simp only[hi,jr,decide_true,kP];refine l1.Nu hi ?_;refine l1.rQ (fun _=>?_) fun _=>l1.pure (.inl rfl)
  have hbl:=hb _ (iQ hi);have q:ls[i].rI=1+(wk lz.rI ls[i].A8+1):=rfl;have q1:ls[i].A8.length+1<=wk lz.rI ls[i].A8:=FD (fun x=>by unfold lz.rI;omega) _
  obtain⟨o,N,ho,hN⟩:=aCC hw ls[i].A8 (by omega) (fun a ha=>by
   have h1:=Nv (bk:=lz.rI) ha;have h2:a.rI=a.name.length+3:=by unfold lz.rI;omega
   omega) ls[i].A8.length 0 v (by omega)
  cases o with
  |none=>exact⟨3,.inl rfl,N,fun n m hn hm=>hN n _ n _ _ _ hn hn⟩
  |some v'=>
   have ho:=ho (by simp)
   obtain⟨r,hr,M,hM⟩:=next v' (fun l hl=>by
    rw[jt hi]at hl;rcases jh.1 hl with hl|hl
    ·exact hI l hl
    ·rw[jT]at hl;subst hl;exact ho)
   refine⟨r,hr,N+M,fun n m hn hm=>?_⟩;refine(hN n _ n _ _ _ (by omega) (by omega)).trans ?_;simp only;rw[mM (by omega)];exact hM n m (by omega) (by omega)
 ·intro v hI;refine l1.lp (fun n m=>by simp only[Hx,vo];exact rfl) ?_;simp only[ji,decide_false,kQ];rw[jp]at hI;exact l1.pure (.inr hI)
end voc
theorem aFl(k:Int):Ev (fun n=>SI n k) (Jj k):=by
 refine Ev.fn (fun n=>by simp only[SI,l6,Vs,mB];exact rfl) ?_;unfold Jj;by_cases h2:k=2
 ·subst h2;exact Ev.pure
 by_cases h3:k=3
 ·subst h3;exact Ev.pure
 by_cases h4:k=4
 ·subst h4;exact Ev.pure
 by_cases h5:k=5
 ·subst h5;exact Ev.pure
 by_cases h6:k=6
 ·subst h6;exact Ev.pure
 by_cases h13:k=13
 ·subst h13;exact Ev.pure
 by_cases h7:k=7
 ·subst h7;exact Ev.pure
 by_cases h8:k=8
 ·subst h8;exact Ev.pure
 by_cases h9:k=9
 ·subst h9;exact Ev.pure
 by_cases h14:k=14
 ·subst h14;exact Ev.pure
 simp only[kV.2 h2,kV.2 h3,kV.2 h4,kV.2 h5,kV.2 h6,kV.2 h13,kV.2 h7,kV.2 h8,kV.2 h9,kV.2 h14,kQ,h2,h3,h4,h5,h6,h13,h7,h8,h9,h14,or_self,if_false];exact Ev.pure
theorem ac7(k:Int):Ev (fun n=>FG n k) (Sz k):=by
 refine Ev.fn (fun n=>by simp only[FG,l6,Vn,mB];exact rfl) ?_;unfold Sz;cases k==3<;>cases k==4<;>cases k==5<;>exact Ev.pure
theorem arO{k:Int}(h:k≠14):0<=Jj k:=by
 unfold Jj
 repeat' split
 all_goals omega
theorem aFm(x:Syntax):TI (fun(i:IX x) n=>P0 n i.1) (fun r=>r=true->afs x):=by
 refine TI.fn (fun i n=>by simp only[P0,l6,Sj];exact rfl) ?_;simp only[IX.kind,IX.mZ,IX.len];refine TI.rQ (fun _=>TI.pure fun h=>by cases h) fun k0=>TI.rQ (fun _=>TI.pure fun h=>by cases h) fun k17=>TI.rQ (fun _=>TI.pure fun h=>by cases h) fun k15=>TI.rQ (fun _=>TI.pure fun h=>by cases h) fun _=>?_
 have k0:=of_decide_eq_false k0;have k17:=of_decide_eq_false k17;have k15:x.kind≠15:=by simpa using k15
 refine TI.bind (TI.one ((aFl x.kind).tot (Q:=(· =Jj x.kind)) rfl)) fun a ha=>?_
 subst ha
 have j1:x.kind≠11->(x.kind≠14->(x.mR.length:Int)=Jj x.kind)->TI (fun(i:IX x) n=>(E8 n).val i.1) (fun r=>r=true->afs x):=fun h11 har=>by
  simp only[E8,IX.kind,IX.num,IX.text];refine TI.rQ (fun h12=>?_) fun h12=>?_
  ·refine TI.rQ (fun h0=>TI.pure fun h9=>?_) fun _=>TI.pure fun h=>by cases h
   exact⟨by omega,by omega,k15,har,fun h=>absurd h h11,fun _=>⟨kT h0,kT h9⟩⟩
  ·have h12:x.kind≠12:=by simpa using h12
   have aO2:afs x:=⟨by omega,by omega,k15,har,fun h=>absurd h h11,fun h=>absurd h h12⟩
   repeat' first
    |exact TI.pure fun _=>aO2
    |refine TI.bind (P:=Yes) (TI.one ((ac7 x.kind).tot trivial)) fun _ _=>?_
    |refine TI.rQ (fun _=>?_) (fun _=>?_)
 have j2:x.kind≠11->(x.kind≠14->(x.mR.length:Int)=Jj x.kind)->TI (fun(i:IX x) n=>(E9 n).val i.1) (fun r=>r=true->afs x):=fun h11 har=>by
  simp only[E9,IX.kind,IX.text];refine TI.rQ (fun _=>j1 h11 har) fun _=>?_
  refine TI.bind (P:=Yes) (TI.one ((ac7 x.kind).tot trivial)) fun _ _=>?_
  exact TI.rQ (fun _=>j1 h11 har) fun _=>TI.pure fun h=>by cases h
 have j3:(x.kind≠14->(x.mR.length:Int)=Jj x.kind)->TI (fun(i:IX x) n=>(KH n).val i.1) (fun r=>r=true->afs x):=fun har=>by
  simp only[KH,IX.kind,IX.num,IX.mK];refine TI.rQ (fun h0=>?_) fun _=>TI.rQ (fun h11=>?_) fun h11=>?_
  ·have h0:x.kind=0:=by simpa using h0
   have aO2:afs x:=⟨by omega,by omega,k15,har,fun h=>by omega,fun h=>by omega⟩;exact TI.rQ (fun _=>TI.pure fun _=>aO2) fun _=>TI.pure fun _=>aO2
  ·have aMH:x.kind=11:=by simpa using h11
   refine TI.rQ (fun _=>TI.pure fun h=>by cases h) fun hl=>?_
   simp only[bne,h11,jf,kQ];have aO2:afs x:=⟨by omega,by omega,k15,har,fun _=>by simp [bne]at hl;omega,fun h=>by omega⟩;simp only[E9,E8,IX.kind,IX.text,IX.num]
   repeat' first
    |exact TI.pure fun _=>aO2
    |refine TI.bind (P:=Yes) (TI.one ((ac7 x.kind).tot trivial)) fun _ _=>?_
    |refine TI.rQ (fun _=>?_) (fun _=>?_)
  ·have aMH:x.kind≠11:=by simpa using h11
   simp only[bne,h11,iW,kP];exact TI.rQ (fun _=>TI.pure fun h=>by cases h) fun _=>j2 aMH har
 refine TI.rQ (fun hp=>TI.rQ (fun _=>TI.pure fun h=>by cases h) fun uP=>j3 fun _=>by simpa [bne] using uP) fun hp=>j3 fun h14=>?_
 have:=arO h14;have:=of_decide_eq_false hp;omega
variable {T:List k7}
theorem aN8{I:Type}{s u:lH}{l:Bool}{b:lH}(hs:D9 s)(ht:D9 t)(hu:D9 u)(hb:b.length<=65536):TI (fun(_:I) n=>nU n [s,t,u] T l b) (WQ T):=
 TI.one (auz [s,t,u] l b (fun v hv=>by
   simp only[jG,List.not_mem_nil,or_false]at hv;rcases hv with rfl|rfl|rfl
   ·exact hs
   ·exact ht
   ·exact hu) (by simp) hb)
theorem auA{xs:List Syntax}(h:∀y∈xs,D nN T y)(hl:xs.length<=2097152)(l:Bool)(b:lH)(hb:b.length<=65536):TI (fun(i:IL xs) n=>sU n i.1 T l b) (WQ T):=by
 refine TI.fn (fun i n=>by simp only[aes,Dt,nj,mC];exact rfl) ?_;refine TI.w (VS (pq (by simp)) hb) fun l b hb=>?_
 simp only[IL.len];refine TI.Jh (F:=fun(i:IL xs) n m=>wA (lu n) n m i.1 i.1 xs.length 0 T l b) ?_;refine If.up (S:=Bool×lH) (L:=fun(i:IL xs) n m k s=>wA (lu n) n m i.1 i.1 xs.length k T s.1 s.2) xs.length (fun _ s=>s.2.length<=65536) (WQ T) ?_ ?_ 0 (l,b) (by omega) hb
 ·intro k s hi hI next
  obtain⟨l,b⟩:=s;simp only at hI;refine If.lp (fun i n m=>by simp only[Mr,zg,nj,mB];exact rfl) ?_;simp only[hi,jr,decide_true,kP,IL.Nu _ hi,iO];rw[mM (by omega)]
  have st:∀l b,b.length<=65536->If (fun(i:IL xs) n m=>(nN n (i.WG k hi).1 T l b).bind fun x=>wA (lu n) n m i.1 i.1 xs.length ((k+1:Nat):Int) x.fst.fst.fst x.fst.fst.snd.fst x.fst.snd.fst) (WQ T):=fun l b hb=>
   If.w (TI.uV (fun i:IL xs=>i.WG k hi) (h _ (iQ hi) l b hb)) fun l b hb=>next (l,b) hb
  exact If.rQ (fun _=>If.w (VS (pq (by simp)) hI) fun l b hb=>st l b hb) fun _=>st l b hI
 ·intro s hI;refine If.lp (fun i n m=>by simp only[Mr,zg,nj,mB];exact rfl) ?_;simp only[ji,decide_false,kQ,IL.len];exact If.rQ (fun _=>If.w (VS (pq (by simp)) hI) fun l b hb=>If.of1 (QS (VS (pq (by simp)) hb))) fun _=>If.of1 (QS (VS (pq (by simp)) hI))
theorem axw{I:Type}(ls:List ld)(hp:∀l∈ls,ahX l)(hb0:wk ld.rI ls<=2097152)(l:Bool)(b:lH)(hb:b.length<=65536):TI (fun(_:I) n=>va (lu n) n n ls ls.length 0 T l b []) (WQ T):=by
 have hl:ls.length+1<=wk ld.rI ls:=FD ld.aqF _;refine TI.Jh (F:=fun(_:I) n m=>va (lu n) n m ls ls.length 0 T l b []) ?_;refine If.up (S:=List lH) (L:=fun(_:I) n m k a=>va (lu n) n m ls ls.length k T l b a) ls.length (fun k a=>a.length=k/\wk auy a+18*wk ld.rI (ls.drop k)<=18*wk ld.rI ls+1) (WQ T) ?_ ?_ 0 [] (by omega) ⟨rfl,by rw[jb];simp only[wk];omega⟩
 ·intro k a hi hI next
  obtain⟨ha,hI⟩:=hI;refine If.lp (fun i n m=>by simp only[Nk,Aw,nj,mB];exact rfl) ?_;simp only[hi,jr,decide_true,kP,yA hi,iO];rw[asU hi]at hI;have hbl:=Nv (bk:=ld.rI) (iQ hi);have hr:decide ((a.length+1)*16<=17592186044416)=true:=kR (by omega);have h1:=ls[k].aqF;refine If.nK (TI.one (aqL _ (hp _ (iQ hi)) (by omega))) fun s hs=>?_
  simp only[hr,kP];rw[mM (by omega)];refine next _ ⟨by rw[iT,iX,ha],?_⟩
  rw[am2];simp only[auy];omega
 ·intro a hI;obtain⟨ha,hI⟩:=hI;refine If.lp (fun i n m=>by simp only[Nk,Aw,nj,mB];exact rfl) ?_;simp only[ji,decide_false,kQ];rw[jH]at hI;simp only[wk]at hI;refine If.rQ (fun _=>?_) fun _=>If.of1 (wq hb)
  have hj:(jl a [44,32]).length<=wk auy a:=al0 [44,32] a;refine If.nK (TI.one ((auw a [44,32] (by omega) (by omega)).tot (Q:=(· =jl a [44,32])) rfl)) fun y hy=>?_
  subst hy;exact If.of1 (QS (aN8 (pq (by simp)) (by unfold D9;omega) (pq (by simp)) hb))
theorem azP{x:Syntax}(p:axu T x)(hs:(x.kind=2\/x.kind=11\/Sz x.kind=true)->D nH T x):D pN T x:=by
 intro l b hb;have ht:=aeP p.sm;have st:D9 x.text:=by unfold D9;omega
 have kb:x.mR.length<=2097152/\wk ld.rI x.mK<=2097152:=by
  have:=p.sm;rw[Syntax.VR]at this;have:=FD (bk:=Syntax.rI) (fun y=>by rw[Syntax.VR];omega) x.mR;omega
 refine TI.fn (fun i n=>by simp only[afV,En,nj,mC];exact rfl) ?_;refine TI.rQ (fun _=>wq hb) fun _=>?_
 simp only[IX.kind,IX.num,IX.text,IX.mK]
 have lv:∀(l:Bool)(b:lH),b.length<=65536->TI (fun(i:IX x) n=>(nU n [x.text] T l b).bind fun y=>va (lu n) n n x.mK (x.mK.length:Int) 0 y.fst.fst.fst y.fst.fst.snd.fst y.fst.snd.fst []) (WQ T):=fun l b hb=>
  TI.w (VS st hb) fun l b hb=>axw x.mK p.lv kb.2 l b hb
 have one:∀(s:lH),s.length<=100->TI (fun(i:IX x) n=>(nU n [s] T l b).bind fun x=>some (((x.fst.fst.fst,x.fst.fst.snd.fst,()),x.fst.snd.fst,()),())) (WQ T):=fun s hs=>QS (VS (pq hs) hb)
 refine TI.rQ (fun _=>TI.rQ (fun _=>TI.w (VS (pq (by simp)) hb) fun l b hb=>lv l b hb) fun _=>lv l b hb) fun n0=>?_
 refine TI.rQ (fun _=>one _ (by simp)) fun n1=>TI.rQ (fun _=>one _ (by simp)) fun n10=>TI.rQ (fun h12=>?_) fun n12=>TI.rQ (fun _=>one _ (by simp)) fun n16=>?_
 ·obtain⟨s,h6,hev⟩:=aIL (p.f.num (by simpa using h12));refine TI.bind (TI.one (hev.tot (Q:=(· =s)) rfl)) fun y hy=>?_
  subst hy;exact one _ (by omega)
 have fst:∀(t:lH)(k:Int),x.kind=k->k=7\/k=8->t.length<=100->TI (fun(i:IX x) n=>(AU i.1.mR 0).bind fun y=>(ng n [] y t T l b).bind fun x=>some (((x.fst.fst.fst,x.fst.fst.snd.fst,()),x.fst.snd.fst,()),())) (WQ T):=fun t k hk h78 ht=>by
  have hl:=p.f.len hk (by omega);have h0:0<x.mR.length:=by rcases h78 with h|h<;>rw[h]at hl<;>simp only[Yv]at hl<;>omega
  simp only[IX.aqD h0,iO];exact QS (TI.uV (fun i:IX x=>i.WG 0 h0) (axt (p.uV _ (iQ h0) (by omega)) (pq (by simp)) (pq ht) hb))
 have two:∀(s t u v:lH)(k:Int),x.kind=k->k=6\/k=13->s.length<=100->t.length<=100->u.length<=100->v.length<=100->TI (fun(i:IX x) n=>(AU i.1.mR 0).bind fun y=>(lT n s y t T l b).bind fun z=>(AU i.1.mR 1).bind fun y=>(lT n u y v z.fst.fst.fst z.fst.fst.snd.fst z.fst.snd.fst).bind fun x=>some (((x.fst.fst.fst,x.fst.fst.snd.fst,()),x.fst.snd.fst,()),())) (WQ T):=fun s t u v k hk aN9 hs ht hu hv=>by
  have hl:=p.f.len hk (by omega);have h1:1<x.mR.length:=by rcases aN9 with h|h<;>rw[h]at hl<;>simp only[Yv]at hl<;>omega
  have h0:0<x.mR.length:=by omega
  simp only[IX.aqD h0,IX.aCq h1,iO]
  exact TI.w (TI.uV (fun i:IX x=>i.WG 0 h0) (Ig (p.ex _ (iQ h0) (by omega)) (pq hs) (pq ht) hb)) fun l b hb=>
   QS (TI.uV (fun i:IX x=>i.WG 1 h1) (Ig (p.ex _ (iQ h1) (by omega)) (pq hu) (pq hv) hb))
 refine TI.rQ (fun h=>fst _ 7 (by simpa using h) (.inl rfl) (by simp)) fun n7=>TI.rQ (fun h=>fst _ 8 (by simpa using h) (.inr rfl) (by simp)) fun n8=>?_
 refine TI.rQ (fun h=>two _ _ _ _ 6 (by simpa using h) (.inl rfl) (by simp) (by simp) (by simp) (by simp)) fun n6=>TI.rQ (fun h=>two _ _ _ _ 13 (by simpa using h) (.inr rfl) (by simp) (by simp) (by simp) (by simp)) fun n13=>?_
 refine TI.rQ (fun h14=>?_) fun n14=>?_
 ·have h14:x.kind=14:=by simpa using h14
  exact TI.w (VS (pq (by simp)) hb) fun l b hb=>QS (TI.uV (fun i:IX x=>i.ks) (auA (fun y hy=>p.ta y hy h14) kb.1 l b hb))
 ·refine QS (Ig (hs ?_) (pq (by simp)) (pq (by simp)) hb);have e:=p.f;have:=e.lo;have:=e.hi;have:=e.tac;simp only[Sz,j8,beq_iff_eq];simp only[kV]at n0 n1 n10 n12 n16 n7 n8 n6 n13 n14;omega
theorem aFn{x:Syntax}(h2:x.text=[60,124,62]->x.mR.length=2)(h1:x.text=[114,101,112,101,97,116]\/x.text=[97,108,108]->x.mR.length=1)(sm:x.rI<=2097152)
 (ht:∀y∈x.mR,arL x.text=true->D nN T y) (he:∀y∈x.mR,arL x.text=false->D nH T y):D nN T x:=by
 intro l b hb;have hts:=aeP sm;have st:D9 x.text:=by unfold D9;omega
 have kb:x.mR.length<=2097152/\wk (fun m:lH=>m.length+1) x.mZ<=2097152:=by
  rw[Syntax.VR]at sm;have:=FD (bk:=Syntax.rI) (fun y=>by rw[Syntax.VR];omega) x.mR;omega
 refine TI.fn (fun i n=>by simp only[acL,Cz,nj,Ea];exact rfl) ?_;refine TI.rQ (fun _=>wq hb) fun _=>?_
 simp only[IX.text,IX.mZ,IX.len];have d1:decide (x.text.length<=9223372036854775806)=true:=kR (by omega);simp only[d1,kP]
 have rep:x.text=[114,101,112,101,97,116]\/x.text=[97,108,108]->TI (fun(i:IX x) n=>(AU i.1.mR 0).bind fun y=>(mL n (x.text++[32]) y [] T l b).bind fun x=>some (((x.fst.fst.fst,x.fst.fst.snd.fst,()),x.fst.snd.fst,()),())) (WQ T):=fun hr=>by
  have h0:0<x.mR.length:=by have:=h1 hr;omega
  have tt:arL x.text=true:=by rcases hr with h|h<;>rw[h]<;>rfl
  simp only[IX.aqD h0,iO];exact QS (TI.uV (fun i:IX x=>i.WG 0 h0) (ajD (ht _ (iQ h0) tt) (by unfold D9;simp;omega) (pq (by simp)) hb))
 refine TI.rQ (fun h=>?_) fun n1=>TI.rQ (fun h=>?_) fun n2=>TI.rQ (fun h=>?_) fun n3=>TI.rQ (fun h=>rep (.inl (by simpa using h))) fun n4=>TI.rQ (fun h=>rep (.inr (by simpa using h))) fun n5=>?_
 ·have h:=beq_iff_eq.1 h;have hl:=h2 h;have tt:arL x.text=true:=by rw[h];rfl
  have h0:0<x.mR.length:=by omega
  have h1:1<x.mR.length:=by omega
  simp only[IX.aqD h0,IX.aCq h1,iO]
  exact TI.w (TI.uV (fun i:IX x=>i.WG 0 h0) (ht _ (iQ h0) tt l b hb)) fun l b hb=>
   QS (TI.uV (fun i:IX x=>i.WG 1 h1) (ajD (ht _ (iQ h1) tt) (pq (by simp)) (pq (by simp)) hb))
 ·have tt:arL x.text=true:=by rw[beq_iff_eq.1 h];rfl
  exact TI.w (VS (pq (by simp)) hb) fun l b hb=>QS (TI.uV (fun i:IX x=>i.ks) (auA (fun y hy=>ht y hy tt) kb.1 l b hb))
 ·have tt:arL x.text=true:=by rw[beq_iff_eq.1 h];rfl
  exact QS (TI.uV (fun i:IX x=>i.ks) (auA (fun y hy=>ht y hy tt) kb.1 l b hb))
 ·have tt:arL x.text=false:=by simp only[arL,n1,n2,n3,n4,n5,jx]
  have loop:∀(l:Bool)(b:lH),b.length<=65536->TI (fun(i:IX x) n=>ue (lu n) n n i.1.mR x.mR.length 0 T l b) (WQ T):=fun l b hb=>by
   refine TI.Jh (F:=fun(i:IX x) n m=>ue (lu n) n m i.1.mR x.mR.length 0 T l b) ?_;refine If.up (S:=Bool×lH) (L:=fun(i:IX x) n m k s=>ue (lu n) n m i.1.mR x.mR.length k T s.1 s.2) x.mR.length (fun _ s=>s.2.length<=65536) (WQ T) ?_ ?_ 0 (l,b) (by omega) hb
   ·intro k s hi hI next
    obtain⟨l,b⟩:=s;simp only at hI;refine If.lp (fun i n m=>by simp only[LR,yc,nj,JT];exact rfl) ?_;simp only[hi,jr,decide_true,kP,IX.Nu _ hi,iO];rw[mM (by omega)];exact If.w (TI.uV (fun i:IX x=>i.WG k hi) (Ig (he _ (iQ hi) tt) (pq (by simp)) (pq (by simp)) hI)) fun l b hb=>next (l,b) hb
   ·intro s hI;refine If.lp (fun i n m=>by simp only[LR,yc,nj,JT];exact rfl) ?_;simp only[ji,decide_false,kQ];exact If.of1 (wq hI)
  have jn:∀(ss:List lH),wk (fun s:lH=>s.length+1) ss<=8388608->TI (fun(i:IX x) n=>(strings_Join n ss [32]).bind fun y=>(nU n [y] T l b).bind fun z=>ue (lu n) n n i.1.mR x.mR.length 0 z.fst.fst.fst z.fst.fst.snd.fst z.fst.snd.fst) (WQ T):=fun ss hss=>by
   have hj:(jl ss [32]).length<=wk (fun s:lH=>s.length+1) ss:=al0 [32] ss;have hl:=FD (bk:=fun s:lH=>s.length+1) (fun _=>j6 _ _) ss;refine TI.bind (TI.one ((auw ss [32] (by omega) (by omega)).tot (Q:=(· =jl ss [32])) rfl)) fun y hy=>?_
   subst hy;exact TI.w (VS (by unfold D9;omega) hb) fun l b hb=>loop l b hb
  have nl:=FD (bk:=fun s:lH=>s.length+1) (fun _=>j6 _ _) x.mZ;have d2:decide ((1+x.mZ.length)*16<=17592186044416)=true:=kR (by omega);simp only[d2,kP];exact TI.rQ (fun _=>jn _ (by simp only[wk];omega)) fun _=>jn _ (by simp only[wk];omega)
end
end Go.Abs
end
