/- A part of the proof: plain facts. -/
import Derived.Test.YtdkeelhebopgkaaGreatDoorLawA
import Derived.Test.YtdkeelhebopgkaaGreatDoorReadA
import Derived.Test.YtdkeelhebopgkaaGreatDoorLawB
set_option linter.all false
open Option renaming bind_some→jy
open List renaming drop_eq_getElem_cons→jz,drop_eq_nil_of_le→jC,getElem_mem→jD,drop_zero→jF,contains_eq_any_beq→jG,length_drop→jH,length_singleton→jI
open Int renaming natCast_nonneg→jA,le_refl→jB
open Nat renaming le_refl→jE,zero_le→jJ
noncomputable section
namespace Go.Abs
variable {c:Cmd}{Z:Cx}{lH out:List Str}{l r:List Syntax}{a i:Nat}{o:Out}{R:Type}{Q:R->Prop}{s:Str}{n:jV}
def anN(out:List Str)(s:Str):List Str:=bif s==[]||out.contains s then out else out++[s]
def Uz(out:List Str)(ps:List Str):List Str:=ps.foldl anN out
def wu(out:List Str)(T:List jV):List Str:=T.foldl (fun out n=>Uz out n.parts) out
def VN(T:List jV):Nat:=(T.map fun n=>n.parts.length).sum
theorem ad9:∀(ps:List Str)(out:List Str),(Uz out ps).length<=out.length+ps.length
 |[],out=>jE _
 |s::ps,out=>by
  have h1:=ad9 ps (anN out s)
  grind [Uz,anN]
theorem aJ7(xs:List Str)(s:Str)(hl:xs.length<=4000000):∀f,xs.length+2<=f->adR f xs s=some (xs.contains s):=by
 have key:∀(f d i:Nat),i+d=xs.length->∀k,d<k->Qf f k xs s (i:Int)=some ((xs.drop i).contains s):=by
  intro f d;induction d with
  |zero=>
   intro i hi k hk;obtain⟨k,rfl⟩:∃k',k=k'+1:=⟨k-1,by omega⟩;simp only[abR,KR,mB]
   grind
  |succ d ih=>
   intro i hi k hk;obtain⟨k,rfl⟩:∃k',k=k'+1:=⟨k-1,by omega⟩;have me:i<xs.length:=by omega
   simp only[abR,KR,nA me,jy,mB];rw[jM (show(i:Int)<(xs.length:Int) by omega),jK,jz me,List.contains_cons,kM (by omega)]
   grind
 intro f hf;obtain⟨f,rfl⟩:∃f',f=f'+1:=⟨f-1,by omega⟩;simp only[adR,abS,mB];have:=key f xs.length 0 (by omega) f (by omega)
 rwa [jF]at this
theorem aFQ(f:Nat)(X:List jV->Int->List Str->Option (List Str))(T:List jV)(i:Nat)(hi:i<T.length)(hl:T[i].parts.length<=1048640)(hT:T.length<=1048641)(hf:4000003<=f):
 ∀d j:Nat,∀out:List Str,j+d=T[i].parts.length->out.length+d<=4000000->∀k,d<k->CG f X k T (i:Int) (j:Int) out=X T ((i+1:Nat):Int) (Uz out (T[i].parts.drop j)):=by
 intro d;induction d with
 |zero=>
  intro j out hj ho k hk;obtain⟨k,rfl⟩:∃k',k=k'+1:=⟨k-1,by omega⟩;simp only[Q2,CF,nA hi,jy,mB];rw[jN (show ¬ (j:Int)<(T[i].parts.length:Int) by omega),jL,kM (by omega),jC (by omega)];rfl
 |succ d ih=>
  intro j out hj ho k hk;obtain⟨k,rfl⟩:∃k',k=k'+1:=⟨k-1,by omega⟩;have hjl:j<T[i].parts.length:=by omega
  simp only[Q2,CF,nA hi,jy,nA hjl,mB];rw[jM (show(j:Int)<(T[i].parts.length:Int) by omega),jK,kM (by omega),jz hjl];show _=X T _ (Uz (anN out T[i].parts[j]) (T[i].parts.drop (j+1)));unfold anN;cases T[i].parts[j]==[]with
  |true=>rw[jK,Bool.true_or,jK];exact ih (j+1) out (by omega) (by omega) k (by omega)
  |false=>
   rw[jL,Bool.false_or,aJ7 out _ (by omega) f (by omega),jy];cases out.contains T[i].parts[j]with
   |true=>rw[jK,jK];exact ih (j+1) out (by omega) (by omega) k (by omega)
   |false=>
    rw[jL,jL,jM (show(out.length+1)*16<=17592186044416 by omega),jK];exact ih (j+1) _ (by omega) (by grind) k (by omega)
theorem UA(n:jV)(T:List jV):VN (n::T)=n.parts.length+VN T:=by grind [VN]
theorem aC8(T:List jV)(hT:T.length<=cap)(hN:∀n∈T,Nsm n)(hp:VN T<=cap):Ev (fun f=>NJ f T) (wu [] T):=by
 simp only[cap]at hT hp;refine Ev.fn (fun n=>by simp only[NJ,kD,Pe,mB];exact rfl) ?_
 have key:∀(d i:Nat)(out:List Str),i+d=T.length->out.length+VN (T.drop i)<=2000000->kZ (fun f m=>CJ f m T (i:Int) out) (wu out (T.drop i)):=by
  intro d;induction d with
  |zero=>
   intro i out hi ho;refine kZ.lp (fun n m=>by simp only[Q3,CH];exact rfl) ?_;have:decide ((i:Int)<(T.length:Int))=false:=jN (by omega);simp only[this,jL,jC (show T.length<=i by omega)];exact kZ.pure
  |succ d ih=>
   intro i out hi ho;have me:i<T.length:=by omega
   have hs:=(hN _ (jD me)).len;simp only[cap]at hs;rw[jz me,UA]at ho;refine kZ.lp (fun n m=>by simp only[Q3,CH];exact rfl) ?_;have:decide ((i:Int)<(T.length:Int))=true:=jM (by omega);simp only[this,jK];have hlen:=ad9 T[i].parts out;obtain⟨N,hN'⟩:=ih (i+1) (Uz out T[i].parts) (by omega) (by omega);refine⟨max N 6000000,fun f m hf hm=>?_⟩;show CG f (CJ f m) f T (i:Int) ((0:Nat):Int) out=_;rw[aFQ f _ T i me hs (by omega) (by omega) T[i].parts.length 0 out (by omega) (by omega) f (by omega),jF,jz me];exact hN' f m (by omega) (by omega)
 have:=key T.length 0 [] (by omega) (by grind)
 grind [Ev.yn]
def Met(m:List (Str×Bool))(out:List Str):Prop:=∀s,(oa s m).getD false=(s==[]||out.contains s)
theorem Met.ins{m:List (Str×Bool)}(h:Met m out)(hs:(oa s m).getD false=false):Met (AF s true m) (out++[s]):=by
 intro t;rw[Nv,jG,List.any_append,<-jG,List.any_cons,List.any_nil,Bool.or_false];cases hts:t==s with
 |true=>simp
 |false=>rw[jL,h t,Bool.or_false]
theorem aFR(f:Nat)(X:List jV->Int->Int->List (Str×Bool)->List Str->Option (List Str))(T:List jV)(tl:Int)(i:Nat)(parts:List Str)(hl:parts.length<=1048640)(hi:i<=1048641)(R:Option (List Str)):
 ∀d j:Nat,∀(m:List (Str×Bool))(out:List Str),j+d=parts.length->out.length+d<=4000000->Met m out->(∀m',Met m' (Uz out (parts.drop j))->X T tl ((i+1:Nat):Int) m' (Uz out (parts.drop j))=R)->∀k,d<k->
  BM f X k T tl (i:Int) parts (parts.length:Int) (j:Int) m out=R:=by
 intro d;induction d with
 |zero=>
  intro j m out hj ho hm hX k hk;obtain⟨k,rfl⟩:∃k',k=k'+1:=⟨k-1,by omega⟩;simp only[Mg,yt,mB];rw[jN (show ¬ (j:Int)<(parts.length:Int) by omega),jL,kM (by omega)];rw[jC (by omega)]at hX;exact hX m hm
 |succ d ih=>
  intro j m out hj ho hm hX k hk;obtain⟨k,rfl⟩:∃k',k=k'+1:=⟨k-1,by omega⟩;have hjl:j<parts.length:=by omega
  simp only[Mg,yt,nA hjl,jy,mB];rw[jM (show(j:Int)<(parts.length:Int) by omega),jK,kM (by omega)];rw[jz hjl]at hX;have hX:∀m',Met m' (Uz (anN out parts[j]) (parts.drop (j+1)))->X T tl ((i+1:Nat):Int) m' (Uz (anN out parts[j]) (parts.drop (j+1)))=R:=hX;unfold anN at hX;rw[hm];cases hq:parts[j]==[]||out.contains parts[j]with
  |true=>
   rw[hq]at hX;rw[jK];exact ih (j+1) m out (by omega) (by omega) hm hX k (by omega)
  |false=>
   rw[hq]at hX;rw[jL,jM (show(out.length+1)*16<=17592186044416 by omega),jK];exact ih (j+1) _ _ (by omega) (by grind) (hm.ins (by rw[hm];exact hq)) hX k (by omega)
theorem aC9(T:List jV)(hT:T.length<=cap)(hN:∀n∈T,Nsm n)(hp:VN T<=cap):Ev (fun f=>Cm f T) (wu [] T):=by
 simp only[cap]at hT hp;refine Ev.fn (fun n=>by simp only[Cm,kD,IW,mB];exact rfl) ?_
 have key:∀(d i:Nat)(out:List Str),i+d=T.length->out.length+VN (T.drop i)<=2000000->∃N,∀f m,N<=f->N<=m->∀mt,Met mt out->BN f m T (T.length:Int) (i:Int) mt out=some (wu out (T.drop i)):=by
  intro d;induction d with
  |zero=>
   intro i out hi ho;refine⟨1,fun f m hf hm mt hmt=>?_⟩;obtain⟨m,rfl⟩:∃m',m=m'+1:=⟨m-1,by omega⟩;simp only[Mh,yu];rw[jN (show ¬ (i:Int)<(T.length:Int) by omega),jL,jC (by omega)];rfl
  |succ d ih=>
   intro i out hi ho;have me:i<T.length:=by omega
   have hs:=(hN _ (jD me)).len;simp only[cap]at hs;rw[jz me,UA]at ho;have hlen:=ad9 T[i].parts out;obtain⟨N,hN'⟩:=ih (i+1) (Uz out T[i].parts) (by omega) (by omega);refine⟨max (N+1) 6000000,fun f m hf hm mt hmt=>?_⟩;obtain⟨m,rfl⟩:∃m',m=m'+1:=⟨m-1,by omega⟩;simp only[Mh,yu,nA me,jy];rw[jM (show(i:Int)<(T.length:Int) by omega),jK,jz me];refine aFR f _ T _ i T[i].parts hs (by omega) _ T[i].parts.length 0 mt out (by omega) (by omega) hmt (fun m' hm'=>?_) f (by omega);rw[jF]at hm' ⊢;exact hN' f m (by omega) (by omega) m' hm'
 obtain⟨N,hN'⟩:=key T.length 0 [] (by omega) (by grind);rw[jF]at hN';refine⟨N,fun n hn=>hN' n n hn hn _ fun s=>?_⟩;rw[Nv];cases s==[]<;>rfl
theorem ap6:∀(T:List jV)(out:List Str),(wu out T).length<=out.length+VN T
 |[],out=>jE _
 |n::T,out=>by
  have h1:=ap6 T (Uz out n.parts)
  grind [ad9,wu,UA]
theorem aDa {x:Str}(h:x∈anN out s):x∈out\/(x=s/\s≠[]):=by
 grind [anN]
theorem ap7:∀{ps out:List Str}{x:Str},x∈Uz out ps->x∈out\/(x∈ps/\x≠[])
 |[],out,x,h=>.inl h
 |s::ps,out,x,h=>by
  rcases ap7 (ps:=ps) (out:=anN out s) h with h|⟨h,h2⟩
  all_goals grind [aDa]
theorem ajN:∀{T:List jV}{out:List Str}{x:Str},x∈wu out T->x∈out\/∃n∈T,x∈n.parts/\x≠[]
 |[],out,x,h=>.inl h
 |n::T,out,x,h=>by
  rcases ajN (T:=T) (out:=Uz out n.parts) h with h|⟨m,hm,h⟩
  all_goals grind [ap7]
theorem aAq(h:CY n=0):∀s∈n.parts,s=[]\/RO s=true:=by
 grind [CY]
theorem alD{T:List jV}(g:TOk T):(wu [] T).all RO=true:=by
 rw[List.all_eq_true];intro x hx;rcases ajN hx with h|⟨n,hn,h1,h2⟩
 ·cases h
 ·exact(aAq (g.chk n hn) x h1).resolve_left h2
set_option maxRecDepth 100000
theorem aFS(k:Nat):Ke (k+300)=some true:=jR
theorem ava:Ev (fun n=>Ke n) true:=by
 refine⟨300,fun n hn=>?_⟩;obtain⟨k,rfl⟩:∃k,n=k+300:=⟨n-300,by omega⟩;exact aFS k
theorem aAr:Ev (fun n=>(Ke n).bind fun x=>some x) true:=Ev.bind ava Ev.pure
theorem avb{F:Nat->Option Bool}(h:Ev F true):∃n,F n=some true:=by
 obtain⟨N,hN⟩:=h;exact⟨N,hN N (jE _)⟩
theorem kF.big{F G:Nat->Nat->Option R}(N:Nat)(h:∀n m,N<=n->F n m=G n m)(hg:kF G Q):kF F Q:=by
 obtain⟨r,hr,M,hM⟩:=hg;exact⟨r,hr,max N M,fun n m h1 h2=>by grind⟩
structure aFT(T:List jV):Prop where
 len:T.length<=8
 small:∀n∈T,n.parts.length<=8/\n.target.length<=80/\∀s∈n.parts,s.length<=20
 tab:agR T=true
theorem aH3(n:Nat)(X:List jV->Int->Option Bool)(T:List jV)(i:Nat)(hi:i<T.length)(hl:i<100)(hp:T[i].parts.length<=8):∀d k p:Nat,k+d=T[i].parts.length->d<p->
 Ql n X p T (i:Int) (k:Int)=bif (T[i].parts.drop k).any (fun s=>decide (20<s.length))then some false else X T ((i+1:Nat):Int):=by
 intro d;induction d with
 |zero=>
  intro k p hk hp';obtain⟨p,rfl⟩:∃q,p=q+1:=⟨p-1,by omega⟩;simp only[acZ,LA,nA hi,jy,mB]
  grind [kM]
 |succ d ih=>
  intro k p hk hp';obtain⟨p,rfl⟩:∃q,p=q+1:=⟨p-1,by omega⟩;have hkl:k<T[i].parts.length:=by omega
  simp only[acZ,LA,nA hi,jy,nA hkl,mB];rw[jM (show(k:Int)<(T[i].parts.length:Int) by omega),jK,kM (by omega),jz hkl,List.any_cons];have e:decide ((20:Int)<(T[i].parts[k].length:Int))=decide (20<T[i].parts[k].length):=decide_eq_decide.2 (by omega);rw[e];cases decide (20<T[i].parts[k].length)with
  |true=>rfl
  |false=>grind
theorem aFU{T:List jV}(hl:T.length<=cap)(h:∀n∈T,Nsm n):k8 (fun f=>adW f T) (fun b=>b=true->aFT T):=by
 have hl':=hl;simp only[cap]at hl
 have uA:∀i,(i=T.length\/i=10)->(∀j (hj:j<T.length),j<i->T[j].parts.length<=8/\T[j].target.length<=80/\∀s∈T[j].parts,s.length<=20)->
  kF (fun f _=>bif decide ((T.length:Int)<=8)then(JQ f T).bind fun x=>some x else some false) (fun b=>b=true->aFT T):=by
  intro i hi hs;refine kF.C4 (fun h8=>?_) fun _=>kF.pure fun h=>by cases h
  have h8:=jO h8;refine kF.lQ (Ev.Uu (Q:=(· =agR T)) (ajC hl' h) rfl) fun b hb=>kF.pure fun hb2=>?_
  subst hb;refine⟨by omega,fun n hn=>?_,hb2⟩
  grind [List.getElem_of_mem]
 have key:∀d i:Nat,i+d=10->i<=T.length->(∀j (hj:j<T.length),j<i->T[j].parts.length<=8/\T[j].target.length<=80/\∀s∈T[j].parts,s.length<=20)->
  kF (fun f m=>GK f m T (i:Int)) (fun b=>b=true->aFT T):=by
  intro d;induction d with
  |zero=>
   intro i hi hle hs;refine kF.lp (fun n m=>by simp only[ac0,LC];exact rfl) ?_;have e:decide ((i:Int)<10)=false:=jN (by omega);simp only[e,jL];cases decide ((i:Int)<(T.length:Int))with
   |true=>exact uA i (.inr (by omega)) hs
   |false=>exact uA i (.inr (by omega)) hs
  |succ d ih=>
   intro i hi hle hs;refine kF.lp (fun n m=>by simp only[ac0,LC];exact rfl) ?_;by_cases me:i<T.length
   ·have e1:decide ((i:Int)<(T.length:Int))=true:=jM (by omega);have e2:decide ((i:Int)<10)=true:=jM (by omega);simp only[e1,e2,jK,nA me,jy];refine kF.C4 (fun _=>kF.pure fun h=>by cases h) fun h8=>kF.C4 (fun _=>kF.pure fun h=>by cases h) fun h80=>?_
    have h8:=of_decide_eq_false h8;have h80:=of_decide_eq_false h80;refine kF.big (G:=fun f m=>bif (T[i].parts.drop 0).any (fun s=>decide (20<s.length))then some false else GK f m T ((i+1:Nat):Int)) 20 (fun n m hn=>aH3 n _ T i me (by omega) (by omega) T[i].parts.length 0 n (by omega) (by omega)) ?_;refine kF.C4 (fun _=>kF.pure fun h=>by cases h) fun h20=>ih (i+1) (by omega) (by omega) fun j hj hji=>?_
    grind
   ·have e1:decide ((i:Int)<(T.length:Int))=false:=jN (by omega);simp only[e1,jL];exact uA i (.inl (by omega)) hs
 refine k8.fn (fun n=>by simp only[adW,kD,ac1,mB];exact rfl) ?_;exact k8.yn (F:=fun f m=>GK f m T 0) (key 10 0 rfl (jJ _) fun j _ hj=>by omega)
theorem avc{f t:Int}(hft:f<=t):∀(l:List Syntax)(o:Syntax),Rg o->o.k9=f->o.to=t->(∀x∈l,Rg x/\f<=x.k9/\x.to<=t)->Rg (ano o l f t)
 |[],o,h,_,_,_=>h
 |x::l,o,h,h1,h2,hl=>by
  obtain⟨k1,k2,k3⟩:=hl x (by simp);exact avc hft l (aHM o x f t) (.two h k1 (by omega) (by omega) k2 k3) rfl rfl fun y hy=>hl y (by simp [hy])
theorem ap8{f t:Int}(hft:f<=t)(hl:∀x∈l,Rg x/\f<=x.k9/\x.to<=t):Rg (Zv n l f t):=
 avc hft l _ (.anz (by decide) hft) rfl rfl hl
def CI:Cmd->Out->Prop
 |.parts n ps i ky e r,.ky l e' q=>∀lo m hi,lo<=m->m<=hi->Chn m hi r->(∀x∈ky,Rg x/\lo<=x.k9/\x.to<=m)->(ps=[]->e=m)->(∀x∈l,Rg x/\lo<=x.k9/\x.to<=e')/\lo<=e'/\e'<=hi/\Chn e' hi q
 |.first _ r,.val x _ q=>∀a hi,Chn a hi r->Rg x/\a<=x.k9/\x.to<=hi/\Chn x.to hi q
 |.mY _ r,.val x _ q=>∀a hi,Chn a hi r->Rg x/\a<=x.k9/\x.to<=hi/\Chn x.to hi q
 |.loop _ out _ r,.val x _ q=>∀a hi,Rg out->a<=out.k9->out.to<=hi->Chn out.to hi r->Rg x/\a<=x.k9/\x.to<=hi/\Chn x.to hi q
 |_,_=>True
theorem Nt.chn{T:List jV}(g:TOk T)(h:Nt T c o):CI c o:=by
 induction h with
 |adw=>intro lo m hi h1 h2 h3 h4 h5;grind
 | @Cj n ps i ky e r x h q o h1 h2 ih1 ih2=>
   rcases ad3 h2 with⟨q',rfl⟩|⟨l,e',q',rfl⟩
   ·trivial
   ·intro lo m hi k1 k2 k3 k4 _;obtain⟨a1,a2,a3,a4⟩:=ih1 m hi k3;have:=a1.le;refine ih2 lo x.to hi (by omega) a3 a4 (fun y hy=>?_) fun _=>rfl
    grind
 | @tX n s ps i ky e y r o hs h1 h2 h3 ih=>
   rcases ad3 h3 with⟨q',rfl⟩|⟨l,e',q',rfl⟩
   ·trivial
   ·intro lo m hi k1 k2 k3 k4 _;cases k3 with
    |cons a1 a2 a3 a4=>
     have:=a2.le;exact ih lo y.to hi (by omega) a3 a4 (fun z hz=>by grind) fun _=>rfl
 |Xy hx=>
  intro a hi k;cases k with
  |cons a1 a2 a3 a4=>exact⟨a2,a1,a3,a4⟩
 | @first m x r n l e q hx hb h1 ih=>
   intro a hi k;cases k with
   |cons a1 a2 a3 a4=>
    have hle:=a2.le
    obtain⟨c1,c2,c3,c4⟩:=ih x.k9 x.k9 hi (jB _) (by omega) (.cons (jB _) a2 a3 a4) (fun y hy=>by cases hy) fun e=>by
     have:=(g.ok (Qs hb).1).pos
     grind
    grind [ap8,afX]
 |stop _=>intro a hi h1 h2 h3 h4;exact⟨h1,h2,h3,h4⟩
 | @go m out has r n l e q o hg h1 h2 ih1 ih2=>
   rcases Qn h2 rfl with⟨q',rfl⟩|⟨x,h,q',rfl⟩
   ·trivial
   ·intro a hi k1 k2 k3 k4;obtain⟨hn,hl,_⟩:=Qt hg;have hle:=k1.le;obtain⟨c1,c2,c3,c4⟩:=ih1 out.k9 out.to hi hle k3 k4 (fun y hy=>by grind) fun e=>absurd e (aCw g hn hl)
    refine ih2 a hi (ap8 c2 c1) ?_ ?_ ?_
    all_goals grind [afX]
 | @mY m r x h q o h1 h2 ih1 ih2=>
   rcases Qn h2 rfl with⟨q',rfl⟩|⟨x',h',q',rfl⟩
   ·trivial
   ·intro a hi k;obtain⟨c1,c2,c3,c4⟩:=ih1 a hi k;exact ih2 a hi c1 c2 c3 c4
 |_=>trivial
def hdS(lH:List Str)(s:Str)(a:Nat):List kH×Int×Int:=ZD (tO lH) (s.drop (n7 false s)) (a+n7 false s)
theorem avd(hs:lH.all RO=true)(h:s.length<=65536):BH lH s=hdS lH s 0:=by
 grind [BH,hdS]
theorem aH4(h:(hdS lH s a).2.2=0):TkL (a+s.length) (a+n7 false s) (hdS lH s a).1:=by
 have:=aJ0 h;have hs:=Gm false s;rw[jH,show a+n7 false s+(s.length-n7 false s)=a+s.length by omega]at this;exact this
theorem TkL.HJ {e:Nat}(h:TkL e a Z.T)(he:e<=70000)(hb:0<=Z.b/\Z.b<=100000):ny Z:=by
 have hl:=h.le;refine⟨h.pos,by omega,hb,fun t ht=>?_,fun t ht hk=>((h.mem t ht).2.2 hk).1⟩;obtain⟨h1,h2,_⟩:=h.mem t ht;omega
theorem aH5(hi:i<Z.T.length):Z.S.F i=Z.b+Z.T[i].nE:=by simp [Cx.S,hi]
theorem aH6(hi:i<Z.T.length):Z.S.E (i+1)=Z.b+(Z.T[i].nE+(Z.T[i].text.length:Int)):=by simp [Cx.S,hi]
theorem TkL.sok {e:Nat}(h:TkL e a Z.T):OY Z.S where
 last:=fun i hi hk=>by
  have hi:i<Z.T.length:=hi;rw[Gp hi]at hk;show i+1<Z.T.length;rcases Nat.lt_or_ge (i+1) Z.T.length with h1|h1
  ·exact h1
  ·have:=h.aLl i hi (by omega)
   grind
 num:=fun i hi hk=>by
  have hi:i<Z.T.length:=hi;rw[Gp hi]at hk ⊢;exact((h.mem _ (jD hi)).2.2 hk).1.2
theorem TkL.aH7 {e:Nat}(h:TkL e a Z.T):Pos Z.S where
 ef:=fun i hi=>by
  have hi:i<Z.T.length:=hi;rw[aH5 hi]
  match i with
  |0=>
   have:=(h.mem _ (jD hi)).1;show Z.b<=_;omega
  |i+1=>
   rw[aH6 (by omega)];have:=(h.next i hi).1;omega
 fe:=fun i hi=>by
  have hi:i+1<Z.T.length:=hi;rw[aH5 (by omega),aH6 (by omega)];omega
def npT(T:List jV)(l:List Syntax):Syntax×Int×Int:= @dite _ (∃o,Nt T (.mY 0 l) o) (Classical.propDecidable _) (fun h=>pT l (Classical.choose h)) fun _=>(Zz,0,3)
def Zc(T:List jV)(s:Str):Cx:={T:=(BH (wu [] T) s).1,b:=0,tb:=T,sy:=wu [] T,np:=npT T}
structure anO(T:List jV):Prop where
 few:aFT T
 nsm:∀n∈T,Nsm n
namespace anO
variable {T:List jV} (g:anO T)
include g
theorem aFV:T.length<=cap:=by have:=g.few.len;simp [cap];omega
theorem ok:TOk T:=TOk.of g.few.tab
theorem arT:VN T<=8*T.length:=by
 have:∀aLK:List jV,(∀n∈aLK,n.parts.length<=8)->VN aLK<=8*aLK.length:=by
  intro aLK;induction aLK with
  |nil=>intro _;exact jE _
  |cons n aLK ih=>
   grind [UA]
 exact this T fun n hn=>(g.few.small n hn).1
theorem aiI:(wu [] T).length<=64:=by
 have h1:=ap6 T [];have h2:=g.arT;have h3:=g.few.len;rw[List.length_nil]at h1;omega
theorem ayE:∀y∈wu [] T,y.length<=20:=by
 intro y hy;rcases ajN hy with h|⟨n,hn,h1,_⟩
 ·cases h
 ·exact(g.few.small n hn).2.2 y h1
theorem ayF:Ev (fun f=>Cm f T) (wu [] T):=by
 have h2:=g.arT;have h3:=g.few.len;exact aC9 T g.aFV g.nsm (by simp [cap];omega)
theorem npR:∃o,Nt T (.mY 0 l) o/\npT T l=pT l o:=by
 obtain⟨o,ho,_⟩:=Nt.aJN g.ok l.length 0 l (jE _);have h:∃o,Nt T (.mY 0 l) o:=⟨o,ho⟩
 grind [npT]
theorem aLn(hl:l.length<=200)(ho:Nt T (.mY 0 l) o):Ev (fun n=>wi n T l) (pT l o):=
 axg g.aFV g.nsm (by simp [cap];omega) g.few.tab (by omega) ho
omit g in
theorem aAs(ho:Nt T (.mY 0 l) o)(h:(pT l o).2.2=0):∃x hh,o=.val x hh []/\pT l o=(x,0,0):=by
 rcases Qn ho rfl with⟨q,rfl⟩|⟨x,hh,q,rfl⟩
 ·exact absurd h (by simp [pT])
 ·cases q with
  |nil=>exact⟨x,hh,rfl,rfl⟩
  |cons y q=>exact absurd h (by simp [pT])
theorem aJ8(s:Str):aAk (Zc T s):=by
 intro l _ hl;obtain⟨o,ho,e⟩:=g.npR (l:=l);have e:(Zc T s).np l=pT l o:=e;rw[e];refine⟨g.aLn hl ho,?_⟩;rcases Qn ho rfl with⟨q,rfl⟩|⟨x,hh,q,rfl⟩
 ·exact jA _
 ·cases q with
  |nil=>exact jB _
  |cons y q=>exact jA _
theorem aDb(s:Str):aiF (Zc T s).S:=by
 intro l a b _ hc h0;obtain⟨o,ho,e⟩:=g.npR (l:=l);have e:(Zc T s).S.np l=pT l o:=e;rw[e]at h0 ⊢;obtain⟨x,hh,rfl,e2⟩:=aAs ho h0;obtain⟨c1,c2,c3,_⟩:=(ho.chn g.ok:CI (.mY 0 l) (.val x hh [])) a b hc;exact⟨c1,c2,c3⟩
theorem aFW(hs:s.length<=65536):Ev (fun n=>Rp n s (wu [] T)) (BH (wu [] T) s):=
 aFF s (by simp [Nq];omega) _ (by have:=g.aiI;omega) fun y hy=>by have:=g.ayE y hy;simp [Nq];omega
theorem tk(hs:s.length<=65536)(h:(BH (wu [] T) s).2.2=0):TkL s.length (n7 false s) (Zc T s).T:=by
 rw[avd (alD g.ok) (by omega)]at h;have:=aH4 h;rw[Nat.zero_add,Nat.zero_add]at this;show TkL _ _ (BH (wu [] T) s).1;rw[avd (alD g.ok) (by omega)];exact this
theorem aDc(hs:s.length<=65536)(h:((BH (wu [] T) s).2.2==0)=false):0<=(BH (wu [] T) s).2.1/\(BH (wu [] T) s).2.1<=(s.length:Int):=by
 rw[aFI (alD g.ok) (by omega)]at h ⊢;obtain⟨f,s1,s2,s3⟩:=Jd false s;obtain⟨_,h1,h2⟩:=auW (aAb (alD g.ok) (w:=10) rfl) [] _ _ h s3;rw[jH]at h2;omega
end anO
def aag(T:List jV)(s:Str):Syntax×Int×Int:=
 bif (BH (wu [] T) s).2.2==0 then(match (Zc T s).S.whole with|.ok x _=>(x,0,0)|.er e a=>(Zz,a,e))else(Zz,(BH (wu [] T) s).2.1,(BH (wu [] T) s).2.2)
theorem aFX{T:List jV}(g:anO T)(hs:s.length<=65536):Ev (fun n=>OV n s T) (aag T s):=by
 refine k8.ev ?_;refine k8.fn (fun n=>by simp only[OV,kD,VJ,yp];exact rfl) ?_;have e0:decide ((65536:Int)<(s.length:Int))=false:=jN (by omega);simp only[e0,jL]
 have hnr:∀sc,BH (wu [] T) s=sc->Ev (fun n=>GJ n s 0 (s.length:Int) (wu [] T)) (bif sc.2.2==0 then .ok ((),{Ey:=sc.1,next:=0,base:=0},())else .pn ((),{e:=sc.2.2,nE:=IntKind.i64.wrap (0+sc.2.1)},())):=by
  intro sc hsc;refine Ev.fn (fun n=>by simp only[GJ,kD,I8,Al];exact rfl) ?_;have e1:decide ((0:Int)<=0/\(0:Int)<=(s.length:Int)/\(s.length:Int)<=(s.length:Int))=true:=jM ⟨jB _,jA _,jB _⟩;simp only[e1,jK,Int.toNat_natCast,List.take_length,Int.toNat_zero,jF];refine Ev.bind (g.aFW hs) ?_
  grind [Ev.pure]
 have hnr:=hnr _ rfl;unfold aag;cases he:(BH (wu [] T) s).2.2==0 with
 |false=>
  rw[he,jL]at hnr;have hb:=g.aDc hs he;rw[Int.zero_add,lj (by omega) (by omega)]at hnr
  have hnp:Ev (fun n=>zr n s 0 (s.length:Int) T) (.pn ((),{e:=(BH (wu [] T) s).2.2,nE:=(BH (wu [] T) s).2.1},())):=by
   refine Ev.fn (fun n=>by simp only[zr,kD,DQ,Al];exact rfl) ?_;exact Ev.bind g.ayF (Ev.bind hnr Ev.pure)
  refine Ev.to hnp ?_;simp only[EZ,jL];refine Ev.Uu (Ev.bind (x:=(((Zz,()),((BH (wu [] T) s).2.1,()),((BH (wu [] T) s).2.2,()),()),())) ?_ Ev.pure) rfl;refine Ev.fn (fun n=>by simp only[tE,kD,Dt,mB];exact rfl) ?_;refine Ev.bind (x:=((),{e:=(BH (wu [] T) s).2.2,nE:=(BH (wu [] T) s).2.1},())) ?_ Ev.pure;refine Ev.fn (fun n=>by simp only[NE,kD,Iy,mC];exact rfl) ?_;exact Ev.pure
 |true=>
  rw[he,jK]at hnr
  have hnp:Ev (fun n=>zr n s 0 (s.length:Int) T) (.ok ((((Zc T s).st 0 0,()),()),())):=by
   refine Ev.fn (fun n=>by simp only[zr,kD,DQ,Al];exact rfl) ?_;exact Ev.bind g.ayF (Ev.bind hnr Ev.pure)
  refine Ev.to hnp ?_;simp only[EZ,jK];have ht:=g.tk hs (beq_iff_eq.1 he);have hlen:=g.aiI;exact aAm (ht.HJ (by omega) ⟨jB _,by show(0:Int)<=100000;decide⟩) ht.sok ht.aH7 (g.aDb s) (fun y=>aki (wu [] T) y (by simp only[cap];omega)) (g.aJ8 s)
theorem R1(k:Ok n)(hi:i<n.parts.length):Ev (fun f=>Q4 f n (i:Int)) (RR n i):=by
 refine Ev.fn (fun n=>by simp only[Q4,kD,Yy,mB];exact rfl) ?_;have hp:=k.pos;refine Ev.bind (Fe hp).2 ?_;unfold RR arA;have e2:IntKind.i64.wrap ((n.parts.length:Int)-1)=((n.parts.length-1:Nat):Int):=Xz hp k.Nq;have e3:IntKind.i64.wrap (n.mY+1)=n.mY+1:=lj (by have:=k.lo;omega) (by have:=k.hi;omega);simp only[alv,aix,e2,nat_eq,e3]
 have cs:(decide (0<i)= !decide (i=0))/\(decide (i<n.parts.length-1)= !decide (i=n.parts.length-1)):=by
  constructor
  ·rw[<-decide_not];exact decide_eq_decide.2 (by omega)
  ·rw[<-decide_not];exact decide_eq_decide.2 (by omega)
 rw[cs.1,cs.2];cases Kl n with
 |false=>
  simp only[jL,Bool.false_and,Bool.or_self];refine Ev.congr Ev.pure (fun _=>?_);cases decide (i=0)<;>cases decide (i=n.parts.length-1)<;>rfl
 |true=>
  simp only[jK,Bool.true_and];refine Ev.bind (w9 hp k.Nq).2 ?_;refine Ev.congr Ev.pure (fun _=>?_);rw[bne,bne];cases decide (i=0)<;>cases decide (i=n.parts.length-1)<;>cases rgt n<;>cases n.Ck==1<;>cases n.Ck==2<;>rfl
theorem XD{T:List jV}(g:TOk T)(s:Str)(c:Bool):k8 (fun f=>Nl f T s c) (fun r=>match vo T s c with|some n=>r=(n,true)|none=>r.2=false):=by
 refine k8.fn (fun n=>by simp only[Nl,kD,YH,mB];exact rfl) ?_;have hT:=g.len;refine k8.yn (F:=fun f m=>H9 f m T s c 0) ?_
 have key:∀d i:Nat,i+d=T.length->kF (fun f m=>H9 f m T s c (i:Int)) (fun r=>match vo (T.drop i) s c with|some n=>r=(n,true)|none=>r.2=false):=by
  intro d;induction d with
  |zero=>
   intro i hi;refine kF.lp (fun n m=>by simp only[ZX,H8,mB];exact rfl) ?_;have:decide ((i:Int)<(T.length:Int))=false:=jN (by omega);simp only[this,jL,jC (show T.length<=i by omega)];exact kF.pure rfl
  |succ d ih=>
   intro i hi;have me:i<T.length:=by omega
   have kn:=g.ok (jD me);refine kF.lp (fun n m=>by simp only[ZX,H8,mB];exact rfl) ?_;have:decide ((i:Int)<(T.length:Int))=true:=jM (by omega);simp only[this,jK];refine kF.Eu me ?_;have next:=ih (i+1) (by omega)
   rw[<-kM (by omega)]at next
   have hd:vo (T.drop i) s c=bif Kl T[i]==c&&qd T[i]==s then some T[i] else vo (T.drop (i+1)) s c:=by
    unfold vo;rw[jz me,List.find?_cons];cases Kl T[i]==c&&qd T[i]==s<;>rfl
   rw[hd];refine kF.lQ ((Fe kn.pos).2.Uu (Q:=(· =Kl T[i])) rfl) fun x hx=>?_
   subst hx;cases h1:Kl T[i]==c with
   |false=>simp only[jL,Bool.false_and];exact next
   |true=>
    simp only[jK,Bool.true_and];refine kF.Eu me ?_;refine kF.lQ ((adz kn).Uu (Q:=(· =qd T[i])) rfl) fun x hx=>?_
    subst hx;cases h2:qd T[i]==s with
    |false=>simp only[jL];exact next
    |true=>simp only[jK];refine kF.Eu me ?_;exact kF.pure rfl
 exact key T.length 0 (by omega)
section ref
variable (T:List jV) (L:List Syntax)
theorem aiJ(h:r<:+L):Ev (fun f=>yx f (L5 T L r false)) ((L5 T L r false,()),match adv r with|none=>([],false,())|some s=>(s,true,())):=by
 refine Ev.fn (fun n=>by simp only[yx,kD,EG,mB];exact rfl) ?_
 match r,h with
 |[],h=>
  rw[arG,aCC];exact Ev.pure
 |y::r,h=>
  rw[arG,(apO T L h).1,(apO T L h).2];simp only[jL,jy];rw[show adv (y::r)=bif y.kind==17 then some y.text else none from rfl,bne];cases y.kind==17<;>exact Ev.pure
theorem aiK(n:jV)(ky:List Syntax)(hl:ky.length<=cap)(a b:Int):Ev (fun f=>Uc f n ky a b) (Zv n ky a b):=by
 refine Ev.fn (fun n=>by simp only[Uc,kD,aLR,mB];exact rfl) ?_;simp only[cap]at hl
 have key:∀(d i:Nat)(k:Int)(s:Str)(vE:List Syntax)(p q:Int),i+d=ky.length->kZ (fun g m=>FC g m ky a b (i:Int) k s vE p q) (ano (Syntax.mk k s 0 [] [] vE p q) (ky.drop i) a b):=by
  intro d;induction d with
  |zero=>
   intro i k s vE p q hi;refine kZ.lp (fun n m=>by simp only[Wo,FB,mB];exact rfl) ?_;have:decide ((i:Int)<(ky.length:Int))=false:=jN (by omega);simp only[this,jL,jC (show ky.length<=i by omega)];exact kZ.pure
  |succ d ih=>
   intro i k s vE p q hi;have me:i<ky.length:=by omega
   refine kZ.lp (fun n m=>by simp only[Wo,FB,mB];exact rfl) ?_;have:decide ((i:Int)<(ky.length:Int))=true:=jM (by omega);simp only[this,jK];refine kZ.Eu me ?_;rw[kM (by omega),jz me];exact ih (i+1) 2 [] _ a b (by omega)
 exact Ev.yn (F:=fun g m=>FC g m ky a b 0 0 n.target [] a b) (key ky.length 0 0 n.target [] a b (by omega))
def RG:Cmd->Out->Prop
 |.mY m r,o=>k8 (fun f=>oI f (L5 T L r false) m) (QE T L o)
 |.first m r,o=>k8 (fun f=>n4 f (L5 T L r false) m) (QE T L o)
 |.loop m out has r,o=>kF (fun f k=>qk (kP f) f k m has (L5 T L r false) out) (QE T L o)
 |.parts n ps i ky e r,o=>Ok n->∀(start:Int),i<=n.parts.length->ps=n.parts.drop i->ky.length<=i->
     kF (fun f k=>wT (kP f) f k start e (i:Int) (L5 T L r false) n ky) (QR T L n start o)/\
     kF (fun f k=>wU (kP f) f k ky start e (i:Int) (L5 T L r false) n) (QR T L n start o)
variable {T} {L}
theorem arU(k:Ok n){k9:Nat}(hf:k9<=n.parts.length){ky:List Syntax}(ho:ky.length<=k9)(h:RG T L (.parts n (n.parts.drop k9) k9 ky 0 r) o)(start:Int):
 k8 (fun f=>qR f n (k9:Int) ky start (L5 T L r false)) (QR T L n start o):=by
 refine k8.fn (fun n=>by simp only[acA,AY,lg,mC];exact rfl) ?_;exact k8.yn (F:=fun f k=>wU (kP f) f k ky start 0 (k9:Int) (L5 T L r false) n) (h k start hf rfl ho).2
theorem anP(g:TOk T){c:Bool}(h:vo T s c=some n){G:Nat->jV×Bool->Option R}(hg:k8 (fun f=>G f (n,true)) Q):k8 (fun f=>(Nl f T s c).bind (G f)) Q:=
 k8.bind (XD g s c) fun y hy=>by rw[h]at hy;subst hy;exact hg
theorem Nt.aLo(g:TOk T)(hL:L.length<=cap)(h:Nt T c o):c.rest<:+L->RG T L c o:=by
 induction h with
 | @adw n i ky e r=>
   intro hr k start hle hps ho
   have hj:i=n.parts.length:=by
    have:=congrArg List.length hps;rw[jH,List.length_nil]at this;omega
   have he:decide ((i:Int)<(n.parts.length:Int))=false:=jN (by omega);have hoc:ky.length<=cap:=by have:=k.Nq;omega
   constructor
   ·refine kF.lp (fun n m=>by simp only[s5,ql,lg,mB];exact rfl) ?_;simp only[he,jL];exact(aiK n ky hoc start e).Pm (kF.pure rfl)
   ·refine kF.lp (fun n m=>by simp only[u9,q7,lg,mB];exact rfl) ?_;simp only[he,jL];exact(aiK n ky hoc start e).Pm (kF.pure rfl)
 | @alu n ps i ky e r q h1 ih=>
   intro hr k start hle hps ho;obtain⟨he,hx,hd,hil⟩:=alw hps;have hk:=k.few
   have tail:∀(z:(kj×Unit)×(Syntax×(Int×Unit))),z.1.1=L5 T L q true->kF (fun f m=>wT (kP f) f m start z.2.1.to ((i+1:Nat):Int) z.1.1 n (ky++[z.2.1])) (QR T L n start (.D5 q)):=by
    intro z hz;rw[hz];have hoc:(ky++[z.2.1]).length<=cap:=by rw[List.length_append,jI];simp only[cap];omega
    have ap:=aiK n (ky++[z.2.1]) hoc start z.2.1.to;refine kF.lp (fun n m=>by simp only[s5,ql,lg,mB];exact rfl) ?_;simp only[L5,jK];cases decide (((i+1:Nat):Int)<(n.parts.length:Int))with
    |true=>exact ap.Pm (kF.pure rfl)
    |false=>exact ap.Pm (kF.pure rfl)
   constructor
   ·refine kF.lp (fun n m=>by simp only[s5,ql,lg,mB];exact rfl) ?_;simp only[he,jK,L5,jL,hx,jy,beq_self_eq_true];refine(R1 k hil).Pm (kF.lQ (ih hr) fun z hz=>?_);rw[ajD (by omega),kM (by omega)];exact tail z hz
   ·refine kF.lp (fun n m=>by simp only[u9,q7,lg,mB];exact rfl) ?_;simp only[he,jK,L5,jL,hx,jy,beq_self_eq_true];refine(R1 k hil).Pm (kF.lQ (ih hr) fun z hz=>?_);rw[ajD (by omega),kM (by omega)];exact tail z hz
 | @Cj n ps i ky e r x h q o h1 h2 ih1 ih2=>
   intro hr k start hle hps ho;obtain⟨he,hx,hd,hil⟩:=alw hps;have hk:=k.few;have hq:q<:+L:=(h1.anp (o:=.val x h q)).trans hr;have next:=(ih2 hq k start (by omega) hd (by rw[List.length_append,jI];omega)).1
   constructor
   ·refine kF.lp (fun n m=>by simp only[s5,ql,lg,mB];exact rfl) ?_;simp only[he,jK,L5,jL,hx,jy,beq_self_eq_true];refine(R1 k hil).Pm (kF.lQ (ih1 hr) fun z hz=>?_);have hz:z=_:=hz;subst hz;rw[ajD (by omega),kM (by omega)];exact next
   ·refine kF.lp (fun n m=>by simp only[u9,q7,lg,mB];exact rfl) ?_;simp only[he,jK,L5,jL,hx,jy,beq_self_eq_true];refine(R1 k hil).Pm (kF.lQ (ih1 hr) fun z hz=>?_);have hz:z=_:=hz;subst hz;rw[ajD (by omega),kM (by omega)];exact next
 | @arB n s ps i ky e r hs hq=>
   intro hr k start hle hps ho;obtain⟨he,hx,hd,hil⟩:=alw hps;have hk:=k.few;have hs':(s==[])=false:=beq_eq_false_iff_ne.2 hs;have hoc:ky.length<=cap:=by simp only[cap];omega
   have ap:=aiK n ky hoc start e;have sy:=aiJ T L (show r<:+L from hr);constructor
   ·refine kF.lp (fun n m=>by simp only[s5,ql,lg,mB];exact rfl) ?_;simp only[he,jK,L5,jL,hx,jy,hs'];cases hy:adv r with
    |none=>
     rw[hy]at sy;exact sy.Pm (ap.Pm (kF.pure rfl))
    |some t=>
     rw[hy]at sy;refine sy.Pm ?_;have:(t==s)=false:=beq_eq_false_iff_ne.2 fun e=>hq (by rw[hy,e])
     simp only[jK,hx,jy,this,jL];exact ap.Pm (kF.pure rfl)
   ·refine kF.lp (fun n m=>by simp only[u9,q7,lg,mB];exact rfl) ?_;simp only[he,jK,L5,jL,hx,jy,hs'];cases hy:adv r with
    |none=>
     rw[hy]at sy;exact sy.Pm (ap.Pm (kF.pure rfl))
    |some t=>
     rw[hy]at sy;refine sy.Pm ?_;have:(t==s)=false:=beq_eq_false_iff_ne.2 fun e=>hq (by rw[hy,e])
     simp only[jK,hx,jy,this,jL];exact ap.Pm (kF.pure rfl)
 | @tX n s ps i ky e y r o hs hk ht h2 ih=>
   intro hr k start hle hps ho;obtain⟨he,hx,hd,hil⟩:=alw hps;have aLG:=k.few;have hs':(s==[])=false:=beq_eq_false_iff_ne.2 hs;simp only[Cmd.rest]at hr ih;obtain⟨aGi,aGj⟩:=ih (apN hr) k start (by omega) hd (by omega);have sy:=aiJ T L hr;have hp:=aiy hr hL;rw[arC hk]at sy;constructor
   ·refine kF.lp (fun n m=>by simp only[s5,ql,lg,mB];exact rfl) ?_;simp only[he,jK,L5,jL,hx,jy,hs'];refine sy.Pm ?_;simp only[jK,hx,jy,ht,beq_self_eq_true,L5,(Pl hr).2,hp];rw[kM (by omega)];exact aGi
   ·refine kF.lp (fun n m=>by simp only[u9,q7,lg,mB];exact rfl) ?_;simp only[he,jK,L5,jL,hx,jy,hs'];refine sy.Pm ?_;simp only[jK,hx,jy,ht,beq_self_eq_true,L5,(Pl hr).2,hp];rw[kM (by omega)];exact aGj
 | @adx m=>
   intro hr;show k8 (fun f=>n4 f (L5 T L [] false) m) _;refine k8.fn (fun n=>by simp only[xG,rM,lg,mB];exact rfl) ?_;rw[aCC];exact k8.pure rfl
 | @Xy m x r hx=>
   intro hr;show k8 (fun f=>n4 f (L5 T L (x::r) false) m) _;refine k8.fn (fun n=>by simp only[xG,rM,lg,mB];exact rfl) ?_;obtain⟨h1,h2⟩:=apO T L (b:=false) hr;rw[h1,h2,aFx T L hr hL];have:(x.kind !=17)=true:=by rw[bne,beq_eq_false_iff_ne.2 hx];rfl
   simp only[jL,jy,this,jK];exact k8.pure rfl
 | @ad2 m x r hx hb=>
   intro hr;show k8 (fun f=>n4 f (L5 T L (x::r) false) m) _;refine k8.fn (fun n=>by simp only[xG,rM,lg,mB];exact rfl) ?_;obtain⟨h1,h2⟩:=apO T L (b:=false) hr;rw[h1,h2];have:(x.kind !=17)=false:=by rw[bne,beq_iff_eq.2 hx];rfl
   simp only[jL,jy,this];unfold auw at hb;cases hf:vo T x.text false with
   |none=>
    refine k8.bind (XD g x.text false) fun y hy=>?_
    rw[hf]at hy;have hy:y.2=false:=hy;rw[hy];exact k8.pure rfl
   |some n=>
    rw[hf]at hb;have kn:=g.ok (Gn hf).1;refine anP g hf ?_;simp only at hb;cases hc:rgt n&&decide (n.mY<m)with
    |false=>simp only[hc]at hb;cases hb
    |true=>
     rw[Bool.and_eq_true]at hc;simp only[jK];refine(w9 kn.pos kn.Nq).2.auG ?_;rw[hc.1,hc.2];exact k8.pure rfl
 | @aiv m x r n q hx hb h1 ih=>
   intro hr;show k8 (fun f=>n4 f (L5 T L (x::r) false) m) _;refine k8.fn (fun n=>by simp only[xG,rM,lg,mB];exact rfl) ?_;obtain⟨e1,e2⟩:=apO T L (b:=false) hr;rw[e1,e2];have:(x.kind !=17)=false:=by rw[bne,beq_iff_eq.2 hx];rfl
   obtain⟨hn,hl,hh,axf⟩:=Qs hb;have kn:=g.ok hn;have hf:vo T x.text false=some n:=by rw[<-hh,<-hl];exact Kf g hn
   simp only[jL,jy,this];refine anP g hf ?_;have qz:=arU kn (jJ _) (jE 0) (ky:=[]) (ih hr) x.k9;simp only[jK];refine(w9 kn.pos kn.Nq).2.auG ?_;cases hrg:rgt n with
   |true=>
    have:decide (n.mY<m)=false:=jN (by have:=axf hrg;omega);simp only[jK,this,jL];refine k8.bind qz fun z hz=>(w9 kn.pos kn.Nq).2.auG ?_
    rw[hrg];exact k8.pure hz
   |false=>
    simp only[jL];refine k8.bind qz fun z hz=>(w9 kn.pos kn.Nq).2.auG ?_
    rw[hrg];exact k8.pure hz
 | @first m x r n l e q hx hb h1 ih=>
   intro hr;show k8 (fun f=>n4 f (L5 T L (x::r) false) m) _;refine k8.fn (fun n=>by simp only[xG,rM,lg,mB];exact rfl) ?_;obtain⟨e1,e2⟩:=apO T L (b:=false) hr;rw[e1,e2];have:(x.kind !=17)=false:=by rw[bne,beq_iff_eq.2 hx];rfl
   obtain⟨hn,hl,hh,axf⟩:=Qs hb;have kn:=g.ok hn;have hf:vo T x.text false=some n:=by rw[<-hh,<-hl];exact Kf g hn
   simp only[jL,jy,this];refine anP g hf ?_;have qz:=arU kn (jJ _) (jE 0) (ky:=[]) (ih hr) x.k9;have ho:axc n=bif rgt n then n.mY else 101:=rfl
   simp only[jK];refine(w9 kn.pos kn.Nq).2.auG ?_;cases hrg:rgt n with
   |true=>
    rw[hrg]at ho;have:decide (n.mY<m)=false:=jN (by have:=axf hrg;omega);simp only[jK,this,jL];refine k8.bind qz fun z hz=>(w9 kn.pos kn.Nq).2.auG ?_
    have hz:z=_:=hz;subst hz;rw[hrg,ho];exact k8.pure rfl
   |false=>
    rw[hrg]at ho;simp only[jL];refine k8.bind qz fun z hz=>(w9 kn.pos kn.Nq).2.auG ?_
    have hz:z=_:=hz;subst hz;rw[hrg,ho];exact k8.pure rfl
 | @stop m out has r hg=>
   intro hr;show kF (fun f k=>qk (kP f) f k m has (L5 T L r false) out) _;refine kF.lp (fun n m=>by simp only[u7,q6,lg,mB];exact rfl) ?_;simp only[L5,jL];have sy:=aiJ T L (show r<:+L from hr);unfold auv at hg;cases hs:adv r with
   |none=>
    rw[hs]at sy;exact sy.Pm (kF.pure rfl)
   |some s=>
    rw[hs]at hg sy;simp only at hg;refine sy.Pm ?_;simp only[jK,L5];cases hf:vo T s true with
    |none=>
     refine kF.lQ (XD g s true) fun y hy=>?_
     rw[hf]at hy;have hy:y.2=false:=hy;rw[hy];exact kF.pure rfl
    |some n=>
     rw[hf]at hg;have kn:=g.ok (Gn hf).1;refine kF.lQ (XD g s true) fun y hy=>?_
     rw[hf]at hy;have hy:y=_:=hy;subst hy;simp only[jK];cases h1:decide (n.mY<m)with
     |true=>exact kF.pure rfl
     |false=>
      simp only[jL];refine(R1 kn (i:=0) kn.pos).Pm ?_;cases h2:decide (has<RR n 0)with
      |true=>exact kF.pure rfl
      |false=>simp [h1,h2]at hg
 | @ayu m out has r n q hg h1 ih=>
   intro hr;show kF (fun f k=>qk (kP f) f k m has (L5 T L r false) out) _;refine kF.lp (fun n m=>by simp only[u7,q6,lg,mB];exact rfl) ?_;simp only[L5,jL];have sy:=aiJ T L (show r<:+L from hr);obtain⟨hn,hl,hs,hm,hh⟩:=Qt hg;rw[hs]at sy;refine sy.Pm ?_;have kn:=g.ok hn;have hf:vo T (qd n) true=some n:=by rw[<-hl];exact Kf g hn
   have qz:=arU kn kn.pos (jE 1) (ky:=[out]) (ih hr) out.k9;simp only[jK,L5];refine kF.lQ (XD g (qd n) true) fun y hy=>?_
   rw[hf]at hy;have hy:y=_:=hy;subst hy;simp only[jK];rw[jN (show ¬ n.mY<m by omega)];simp only[jL];refine(R1 kn (i:=0) kn.pos).Pm ?_;rw[jN (show ¬ has<RR n 0 by omega)];refine kF.lQ qz fun z hz=>?_
   have hz:z.1.1.1=_:=hz;rw[hz];refine kF.lp (fun n m=>by simp only[u7,q6,lg,mB];exact rfl) ?_;exact kF.pure rfl
 | @go m out has r n l e q o hg h1 h2 ih1 ih2=>
   intro hr;show kF (fun f k=>qk (kP f) f k m has (L5 T L r false) out) _;refine kF.lp (fun n m=>by simp only[u7,q6,lg,mB];exact rfl) ?_;simp only[L5,jL];have sy:=aiJ T L (show r<:+L from hr);obtain⟨hn,hl,hs,hm,hh⟩:=Qt hg;rw[hs]at sy;refine sy.Pm ?_;have kn:=g.ok hn;have hf:vo T (qd n) true=some n:=by rw[<-hl];exact Kf g hn
   have qz:=arU kn kn.pos (jE 1) (ky:=[out]) (ih1 hr) out.k9;simp only[jK,L5];refine kF.lQ (XD g (qd n) true) fun y hy=>?_
   rw[hf]at hy;have hy:y=_:=hy;subst hy;simp only[jK];rw[jN (show ¬ n.mY<m by omega)];simp only[jL];refine(R1 kn (i:=0) kn.pos).Pm ?_;rw[jN (show ¬ has<RR n 0 by omega)];refine kF.lQ qz fun z hz=>?_
   have hz:z=_:=hz;subst hz;exact ih2 ((h1.anp (o:=.ky l e q)).trans hr)
 | @ady m r q h1 ih=>
   intro hr;show k8 (fun f=>oI f (L5 T L r false) m) _;refine k8.fn (fun n=>by simp only[OF,xF,lg,mB];exact rfl) ?_;simp only[L5,jL];refine k8.bind (ih hr) fun z hz=>?_
   have hz:z.1.1=_:=hz;rw[hz];refine k8.yn (F:=fun f k=>qk (kP f) f k m z.2.2.1 (L5 T L q true) z.2.1) ?_;refine kF.lp (fun n m=>by simp only[u7,q6,lg,mB];exact rfl) ?_;exact kF.pure rfl
 | @mY m r x h q o h1 h2 ih1 ih2=>
   intro hr;show k8 (fun f=>oI f (L5 T L r false) m) _;refine k8.fn (fun n=>by simp only[OF,xF,lg,mB];exact rfl) ?_;simp only[L5,jL];refine k8.bind (ih1 hr) fun z hz=>?_
   have hz:z=_:=hz;subst hz;exact k8.yn (F:=fun f k=>qk (kP f) f k m h (L5 T L q false) x) (ih2 ((h1.anp (o:=.val x h q)).trans hr))
end ref
theorem axD{T:List jV}{L:List Syntax}(hl:T.length<=cap)(h:∀n∈T,Nsm n)(hL:L.length<=cap)(ht:agR T=true)(hb: ¬ 4096<L.length)(ho:Nt T (.mY 0 L) o):
 Ev (fun f=>Dc f T L) (pT L o):=by
 obtain⟨ri,hri,evi⟩:=apP hl h;have evt:=ajC hl h;have aCE:decide ((4096:Int)<(L.length:Int))=decide (4096<L.length):=decide_eq_decide.2 (by omega);have g:=TOk.of ht;rcases hri with⟨_,sz,B,C,I,rfl,X⟩|⟨ht',rfl⟩
 ·rw[ht]at evt;refine Ev.fn (fun n=>by simp only[Dc,kD,VE,mB];exact rfl) ?_;refine Ev.bind evt ?_;simp only[jK,aCE,jN hb,jL];have hp:k8 (fun f=>oI f (L5 T L L false) 0) (QE T L o):=Nt.aLo g hL ho (List.suffix_refl _);obtain⟨z,hz,evz⟩:=hp;rw[show(⟨T,L,0,false⟩:kj)=L5 T L L false from by unfold L5;rw[ayx]];refine Ev.bind evz ?_;rcases Qn ho rfl with⟨q,rfl⟩|⟨x,hh,q,rfl⟩
  ·have hz:z.1.1=L5 T L q true:=hz;rw[hz];exact Ev.pure
  ·have hz:z=_:=hz;subst hz;have hs:q<:+L:=ho.anp (o:=.val x hh q)
   match q,hs with
   |[],hs=>
    rw[arG,show decide ((L5 T L [] false).nE<(L.length:Int))=false from jN (Int.lt_irrefl _)];exact Ev.pure
   |y::q,hs=>
    have:=(Pl hs).1;rw[arG,show decide ((L5 T L (y::q) false).nE<(L.length:Int))=true from jM (show pos L (y::q)<(L.length:Int) by have:=of_decide_eq_false this;omega)];exact Ev.pure
 ·rw[ht]at ht';cases ht'
theorem TkL.dig {e:Nat}(h:TkL e a Z.T):Dig Z:=fun t ht hk=>((h.mem t ht).2.2 hk).2
namespace anO
variable {T:List jV} (g:anO T)
include g
theorem aH8(s:Str):NpR (Zc T s):=by
 intro l _ hl;obtain⟨o,ho,e⟩:=g.npR (l:=l);have e:(Zc T s).np l=pT l o:=e;rw[e];refine⟨axD g.aFV g.nsm (by grind) g.few.tab (by omega) ho,?_⟩;rcases Qn ho rfl with⟨q,rfl⟩|⟨x,hh,q,rfl⟩
 ·exact jA _
 ·cases q with
  |nil=>exact jB _
  |cons y q=>exact jA _
end anO
theorem axE{T:List jV}(g:anO T)(hs:s.length<=65536):Ev (fun n=>Ze n s T) (aag T s):=by
 refine k8.ev ?_;refine k8.fn (fun n=>by simp only[Ze,kD,Zd,yp];exact rfl) ?_;simp only[jN (show ¬ (65536:Int)<(s.length:Int) by omega),jL]
 have hr:∀sc,BH (wu [] T) s=sc->Ev (fun n=>Qk n s 0 (s.length:Int) T) (bif sc.2.2==0 then .pn ((({HJ:=sc.1,i:=0,base:=0,rF:=T,oN:=wu [] T,depth:=0,e:=0,nE:=0},()),()),0,0,())else .ok ((),IntKind.i64.wrap (0+sc.2.1),sc.2.2,())):=by
  intro sc hsc;refine Ev.fn (fun n=>by simp only[Qk,kD,Rv,mC];exact rfl) ?_;refine Ev.bind (aC8 T g.aFV g.nsm (by have:=g.arT;have:=g.few.len;grind)) ?_;simp only[jM (show(0:Int)<=0/\(0:Int)<=(s.length:Int)/\(s.length:Int)<=(s.length:Int)from⟨jB _,jA _,jB _⟩),jK,Int.toNat_natCast,List.take_length,Int.toNat_zero,jF];refine Ev.bind (axq s (by grind) _ (by have:=g.aiI;omega) fun y hy=>by have:=g.ayE y hy;grind) ?_
  grind [Ev.pure]
 have hr:=hr _ rfl;unfold aag;cases he:(BH (wu [] T) s).2.2==0 with
 |false=>
  rw[he,jL]at hr;have hb:=g.aDc hs he;rw[Int.zero_add,lj (by omega) (by omega)]at hr;refine Ev.to hr ?_;simp only[EZ,bne,he,Bool.not_false,jK,jL];exact k8.pure rfl
 |true=>
  rw[he,jK]at hr;refine Ev.to hr ?_;simp only[EZ,bne,beq_self_eq_true,Bool.not_true,jL,jK];have ht:=g.tk hs (beq_iff_eq.1 he);have hlen:=g.aiI;have hT:ny (Zc T s):=ht.HJ (by omega) ⟨jB _,by show(0:Int)<=100000;decide⟩;have hx:=(ap5 hT ht.sok ht.dig ht.aH7 (g.aDb s) (by show(wu [] T).length<=100000;omega) (g.aH8 s) 200 0 rfl (jB _)).1 0 0 0 hT.pos;refine k8.bind hx fun z ⟨j,e,a,x,hj,hz,hr⟩=>?_
  subst hz;rw[ae3]at hr;refine Ev.to (ua hj) ?_;unfold nS.whole;rw[hr,IJ];cases h0:e==0 with
  |true=>
   obtain rfl:=beq_iff_eq.1 h0;rw[az4 hj,Gp hj,ae3];cases h4:((Zc T s).T[j].kind==4)with
   |true=>exact k8.pure rfl
   |false=>exact Ev.to (IK hT hj) (k8.pure rfl)
  |false=>
   rw[ayA h0,vp h0];simp only[show((aCR.kind==4)=true)from rfl,show((Zc T s).rd j 0 e a).e=e from rfl,h0,Bool.not_true,Bool.not_false,jK,jL];exact k8.pure rfl
theorem axF{T:List jV}(g:anO T)(hs:s.length<=65536)(h:(aag T s).2.2=0):Rg (aag T s).1/\0<=(aag T s).1.k9/\(aag T s).1.to<=(s.length:Int):=by
 unfold aag at h ⊢;cases he:(BH (wu [] T) s).2.2==0 with
 |false=>grind
 |true=>
  rw[he,jK]at h;rw[jK];have ht:=g.tk hs (beq_iff_eq.1 he);have hp:=ht.pos;have hw:=ht.sok.whole ht.aH7 (g.aDb s) (by show(Zc T s).T.length<=100000;have:=ht.le;omega) ht.pos;cases hq:(Zc T s).S.whole with
  |er e a=>
   exact⟨.anz (by decide) (jB _),jB _,jA _⟩
  |ok x j=>
   rw[hq]at hw;obtain⟨h1,h2,h3,h4⟩:=hw;refine⟨h1,?_,?_⟩
   ·rw[aH5 hp]at h2;have:=(ht.mem _ (jD hp)).1
    grind [Zc]
   ·show x.to<=_;have h4:j<(Zc T s).T.length:=h4
    match j,h4,h3 with
    |0,_,h3=>exact Int.le_trans h3 (jA _)
    |j+1,h4,h3=>
     rw[aH6 (by omega)]at h3;have:=(ht.mem _ (jD (show j<(Zc T s).T.length by omega))).2.1
     grind [Zc]
theorem aDd{Q:Bool->Prop}(q:Q true):k8 (fun n=>(Ke n).bind fun x=>some x) Q:=Ev.Uu aAr q
theorem aJ9{x0:Str}{x1:List jV}(h:(x0.length+1)+ae1 jV.aw1 x1<=1048576):x1.length<=cap/\∀n∈x1,Nsm n:=by
 grind [anu,jV.aw1,Nsm.of,ant]
theorem aAt{T:List jV}(g:anO T)(hs:s.length<=65536):auJ (aag T s).1:=by
 by_cases h0:(aag T s).2.2=0
 ·exact(axF g hs h0).1.uA
 ·have hz:auJ Zz:=.mk (by simp) (by simp) (by simp) (by simp) (by simp);unfold aag at h0 ⊢;cases he:(BH (wu [] T) s).2.2==0 with
  |false=>exact hz
  |true=>
   rw[he,jK]at h0;rw[jK];cases hq:(Zc T s).S.whole with
   |ok x j=>rw[hq]at h0;exact absurd rfl h0
   |er e a=>exact hz
theorem ap9(x0:Str)(x1:List jV)(h:(x0.length+1)+ae1 jV.aw1 x1<=1048576)(_:True)(_:∀y∈x1,y.wf):∃n,L4 n x0 x1=some true:=by
 obtain⟨h1,h2⟩:=aJ9 h;refine avb (k8.ev ?_);refine k8.fn (fun n=>by simp only[L4,kD,Hx,mB];exact rfl) ?_;refine k8.C4 (fun _=>aDd rfl) fun hl=>?_
 have hl:=of_decide_eq_false hl;refine k8.bind (aFU h1 h2) fun b hb=>?_
 cases b with
 |false=>exact aDd rfl
 |true=>
  have g:anO x1:=⟨hb rfl,h2⟩;simp only[jK];refine Ev.to (aFX g (by omega)) (Ev.to (axE g (by omega)) (Ev.to ava ?_));simp only[jK];refine Ev.to (axn (aAt g (by omega))) ?_;simp only[jK,beq_self_eq_true];exact k8.pure rfl
end Go.Abs
end
