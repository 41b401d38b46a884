/- A part of the proof: plain facts. -/
import Derived.Test.YtpdbjkgnmjnebaaGreatDoorCoreC
import Derived.Test.YtpdbjkgnmjnebaaGreatDoorReadA
import Derived.KernelRfl
import Derived.Lib.ItoaNum
set_option linter.all false
open Int renaming lt_irrefl→iy,ofNat_lt→iz,reduceBEq→iD,toNat_natCast→iO
open List renaming getElem_mem→iA,drop_eq_getElem_cons→iC,length_append→iE,drop_length→iF,length_singleton→iG,length_cons→iI,length_nil→iK,drop_zero→iN,mem_singleton→iP,take_succ_eq_append_getElem→iQ,length_take→iR,any_append→iT,any_cons→iU,take_length→iW,any_nil→iZ,mem_append→jb,length_map→jc,drop_eq_nil_of_le→jd,getElem?_append_right→je,nil_append→jg,contains_cons→jh,cons_append→jk,any_eq_true→jm,set_append_right→jn,mem_cons→jr,all_cons→jt,append_assoc→ju,contains_eq_any_beq→jw,append_nil→jx,mem_cons_of_mem→jA,map_cons→jB,length_reverse→jC
open Option renaming bind_some→iB
open Nat renaming strongRecOn→iH,le_refl→jf
open Bool renaming false_or→iJ,true_and→iL,true_or→iM,or_false→iS,and_eq_true→iV,eq_iff_iff→iX,false_and→iY,not_eq_false'→ji,or_assoc→jj,and_false→jp,not_true→jq,not_false→jy,or_eq_false_iff→jz
open Go.Lib renaming decDigits→ja,join→jl,decDigits_one→jv,contains→jD,itoa→jE
open Exists renaming imp→jo
namespace Go.Abs
variable {c r:Bool}{n:Int}{l:List kp}{i k:Nat}{L:Nat->Nat->Int->Option Bool}{F:Nat->Option Bool}{W O:Type}{x:j4}{y:j9}{t:jX}{s:kp}{d:ky}
section
variable {R S T:Type}
def Ev(F:Nat->Option R)(r:R):Prop:=∃N,∀n,N<=n->F n=some r
def pm(F:Nat->Nat->Option R)(r:R):Prop:=∃N,∀n m,N<=n->N<=m->F n m=some r
theorem Ev.fn{F G:Nat->Option R}{r:R}(h:∀n,F (n+1)=G n)(hg:Ev G r):Ev F r:=by
 obtain⟨N,hN⟩:=hg;refine⟨N+1,fun n hn=>?_⟩;obtain⟨k,rfl⟩:∃k,n=k+1:=⟨n-1,by omega⟩;rw[h];exact hN k (by omega)
theorem Ev.BX{F:Nat->Nat->Option R}{r:R}(h:pm F r):Ev (fun n=>F n n) r:=by
 obtain⟨N,hN⟩:=h;exact⟨N,fun n hn=>hN n n hn hn⟩
theorem pm.of1{F:Nat->Option R}{r:R}(h:Ev F r):pm (fun n _=>F n) r:=by
 obtain⟨N,hN⟩:=h;exact⟨N,fun n m hn _=>hN n hn⟩
theorem pm.lp{F G:Nat->Nat->Option R}{r:R}(h:∀n m,F n (m+1)=G n m)(hg:pm G r):pm F r:=by
 obtain⟨N,hN⟩:=hg;refine⟨N+1,fun n m hn hm=>?_⟩;obtain⟨k,rfl⟩:∃k,m=k+1:=⟨m-1,by omega⟩
 grind
theorem Ev.pure{r:R}:Ev (fun _=>some r) r:=⟨0,fun _ _=>rfl⟩
theorem pm.pure{r:R}:pm (fun _ _=>some r) r:=⟨0,fun _ _ _ _=>rfl⟩
theorem Ev.bind{F:Nat->Option S}{G:Nat->S->Option R}{x:S}{r:R}(h:Ev F x)(hg:Ev (fun n=>G n x) r):Ev (fun n=>(F n).bind (G n)) r:=by
 obtain⟨N,hN⟩:=h;obtain⟨M,hM⟩:=hg;refine⟨max N M,fun n hn=>?_⟩
 grind
theorem pm.bind{F:Nat->Nat->Option S}{G:Nat->Nat->S->Option R}{x:S}{r:R}(h:pm F x)(hg:pm (fun n m=>G n m x) r):pm (fun n m=>(F n m).bind (G n m)) r:=by
 obtain⟨N,hN⟩:=h;obtain⟨M,hM⟩:=hg;refine⟨max N M,fun n m hn hm=>?_⟩
 grind
theorem pm.nJ{F:Nat->Option S}{G:Nat->Nat->S->Option R}{x:S}{r:R}(h:Ev F x)(hg:pm (fun n m=>G n m x) r):pm (fun n m=>(F n).bind (G n m)) r:=
 pm.bind (F:=fun n _=>F n) (pm.of1 h) hg
def k6(F:Nat->Option R)(Q:R->Prop):Prop:=∃r,Q r/\Ev F r
def kg(F:Nat->Nat->Option R)(Q:R->Prop):Prop:=∃r,Q r/\pm F r
theorem k6.fn{F G:Nat->Option R}{Q:R->Prop}(h:∀n,F (n+1)=G n)(hg:k6 G Q):k6 F Q:=jo (fun _ k=>⟨k.1,Ev.fn h k.2⟩) hg
theorem k6.BX{F:Nat->Nat->Option R}{Q:R->Prop}(h:kg F Q):k6 (fun n=>F n n) Q:=jo (fun _ k=>⟨k.1,Ev.BX k.2⟩) h
theorem kg.of1{F:Nat->Option R}{Q:R->Prop}(h:k6 F Q):kg (fun n _=>F n) Q:=jo (fun _ k=>⟨k.1,pm.of1 k.2⟩) h
theorem kg.lp{F G:Nat->Nat->Option R}{Q:R->Prop}(h:∀n m,F n (m+1)=G n m)(hg:kg G Q):kg F Q:=jo (fun _ k=>⟨k.1,pm.lp h k.2⟩) hg
theorem k6.pure{r:R}{Q:R->Prop}(h:Q r):k6 (fun _=>some r) Q:=⟨r,h,Ev.pure⟩
theorem kg.pure{r:R}{Q:R->Prop}(h:Q r):kg (fun _ _=>some r) Q:=⟨r,h,pm.pure⟩
theorem k6.bind{F:Nat->Option S}{G:Nat->S->Option R}{P:S->Prop}{Q:R->Prop}(h:k6 F P)(hg:∀x,P x->k6 (fun n=>G n x) Q):k6 (fun n=>(F n).bind (G n)) Q:=by
 obtain⟨x,hx,hF⟩:=h;obtain⟨r,hr,hG⟩:=hg x hx;exact⟨r,hr,Ev.bind hF hG⟩
theorem kg.bind{F:Nat->Nat->Option S}{G:Nat->Nat->S->Option R}{P:S->Prop}{Q:R->Prop}(h:kg F P)(hg:∀x,P x->kg (fun n m=>G n m x) Q):kg (fun n m=>(F n m).bind (G n m)) Q:=by
 obtain⟨x,hx,hF⟩:=h;obtain⟨r,hr,hG⟩:=hg x hx;exact⟨r,hr,pm.bind hF hG⟩
theorem kg.nJ{F:Nat->Option S}{G:Nat->Nat->S->Option R}{P:S->Prop}{Q:R->Prop}(h:k6 F P)(hg:∀x,P x->kg (fun n m=>G n m x) Q):kg (fun n m=>(F n).bind (G n m)) Q:=
 kg.bind (F:=fun n _=>F n) (kg.of1 h) hg
theorem k6.Cv{xs:List S}{G:Nat->S->Option R}{Q:R->Prop}(hi:i<xs.length)(hg:k6 (fun n=>G n xs[i]) Q):k6 (fun n=>(MI xs (i:Int)).bind (G n)) Q:=by
 grind [MI]
theorem kg.Cv{xs:List S}{G:Nat->Nat->S->Option R}{Q:R->Prop}(hi:i<xs.length)(hg:kg (fun n m=>G n m xs[i]) Q):kg (fun n m=>(MI xs (i:Int)).bind (G n m)) Q:=by
 grind [MI]
theorem k6.pL{A B:Nat->Option R}{Q:R->Prop}(h1:c=true->k6 A Q)(h2:c=false->k6 B Q):k6 (fun n=>bif c then A n else B n) Q:=by
 cases c with
 |true=>exact h1 rfl
 |false=>exact h2 rfl
theorem kg.pL{A B:Nat->Nat->Option R}{Q:R->Prop}(h1:c=true->kg A Q)(h2:c=false->kg B Q):kg (fun n m=>bif c then A n m else B n m) Q:=by
 cases c with
 |true=>exact h1 rfl
 |false=>exact h2 rfl
theorem k6.imp{F:Nat->Option R}{P Q:R->Prop}(h:k6 F P)(k:∀r,P r->Q r):k6 F Q:=jo (fun r x=>⟨k r x.1,x.2⟩) h
theorem kg.imp{F:Nat->Nat->Option R}{P Q:R->Prop}(h:kg F P)(k:∀r,P r->Q r):kg F Q:=jo (fun r x=>⟨k r x.1,x.2⟩) h
theorem k6.ev{F:Nat->Option R}{r:R}(h:k6 F (· =r)):Ev F r:=by obtain⟨s,rfl,h⟩:=h;exact h
theorem Ev.tot{F:Nat->Option R}{r:R}{Q:R->Prop}(h:Ev F r)(q:Q r):k6 F Q:=⟨r,q,h⟩
theorem kg.up {L:Nat->Nat->Int->S->Option R} (len:Nat) (I:Nat->S->Prop) (Q:R->Prop)
 (h1:∀i s,i<len->I i s->(∀s',I (i+1) s'->kg (fun n m=>L n m ((i+1:Nat):Int) s') Q)->kg (fun n m=>L n m (i:Int) s) Q)
 (h2:∀s,I len s->kg (fun n m=>L n m (len:Int) s) Q):∀(i:Nat)(s:S),i<=len->I i s->kg (fun n m=>L n m (i:Int) s) Q:=by
 intro i s hi h;obtain⟨k,hk⟩:∃k,k=len-i:=⟨_,rfl⟩;induction k generalizing i s with
 |zero=>obtain rfl:i=len:=by omega
        exact h2 s h
 |succ k ih=>grind
theorem sA(h: -9223372036854775808<=n)(h2:n<=9223372036854775807):IntKind.i64.wrap n=n:=by
 grind [IntKind.wrap,IntKind.signed,IntKind.bits]
theorem k9(h:i<9223372036854775807):IntKind.i64.wrap ((i:Int)+1)=((i+1:Nat):Int):=by
 grind [sA]
theorem tH{xs:List S}(hi:i<xs.length):MI xs (i:Int)=some xs[i]:=by simp [MI]
theorem pm.Cv{xs:List S}{G:Nat->Nat->S->Option R}{r:R}(hi:i<xs.length)(hg:pm (fun n m=>G n m xs[i]) r):pm (fun n m=>(MI xs (i:Int)).bind (G n m)) r:=by
 simp [tH hi];exact hg
noncomputable def eqb (a b:W):Bool:= @decide (a=b) (Classical.propDecidable _)
theorem aax{a b:W}:eqb a b=true↔a=b:=by
 grind [eqb]
theorem aKQ(a:W):eqb a a=true:=aax.2 rfl
theorem aIv{a b:W}(h:a≠b):eqb a b=false:=by
 grind [aax]
theorem aKR(x y:W)(xs ys:List W):eqb (x::xs) (y::ys)=(eqb x y&&eqb xs ys):=by
 grind [aax]
theorem aA7{xs ys:List W}(h:xs.length≠ys.length):eqb xs ys=false:=aIv fun e=>h (by rw[e])
theorem pm.andThen{F:Nat->Nat->Option Bool}(h:pm F r):pm (fun n m=>bif c then F n m else some false) (c&&r):=by
 cases c with
 |true=>exact h
 |false=>exact pm.pure
theorem Ev.andThen(h:Ev F r):Ev (fun n=>bif c then F n else some false) (c&&r):=by
 cases c with
 |true=>exact h
 |false=>exact Ev.pure
theorem pm.same(xs ys:List W)(hl:xs.length=ys.length)
 (h1:∀(i:Nat)(hi:i<xs.length)(hj:i<ys.length)(r:Bool),pm (fun n m=>L n m ((i+1:Nat):Int)) r->pm (fun n m=>L n m (i:Int)) (eqb xs[i] ys[i]&&r))
 (h2:pm (fun n m=>L n m (xs.length:Int)) true):pm (fun n m=>L n m 0) (eqb xs ys):=by
 have key:∀(k i:Nat),k+i=xs.length->pm (fun n m=>L n m (i:Int)) (eqb (xs.drop i) (ys.drop i)):=by
  intro k;induction k with
  |zero=>
   grind [aKQ]
  |succ k ih=>
   grind [iC,aKR]
 have:=key xs.length 0 (by omega);simpa using this
end
theorem wk{W:Type}{f:W->Nat}:∀{xs:List W}{x:W},x∈xs->f x<=qa f xs
 |y::ys,x,h=>by
  simp only[qa];rcases List.mem_cons.mp h with rfl|h
  ·omega
  ·have:=wk (f:=f) h;omega
theorem uU{W:Type}{f:W->Nat}(h:∀x,1<=f x):∀xs:List W,xs.length<=qa f xs
 |[]=>by simp [qa]
 |y::ys=>by have:=uU h ys;have:=h y;simp only[qa,iI];omega
theorem jX.ve(x:jX):1<=x.kU:=by rw[jX.xC];omega
theorem kE.ve(x:kE):1<=x.kU:=by rw[kE.kU];omega
theorem kD.ve(x:kD):1<=x.kU:=by rw[kD.kU];omega
theorem kw.ve(x:kw):1<=x.kU:=by rw[kw.xC];omega
theorem jX.Pd(x:jX):x.lr.length<x.kU:=by rw[jX.xC];have:=uU jX.ve x.lr;omega
theorem jX.agu(x:jX):x.kC.length<x.kU:=by rw[jX.xC];have:=uU kE.ve x.kC;omega
theorem jX.aqL(x:jX):x.name.length<x.kU:=by rw[jX.xC];omega
theorem kE.aqM(x:kE):x.vars.length<x.kU:=by rw[kE.kU];have:=uU kD.ve x.vars;omega
theorem jX.D1(x:jX):∀{t:jX},t∈x.lr->t.kU<x.kU:=fun h=>by rw[jX.xC x];have:=wk (f:=jX.kU) h;omega
theorem jX.aqN{x:jX}{l:kE}(h:l∈x.kC):l.kU<x.kU:=by rw[jX.xC x];have:=wk (f:=kE.kU) h;omega
def xO:Nat:=9223372036854775807
abbrev rj{R:Type}:R->Prop:=fun _=>True
theorem YD:∀(t:jX),t.kU<xO->k6 (fun n=>Eu n t) rj:=by
 intro t;induction h:t.kU using iH generalizing t with
 |ind k ih=>
  intro hk;have hl:=t.Pd;refine k6.fn (fun n=>by simp only[Eu,kB,afc,mB];exact rfl) ?_;refine k6.BX (F:=fun n m=>Kh (Eu n) n m 1 0 t) ?_;refine kg.up (S:=Int) (L:=fun n m i s=>Kh (Eu n) n m s i t) t.lr.length (fun _ _=>True) rj ?_ ?_ 0 1 (by omega) trivial
  ·intro i s hi _ next
   refine kg.lp (fun n m=>by simp only[agG,Kg,mB];exact rfl) ?_;simp only[hi,iz,decide_true,jF];refine kg.Cv hi ?_;have hm:=t.D1 (iA hi);refine kg.nJ (ih _ (by omega) _ rfl (by omega)) fun x _=>?_
   rw[k9 (by unfold xO at hk;omega)];exact next _ trivial
  ·intro s _;refine kg.lp (fun n m=>by simp only[agG,Kg,mB];exact rfl) ?_;simp only[iy,decide_false,jG];exact kg.pure trivial
theorem UY:∀(t:jX),t.kU<xO->k6 (fun n=>Bw n t) rj:=by
 intro t;induction h:t.kU using iH generalizing t with
 |ind k ih=>
  intro hk;have hl:=t.Pd;refine k6.fn (fun n=>by simp only[Bw,kB,aaL,mB];exact rfl) ?_;refine k6.BX (F:=fun n m=>Hu (Bw n) n m 0 0 t) ?_;refine kg.up (S:=Int) (L:=fun n m i s=>Hu (Bw n) n m s i t) t.lr.length (fun _ _=>True) rj ?_ ?_ 0 0 (by omega) trivial
  ·intro i s hi _ next
   refine kg.lp (fun n m=>by simp only[acy,Ht,mB];exact rfl) ?_;simp only[hi,iz,decide_true,jF];refine kg.Cv hi ?_;have hm:=t.D1 (iA hi);refine kg.nJ (ih _ (by omega) _ rfl (by omega)) fun x _=>?_
   rw[k9 (by unfold xO at hk;omega)];exact next _ trivial
  ·intro s _;refine kg.lp (fun n m=>by simp only[acy,Ht,mB];exact rfl) ?_;simp only[iy,decide_false,jG];exact kg.pure trivial
theorem awM(k:Int):k6 (fun n=>Qz n k) rj:=by
 refine k6.fn (fun n=>by simp only[Qz,kB,V3,mB];exact rfl) ?_
 (repeat' (first|exact k6.pure trivial|exact kg.pure trivial|refine k6.pL (fun _=>?_) (fun _=>?_)|refine kg.pL (fun _=>?_) (fun _=>?_)))
theorem ahG(k i:Int):k6 (fun n=>Ed n k i) rj:=by
 refine k6.fn (fun n=>by simp only[Ed,kB,Q9,mB];exact rfl) ?_
 (repeat' (first|exact k6.pure trivial|exact kg.pure trivial|refine k6.pL (fun _=>?_) (fun _=>?_)|refine kg.pL (fun _=>?_) (fun _=>?_)))
theorem aeC(k:Int):k6 (fun n=>IV n k) rj:=by
 refine k6.fn (fun n=>by simp only[IV,kB,M7,mB];exact rfl) ?_
 (repeat' (first|exact k6.pure trivial|exact kg.pure trivial|refine k6.pL (fun _=>?_) (fun _=>?_)|refine kg.pL (fun _=>?_) (fun _=>?_)))
theorem aum(l:kE)(hk:l.kU<xO):k6 (fun n=>Zr n l) rj:=by
 have hl:=l.aqM;refine k6.fn (fun n=>by simp only[Zr,kB,aaP,mB];exact rfl) ?_
 (repeat' (first|exact k6.pure trivial|exact kg.pure trivial|refine k6.pL (fun _=>?_) (fun _=>?_)|refine kg.pL (fun _=>?_) (fun _=>?_)))
 refine k6.BX (F:=fun n m=>HG n m 0 l) ?_;refine kg.up (S:=Unit) (L:=fun n m i s=>HG n m i l) l.vars.length (fun _ _=>True) rj ?_ ?_ 0 () (by omega) trivial
 ·intro i s hi _ next
  refine kg.lp (fun n m=>by simp only[acG,HF,mB];exact rfl) ?_;simp only[hi,iz,decide_true,jF];refine kg.Cv hi ?_
  (repeat' (first|exact k6.pure trivial|exact kg.pure trivial|refine k6.pL (fun _=>?_) (fun _=>?_)|refine kg.pL (fun _=>?_) (fun _=>?_)))
  ·rename_i h0;have h0:0<(i:Int):=by simpa using h0
   have e:IntKind.i64.wrap ((i:Int)-1)=((i-1:Nat):Int):=by rw[sA (by omega) (by unfold xO at hk;omega)];omega
   simp only[e];refine kg.Cv (by omega) ?_;rw[k9 (by unfold xO at hk;omega)]
   (repeat' (first|exact k6.pure trivial|exact kg.pure trivial|refine k6.pL (fun _=>?_) (fun _=>?_)|refine kg.pL (fun _=>?_) (fun _=>?_)))
   all_goals exact next s trivial
  all_goals (rw[k9 (by unfold xO at hk;omega)];exact next s trivial)
 ·intro s _;refine kg.lp (fun n m=>by simp only[acG,HF,mB];exact rfl) ?_;simp only[iy,decide_false,jG];exact kg.pure trivial
theorem YE(s:kp)(hk:s.length<xO):k6 (fun n=>EI n s) rj:=by
 refine k6.fn (fun n=>by simp only[EI,kB,Wc,mB];exact rfl) ?_
 (repeat' (first|exact k6.pure trivial|exact kg.pure trivial|refine k6.pL (fun _=>?_) (fun _=>?_)|refine kg.pL (fun _=>?_) (fun _=>?_)))
 refine k6.BX (F:=fun n m=>B4 n m s true 0) ?_;refine kg.up (S:=Bool) (L:=fun n m i b=>B4 n m s b i) s.length (fun _ _=>True) rj ?_ ?_ 0 true (by omega) trivial
 ·intro i b hi _ next
  refine kg.lp (fun n m=>by simp only[Lb,B3,mB];exact rfl) ?_;simp only[hi,iz,decide_true,jF];refine kg.Cv hi ?_;rw[k9 (by unfold xO at hk;omega)]
  (repeat' (first|exact k6.pure trivial|exact kg.pure trivial|refine k6.pL (fun _=>?_) (fun _=>?_)|refine kg.pL (fun _=>?_) (fun _=>?_)))
  ·refine kg.nJ (aeC _) fun x _=>?_
   (repeat' (first|exact k6.pure trivial|exact kg.pure trivial|refine k6.pL (fun _=>?_) (fun _=>?_)|refine kg.pL (fun _=>?_) (fun _=>?_)))
   exact next _ trivial
  ·exact next _ trivial
  ·refine kg.nJ (aeC _) fun x _=>?_
   (repeat' (first|exact k6.pure trivial|exact kg.pure trivial|refine k6.pL (fun _=>?_) (fun _=>?_)|refine kg.pL (fun _=>?_) (fun _=>?_)))
   all_goals exact next _ trivial
 ·intro s _;refine kg.lp (fun n m=>by simp only[Lb,B3,mB];exact rfl) ?_;simp only[iy,decide_false,jG];exact kg.pure trivial
theorem ahH(l:kE)(p q:Int)(hk:l.kU<xO):k6 (fun n=>ZH n l p q) rj:=by
 have hl:=l.aqM;refine k6.fn (fun n=>by simp only[ZH,kB,abj,mB];exact rfl) ?_;refine k6.bind (aum l hk) fun x _=>?_
 (repeat' (first|exact k6.pure trivial|exact kg.pure trivial|refine k6.pL (fun _=>?_) (fun _=>?_)|refine kg.pL (fun _=>?_) (fun _=>?_)))
 have k1:k6 (fun n=>Db n n q 0 l) rj:=by
  refine k6.BX (F:=fun n m=>Db n m q 0 l) ?_;refine kg.up (S:=Unit) (L:=fun n m i s=>Db n m q i l) l.vars.length (fun _ _=>True) rj ?_ ?_ 0 () (by omega) trivial
  ·intro i s hi _ next
   refine kg.lp (fun n m=>by simp only[ac2,HP,mB];exact rfl) ?_;simp only[hi,iz,decide_true,jF];refine kg.Cv hi ?_;rw[k9 (by unfold xO at hk;omega)]
   (repeat' (first|exact k6.pure trivial|exact kg.pure trivial|refine k6.pL (fun _=>?_) (fun _=>?_)|refine kg.pL (fun _=>?_) (fun _=>?_)))
   ·refine kg.Cv hi ?_
    (repeat' (first|exact k6.pure trivial|exact kg.pure trivial|refine k6.pL (fun _=>?_) (fun _=>?_)|refine kg.pL (fun _=>?_) (fun _=>?_)))
    exact next s trivial
   ·exact next s trivial
  ·intro s _;refine kg.lp (fun n m=>by simp only[ac2,HP,mB];exact rfl) ?_;simp only[iy,decide_false,jG];exact kg.pure trivial
 refine k6.BX (F:=fun n m=>HR n m p q 0 l) ?_;refine kg.up (S:=Unit) (L:=fun n m i s=>HR n m p q i l) l.vars.length (fun _ _=>True) rj ?_ ?_ 0 () (by omega) trivial
 ·intro i s hi _ next
  refine kg.lp (fun n m=>by simp only[ac3,HQ,mB];exact rfl) ?_;simp only[hi,iz,decide_true,jF];refine kg.Cv hi ?_;rw[k9 (by unfold xO at hk;omega)]
  (repeat' (first|exact k6.pure trivial|exact kg.pure trivial|refine k6.pL (fun _=>?_) (fun _=>?_)|refine kg.pL (fun _=>?_) (fun _=>?_)))
  ·refine kg.Cv hi ?_
   (repeat' (first|exact k6.pure trivial|exact kg.pure trivial|refine k6.pL (fun _=>?_) (fun _=>?_)|refine kg.pL (fun _=>?_) (fun _=>?_)))
   exact next s trivial
  ·exact next s trivial
 ·intro s _;refine kg.lp (fun n m=>by simp only[ac3,HQ,mB];exact rfl) ?_;simp only[iy,decide_false,jG];exact kg.of1 k1
theorem awN(t:jX):k6 (fun n=>QI n t) rj:=by
 refine k6.fn (fun n=>by simp only[QI,kB,Wd,mB];exact rfl) ?_
 (repeat' (first|exact k6.pure trivial|exact kg.pure trivial|refine k6.pL (fun _=>?_) (fun _=>?_)|refine kg.pL (fun _=>?_) (fun _=>?_)))
 refine k6.bind (awM _) fun x _=>?_
 (repeat' (first|exact k6.pure trivial|exact kg.pure trivial|refine k6.pL (fun _=>?_) (fun _=>?_)|refine kg.pL (fun _=>?_) (fun _=>?_)))
theorem aun:∀(t:jX)(a b c d e:Int),t.kU<xO->k6 (fun n=>qw n t a b c d e) rj:=by
 intro t;induction h:t.kU using iH generalizing t with
 |ind k ih=>
  intro a b c d e hk;have hl:=t.Pd;have hl2:=t.agu;have hl3:=t.aqL;refine k6.fn (fun n=>by simp only[qw,kB,Rf,mB];exact rfl) ?_
  have k1:k6 (fun n=>wR (qw n) n n a b c d e 0 t) rj:=by
   refine k6.BX (F:=fun n m=>wR (qw n) n m a b c d e 0 t) ?_;refine kg.up (S:=Unit) (L:=fun n m i s=>wR (qw n) n m a b c d e i t) t.lr.length (fun _ _=>True) rj ?_ ?_ 0 () (by omega) trivial
   ·intro i s hi _ next
    refine kg.lp (fun n m=>by simp only[I8,AX,mB];exact rfl) ?_;simp only[hi,iz,decide_true,jF];refine kg.Cv hi ?_;have hm:=t.D1 (iA hi);rw[k9 (by unfold xO at hk;omega)];refine kg.nJ (ahG _ _) fun x _=>?_
    refine kg.nJ (ih _ (by omega) _ rfl _ _ _ _ _ (by omega)) fun x _=>?_
    (repeat' (first|exact k6.pure trivial|exact kg.pure trivial|refine k6.pL (fun _=>?_) (fun _=>?_)|refine kg.pL (fun _=>?_) (fun _=>?_)))
    exact next s trivial
   ·intro s _;refine kg.lp (fun n m=>by simp only[I8,AX,mB];exact rfl) ?_;simp only[iy,decide_false,jG];exact kg.pure trivial
  have k2:k6 (fun n=>wS (qw n) n n a b c d e 0 t) rj:=by
   refine k6.BX (F:=fun n m=>wS (qw n) n m a b c d e 0 t) ?_;refine kg.up (S:=Unit) (L:=fun n m i s=>wS (qw n) n m a b c d e i t) t.kC.length (fun _ _=>True) rj ?_ ?_ 0 () (by omega) trivial
   ·intro i s hi _ next
    refine kg.lp (fun n m=>by simp only[I9,AY,mB];exact rfl) ?_;simp only[hi,iz,decide_true,jF];refine kg.Cv hi ?_;have hm:=t.aqN (iA hi);rw[k9 (by unfold xO at hk;omega)];refine kg.nJ (ahH _ _ _ (by omega)) fun x _=>?_
    (repeat' (first|exact k6.pure trivial|exact kg.pure trivial|refine k6.pL (fun _=>?_) (fun _=>?_)|refine kg.pL (fun _=>?_) (fun _=>?_)))
    exact next s trivial
   ·intro s _;refine kg.lp (fun n m=>by simp only[I9,AY,mB];exact rfl) ?_;simp only[iy,decide_false,jG]
    (repeat' (first|exact k6.pure trivial|exact kg.pure trivial|refine k6.pL (fun _=>?_) (fun _=>?_)|refine kg.pL (fun _=>?_) (fun _=>?_)))
    all_goals exact kg.of1 k1
  refine k6.bind (awN _) fun x _=>?_
  (repeat' (first|exact k6.pure trivial|exact kg.pure trivial|refine k6.pL (fun _=>?_) (fun _=>?_)|refine kg.pL (fun _=>?_) (fun _=>?_)))
  ·refine k6.bind (YE _ (by omega)) fun x _=>?_
   (repeat' (first|exact k6.pure trivial|exact kg.pure trivial|refine k6.pL (fun _=>?_) (fun _=>?_)|refine kg.pL (fun _=>?_) (fun _=>?_)))
   exact k2
  ·exact k2
theorem auo(t:jX)(a b c d:Int)(hk:t.kU<xO):k6 (fun n=>Ik n t a b c d) rj:=by
 refine k6.fn (fun n=>by simp only[Ik,kB,Ri,mB];exact rfl) ?_;refine k6.bind (aun _ _ _ _ _ _ hk) fun x _=>?_
 (repeat' (first|exact k6.pure trivial|exact kg.pure trivial|refine k6.pL (fun _=>?_) (fun _=>?_)|refine kg.pL (fun _=>?_) (fun _=>?_)))
 refine k6.bind (YD _ hk) fun x _=>?_
 (repeat' (first|exact k6.pure trivial|exact kg.pure trivial|refine k6.pL (fun _=>?_) (fun _=>?_)|refine kg.pL (fun _=>?_) (fun _=>?_)))
 refine k6.bind (UY _ hk) fun x _=>?_
 (repeat' (first|exact k6.pure trivial|exact kg.pure trivial|refine k6.pL (fun _=>?_) (fun _=>?_)|refine kg.pL (fun _=>?_) (fun _=>?_)))
theorem zf(t:jX)(hk:t.kU<xO):k6 (fun n=>RR n t) rj:=by
 refine k6.fn (fun n=>by simp only[RR,kB,abe,mB];exact rfl) ?_;refine k6.bind (YD _ hk) fun x _=>?_
 (repeat' (first|exact k6.pure trivial|exact kg.pure trivial|refine k6.pL (fun _=>?_) (fun _=>?_)|refine kg.pL (fun _=>?_) (fun _=>?_)))
 refine k6.bind (UY _ hk) fun x _=>?_
 (repeat' (first|exact k6.pure trivial|exact kg.pure trivial|refine k6.pL (fun _=>?_) (fun _=>?_)|refine kg.pL (fun _=>?_) (fun _=>?_)))
theorem lh.agv(x:lh):x.ol.length<x.kU:=by rw[lh.xC];have:=uU kw.ve x.ol;omega
theorem lh.aA8(x:lh):x.body.kU<x.kU:=by rw[lh.xC];omega
theorem lh.D1{x:lh}{b:kw}(h:b∈x.ol):b.tj.kU<x.kU:=by rw[lh.xC x];have:=wk (f:=kw.kU) h;rw[kw.xC]at this;omega
theorem amE:∀(t:lh)(a:Int),t.kU<xO->k6 (fun n=>xn n t a) rj:=by
 intro t;induction h:t.kU using iH generalizing t with
 |ind k ih=>
  intro a hk;have hl:=t.agv;have hl2:=t.aA8;refine k6.fn (fun n=>by simp only[xn,kB,NU,mB];exact rfl) ?_
  (repeat' (first|exact k6.pure trivial|exact kg.pure trivial|refine k6.pL (fun _=>?_) (fun _=>?_)|refine kg.pL (fun _=>?_) (fun _=>?_)))
  refine k6.bind (zf _ (by omega)) fun x _=>?_
  (repeat' (first|exact k6.pure trivial|exact kg.pure trivial|refine k6.pL (fun _=>?_) (fun _=>?_)|refine kg.pL (fun _=>?_) (fun _=>?_)))
  refine k6.BX (F:=fun n m=>AT (xn n) n m a 0 t) ?_;refine kg.up (S:=Unit) (L:=fun n m i s=>AT (xn n) n m a i t) t.ol.length (fun _ _=>True) rj ?_ ?_ 0 () (by omega) trivial
  ·intro i s hi _ next
   refine kg.lp (fun n m=>by simp only[Sk,AS,mB];exact rfl) ?_;simp only[hi,iz,decide_true,jF];refine kg.Cv hi ?_;have hm:=t.D1 (iA hi);rw[k9 (by unfold xO at hk;omega)];refine kg.nJ (ih _ (by omega) _ rfl _ (by omega)) fun x _=>?_
   (repeat' (first|exact k6.pure trivial|exact kg.pure trivial|refine k6.pL (fun _=>?_) (fun _=>?_)|refine kg.pL (fun _=>?_) (fun _=>?_)))
   refine kg.Cv hi ?_
   (repeat' (first|exact k6.pure trivial|exact kg.pure trivial|refine k6.pL (fun _=>?_) (fun _=>?_)|refine kg.pL (fun _=>?_) (fun _=>?_)))
   exact next s trivial
  ·intro s _;refine kg.lp (fun n m=>by simp only[Sk,AS,mB];exact rfl) ?_;simp only[iy,decide_false,jG];exact kg.pure trivial
theorem aA9(a b:kD):eqb a b=(a.index==b.index&&a.plus==b.plus):=by
 rw[iX,aax,iV,jM,jM];cases a;cases b;simp
theorem aIw(a b:kE):eqb a b=(a.const==b.const&&eqb a.vars b.vars):=by
 rw[iX,aax,iV,jM,aax];cases a;cases b;simp
theorem aKS(a b:jX):eqb a b=(a.kind==b.kind&&(a.index==b.index&&(a.name==b.name&&(eqb a.kC b.kC&&eqb a.lr b.lr)))):=by
 rw[iX,aax];simp only[iV,jM,aax];cases a;cases b;simp only[jX.mk.injEq,jX.kind,jX.index,jX.name,jX.kC,jX.lr]
theorem alO(xs:List W)(ys:List O):((xs.length:Int) !=(ys.length:Int))=(xs.length !=ys.length):=by
 rw[iX,bne_iff_ne,bne_iff_ne];omega
theorem aym(a b:kE)(hk:a.kU<xO):Ev (fun n=>aff n a b) (eqb a b):=by
 have h1:=a.aqM;refine Ev.fn (fun n=>by simp only[aff,kB,afe,mB];exact rfl) ?_;rw[aIw];cases hc:(a.const==b.const)with
 |false=>
  have e:(a.const !=b.const)=true:=by simp only[bne,hc,jy]
  simp only[e,jF,iY];exact Ev.pure
 |true=>
  have e:(a.const !=b.const)=false:=by simp only[bne,hc,jq]
  simp only[e,jG,iL];by_cases hl:a.vars.length=b.vars.length
  ·have e:((a.vars.length:Int) !=(b.vars.length:Int))=false:=by rw[alO,hl];simp
   simp only[e,jG];refine Ev.BX (F:=fun n m=>Kj n m 0 a b) ?_;refine pm.same (L:=fun n m i=>Kj n m i a b) a.vars b.vars hl ?_ ?_
   ·intro i hi hj r hr;refine pm.lp (fun n m=>by simp only[agH,Ki,mB];exact rfl) ?_;simp only[hi,iz,decide_true,jF];rw[k9 (by unfold xO at hk;omega),aA9];exact pm.Cv hi (pm.Cv hj (pm.andThen hr))
   ·refine pm.lp (fun n m=>by simp only[agH,Ki,mB];exact rfl) ?_;simp only[iy,decide_false,jG];exact pm.pure
  ·have e:((a.vars.length:Int) !=(b.vars.length:Int))=true:=by rw[alO];simpa using hl
   simp only[e,jF];rw[aA7 hl];exact Ev.pure
theorem aoJ(a b:List kE)(hk:a.length<xO)(hb:∀l∈a,l.kU<xO):Ev (fun n=>La n a b) (eqb a b):=by
 refine Ev.fn (fun n=>by simp only[La,kB,NE,mB];exact rfl) ?_;by_cases hl:a.length=b.length
 ·have e:((a.length:Int) !=(b.length:Int))=false:=by rw[alO,hl];simp
  simp only[e,jG];refine Ev.BX (F:=fun n m=>AJ n m a b 0) ?_;refine pm.same (L:=fun n m i=>AJ n m a b i) a b hl ?_ ?_
  ·intro i hi hj r hr;refine pm.lp (fun n m=>by simp only[RS,AI,mB];exact rfl) ?_;simp only[hi,iz,decide_true,jF];rw[k9 (by unfold xO at hk;omega)];exact pm.Cv hi (pm.Cv hj (pm.nJ (aym _ _ (hb _ (iA hi))) (pm.andThen hr)))
  ·refine pm.lp (fun n m=>by simp only[RS,AI,mB];exact rfl) ?_;simp only[iy,decide_false,jG];exact pm.pure
 ·have e:((a.length:Int) !=(b.length:Int))=true:=by rw[alO];simpa using hl
  simp only[e,jF];rw[aA7 hl];exact Ev.pure
theorem Ev.orElse(h:Ev F r):Ev (fun n=>bif !c then some false else F n) (c&&r):=by
 cases c with
 |true=>exact h
 |false=>exact Ev.pure
theorem anF:∀(a b:jX),a.kU<xO->Ev (fun n=>EN n a b) (eqb a b):=by
 intro a;induction h:a.kU using iH generalizing a with
 |ind k ih=>
  intro b hk;have h1:=a.Pd;have h2:=a.agu;refine Ev.fn (fun n=>by simp only[EN,kB,afC,mB];exact rfl) ?_;rw[aKS];refine Ev.orElse (Ev.orElse (Ev.andThen (Ev.bind (aoJ _ _ (by omega) ?_) (Ev.andThen ?_))))
  ·intro l hl;have:=a.aqN hl;omega
  ·by_cases hl:a.lr.length=b.lr.length
   ·have e:((a.lr.length:Int) !=(b.lr.length:Int))=false:=by rw[alO,hl];simp
    simp only[e,jG];refine Ev.BX (F:=fun n m=>KH (EN n) n m 0 a b) ?_;refine pm.same (L:=fun n m i=>KH (EN n) n m i a b) a.lr b.lr hl ?_ ?_
    ·intro i hi hj r hr;refine pm.lp (fun n m=>by simp only[ag5,KG,mB];exact rfl) ?_;simp only[hi,iz,decide_true,jF];have:=a.D1 (iA hi);rw[k9 (by unfold xO at hk;omega)];exact pm.Cv hi (pm.Cv hj (pm.nJ (ih _ (by omega) _ rfl _ (by omega)) (pm.andThen hr)))
    ·refine pm.lp (fun n m=>by simp only[ag5,KG,mB];exact rfl) ?_;simp only[iy,decide_false,jG];exact pm.pure
   ·have e:((a.lr.length:Int) !=(b.lr.length:Int))=true:=by rw[alO];simpa using hl
    simp only[e,jF];rw[aA7 hl];exact Ev.pure
abbrev lm:Nat:=1048640
theorem aKT(h:((t.lr.length:Int)==2)=true):∃x y,t.lr=[x,y]:=by
 have h:t.lr.length=2:=by have:=jM.1 h;omega
 match hk:t.lr,h with
 |[x,y],_=>exact⟨x,y,rfl⟩
theorem aoK {x y:jX}(h:t.lr=[x,y]):x.kU+y.kU<t.kU:=by
 rw[jX.xC t,h];simp only[qa];omega
theorem aGc(h:k<=lm*2):decide ((k+1)*80<=17592186044416)=true:=by
 simp only[lm]at h;simp only[jL];omega
theorem aPc:∀(t:jX),∃r:List jX×jX,(∀lV:List jX,lV.length+t.kU<=lm*2->pm (fun n m=>V4 n m t lV) (lV++r.1,r.2))/\qa jX.kU r.1+r.2.kU<=t.kU+1:=by
 intro t;induction h:t.kU using iH generalizing t with
 |ind k ih=>
  cases hc:(t.kind==6&&((t.lr.length:Int)==2))with
  |false=>
   refine⟨([],t),fun lV ha=>?_,by simp only[qa];omega⟩
   ·refine pm.lp (fun n m=>by simp only[aje,M9,mB];exact rfl) ?_;rw[jx];cases h1:(t.kind==6)with
    |false=>simp only[jG];exact pm.pure
    |true=>
     rw[h1,iL]at hc;simp only[hc,jF,jG];exact pm.pure
  |true=>
   rw[iV]at hc;obtain⟨x,y,hxy⟩:=aKT hc.2;have hb:=aoK hxy;obtain⟨r,hr,hrb⟩:=ih y.kU (by omega) y rfl;refine⟨(x::r.1,r.2),fun lV ha=>?_,by simp only[qa];omega⟩;have h2:=hr (lV++[x]) (by have:=x.ve;simp only[iE,iG];omega);rw[ju,List.singleton_append]at h2;have i0:MI t.lr 0=some x:=by rw[hxy];rfl
   have i1:MI t.lr 1=some y:=by rw[hxy];rfl
   have Au:=aGc (k:=lV.length) (by omega);refine pm.lp (fun n m=>by simp only[aje,M9,mB];exact rfl) ?_;simp only[hc.1,hc.2,jF,i0,i1,iB,Au];exact h2
theorem aPd(t:jX)(ht:t.kU<=lm):∃r:List jX×jX,True/\Ev (fun n=>alH n t) r/\qa jX.kU r.1+r.2.kU<=t.kU+1:=by
 obtain⟨r,hr,hb⟩:=aPc t;have:=hr [] (by simp only[iK];omega);refine⟨r,trivial,?_,hb⟩;refine Ev.fn (fun n=>by simp only[alH,kB,ajf,mB];exact rfl) ?_;exact Ev.BX this
theorem aKU:∀(k:Nat)(pre mid suf:List jX),mid.length=k->pre.length+k<xO->pm (fun n m=>zG n m pre.length ((pre.length:Int)+mid.length-1) (pre++(mid++suf))) ((pre++(mid.reverse++suf),()),()):=by
 intro k;induction k using iH with
 |ind k ih=>
  intro pre mid suf hk aNl;refine pm.lp (fun n m=>by simp only[aaS,zF,mB];exact rfl) ?_
  match mid,hk with
  |[],hk=>
   have:decide ((pre.length:Int)<(pre.length:Int)+([]:List jX).length-1)=false:=by simp;omega
   simp only[this,jG];exact pm.pure
  |[x],hk=>
   have:decide ((pre.length:Int)<(pre.length:Int)+([x]:List jX).length-1)=false:=by simp
   simp only[this,jG];exact pm.pure
  |x::y'::rest,hk=>
   obtain⟨Po,y,hy⟩:∃Po y,y'::rest=Po++[y]:=⟨(y'::rest).dropLast,(y'::rest).getLast (by simp),(List.dropLast_concat_getLast (by simp)).symm⟩;rw[hy]at hk ⊢;simp only[iI,iE,iK]at hk;have hd:decide ((pre.length:Int)<(pre.length:Int)+(x::(Po++[y])).length-1)=true:=by simp only[iI,iE,iK,jL];omega
   have e1:((pre.length:Int)+(x::(Po++[y])).length-1)=((pre.length+Po.length+1:Nat):Int):=by simp only[iI,iE,iK];omega
   have g1:(pre++(x::(Po++[y])++suf))[pre.length+Po.length+1]? =some y:=by
    rw[je (by omega)];have:pre.length+Po.length+1-pre.length=Po.length+1:=by omega
    rw[this];simp
   have g0:(pre++(x::(Po++[y])++suf))[pre.length]? =some x:=by
    rw[je (by omega)];simp
   have s0:(pre++(x::(Po++[y])++suf)).set pre.length y=pre++(y::(Po++[y])++suf):=by
    rw[jn _ _ (by omega)];simp
   have g2:(pre++(y::(Po++[y])++suf))[pre.length+Po.length+1]? =some y:=by
    rw[je (by omega)];have:pre.length+Po.length+1-pre.length=Po.length+1:=by omega
    rw[this];simp
   have s1:(pre++(y::(Po++[y])++suf)).set (pre.length+Po.length+1) x=(pre++[y])++(Po++(x::suf)):=by
    rw[jn _ _ (by omega)];have:pre.length+Po.length+1-pre.length=Po.length+1:=by omega
    rw[this];simp only[jk,List.set_cons_succ,ju];rw[jn _ _ (by omega)];simp
   rw[e1]at hd;simp only[e1];simp only[hd,jF];have n0:(0:Int)<=((pre.length+Po.length+1:Nat):Int):=by omega
   have n1:(0:Int)<=(pre.length:Int):=by omega
   simp only[MI,n0,n1,jN,iO,g1,g0,g2,s0,s1,iB]
   have w1:IntKind.i64.wrap ((pre.length:Int)+1)=((pre++[y]).length:Int):=by
    unfold xO at aNl;rw[k9 (by omega)];simp
   have w2:IntKind.i64.wrap (((pre.length+Po.length+1:Nat):Int)-1)=((pre++[y]).length:Int)+Po.length-1:=by
    unfold xO at aNl;rw[sA (by omega) (by omega)];simp;omega
   rw[w1,w2];have:=ih Po.length (by omega) (pre++[y]) Po (x::suf) rfl (by simp;omega);have e:pre++((x::(Po++[y])).reverse++suf)=(pre++[y])++(Po.reverse++(x::suf)):=by simp
   rw[e];exact this
theorem agw(r:List jX)(h:r.length<xO):Ev (fun n=>Cy n r) ((r.reverse,()),()):=by
 refine Ev.fn (fun n=>by simp only[Cy,kB,F0,mB];exact rfl) ?_;have:=aKU r.length [] r [] rfl (by simpa using h);simp only[jg,jx,iK]at this;have w:IntKind.i64.wrap ((r.length:Int)-1)=(0:Nat)+(r.length:Int)-1:=by unfold xO at h;rw[sA (by omega) (by omega)];omega
 rw[w];exact Ev.BX this
noncomputable def D2 (t:jX):jX×List jX:=
 if h:t.kind=4/\t.lr.length=2 then
  ((D2 (t.lr[0]'(by omega))).1,(D2 (t.lr[0]'(by omega))).2++[t.lr[1]'(by omega)])
 else(t,[])
termination_by t.kU
decreasing_by all_goals exact jX.D1 _ (iA _)
theorem awO {x y:jX}(h:t.kind=4)(hk:t.lr=[x,y]):D2 t=((D2 x).1,(D2 x).2++[y]):=by
 rw[D2,dif_pos ⟨h,by rw[hk];rfl⟩];simp only[hk,List.getElem_cons_zero,List.getElem_cons_succ]
theorem aoL(h: ¬ (t.kind=4/\t.lr.length=2)):D2 t=(t,[]):=by
 rw[D2,dif_neg h]
theorem aPe(h:t.lr.length=2):∃x y,t.lr=[x,y]:=by
 match hk:t.lr,h with
 |[x,y],_=>exact⟨x,y,rfl⟩
theorem aRa(t:jX)(k:Int)(h: ¬ (t.kind=k/\t.lr.length=2)):(t.kind==k)=false\/((t.kind==k)=true/\((t.lr.length:Int)==2)=false):=by
 by_cases h1:t.kind=k
 ·refine .inr ⟨by simp [h1],?_⟩;rw[beq_eq_false_iff_ne];intro e;exact h ⟨h1,by omega⟩
 ·exact .inl (by simpa using h1)
theorem aDU:∀t:jX,qa jX.kU (D2 t).2+(D2 t).1.kU<=t.kU+1:=by
 intro t;induction h:t.kU using iH generalizing t with
 |ind k ih=>
  by_cases hc:t.kind=4/\t.lr.length=2
  ·obtain⟨x,y,hxy⟩:=aPe hc.2;have hb:=aoK hxy;have:=ih x.kU (by omega) x rfl;rw[awO hc.1 hxy]
   have e:∀xs:List jX,qa jX.kU (xs++[y])=qa jX.kU xs+y.kU:=by
    intro xs;induction xs with
    |nil=>simp only[jg,qa];omega
    |cons z zs ih=>simp only[jk,qa,ih];omega
   simp only[e];omega
  ·rw[aoL hc];simp only[qa];omega
theorem aIx(t:jX)(ht:t.kU<=lm):Ev (fun n=>Lc n t) (D2 t)/\Ev (fun n=>ya n t) (((D2 t).2,()),(D2 t).1,()):=by
 have key:∀(t:jX),t.kU<=lm->(∀lV:List jX,lV.length+t.kU<=lm*2->pm (fun n m=>EJ n m t lV) ((D2 t).1,(D2 t).2++lV.reverse))/\Ev (fun n=>ya n t) (((D2 t).2,()),(D2 t).1,()):=by
  intro t;induction h:t.kU using iH generalizing t with
  |ind k ih=>
   intro Cm;by_cases hc:t.kind=4/\t.lr.length=2
   ·obtain⟨x,y,hxy⟩:=aPe hc.2;have hb:=aoK hxy;obtain⟨hr,hs⟩:=ih x.kU (by omega) x rfl (by omega);have i0:MI t.lr 0=some x:=by rw[hxy];rfl
    have i1:MI t.lr 1=some y:=by rw[hxy];rfl
    have e1:(t.kind==4)=true:=by simp [hc.1]
    have e2:((t.lr.length:Int)==2)=true:=by simp [hc.2]
    have hsb:=aDU x;rw[awO hc.1 hxy];refine⟨fun lV ha=>?_,?_⟩
    ·have h2:=hr (lV++[y]) (by have:=y.ve;simp only[iE,iG];omega);have Au:=aGc (k:=lV.length) (by omega);refine pm.lp (fun n m=>by simp only[RU,AK,mB];exact rfl) ?_;simp only[e1,e2,jF,i0,i1,iB,Au];simpa only[List.reverse_append,List.reverse_cons,List.reverse_nil,jg,ju] using h2
    ·refine Ev.fn (fun n=>by simp only[ya,kB,K8,mB];exact rfl) ?_;simp only[bne,e1,e2,jq,jG,i0,i1,iB];have hlen:=uU jX.ve (D2 x).2;have Au:=aGc (k:=(D2 x).2.length) (by omega);refine Ev.bind hs ?_;simp only[Au,jF];exact Ev.pure
   ·rw[aoL hc];refine⟨fun lV ha=>?_,?_⟩
    ·refine pm.lp (fun n m=>by simp only[RU,AK,mB];exact rfl) ?_;have aRb:=agw lV (by unfold xO;simp only[lm]at ha;omega);rcases aRa t 4 hc with e|⟨e,e'⟩
     ·simp only[e,jG];exact pm.nJ aRb (by simp only[jC,jN,beq_self_eq_true,iM,jF,jX.lZ,iB,jg];exact pm.pure)
     ·simp only[e,e',jF,jG];exact pm.nJ aRb (by simp only[jC,jN,beq_self_eq_true,iM,jF,jX.lZ,iB,jg];exact pm.pure)
    ·refine Ev.fn (fun n=>by simp only[ya,kB,K8,mB];exact rfl) ?_;rcases aRa t 4 hc with e|⟨e,e'⟩
     ·simp only[bne,e,jy,jF];exact Ev.pure
     ·simp only[bne,e,e',jq,jy,jF,jG];exact Ev.pure
 obtain⟨h1,h2⟩:=key t ht;refine⟨?_,h2⟩;refine Ev.fn (fun n=>by simp only[Lc,kB,NF,mB];exact rfl) ?_;have:=h1 [] (by simp only[iK];omega);rw[List.reverse_nil,jx]at this;exact Ev.BX this
theorem Cj{n:Nat}(h:n<=lm):n<xO:=by simp only[lm]at h;unfold xO;omega
theorem mL.ve(x:mL):1<=x.kU:=by rw[mL.kU];omega
theorem qH.ve(x:qH):1<=x.kU:=by rw[qH.kU];omega
theorem ky.aNm{c:mL}(h:c∈d.qZ):c.type.kU<=d.kU/\c.name.length<=d.kU:=by
 have:=wk (f:=mL.kU) h;rw[mL.kU]at this;rw[ky.kU];omega
theorem ky.azq(d:ky):d.qZ.length<=d.kU:=by
 have:=uU mL.ve d.qZ;rw[ky.kU];omega
theorem aqO(d:ky)(hd:d.kU<=lm):k6 (fun n=>Rh n d) rj:=by
 have hd':=hd;rw[ky.kU]at hd';have hl1:=d.azq;have hl2:=uU qH.ve d.Al;have hl3:qa jX.kU d.pd.yG<d.pd.kU:=by rw[kZ.kU];omega
 have hl4:=uU jX.ve d.pd.yG;have hl5:d.pd.type.kU<d.pd.kU:=by rw[kZ.kU];omega
 have k1:k6 (fun n=>Aq n n 0 d) rj:=by
  refine k6.BX (F:=fun n m=>Aq n m 0 d) ?_;refine kg.up (S:=Unit) (L:=fun n m i s=>Aq n m i d) d.Al.length (fun _ _=>True) rj ?_ ?_ 0 () (by omega) trivial
  ·intro i s hi _ next
   refine kg.lp (fun n m=>by simp only[X6,Dz,mB];exact rfl) ?_;simp only[hi,iz,decide_true,jF];refine kg.Cv hi ?_;have hm:=wk (f:=qH.kU) (iA hi);rw[qH.kU]at hm
   (repeat' (first|exact k6.pure trivial|exact kg.pure trivial|refine k6.pL (fun _=>?_) (fun _=>?_)|refine kg.pL (fun _=>?_) (fun _=>?_)))
   refine kg.Cv hi ?_;refine kg.nJ (zf _ (Cj (by omega))) fun x _=>?_
   (repeat' (first|exact k6.pure trivial|exact kg.pure trivial|refine k6.pL (fun _=>?_) (fun _=>?_)|refine kg.pL (fun _=>?_) (fun _=>?_)))
   refine kg.Cv hi ?_;refine kg.nJ (amE _ _ (Cj (by omega))) fun x _=>?_
   (repeat' (first|exact k6.pure trivial|exact kg.pure trivial|refine k6.pL (fun _=>?_) (fun _=>?_)|refine kg.pL (fun _=>?_) (fun _=>?_)))
   rw[k9 (by simp only[lm]at hd hd';omega)];exact next s trivial
  ·intro s _;refine kg.lp (fun n m=>by simp only[X6,Dz,mB];exact rfl) ?_;simp only[iy,decide_false,jG];exact kg.pure trivial
 have k2:k6 (fun n=>Ar n n 0 d) rj:=by
  refine k6.BX (F:=fun n m=>Ar n m 0 d) ?_;refine kg.up (S:=Unit) (L:=fun n m i s=>Ar n m i d) d.pd.yG.length (fun _ _=>True) rj ?_ ?_ 0 () (by omega) trivial
  ·intro i s hi _ next
   refine kg.lp (fun n m=>by simp only[X7,DA,mB];exact rfl) ?_;simp only[hi,iz,decide_true,jF];refine kg.Cv hi ?_;have hm:=wk (f:=jX.kU) (iA hi);refine kg.nJ (zf _ (Cj (by omega))) fun x _=>?_
   (repeat' (first|exact k6.pure trivial|exact kg.pure trivial|refine k6.pL (fun _=>?_) (fun _=>?_)|refine kg.pL (fun _=>?_) (fun _=>?_)))
   rw[k9 (by simp only[lm]at hd hd';omega)];exact next s trivial
  ·intro s _;refine kg.lp (fun n m=>by simp only[X7,DA,mB];exact rfl) ?_;simp only[iy,decide_false,jG];exact kg.of1 k1
 have k3:k6 (fun n=>As n n 0 d) rj:=by
  refine k6.BX (F:=fun n m=>As n m 0 d) ?_;refine kg.up (S:=Unit) (L:=fun n m i s=>As n m i d) d.qZ.length (fun _ _=>True) rj ?_ ?_ 0 () (by omega) trivial
  ·intro i s hi _ next
   refine kg.lp (fun n m=>by simp only[X8,DB,mB];exact rfl) ?_;simp only[hi,iz,decide_true,jF];refine kg.Cv hi ?_;have hm:=(ky.aNm (iA hi)).1
   (repeat' (first|exact k6.pure trivial|exact kg.pure trivial|refine k6.pL (fun _=>?_) (fun _=>?_)|refine kg.pL (fun _=>?_) (fun _=>?_)))
   refine kg.Cv hi ?_;refine kg.nJ (zf _ (Cj (by omega))) fun x _=>?_
   (repeat' (first|exact k6.pure trivial|exact kg.pure trivial|refine k6.pL (fun _=>?_) (fun _=>?_)|refine kg.pL (fun _=>?_) (fun _=>?_)))
   rw[k9 (by simp only[lm]at hd hd';omega)];exact next s trivial
  ·intro s _;refine kg.lp (fun n m=>by simp only[X8,DB,mB];exact rfl) ?_;simp only[iy,decide_false,jG];exact kg.of1 k2
 refine k6.fn (fun n=>by simp only[Rh,kB,UH,mB];exact rfl) ?_
 (repeat' (first|exact k6.pure trivial|exact kg.pure trivial|refine k6.pL (fun _=>?_) (fun _=>?_)|refine kg.pL (fun _=>?_) (fun _=>?_)))
 refine k6.bind (zf _ (Cj (by omega))) fun x _=>?_
 (repeat' (first|exact k6.pure trivial|exact kg.pure trivial|refine k6.pL (fun _=>?_) (fun _=>?_)|refine kg.pL (fun _=>?_) (fun _=>?_)))
 refine k6.bind (zf _ (Cj (by omega))) fun x _=>?_
 (repeat' (first|exact k6.pure trivial|exact kg.pure trivial|refine k6.pL (fun _=>?_) (fun _=>?_)|refine kg.pL (fun _=>?_) (fun _=>?_)))
 refine k6.bind (zf _ (Cj (by omega))) fun x _=>?_
 (repeat' (first|exact k6.pure trivial|exact kg.pure trivial|refine k6.pL (fun _=>?_) (fun _=>?_)|refine kg.pL (fun _=>?_) (fun _=>?_)))
 exact k3
noncomputable def ab8 (s:kp) (t:jX):Bool:=(t.kind==3&&t.name==s)||t.lr.attach.any (fun k=>ab8 s k.1)
termination_by t.kU
decreasing_by exact jX.D1 _ k.2
theorem aqP(s:kp)(t:jX):ab8 s t=((t.kind==3&&t.name==s)||t.lr.any (ab8 s)):=by
 have h:∀xs:List jX,(xs.attach.any fun k=>ab8 s k.1)=xs.any (ab8 s):=by
  intro xs;have:=congrArg (List.any · (ab8 s)) (List.attach_map_subtype_val xs);simp only[List.any_map]at this;rw[<-this];rfl
 rw[ab8,h]
theorem D3(p:W->Bool)(xs:List W)(i:Nat)(h:i<xs.length):(xs.drop i).any p=(p xs[i]||(xs.drop (i+1)).any p):=by
 rw[iC h,iU]
theorem MH(l:List kp)(s:kp)(hl:l.length<xO):Ev (fun n=>Kv n l s) (l.any (· ==s)):=by
 refine k6.ev ?_;refine k6.fn (fun n=>by simp only[Kv,kB,an7,mB];exact rfl) ?_;refine k6.BX (F:=fun n m=>RQ n m l s 0) ?_;refine kg.up (S:=Unit) (L:=fun n m i _=>RQ n m l s i) l.length (fun i _=>l.any (· ==s)=(l.drop i).any (· ==s)) _ ?_ ?_ 0 () (by omega) rfl
 ·intro i u hi hI next
  refine kg.lp (fun n m=>by simp only[amZ,RP,mB];exact rfl) ?_;simp only[hi,iz,decide_true,jF];refine kg.Cv hi ?_;rw[D3 _ _ _ hi]at hI;refine kg.pL (fun hc=>kg.pure ?_) fun hc=>?_
  ·rw[hI,hc,iM]
  ·rw[k9 (by unfold xO at hl;omega)];exact next u (by rw[hI,hc,iJ])
 ·intro u hI;refine kg.lp (fun n m=>by simp only[amZ,RP,mB];exact rfl) ?_;simp only[iy,decide_false,jG];refine kg.pure ?_;rw[hI,iF];rfl
theorem agx(l:List kp)(s:kp)(hl:l.length<xO):Ev (fun n=>IX n l s) (l.any (· ==s)):=by
 refine k6.ev ?_;refine k6.fn (fun n=>by simp only[IX,kB,Zq,mB];exact rfl) ?_;refine k6.BX (F:=fun n m=>Ex n m l s 0) ?_;refine kg.up (S:=Unit) (L:=fun n m i _=>Ex n m l s i) l.length (fun i _=>l.any (· ==s)=(l.drop i).any (· ==s)) _ ?_ ?_ 0 () (by omega) rfl
 ·intro i u hi hI next
  refine kg.lp (fun n m=>by simp only[M8,Ew,mB];exact rfl) ?_;simp only[hi,iz,decide_true,jF];refine kg.Cv hi ?_;rw[D3 _ _ _ hi]at hI;refine kg.pL (fun hc=>kg.pure ?_) fun hc=>?_
  ·rw[hI,hc,iM]
  ·rw[k9 (by unfold xO at hl;omega)];exact next u (by rw[hI,hc,iJ])
 ·intro u hI;refine kg.lp (fun n m=>by simp only[M8,Ew,mB];exact rfl) ?_;simp only[iy,decide_false,jG];refine kg.pure ?_;rw[hI,iF];rfl
theorem aHk(h:k<=lm*2):decide ((k+1)*16<=17592186044416)=true:=by
 simp only[lm]at h;simp only[jL];omega
theorem aIy:∀(t:jX)(l:List kp),l.length+t.kU<=lm*2->k6 (fun n=>yc n l t) (fun r=>r.1.1.length<=l.length+t.kU/\∀s,r.1.1.any (· ==s)=(l.any (· ==s)||ab8 s t)):=by
 intro t;induction h:t.kU using iH generalizing t with
 |ind k ih=>
  intro l hk;have hl:=t.Pd;have aNl:l.length<xO:=by simp only[lm]at hk;unfold xO;omega
  have hb:1+qa jX.kU t.lr<=t.kU:=by rw[jX.xC];omega
  have loop:∀(l0:List kp),l0.length<=l.length+1->k6 (fun n=>Br (yc n) n n 0 l0 t) (fun r=>r.1.1.length<=l.length+k/\∀s,r.1.1.any (· ==s)=(l0.any (· ==s)||t.lr.any (ab8 s))):=by
   intro l0 hl0;refine k6.BX (F:=fun n m=>Br (yc n) n m 0 l0 t) ?_;refine kg.up (S:=List kp) (L:=fun n m i r=>Br (yc n) n m i r t) t.lr.length (fun i r=>r.length+qa jX.kU (t.lr.drop i)<=l.length+k/\∀s,(l0.any (· ==s)||t.lr.any (ab8 s))=(r.any (· ==s)||(t.lr.drop i).any (ab8 s))) _ ?_ ?_ 0 l0 (by omega) ⟨by simp only[iN];omega,fun s=>by simp⟩
   ·intro i r hi hI next
    refine kg.lp (fun n m=>by simp only[ZY,Fm,mB];exact rfl) ?_;simp only[hi,iz,decide_true,jF];refine kg.Cv hi ?_;obtain⟨hI1,hI2⟩:=hI;have rQ:=t.D1 (iA hi);have e:qa jX.kU (t.lr.drop i)=t.lr[i].kU+qa jX.kU (t.lr.drop (i+1)):=by rw[iC hi];simp only[qa]
    have azN:1<=qa jX.kU (t.lr.drop (i+1)):=alg _;refine kg.nJ (ih _ (by omega) _ rfl r (by omega)) fun x hx=>?_
    rw[k9 (by simp only[lm]at hk;omega)];refine next _ ⟨by have:=hx.1;omega,fun s=>?_⟩
    rw[hI2 s,D3 _ _ _ hi,hx.2 s,jj]
   ·intro r hI;refine kg.lp (fun n m=>by simp only[ZY,Fm,mB];exact rfl) ?_;simp only[iy,decide_false,jG];obtain⟨hI1,hI2⟩:=hI;refine kg.pure ⟨by show r.length<=_;omega,fun s=>?_⟩;rw[hI2 s,iF];simp
  refine k6.fn (fun n=>by simp only[yc,kB,XA,mB];exact rfl) ?_;refine k6.pL (fun h3=>?_) fun h3=>?_
  ·refine k6.bind ((MH l t.name aNl).tot (Q:=(· =l.any (· ==t.name))) rfl) fun x hx=>?_
   refine k6.pL (fun hc=>?_) fun hc=>?_
   ·refine(loop l (by omega)).imp fun r hr=>⟨hr.1,fun s=>?_⟩
    rw[hr.2 s,aqP,h3,iL];cases hs:(t.name==s)with
    |false=>rfl
    |true=>
     have:=jM.1 hs;rw[<-this,<-hx,hc];simp
   ·have Au:=aHk (k:=l.length) (by omega);simp only[Au,jF];refine(loop (l++[t.name]) (by simp)).imp fun r hr=>⟨hr.1,fun s=>?_⟩
    rw[hr.2 s,aqP,h3,iL,iT];simp [jj]
  ·refine(loop l (by omega)).imp fun r hr=>⟨hr.1,fun s=>?_⟩
   rw[hr.2 s,aqP,h3,iY,iJ]
theorem aup(t:jX)(h:t.kU<=lm):k6 (fun n=>Wn n t) (fun r=>r.length<=lm/\∀s,r.any (· ==s)=ab8 s t):=by
 refine k6.fn (fun n=>by simp only[Wn,kB,X5,mB];exact rfl) ?_;refine k6.bind (aIy t [] (by simp only[iK];omega)) fun x hx=>?_
 refine k6.pure ⟨?_,fun s=>by rw[hx.2 s];rfl⟩;have:=hx.1;simp only[iK]at this;omega
theorem aay{W:Type}(x s:kp)(v:W):∀es:List (kp×W),FZ x (agE s v es)=bif x==s then some v else FZ x es
 |[]=>rfl
 |(k,u)::es=>by
  simp only[agE];cases h:(s==k)with
  |true=>
   obtain rfl:=jM.1 h;simp only[jF,FZ];cases x==s<;>rfl
  |false=>
   simp only[jG,FZ,aay x s v es];cases h2:(x==k)with
   |true=>
    obtain rfl:=jM.1 h2
    have:(x==s)=false:=by
     cases h3:(x==s)with
     |false=>rfl
     |true=>obtain rfl:=jM.1 h3;rw[h2]at h;cases h
    rw[this];rfl
   |false=>rfl
theorem as1{W:Type}:∀(n:Nat)(v:yH W n),(Es n v).length=n
 |0,_=>rfl
 |n+1,v=>by rw[Es,iI,as1 n v.2]
def aBa(met:List (kp×Bool))(out:List kp):Prop:=∀s,(FZ s met).getD false=out.any (· ==s)
abbrev aPf(met:List (kp×Bool))(out:List kp):(((Unit×Int)×(Unit×(Unit×((List (kp×Bool))×((List kp)×Unit)))))×(Bool×Unit)):=((((),0),(),(),met,out,()),true,())
theorem aBb(d:Int)(t:jX)(met:List (kp×Bool))(out:List kp)(hk:out.length<=lm*2)(hm:aBa met out):
 k6 (fun n=>wJ n d t met out) (fun r=>∃aqQ Wt,r=aPf aqQ Wt/\Wt.length<=out.length+1/\aBa aqQ Wt/\∀s,Wt.any (· ==s)=(out.any (· ==s)||(t.kind==3&&t.name==s))):=by
 refine k6.fn (fun n=>by simp only[wJ,kB,yV,mB];exact rfl) ?_;refine k6.pL (fun h3=>?_) fun h3=>?_
 ·refine k6.pL (fun hf=>?_) fun hf=>?_
  ·refine k6.pure ⟨met,out,rfl,by omega,hm,fun s=>?_⟩;rw[h3,iL];cases hs:(t.name==s)with
   |false=>rw[iS]
   |true=>
    have:=jM.1 hs;rw[<-this,<-hm,hf];rfl
  ·rw[aHk hk,jF];refine k6.pure ⟨_,_,rfl,by simp,fun s=> ?_,fun s=> ?_⟩
   ·rw[aay,iT];cases hs:(s==t.name)with
    |true=>obtain rfl:=jM.1 hs;simp
    |false=>
     have:(t.name==s)=false:=by
      cases h:(t.name==s)with
      |false=>rfl
      |true=>obtain rfl:=jM.1 h;rw[hs]at h;cases h
     simp only[jG,iU,iZ,this,iS];exact hm s
   ·rw[h3,iL,iT];simp
 ·exact k6.pure ⟨met,out,rfl,by omega,hm,fun s=>by rw[h3,iY,iS]⟩
abbrev aBc(K:yH kn 13)(met:List (kp×Bool))(out:List kp):((Unit×((((yH kn 13)×Unit)×Unit)×((Unit×Int)×(Unit×(Unit×((List (kp×Bool))×((List kp)×Unit)))))))×(Bool×Unit)):=(((),((K,()),()),((),0),(),(),met,out,()),true,())
theorem aBd(K:yH kn 13):∀(t:jX)(d:Int)(met:List (kp×Bool))(out:List kp),out.length+t.kU<=lm*2->aBa met out->
 k6 (fun n=>sI n t d K K met out) (fun r=>∃aqQ Wt,r=aBc K aqQ Wt/\Wt.length<=out.length+t.kU/\aBa aqQ Wt/\∀s,Wt.any (· ==s)=(out.any (· ==s)||ab8 s t)):=by
 intro t;induction h:t.kU using iH generalizing t with
 |ind k ih=>
  intro d met out hk hm;have hl:=t.Pd;have hb:1+qa jX.kU t.lr<=t.kU:=by rw[jX.xC];omega
  have loop:∀(below:Int)(aKV:List (kp×Bool))(aBe:List kp),aBe.length<=out.length+1->aBa aKV aBe->
   k6 (fun n=>uK (sI n) n n d below t.lr t.lr.length 0 K 0 aKV aBe) (fun r=>∃aqQ Wt,r=aBc K aqQ Wt/\Wt.length<=out.length+k/\aBa aqQ Wt/\∀s,Wt.any (· ==s)=(aBe.any (· ==s)||t.lr.any (ab8 s))):=by
   intro below aKV aBe hl0 hm0;refine k6.BX (F:=fun n m=>uK (sI n) n m d below t.lr t.lr.length 0 K 0 aKV aBe) ?_
   refine kg.up (S:=List (kp×Bool)×List kp) (L:=fun n m i r=>uK (sI n) n m d below t.lr t.lr.length i K 0 r.1 r.2) t.lr.length
    (fun i r=>r.2.length+qa jX.kU (t.lr.drop i)<=out.length+k/\aBa r.1 r.2/\∀s,(aBe.any (· ==s)||t.lr.any (ab8 s))=(r.2.any (· ==s)||(t.lr.drop i).any (ab8 s))) _ ?_ ?_ 0 (aKV,aBe) (by omega) ⟨by simp only[iN];omega,hm0,fun s=>by simp⟩
   ·rintro i ⟨m1,o1⟩ hi ⟨hI1,hI2,hI3⟩ next
    have e:qa jX.kU (t.lr.drop i)=t.lr[i].kU+qa jX.kU (t.lr.drop (i+1)):=by rw[iC hi];simp only[qa]
    have azN:1<=qa jX.kU (t.lr.drop (i+1)):=alg _;have rQ:=t.D1 (iA hi);simp only at hI1 hI2 hI3
    have step:∀d':Int,kg (fun n m=>(sI n t.lr[i] d' K K m1 o1).bind fun x=>
          bif x.snd.fst then
           uK (sI n) n m d below t.lr t.lr.length (IntKind.i64.wrap ((i:Int)+1)) x.fst.snd.fst.fst.fst x.fst.snd.snd.fst.snd x.fst.snd.snd.snd.snd.snd.fst x.fst.snd.snd.snd.snd.snd.snd.fst
          else
           some (((),((x.fst.snd.fst.fst.fst,()),()),((),x.fst.snd.snd.fst.snd),(),(),x.fst.snd.snd.snd.snd.snd.fst,x.fst.snd.snd.snd.snd.snd.snd.fst,()),false,()))
     (fun r=>∃aqQ Wt,r=aBc K aqQ Wt/\Wt.length<=out.length+k/\aBa aqQ Wt/\∀s,Wt.any (· ==s)=(aBe.any (· ==s)||t.lr.any (ab8 s))):=by
     intro d';refine kg.nJ (ih _ (by omega) _ rfl d' m1 o1 (by omega) hI2) fun x hx=>?_
     obtain⟨m2,o2,rfl,h1,h2,h3⟩:=hx;simp only[jF];rw[k9 (by simp only[lm]at hk;omega)];refine next (m2,o2) ⟨by simp only;omega,h2,fun s=>?_⟩
     rw[hI3 s,D3 _ _ _ hi,h3 s,jj]
    refine kg.lp (fun n m=>by simp only[Vm,BB,mB];exact rfl) ?_;simp only[hi,iz,decide_true,jF,beq_self_eq_true];refine kg.Cv hi ?_;exact kg.pL (fun _=>step _) (fun _=>step _)
   ·rintro⟨m1,o1⟩ ⟨hI1,hI2,hI3⟩;refine kg.lp (fun n m=>by simp only[Vm,BB,mB];exact rfl) ?_;simp only[iy,decide_false,jG];refine kg.pure ⟨m1,o1,rfl,by simp only at hI1;omega,hI2,fun s=>?_⟩;rw[hI3 s,iF];simp
  refine k6.fn (fun n=>by simp only[sI,kB,QK];exact rfl) ?_;refine k6.bind (aBb d t met out (by have:=t.ve;omega) hm) fun x hx=>?_
  obtain⟨m1,o1,rfl,h1,h2,h3⟩:=hx;simp only[jF]
  have zx:∀below:Int,k6 (fun n=>uK (sI n) n n d below t.lr t.lr.length 0 K 0 m1 o1) (fun r=>∃aqQ Wt,r=aBc K aqQ Wt/\Wt.length<=out.length+k/\aBa aqQ Wt/\∀s,Wt.any (· ==s)=(out.any (· ==s)||ab8 s t)):=by
   intro below;refine(loop below m1 o1 h1 h2).imp fun r hr=>?_
   obtain⟨m',o',e,a,b,c⟩:=hr;exact⟨m',o',e,a,b,fun s=>by rw[c s,h3 s,aqP,jj]⟩
  refine k6.pL (fun a=>?_) (fun _=>zx _);refine k6.pL (fun b=>?_) (fun _=>zx _);have a':=jJ a;have b':=jJ b;have hi:t.kind.toNat<(Es 13 K).length:=by rw[as1];omega
  simp only[a',b',and_self,decide_true,jF,List.getElem?_eq_getElem hi,iB];exact zx _
theorem awP(t:jX)(h:t.kU<=lm):k6 (fun n=>aaa n t) (fun r=>r.length<=lm/\∀s,r.any (· ==s)=ab8 s t):=by
 refine k6.fn (fun n=>by simp only[aaa,kB,abz,mB];exact rfl) ?_;have hn:Ev (fun n=>Lq n t) t:=by refine Ev.fn (fun n=>by simp only[Lq,kB,V6,mB];exact rfl) ?_;exact Ev.pure
 refine k6.bind (hn.tot (Q:=(· =t)) rfl) fun x hx=>?_
 subst hx;have hu:k6 (fun n=>QB n) (fun _=>True):=by refine k6.fn (fun n=>by simp only[QB,kB,Zv];exact rfl) ?_;exact k6.pure trivial
 have h1:k6 (fun n=>Wm n x [] []) (fun r=>r.1.2.2.2.2.1.length<=lm/\∀s,r.1.2.2.2.2.1.any (· ==s)=ab8 s x):=by
  refine k6.fn (fun n=>by simp only[Wm,kB,XO,mC];exact rfl) ?_;refine k6.bind hu fun K _=>?_
  refine k6.bind (aBd K x 0 [] [] (by simp only[iK];omega) (fun s=>rfl)) fun y hy=>?_
  obtain⟨m,o,rfl,a,b,c⟩:=hy;refine k6.pure ⟨?_,fun s=>by simp only[c s,iZ,iJ]⟩;show o.length<=lm;simp only[iK]at a;omega
 refine k6.bind h1 fun y hy=>?_
 exact k6.pure hy
def anG(k:Int):Int:=bif (k==4||k==5||k==6||k==7)then 2 else bif (k==8||k==11)then 3 else bif (k==9||k==10)then 1 else 0
inductive OkT:jX->Prop
 |mk {t:jX} (h1:0<=t.kind) (h2:t.kind<13) (h3:(t.lr.length:Int)=anG t.kind) (h4:t.kind=0->0<=t.index) (h5:∀k∈t.lr,OkT k):OkT t
theorem OkT.lo(h:OkT t):0<=t.kind:=by cases h;assumption
theorem OkT.hi(h:OkT t):t.kind<13:=by cases h;assumption
theorem OkT.len(h:OkT t):(t.lr.length:Int)=anG t.kind:=by cases h;assumption
theorem OkT.Cv(h:OkT t):t.kind=0->0<=t.index:=by cases h;assumption
theorem OkT.kid(h:OkT t):∀k∈t.lr,OkT k:=by cases h;assumption
theorem ayn(k:Int):k6 (fun n=>Qz n k) (fun r=>r=anG k):=by
 refine k6.fn (fun n=>by simp only[Qz,kB,V3,mB];exact rfl) ?_
 repeat' (first|exact k6.pure (by grind [anG])|refine k6.pL (fun _=>?_) (fun _=>?_))
theorem ayo(t:jX):k6 (fun n=>QI n t) (fun r=>r=true->0<=t.kind/\t.kind<13/\(t.lr.length:Int)=anG t.kind):=by
 refine k6.fn (fun n=>by simp only[QI,kB,Wd,mB];exact rfl) ?_;refine k6.pL (fun _=>k6.pure fun h=>by cases h) fun h1=>?_
 refine k6.pL (fun _=>k6.pure fun h=>by cases h) fun h2=>?_
 refine k6.bind (ayn _) fun x hx=>?_
 refine k6.pL (fun _=>k6.pure fun h=>by cases h) fun h3=>?_
 have zx:0<=t.kind/\t.kind<13/\(t.lr.length:Int)=anG t.kind:=⟨by have:=jK h1;omega,by have:=jK h2;omega,by rw[<-hx];simpa using h3⟩
 repeat' (first|exact k6.pure (fun _=>zx)|refine k6.pL (fun _=>?_) (fun _=>?_))
theorem auq:∀(t:jX)(a b c d e:Int),t.kU<xO->k6 (fun n=>qw n t a b c d e) (fun r=>r=0->OkT t):=by
 intro t;induction h:t.kU using iH generalizing t with
 |ind k ih=>
  intro a b c d e hk;have hl:=t.Pd;have hl2:=t.agu;have hl3:=t.aqL;refine k6.fn (fun n=>by simp only[qw,kB,Rf,mB];exact rfl) ?_
  have k1:k6 (fun n=>wR (qw n) n n a b c d e 0 t) (fun r=>r=0->∀k∈t.lr,OkT k):=by
   refine k6.BX (F:=fun n m=>wR (qw n) n m a b c d e 0 t) ?_;refine kg.up (S:=Unit) (L:=fun n m i s=>wR (qw n) n m a b c d e i t) t.lr.length (fun i _=>∀k∈t.lr.take i,OkT k) _ ?_ ?_ 0 () (by omega) (fun k hk=>by simp at hk)
   ·intro i s hi hI next
    refine kg.lp (fun n m=>by simp only[I8,AX,mB];exact rfl) ?_;simp only[hi,iz,decide_true,jF];refine kg.Cv hi ?_;have hm:=t.D1 (iA hi);rw[k9 (by unfold xO at hk;omega)];refine kg.nJ (ahG _ _) fun x _=>?_
    refine kg.nJ (ih _ (by omega) _ rfl _ _ _ _ _ (by omega)) fun x hx=>?_
    refine kg.pL (fun hc=>kg.pure fun h0=>by simp [h0]at hc) fun hc=>next s ?_
    intro k hk;rw[iQ hi]at hk;rcases jb.1 hk with hk|hk
    ·exact hI k hk
    ·rw[iP]at hk;subst hk;exact hx (by simpa using hc)
   ·intro s hI;refine kg.lp (fun n m=>by simp only[I8,AX,mB];exact rfl) ?_;simp only[iy,decide_false,jG];rw[iW]at hI;exact kg.pure fun _=>hI
  have k2:k6 (fun n=>wS (qw n) n n a b c d e 0 t) (fun r=>r=0->(t.kind=0->0<=t.index)/\∀k∈t.lr,OkT k):=by
   refine k6.BX (F:=fun n m=>wS (qw n) n m a b c d e 0 t) ?_;refine kg.up (S:=Unit) (L:=fun n m i s=>wS (qw n) n m a b c d e i t) t.kC.length (fun _ _=>True) _ ?_ ?_ 0 () (by omega) trivial
   ·intro i s hi _ next
    refine kg.lp (fun n m=>by simp only[I9,AY,mB];exact rfl) ?_;simp only[hi,iz,decide_true,jF];refine kg.Cv hi ?_;have hm:=t.aqN (iA hi);rw[k9 (by unfold xO at hk;omega)];refine kg.nJ (ahH _ _ _ (by omega)) fun x _=>?_
    exact kg.pL (fun hc=>kg.pure fun h0=>by simp [h0]at hc) fun hc=>next s trivial
   ·intro s _;refine kg.lp (fun n m=>by simp only[I9,AY,mB];exact rfl) ?_;simp only[iy,decide_false,jG]
    repeat' (first|exact kg.pure (fun h=>by simp at h)|refine kg.pL (fun _=>?_) (fun _=>?_)|exact(kg.of1 k1).imp (fun r hr h0=>⟨fun hk=>by simp_all,hr h0⟩))
  refine k6.bind (ayo _) fun x hx=>?_
  have zx:x=true->∀r:Int,(r=0->(t.kind=0->0<=t.index)/\∀k∈t.lr,OkT k)->r=0->OkT t:=fun h r hr h0=>.mk (hx h).1 (hx h).2.1 (hx h).2.2 (hr h0).1 (hr h0).2
  repeat' (first|exact k6.pure (fun h=>by simp at h)|exact k2.imp (zx (by simp_all))|refine k6.pL (fun _=>?_) (fun _=>?_)|refine k6.bind (YE _ (by omega)) fun x _=>?_)
theorem aur(t:jX)(a b c d:Int)(hk:t.kU<xO):k6 (fun n=>Ik n t a b c d) (fun r=>r=0->OkT t):=by
 refine k6.fn (fun n=>by simp only[Ik,kB,Ri,mB];exact rfl) ?_;refine k6.bind (auq _ _ _ _ _ _ hk) fun x hx=>?_
 refine k6.pL (fun hc=>k6.pure fun h0=>by simp [h0]at hc) fun hc=>?_
 refine k6.bind (YD _ hk) fun y _=>?_
 refine k6.pL (fun hc=>k6.pure fun h0=>by simp at h0) fun hc=>?_
 refine k6.bind (UY _ hk) fun y _=>?_
 refine k6.pL (fun hc=>k6.pure fun h0=>by simp at h0) fun hc=>?_
 exact k6.pure fun _=>hx (by simp_all)
def kws:List kp:=[[102,117,110],[108,101,116],[105,110],[83,105,103,109,97],[80,114,111,112],[84,121,112,101],
       [98,121],[97,120,105,111,109],[100,101,102],[116,104,101,111,114,101,109],
       [105,110,100,117,99,116,105,118,101],[102,117,110,99,116,105,111,110],[97,110,100],
       [101,110,100],[99,108,97,115,115],[105,110,115,116,97,110,99,101],
       [110,111,116,97,116,105,111,110],[110,97,109,101,115,112,97,99,101],[111,112,101,110],
       [99,104,101,99,107],[101,118,97,108],[105,109,112,111,114,116]]
theorem aIz[BEq W][LawfulBEq W](xs:List W)(v:W)(hl:xs.length<4611686018427387904)
 (h:∀n m k,L n (m+1) k=bif decide (k<(xs.length:Int))then(MI xs k).bind fun x=>bif x==v then some true else L n m (IntKind.i64.wrap (k+1))else some false):
 pm (fun n m=>L n m 0) (xs.contains v):=by
 have key:∀d k:Nat,k+d=xs.length->pm (fun n m=>L n m (k:Int)) ((xs.drop k).contains v):=by
  intro d;induction d with
  |zero=>
   grind [pm.lp,pm.pure]
  |succ d ih=>
   intro k hk;have rQ:k<xs.length:=by omega
   refine pm.lp (fun n m=>h n m k) ?_;have:decide ((k:Int)<(xs.length:Int))=true:=jH (by omega);simp only[this];refine pm.Cv rQ ?_;rw[iC rQ,jh];rw[show(v==xs[k])=(xs[k]==v)from iX.2 ⟨fun h=>by simpa using (jM.1 h).symm,fun h=>by simpa using (jM.1 h).symm⟩];cases xs[k]==v with
   |true=>exact pm.pure
   |false=>
    grind [k9]
 simpa using key xs.length 0 (by omega)
theorem ayp(s:kp):Ev (fun n=>Rb n s) (kws.contains s):=by
 refine Ev.fn (fun n=>by simp only[Rb,kB,Uw,mB];exact rfl) ?_;exact Ev.BX (F:=fun n m=>I1 n m s kws 0) (aIz kws s (by decide) (fun n m k=>by simp only[an8,I0,mB]))
def aNN:List (kp×Bool):=kws.map fun s=>(s,true)
theorem aGd(k:Nat):Ii (k+250)=some ((aNN,()),()):=jO
theorem aDV:Ev (fun n=>Ii n) ((aNN,()),()):=by
 refine⟨250,fun n hn=>?_⟩;obtain⟨k,rfl⟩:∃k,n=k+250:=⟨n-250,by omega⟩;exact aGd k
theorem awQ(s:kp):∀xs:List kp,(FZ s (xs.map fun x=>(x,true))).getD false=xs.contains s
 |[]=>rfl
 |x::xs=>by
  rw[jB,FZ,jh];cases s==x with
  |true=>rfl
  |false=>exact awQ s xs
theorem aGe(s:kp):Ev (fun n=>KL n s) (kws.contains s):=by
 refine Ev.fn (fun n=>by simp only[KL,kB,UI,mB];exact rfl) ?_;refine Ev.bind aDV ?_;rw[<-awQ];exact Ev.pure
def ayq(out:List kp)(s:kp):List kp:=bif s==[]||out.contains s then out else out++[s]
def aaz(out:List kp)(ps:List kp):List kp:=ps.foldl ayq out
def aeD(out:List kp)(T:List jS):List kp:=T.foldl (fun out n=>aaz out n.parts) out
def ab9(T:List jS):Nat:=(T.map fun n=>n.parts.length).sum
theorem alQ:∀(ps:List kp)(out:List kp),(aaz out ps).length<=out.length+ps.length
 |[],out=>jf _
 |s::ps,out=>by
  have h1:=alQ ps (ayq out s)
  grind [aaz,ayq]
theorem aRc(xs:List kp)(s:kp)(hl:xs.length<=4000000):∀f,xs.length+2<=f->alI f xs s=some (xs.contains s):=by
 have key:∀(f d i:Nat),i+d=xs.length->∀k,d<k->Wb f k xs s (i:Int)=some ((xs.drop i).contains s):=by
  intro f d;induction d with
  |zero=>
   intro i hi k hk;obtain⟨k,rfl⟩:∃k',k=k'+1:=⟨k-1,by omega⟩;simp only[ajs,Ny,mB]
   grind
  |succ d ih=>
   intro i hi k hk;obtain⟨k,rfl⟩:∃k',k=k'+1:=⟨k-1,by omega⟩;have rQ:i<xs.length:=by omega
   simp only[ajs,Ny,tH rQ,iB,mB];rw[jH (show(i:Int)<(xs.length:Int) by omega),jF,iC rQ,jh,k9 (by omega)]
   grind
 intro f hf;obtain⟨f,rfl⟩:∃f',f=f'+1:=⟨f-1,by omega⟩;simp only[alI,ajt,mB];have:=key f xs.length 0 (by omega) f (by omega)
 rwa [iN]at this
theorem aNn(f:Nat)(X:List jS->Int->List kp->Option (List kp))(T:List jS)(i:Nat)(hi:i<T.length)(hl:T[i].parts.length<=1048640)(hT:T.length<=1048641)(hf:4000003<=f):
 ∀d j:Nat,∀out:List kp,j+d=T[i].parts.length->out.length+d<=4000000->∀k,d<k->Df f X k T (i:Int) (j:Int) out=X T ((i+1:Nat):Int) (aaz out (T[i].parts.drop j)):=by
 intro d;induction d with
 |zero=>
  intro j out hj ho k hk;obtain⟨k,rfl⟩:∃k',k=k'+1:=⟨k-1,by omega⟩;simp only[Xx,De,tH hi,iB,mB];rw[jI (show ¬ (j:Int)<(T[i].parts.length:Int) by omega),jG,k9 (by omega),jd (by omega)];rfl
 |succ d ih=>
  intro j out hj ho k hk;obtain⟨k,rfl⟩:∃k',k=k'+1:=⟨k-1,by omega⟩;have hjl:j<T[i].parts.length:=by omega
  simp only[Xx,De,tH hi,iB,tH hjl,mB];rw[jH (show(j:Int)<(T[i].parts.length:Int) by omega),jF,k9 (by omega),iC hjl];show _=X T _ (aaz (ayq out T[i].parts[j]) (T[i].parts.drop (j+1)));unfold ayq;cases T[i].parts[j]==[]with
  |true=>rw[jF,iM,jF];exact ih (j+1) out (by omega) (by omega) k (by omega)
  |false=>
   rw[jG,iJ,aRc out _ (by omega) f (by omega),iB];cases out.contains T[i].parts[j]with
   |true=>rw[jF,jF];exact ih (j+1) out (by omega) (by omega) k (by omega)
   |false=>
    rw[jG,jG,jH (show(out.length+1)*16<=17592186044416 by omega),jF];exact ih (j+1) _ (by omega) (by grind) k (by omega)
theorem aaA(n:jS)(T:List jS):ab9 (n::T)=n.parts.length+ab9 T:=by grind [ab9]
theorem aDW(T:List jS)(hT:T.length<=lm)(hN:∀n∈T,n.parts.length<=lm)(hp:ab9 T<=lm):Ev (fun f=>KE f T) (aeD [] T):=by
 simp only[lm]at hT hp;refine Ev.fn (fun n=>by simp only[KE,kB,Uz,mB];exact rfl) ?_
 have key:∀(d i:Nat)(out:List kp),i+d=T.length->out.length+ab9 (T.drop i)<=2000000->pm (fun f m=>Dh f m T (i:Int) out) (aeD out (T.drop i)):=by
  intro d;induction d with
  |zero=>
   intro i out hi ho;refine pm.lp (fun n m=>by simp only[Xy,Dg];exact rfl) ?_;have:decide ((i:Int)<(T.length:Int))=false:=jI (by omega);simp only[this,jG,jd (show T.length<=i by omega)];exact pm.pure
  |succ d ih=>
   intro i out hi ho;have rQ:i<T.length:=by omega
   have hs:=hN _ (iA rQ);simp only[lm]at hs;rw[iC rQ,aaA]at ho;refine pm.lp (fun n m=>by simp only[Xy,Dg];exact rfl) ?_;have:decide ((i:Int)<(T.length:Int))=true:=jH (by omega);simp only[this,jF];have hlen:=alQ T[i].parts out;obtain⟨N,hN'⟩:=ih (i+1) (aaz out T[i].parts) (by omega) (by omega);refine⟨max N 6000000,fun f m hf hm=>?_⟩;show Df f (Dh f m) f T (i:Int) ((0:Nat):Int) out=_;rw[aNn f _ T i rQ hs (by omega) (by omega) T[i].parts.length 0 out (by omega) (by omega) f (by omega),iN,iC rQ];exact hN' f m (by omega) (by omega)
 have:=key T.length 0 [] (by omega) (by grind)
 grind [Ev.BX]
def Met(m:List (kp×Bool))(out:List kp):Prop:=∀s,(FZ s m).getD false=(s==[]||out.contains s)
theorem Met.ins{m:List (kp×Bool)}{out:List kp}(h:Met m out)(hs:(FZ s m).getD false=false):Met (agE s true m) (out++[s]):=by
 intro t;rw[aay,jw,iT,<-jw,iU,iZ,iS];cases hts:t==s with
 |true=>simp
 |false=>rw[jG,h t,iS]
theorem aNo(f:Nat)(X:List jS->Int->Int->List (kp×Bool)->List kp->Option (List kp))(T:List jS)(tl:Int)(i:Nat)(parts:List kp)(hl:parts.length<=1048640)(hi:i<=1048641)(R:Option (List kp)):
 ∀d j:Nat,∀(m:List (kp×Bool))(out:List kp),j+d=parts.length->out.length+d<=4000000->Met m out->(∀m',Met m' (aaz out (parts.drop j))->X T tl ((i+1:Nat):Int) m' (aaz out (parts.drop j))=R)->∀k,d<k->
  CB f X k T tl (i:Int) parts (parts.length:Int) (j:Int) m out=R:=by
 intro d;induction d with
 |zero=>
  intro j m out hj ho hm hX k hk;obtain⟨k,rfl⟩:∃k',k=k'+1:=⟨k-1,by omega⟩;simp only[Px,zj,mB];rw[jI (show ¬ (j:Int)<(parts.length:Int) by omega),jG,k9 (by omega)];rw[jd (by omega)]at hX;exact hX m hm
 |succ d ih=>
  intro j m out hj ho hm hX k hk;obtain⟨k,rfl⟩:∃k',k=k'+1:=⟨k-1,by omega⟩;have hjl:j<parts.length:=by omega
  simp only[Px,zj,tH hjl,iB,mB];rw[jH (show(j:Int)<(parts.length:Int) by omega),jF,k9 (by omega)];rw[iC hjl]at hX;have hX:∀m',Met m' (aaz (ayq out parts[j]) (parts.drop (j+1)))->X T tl ((i+1:Nat):Int) m' (aaz (ayq out parts[j]) (parts.drop (j+1)))=R:=hX;unfold ayq at hX;rw[hm];cases hq:parts[j]==[]||out.contains parts[j]with
  |true=>
   rw[hq]at hX;rw[jF];exact ih (j+1) m out (by omega) (by omega) hm hX k (by omega)
  |false=>
   rw[hq]at hX;rw[jG,jH (show(out.length+1)*16<=17592186044416 by omega),jF];exact ih (j+1) _ _ (by omega) (by grind) (hm.ins (by rw[hm];exact hq)) hX k (by omega)
theorem aKW(T:List jS)(hT:T.length<=lm)(hN:∀n∈T,n.parts.length<=lm)(hp:ab9 T<=lm):Ev (fun f=>Am f T) (aeD [] T):=by
 simp only[lm]at hT hp;refine Ev.fn (fun n=>by simp only[Am,kB,Ls,mB];exact rfl) ?_
 have key:∀(d i:Nat)(out:List kp),i+d=T.length->out.length+ab9 (T.drop i)<=2000000->∃N,∀f m,N<=f->N<=m->∀mt,Met mt out->CC f m T (T.length:Int) (i:Int) mt out=some (aeD out (T.drop i)):=by
  intro d;induction d with
  |zero=>
   intro i out hi ho;refine⟨1,fun f m hf hm mt hmt=>?_⟩;obtain⟨m,rfl⟩:∃m',m=m'+1:=⟨m-1,by omega⟩;simp only[Py,zk];rw[jI (show ¬ (i:Int)<(T.length:Int) by omega),jG,jd (by omega)];rfl
  |succ d ih=>
   intro i out hi ho;have rQ:i<T.length:=by omega
   have hs:=hN _ (iA rQ);simp only[lm]at hs;rw[iC rQ,aaA]at ho;have hlen:=alQ T[i].parts out;obtain⟨N,hN'⟩:=ih (i+1) (aaz out T[i].parts) (by omega) (by omega);refine⟨max (N+1) 6000000,fun f m hf hm mt hmt=>?_⟩;obtain⟨m,rfl⟩:∃m',m=m'+1:=⟨m-1,by omega⟩;simp only[Py,zk,tH rQ,iB];rw[jH (show(i:Int)<(T.length:Int) by omega),jF,iC rQ];refine aNo f _ T _ i T[i].parts hs (by omega) _ T[i].parts.length 0 mt out (by omega) (by omega) hmt (fun m' hm'=>?_) f (by omega);rw[iN]at hm' ⊢;exact hN' f m (by omega) (by omega) m' hm'
 obtain⟨N,hN'⟩:=key T.length 0 [] (by omega) (by grind);rw[iN]at hN';refine⟨N,fun n hn=>hN' n n hn hn _ fun s=>?_⟩;rw[aay];cases s==[]<;>rfl
theorem azr:∀(T:List jS)(out:List kp),(aeD out T).length<=out.length+ab9 T
 |[],out=>jf _
 |n::T,out=>by
  have h1:=azr T (aaz out n.parts)
  grind [alQ,aeD,aaA]
theorem as2:∀T:List jS,ab9 T<=qa jS.kU T
 |[]=>Nat.zero_le _
 |n::T=>by
  have h1:=as2 T;have h2:=uU (f:=fun m:kp=>m.length+1) (fun _=>Nat.le_add_left _ _) n.parts
  grind [aaA,qa,jS.kU]
theorem aqR(h:k<=lm*4):decide ((k+1)*16<=17592186044416)=true:=by
 simp only[lm]at h;simp only[jL];omega
def aNp:kp:=[46,114,101,99]
def yz(d:ky):List kp:=
 bif d.kind==0 then [d.name] else bif d.kind==1 then [d.name] else bif d.kind==2 then [d.name] else
 bif d.kind==3 then d.name::d.qZ.map (·.name)++[d.name++aNp] else bif d.kind==4 then d.Al.map (·.name)else []
structure DOK(d:ky):Prop where
 qZ:d.qZ.length<=lm
 Al:d.Al.length<=lm
 name:d.name.length<=lm
theorem DOK.of(h:d.kU<=lm):DOK d:=by
 rw[ky.kU]at h;have h1:=d.azq;have h2:=uU qH.ve d.Al;have h3:=uU mL.ve d.qZ;exact⟨by omega,by omega,by omega⟩
theorem Q0(h:DOK d):(yz d).length<=lm+2:=by
 obtain⟨h1,h2,_⟩:=h;unfold yz;cases d.kind==0<;>cases d.kind==1<;>cases d.kind==2<;>cases d.kind==3<;>cases d.kind==4<;>simp [lm]<;>simp only[lm]at h1 h2<;>omega
theorem KY(f:W->O)(l:List W)(i:Nat)(h:i<l.length):(l.take (i+1)).map f=(l.take i).map f++[f l[i]]:=by
 rw[iQ h,List.map_append];rfl
theorem Pe(d:ky)(h:DOK d):Ev (fun n=>Hz n d) (yz d):=by
 obtain⟨h1,h2,h3⟩:=h;have hn:decide (d.name.length<=9223372036854775803)=true:=by simp only[lm]at h3;simp only[jL];omega
 refine Ev.fn (fun n=>by simp only[Hz,kB,aaM];exact rfl) ?_;unfold yz;cases d.kind==0 with
 |true=>exact Ev.pure
 |false=>
 cases d.kind==1 with
 |true=>exact Ev.pure
 |false=>
 cases d.kind==2 with
 |true=>exact Ev.pure
 |false=>
 cases d.kind==3 with
 |true=>
  simp only[jF,jG]
  have loop:∀(i:Nat)(s:List kp),i<=d.qZ.length->s=d.name::(d.qZ.take i).map (·.name)->kg (fun n m=>Hw n m i d s) (· =d.name::d.qZ.map (·.name)++[d.name++aNp]):=by
   refine kg.up (S:=List kp) (L:=fun n m i s=>Hw n m i d s) d.qZ.length (fun i s=>s=d.name::(d.qZ.take i).map (·.name)) _ ?_ ?_
   ·intro i s hi hs next
    refine kg.lp (fun n m=>by simp only[acC,Hv];exact rfl) ?_;have hl:s.length<=lm*4:=by rw[hs];simp only[iI,jc,iR,lm]at*;omega
    simp only[hi,iz,decide_true,jF,aqR hl];refine kg.Cv hi ?_;rw[k9 (by simp only[lm]at h1;omega)];exact next _ (by rw[hs,KY _ _ _ hi];rfl)
   ·intro s hs;refine kg.lp (fun n m=>by simp only[acC,Hv];exact rfl) ?_;have hl:s.length<=lm*4:=by rw[hs];simp only[iI,jc,iR,lm]at*;omega
    simp only[iy,decide_false,jG,hn,jF,aqR hl];exact kg.pure (by rw[hs,iW];rfl)
  refine k6.ev (k6.BX (F:=fun n m=>WV n m [d.name] 0 d) ?_);refine kg.lp (fun n m=>by simp only[WV,Uo];exact rfl) ?_;have hl:[d.name].length<=lm*4:=by simp [lm]
  refine kg.pL (fun hc=>?_) fun hc=>?_
  ·have hi:0<d.qZ.length:=by have:=jJ hc;omega
   refine kg.Cv (i:=0) hi ?_;simp only[aqR hl,jF];have e:IntKind.i64.wrap (0+1)=((1:Nat):Int):=rfl;rw[e];refine loop 1 _ hi ?_;rw[KY _ _ _ hi];rfl
  ·have hz:d.qZ=[]:=by
    have:=jK hc;exact List.eq_nil_of_length_eq_zero (by omega)
   simp only[hn,jF,aqR hl];exact kg.pure (by rw[hz];rfl)
 |false=>
 cases d.kind==4 with
 |true=>
  simp only[jF,jG];refine k6.ev (k6.BX (F:=fun n m=>Hy n m 0 d []) ?_);refine kg.up (S:=List kp) (L:=fun n m i s=>Hy n m i d s) d.Al.length (fun i s=>s=(d.Al.take i).map (·.name)) _ ?_ ?_ 0 _ (by omega) rfl
  ·intro i s hi hs next
   refine kg.lp (fun n m=>by simp only[acD,Hx];exact rfl) ?_;have hl:s.length<=lm*4:=by rw[hs];simp only[iI,jc,iR,lm]at*;omega
   simp only[hi,iz,decide_true,jF,aqR hl];refine kg.Cv hi ?_;rw[k9 (by simp only[lm]at h2;omega)];exact next _ (by rw[hs,KY _ _ _ hi])
  ·intro s hs;refine kg.lp (fun n m=>by simp only[acD,Hx];exact rfl) ?_;simp only[iy,decide_false,jG];exact kg.pure (by rw[hs,iW])
 |false=>exact Ev.pure
def aqS(i:Int)(p:Int)(name:kp):Nat->List mL->Option Entry
 |_,[]=>none
 |k,c::cs=>bif c.name==name then some {kind:=4,decl:=i,aiT:=k,params:=p,type:=c.type} else aqS i p name (k+1) cs
def aqT(i:Int)(p:Int)(name:kp):Nat->List qH->Option Entry
 |_,[]=>none
 |k,c::cs=>bif c.name==name then some {kind:=6,decl:=i,aiT:=k,params:=p,type:=c.type} else aqT i p name (k+1) cs
def acd(d:ky)(i:Int)(name:kp):Entry:=
 bif d.kind==0 then {kind:=0,decl:=i,aiT:=0,params:=d.params,type:=d.type} else
 bif d.kind==1 then {kind:=1,decl:=i,aiT:=0,params:=d.params,type:=d.type} else
 bif d.kind==2 then {kind:=2,decl:=i,aiT:=0,params:=d.params,type:=d.type} else
 bif d.kind==3 then bif name==d.name then {kind:=3,decl:=i,aiT:=0,params:=d.params,type:=d.type} else
  (aqS i d.params name 0 d.qZ).getD {kind:=5,decl:=i,aiT:=0,params:=d.pd.params,type:=d.pd.type}
 else(aqT i d.params name 0 d.Al).getD {kind:=0,decl:=i,aiT:=0,params:=d.params,type:=d.type}
theorem aqU(d:ky)(h:DOK d)(i:Int)(name:kp):Ev (fun n=>RB n d i name) (acd d i name):=by
 obtain⟨h1,h2,h3⟩:=h;refine Ev.fn (fun n=>by simp only[RB,kB,aaN,mB];exact rfl) ?_;unfold acd;cases d.kind==0 with
 |true=>exact Ev.pure
 |false=>
 cases d.kind==1 with
 |true=>exact Ev.pure
 |false=>
 cases d.kind==2 with
 |true=>exact Ev.pure
 |false=>
 simp only[jG];cases d.kind==3 with
 |true=>
  cases name==d.name with
  |true=>exact Ev.pure
  |false=>
   simp only[jF,jG];refine k6.ev (k6.BX (F:=fun n m=>HB n m i name 0 d) ?_);refine kg.up (S:=Unit) (L:=fun n m k _=>HB n m i name k d) d.qZ.length (fun k _=>aqS i d.params name 0 d.qZ=aqS i d.params name k (d.qZ.drop k)) _ ?_ ?_ 0 () (by omega) rfl
   ·intro k s hk hs next
    refine kg.lp (fun n m=>by simp only[acE,HA,mB];exact rfl) ?_;simp only[hk,iz,decide_true,jF];refine kg.Cv hk ?_;rw[k9 (by simp only[lm]at h1;omega)];rw[iC hk,aqS]at hs;refine kg.pL (fun hc=>?_) fun hc=>?_
    ·refine kg.Cv hk (kg.pure ?_);rw[hs,hc];rfl
    ·exact next () (by rw[hs,hc];rfl)
   ·intro s hs;refine kg.lp (fun n m=>by simp only[acE,HA,mB];exact rfl) ?_;simp only[iy,decide_false,jG];refine kg.pure ?_;rw[hs,iF];rfl
 |false=>
  simp only[jG];have ety:d.type=jX.mk d.type.kind d.type.index d.type.name d.type.kC d.type.lr:=by cases d.type;rfl
  refine k6.ev (k6.BX (F:=fun n m=>HE n m i name 0 d i d.params d.type.kind d.type.index d.type.name d.type.kC d.type.lr) ?_);refine kg.up (S:=Unit) (L:=fun n m k _=>HE n m i name k d i d.params d.type.kind d.type.index d.type.name d.type.kC d.type.lr) d.Al.length (fun k _=>aqT i d.params name 0 d.Al=aqT i d.params name k (d.Al.drop k)) _ ?_ ?_ 0 () (by omega) rfl
  ·intro k s hk hs next
   refine kg.lp (fun n m=>by simp only[acF,HC,mB];exact rfl) ?_;simp only[hk,iz,decide_true,jF];refine kg.Cv hk ?_;rw[k9 (by simp only[lm]at h2;omega)];rw[iC hk,aqT]at hs;refine kg.pL (fun hc=>?_) fun hc=>?_
   ·refine kg.Cv hk (kg.pure ?_);rw[hs,hc];rfl
   ·exact next () (by rw[hs,hc];rfl)
  ·intro s hs;refine kg.lp (fun n m=>by simp only[acF,HC,mB];exact rfl) ?_;simp only[iy,decide_false,jG];refine kg.pure ?_;rw[hs,iF,<-ety];rfl
def noEntry:Entry:={kind:=0,decl:=0,aiT:=0,params:=0,type:=jX.mk 0 0 [] [] []}
def UZ(name:kp):Nat->List ky->Entry×Int
 |_,[]=>(noEntry,9)
 |i,d::ds=>bif (yz d).any (· ==name)then(acd d i name,0)else UZ name (i+1) ds
structure EOK(env:List ky):Prop where
 len:env.length<=lm
 ds:∀d∈env,d.kU<=lm
theorem alj(env:List ky)(h:EOK env)(name:kp):Ev (fun n=>QH n env name) (UZ name 0 env):=by
 have hl:=h.len;refine Ev.fn (fun n=>by simp only[QH,kB,aft,mB];exact rfl) ?_;refine k6.ev (k6.BX (F:=fun n m=>Kz n m env name 0) ?_);refine kg.up (S:=Unit) (L:=fun n m k _=>Kz n m env name k) env.length (fun k _=>UZ name 0 env=UZ name k (env.drop k)) _ ?_ ?_ 0 () (by omega) rfl
 ·intro k s hk hs next
  refine kg.lp (fun n m=>by simp only[agW,Ky,mB];exact rfl) ?_;simp only[hk,iz,decide_true,jF];refine kg.Cv hk ?_;have hd:=DOK.of (h.ds _ (iA hk));rw[k9 (by simp only[lm]at hl;omega)];rw[iC hk,UZ]at hs;refine kg.nJ ((Pe _ hd).tot (Q:=(· =yz env[k])) rfl) fun x hx=>?_
  subst hx;refine kg.nJ ((agx _ name (by have:=Q0 hd;simp only[lm,xO]at*;omega)).tot (Q:=(· =(yz env[k]).any (· ==name))) rfl) fun x hx=>?_
  subst hx;refine kg.pL (fun hc=>?_) fun hc=>?_
  ·refine kg.Cv hk ?_;refine kg.nJ ((aqU _ hd k name).tot (Q:=(· =acd env[k] k name)) rfl) fun x hx=>kg.pure ?_
   rw[hs,hc,hx];rfl
  ·exact next () (by rw[hs,hc];rfl)
 ·intro s hs;refine kg.lp (fun n m=>by simp only[agW,Ky,mB];exact rfl) ?_;simp only[iy,decide_false,jG];refine kg.pure ?_;rw[hs,iF];rfl
theorem aDX{i p:Int}{name:kp}:∀{k:Nat}{cs:List mL}{e:Entry},aqS i p name k cs=some e->e.kind=4/\e.decl=i/\∃j:Nat,e.aiT=j/\k<=j/\j<k+cs.length
 |k,[],e,h=>by simp [aqS]at h
 |k,c::cs,e,h=>by
  rw[aqS]at h;cases hc:c.name==name with
  |true=>
   rw[hc,jF,Option.some.injEq]at h;subst h;exact⟨rfl,rfl,k,rfl,jf _,by simp⟩
  |false=>
   rw[hc,jG]at h;obtain⟨h1,h2,j,h3,h4,h5⟩:=aDX h;exact⟨h1,h2,j,h3,by omega,by rw[iI];omega⟩
theorem aHl{i p:Int}{name:kp}:∀{k:Nat}{cs:List qH}{e:Entry},aqT i p name k cs=some e->e.kind=6/\e.decl=i
 |k,[],e,h=>by simp [aqT]at h
 |k,c::cs,e,h=>by
  rw[aqT]at h;cases hc:c.name==name with
  |true=>
   rw[hc,jF,Option.some.injEq]at h;subst h;exact⟨rfl,rfl⟩
  |false=>
   rw[hc,jG]at h;exact aHl h
theorem azs(d:ky)(i:Int)(name:kp):(acd d i name).decl=i/\((acd d i name).kind=4->∃j:Nat,(acd d i name).aiT=j/\j<d.qZ.length)/\((acd d i name).kind=3->d.kind=3/\name=d.name):=by
 unfold acd;cases h0:d.kind==0 with
 |true=>exact⟨rfl,fun h=>by simp at h,fun h=>by simp at h⟩
 |false=>
 cases h1:d.kind==1 with
 |true=>exact⟨rfl,fun h=>by simp at h,fun h=>by simp at h⟩
 |false=>
 cases h2:d.kind==2 with
 |true=>exact⟨rfl,fun h=>by simp at h,fun h=>by simp at h⟩
 |false=>
 cases h3:d.kind==3 with
 |true=>
  simp only[jF,jG];cases hn:name==d.name with
  |true=>exact⟨rfl,fun h=>by simp at h,fun _=>⟨jM.1 h3,jM.1 hn⟩⟩
  |false=>
   simp only[jG];cases hc:aqS i d.params name 0 d.qZ with
   |none=>exact⟨rfl,fun h=>by simp at h,fun h=>by simp at h⟩
   |some e=>
    obtain⟨e1,e2,j,e3,e4,e5⟩:=aDX hc;exact⟨e2,fun _=>⟨j,e3,by omega⟩,fun h=>absurd (e1.symm.trans h) (by decide)⟩
 |false=>
  simp only[jG];cases hc:aqT i d.params name 0 d.Al with
  |none=>exact⟨rfl,fun h=>by simp at h,fun h=>by simp at h⟩
  |some e=>
   obtain⟨e1,e2⟩:=aHl hc;exact⟨e2,fun h=>absurd (e1.symm.trans h) (by decide),fun h=>absurd (e1.symm.trans h) (by decide)⟩
theorem aDY{name:kp}:∀{k:Nat}{env:List ky},(UZ name k env).2=0->∃(j:Nat)(hj:j<env.length),(UZ name k env).1.decl=(k+j:Nat)/\(UZ name k env).1=acd env[j] (k+j:Nat) name/\(yz env[j]).any (· ==name)=true
 |k,[],h=>by simp [UZ]at h
 |k,d::ds,h=>by
  rw[UZ]at h ⊢;cases hc:(yz d).any (· ==name)with
  |true=>
   simp only[jF];exact⟨0,by simp,(azs d k name).1,rfl,hc⟩
  |false=>
   rw[hc,jG]at h;simp only[jG];obtain⟨j,hj,h1,h2,h3⟩:=aDY h;refine⟨j+1,by simp;omega,?_,?_,h3⟩
   ·rw[h1];omega
   ·rw[h2];have:((k+1+j:Nat):Int)=((k+(j+1):Nat):Int):=by omega
    rw[this];rfl
theorem aqV(t:jX)(h:t.kU<=lm):k6 (fun n=>X9 n t) rj:=by
 refine k6.fn (fun n=>by simp only[X9,kB,afN,mB];exact rfl) ?_;exact k6.bind ((anF t (jX.mk 0 0 [] [] []) (Cj h)).tot (Q:=rj) trivial) fun x _=>k6.pure trivial
structure YF(d:ky):Prop where
 alk:DOK d
 type:d.type.kU<=lm
 value:d.value.kU<=lm
 aKX:d.pd.type.kU<=lm
 rl:d.pd.yG.length<=lm
 yG:∀t∈d.pd.yG,t.kU<=lm
 cts:∀c∈d.qZ,c.type.kU<=lm
 fns:∀f∈d.Al,f.type.kU<=lm/\f.tj.kU<=lm/\f.name.length<=lm
 cns:∀c∈d.qZ,c.name.length<=lm
theorem YF.qZ(h:YF d):d.qZ.length<=lm:=h.alk.qZ
theorem YF.Al(h:YF d):d.Al.length<=lm:=h.alk.Al
theorem YF.name(h:YF d):d.name.length<=lm:=h.alk.name
theorem YF.of(h:d.kU<=lm):YF d:=by
 have h0:=DOK.of h;rw[ky.kU]at h;have hl3:qa jX.kU d.pd.yG<d.pd.kU:=by rw[kZ.kU];omega
 have hl4:=uU jX.ve d.pd.yG;have hl5:d.pd.type.kU<d.pd.kU:=by rw[kZ.kU];omega
 refine {alk:=h0,type:=by omega,value:=by omega,aKX:=by omega,rl:=by omega,yG:=fun t ht=>?_,cts:=fun c hc=>?_,fns:=fun f hf=>?_,cns:=fun c hc=>?_}
 ·have:=wk (f:=jX.kU) ht;omega
 ·have:=wk (f:=mL.kU) hc;rw[mL.kU]at this;omega
 ·have:=wk (f:=qH.kU) hf;rw[qH.kU]at this;exact⟨by omega,by omega,by omega⟩
 ·have:=wk (f:=mL.kU) hc;rw[mL.kU]at this;omega
theorem aGf(d:ky)(h:YF d):k6 (fun n=>Wp n d) rj:=by
 refine k6.fn (fun n=>by simp only[Wp,kB,Ye,mB];exact rfl) ?_
 repeat' (first|exact k6.pure trivial|refine k6.pL (fun _=>?_) (fun _=>?_)|refine k6.bind (aqV _ h.aKX) (fun x _=>?_)|refine k6.bind (aqV _ h.value) (fun x _=>?_)|refine k6.bind (aqV _ h.type) (fun x _=>?_))
theorem as3(t:jX):k6 (fun n=>Q8 n t) rj:=by
 refine k6.fn (fun n=>by simp only[Q8,kB,Un,mB];exact rfl) ?_
 have key:∀(t:jX)(v:Int),kg (fun n m=>C2 n m v t) rj:=by
  intro t;induction h:t.kU using iH generalizing t with
  |ind k ih=>
   intro v;refine kg.lp (fun n m=>by simp only[an2,IU,mB];exact rfl) ?_;refine kg.pL (fun _=>?_) fun _=>kg.pure trivial
   refine kg.pL (fun hc=>?_) fun _=>kg.pure trivial
   have hl:1<t.lr.length:=by have:=jM.1 hc;omega
   refine kg.Cv (i:=1) hl ?_;exact ih _ (by rw[<-h];exact t.D1 (iA hl)) _ rfl _
 exact k6.BX (F:=fun n m=>C2 n m 0 t) (key t 0)
theorem aIA(d:ky)(h:YF d):k6 (fun n=>ZG n d) rj:=by
 have h1:=h.qZ;refine k6.fn (fun n=>by simp only[ZG,kB,abg,mB];exact rfl) ?_;refine k6.bind (as3 _) fun x _=>?_
 refine k6.BX (F:=fun n m=>HO n m (decide (d.Hr<=x)) 0 d) ?_;refine kg.up (S:=Bool) (L:=fun n m i s=>HO n m s i d) d.qZ.length (fun _ _=>True) rj ?_ ?_ 0 _ (by omega) trivial
 ·intro i s hi _ next
  refine kg.lp (fun n m=>by simp only[ac1,HN,mB];exact rfl) ?_;simp only[hi,iz,decide_true,jF];rw[k9 (by simp only[lm]at h1;omega)];refine kg.pL (fun _=>?_) fun _=>next _ trivial
  refine kg.Cv hi ?_;exact kg.nJ (as3 _) fun y _=>next _ trivial
 ·intro s _;refine kg.lp (fun n m=>by simp only[ac1,HN,mB];exact rfl) ?_;simp only[iy,decide_false,jG];exact kg.pure trivial
theorem aGg(d:ky)(h:YF d):k6 (fun n=>Wk n d) (fun r=>r=0->0<=d.Hr/\0<=d.params/\d.params<=8):=by
 have h1:=h.Al;refine k6.fn (fun n=>by simp only[Wk,kB,XG,mB];exact rfl) ?_;have bad:∀k:Int,k≠0->(k=0->0<=d.Hr/\0<=d.params/\d.params<=8):=fun k hk e=>absurd e hk
 refine k6.pL (fun _=>k6.pure (bad 2 (by decide))) fun hp=>?_
 refine k6.pL (fun _=>k6.pure (bad 2 (by decide))) fun hp8=>?_
 refine k6.pL (fun _=>k6.pure (bad 2 (by decide))) fun hf=>?_
 have good:0<=d.Hr/\0<=d.params/\d.params<=8:=by
  have a:=jK hp;have b:=jK hp8;have c:=jK hf;omega
 refine k6.imp (P:=rj) ?_ fun _ _ _=>good
 have loop:k6 (fun n=>Bs n n 0 d) rj:=by
  refine k6.BX (F:=fun n m=>Bs n m 0 d) ?_;refine kg.up (S:=Unit) (L:=fun n m i _=>Bs n m i d) d.Al.length (fun _ _=>True) rj ?_ ?_ 0 () (by omega) trivial
  ·intro i s hi _ next
   refine kg.lp (fun n m=>by simp only[Z1,Fo,mB];exact rfl) ?_;simp only[hi,iz,decide_true,jF];rw[k9 (by simp only[lm]at h1;omega)];refine kg.Cv hi ?_;refine kg.pL (fun _=>kg.pure trivial) fun _=>?_
   refine kg.Cv hi ?_;exact kg.pL (fun _=>kg.pure trivial) fun _=>next s trivial
  ·intro s _;refine kg.lp (fun n m=>by simp only[Z1,Fo,mB];exact rfl) ?_;simp only[iy,decide_false,jG]
   repeat' (first|exact kg.pure trivial|refine kg.pL (fun _=>?_) (fun _=>?_)|refine kg.nJ (aIA d h) (fun x _=>?_))
 repeat' (first|exact k6.pure trivial|exact loop|refine k6.pL (fun _=>?_) (fun _=>?_))
theorem aGh(h:YF d):∀s∈yz d,s.length<=lm+4:=by
 have hn:=h.name;intro s hs;have one:∀{p:Prop},s=d.name->s.length<=lm+4:=fun e=>by rw[e];omega
 unfold yz at hs;cases h0:d.kind==0 with
 |true=>rw[h0]at hs;simp only[jF,iP]at hs;rw[hs];omega
 |false=>
 cases h1:d.kind==1 with
 |true=>rw[h0,h1]at hs;simp only[jF,jG,iP]at hs;rw[hs];omega
 |false=>
 cases h2:d.kind==2 with
 |true=>rw[h0,h1,h2]at hs;simp only[jF,jG,iP]at hs;rw[hs];omega
 |false=>
 cases h3:d.kind==3 with
 |true=>
  rw[h0,h1,h2,h3]at hs;simp only[jF,jG,jk,jr,jb,List.mem_map,iP,List.not_mem_nil,or_false]at hs;rcases hs with rfl|⟨c,hc,rfl⟩|rfl
  ·omega
  ·have:=h.cns c hc;omega
  ·rw[iE];simp only[aNp,iI,iK];omega
 |false=>
 cases h4:d.kind==4 with
 |true=>
  rw[h0,h1,h2,h3,h4]at hs;simp only[jF,jG,List.mem_map]at hs;obtain⟨c,hc,rfl⟩:=hs;have:=(h.fns c hc).2.2;omega
 |false=>rw[h0,h1,h2,h3,h4]at hs;simp at hs
theorem ayr(env:List ky)(he:EOK env)(d:ky)(h:YF d):k6 (fun n=>Lf n env d) rj:=by
 refine k6.fn (fun n=>by simp only[Lf,kB,NW,mB];exact rfl) ?_;refine k6.bind ((Pe d h.alk).tot (Q:=(· =yz d)) rfl) fun x hx=>?_
 subst hx;have hl:=Q0 h.alk;have hm:=aGh h;generalize yz d=l at hl hm;refine k6.BX (F:=fun n m=>AW n m env l 0) ?_;refine kg.up (S:=Unit) (L:=fun n m i _=>AW n m env l i) l.length (fun _ _=>True) rj ?_ ?_ 0 () (by omega) trivial
 ·intro i s hi _ next
  refine kg.lp (fun n m=>by simp only[Sl,AU,mB];exact rfl) ?_;have d2:decide ((0:Int)<=(i:Int)/\(i:Int)<=(l.length:Int)/\(l.length:Int)<=(l.length:Int))=true:=jH (by omega);simp only[hi,iz,decide_true,jF,d2,iO];rw[k9 (by simp only[lm]at hl;omega)];refine kg.Cv hi ?_;have hs:=hm _ (iA hi);refine kg.nJ (YE _ (by simp only[lm,xO]at*;omega)) fun x _=>?_
  refine kg.pL (fun _=>?_) fun _=>kg.pure trivial
  refine kg.Cv hi ?_;refine kg.nJ ((alj env he l[i]).tot (Q:=rj) trivial) fun x _=>?_
  refine kg.pL (fun _=>kg.pure trivial) fun _=>?_
  refine kg.Cv hi ?_;refine kg.nJ ((agx (l.take i) l[i] (by rw[iR];simp only[lm,xO]at*;omega)).tot (Q:=rj) trivial) fun x _=>?_
  exact kg.pL (fun _=>kg.pure trivial) fun _=>next s trivial
 ·intro s _;refine kg.lp (fun n m=>by simp only[Sl,AU,mB];exact rfl) ?_;simp only[iy,decide_false,jG];exact kg.pure trivial
structure ZOK(z:j7):Prop where
 env:EOK z.env
 own:z.own.length<=lm+2
 d:YF z.d
theorem ays(z:j7)(h:ZOK z):∀t:jX,t.kU<=lm->k6 (fun n=>vi n z t) rj:=by
 have ho:=h.own;intro t;induction hb:t.kU using iH generalizing t with
 |ind k ih=>
  intro hk;have hl:=t.Pd;refine k6.fn (fun n=>by simp only[vi,kB,N1,mB];exact rfl) ?_
  have loop:k6 (fun n=>xL (vi n) n n 0 z t) rj:=by
   refine k6.BX (F:=fun n m=>xL (vi n) n m 0 z t) ?_;refine kg.up (S:=Unit) (L:=fun n m i _=>xL (vi n) n m i z t) t.lr.length (fun _ _=>True) rj ?_ ?_ 0 () (by omega) trivial
   ·intro i s hi _ next
    refine kg.lp (fun n m=>by simp only[Sm,AZ,mB];exact rfl) ?_;simp only[hi,iz,decide_true,jF];rw[k9 (by simp only[lm]at hk;omega)];refine kg.Cv hi ?_;have hm:=t.D1 (iA hi);refine kg.nJ (ih _ (by omega) _ rfl (by omega)) fun x _=>?_
    exact kg.pL (fun _=>kg.pure trivial) fun _=>next s trivial
   ·intro s _;refine kg.lp (fun n m=>by simp only[Sm,AZ,mB];exact rfl) ?_;simp only[iy,decide_false,jG];exact kg.pure trivial
  repeat' (first|exact k6.pure trivial|exact loop|refine k6.pL (fun _=>?_) (fun _=>?_)|refine k6.bind ((alj z.env h.env t.name).tot (Q:=rj) trivial) (fun x _=>?_)|refine k6.bind ((agx z.own t.name (by simp only[lm,xO]at*;omega)).tot (Q:=rj) trivial) (fun x _=>?_)|refine k6.bind ((aqU z.d h.d.alk _ t.name).tot (Q:=rj) trivial) (fun x _=>?_))
theorem LF(z:j7)(h:ZOK z)(t:jX)(a b:Int)(hk:t.kU<=lm):k6 (fun n=>Jd n z t a b) rj:=by
 refine k6.fn (fun n=>by simp only[Jd,kB,Yf,mB];exact rfl) ?_;refine k6.bind (auo t a b 0 0 (Cj hk)) fun x _=>?_
 refine k6.pL (fun _=>k6.pure trivial) fun _=>?_
 exact k6.bind (ays z h t hk) fun x _=>k6.pure trivial
theorem aBf:∀(t u:lh),t.kU<=lm->k6 (fun n=>yt n t u) rj:=by
 intro t;induction h:t.kU using iH generalizing t with
 |ind k ih=>
  intro u hk;have hl:=t.agv;have hl2:=t.aA8;refine k6.fn (fun n=>by simp only[yt,kB,QV,mB];exact rfl) ?_;refine k6.pL (fun _=>k6.pure trivial) fun _=>?_
  refine k6.pL (fun _=>k6.pure trivial) fun _=>?_
  refine k6.bind ((anF t.body u.body (Cj (by omega))).tot (Q:=rj) trivial) fun x _=>?_
  refine k6.pL (fun _=>?_) fun _=>k6.pure trivial
  refine k6.pL (fun _=>k6.pure trivial) fun hlen=>?_
  have hlen:t.ol.length=u.ol.length:=by
   have:=hlen;rw[bne,ji,jM]at this;omega
  refine k6.BX (F:=fun n m=>BL (yt n) n m 0 t u) ?_;refine kg.up (S:=Unit) (L:=fun n m i s=>BL (yt n) n m i t u) t.ol.length (fun _ _=>True) rj ?_ ?_ 0 () (by omega) trivial
  ·intro i s hi _ next
   refine kg.lp (fun n m=>by simp only[VA,BK,mB];exact rfl) ?_;simp only[hi,iz,decide_true,jF];rw[k9 (by simp only[lm]at hk;omega)];refine kg.Cv hi (kg.Cv (by omega) ?_);have hm:=t.D1 (iA hi);refine kg.pL (fun _=>?_) fun _=>kg.pure trivial
   refine kg.pL (fun _=>?_) fun _=>kg.pure trivial
   refine kg.nJ (ih _ (by omega) _ rfl _ (by omega)) fun x _=>?_
   exact kg.pL (fun _=>next s trivial) fun _=>kg.pure trivial
  ·intro s _;refine kg.lp (fun n m=>by simp only[VA,BK,mB];exact rfl) ?_;simp only[iy,decide_false,jG];exact kg.pure trivial
theorem aGi(d:ky)(h:YF d)(j:Nat)(hj:j<d.qZ.length):k6 (fun n=>We n d j) rj:=by
 refine k6.fn (fun n=>by simp only[We,kB,Xm,mB];exact rfl) ?_;refine k6.Cv hj ?_;obtain⟨r,_,hr,_⟩:=aPd d.qZ[j].type (h.cts _ (iA hj));exact k6.bind (hr.tot (Q:=rj) trivial) fun x _=>k6.pure trivial
theorem aGj(z:j7)(h:ZOK z):∀(t:lh)(a b:Int),t.kU<=lm->k6 (fun n=>BR n z t a b) rj:=by
 intro t;induction hb:t.kU using iH generalizing t with
 |ind k ih=>
  intro a b hk;have hl:=t.agv;have hl2:=t.aA8;refine k6.fn (fun n=>by simp only[BR,kB,Yi,mB];exact rfl) ?_;refine k6.pL (fun _=>k6.pure trivial) fun _=>?_
  refine k6.pL (fun _=>?_) fun _=>?_
  ·refine k6.pL (fun _=>k6.pure trivial) fun _=>?_
   refine k6.pL (fun _=>k6.pure trivial) fun _=>?_
   exact k6.bind (LF z h _ _ _ (by omega)) fun x _=>k6.pure trivial
  refine k6.pL (fun _=>?_) fun _=>k6.pure trivial
  refine k6.bind (aqV _ (by omega)) fun x _=>?_
  refine k6.pL (fun _=>?_) fun _=>k6.pure trivial
  refine k6.pL (fun _=>k6.pure trivial) fun _=>?_
  refine k6.pL (fun _=>k6.pure trivial) fun _=>?_
  refine k6.pL (fun _=>k6.pure trivial) fun _=>?_
  refine k6.BX (F:=fun n m=>FC (BR n) n m a b 0 z t) ?_;refine kg.up (S:=Unit) (L:=fun n m i s=>FC (BR n) n m a b i z t) t.ol.length (fun _ _=>True) rj ?_ ?_ 0 () (by omega) trivial
  ·intro i s hi _ next
   refine kg.lp (fun n m=>by simp only[aad,FB,mB];exact rfl) ?_;simp only[hi,iz,decide_true,jF];rw[k9 (by simp only[lm]at hk;omega)];refine kg.Cv hi ?_;have hm:=t.D1 (iA hi);refine kg.nJ ((alj z.env h.env t.ol[i].YL).tot (Q:=(· =UZ t.ol[i].YL 0 z.env)) rfl) fun x hx=>?_
   refine kg.pL (fun _=>kg.pure trivial) fun h0=>?_
   refine kg.pL (fun _=>kg.pure trivial) fun h4=>?_
   refine kg.pL (fun _=>?_) fun _=>?_
   ·refine kg.nJ (aBf _ _ (by omega)) fun y _=>?_
    exact kg.pL (fun _=>next s trivial) fun _=>kg.pure trivial
   ·rw[bne,ji,jM]at h0 h4;rw[hx]at h0 h4 ⊢;obtain⟨j,hj,e1,e2,_⟩:=aDY h0;have hat:=(azs z.env[j] (0+j:Nat) t.ol[i].YL).2.1;rw[<-e2]at hat;obtain⟨q,hq,hql⟩:=hat h4;have ej:(UZ t.ol[i].YL 0 z.env).1.decl=(j:Int):=by rw[e1];omega
    rw[ej,hq];refine kg.Cv hj ?_;refine kg.nJ (aGi _ (YF.of (h.env.ds _ (iA hj))) q hql) fun y _=>?_
    refine kg.nJ (ih _ (by omega) _ rfl _ _ (by omega)) fun y _=>?_
    exact kg.pL (fun _=>kg.pure trivial) fun _=>next s trivial
  ·intro s _;refine kg.lp (fun n m=>by simp only[aad,FB,mB];exact rfl) ?_;simp only[iy,decide_false,jG];exact kg.pure trivial
theorem ky.aRd(d:ky):({kind:=d.kind,name:=d.name,params:=d.params,type:=jX.mk d.type.kind d.type.index d.type.name d.type.kC d.type.lr,value:=jX.mk d.value.kind d.value.index d.value.name d.value.kC d.value.lr,Hr:=d.Hr,qZ:=d.qZ,pd:={params:=d.pd.params,type:=jX.mk d.pd.type.kind d.pd.type.index d.pd.type.name d.pd.type.kC d.pd.type.lr,yG:=d.pd.yG},Al:=d.Al}:ky)=d:=by
 have h:∀t:jX,jX.mk t.kind t.index t.name t.kC t.lr=t:=fun t=>by cases t;rfl
 rw[h,h,h]
theorem aGk(d:ky)(h:YF d)(z:j7)(hz:ZOK z):k6 (fun n=>DI n n 0 d z) rj:=by
 have hr:=h.rl;refine k6.BX (F:=fun n m=>DI n m 0 d z) ?_;refine kg.up (S:=Unit) (L:=fun n m i _=>DI n m i d z) d.pd.yG.length (fun _ _=>True) rj ?_ ?_ 0 () (by omega) trivial
 ·intro i s hi _ next
  refine kg.lp (fun n m=>by simp only[ad7,Is,mB];exact rfl) ?_;simp only[hi,iz,decide_true,jF];rw[k9 (by simp only[lm]at hr;omega)];refine kg.Cv hi ?_;refine kg.nJ (LF z hz _ _ _ (h.yG _ (iA hi))) fun x _=>?_
  exact kg.pL (fun _=>kg.pure trivial) fun _=>next s trivial
 ·intro s _;refine kg.lp (fun n m=>by simp only[ad7,Is,mB];exact rfl) ?_;simp only[iy,decide_false,jG];exact kg.pure trivial
theorem aGl(env:List ky)(he:EOK env)(d:ky)(h:YF d)(h3:d.kind=3):k6 (fun n=>DJ n n 0 d {env:=env,own:=[d.name],d:=d}) rj:=by
 have hr:=h.qZ;have hz:ZOK {env:=env,own:=[d.name],d:=d}:=⟨he,by simp [lm],h⟩;refine k6.BX (F:=fun n m=>DJ n m 0 d {env:=env,own:=[d.name],d:=d}) ?_;refine kg.up (S:=Unit) (L:=fun n m i _=>DJ n m i d {env:=env,own:=[d.name],d:=d}) d.qZ.length (fun _ _=>True) rj ?_ ?_ 0 () (by omega) trivial
 ·intro i s hi _ next
  refine kg.lp (fun n m=>by simp only[ad8,It,mB];exact rfl) ?_;simp only[hi,iz,decide_true,jF];rw[k9 (by simp only[lm]at hr;omega)];refine kg.Cv hi ?_;refine kg.nJ (LF _ hz _ _ _ (h.cts _ (iA hi))) fun x _=>?_
  exact kg.pL (fun _=>kg.pure trivial) fun _=>next s trivial
 ·intro s _;refine kg.lp (fun n m=>by simp only[ad8,It,mB];exact rfl) ?_;simp only[iy,decide_false,jG];refine kg.nJ ((Pe d h.alk).tot (Q:=(· =yz d)) rfl) fun x hx=>?_
  subst hx;have hl:=Q0 h.alk
  have azN:1<=(yz d).length:=by
   unfold yz;rw[h3];show 1<=(d.name::d.qZ.map (·.name)++[d.name++aNp]).length;simp
  generalize hL:yz d=l at hl azN
  have hw:IntKind.i64.wrap ((l.length:Int)-1)=((l.length-1:Nat):Int):=by
   rw[sA (by omega) (by simp only[lm]at hl;omega)];omega
  have d2:decide ((0:Int)<=((l.length-1:Nat):Int)/\((l.length-1:Nat):Int)<=(l.length:Int)/\(l.length:Int)<=(l.length:Int))=true:=jH (by omega);simp only[hw,d2,jF,iO];refine kg.nJ (LF {env:=env,own:=l.take (l.length-1),d:=d} ⟨he,by rw[iR];show min _ _<=_;omega,h⟩ _ _ _ h.aKX) fun x _=>?_
  refine kg.pL (fun _=>kg.pure trivial) fun _=>?_
  exact kg.of1 (aGk d h {env:=env,own:=l,d:=d} ⟨he,hl,h⟩)
theorem aGm(d:ky)(h:YF d)(z:j7)(hz:ZOK z):k6 (fun n=>DK n n 0 d z) rj:=by
 have hr:=h.Al;refine k6.BX (F:=fun n m=>DK n m 0 d z) ?_;refine kg.up (S:=Unit) (L:=fun n m i _=>DK n m i d z) d.Al.length (fun _ _=>True) rj ?_ ?_ 0 () (by omega) trivial
 ·intro i s hi _ next
  refine kg.lp (fun n m=>by simp only[ad9,Iu,mB];exact rfl) ?_;simp only[hi,iz,decide_true,jF];rw[k9 (by simp only[lm]at hr;omega)];refine kg.Cv hi (kg.Cv hi ?_);refine kg.nJ (aGj z hz _ _ _ (h.fns _ (iA hi)).2.1) fun x _=>?_
  exact kg.pL (fun _=>kg.pure trivial) fun _=>next s trivial
 ·intro s _;refine kg.lp (fun n m=>by simp only[ad9,Iu,mB];exact rfl) ?_;simp only[iy,decide_false,jG];exact kg.pure trivial
theorem aGn(env:List ky)(he:EOK env)(d:ky)(h:YF d):k6 (fun n=>DL n n 0 d env d.kind d.name d.params d.type.kind d.type.index d.type.name d.type.kC d.type.lr d.value.kind d.value.index d.value.name d.value.kC d.value.lr d.Hr d.qZ d.pd.params d.pd.type.kind d.pd.type.index d.pd.type.name d.pd.type.kC d.pd.type.lr d.pd.yG d.Al) rj:=by
 have hr:=h.Al;have hz:ZOK {env:=env,own:=[],d:=d}:=⟨he,by simp,h⟩;refine k6.BX (F:=fun n m=>DL n m 0 d env d.kind d.name d.params d.type.kind d.type.index d.type.name d.type.kC d.type.lr d.value.kind d.value.index d.value.name d.value.kC d.value.lr d.Hr d.qZ d.pd.params d.pd.type.kind d.pd.type.index d.pd.type.name d.pd.type.kC d.pd.type.lr d.pd.yG d.Al) ?_;refine kg.up (S:=Unit) (L:=fun n m i _=>DL n m i d env d.kind d.name d.params d.type.kind d.type.index d.type.name d.type.kC d.type.lr d.value.kind d.value.index d.value.name d.value.kC d.value.lr d.Hr d.qZ d.pd.params d.pd.type.kind d.pd.type.index d.pd.type.name d.pd.type.kC d.pd.type.lr d.pd.yG d.Al) d.Al.length (fun _ _=>True) rj ?_ ?_ 0 () (by omega) trivial
 ·intro i s hi _ next
  refine kg.lp (fun n m=>by simp only[aea,Iv,mB];exact rfl) ?_;simp only[hi,iz,decide_true,jF,ky.aRd];rw[k9 (by simp only[lm]at hr;omega)];refine kg.Cv hi ?_;refine kg.nJ (LF _ hz _ _ _ (h.fns _ (iA hi)).1) fun x _=>?_
  exact kg.pL (fun _=>kg.pure trivial) fun _=>next s trivial
 ·intro s _;refine kg.lp (fun n m=>by simp only[aea,Iv,mB];exact rfl) ?_;simp only[iy,decide_false,jG,ky.aRd];refine kg.nJ ((Pe d h.alk).tot (Q:=(· =yz d)) rfl) fun x hx=>?_
  subst hx;exact kg.of1 (aGm d h {env:=env,own:=yz d,d:=d} ⟨he,Q0 h.alk,h⟩)
theorem aIB(env:List ky)(he:EOK env)(d:ky)(h:YF d):k6 (fun n=>aal n env d) rj:=by
 have hz:ZOK {env:=env,own:=[],d:=d}:=⟨he,by simp,h⟩;have v:=LF {env:=env,own:=[],d:=d} hz d.value 0 d.params h.value;refine k6.fn (fun n=>by simp only[aal,kB,abN,mB];exact rfl) ?_;refine k6.pL (fun _=>k6.bind (LF _ hz _ _ _ h.type) fun x _=>k6.pL (fun _=>k6.pure trivial) fun _=>?_) fun _=>?_
 all_goals
  refine k6.pL (fun _=>k6.bind v fun x _=>k6.pure trivial) fun _=>?_
  refine k6.pL (fun _=>k6.bind v fun x _=>k6.pure trivial) fun _=>?_
  refine k6.pL (fun h3=>aGl env he d h (jM.1 h3)) fun _=>?_
  exact k6.pL (fun _=>aGn env he d h) fun _=>k6.pure trivial
def aDZ(d:ky):Prop:=0<=d.Hr/\0<=d.params/\d.params<=8
theorem aKY(env:List ky)(he:EOK env)(d:ky)(h:YF d):k6 (fun n=>af9 n env d) (fun r=>r=0->aDZ d):=by
 refine k6.fn (fun n=>by simp only[af9,kB,af8,mB];exact rfl) ?_;refine k6.pL (fun _=>k6.pure (by intro e;cases e)) fun _=>?_
 refine k6.pL (fun _=>k6.pure (by intro e;cases e)) fun _=>?_
 refine k6.bind (aGf d h) fun x _=>?_
 refine k6.pL (fun _=>?_) fun _=>k6.pure (by intro e;cases e)
 refine k6.bind (aGg d h) fun y hy=>?_
 refine k6.pL (fun hc=>k6.pure fun e=>hy e) fun hc=>?_
 have good:aDZ d:=by
  rw[bne,ji,jM]at hc;exact hy hc
 refine k6.bind (ayr env he d h) fun y _=>?_
 refine k6.pL (fun _=>k6.pure fun _=>good) fun _=>?_
 exact k6.bind (aIB env he d h) fun x _=>k6.pure fun _=>good
theorem EOK.take{env:List ky}(h:EOK env)(k:Nat):EOK (env.take k):=⟨by rw[iR];have:=h.len;omega,fun d hd=>h.ds d (List.mem_of_mem_take hd)⟩
theorem aIC(env:List ky)(he:EOK env):k6 (fun n=>aap n env) (fun r=>r.2=0->∀d∈env,aDZ d):=by
 have hl:=he.len;refine k6.fn (fun n=>by simp only[aap,kB,abY,mB];exact rfl) ?_;refine k6.pL (fun _=>k6.pure (by intro e;cases e)) fun _=>?_
 refine k6.BX (F:=fun n m=>Iy n m env 0) ?_;refine kg.up (S:=Unit) (L:=fun n m i _=>Iy n m env i) env.length (fun i _=>∀d∈env.take i,aDZ d) _ ?_ ?_ 0 () (by omega) (by simp)
 ·intro i s hi hI next
  refine kg.lp (fun n m=>by simp only[aef,Ix,mB];exact rfl) ?_;have d2:decide ((0:Int)<=(i:Int)/\(i:Int)<=(env.length:Int)/\(env.length:Int)<=(env.length:Int))=true:=jH (by omega);simp only[hi,iz,decide_true,jF,d2,iO];rw[k9 (by simp only[lm]at hl;omega)];refine kg.Cv hi ?_;refine kg.nJ (aKY _ (he.take i) _ (YF.of (he.ds _ (iA hi)))) fun x hx=>?_
  refine kg.pL (fun hc=>kg.pure fun e=>?_) fun hc=>next () ?_
  ·have e:x=0:=e;rw[e]at hc;cases hc
  ·rw[bne,ji,jM]at hc;intro d hd;rw[iQ hi,jb,iP]at hd;rcases hd with hd|rfl
   ·exact hI d hd
   ·exact hx hc
 ·intro s hI;refine kg.lp (fun n m=>by simp only[aef,Ix,mB];exact rfl) ?_;simp only[iy,decide_false,jG];rw[iW]at hI;exact kg.pure fun _=>hI
theorem aKZ(env:List ky)(he:EOK env):k6 (fun n=>alL n env) rj:=by
 have hl:=he.len;refine k6.fn (fun n=>by simp only[alL,kB,aks,mB];exact rfl) ?_;refine k6.BX (F:=fun n m=>Oo n m env 0) ?_;refine kg.up (S:=Unit) (L:=fun n m i _=>Oo n m env i) env.length (fun _ _=>True) rj ?_ ?_ 0 () (by omega) trivial
 ·intro i s hi _ next
  refine kg.lp (fun n m=>by simp only[akr,On,mB];exact rfl) ?_;simp only[hi,iz,decide_true,jF];rw[k9 (by simp only[lm]at hl;omega)];refine kg.pL (fun _=>?_) fun _=>kg.pure trivial
  refine kg.Cv hi ?_;refine kg.nJ (aqO _ (he.ds _ (iA hi))) fun x _=>?_
  exact kg.pL (fun _=>next () trivial) fun _=>kg.pure trivial
 ·intro s _;refine kg.lp (fun n m=>by simp only[akr,On,mB];exact rfl) ?_;simp only[iy,decide_false,jG];exact kg.pure trivial
theorem aK0(env:List ky)(he:EOK env):k6 (fun n=>agc n env) (fun r=>r=true->∀d∈env,aDZ d):=by
 refine k6.fn (fun n=>by simp only[agc,kB,agb,mB];exact rfl) ?_;refine k6.bind (aKZ env he) fun x _=>?_
 refine k6.pL (fun _=>?_) fun _=>k6.pure (by intro e;cases e)
 exact k6.bind (aIC env he) fun x hx=>k6.pure fun e=>hx (jM.1 e)
def FN(l:List kp)(name:kp):kp:=l.foldr (fun x a=>x++46::a) name
theorem aoM(x:kp)(l:List kp)(name:kp):FN (x::l) name=x++46::FN l name:=rfl
theorem aBg(a b:List kp)(name:kp):FN (a++b) name=FN a (FN b name):=by simp [FN]
theorem aD0(x y:kp)(r:List kp)(s:kp):jl (x::y::r) s=x++(s++jl (y::r) s):=by
 rw[Lib.join_cons,Lib.join_cons];simp [Lib.joinTail]
theorem asi(name:kp):∀l:List kp,jl (l++[name]) [46]=FN l name
 |[]=>Lib.join_one _ _
 |[x]=>by
  show jl [x,name] [46]=_;rw[aD0,Lib.join_one];rfl
 |x::y::r=>by
  have ih:=asi name (y::r);show jl (x::y::(r++[name])) [46]=_;rw[aD0];rw[jk]at ih;rw[ih];rfl
def aeE:List kp->Nat
 |[]=>0
 |x::l=>x.length+1+aeE l
theorem alR(name:kp):∀l:List kp,(FN l name).length=aeE l+name.length
 |[]=>by simp [FN,aeE]
 |x::l=>by rw[aoM,iE,iI,alR name l,aeE];omega
theorem alU:∀(l:List kp)(k:Nat),aeE (l.take k)<=aeE l
 |[],k=>by simp [aeE]
 |x::l,0=>by simp [aeE]
 |x::l,k+1=>by have:=alU l k;simp only[List.take_succ_cons,aeE];omega
theorem Jh:∀(l:List kp),l.length<=aeE l
 |[]=>by simp [aeE]
 |x::l=>by have:=Jh l;simp only[iI,aeE];omega
theorem aeF:∀{l:List kp}{x:kp},x∈l->x.length<=aeE l
 |y::l,x,h=>by
  simp only[jr]at h;simp only[aeE];rcases h with rfl|h
  ·omega
  ·have:=aeF h;omega
def ahI(c:UInt8):Bool:=(decide (97<=(c.toNat:Int))&&decide ((c.toNat:Int)<=122))||((decide (65<=(c.toNat:Int))&&decide ((c.toNat:Int)<=90))||((c.toNat:Int)==95))
def Ji:Bool->kp->Bool
 |b,[]=> !b
 |b,c::s=>bif ahI c then Ji false s else bif b then false else bif ((c.toNat:Int)==46)then Ji true s else bif ((c.toNat:Int)==39)||(decide (48<=(c.toNat:Int))&&decide ((c.toNat:Int)<=57))then Ji false s else false
def alN(s:kp):Bool:=Ji true s&&decide ((s.length:Int)<=64)
theorem alm[BEq W][LawfulBEq W](a b:W):(a==b)=(b==a):=by
 rw[iX,jM,jM];exact eq_comm
theorem aPg(l:List kp)(s:kp)(hl:l.length<=lm*4):Ev (fun n=>IX n l s) (l.any (· ==s)):=by
 refine k6.ev ?_;refine k6.fn (fun n=>by simp only[IX,kB,Zq,mB];exact rfl) ?_;refine k6.BX (F:=fun n m=>Ex n m l s 0) ?_;refine kg.up (S:=Unit) (L:=fun n m i _=>Ex n m l s i) l.length (fun i _=>l.any (· ==s)=(l.drop i).any (· ==s)) _ ?_ ?_ 0 () (by omega) rfl
 ·intro i u hi hI next
  refine kg.lp (fun n m=>by simp only[M8,Ew,mB];exact rfl) ?_;simp only[hi,iz,decide_true,jF];refine kg.Cv hi ?_;rw[D3 _ _ _ hi]at hI;refine kg.pL (fun hc=>kg.pure ?_) fun hc=>?_
  ·rw[hI,hc,iM]
  ·rw[k9 (by simp only[lm]at hl;omega)];exact next u (by rw[hI,hc,iJ])
 ·intro u hI;refine kg.lp (fun n m=>by simp only[M8,Ew,mB];exact rfl) ?_;simp only[iy,decide_false,jG];refine kg.pure ?_;rw[hI,iF];rfl
theorem Fg(l:List kp)(s:kp)(hl:l.length<=lm*4):Ev (fun n=>oH n l s) (l.any (· ==s)):=by
 refine k6.ev ?_;refine k6.fn (fun n=>by simp only[oH,kB,B5,mB];exact rfl) ?_
 have h1:k6 (fun n=>Cz n l s) (fun r=>decide (0<=r)=l.any (· ==s)):=by
  refine k6.fn (fun n=>by simp only[Cz,kB,F1,mB];exact rfl) ?_;refine k6.BX (F:=fun n m=>wH n m l s l.length 0) ?_;refine kg.up (S:=Unit) (L:=fun n m i _=>wH n m l s l.length i) l.length (fun i _=>l.any (· ==s)=(l.drop i).any (· ==s)) _ ?_ ?_ 0 () (by omega) rfl
  ·intro i u hi hI next
   refine kg.lp (fun n m=>by simp only[Kl,wG,mB];exact rfl) ?_;simp only[hi,iz,decide_true,jF];refine kg.Cv hi ?_;rw[D3 _ _ _ hi,alm]at hI;refine kg.pL (fun hc=>kg.pure ?_) fun hc=>?_
   ·rw[hI,hc,iM];simp
   ·rw[k9 (by simp only[lm]at hl;omega)];exact next u (by rw[hI,hc,iJ])
  ·intro u hI;refine kg.lp (fun n m=>by simp only[Kl,wG,mB];exact rfl) ?_;simp only[iy,decide_false,jG];refine kg.pure ?_;rw[hI,iF];rfl
 exact k6.bind h1 fun x hx=>k6.pure hx
theorem aqW(h:k<=lm*4):decide ((k+1)*16<=17592186044416)=true:=by
 simp only[lm]at h;simp only[jL];omega
theorem aBh(d:ky)(h:DOK d):Ev (fun n=>K5 n d) (yz d):=by
 obtain⟨h1,h2,h3⟩:=h;refine Ev.fn (fun n=>by simp only[K5,kB,Ng,mB];exact rfl) ?_;unfold yz;cases d.kind==0 with
 |true=>exact Ev.pure
 |false=>
 cases d.kind==1 with
 |true=>exact Ev.pure
 |false=>
 cases d.kind==2 with
 |true=>exact Ev.pure
 |false=>
 cases d.kind==3 with
 |true=>
  simp only[jF,jG];refine k6.ev (k6.BX (F:=fun n m=>AF n m d.qZ d.qZ.length 0 d [d.name]) ?_);refine kg.up (S:=List kp) (L:=fun n m i s=>AF n m d.qZ d.qZ.length i d s) d.qZ.length (fun i s=>s=d.name::(d.qZ.take i).map (·.name)) _ ?_ ?_ 0 _ (by omega) rfl
  ·intro i s hi hs next
   refine kg.lp (fun n m=>by simp only[RF,AE,mB];exact rfl) ?_;have hl:s.length<=lm*4:=by rw[hs];simp only[iI,jc,iR,lm]at*;omega
   simp only[hi,iz,decide_true,jF,aqW hl];refine kg.Cv hi ?_;rw[k9 (by simp only[lm]at h1;omega)];exact next _ (by rw[hs,KY _ _ _ hi];rfl)
  ·intro s hs;refine kg.lp (fun n m=>by simp only[RF,AE,mB];exact rfl) ?_;have hl:s.length<=lm*4:=by rw[hs];simp only[iI,jc,iR,lm]at*;omega
   have hn:decide (d.name.length<=9223372036854775803)=true:=by simp only[lm]at h3;simp only[jL];omega
   simp only[iy,decide_false,jG,hn,jF,aqW hl];exact kg.pure (by rw[hs,iW];rfl)
 |false=>
 cases d.kind==4 with
 |true=>
  simp only[jF,jG];refine k6.ev (k6.BX (F:=fun n m=>AH n m d.Al d.Al.length 0 []) ?_);refine kg.up (S:=List kp) (L:=fun n m i s=>AH n m d.Al d.Al.length i s) d.Al.length (fun i s=>s=(d.Al.take i).map (·.name)) _ ?_ ?_ 0 _ (by omega) rfl
  ·intro i s hi hs next
   refine kg.lp (fun n m=>by simp only[RG,AG,mB];exact rfl) ?_;have hl:s.length<=lm*4:=by rw[hs];simp only[iI,jc,iR,lm]at*;omega
   simp only[hi,iz,decide_true,jF,aqW hl];refine kg.Cv hi ?_;rw[k9 (by simp only[lm]at h2;omega)];exact next _ (by rw[hs,KY _ _ _ hi])
  ·intro s hs;refine kg.lp (fun n m=>by simp only[RG,AG,mB];exact rfl) ?_;simp only[iy,decide_false,jG];exact kg.pure (by rw[hs,iW])
 |false=>exact Ev.pure
structure SOK(st:kI):Prop where
 env:∀d∈st.env,DOK d
 aRe:st.env.length<=lm
 ns:aeE st.qz<=lm
 op:st.opens.length<=lm
 kH:∀o∈st.opens,o.length<=lm
def Bj(env:List ky)(s:kp):Bool:=env.any fun d=>(yz d).any (· ==s)
theorem aSG(st:kI)(h:SOK st)(s:kp):Ev (fun n=>NS n st s) (Bj st.env s):=by
 have hl:=h.aRe;refine k6.ev ?_;refine k6.fn (fun n=>by simp only[NS,kB,QS,mB];exact rfl) ?_;refine k6.BX (F:=fun n m=>BI n m s 0 st) ?_;refine kg.up (S:=Unit) (L:=fun n m i _=>BI n m s i st) st.env.length (fun i _=>Bj st.env s=Bj (st.env.drop i) s) _ ?_ ?_ 0 () (by omega) rfl
 ·intro i u hi hI next
  refine kg.lp (fun n m=>by simp only[Vq,BH,mB];exact rfl) ?_;simp only[hi,iz,decide_true,jF];refine kg.Cv hi ?_;have hd:=h.env _ (iA hi);unfold Bj at hI;rw[D3 _ _ _ hi]at hI;refine kg.nJ ((Pe _ hd).tot (Q:=(· =yz st.env[i])) rfl) fun x hx=>?_
  subst hx;refine kg.nJ ((aPg _ s (by have:=Q0 hd;simp only[lm]at*;omega)).tot (Q:=(· =(yz st.env[i]).any (· ==s))) rfl) fun x hx=>?_
  subst hx;refine kg.pL (fun hc=>kg.pure ?_) fun hc=>?_
  ·unfold Bj;rw[hI,hc,iM]
  ·rw[k9 (by simp only[lm]at hl;omega)];exact next u (by unfold Bj;rw[hI,hc,iJ])
 ·intro u hI;refine kg.lp (fun n m=>by simp only[Vq,BH,mB];exact rfl) ?_;simp only[iy,decide_false,jG];refine kg.pure ?_;rw[hI,iF];rfl
theorem aln(st:kI)(h:SOK st)(s:kp):Ev (fun n=>A3 n st s) (Bj st.env s):=by
 have hl:=h.aRe;refine k6.ev ?_;refine k6.fn (fun n=>by simp only[A3,kB,QX,mB];exact rfl) ?_
 have h1:k6 (fun n=>qk n st.env s) (fun r=>r.2.1=Bj st.env s):=by
  refine k6.fn (fun n=>by simp only[qk,kB,rS,mC];exact rfl) ?_
  have h2:k6 (fun n=>qV n st.env s) (fun r=>decide (0<=r.2.1)=Bj st.env s):=by
   refine k6.fn (fun n=>by simp only[qV,kB,s5,mC];exact rfl) ?_;refine k6.BX (F:=fun n m=>oS n m st.env st.env.length 0 s) ?_;refine kg.up (S:=Unit) (L:=fun n m i _=>oS n m st.env st.env.length i s) st.env.length (fun i _=>Bj st.env s=Bj (st.env.drop i) s) _ ?_ ?_ 0 () (by omega) rfl
   ·intro i u hi hI next
    refine kg.lp (fun n m=>by simp only[wx,oR,mB];exact rfl) ?_;simp only[hi,iz,decide_true,jF];refine kg.Cv hi ?_;have hd:=h.env _ (iA hi);unfold Bj at hI;rw[D3 _ _ _ hi]at hI
    have h3:Ev (fun n=>Jb n st.env[i] s) ((s,()),(yz st.env[i]).any (· ==s),()):=by
     refine Ev.fn (fun n=>by simp only[Jb,kB,Lv,mB];exact rfl) ?_;exact Ev.bind (aBh _ hd) (Ev.bind (Fg _ s (by have:=Q0 hd;simp only[lm]at*;omega)) Ev.pure)
    refine kg.nJ (h3.tot (Q:=(· =((s,()),(yz st.env[i]).any (· ==s),()))) rfl) fun x hx=>?_
    subst hx;refine kg.pL (fun hc=>kg.pure ?_) fun hc=>?_
    ·simp only at hc;unfold Bj;rw[hI,hc,iM];simp
    ·simp only at hc;rw[k9 (by simp only[lm]at hl;omega)];exact next u (by unfold Bj;rw[hI,hc,iJ])
   ·intro u hI;refine kg.lp (fun n m=>by simp only[wx,oR,mB];exact rfl) ?_;simp only[iy,decide_false,jG];refine kg.pure ?_;rw[hI,iF];rfl
  exact k6.bind h2 fun x hx=>k6.pure hx
 exact k6.bind h1 fun x hx=>k6.pure hx
theorem awR(c:UInt8):Ev (fun n=>Zt n (c.toNat:Int)) (ahI c)/\Ev (fun n=>IV n (c.toNat:Int)) (ahI c):=by
 unfold ahI;constructor
 ·refine Ev.fn (fun n=>by simp only[Zt,kB,aaV,mB];exact rfl) ?_;cases decide (97<=(c.toNat:Int))<;>cases decide ((c.toNat:Int)<=122)<;>cases decide (65<=(c.toNat:Int))<;>cases decide ((c.toNat:Int)<=90)<;>simp only[jF,jG,iL,iY,iM,iJ]<;>exact Ev.pure
 ·refine Ev.fn (fun n=>by simp only[IV,kB,M7,mB];exact rfl) ?_;cases decide (97<=(c.toNat:Int))<;>cases decide ((c.toNat:Int)<=122)<;>cases decide (65<=(c.toNat:Int))<;>cases decide ((c.toNat:Int)<=90)<;>simp only[jF,jG,iL,iY,iM,iJ]<;>exact Ev.pure
theorem aD1(s:kp)(hl:s.length<=lm*4):Ev (fun n=>Wx n s) (alN s):=by
 refine k6.ev ?_;refine k6.fn (fun n=>by simp only[Wx,kB,ajI,mB];exact rfl) ?_;refine k6.BX (F:=fun n m=>NH n m s true s.length 0) ?_;refine kg.up (S:=Bool) (L:=fun n m i b=>NH n m s b s.length i) s.length (fun i b=>Ji true s=Ji b (s.drop i)) _ ?_ ?_ 0 true (by omega) rfl
 ·intro i b hi hI next
  refine kg.lp (fun n m=>by simp only[ajH,NG,mB];exact rfl) ?_;simp only[hi,iz,decide_true,jF];refine kg.Cv hi ?_;rw[iC hi,Ji]at hI;rw[k9 (by simp only[lm]at hl;omega)];refine kg.nJ ((awR s[i]).1.tot (Q:=(· =ahI s[i])) rfl) fun x hx=>?_
  subst hx;cases h1:ahI s[i]with
  |true=>
   rw[h1,jF]at hI;simp only[jF];exact next _ hI
  |false=>
   rw[h1,jG]at hI;cases b with
   |true=>exact kg.pure (by simp only[jF]at hI;unfold alN;rw[hI];rfl)
   |false=>
    simp only[jG]at hI ⊢;cases h2:((s[i].toNat:Int)==46)with
    |true=>
     rw[h2,jF]at hI;simp only[jF];exact next _ hI
    |false=>
     rw[h2,jG]at hI;simp only[jG];cases h3:((s[i].toNat:Int)==39)with
     |true=>
      rw[h3,iM,jF]at hI;have e:((s[i].toNat:Int) !=39)=false:=by rw[bne,h3];rfl
      simp only[e,jG];refine kg.pL (fun _=>next _ hI) fun _=>kg.pL (fun _=>next _ hI) fun _=>next _ hI
     |false=>
      rw[h3,iJ]at hI;have e:((s[i].toNat:Int) !=39)=true:=by rw[bne,h3];rfl
      simp only[e,jF];refine kg.pL (fun h4=>kg.pure ?_) fun h4=>kg.pL (fun h5=>kg.pure ?_) fun h5=>next _ ?_
      ·have:decide (48<=(s[i].toNat:Int))=false:=jI (by have:=jJ h4;omega);rw[this]at hI;unfold alN;rw[hI];rfl
      ·have:decide ((s[i].toNat:Int)<=57)=false:=jI (by have:=jJ h5;omega);rw[this,jp]at hI;unfold alN;rw[hI];rfl
      ·have a1:decide (48<=(s[i].toNat:Int))=true:=jH (by have:=jK h4;omega);have a2:decide ((s[i].toNat:Int)<=57)=true:=jH (by have:=jK h5;omega);rw[a1,a2]at hI;exact hI
 ·intro b hI;refine kg.lp (fun n m=>by simp only[ajH,NG,mB];exact rfl) ?_;simp only[iy,decide_false,jG];rw[iF,Ji]at hI;cases b with
  |true=>exact kg.pure (by unfold alN;rw[hI];rfl)
  |false=>exact kg.pure (by unfold alN;rw[hI];simp)
theorem aqX(s:kp)(hl:s.length<=lm*4):Ev (fun n=>EI n s) (alN s):=by
 refine k6.ev ?_;refine k6.fn (fun n=>by simp only[EI,kB,Wc,mB];exact rfl) ?_;refine k6.pL (fun h=>k6.pure ?_) fun _=>?_
 ·have:=jM.1 h;subst this;rfl
 refine k6.pL (fun h=>k6.pure ?_) fun h64=>?_
 ·have:decide ((s.length:Int)<=64)=false:=jI (by have:=jJ h;omega);unfold alN;rw[this,jp]
 have aSk:decide ((s.length:Int)<=64)=true:=jH (by have:=jK h64;omega);have hT:alN s=Ji true s:=by unfold alN;rw[aSk,Bool.and_true]
 rw[hT];refine k6.BX (F:=fun n m=>B4 n m s true 0) ?_;refine kg.up (S:=Bool) (L:=fun n m i b=>B4 n m s b i) s.length (fun i b=>Ji true s=Ji b (s.drop i)) _ ?_ ?_ 0 true (by omega) rfl
 ·intro i b hi hI next
  refine kg.lp (fun n m=>by simp only[Lb,B3,mB];exact rfl) ?_;simp only[hi,iz,decide_true,jF];refine kg.Cv hi ?_;rw[iC hi,Ji]at hI;rw[k9 (by simp only[lm]at hl;omega)];have aRf:=(awR s[i]).2;cases b with
  |true=>
   simp only[jF]at hI ⊢;refine kg.nJ (aRf.tot (Q:=(· =ahI s[i])) rfl) fun x hx=>?_
   subst hx;cases h1:ahI s[i]with
   |true=>rw[h1,jF]at hI;exact next _ hI
   |false=>rw[h1,jG]at hI;exact kg.pure hI.symm
  |false=>
   simp only[jG]at hI ⊢;cases h2:((s[i].toNat:Int)==46)with
   |true=>
    have hz:ahI s[i]=false:=by
     have e:=jM.1 h2;unfold ahI;rw[e];rfl
    rw[hz,jG,h2,jF]at hI;simp only[jF];exact next _ hI
   |false=>
    simp only[jG];refine kg.nJ (aRf.tot (Q:=(· =ahI s[i])) rfl) fun x hx=>?_
    subst hx;cases h1:ahI s[i]with
    |true=>rw[h1,jF]at hI;simp only[jF];exact next _ hI
    |false=>
     rw[h1,jG,h2,jG]at hI;simp only[jG];cases h3:((s[i].toNat:Int)==39)with
     |true=>
      rw[h3,iM,jF]at hI;have e:((s[i].toNat:Int) !=39)=false:=by rw[bne,h3];rfl
      simp only[e,jG];exact next _ hI
     |false=>
      rw[h3,iJ]at hI;have e:((s[i].toNat:Int) !=39)=true:=by rw[bne,h3];rfl
      simp only[e,jF];refine kg.pL (fun h4=>kg.pure ?_) fun h4=>kg.pL (fun h5=>kg.pure ?_) fun h5=>next _ ?_
      ·have:decide (48<=(s[i].toNat:Int))=false:=jI (by have:=jJ h4;omega);rw[this]at hI;exact hI.symm
      ·have:decide ((s[i].toNat:Int)<=57)=false:=jI (by have:=jJ h5;omega);rw[this,jp]at hI;exact hI.symm
      ·have a1:decide (48<=(s[i].toNat:Int))=true:=jH (by have:=jK h4;omega);have a2:decide ((s[i].toNat:Int)<=57)=true:=jH (by have:=jK h5;omega);rw[a1,a2]at hI;exact hI
 ·intro b hI;refine kg.lp (fun n m=>by simp only[Lb,B3,mB];exact rfl) ?_;simp only[iy,decide_false,jG];rw[iF,Ji]at hI;exact kg.pure hI.symm
theorem aNq(l:List kp)(sep:kp)(h:(jl l sep).length<=140737488355328)(hl:l.length<=140737488355328):Ev (fun n=>strings_Join n l sep) (jl l sep):=by
 refine Ev.fn (G:=fun _=>some (jl l sep)) (fun n=>?_) Ev.pure;simp only[strings_Join,jH h,jH hl,Bool.and_self,jF]
theorem aK1(l:List kp)(h:l.length<=lm*4):Ev (fun n=>yK n l) ((l,()),()):=by
 refine⟨1,fun n hn=>?_⟩;obtain⟨k,rfl⟩:∃k,n=k+1:=⟨n-1,by omega⟩
 match l,h with
 |[],_=>rfl
 |x::xs,h=>
  simp only[lm,iI]at h;show(bif decide ((xs.length+1)*16<=17592186044416)then some ((x::xs,()),())else none)=_;rw[jH (by omega)];rfl
theorem azt(l:List kp)(name:kp)(h:aeE l<=lm*2)(hn:name.length<=lm*2):Ev (fun n=>yP n l name) (FN l name):=by
 have hll:=Jh l;refine Ev.fn (fun n=>by simp only[yP,kB,JK,mB];exact rfl) ?_;refine Ev.bind (aK1 l (by omega)) ?_;simp only[aqW (k:=l.length) (by omega),jF];have hj:=alR name l;refine Ev.bind (x:=FN l name) ?_ Ev.pure;have:=aNq (l++[name]) [46] (by rw[asi,hj];simp only[lm]at h hn;omega) (by rw[iE];simp only[lm,iG]at*;omega)
 rwa [asi]at this
theorem aD2(l:List kp)(k:Nat)(hk:k<=l.length)(name:kp)(h:aeE l<=lm*2)(hn:name.length<=lm*2):Ev (fun n=>afs n l k name) (FN (l.take k) name):=by
 have hll:=Jh l
 have flat:∀(a:List kp)(x:kp),FN a x=FN a []++x:=by
  intro a x;induction a with
  |nil=>rfl
  |cons y a ih=>rw[aoM,aoM,ih];simp
 refine k6.ev ?_;refine k6.fn (fun n=>by simp only[afs,kB,afr,mB];exact rfl) ?_;refine k6.BX (F:=fun n m=>Kx n m l k name [] 0) ?_;refine kg.up (S:=kp) (L:=fun n m i s=>Kx n m l k name s i) k (fun i s=>s=FN (l.take i) []) _ ?_ ?_ 0 [] (by omega) rfl
 ·intro i s hi hs next
  refine kg.lp (fun n m=>by simp only[agV,Kw,mB];exact rfl) ?_;have hi':i<l.length:=by omega
  simp only[hi,iz,decide_true,jF];refine kg.Cv hi' ?_;have h1:=alR [] (l.take i);have h2:=alU l i;have h3:=aeF (iA hi');rw[<-hs]at h1;simp only[iK,lm]at h1 h hn;have d1:decide (l[i].length<=9223372036854775806)=true:=jH (by omega);have d2:decide (s.length+(l[i].length+1)<=9223372036854775807)=true:=jH (by omega);simp only[d1,d2,jF];rw[k9 (by omega)];refine next _ ?_
  rw[hs,iQ hi',aBg,flat (l.take i) (FN [l[i]] [])];rfl
 ·intro s hs;refine kg.lp (fun n m=>by simp only[agV,Kw,mB];exact rfl) ?_;have h1:=alR [] (l.take k);have h2:=alU l k;rw[<-hs]at h1;simp only[iK,lm]at h1 h hn;have d1:decide (s.length+name.length<=9223372036854775807)=true:=jH (by omega);simp only[iy,decide_false,jG,d1,jF];refine kg.pure ?_;rw[hs,flat (l.take k) name]
def alo(env:List ky)(ns:List kp)(name:kp):Nat->Option kp
 |0=>none
 |k+1=>bif Bj env (FN (ns.take (k+1)) name)then some (FN (ns.take (k+1)) name)else alo env ns name k
def Qn(env:List ky)(opens:List kp)(name:kp):List kp:=(opens.map fun o=>o++[46]++name).filter (Bj env)
def aqY(env:List ky)(name:kp):List kp->kp×Int
 |[]=>bif Bj env name then(name,0)else([],9)
 |s::r=>bif r.all (· ==s)then(s,0)else([],8)
def ayt(st:kI)(name:kp):kp×Int:=
 bif alN name then
  match alo st.env st.qz name st.qz.length with
  |some s=>(s,0)
  |none=>aqY st.env name (Qn st.env st.opens name)
 else([],29)
def awS(env:List ky)(name f:kp)(c:List kp):kp×Int:=bif f==[] then aqY env name c else bif c.all (· ==f)then(f,0)else([],8)
theorem anH{env:List ky}{opens:List kp}{name:kp}(hi:i<opens.length)(h:Bj env (opens[i]++[46]++name)=true):
 Qn env (opens.drop i) name=(opens[i]++[46]++name)::Qn env (opens.drop (i+1)) name:=by
 rw[iC hi];simp only[Qn,jB];rw[List.filter_cons_of_pos (by exact h)]
theorem aqZ{env:List ky}{opens:List kp}{name:kp}(hi:i<opens.length)(h:Bj env (opens[i]++[46]++name)=false):
 Qn env (opens.drop i) name=Qn env (opens.drop (i+1)) name:=by
 rw[iC hi];simp only[Qn,jB];rw[List.filter_cons_of_neg (by rw[h];simp)]
theorem awT(st:kI)(h:SOK st)(name:kp)(hn:name.length<=lm*2):Ev (fun n=>Rg n st name) (ayt st name):=by
 refine Ev.fn (fun n=>by simp only[Rg,kB,UF,mB];exact rfl) ?_;refine Ev.bind (aqX name (by omega)) ?_;unfold ayt;cases hnm:alN name with
 |false=>exact Ev.pure
 |true=>
 simp only[jF]
 have hop:Ev (fun n=>Ao n n name [] 0 st) (aqY st.env name (Qn st.env st.opens name)):=by
  refine k6.ev (k6.BX (F:=fun n m=>Ao n m name [] 0 st) ?_);have hl:=h.op;refine kg.up (S:=kp) (L:=fun n m i f=>Ao n m name f i st) st.opens.length (fun i f=>aqY st.env name (Qn st.env st.opens name)=awS st.env name f (Qn st.env (st.opens.drop i) name)) _ ?_ ?_ 0 [] (by omega) (by simp [awS])
  ·intro i f hi hI next
   refine kg.lp (fun n m=>by simp only[X1,Dx,mB];exact rfl) ?_;simp only[hi,iz,decide_true,jF];refine kg.Cv hi ?_;have ho:=h.kH _ (iA hi);simp only[lm]at ho hn hl;have d1:decide (st.opens[i].length<=9223372036854775806)=true:=jH (by omega);have d2:decide (st.opens[i].length+1+name.length<=9223372036854775807)=true:=jH (by omega);simp only[d1,d2,jF];rw[k9 (by omega)];refine kg.nJ ((aSG st h (st.opens[i]++[46]++name)).tot (Q:=(· =Bj st.env (st.opens[i]++[46]++name))) rfl) fun x hx=>?_
   subst hx;cases hd:Bj st.env (st.opens[i]++[46]++name)with
   |false=>
    rw[aqZ hi hd]at hI;simp only[jG];exact next _ hI
   |true=>
    rw[anH hi hd]at hI;simp only[jF];have sB:((st.opens[i]++[46]++name)==[])=false:=by simp
    cases hf:(f==[])with
    |true=>
     have:=jM.1 hf;subst this;simp only[jF];refine next _ ?_
     rw[hI];simp only[awS,sB,jG,aqY,beq_self_eq_true,jF]
    |false=>
     simp only[jG];cases he:(f==st.opens[i]++[46]++name)with
     |true=>
      have:=jM.1 he;simp only[jF];refine next _ ?_
      rw[hI,<-this];simp only[awS,hf,jG,jt,beq_self_eq_true,iL]
     |false=>
      simp only[jG];refine kg.pure ?_;rw[hI];rw[alm]at he;simp only[awS,hf,jG,jt,he,iY]
  ·intro f hI;refine kg.lp (fun n m=>by simp only[X1,Dx,mB];exact rfl) ?_;simp only[iy,decide_false,jG];rw[iF]at hI;have e:Qn st.env [] name=[]:=rfl;rw[e]at hI;cases hf:(f==[])with
   |true=>
    simp only[jF];refine kg.nJ ((aSG st h name).tot (Q:=(· =Bj st.env name)) rfl) fun x hx=>?_
    subst hx;rw[hI];simp only[awS,hf,jF,aqY];cases Bj st.env name<;>exact kg.pure rfl
   |false=>
    simp only[jG];refine kg.pure ?_;rw[hI];simp only[awS,hf,jG,List.all_nil,jF]
 have loop:∀k:Nat,k<=st.qz.length->pm (fun n m=>Jc n m name k st) (match alo st.env st.qz name k with
  |some s=>(s,0)
  |none=>aqY st.env name (Qn st.env st.opens name)):=by
  intro k;have hns:=h.ns;have hll:=Jh st.qz;induction k with
  |zero=>
   intro _;refine pm.lp (fun n m=>by simp only[X4,Dy,mB];exact rfl) ?_;have d:decide ((0:Int)<((0:Nat):Int))=false:=rfl;simp only[d,jG];exact pm.of1 hop
  |succ k ih=>
   intro hk;refine pm.lp (fun n m=>by simp only[X4,Dy,mB];exact rfl) ?_;have d:decide ((0:Int)<((k+1:Nat):Int))=true:=jH (by omega);simp only[d,jF];refine pm.nJ (aD2 st.qz (k+1) hk name (by omega) hn) ?_;refine pm.nJ (aSG st h _) ?_;simp only[alo];cases Bj st.env (FN (st.qz.take (k+1)) name)with
   |true=>exact pm.pure
   |false=>
    simp only[jG];rw[sA (by omega) (by simp only[lm]at hns;omega)];have e:((k+1:Nat):Int)-1=(k:Int):=by omega
    rw[e];exact ih (by omega)
 exact Ev.BX (loop st.qz.length (jf _))
def sdd(lV:List kp)(l:List kp):List kp:=l.foldl (fun a x=>bif a.any (· ==x)then a else a++[x]) lV
theorem aGo:∀(l lV:List kp),lV.length<=(sdd lV l).length
 |[],lV=>jf _
 |x::l,lV=>by
  show lV.length<=(sdd (bif lV.any (· ==x)then lV else lV++[x]) l).length;cases lV.any (· ==x)with
  |true=>exact aGo l lV
  |false=>exact Nat.le_trans (by simp) (aGo l (lV++[x]))
theorem aK2(s:kp):∀l:List kp,l.all (· ==s)=true->sdd [s] l=[s]
 |[],_=>rfl
 |x::l,h=>by
  rw[jt,iV]at h;have e:=jM.1 h.1;subst e;show sdd (bif [x].any (· ==x)then [x] else [x]++[x]) l=[x];simp only[iU,beq_self_eq_true,iM,jF];exact aK2 x l h.2
theorem aK3(s:kp):∀l:List kp,l.all (· ==s)=false->2<=(sdd [s] l).length
 |[],h=>by simp at h
 |x::l,h=>by
  show 2<=(sdd (bif [s].any (· ==x)then [s] else [s]++[x]) l).length;cases hx:(x==s)with
  |true=>
   rw[jt,hx,iL]at h;have e:=jM.1 hx;subst e;simp only[iU,beq_self_eq_true,iM,jF];exact aK3 x l h
  |false=>
   rw[alm]at hx;simp only[iU,hx,iZ,iS,jG];exact aGo l ([s]++[x])
theorem aID(st:kI)(h:SOK st)(name:kp)(hn:name.length<=lm*2):Ev (fun n=>Wr n st name) (sdd [] (Qn st.env st.opens name)):=by
 have hl:=h.op;refine k6.ev ?_;refine k6.fn (fun n=>by simp only[Wr,kB,Ym,mB];exact rfl) ?_;refine k6.BX (F:=fun n m=>FE n m name st.opens st.opens.length 0 st []) ?_;refine kg.up (S:=List kp) (L:=fun n m i a=>FE n m name st.opens st.opens.length i st a) st.opens.length (fun i a=>a.length<=i/\sdd [] (Qn st.env st.opens name)=sdd a (Qn st.env (st.opens.drop i) name)) _ ?_ ?_ 0 [] (by omega) ⟨by simp,rfl⟩
 ·rintro i a hi ⟨ha,hI⟩ next
  refine kg.lp (fun n m=>by simp only[aam,FD,mB];exact rfl) ?_;simp only[hi,iz,decide_true,jF];refine kg.Cv hi ?_;have ho:=h.kH _ (iA hi);rw[k9 (by simp only[lm]at hl;omega)];have ej:FN [st.opens[i]] name=st.opens[i]++[46]++name:=by simp [FN]
  refine kg.nJ ((azt [st.opens[i]] name (by simp only[aeE];omega) hn).tot (Q:=(· =st.opens[i]++[46]++name)) ej) fun x hx=>?_
  subst hx;refine kg.nJ ((aln st h (st.opens[i]++[46]++name)).tot (Q:=(· =Bj st.env (st.opens[i]++[46]++name))) rfl) fun x hx=>?_
  subst hx;cases hd:Bj st.env (st.opens[i]++[46]++name)with
  |false=>
   rw[aqZ hi hd]at hI;simp only[jG];exact next _ ⟨by omega,hI⟩
  |true=>
   rw[anH hi hd]at hI;simp only[jF];refine kg.nJ ((Fg a (st.opens[i]++[46]++name) (by omega)).tot (Q:=(· =a.any (· ==st.opens[i]++[46]++name))) rfl) fun x hx=>?_
   subst hx;have hI':sdd [] (Qn st.env st.opens name)=sdd (bif a.any (· ==st.opens[i]++[46]++name)then a else a++[st.opens[i]++[46]++name]) (Qn st.env (st.opens.drop (i+1)) name):=hI;cases hc:a.any (· ==st.opens[i]++[46]++name)with
   |true=>
    rw[hc]at hI';simp only[jF]at hI' ⊢;exact next _ ⟨by omega,hI'⟩
   |false=>
    rw[hc]at hI';simp only[jG,aqW (k:=a.length) (by omega),jF]at hI' ⊢;exact next _ ⟨by simp only[iE,iG];omega,hI'⟩
 ·rintro a ⟨ha,hI⟩;refine kg.lp (fun n m=>by simp only[aam,FD,mB];exact rfl) ?_;simp only[iy,decide_false,jG];refine kg.pure ?_;rw[hI,iF];rfl
theorem aGp(st:kI)(h:SOK st)(name:kp)(hn:name.length<=lm*2):Ev (fun n=>Rk n st name) (ayt st name):=by
 refine Ev.fn (fun n=>by simp only[Rk,kB,UX,mB];exact rfl) ?_;refine Ev.bind (aD1 name (by omega)) ?_;unfold ayt;cases hnm:alN name with
 |false=>exact Ev.pure
 |true=>
 simp only[jF];have he:Ev (fun n=>K4 n st) st:=by refine Ev.fn (fun n=>by simp only[K4,kB,Nd,mB];exact rfl) ?_;exact Ev.pure
 refine Ev.bind he ?_;have hns:=h.ns;have hll:=Jh st.qz
 have round:∀k:Nat,Ev (fun n=>wZ n (st.qz.take k) st name [] 0) (bif Bj st.env (FN (st.qz.take k) name)then((((),1),(st,()),(name,()),(FN (st.qz.take k) name,()),(0,()),()),false,())else((((),0),(st,()),(name,()),([],()),(0,()),()),true,())):=by
  intro k;have:=alU st.qz k;refine Ev.fn (fun n=>by simp only[wZ,kB,yZ,mB];exact rfl) ?_;refine Ev.bind (azt _ name (by omega) hn) (Ev.bind (aln st h _) ?_);cases Bj st.env (FN (st.qz.take k) name)<;>exact Ev.pure
 have loop:∀k:Nat,k<=st.qz.length->pm (fun n m=>BU n m st k 0 st name [] 0) (match alo st.env st.qz name k with
  |some s=>((((),1),(st,()),(name,()),(s,()),(0,()),()),())
  |none=>((((),0),(st,()),(name,()),([],()),(0,()),()),())):=by
  intro k;induction k with
  |zero=>
   intro _;refine pm.lp (fun n m=>by simp only[OM,yu,mB];exact rfl) ?_;have d:decide ((0:Int)<((0:Nat):Int))=false:=rfl;simp only[d,jG];exact pm.pure
  |succ k ih=>
   intro hk;refine pm.lp (fun n m=>by simp only[OM,yu,mB];exact rfl) ?_;have d:decide ((0:Int)<((k+1:Nat):Int))=true:=jH (by omega);have d2:decide ((0:Int)<=((k+1:Nat):Int)/\((k+1:Nat):Int)<=(st.qz.length:Int)/\(st.qz.length:Int)<=(st.qz.length:Int))=true:=jH (by omega);simp only[d,d2,jF,beq_self_eq_true,iO];refine pm.nJ (round (k+1)) ?_;simp only[alo];cases Bj st.env (FN (st.qz.take (k+1)) name)with
   |true=>exact pm.pure
   |false=>
    simp only[jG,jF];rw[sA (by omega) (by simp only[lm]at hns;omega)];have e:((k+1:Nat):Int)-1=(k:Int):=by omega
    rw[e];exact ih (by omega)
 have aSl:Ev (fun n=>G5 n st st name [] 0) (match alo st.env st.qz name st.qz.length with
  |some s=>((((),1),(st,()),(name,()),(s,()),(0,()),()),())
  |none=>((((),0),(st,()),(name,()),([],()),(0,()),()),())):=by
  refine Ev.fn (fun n=>by simp only[G5,kB,JS,mC];exact rfl) ?_;exact Ev.BX (loop st.qz.length (jf _))
 refine Ev.bind aSl ?_;cases alo st.env st.qz name st.qz.length with
 |some s=>exact Ev.pure
 |none=>
  simp only[beq_self_eq_true,jF];refine Ev.bind (aID st h name hn) ?_;cases hc:Qn st.env st.opens name with
  |nil=>
   have e1:decide ((1:Int)<((sdd [] ([]:List kp)).length:Int))=false:=rfl;have e2:(((sdd [] ([]:List kp)).length:Int)==1)=false:=rfl;simp only[e1,e2,jG];refine Ev.bind (aln st h name) ?_;simp only[aqY];cases Bj st.env name<;>exact Ev.pure
  |cons s r=>
   have hdd:sdd [] (s::r)=sdd [s] r:=rfl;rw[hdd];simp only[aqY];cases hr:r.all (· ==s)with
   |true=>
    rw[aK2 s r hr];have e1:decide ((1:Int)<(([s]:List kp).length:Int))=false:=rfl;have e2:((([s]:List kp).length:Int)==1)=true:=rfl;simp only[e1,e2,jG,jF];exact Ev.pure
   |false=>
    have h2:=aK3 s r hr;have e1:decide ((1:Int)<((sdd [s] r).length:Int))=true:=jH (by omega);simp only[e1,jF,jG];exact Ev.pure
theorem anI(l:List kp)(s:kp)(hl:l.length<=lm*4):Ev (fun n=>uZ n l s) (l.any (· ==s)):=by
 refine k6.ev ?_;refine k6.fn (fun n=>by simp only[uZ,kB,AM,mB];exact rfl) ?_
 have h1:k6 (fun n=>A8 n l s) (fun r=>decide (0<=r)=l.any (· ==s)):=by
  refine k6.fn (fun n=>by simp only[A8,kB,C3,mB];exact rfl) ?_;refine k6.BX (F:=fun n m=>uY n m l s l.length 0) ?_;refine kg.up (S:=Unit) (L:=fun n m i _=>uY n m l s l.length i) l.length (fun i _=>l.any (· ==s)=(l.drop i).any (· ==s)) _ ?_ ?_ 0 () (by omega) rfl
  ·intro i u hi hI next
   refine kg.lp (fun n m=>by simp only[HJ,uX,mB];exact rfl) ?_;simp only[hi,iz,decide_true,jF];refine kg.Cv hi ?_;rw[D3 _ _ _ hi,alm]at hI;refine kg.pL (fun hc=>kg.pure ?_) fun hc=>?_
   ·rw[hI,hc,iM];simp
   ·rw[k9 (by simp only[lm]at hl;omega)];exact next u (by rw[hI,hc,iJ])
  ·intro u hI;refine kg.lp (fun n m=>by simp only[HJ,uX,mB];exact rfl) ?_;simp only[iy,decide_false,jG];refine kg.pure ?_;rw[hI,iF];rfl
 exact k6.bind h1 fun x hx=>k6.pure hx
theorem aBi:∀s:kp,jD s [46]=s.contains 46:=by
 intro s;induction s with
 |nil=>rfl
 |cons x r ih=>
  grind [jD,Lib.index]
theorem aK4(s:kp)(h:s.length<=lm*4):Ev (fun n=>strings_Contains n s [46]) (s.contains 46):=by
 refine⟨1,fun n hn=>?_⟩;obtain⟨k,rfl⟩:∃k,n=k+1:=⟨n-1,by omega⟩;show(bif decide (s.length<4294967281)then some (jD s [46])else none)=_;rw[jH (by simp only[lm]at h;omega),aBi];rfl
theorem aNr(k:Nat)(h:k<4611686018427387904):Ev (fun n=>strconv_Itoa n (k:Int)) (jE k):=by
 refine⟨1,fun n hn=>?_⟩;obtain⟨m,rfl⟩:∃m,n=m+1:=⟨n-1,by omega⟩;show(bif decide ((0:Int)<=(k:Int))&&decide ((k:Int)<=9223372036854775807)then some (jE k)else none)=_;rw[jH (show(0:Int)<=(k:Int) by omega),jH (show(k:Int)<=9223372036854775807 by omega)];rfl
theorem aK5(k:Nat):jE (k:Int)=ja k:=by
 unfold jE;rw[if_neg (by omega),iO]
theorem anJ(k:Nat):∀u:Nat,u<=k->(ja u).length<=u+1:=by
 induction k with
 |zero=>intro u hu;rw[jv (by omega)];simp
 |succ k ih=>
  intro u hu;by_cases h:u<10
  ·rw[jv h];simp
  ·rw[ja,dif_neg h,iE,iG];have:=ih (u / 10) (by omega);omega
theorem aq0(h:0<=n)(h2:n<256):IntKind.u8.wrap n=n:=by
 simp only[IntKind.wrap,IntKind.signed,IntKind.bits]
 grind
theorem aGq:∀k:Nat,k<=lm*8->Ev (fun n=>FT n (k:Int)) (ja k):=by
 intro k;induction k using iH with
 |ind k ih=>
  intro hk;refine Ev.fn (fun n=>by simp only[FT,kB,Uv,mB];exact rfl) ?_;by_cases h:k<10
  ·rw[jv h];simp only[jH (show(k:Int)<10 by omega),jF]
   have e:(IntKind.u8.wrap (48+IntKind.u8.wrap (k:Int))).toNat=48+k:=by
    rw[aq0 (n:=(k:Int)) (by omega) (by omega),aq0 (by omega) (by omega)];omega
   rw[e];exact Ev.pure
  ·simp only[jI (show ¬ (k:Int)<10 by omega),jG]
   have e1:IntKind.i64.wrap ((k:Int).tdiv 10)=((k / 10:Nat):Int):=by
    rw[show(k:Int).tdiv 10=((k / 10:Nat):Int)from rfl,sA (by omega) (by simp only[lm]at hk;omega)]
   have e2:(IntKind.u8.wrap (48+IntKind.u8.wrap ((k:Int).tmod 10))).toNat=48+k % 10:=by
    rw[show(k:Int).tmod 10=((k % 10:Nat):Int)from rfl,aq0 (n:=((k % 10:Nat):Int)) (by omega) (by omega),aq0 (by omega) (by omega)];omega
   simp only[e1,e2];refine Ev.bind (ih (k / 10) (by omega) (by omega)) ?_;have hl:=anJ (k / 10) (k / 10) (by omega);have hd:decide ((ja (k / 10)).length<=9223372036854775806)=true:=jH (by simp only[lm]at hk;omega);rw[Lib.decDigits.eq_def k,dif_neg h];simp only[hd,jF];exact Ev.pure
def ace(w:List kp)(s:kp):Bool:=alN s&&(!kws.contains s&&(!(s==[95])&& !w.any (· ==s)))
def aeG(w:List kp)(s:kp):Bool:=ace w s&& !s.contains 46
theorem aq1(w:List kp)(s:kp)(hw:w.length<=lm*4)(hs:s.length<=lm*4):Ev (fun n=>qP n w s) (ace w s):=by
 refine Ev.fn (fun n=>by simp only[qP,kB,xN,mB];exact rfl) ?_;refine Ev.bind (aD1 s hs) ?_;unfold ace;cases alN s with
 |false=>exact Ev.pure
 |true=>
  simp only[jF,iL];refine Ev.bind (aGe s) ?_;cases kws.contains s with
  |true=>exact Ev.pure
  |false=>
   cases s==[95]with
   |true=>exact Ev.pure
   |false=>exact Ev.bind (anI w s hw) Ev.pure
structure TB(T:List jS):Prop where
 len:T.length<=lm
 parts:∀n∈T,n.parts.length<=lm
 sum:ab9 T<=lm
theorem TB.aD3{T:List jS}(h:TB T):(aeD [] T).length<=lm:=by
 have:=azr T [];have:=h.sum;simp only[iK]at*;omega
theorem aeH(T:List jS)(s:kp)(h:TB T)(hs:s.length<=lm*4):Ev (fun n=>Ft n T s) (ace (aeD [] T) s):=by
 have hw:=h.aD3;refine Ev.fn (fun n=>by simp only[Ft,kB,Oe,mB];exact rfl) ?_;refine Ev.bind (aqX s hs) ?_;unfold ace;cases alN s with
 |false=>exact Ev.pure
 |true=>
  simp only[jF,iL];refine Ev.bind (ayp s) ?_;cases kws.contains s with
  |true=>exact Ev.pure
  |false=>
   cases s==[95]with
   |true=>exact Ev.pure
   |false=>exact Ev.bind (aDW T h.len h.parts h.sum) (Ev.bind (MH _ s (by unfold xO;simp only[lm]at hw;omega)) Ev.pure)
theorem azu(w:List kp)(s:kp)(hw:w.length<=lm*4)(hs:s.length<=lm*4):Ev (fun n=>qL n w s) (aeG w s):=by
 refine Ev.fn (fun n=>by simp only[qL,kB,Aa,mB];exact rfl) ?_;refine Ev.bind (aq1 w s hw hs) ?_;unfold aeG;cases ace w s with
 |false=>exact Ev.pure
 |true=>exact Ev.bind (aK4 s hs) Ev.pure
theorem aK6(c:UInt8):(((c.toNat:Int))==46)=(c==46):=by
 rw[iX,jM,jM];constructor
 ·intro h;have:c.toNat=46:=by omega
  exact UInt8.toNat_inj.1 this
 ·rintro rfl;rfl
theorem anK(T:List jS)(s:kp)(h:TB T)(hs:s.length<=lm*4):Ev (fun n=>Om n T s) (aeG (aeD [] T) s):=by
 refine Ev.fn (fun n=>by simp only[Om,kB,Yc,mB];exact rfl) ?_;refine Ev.bind (aeH T s h hs) ?_;unfold aeG;cases ace (aeD [] T) s with
 |false=>exact Ev.pure
 |true=>
  simp only[jF,iL];refine k6.ev (k6.BX (F:=fun n m=>Fy n m s 0) ?_);refine kg.up (S:=Unit) (L:=fun n m i _=>Fy n m s i) s.length (fun i _=>s.contains 46=(s.drop i).contains 46) _ ?_ ?_ 0 () (by omega) rfl
  ·intro i u hi hI next
   refine kg.lp (fun n m=>by simp only[aab,Fx,mB];exact rfl) ?_;simp only[hi,iz,decide_true,jF];refine kg.Cv hi ?_;rw[iC hi,jh]at hI;rw[k9 (by simp only[lm]at hs;omega),aK6,alm];refine kg.pL (fun hc=>kg.pure ?_) fun hc=>next u ?_
   ·rw[hI,hc];rfl
   ·rw[hI,hc,iJ]
  ·intro u hI;refine kg.lp (fun n m=>by simp only[aab,Fx,mB];exact rfl) ?_;simp only[iy,decide_false,jG];rw[iF]at hI;exact kg.pure (by rw[hI];rfl)
structure NOK(x:j4)(y:j9):Prop where
 st:y.st=x.st
 kC:y.kC=x.kC
 A7:y.A7=x.A7
 yJ:x.yJ=aeD [] x.st.pZ
 tb:TB x.st.pZ
 xK:∀s,y.xK.any (· ==s)=x.xK.any (· ==s)
 aD4:x.A7.length<=lm
 aPh:x.kC.length<=lm
 aSm:x.xK.length<=lm
 aRg:y.xK.length<=lm
 cs:∀s∈x.A7,s.length<=lm
 ls:∀s∈x.kC,s.length<=lm
 ks:∀s∈x.xK,s.length<=lm
 ws:∀s∈x.yJ,s.length<=lm
 sok:SOK x.st
theorem NOK.aD3(h:NOK x y):x.yJ.length<=lm:=by
 rw[h.yJ];exact h.tb.aD3
def taken(x:j4)(s:kp):Bool:=x.A7.any (· ==s)||(x.xK.any (· ==s)||x.yJ.any (· ==s))
theorem awU(h:∀s∈l,s.length<=k)(hs:k<s.length):l.any (· ==s)=false:=by
 rw[Bool.eq_false_iff];intro hc;obtain⟨t,ht,e⟩:=jm.1 hc;obtain rfl:=jM.1 e;have:=h t ht;omega
theorem aoN(h:NOK x y)(s:kp)(hs:s.length<=lm*4):
 (taken x s=false->pm (fun n m=>su n m x s) s/\pm (fun n m=>tT n m s y) s)/\
 (taken x s=true->∀r,pm (fun n m=>su n m x (s++[39])) r->pm (fun n m=>tT n m (s++[39]) y) r->pm (fun n m=>su n m x s) r/\pm (fun n m=>tT n m s y) r):=by
 have c1:=Fg x.A7 s (by have:=h.aD4;omega);have c2:=Fg x.xK s (by have:=h.aSm;omega);have c3:=anI x.yJ s (by have:=h.aD3;omega);have d1:=MH y.A7 s (by rw[h.A7];have:=h.aD4;unfold xO;simp only[lm]at this;omega);have d2:=MH y.xK s (by have:=h.aRg;unfold xO;simp only[lm]at this;omega);have d3:=MH x.yJ s (by have:=h.aD3;unfold xO;simp only[lm]at this;omega);have d4:=aDW x.st.pZ h.tb.len h.tb.parts h.tb.sum;rw[<-h.yJ,<-h.st]at d4;rw[h.A7]at d1;rw[h.xK]at d2;have hl:decide (s.length<=9223372036854775806)=true:=jH (by simp only[lm]at hs;omega);unfold taken;constructor
 ·intro ht;simp only[jz]at ht;obtain⟨t1,t2,t3⟩:=ht;rw[t1]at c1 d1;rw[t2]at c2 d2;rw[t3]at c3 d3;constructor
  ·refine pm.lp (fun n m=>by simp only[KI,wT,mB];exact rfl) ?_;exact pm.nJ c1 (pm.nJ c2 (pm.nJ c3 pm.pure))
  ·refine pm.lp (fun n m=>by simp only[Od,yq,mB];exact rfl) ?_;rw[h.A7];exact pm.nJ d1 (pm.nJ d2 (pm.nJ d4 (pm.nJ d3 pm.pure)))
 ·intro ht r hr1 hr2;constructor
  ·refine pm.lp (fun n m=>by simp only[KI,wT,mB];exact rfl) ?_;refine pm.nJ c1 ?_;cases t1:x.A7.any (· ==s)with
   |true=>simp only[jF,hl];exact hr1
   |false=>
    rw[t1,iJ]at ht;refine pm.nJ c2 ?_;cases t2:x.xK.any (· ==s)with
    |true=>simp only[jF,hl];exact hr1
    |false=>
     rw[t2,iJ]at ht;refine pm.nJ c3 ?_;simp only[ht,jF,hl];exact hr1
  ·refine pm.lp (fun n m=>by simp only[Od,yq,mB];exact rfl) ?_;rw[h.A7];refine pm.nJ d1 ?_;cases t1:x.A7.any (· ==s)with
   |true=>simp only[jF,hl];exact hr2
   |false=>
    rw[t1,iJ]at ht;refine pm.nJ d2 ?_;cases t2:x.xK.any (· ==s)with
    |true=>simp only[jF,hl];exact hr2
    |false=>
     rw[t2,iJ]at ht;refine pm.nJ d4 (pm.nJ d3 ?_);simp only[ht,jF,hl];exact hr2
theorem aGr(h:NOK x y):∀(d:Nat)(s:kp),lm+1<=s.length+d->s.length+d<=lm*4->∃r:kp,r.length<=lm*4/\pm (fun n m=>su n m x s) r/\pm (fun n m=>tT n m s y) r:=by
 intro d;induction d with
 |zero=>
  intro s h1 h2
  have ht:taken x s=false:=by
   unfold taken;rw[awU h.cs (by omega),awU h.ks (by omega),awU h.ws (by omega)];rfl
  obtain⟨a,b⟩:=(aoN h s (by omega)).1 ht;exact⟨s,by omega,a,b⟩
 |succ d ih=>
  intro s h1 h2;cases ht:taken x s with
  |false=>
   obtain⟨a,b⟩:=(aoN h s (by omega)).1 ht;exact⟨s,by omega,a,b⟩
  |true=>
   obtain⟨r,hr,a,b⟩:=ih (s++[39]) (by rw[iE,iG];omega) (by rw[iE,iG];omega);obtain⟨a,b⟩:=(aoN h s (by omega)).2 ht r a b;exact⟨r,hr,a,b⟩
theorem awV(h:NOK x y)(k:Nat)(hk:k<=lm*2-10):∃r:kp,Ev (fun n=>zt n x k) r/\Ev (fun n=>BJ n y k) r:=by
 have hl:=anJ k k (by omega);obtain⟨r,_,h1,h2⟩:=aGr h (lm+1) (120::ja k) (by simp only[iI];omega) (by simp only[iI,lm]at*;omega);have hd:decide (1+(ja k).length<=9223372036854775807)=true:=jH (by simp only[lm]at hk;omega);refine⟨r,?_,?_⟩
 ·refine Ev.fn (fun n=>by simp only[zt,kB,F9,mB];exact rfl) ?_;have hi:=aNr k (by simp only[lm]at hk;omega);rw[aK5]at hi;refine Ev.bind hi ?_;simp only[hd,jF];exact Ev.BX h1
 ·refine Ev.fn (fun n=>by simp only[BJ,kB,JQ,mB];exact rfl) ?_;refine Ev.bind (aGq k (by omega)) ?_;simp only[hd,jF];exact Ev.BX h2
def Pf(k i:Int):Int:=bif (i==1&&(k==5||(k==6||k==7)))||(i==2&&k==11)then 1 else 0
theorem alp(k i:Int):Ev (fun n=>Ed n k i) (Pf k i):=by
 refine k6.ev ?_;refine k6.fn (fun n=>by simp only[Ed,kB,Q9,mB];exact rfl) ?_
 repeat' (first|exact k6.pure (by grind [Pf])|refine k6.pL (fun _=>?_) (fun _=>?_))
theorem aK7(h:k<=lm*4):decide ((k+1)*8<=17592186044416)=true:=by
 simp only[lm]at h;simp only[jL];omega
theorem aHm(l:List Int)(v:Int)(hl:l.length<=lm*2):k6 (fun n=>alJ n l v) (fun r=>r.length<=l.length+1/\∀s,r.any (· ==s)=(l.any (· ==s)||v==s)):=by
 refine k6.fn (fun n=>by simp only[alJ,kB,ajv,mB];exact rfl) ?_;refine k6.BX (F:=fun n m=>NA n m l v false 0 []) ?_;refine kg.up (S:=Bool×List Int) (L:=fun n m i s=>NA n m l v s.1 i s.2) l.length (fun i s=>s.2.length<=i+1/\(s.1=false->s.2.length<=i)/\∀x,s.2.any (· ==x)=((l.take i).any (· ==x)||(s.1&&v==x))) _ ?_ ?_ 0 (false,[]) (by omega) ⟨by simp,fun _=>by simp,fun x=>by simp⟩
 ·rintro i ⟨b,out⟩ hi ⟨h1,h2,h3⟩ next
  simp only at h1 h2 h3;have r1:=aK7 (k:=out.length) (by omega);have r2:=aK7 (k:=out.length+1) (by omega);have hw:=k9 (i:=i) (by simp only[lm]at hl;omega);refine kg.lp (fun n m=>by simp only[aju,Nz,mB];exact rfl) ?_;simp only[hi,iz,decide_true,jF,tH hi,iB,r1,r2,hw]
  have aBE:∀x,(l.take (i+1)).any (· ==x)=((l.take i).any (· ==x)||l[i]==x):=fun x=>by
   rw[iQ hi,iT,iU,iZ,iS]
  refine kg.pL (fun hc=>kg.pure ⟨by omega,fun s=>?_⟩) fun hc=>?_
  ·have e:=jM.1 hc;cases hs:v==s with
   |false=>rw[iS]
   |true=>
    rw[Bool.or_true];exact jm.2 ⟨l[i],iA hi,by rw[e,hs]⟩
  refine kg.pL (fun _=>?_) fun _=>?_
  ·cases b with
   |true=>
    simp only[jF];exact next (true,out++[l[i]]) ⟨by simp only[iE,iG];omega,fun h=>(by cases h),fun x=>by simp only[iT,iU,iZ,iS,h3,aBE,iL];cases (l.take i).any (· ==x)<;>cases l[i]==x<;>cases v==x<;>rfl⟩
   |false=>
    have h2:=h2 rfl;simp only[jG];exact next (true,out++[v]++[l[i]]) ⟨by simp only[iE,iG];omega,fun h=>(by cases h),fun x=>by simp only[iT,iU,iZ,iS,h3,aBE,iL,iY];cases (l.take i).any (· ==x)<;>cases l[i]==x<;>cases v==x<;>rfl⟩
  ·exact next (b,out++[l[i]]) ⟨by simp only[iE,iG];omega,fun h=>by have:=h2 h;simp only[iE,iG];omega,fun x=>by simp only[iT,iU,iZ,iS,h3,aBE];cases (l.take i).any (· ==x)<;>cases l[i]==x<;>cases v==x<;>cases b<;>rfl⟩
 ·rintro⟨b,out⟩ ⟨h1,h2,h3⟩;simp only[iW]at h1 h2 h3;refine kg.lp (fun n m=>by simp only[aju,Nz,mB];exact rfl) ?_;simp only[iy,decide_false,jG];cases b with
  |true=>
   simp only[jF];exact kg.pure ⟨by omega,fun s=>by rw[h3];simp⟩
  |false=>
   have h2:=h2 rfl;have r1:=aK7 (k:=out.length) (by omega);simp only[jG,r1,jF];exact kg.pure ⟨by rw[iE,iG];omega,fun s=>by rw[iT,h3];simp⟩
abbrev aPi(K:yH kn 13):((Unit×((((yH kn 13)×Unit)×Unit)×((Unit×Int)×((Int×Unit)×((Bool×Unit)×Unit)))))×(Bool×Unit)):=(((),((K,()),()),((),0),(0,()),(false,()),()),true,())
abbrev aPj(K:yH kn 13):((Unit×((((yH kn 13)×Unit)×Unit)×((Unit×Int)×((Int×Unit)×((Bool×Unit)×Unit)))))×(Bool×Unit)):=(((),((K,()),()),((),1),(0,()),(true,()),()),false,())
def KOK(K:yH kn 13):Prop:=∀k:Nat,k<13->∃u,(Es 13 K)[k]? =some u/\∀i:Nat,i<3->(((i:Nat):Int)==u.below)=(Pf k i==1)
theorem aD5(k:Int):anG k<=3:=by
 unfold anG;cases (k==4||k==5||k==6||k==7)<;>cases (k==8||k==11)<;>cases (k==9||k==10)<;>decide
theorem agy(k i:Int):Pf k i=0\/Pf k i=1:=by
 unfold Pf;cases (i==1&&(k==5||(k==6||k==7)))||(i==2&&k==11)
 ·exact .inl rfl
 ·exact .inr rfl
theorem aIE(t:jX)(d:Nat):Ev (fun n=>xZ n d t 0 false) (bif t.kind==0&&(decide ((d:Int)<=t.index)&&IntKind.i64.wrap (t.index-d)==0)then((((),1),(0,()),(true,()),()),false,())else((((),0),(0,()),(false,()),()),true,())):=by
 refine Ev.fn (fun n=>by simp only[xZ,kB,AD,mB];exact rfl) ?_;cases t.kind==0 with
 |false=>exact Ev.pure
 |true=>
  cases IntKind.i64.wrap (t.index-d)==0 with
  |false=>simp only[jp,jF,jG];exact Ev.pure
  |true=>
   cases decide ((d:Int)<=t.index)with
   |false=>exact Ev.pure
   |true=>exact Ev.pure
theorem aIF(K:yH kn 13)(hK:KOK K):∀(t:jX),OkT t->∀d:Nat,t.kU+d<=lm->∃b:Bool,
 Ev (fun n=>rO n t d K K 0 false) (bif b then aPj K else aPi K)/\
 ∀l:List Int,l.length+t.kU<=lm*2->k6 (fun n=>yW n l t d) (fun r=>r.length<=l.length+t.kU/\r.any (· ==0)=(l.any (· ==0)||b)):=by
 intro t;induction h:t.kU using iH generalizing t with
 |ind k ih=>
  intro ok d hd;have hl:=t.Pd;have hb:1+qa jX.kU t.lr<=t.kU:=by rw[jX.xC];omega
  have h3:t.lr.length<=3:=by have:=ok.len;have:=aD5 t.kind;omega
  obtain⟨kk,hkk⟩:∃kk:Nat,t.kind=kk:=⟨t.kind.toNat,by have:=ok.lo;omega⟩;have aSn:kk<13:=by have:=ok.hi;omega
  obtain⟨u,hu1,hu2⟩:=hK kk aSn
  have loop:∀(q i:Nat),i+q=t.lr.length->∃b:Bool,pm (fun n m=>yp (rO n) n m d u.below t.lr t.lr.length i K 0 0 false) (bif b then aPj K else aPi K)/\
   ∀l:List Int,l.length+qa jX.kU (t.lr.drop i)<=lm*2->kg (fun n m=>Ah (yW n) n m l d i t) (fun r=>r.length<=l.length+qa jX.kU (t.lr.drop i)/\r.any (· ==0)=(l.any (· ==0)||b)):=by
   intro q;induction q with
   |zero=>
    intro i hi;obtain rfl:i=t.lr.length:=by omega
    refine⟨false,?_,fun l _=>?_⟩
    ·refine pm.lp (fun n m=>by simp only[NL,yo,mB];exact rfl) ?_;simp only[iy,decide_false,jG];exact pm.pure
    ·refine kg.lp (fun n m=>by simp only[ag0,KF,mB];exact rfl) ?_;simp only[iy,decide_false,jG];exact kg.pure ⟨by omega,by rw[iS]⟩
   |succ q ihq=>
    intro i hi;have rQ:i<t.lr.length:=by omega
    have hm:=t.D1 (iA rQ);have e:qa jX.kU (t.lr.drop i)=t.lr[i].kU+qa jX.kU (t.lr.drop (i+1)):=by rw[iC rQ];simp only[qa]
    have hw:=k9 (i:=i) (by omega)
    obtain⟨d',hd',aRh⟩:∃d':Nat,(d:Int)+Pf t.kind i=(d':Int)/\d'<=d+1:=by
     rcases agy t.kind i with h|h<;>rw[h]
     ·exact⟨d,by omega,by omega⟩
     ·exact⟨d+1,by omega,by omega⟩
    obtain⟨b1,e1,f1⟩:=ih t.lr[i].kU (by omega) t.lr[i] rfl (ok.kid _ (iA rQ)) d' (by omega);obtain⟨b2,e2,f2⟩:=ihq (i+1) (by omega)
    have step:pm (fun n m=>(rO n t.lr[i] (d':Int) K K 0 false).bind fun x=>
     bif x.snd.fst then yp (rO n) n m d u.below t.lr t.lr.length ((i+1:Nat):Int) x.fst.snd.fst.fst.fst x.fst.snd.snd.fst.snd x.fst.snd.snd.snd.fst.fst x.fst.snd.snd.snd.snd.fst.fst
     else some (((),((x.fst.snd.fst.fst.fst,()),()),((),x.fst.snd.snd.fst.snd),(x.fst.snd.snd.snd.fst.fst,()),(x.fst.snd.snd.snd.snd.fst.fst,()),()),false,())) (bif b1||b2 then aPj K else aPi K):=by
     refine pm.nJ e1 ?_;cases b1 with
     |true=>exact pm.pure
     |false=>exact e2
    refine⟨b1||b2,?_,fun l hlen=>?_⟩
    ·refine pm.lp (fun n m=>by simp only[NL,yo,mB];exact rfl) ?_;simp only[rQ,iz,decide_true,jF,tH rQ,iB,hw,beq_self_eq_true];rw[hu2 i (by omega),<-hkk];rcases agy t.kind i with h|h<;>rw[h]at hd' ⊢
     ·have e0:((0:Int)==1)=false:=rfl;have e9:(d:Int)=(d':Int):=by omega
      simp only[e0,jG];rw[<-e9]at step;exact step
     ·have e0:((1:Int)==1)=true:=rfl;have e9:IntKind.i64.wrap ((d:Int)+1)=(d':Int):=by rw[hd',sA (by omega) (by simp only[lm]at hd;omega)]
      simp only[e0,jF,e9];exact step
    ·refine kg.lp (fun n m=>by simp only[ag0,KF,mB];exact rfl) ?_;simp only[rQ,iz,decide_true,jF,tH rQ,iB,hw];refine kg.nJ ((alp t.kind i).tot (Q:=(· =Pf t.kind i)) rfl) fun x hx=>?_
     subst hx;rw[hd',sA (by omega) (by simp only[lm]at hd;omega)];refine kg.nJ (f1 l (by omega)) fun r hr=>?_
     refine(f2 r (by omega)).imp fun r' hr'=>⟨by omega,?_⟩
     rw[hr'.2,hr.2,jj]
  obtain⟨b,e1,f1⟩:=loop t.lr.length 0 (by omega);have rd:=aIE t d;cases ho:t.kind==0&&(decide ((d:Int)<=t.index)&&IntKind.i64.wrap (t.index-d)==0)with
  |true=>
   rw[ho]at rd;refine⟨true,?_,fun l hlen=>?_⟩
   ·refine Ev.fn (fun n=>by simp only[rO,kB,CI];exact rfl) ?_;refine Ev.bind rd ?_;exact Ev.pure
   ·simp only[iV]at ho;obtain⟨o1,o2,o3⟩:=ho;refine k6.fn (fun n=>by simp only[yW,kB,Wj,mB];exact rfl) ?_;simp only[o1,o2,jF];refine k6.bind (aHm l _ (by omega)) fun r hr=>?_
    refine(k6.BX (F:=fun n m=>Ah (yW n) n m r d 0 t) (f1 r (by rw[iN];omega))).imp fun r' hr'=>?_
    rw[iN]at hr';refine⟨by omega,?_⟩;rw[hr'.2,hr.2,o3];simp
  |false=>
   rw[ho]at rd;refine⟨b,?_,fun l hlen=>?_⟩
   ·refine Ev.fn (fun n=>by simp only[rO,kB,CI];exact rfl) ?_;refine Ev.bind rd ?_;have a1:decide (0<=t.kind)=true:=jH ok.lo;have a2:decide (t.kind<13)=true:=jH ok.hi;have a3:decide (0<=t.kind/\t.kind<13)=true:=jH ⟨ok.lo,ok.hi⟩;have a4:(Es 13 K)[t.kind.toNat]? =some u:=by rw[hkk,iO];exact hu1
    simp only[jG,jF,a1,a2,a3,a4,iB];exact Ev.BX e1
   ·refine k6.fn (fun n=>by simp only[yW,kB,Wj,mB];exact rfl) ?_;have base:=k6.BX (F:=fun n m=>Ah (yW n) n m l d 0 t) (f1 l (by rw[iN];omega));rw[iN]at base;have base:k6 (fun n=>Ah (yW n) n n l d 0 t) (fun r=>r.length<=l.length+k/\r.any (· ==0)=(l.any (· ==0)||b)):=base.imp fun r hr=>⟨by omega,hr.2⟩
    refine k6.pL (fun o1=>?_) fun o1=>base
    refine k6.pL (fun o2=>?_) fun o2=>base
    rw[o1,o2,iL,iL]at ho;refine k6.bind (aHm l _ (by omega)) fun r hr=>?_
    refine(k6.BX (F:=fun n m=>Ah (yW n) n m r d 0 t) (f1 r (by rw[iN];omega))).imp fun r' hr'=>?_
    rw[iN]at hr';refine⟨by omega,?_⟩;rw[hr'.2,hr.2,ho];simp
def aD6:yH kn 13:=
 ({index:=true,name:=false,kC:=0,lr:=0,below:= -1},{index:=false,name:=false,kC:=0,lr:=0,below:= -1},{index:=false,name:=false,kC:=1,lr:=0,below:= -1},{index:=false,name:=true,kC:= -1,lr:=0,below:= -1},
  {index:=false,name:=false,kC:=0,lr:=2,below:= -1},{index:=false,name:=false,kC:=0,lr:=2,below:=1},{index:=false,name:=false,kC:=0,lr:=2,below:=1},{index:=false,name:=false,kC:=0,lr:=2,below:=1},
  {index:=false,name:=false,kC:=0,lr:=3,below:= -1},{index:=false,name:=false,kC:=0,lr:=1,below:= -1},{index:=false,name:=false,kC:=0,lr:=1,below:= -1},{index:=false,name:=false,kC:=0,lr:=3,below:=2},{index:=true,name:=false,kC:=0,lr:=0,below:= -1},())
theorem aNs:Ev (fun n=>QB n) aD6:=by
 refine Ev.fn (fun n=>by simp only[QB,kB,Zv];exact rfl) ?_;exact Ev.pure
theorem aK8:KOK aD6:=by
 have key:((List.range 13).all fun k=>match (Es 13 aD6)[k]? with|none=>false|some u=>(List.range 3).all fun i=>(((i:Nat):Int)==u.below)==(Pf k i==1))=true:=jO
 intro k hk;have h1:=List.all_eq_true.1 key k (List.mem_range.2 hk);cases h:(Es 13 aD6)[k]? with
 |none=>rw[h]at h1;cases h1
 |some u=>
  rw[h]at h1;refine⟨u,rfl,fun i hi=>?_⟩;have h2:=List.all_eq_true.1 h1 i (List.mem_range.2 hi);exact jM.1 h2
theorem aD7(t:jX)(ok:OkT t)(hk:t.kU<=lm):∃b:Bool,Ev (fun n=>Z9 n t 0) b/\Ev (fun n=>Wo n t 0) b:=by
 obtain⟨b,h1,h2⟩:=aIF aD6 aK8 t ok 0 (by omega);refine⟨b,?_,?_⟩
 ·refine Ev.fn (fun n=>by simp only[Z9,kB,abx,mB];exact rfl) ?_;have hn:Ev (fun n=>Lq n t) t:=by refine Ev.fn (fun n=>by simp only[Lq,kB,V6,mB];exact rfl) ?_;exact Ev.pure
  have e:decide ((0:Int)<0)=false:=rfl;simp only[e,jG];refine Ev.bind hn ?_
  have h3:Ev (fun n=>Lg n t 0 false) (bif b then((((),1),(0,()),(true,()),()),())else((((),0),(0,()),(false,()),()),())):=by
   refine Ev.fn (fun n=>by simp only[Lg,kB,N6,mC];exact rfl) ?_;refine Ev.bind aNs (Ev.bind h1 ?_);cases b<;>exact Ev.pure
  refine Ev.bind h3 ?_;cases b<;>exact Ev.pure
 ·refine k6.ev ?_;refine k6.fn (fun n=>by simp only[Wo,kB,Yd,mB];exact rfl) ?_;refine k6.bind (P:=fun r=>r.length<=lm/\r.any (· ==0)=b) ?_ fun l hl=>?_
  ·refine k6.fn (fun n=>by simp only[aou,kB,afM,mB];exact rfl) ?_;refine k6.bind (h2 [] (by simp only[iK];omega)) fun r hr=>k6.pure ⟨?_,?_⟩
   ·have:=hr.1;simp only[iK]at this;omega
   ·rw[hr.2];rfl
  ·refine k6.BX (F:=fun n m=>FA n m 0 l 0) ?_;refine kg.up (S:=Unit) (L:=fun n m i _=>FA n m 0 l i) l.length (fun i _=>b=(l.drop i).any (· ==0)) _ ?_ ?_ 0 () (by omega) hl.2.symm
   ·intro i u hi hI next
    refine kg.lp (fun n m=>by simp only[aac,Fz,mB];exact rfl) ?_;simp only[hi,iz,decide_true,jF];refine kg.Cv hi ?_;rw[D3 _ _ _ hi]at hI;refine kg.pL (fun hc=>kg.pure ?_) fun hc=>?_
    ·rw[hI,hc,iM]
    ·rw[k9 (by have:=hl.1;simp only[lm]at this;omega)];exact next u (by rw[hI,hc,iJ])
   ·intro u hI;refine kg.lp (fun n m=>by simp only[aac,Fz,mB];exact rfl) ?_;simp only[iy,decide_false,jG];refine kg.pure ?_;rw[hI,iF];rfl
theorem aK9(s:kp):∀t:jX,ab8 s t=true->s.length<=t.kU:=by
 intro t;induction h:t.kU using iH generalizing t with
 |ind k ih=>
  intro ho;rw[aqP,Bool.or_eq_true]at ho;rcases ho with ho|ho
  ·rw[iV]at ho;have:=jM.1 ho.2;have:=t.aqL;subst s;omega
  ·obtain⟨x,hx,hox⟩:=jm.1 ho;have:=t.D1 hx;have:=ih x.kU (by omega) x rfl hox;omega
theorem aLa(l:List kp)(s:kp)(h:l.length<=lm):Ev (fun n=>Kv n l s) (l.any (· ==s)):=MH l s (by unfold xO;simp only[lm]at h;omega)
theorem auC(h:l.length<=lm)(k:Nat):((l.take l.length).drop k).length<=lm:=by
 rw[List.length_drop,iR];omega
theorem ayu(h:NOK x y)(i:Int)(d:Nat)(h0:0<=i)(h1:i<=9223372036854775807)(hd:d<=lm-20):
 ∃(s:kp)(e:Int),Ev (fun n=>uo n x i d) (s,e)/\Ev (fun n=>vR n y i d) (s,e):=by
 have hl:=h.aD4;simp only[lm]at hl hd;by_cases rQ:i<d
 ·obtain⟨r,b1,b2⟩:=awV h (x.A7.length+d-1-i.toNat) (by simp only[lm];omega)
  have e:IntKind.i64.wrap (IntKind.i64.wrap (IntKind.i64.wrap ((x.A7.length:Int)+d)-1)-i)=((x.A7.length+d-1-i.toNat:Nat):Int):=by
   rw[sA (n:=(x.A7.length:Int)+d) (by omega) (by omega),sA (n:=(x.A7.length:Int)+d-1) (by omega) (by omega),sA (by omega) (by omega)];omega
  refine⟨r,0,?_,?_⟩
  ·refine Ev.fn (fun n=>by simp only[uo,kB,u7,mB2];exact rfl) ?_;simp only[jH rQ,jF,e];exact Ev.bind b1 Ev.pure
  ·refine Ev.fn (fun n=>by simp only[vR,kB,wU,mB2];exact rfl) ?_;simp only[jH rQ,jF,h.A7,e];exact Ev.bind b2 Ev.pure
 ·have e:IntKind.i64.wrap (IntKind.i64.wrap ((x.A7.length:Int)-1)-IntKind.i64.wrap (i-d))=(x.A7.length:Int)-1-(i-d):=by
   rw[sA (n:=(x.A7.length:Int)-1) (by omega) (by omega),sA (n:=i-d) (by omega) (by omega),sA (by omega) (by omega)]
  by_cases hk:(x.A7.length:Int)-1-(i-d)<0
  ·refine⟨[],29,?_,?_⟩
   ·refine Ev.fn (fun n=>by simp only[uo,kB,u7,mB2];exact rfl) ?_;simp only[jI rQ,jG,e,jH hk,jF];exact Ev.pure
   ·refine Ev.fn (fun n=>by simp only[vR,kB,wU,mB2];exact rfl) ?_;simp only[jI rQ,jG,h.A7,e,jH hk,jF];exact Ev.pure
  ·obtain⟨k,hkk⟩:∃k:Nat,(x.A7.length:Int)-1-(i-d)=(k:Int):=⟨((x.A7.length:Int)-1-(i-d)).toNat,by omega⟩;have hkl:k<x.A7.length:=by omega
   rw[hkk]at e hk;have hw:=k9 (i:=k) (by omega);have hr:decide ((0:Int)<=((k+1:Nat):Int)/\((k+1:Nat):Int)<=(x.A7.length:Int)/\(x.A7.length:Int)<=(x.A7.length:Int))=true:=jH ⟨by omega,by omega,by omega⟩;have hs:=h.cs _ (iA hkl);have s1:=azu x.yJ x.A7[k] (by have:=h.aD3;omega) (by omega);have s2:=anK x.st.pZ x.A7[k] h.tb (by omega);rw[<-h.yJ]at s2;have c1:=Fg ((x.A7.take x.A7.length).drop (k+1)) x.A7[k] (by have:=auC h.aD4 (k+1);omega);have c2:=aLa ((x.A7.take x.A7.length).drop (k+1)) x.A7[k] (auC h.aD4 _);refine⟨bif aeG x.yJ x.A7[k] then bif ((x.A7.take x.A7.length).drop (k+1)).any (· ==x.A7[k])then [] else x.A7[k] else [],bif aeG x.yJ x.A7[k] then bif ((x.A7.take x.A7.length).drop (k+1)).any (· ==x.A7[k])then 29 else 0 else 29,?_,?_⟩
   ·refine Ev.fn (fun n=>by simp only[uo,kB,u7,mB2];exact rfl) ?_;simp only[jI rQ,jG,e,jI hk,tH hkl,iB,hw,hr,jF,iO];refine Ev.bind s1 ?_;cases aeG x.yJ x.A7[k]with
    |false=>exact Ev.pure
    |true=>
     refine Ev.bind c1 ?_;cases ((x.A7.take x.A7.length).drop (k+1)).any (· ==x.A7[k])<;>exact Ev.pure
   ·refine Ev.fn (fun n=>by simp only[vR,kB,wU,mB2];exact rfl) ?_;simp only[jI rQ,jG,h.A7,h.st,e,jI hk,tH hkl,iB,hw,hr,jF,iO];refine Ev.bind s2 ?_;cases aeG x.yJ x.A7[k]with
    |false=>exact Ev.pure
    |true=>
     refine Ev.bind c2 ?_;cases ((x.A7.take x.A7.length).drop (k+1)).any (· ==x.A7[k])<;>exact Ev.pure
theorem aPk(h:k<=lm*2):decide ((k+1)*24<=17592186044416)=true:=by
 simp only[lm]at h;simp only[jL];omega
theorem aGs(h:NOK x y)(l:kE)(hv:l.vars.length<=lm)(hp:∀v∈l.vars,0<=v.index):∀(q i:Nat)(r:List j8),i+q=l.vars.length->r.length<=i+1->
 ∃(z:jZ)(e:Int),z.CZ.length<=2000000/\pm (fun n m=>ur n m x l.vars l.vars.length i r) (z,e)/\pm (fun n m=>vT n m i y l r) (z,e):=by
 intro q;induction q with
 |zero=>
  intro i r hi hr;obtain rfl:i=l.vars.length:=by omega
  refine⟨{arz:=false,CZ:=r},0,by simp only[lm]at hv ⊢;omega,?_,?_⟩
  ·refine pm.lp (fun n m=>by simp only[Cd,uq,mB];exact rfl) ?_;simp only[iy,decide_false,jG];exact pm.pure
  ·refine pm.lp (fun n m=>by simp only[EU,vS,mB];exact rfl) ?_;simp only[iy,decide_false,jG];exact pm.pure
 |succ q ih=>
  intro i r hi hr;have rQ:i<l.vars.length:=by omega
  have h0:=hp _ (iA rQ);have hw:=k9 (i:=i) (by simp only[lm]at hv;omega);have hll:=h.aPh;by_cases aEp:(x.kC.length:Int)<=l.vars[i].index
  ·refine⟨{arz:=false,CZ:=[]},29,by simp,?_,?_⟩
   ·refine pm.lp (fun n m=>by simp only[Cd,uq,mB];exact rfl) ?_;simp only[rQ,iz,decide_true,jF,tH rQ,iB,jH aEp];exact pm.pure
   ·refine pm.lp (fun n m=>by simp only[EU,vS,mB];exact rfl) ?_;simp only[rQ,iz,decide_true,jF,tH rQ,iB,h.kC,jH aEp];exact pm.pure
  ·obtain⟨k,hk⟩:∃k:Nat,l.vars[i].index=(k:Int):=⟨l.vars[i].index.toNat,by omega⟩;have hkl:k<x.kC.length:=by omega
   rw[hk]at aEp;have hwk:=k9 (i:=k) (by simp only[lm]at hll;omega);have hr2:decide ((0:Int)<=((k+1:Nat):Int)/\((k+1:Nat):Int)<=(x.kC.length:Int)/\(x.kC.length:Int)<=(x.kC.length:Int))=true:=jH ⟨by omega,by omega,by omega⟩;have hs:=h.ls _ (iA hkl);have s1:=azu x.yJ x.kC[k] (by have:=h.aD3;omega) (by omega);have s2:=anK x.st.pZ x.kC[k] h.tb (by omega);rw[<-h.yJ]at s2;have c1:=Fg ((x.kC.take x.kC.length).drop (k+1)) x.kC[k] (by have:=auC h.aPh (k+1);omega);have c2:=aLa ((x.kC.take x.kC.length).drop (k+1)) x.kC[k] (auC h.aPh _);have Au:=aPk (k:=r.length) (by omega);obtain⟨z,e,hz,f1,f2⟩:=ih (i+1) (r++[{name:=x.kC[k],plus:=l.vars[i].plus}]) (by omega) (by rw[iE,iG];omega);refine⟨bif aeG x.yJ x.kC[k] then bif ((x.kC.take x.kC.length).drop (k+1)).any (· ==x.kC[k])then {arz:=false,CZ:=[]} else z else {arz:=false,CZ:=[]},bif aeG x.yJ x.kC[k] then bif ((x.kC.take x.kC.length).drop (k+1)).any (· ==x.kC[k])then 29 else e else 29,?_,?_,?_⟩
   ·cases aeG x.yJ x.kC[k]<;>cases ((x.kC.take x.kC.length).drop (k+1)).any (· ==x.kC[k])<;>first|exact hz|exact Nat.zero_le _
   ·refine pm.lp (fun n m=>by simp only[Cd,uq,mB];exact rfl) ?_;simp only[rQ,iz,decide_true,jF,tH rQ,iB,hk,jI aEp,jG,tH hkl,hwk,hr2,iO,Au,hw];refine pm.nJ s1 ?_;cases aeG x.yJ x.kC[k]with
    |false=>exact pm.pure
    |true=>
     refine pm.nJ c1 ?_;cases ((x.kC.take x.kC.length).drop (k+1)).any (· ==x.kC[k])with
     |true=>exact pm.pure
     |false=>exact f1
   ·refine pm.lp (fun n m=>by simp only[EU,vS,mB];exact rfl) ?_;simp only[rQ,iz,decide_true,jF,tH rQ,iB,h.kC,h.st,hk,jI aEp,jG,tH hkl,hwk,hr2,iO,Au,hw];refine pm.nJ s2 ?_;cases aeG x.yJ x.kC[k]with
    |false=>exact pm.pure
    |true=>
     refine pm.nJ c2 ?_;cases ((x.kC.take x.kC.length).drop (k+1)).any (· ==x.kC[k])with
     |true=>exact pm.pure
     |false=>exact f2
theorem aLb(vs:List kD)(hv:vs.length<=lm):Ev (fun n=>oI n vs ()) (vs.any fun v=>decide (v.index<0)):=by
 refine k6.ev ?_;refine k6.fn (fun n=>by simp only[oI,kB,p6,mB];exact rfl) ?_;refine k6.bind (P:=fun r=>decide (0<=r)=vs.any fun v=>decide (v.index<0)) ?_ fun r hr=>k6.pure hr
 refine k6.fn (fun n=>by simp only[qS,kB,qB,mB];exact rfl) ?_;refine k6.BX (F:=fun n m=>nC n m vs vs.length 0) ?_;refine kg.up (S:=Unit) (L:=fun n m i _=>nC n m vs vs.length i) vs.length (fun i _=>(vs.any fun v=>decide (v.index<0))=((vs.drop i).any fun v=>decide (v.index<0))) _ ?_ ?_ 0 () (by omega) rfl
 ·intro i u hi hI next
  refine kg.lp (fun n m=>by simp only[tu,nB,mB];exact rfl) ?_;simp only[hi,iz,decide_true,jF];refine kg.Cv hi ?_;rw[D3 _ _ _ hi]at hI;have h3:Ev (fun n=>A9 n vs[i]) (decide (vs[i].index<0)):=by refine Ev.fn (fun n=>by simp only[A9,kB,C4,mB];exact rfl) ?_;exact Ev.pure
  refine kg.nJ (h3.tot (Q:=(· =decide (vs[i].index<0))) rfl) fun x hx=>?_
  subst hx;refine kg.pL (fun hc=>kg.pure ?_) fun hc=>?_
  ·rw[hI,hc,iM];simp
  ·rw[k9 (by simp only[lm]at hv;omega)];exact next u (by rw[hI,hc,iJ])
 ·intro u hI;refine kg.lp (fun n m=>by simp only[tu,nB,mB];exact rfl) ?_;simp only[iy,decide_false,jG];refine kg.pure ?_;rw[hI,iF];rfl
theorem aGt(h:NOK x y)(l:kE)(hv:l.vars.length<=lm):
 ∃(z:jZ)(e:Int),z.CZ.length<=2000000/\Ev (fun n=>uH n x l) (z,e)/\Ev (fun n=>wV n y l) (z,e):=by
 have hh:=aLb l.vars hv
 have l2:∀(q i:Nat),i+q=l.vars.length->∀(r:List j8)(z:jZ)(e:Int),((l.vars.drop i).any fun v=>decide (v.index<0))=false->pm (fun n m=>vT n m 0 y l r) (z,e)->pm (fun n m=>r9 n m i y l r) (z,e):=by
  intro q;induction q with
  |zero=>
   intro i hi r z e _ hz;obtain rfl:i=l.vars.length:=by omega
   refine pm.lp (fun n m=>by simp only[EV,vU,mB];exact rfl) ?_;simp only[iy,decide_false,jG];exact pm.of1 (Ev.BX (F:=fun n m=>vT n m 0 y l r) hz)
  |succ q ih=>
   intro i hi r z e hn hz;have rQ:i<l.vars.length:=by omega
   rw[D3 _ _ _ rQ,jz]at hn;refine pm.lp (fun n m=>by simp only[EV,vU,mB];exact rfl) ?_;simp only[rQ,iz,decide_true,jF,tH rQ,iB,hn.1,jG,k9 (i:=i) (by simp only[lm]at hv;omega)];exact ih (i+1) (by omega) r z e hn.2 hz
 have l3:∀(q i:Nat),i+q=l.vars.length->∀(r:List j8),((l.vars.drop i).any fun v=>decide (v.index<0))=true->pm (fun n m=>r9 n m i y l r) ({arz:=true,CZ:=[]},0):=by
  intro q;induction q with
  |zero=>
   intro i hi r hn;obtain rfl:i=l.vars.length:=by omega
   rw[iF]at hn;cases hn
  |succ q ih=>
   intro i hi r hn;have rQ:i<l.vars.length:=by omega
   rw[D3 _ _ _ rQ]at hn;refine pm.lp (fun n m=>by simp only[EV,vU,mB];exact rfl) ?_;simp only[rQ,iz,decide_true,jF,tH rQ,iB,k9 (i:=i) (by simp only[lm]at hv;omega)];cases aSo:decide (l.vars[i].index<0)with
   |true=>exact pm.pure
   |false=>
    rw[aSo,iJ]at hn;exact ih (i+1) (by omega) r hn
 cases hb:l.vars.any (fun v=>decide (v.index<0))with
 |true=>
  rw[hb]at hh;refine⟨{arz:=true,CZ:=[]},0,by simp,?_,?_⟩
  ·refine Ev.fn (fun n=>by simp only[uH,kB,uR,mB];exact rfl) ?_;exact Ev.bind hh Ev.pure
  ·have k:=fun r=>Ev.BX (F:=fun n m=>r9 n m 0 y l r) (l3 l.vars.length 0 (by omega) r (by rw[iN];exact hb))
   refine Ev.fn (fun n=>by simp only[wV,kB,xc,mB];exact rfl) ?_;cases l.const !=0 with
   |true=>exact k _
   |false=>
    cases (l.vars.length:Int)==0 with
    |true=>exact k _
    |false=>exact k _
 |false=>
  rw[hb]at hh
  have hp:∀v∈l.vars,0<=v.index:=fun v hv'=>by
   have:=List.any_eq_false.1 hb v hv';simp only[jL]at this;omega
  have both:∀r:List j8,r.length<=1->∃(z:jZ)(e:Int),z.CZ.length<=2000000/\Ev (fun n=>ur n n x l.vars l.vars.length 0 r) (z,e)/\Ev (fun n=>r9 n n 0 y l r) (z,e):=fun r hr=>by
   obtain⟨z,e,hz,f1,f2⟩:=aGs h l hv hp l.vars.length 0 r (by omega) (by omega);exact⟨z,e,hz,Ev.BX (F:=fun n m=>ur n m x l.vars l.vars.length 0 r) f1,Ev.BX (F:=fun n m=>r9 n m 0 y l r) (l2 l.vars.length 0 (by omega) r z e (by rw[iN];exact hb) f2)⟩
  cases hc:l.const !=0 with
  |true=>
   obtain⟨z,e,hz,f1,f2⟩:=both [{name:=[],plus:=l.const}] (by simp);refine⟨z,e,hz,?_,?_⟩
   ·refine Ev.fn (fun n=>by simp only[uH,kB,uR,mB];exact rfl) ?_;refine Ev.bind hh ?_;simp only[hc,jF,jG];exact f1
   ·refine Ev.fn (fun n=>by simp only[wV,kB,xc,mB];exact rfl) ?_;simp only[hc,jF,jG];exact f2
  |false=>
   cases hn:(l.vars.length:Int)==0 with
   |true=>
    obtain⟨z,e,hz,f1,f2⟩:=both [{name:=[],plus:=l.const}] (by simp);refine⟨z,e,hz,?_,?_⟩
    ·refine Ev.fn (fun n=>by simp only[uH,kB,uR,mB];exact rfl) ?_;refine Ev.bind hh ?_;simp only[hc,hn,jF,jG];exact f1
    ·refine Ev.fn (fun n=>by simp only[wV,kB,xc,mB];exact rfl) ?_;simp only[hc,hn,jF,jG];exact f2
   |false=>
    obtain⟨z,e,hz,f1,f2⟩:=both [] (by simp);refine⟨z,e,hz,?_,?_⟩
    ·refine Ev.fn (fun n=>by simp only[uH,kB,uR,mB];exact rfl) ?_;refine Ev.bind hh ?_;simp only[hc,hn,jF,jG];exact f1
    ·refine Ev.fn (fun n=>by simp only[wV,kB,xc,mB];exact rfl) ?_;simp only[hc,hn,jF,jG];exact f2
inductive RT:Syntax->Prop
 |mk {k:Int} {s:kp} {n:Int} {ls:List jZ} {ks:List Syntax} {f t:Int} (h2:ls.length<=2000000) (h3:∀l∈ls,l.CZ.length<=2000000) (h4:ks.length<=2000000) (h5:∀x∈ks,RT x):RT (.mk k s n [] ls ks f t)
theorem aGu{x:Syntax}(h:RT x):Ev (fun n=>vO n x x false) true:=by
 induction h with
 | @mk k s num ls ks f t h2 h3 h4 h5 ih=>
   have lr:∀(d i:Nat),i+d=ks.length->pm (fun n m=>If (vO n) n m false (i:Int) (.mk k s num [] ls ks f t) (.mk k s num [] ls ks f t)) true:=by
    intro d;induction d with
    |zero=>
     intro i hi;refine pm.lp (fun n m=>by simp only[adt,Ie,mB];exact rfl) ?_;simp only[Syntax.Pt,jI (show ¬ (i:Int)<(ks.length:Int) by omega),jG];exact pm.pure
    |succ d ihd=>
     intro i hi;have rQ:i<ks.length:=by omega
     refine pm.lp (fun n m=>by simp only[adt,Ie,mB];exact rfl) ?_;simp only[Syntax.Pt,jH (show(i:Int)<(ks.length:Int) by omega),jF,tH rQ,iB];refine pm.nJ (ih _ (iA rQ)) ?_;rw[k9 (by omega)];exact ihd (i+1) (by omega)
   have CZ:∀(x:jZ)(hx:x.CZ.length<=2000000)(i:Nat)(hi:i<=2000000),pm (fun n m=>AR (vO n) n m false ((i+1:Nat):Int) (.mk k s num [] ls ks f t) (.mk k s num [] ls ks f t)) true->
    ∀(d j:Nat),d+j=x.CZ.length->∃N,∀n m q,N<=n->N<=m->N<=q->NT (vO n) n (AR (vO n) n m) q false (i:Int) (j:Int) (.mk k s num [] ls ks f t) (.mk k s num [] ls ks f t) x x=some true:=by
    intro x hx i hi hr d;have hw:IntKind.i64.wrap ((i:Int)+1)=((i+1:Nat):Int):=k9 (by omega);induction d with
    |zero=>
     intro j hj;obtain rfl:j=x.CZ.length:=by omega
     obtain⟨N,hN⟩:=hr;refine⟨N+1,fun n m q hn hm hq=>?_⟩;obtain⟨q,rfl⟩:∃z,q=z+1:=⟨q-1,by omega⟩;simp only[adu,Ig,iy,decide_false,jG,hw,mB]
     grind
    |succ d ih2=>
     intro j hj;have h1:j<x.CZ.length:=by omega
     have hwj:IntKind.i64.wrap ((j:Int)+1)=((j+1:Nat):Int):=k9 (by omega);obtain⟨N,hN⟩:=ih2 (j+1) (by omega);refine⟨N+1,fun n m q hn hm hq=>?_⟩;obtain⟨q,rfl⟩:∃z,q=z+1:=⟨q-1,by omega⟩;have:=hN n m q (by omega) (by omega) (by omega);simp only[adu,Ig,h1,iz,decide_true,jF,tH h1,iB,hwj,this,mB];simp
   have kC:∀(d i:Nat),i+d=ls.length->pm (fun n m=>AR (vO n) n m false (i:Int) (.mk k s num [] ls ks f t) (.mk k s num [] ls ks f t)) true:=by
    intro d;induction d with
    |zero=>
     intro i hi;refine pm.lp (fun n m=>by simp only[adv,Ih];exact rfl) ?_;simp only[Syntax.Pt,jI (show ¬ (i:Int)<(ls.length:Int) by omega),jG];exact pm.of1 (Ev.BX (F:=fun n m=>If (vO n) n m false 0 (.mk k s num [] ls ks f t) (.mk k s num [] ls ks f t)) (lr ks.length 0 (by omega)))
    |succ d ihd=>
     intro i hi;have rQ:i<ls.length:=by omega
     refine pm.lp (fun n m=>by simp only[adv,Ih];exact rfl) ?_;simp only[Syntax.Pt,jH (show(i:Int)<(ls.length:Int) by omega),jF,tH rQ,iB,bne_self_eq_false,beq_self_eq_true,jG];have hx:ls[i].CZ.length<=2000000:=h3 _ (iA rQ);obtain⟨N,hN⟩:=CZ ls[i] hx i (by omega) (ihd (i+1) (by omega)) ls[i].CZ.length 0 (by omega);refine⟨N,fun n m hn hm=>?_⟩
     grind
   refine Ev.fn (fun n=>by simp only[vO,kB,abp,mB];exact rfl) ?_;simp only[Syntax.Pt,bne_self_eq_false,beq_self_eq_true,jG,jF]
   have hn:Ev (fun n=>K9 n [] []) true:=by
    refine Ev.fn (fun n=>by simp only[K9,kB,NC,mB];exact rfl) ?_;simp only[iK,bne_self_eq_false,jG];refine Ev.BX (F:=fun n m=>EF n m [] [] 0) ?_;refine pm.lp (fun n m=>by simp only[ajw,EE,mB];exact rfl) ?_;simp only[iK,Int.ofNat_zero,Int.natCast_zero,iy,decide_false,jG];exact pm.pure
   refine Ev.bind hn ?_;simp only[jq,jG,jF];exact Ev.BX (F:=fun n m=>AR (vO n) n m false 0 (.mk k s num [] ls ks f t) (.mk k s num [] ls ks f t)) (kC ls.length 0 (by omega))
theorem ayv(h:NOK x y)(s:kp)(hs:s.length<=lm):∃e:Int,Ev (fun n=>Ac n x s) e/\Ev (fun n=>BN n y s) e:=by
 have r1:=aGp x.st h.sok s (by omega);have r2:=awT x.st h.sok s (by omega);have p1:=aq1 x.yJ s (by have:=h.aD3;omega) (by omega);have p2:=aeH x.st.pZ s h.tb (by omega);rw[<-h.yJ]at p2;have c1:=Fg x.A7 s (by have:=h.aD4;omega);have c2:=aLa x.A7 s h.aD4;refine⟨bif ace x.yJ s then bif x.A7.any (· ==s)then 29 else bif (ayt x.st s).2 !=0 then 29 else bif (ayt x.st s).1==s then 0 else 29 else 29,?_,?_⟩
 ·refine Ev.fn (fun n=>by simp only[Ac,kB,Cg,mB];exact rfl) ?_;refine Ev.bind r1 (Ev.bind p1 ?_);cases ace x.yJ s with
  |false=>exact Ev.pure
  |true=>
   refine Ev.bind c1 ?_;cases x.A7.any (· ==s)<;>cases (ayt x.st s).2 !=0<;>cases (ayt x.st s).1==s<;>exact Ev.pure
 ·refine Ev.fn (fun n=>by simp only[BN,kB,ET,mB];exact rfl) ?_;simp only[h.st,h.A7];refine Ev.bind r2 (Ev.bind p2 ?_);cases ace x.yJ s with
  |false=>exact Ev.pure
  |true=>
   refine Ev.bind c2 ?_;cases x.A7.any (· ==s)<;>cases (ayt x.st s).2 !=0<;>cases (ayt x.st s).1==s<;>exact Ev.pure
theorem pm.pL{R:Type}{A B:Nat->Nat->Option R}{r:R}(h1:c=true->pm A r)(h2:c=false->pm B r):pm (fun n m=>bif c then A n m else B n m) r:=by
 cases c with
 |true=>exact h1 rfl
 |false=>exact h2 rfl
abbrev noS:Syntax:=Syntax.mk 0 [] 0 [] [] [] 0 0
theorem aBj:RT noS:=.mk (by simp) (by simp) (by simp) (by simp)
theorem aNt(h:k<=10):decide ((k+1)*120<=17592186044416)=true:=jH (by omega)
theorem aPl(h:k<=lm*2):decide ((k+1)*32<=17592186044416)=true:=by
 simp only[lm]at h;simp only[jL];omega
theorem azv(x:j4)(d:Int)(e:Int)(he:e≠0)(i:Int)(t:jX)(K:Int)(T:kp)(N:Int)(r4:List jZ)(r5:List Syntax):
 pm (fun n m=>pe (kN n) n m x d e i t K T N r4 r5) (noS,e):=by
 have h1:(e==0)=false:=by simpa using he
 have h2:(e !=0)=true:=by simpa using he
 refine pm.lp (fun n m=>by simp only[yU,s9,mB];exact rfl) ?_;simp only[h1,h2,jF,jG];exact pm.pL (fun _=>pm.pure) fun _=>pm.pure
theorem azw(x:j4)(d:Int)(e:Int)(he:e≠0)(i:Int)(t:jX)(K:Int)(T:kp)(N:Int)(r4:List jZ):
 pm (fun n m=>pT (kN n) n m x d e i t K T N r4) (noS,e):=by
 have h1:(e==0)=false:=by simpa using he
 have k:=pm.of1 (Ev.BX (F:=fun n m=>pe (kN n) n m x d e 0 t K T N r4 []) (azv x d e he 0 t K T N r4 []));refine pm.lp (fun n m=>by simp only[D0,uT,mB];exact rfl) ?_;simp only[h1,jG];exact pm.pL (fun _=>k) fun _=>k
theorem aIG(t:jX)(ok:OkT t)(d:Nat)(hd:d<=lm)
 (ih:∀k∈t.lr,∀d':Nat,d'<=d+1->∃(z:Syntax)(e:Int),RT z/\Ev (fun n=>kN n x k d') (z,e)/\Ev (fun n=>lE n y k d') (z,e)) (K:Int) (T:kp) (N:Int) (r4:List jZ) (h4:r4.length<=2000000) (h5:∀l∈r4,l.CZ.length<=2000000):
 ∀ (q i:Nat) (r5:List Syntax),i+q=t.lr.length->r5.length=i->(∀z∈r5,RT z)-> ∃ (z:Syntax) (e:Int),RT z/\
   pm (fun n m=>pe (kN n) n m x d 0 i t K T N r4 r5) (z,e)/\pm (fun n m=>xe (lE n) n m d i y t K T N r4 r5) (z,e):=by
 have h3:t.lr.length<=3:=by have:=ok.len;have:=aD5 t.kind;omega
 have z0:((0:Int) !=0)=false:=rfl;have z1:((0:Int)==0)=true:=rfl;intro q;induction q with
 |zero=>
  intro i r5 hi hl hr;obtain rfl:i=t.lr.length:=by omega
  cases h8:t.kind==8 with
  |false=>
   refine⟨Syntax.mk K T N [] r4 r5 0 0,0,.mk h4 h5 (by omega) hr,?_,?_⟩
   ·refine pm.lp (fun n m=>by simp only[yU,s9,mB];exact rfl) ?_;simp only[iy,decide_false,jG,z0,h8];exact pm.pure
   ·refine pm.lp (fun n m=>by simp only[Gi,xd,mB];exact rfl) ?_;simp only[iy,decide_false,jG,h8];exact pm.pure
  |true=>
   have e8:t.kind=8:=jM.1 h8;have hk:=ok.len;rw[e8]at hk;have hk3:t.lr.length=3:=by have:anG 8=3:=rfl;omega
   rw[hk3]at hl
   match r5,hl,hr with
   |[a,b,c],hl,hr=>
    have ra:=hr a (by simp);have rb:=hr b (by simp);have rc:=hr c (by simp);refine⟨Syntax.mk 13 [] 0 [] [] [Syntax.mk K T N [] r4 [b,c] 0 0,a] 0 0,0,?_,?_,?_⟩
    ·refine .mk (by simp) (by simp) (by simp) fun z hz=>?_
     simp only[jr,List.mem_nil_iff,or_false]at hz;rcases hz with rfl|rfl
     ·refine .mk h4 h5 (by simp) fun z hz=>?_
      simp only[jr,List.mem_nil_iff,or_false]at hz;rcases hz with rfl|rfl
      ·exact rb
      ·exact rc
     ·exact ra
    ·refine pm.lp (fun n m=>by simp only[yU,s9,mB];exact rfl) ?_;simp only[iy,decide_false,jG,jF,z0,h8];exact pm.pure
    ·refine pm.lp (fun n m=>by simp only[Gi,xd,mB];exact rfl) ?_;simp only[iy,decide_false,jG,jF,h8];exact pm.pure
 |succ q ihq=>
  intro i r5 hi hl hr;have rQ:i<t.lr.length:=by omega
  have hw:=k9 (i:=i) (by omega);have Au:=aNt (k:=r5.length) (by omega)
  obtain⟨d',hd',aRh⟩:∃d':Nat,(d:Int)+Pf t.kind i=(d':Int)/\d'<=d+1:=by
   rcases agy t.kind i with h|h<;>rw[h]
   ·exact⟨d,by omega,by omega⟩
   ·exact⟨d+1,by omega,by omega⟩
  obtain⟨z1',e1,rt1,f1,f2⟩:=ih t.lr[i] (iA rQ) d' aRh
  obtain⟨z,e,rt,g1,g2⟩:∃(z:Syntax)(e:Int),RT z/\pm (fun n m=>pe (kN n) n m x d e1 ((i+1:Nat):Int) t K T N r4 (r5++[z1'])) (z,e)/\
   pm (fun n m=>bif e1 !=0 then some (noS,e1)else xe (lE n) n m d ((i+1:Nat):Int) y t K T N r4 (r5++[z1'])) (z,e):=by
   by_cases he:e1=0
   ·subst he
    exact ihq (i+1) (r5++[z1']) (by omega) (by rw[iE,iG];omega) fun z hz=>by
     rcases jb.1 hz with hz|hz
     ·exact hr z hz
     ·rw[iP]at hz;subst hz;exact rt1
   ·have h2:(e1 !=0)=true:=by simpa using he
    refine⟨noS,e1,aBj,azv x d e1 he _ t K T N r4 _,?_⟩;simp only[h2,jF];exact pm.pure
  refine⟨z,e,rt,?_,?_⟩
  ·have key:∀D:Int,D=(d':Int)->pm (fun n m=>(kN n x t.lr[i] D).bind fun u=>bif decide ((r5.length+1)*120<=17592186044416)then pe (kN n) n m x d u.snd ((i+1:Nat):Int) t K T N r4 (r5++[u.fst])else none) (z,e):=by
    intro D hD;subst hD;refine pm.nJ f1 ?_;simp only[Au,jF];exact g1
   have k1:Pf t.kind i=1->pm (fun n m=>(kN n x t.lr[i] (IntKind.i64.wrap ((d:Int)+1))).bind fun u=>bif decide ((r5.length+1)*120<=17592186044416)then pe (kN n) n m x d u.snd ((i+1:Nat):Int) t K T N r4 (r5++[u.fst])else none) (z,e):=fun hb=>
    key _ (by rw[hb]at hd';rw[hd',sA (by omega) (by simp only[lm]at hd;omega)])
   have k0:Pf t.kind i=0->pm (fun n m=>(kN n x t.lr[i] (d:Int)).bind fun u=>bif decide ((r5.length+1)*120<=17592186044416)then pe (kN n) n m x d u.snd ((i+1:Nat):Int) t K T N r4 (r5++[u.fst])else none) (z,e):=fun hb=>
    key _ (by rw[hb]at hd';omega)
   refine pm.lp (fun n m=>by simp only[yU,s9,mB];exact rfl) ?_;simp only[rQ,iz,decide_true,jF,tH rQ,iB,hw,z1]
   repeat' (first|exact k1 (by grind [Pf])|exact k0 (by grind [Pf])|refine pm.pL (fun _=>?_) (fun _=>?_))
  ·refine pm.lp (fun n m=>by simp only[Gi,xd,mB];exact rfl) ?_;simp only[rQ,iz,decide_true,jF,tH rQ,iB,hw];refine pm.nJ (alp t.kind i) ?_;rw[hd',sA (by omega) (by simp only[lm]at hd;omega)];refine pm.nJ f2 ?_;simp only[Au,jF];exact g2
theorem aD8(h:NOK x y)(t:jX)(ok:OkT t)(d:Nat)(hd:d<=lm)(hb:t.kU<=lm)
 (ih:∀k∈t.lr,∀d':Nat,d'<=d+1->∃(z:Syntax)(e:Int),RT z/\Ev (fun n=>kN n x k d') (z,e)/\Ev (fun n=>lE n y k d') (z,e)) (K:Int) (T:kp) (N:Int):
 ∀ (q i:Nat) (r4:List jZ),i+q=t.kC.length->r4.length=i->(∀l∈r4,l.CZ.length<=2000000)-> ∃ (z:Syntax) (e:Int),RT z/\
   pm (fun n m=>pT (kN n) n m x d 0 i t K T N r4) (z,e)/\pm (fun n m=>uG (lE n) n m d i y t K T N r4) (z,e):=by
 have hll:=t.agu;have z1:((0:Int)==0)=true:=rfl;intro q;induction q with
 |zero=>
  intro i r4 hi hl hr;obtain rfl:i=t.kC.length:=by omega
  obtain⟨z,e,rt,f1,f2⟩:=aIG t ok d hd ih K T N r4 (by simp only[lm]at hb;omega) hr t.lr.length 0 [] (by omega) rfl (by simp);refine⟨z,e,rt,?_,?_⟩
  ·refine pm.lp (fun n m=>by simp only[D0,uT,mB];exact rfl) ?_;simp only[iy,decide_false,jG];exact pm.of1 (Ev.BX (F:=fun n m=>pe (kN n) n m x d 0 0 t K T N r4 []) f1)
  ·refine pm.lp (fun n m=>by simp only[P0,zw,mB];exact rfl) ?_;simp only[iy,decide_false,jG];exact pm.of1 (Ev.BX (F:=fun n m=>xe (lE n) n m d 0 y t K T N r4 []) f2)
 |succ q ihq=>
  intro i r4 hi hl hr;have rQ:i<t.kC.length:=by omega
  have hw:=k9 (i:=i) (by simp only[lm]at hb;omega);have Au:=aPl (k:=r4.length) (by omega)
  have hvl:t.kC[i].vars.length<=lm:=by
   have h1:=t.aqN (iA rQ);have h2:=t.kC[i].aqM;omega
  obtain⟨l,e1,hla,f1,f2⟩:=aGt h t.kC[i] hvl
  obtain⟨z,e,rt,g1,g2⟩:∃(z:Syntax)(e:Int),RT z/\pm (fun n m=>pT (kN n) n m x d e1 ((i+1:Nat):Int) t K T N (r4++[l])) (z,e)/\
   pm (fun n m=>bif e1 !=0 then some (noS,e1)else uG (lE n) n m d ((i+1:Nat):Int) y t K T N (r4++[l])) (z,e):=by
   by_cases he:e1=0
   ·subst he
    exact ihq (i+1) (r4++[l]) (by omega) (by rw[iE,iG];omega) fun z hz=>by
     rcases jb.1 hz with hz|hz
     ·exact hr z hz
     ·rw[iP]at hz;subst hz;exact hla
   ·have h2:(e1 !=0)=true:=by simpa using he
    refine⟨noS,e1,aBj,azw x d e1 he _ t K T N _,?_⟩;simp only[h2,jF];exact pm.pure
  refine⟨z,e,rt,?_,?_⟩
  ·refine pm.lp (fun n m=>by simp only[D0,uT,mB];exact rfl) ?_;simp only[rQ,iz,decide_true,jF,tH rQ,iB,hw,z1];refine pm.nJ f1 ?_;simp only[Au,jF];exact g1
  ·refine pm.lp (fun n m=>by simp only[P0,zw,mB];exact rfl) ?_;simp only[rQ,iz,decide_true,jF,tH rQ,iB,hw];refine pm.nJ f2 ?_;simp only[Au,jF];exact g2
theorem FO(k:Nat)(hk:k<13):Ev (fun n=>qD n (k:Int)) (([0,10,11,0,2,3,4,5,6,7,8,9,1]:List Int)[k]):=by
 refine Ev.fn (fun n=>by simp only[qD,kB,Up,mB];exact rfl) ?_;have h1:decide ((0:Int)<=(k:Int)/\(k:Int)<13)=true:=jH ⟨by omega,by omega⟩;have h2:MI ([0,10,11,0,2,3,4,5,6,7,8,9,1]:List Int) (k:Int)=some (([0,10,11,0,2,3,4,5,6,7,8,9,1]:List Int)[k]):=tH hk;simp only[h1,h2,jF,iB];exact Ev.pure
theorem aIH(h:NOK x y):∀(t:jX),OkT t->t.wf->∀d:Nat,t.kU+d<=lm-64->∃(z:Syntax)(e:Int),RT z/\Ev (fun n=>kN n x t d) (z,e)/\Ev (fun n=>lE n y t d) (z,e):=by
 intro t;induction hb:t.kU using iH generalizing t with
 |ind k ih=>
  intro ok wf d hd;have hk:t.kU<=lm:=by omega
  have hcl:=h.aD4;have w:=(jX.azo t).1 wf
  have ih':∀u∈t.lr,∀d':Nat,d'<=d+1->∃(z:Syntax)(e:Int),RT z/\Ev (fun n=>kN n x u d') (z,e)/\Ev (fun n=>lE n y u d') (z,e):=fun u hu d' hd'=>
   ih u.kU (by have:=t.D1 hu;omega) u rfl (ok.kid u hu) (w.2.2.2.2.1 u hu) d' (by have:=t.D1 hu;omega)
  have go:∀(K:Int)(T:kp)(N:Int),∃(z:Syntax)(e:Int),RT z/\Ev (fun n=>pT (kN n) n n x d 0 0 t K T N []) (z,e)/\Ev (fun n=>uG (lE n) n n d 0 y t K T N []) (z,e):=fun K T N=>by
   obtain⟨z,e,rt,f1,f2⟩:=aD8 h t ok d (by omega) hk ih' K T N t.kC.length 0 [] (by omega) rfl (by simp);exact⟨z,e,rt,Ev.BX (F:=fun n m=>pT (kN n) n m x d 0 0 t K T N []) f1,Ev.BX (F:=fun n m=>uG (lE n) n m d 0 y t K T N []) f2⟩
  have bad:∀(e:Int),e≠0->∀(K:Int)(T:kp)(N:Int),Ev (fun n=>pT (kN n) n n x d e 0 t K T N []) (noS,e):=fun e he K T N=>Ev.BX (F:=fun n m=>pT (kN n) n m x d e 0 t K T N []) (azw x d e he 0 t K T N [])
  obtain⟨s1,s2⟩:=aIx t hk;have hwb:IntKind.i64.wrap ((x.A7.length:Int)+d)=((x.A7.length+d:Nat):Int):=by rw[sA (by omega) (by simp only[lm]at hcl hd;omega)];omega
  obtain⟨bs,bs1,bs2⟩:=awV h (x.A7.length+d) (by simp only[lm]at hcl hd ⊢;omega);cases hm:(D2 t).1.kind==12 with
  |true=>
   refine⟨Syntax.mk 1 [] 0 [] [] [] 0 0,0,.mk (by simp) (by simp) (by simp) (by simp),?_,?_⟩
   ·refine Ev.fn (fun n=>by simp only[kN,kB,mE,mB];exact rfl) ?_;refine Ev.bind s1 ?_;simp only[hm,jF];exact Ev.pure
   ·refine Ev.fn (fun n=>by simp only[lE,kB,nj,mB];exact rfl) ?_;refine Ev.bind s2 ?_;simp only[hm,jF];exact Ev.pure
  |false=>
   have h12:t.kind≠12:=fun e=>by
    have hk0:=ok.len;rw[aoL (by rw[e];omega),e]at hm;cases hm
   obtain⟨kk,hkk⟩:∃kk:Nat,t.kind=kk:=⟨t.kind.toNat,by have:=ok.lo;omega⟩;have rQ:kk<12:=by have:=ok.hi;omega
   match kk,hkk,rQ with
   |0,hkk,_=>
    have e:t.kind=0:=hkk;have kd:Ev (fun n=>qD n 0) 0:=FO 0 (by omega);obtain⟨s,v,v1,v2⟩:=ayu h t.index d (ok.Cv e) (aNh w.2.1).2 (by simp only[lm]at hd ⊢;omega);by_cases hv:v=0
    ·subst hv;obtain⟨z,r,rt,g1,g2⟩:=go 0 s 0;refine⟨z,r,rt,?_,?_⟩
     ·refine Ev.fn (fun n=>by simp only[kN,kB,mE,mB];exact rfl) ?_;refine Ev.bind s1 ?_;simp only[hm,jG,e];refine Ev.bind kd ?_;simp only[iD,jF,jG];exact Ev.bind v1 g1
     ·refine Ev.fn (fun n=>by simp only[lE,kB,nj,mB];exact rfl) ?_;refine Ev.bind s2 ?_;simp only[hm,jG,e,iD,jF,jG];refine Ev.bind v2 ?_;simp only[bne_self_eq_false,jG];exact g2
    ·have hv2:(v !=0)=true:=by simpa using hv
     refine⟨noS,v,aBj,?_,?_⟩
     ·refine Ev.fn (fun n=>by simp only[kN,kB,mE,mB];exact rfl) ?_;refine Ev.bind s1 ?_;simp only[hm,jG,e];refine Ev.bind kd ?_;simp only[iD,jF,jG];exact Ev.bind v1 (bad v hv _ _ _)
     ·refine Ev.fn (fun n=>by simp only[lE,kB,nj,mB];exact rfl) ?_;refine Ev.bind s2 ?_;simp only[hm,jG,e,iD,jF,jG];refine Ev.bind v2 ?_;simp only[hv2,jF];exact Ev.pure
   |1,hkk,_=>
    have e:t.kind=1:=hkk;have kd:Ev (fun n=>qD n 1) 10:=FO 1 (by omega);obtain⟨z,r,rt,g1,g2⟩:=go 10 [] 0;refine⟨z,r,rt,?_,?_⟩
    ·refine Ev.fn (fun n=>by simp only[kN,kB,mE,mB];exact rfl) ?_;refine Ev.bind s1 ?_;simp only[hm,jG,e];refine Ev.bind kd ?_;simp only[iD,jF,jG];exact g1
    ·refine Ev.fn (fun n=>by simp only[lE,kB,nj,mB];exact rfl) ?_;refine Ev.bind s2 ?_;simp only[hm,jG,e,iD,jF,jG];exact g2
   |2,hkk,_=>
    have e:t.kind=2:=hkk;have kd:Ev (fun n=>qD n 2) 11:=FO 2 (by omega);obtain⟨z,r,rt,g1,g2⟩:=go 11 [] 0;refine⟨z,r,rt,?_,?_⟩
    ·refine Ev.fn (fun n=>by simp only[kN,kB,mE,mB];exact rfl) ?_;refine Ev.bind s1 ?_;simp only[hm,jG,e];refine Ev.bind kd ?_;simp only[iD,jF,jG];exact g1
    ·refine Ev.fn (fun n=>by simp only[lE,kB,nj,mB];exact rfl) ?_;refine Ev.bind s2 ?_;simp only[hm,jG,e,iD,jF,jG];exact g2
   |3,hkk,_=>
    have e:t.kind=3:=hkk;have kd:Ev (fun n=>qD n 3) 0:=FO 3 (by omega);obtain⟨v,v1,v2⟩:=ayv h t.name (by have:=t.aqL;omega);by_cases hv:v=0
    ·subst hv;obtain⟨z,r,rt,g1,g2⟩:=go 0 t.name 1;refine⟨z,r,rt,?_,?_⟩
     ·refine Ev.fn (fun n=>by simp only[kN,kB,mE,mB];exact rfl) ?_;refine Ev.bind s1 ?_;simp only[hm,jG,e];refine Ev.bind kd ?_;simp only[iD,jF,jG];exact Ev.bind v1 g1
     ·refine Ev.fn (fun n=>by simp only[lE,kB,nj,mB];exact rfl) ?_;refine Ev.bind s2 ?_;simp only[hm,jG,e,iD,jF,jG];refine Ev.bind v2 ?_;simp only[bne_self_eq_false,jG];exact g2
    ·have hv2:(v !=0)=true:=by simpa using hv
     refine⟨noS,v,aBj,?_,?_⟩
     ·refine Ev.fn (fun n=>by simp only[kN,kB,mE,mB];exact rfl) ?_;refine Ev.bind s1 ?_;simp only[hm,jG,e];refine Ev.bind kd ?_;simp only[iD,jF,jG];exact Ev.bind v1 (bad v hv _ _ _)
     ·refine Ev.fn (fun n=>by simp only[lE,kB,nj,mB];exact rfl) ?_;refine Ev.bind s2 ?_;simp only[hm,jG,e,iD,jF,jG];refine Ev.bind v2 ?_;simp only[hv2,jF];exact Ev.pure
   |4,hkk,_=>
    have e:t.kind=4:=hkk;have kd:Ev (fun n=>qD n 4) 2:=FO 4 (by omega);obtain⟨z,r,rt,g1,g2⟩:=go 2 [] 0;refine⟨z,r,rt,?_,?_⟩
    ·refine Ev.fn (fun n=>by simp only[kN,kB,mE,mB];exact rfl) ?_;refine Ev.bind s1 ?_;simp only[hm,jG,e];refine Ev.bind kd ?_;simp only[iD,jF,jG];exact g1
    ·refine Ev.fn (fun n=>by simp only[lE,kB,nj,mB];exact rfl) ?_;refine Ev.bind s2 ?_;simp only[hm,jG,e,iD,jF,jG];exact g2
   |5,hkk,_=>
    have e:t.kind=5:=hkk;have kd:Ev (fun n=>qD n 5) 3:=FO 5 (by omega);obtain⟨z,r,rt,g1,g2⟩:=go 3 bs 0;refine⟨z,r,rt,?_,?_⟩
    ·refine Ev.fn (fun n=>by simp only[kN,kB,mE,mB];exact rfl) ?_;refine Ev.bind s1 ?_;simp only[hm,jG,e];refine Ev.bind kd ?_;simp only[hwb,iD,jF,jG];exact Ev.bind bs1 g1
    ·refine Ev.fn (fun n=>by simp only[lE,kB,nj,mB];exact rfl) ?_;refine Ev.bind s2 ?_;simp only[hm,jG,e,h.A7,hwb,iD,jF,jG];exact Ev.bind bs2 g2
   |6,hkk,_=>
    have e:t.kind=6:=hkk;have kd:Ev (fun n=>qD n 6) 4:=FO 6 (by omega);have hlen:t.lr.length=2:=by have h6:=ok.len;rw[e]at h6;have:anG 6=2:=rfl;omega
    obtain⟨u,w2,huw⟩:=aPe hlen;have i1:MI t.lr 1=some w2:=by rw[huw];rfl
    have aBE:w2∈t.lr:=by rw[huw];simp
    have e2:((t.lr.length:Int)==2)=true:=by rw[hlen];rfl
    obtain⟨b,o1,o2⟩:=aD7 w2 (ok.kid w2 aBE) (by have:=t.D1 aBE;omega);cases b with
    |true=>
     obtain⟨z,r,rt,g1,g2⟩:=go 4 bs 0;refine⟨z,r,rt,?_,?_⟩
     ·refine Ev.fn (fun n=>by simp only[kN,kB,mE,mB];exact rfl) ?_;refine Ev.bind s1 ?_;simp only[hm,jG,e];refine Ev.bind kd ?_;simp only[i1,iB,hwb,iD,jF,jG];exact Ev.bind o1 (Ev.bind bs1 g1)
     ·refine Ev.fn (fun n=>by simp only[lE,kB,nj,mB];exact rfl) ?_;refine Ev.bind s2 ?_;simp only[hm,jG,e,e2,i1,iB,h.A7,hwb,iD,jF,jG];exact Ev.bind o2 (Ev.bind bs2 g2)
    |false=>
     obtain⟨z,r,rt,g1,g2⟩:=go 4 [] 0;refine⟨z,r,rt,?_,?_⟩
     ·refine Ev.fn (fun n=>by simp only[kN,kB,mE,mB];exact rfl) ?_;refine Ev.bind s1 ?_;simp only[hm,jG,e];refine Ev.bind kd ?_;simp only[i1,iB,hwb,iD,jF,jG];exact Ev.bind o1 g1
     ·refine Ev.fn (fun n=>by simp only[lE,kB,nj,mB];exact rfl) ?_;refine Ev.bind s2 ?_;simp only[hm,jG,e,e2,i1,iB,h.A7,hwb,iD,jF,jG];exact Ev.bind o2 g2
   |7,hkk,_=>
    have e:t.kind=7:=hkk;have kd:Ev (fun n=>qD n 7) 5:=FO 7 (by omega);obtain⟨z,r,rt,g1,g2⟩:=go 5 bs 0;refine⟨z,r,rt,?_,?_⟩
    ·refine Ev.fn (fun n=>by simp only[kN,kB,mE,mB];exact rfl) ?_;refine Ev.bind s1 ?_;simp only[hm,jG,e];refine Ev.bind kd ?_;simp only[hwb,iD,jF,jG];exact Ev.bind bs1 g1
    ·refine Ev.fn (fun n=>by simp only[lE,kB,nj,mB];exact rfl) ?_;refine Ev.bind s2 ?_;simp only[hm,jG,e,h.A7,hwb,iD,jF,jG];exact Ev.bind bs2 g2
   |8,hkk,_=>
    have e:t.kind=8:=hkk;have kd:Ev (fun n=>qD n 8) 6:=FO 8 (by omega);obtain⟨z,r,rt,g1,g2⟩:=go 6 [] 0;refine⟨z,r,rt,?_,?_⟩
    ·refine Ev.fn (fun n=>by simp only[kN,kB,mE,mB];exact rfl) ?_;refine Ev.bind s1 ?_;simp only[hm,jG,e];refine Ev.bind kd ?_;simp only[iD,jF,jG];exact g1
    ·refine Ev.fn (fun n=>by simp only[lE,kB,nj,mB];exact rfl) ?_;refine Ev.bind s2 ?_;simp only[hm,jG,e,iD,jF,jG];exact g2
   |9,hkk,_=>
    have e:t.kind=9:=hkk;have kd:Ev (fun n=>qD n 9) 7:=FO 9 (by omega);obtain⟨z,r,rt,g1,g2⟩:=go 7 [] 0;refine⟨z,r,rt,?_,?_⟩
    ·refine Ev.fn (fun n=>by simp only[kN,kB,mE,mB];exact rfl) ?_;refine Ev.bind s1 ?_;simp only[hm,jG,e];refine Ev.bind kd ?_;simp only[iD,jF,jG];exact g1
    ·refine Ev.fn (fun n=>by simp only[lE,kB,nj,mB];exact rfl) ?_;refine Ev.bind s2 ?_;simp only[hm,jG,e,iD,jF,jG];exact g2
   |10,hkk,_=>
    have e:t.kind=10:=hkk;have kd:Ev (fun n=>qD n 10) 8:=FO 10 (by omega);obtain⟨z,r,rt,g1,g2⟩:=go 8 [] 0;refine⟨z,r,rt,?_,?_⟩
    ·refine Ev.fn (fun n=>by simp only[kN,kB,mE,mB];exact rfl) ?_;refine Ev.bind s1 ?_;simp only[hm,jG,e];refine Ev.bind kd ?_;simp only[iD,jF,jG];exact g1
    ·refine Ev.fn (fun n=>by simp only[lE,kB,nj,mB];exact rfl) ?_;refine Ev.bind s2 ?_;simp only[hm,jG,e,iD,jF,jG];exact g2
   |11,hkk,_=>
    have e:t.kind=11:=hkk;have kd:Ev (fun n=>qD n 11) 9:=FO 11 (by omega);obtain⟨z,r,rt,g1,g2⟩:=go 9 bs 0;refine⟨z,r,rt,?_,?_⟩
    ·refine Ev.fn (fun n=>by simp only[kN,kB,mE,mB];exact rfl) ?_;refine Ev.bind s1 ?_;simp only[hm,jG,e];refine Ev.bind kd ?_;simp only[hwb,iD,jF,jG];exact Ev.bind bs1 g1
    ·refine Ev.fn (fun n=>by simp only[lE,kB,nj,mB];exact rfl) ?_;refine Ev.bind s2 ?_;simp only[hm,jG,e,h.A7,hwb,iD,jF,jG];exact Ev.bind bs2 g2
   |n+12,_,hn=>omega
theorem azx:∀(ps:List kp)(out:List kp)(s:kp),s∈aaz out ps->s∈out\/s∈ps
 |[],out,s,h=>.inl h
 |p::ps,out,s,h=>by
  rcases azx ps (ayq out p) s h with h|h
  ·unfold ayq at h;cases hc:p==[]||out.contains p with
   |true=>rw[hc]at h;exact .inl h
   |false=>
    rw[hc]at h;rcases jb.1 h with h|h
    ·exact .inl h
    ·rw[iP]at h;subst h;exact .inr (by simp)
  ·exact .inr (jA _ h)
theorem azy:∀(T:List jS)(out:List kp)(s:kp),s∈aeD out T->s∈out\/∃n∈T,s∈n.parts
 |[],out,s,h=>.inl h
 |n::T,out,s,h=>by
  rcases azy T (aaz out n.parts) s h with h|⟨m,hm,hs⟩
  ·rcases azx n.parts out s h with h|h
   ·exact .inl h
   ·exact .inr ⟨n,by simp,h⟩
  ·exact .inr ⟨m,jA _ hm,hs⟩
theorem Wy:∀l:List kp,qa (fun m:kp=>m.length+1) l=aeE l+1
 |[]=>rfl
 |x::l=>by simp only[qa,aeE];rw[Wy l];omega
theorem jS.aHn{n:jS}:n.parts.length<=n.kU/\∀s∈n.parts,s.length<=n.kU:=by
 have h:=Wy n.parts;refine⟨?_,fun s hs=>?_⟩
 ·have:=Jh n.parts;rw[jS.kU];omega
 ·have:=aeF hs;rw[jS.kU];omega
theorem TB.of{T:List jS}(h:qa jS.kU T<=lm):TB T:=by
 refine⟨?_,fun n hn=>?_,?_⟩
 ·have:=uU (f:=jS.kU) (fun n=>by rw[jS.kU];omega) T;omega
 ·have:=wk (f:=jS.kU) hn;have:=n.aHn.1;omega
 ·have:=as2 T;omega
theorem aPm{st:kI}(h:st.kU<=lm):SOK st:=by
 unfold kI.kU at h;simp only[Wy]at h;have h1:=uU (f:=ky.kU) (fun x=>by rw[ky.kU];omega) st.env;refine⟨fun d hd=>DOK.of ?_,by omega,by omega,?_,fun o ho=>?_⟩
 ·have:=wk (f:=ky.kU) hd;omega
 ·have:=Jh st.opens;omega
 ·have:=aeF ho;omega
theorem aII(st:kI)(kC A7:List kp)(t:jX)(h1:st.kU<=lm)(h2:qa (fun m:kp=>m.length+1) kC<=lm)(h3:qa (fun m:kp=>m.length+1) A7<=lm)(h4:t.kU<=lm-64)(ok:OkT t)(wf:t.wf):
 ∃(z:Syntax)(e:Int),RT z/\Ev (fun n=>Pb n st kC A7 t) (z,e)/\Ev (fun n=>af7 n st kC A7 t) (z,e):=by
 have tb:TB st.pZ:=TB.of (by unfold kI.kU at h1;omega);obtain⟨r1,⟨a1,a2⟩,c1⟩:=awP t (by omega);obtain⟨r2,⟨b1,b2⟩,c2⟩:=aup t (by omega);rw[Wy]at h2 h3
 have hn:NOK {st:=st,yJ:=aeD [] st.pZ,kC:=kC,A7:=A7,xK:=r1} {st:=st,kC:=kC,A7:=A7,xK:=r2}:=by
  refine⟨rfl,rfl,rfl,rfl,tb,fun s=>by rw[b2,a2],?_,?_,a1,b1,fun s hs=>?_,fun s hs=>?_,fun s hs=>?_,fun s hs=>?_,aPm h1⟩
  ·have:=Jh A7;simp only;omega
  ·have:=Jh kC;simp only;omega
  ·have:=aeF (l:=A7) hs;omega
  ·have:=aeF (l:=kC) hs;omega
  ·have h5:r1.any (· ==s)=true:=jm.2 ⟨s,hs,by simp⟩;rw[a2]at h5;have:=aK9 s t h5;omega
  ·rcases azy _ _ _ hs with h|⟨n,hn,hs⟩
   ·cases h
   ·have:=n.aHn.2 s hs;have:=wk (f:=jS.kU) hn;unfold kI.kU at h1;omega
 obtain⟨z,e,rt,f1,f2⟩:=aIH hn t ok wf 0 (by omega);refine⟨z,e,rt,?_,?_⟩
 ·refine Ev.fn (fun n=>by simp only[Pb,kB,YC,mB];exact rfl) ?_;exact Ev.bind (aKW st.pZ tb.len tb.parts tb.sum) (Ev.bind c1 (Ev.bind f1 Ev.pure))
 ·refine Ev.fn (fun n=>by simp only[af7,kB,af6,mB];exact rfl) ?_;exact Ev.bind c2 (Ev.bind f2 Ev.pure)
set_option maxRecDepth 100000
theorem Ua(l:List kp)(k:Int)(hl:l.length<=lm):k6 (fun n=>FU n l k) rj:=by
 refine k6.fn (fun n=>by simp only[FU,kB,UG,mB];exact rfl) ?_;refine k6.pL (fun _=>?_) fun _=>k6.pure trivial
 refine k6.bind (P:=rj) ?_ fun x _=>k6.pure trivial
 refine k6.fn (fun n=>by simp only[sr,kB,rI,mB];exact rfl) ?_;refine k6.bind (P:=rj) ?_ fun x _=>k6.pure trivial
 refine k6.fn (fun n=>by simp only[tw,kB,sH,mB];exact rfl) ?_;refine k6.BX (F:=fun n m=>oG n m l l.length 0) ?_;refine kg.up (S:=Unit) (L:=fun n m i _=>oG n m l l.length i) l.length (fun _ _=>True) _ ?_ ?_ 0 () (by omega) trivial
 ·intro i u hi _ next
  refine kg.lp (fun n m=>by simp only[vN,oF,mB];exact rfl) ?_;simp only[hi,iz,decide_true,jF];refine kg.Cv hi ?_;rw[k9 (by simp only[lm]at hl;omega)];refine kg.nJ (P:=rj) ?_ fun x _=>kg.pL (fun _=>kg.pure trivial) fun _=>next u trivial
  refine k6.fn (fun n=>by simp only[Um,kB,M3,mB];exact rfl) ?_;exact k6.pure trivial
 ·intro u _;refine kg.lp (fun n m=>by simp only[vN,oF,mB];exact rfl) ?_;simp only[iy,decide_false,jG];exact kg.pure trivial
theorem aIJ(T:List jS)(h:TB T):k6 (fun n=>aan n T) rj:=by
 have hl:=h.len;refine k6.fn (fun n=>by simp only[aan,kB,abS,mB];exact rfl) ?_;refine k6.pL (fun _=>?_) fun _=>k6.pure trivial
 refine k6.bind (P:=rj) ?_ fun x _=>k6.pure trivial
 refine k6.fn (fun n=>by simp only[sx,kB,rL,mB];exact rfl) ?_;refine k6.bind (P:=rj) ?_ fun x _=>k6.pure trivial
 refine k6.fn (fun n=>by simp only[tA,kB,sJ,mB];exact rfl) ?_;refine k6.BX (F:=fun n m=>oN n m T T.length 0) ?_;refine kg.up (S:=Unit) (L:=fun n m i _=>oN n m T T.length i) T.length (fun _ _=>True) _ ?_ ?_ 0 () (by omega) trivial
 ·intro i u hi _ next
  refine kg.lp (fun n m=>by simp only[vV,oJ,mB];exact rfl) ?_;simp only[hi,iz,decide_true,jF];refine kg.Cv hi ?_;rw[k9 (by simp only[lm]at hl;omega)];refine kg.nJ (P:=rj) ?_ fun x _=>kg.pL (fun _=>kg.pure trivial) fun _=>next u trivial
  refine k6.fn (fun n=>by simp only[abB,kB,UK,mB];exact rfl) ?_;refine k6.bind (Ua _ _ (h.parts _ (iA hi))) fun x _=>?_
  exact k6.pL (fun _=>k6.pure trivial) fun _=>k6.pure trivial
 ·intro u _;refine kg.lp (fun n m=>by simp only[vV,oJ,mB];exact rfl) ?_;simp only[iy,decide_false,jG];exact kg.pure trivial
theorem aIK:∀(k:Nat)(l:List jX)(aLc:Int),qa jX.kU l<=k->k<=lm*2->k6 (fun n=>Ee n aLc l) rj:=by
 intro k;induction k with
 |zero=>intro l aLc hl _;have:=alg (bk:=jX.kU) l;omega
 |succ k ih=>
  intro l aLc hl hk;have hlen:=uU (f:=jX.kU) jX.ve l;refine k6.fn (fun n=>by simp only[Ee,kB,aaQ,mB];exact rfl) ?_;refine k6.BX (F:=fun n m=>HI (Ee n) n m aLc 0 l l.length 0) ?_;refine kg.up (S:=Int) (L:=fun n m i a=>HI (Ee n) n m aLc a l l.length i) l.length (fun _ _=>True) _ ?_ ?_ 0 0 (by omega) trivial
  ·intro i a hi _ next
   refine kg.lp (fun n m=>by simp only[acH,HH,mB];exact rfl) ?_;simp only[hi,iz,decide_true,jF];refine kg.Cv hi ?_;refine kg.pL (fun _=>kg.pure trivial) fun _=>?_
   have h1:=wk (f:=jX.kU) (iA hi);have h2:qa jX.kU l[i].lr<l[i].kU:=by rw[jX.xC l[i]];omega
   rw[k9 (by simp only[lm]at hk;omega)];exact kg.nJ (ih _ _ (by omega) (by omega)) fun x _=>next _ trivial
  ·intro a _;refine kg.lp (fun n m=>by simp only[acH,HH,mB];exact rfl) ?_;simp only[iy,decide_false,jG];exact kg.pure trivial
theorem aGv(vs:List kE)(hv:vs.length<=lm):k6 (fun n=>q5 n vs ()) rj:=by
 refine k6.fn (fun n=>by simp only[q5,kB,tz,mB];exact rfl) ?_;refine k6.bind (P:=rj) ?_ fun x _=>k6.pure trivial
 refine k6.fn (fun n=>by simp only[vE,kB,uF,mB];exact rfl) ?_;refine k6.BX (F:=fun n m=>pO n m vs vs.length 0) ?_;refine kg.up (S:=Unit) (L:=fun n m i _=>pO n m vs vs.length i) vs.length (fun _ _=>True) _ ?_ ?_ 0 () (by omega) trivial
 ·intro i u hi _ next
  refine kg.lp (fun n m=>by simp only[xU,pN,mB];exact rfl) ?_;simp only[hi,iz,decide_true,jF];refine kg.Cv hi ?_;rw[k9 (by simp only[lm]at hv;omega)];refine kg.nJ (P:=rj) ?_ fun x _=>kg.pL (fun _=>kg.pure trivial) fun _=>next u trivial
  refine k6.fn (fun n=>by simp only[ajk,kB,aaR,mB];exact rfl) ?_;exact k6.pure trivial
 ·intro u _;refine kg.lp (fun n m=>by simp only[xU,pN,mB];exact rfl) ?_;simp only[iy,decide_false,jG];exact kg.pure trivial
theorem aIL:∀(k:Nat)(l:List jX),qa jX.kU l<=k->k<=lm*2->k6 (fun n=>Mr n l) rj:=by
 intro k;induction k with
 |zero=>intro l hl _;have:=alg (bk:=jX.kU) l;omega
 |succ k ih=>
  intro l hl hk;have hlen:=uU (f:=jX.kU) jX.ve l;refine k6.fn (fun n=>by simp only[Mr,kB,akm,mB];exact rfl) ?_;refine k6.bind (aIK (k+1) l 200 hl hk) fun x _=>?_
  refine k6.pL (fun _=>k6.pure trivial) fun _=>?_
  refine k6.BX (F:=fun n m=>Og (Mr n) n m l l.length 0) ?_;refine kg.up (S:=Unit) (L:=fun n m i _=>Og (Mr n) n m l l.length i) l.length (fun _ _=>True) _ ?_ ?_ 0 () (by omega) trivial
  ·intro i u hi _ next
   refine kg.lp (fun n m=>by simp only[akl,Of,mB];exact rfl) ?_;simp only[hi,iz,decide_true,jF];refine kg.Cv hi ?_;have h1:=wk (f:=jX.kU) (iA hi);have h2:qa jX.kU l[i].lr<l[i].kU:=by rw[jX.xC l[i]];omega
   rw[k9 (by simp only[lm]at hk;omega)];refine kg.pL (fun _=>kg.pure trivial) fun _=>?_
   refine kg.pL (fun _=>kg.pure trivial) fun h20=>?_
   have h3:=jK h20;refine kg.nJ (aGv _ (by simp only[lm];omega)) fun x _=>?_
   refine kg.pL (fun _=>kg.pure trivial) fun _=>?_
   refine kg.nJ (ih _ (by omega) (by omega)) fun x _=>?_
   exact kg.pL (fun _=>next u trivial) fun _=>kg.pure trivial
  ·intro u _;refine kg.lp (fun n m=>by simp only[akl,Of,mB];exact rfl) ?_;simp only[iy,decide_false,jG];exact kg.pure trivial
theorem aIM(st:kI)(h:st.kU<=lm):k6 (fun n=>aav n st) rj:=by
 have hb:=h;unfold kI.kU at hb;simp only[Wy]at hb;have h1:=Jh st.qz;have h2:=Jh st.opens;have h3:=uU (f:=ky.kU) (fun x=>by rw[ky.kU];omega) st.env;refine k6.fn (fun n=>by simp only[aav,kB,ab4,mB];exact rfl) ?_;refine k6.bind (aIJ _ (TB.of (by omega))) fun x _=>?_
 refine k6.pL (fun _=>?_) fun _=>k6.pure trivial
 refine k6.bind (Ua _ _ (by omega)) fun x _=>?_
 refine k6.pL (fun _=>?_) fun _=>k6.pure trivial
 refine k6.bind (Ua _ _ (by omega)) fun x _=>?_
 refine k6.pL (fun _=>?_) fun _=>k6.pure trivial
 refine k6.bind (aK0 st.env ⟨by omega,fun d hd=>?_⟩) fun x _=>k6.pure trivial
 have:=wk (f:=ky.kU) hd;omega
theorem aIN(c:kA)(hb:c.kU<=1048576):k6 (fun n=>Lj n c) (fun r=>r=true->OkT c.term):=by
 unfold kA.kU at hb;simp only[Wy]at hb;have h1:=Jh c.kC;have h2:=Jh c.mF;refine k6.fn (fun n=>by simp only[Lj,kB,Pa,mB];exact rfl) ?_;refine k6.bind (aIM _ (by simp only[lm];omega)) fun x _=>?_
 refine k6.pL (fun _=>?_) fun _=>k6.pure fun h=>by cases h
 refine k6.bind (Ua _ _ (by simp only[lm];omega)) fun x _=>?_
 refine k6.pL (fun _=>?_) fun _=>k6.pure fun h=>by cases h
 refine k6.bind (Ua _ _ (by simp only[lm];omega)) fun x _=>?_
 refine k6.pL (fun _=>?_) fun _=>k6.pure fun h=>by cases h
 refine k6.bind (aIL (c.term.kU+1) [c.term] (by simp only[qa];omega) (by simp only[lm];omega)) fun x _=>?_
 refine k6.pL (fun _=>?_) fun _=>k6.pure fun h=>by cases h
 refine k6.bind (aur c.term _ _ _ _ (by unfold xO;omega)) fun x hx=>?_
 exact k6.pure fun h=>hx (jM.1 h)
theorem aIO(k:Nat):aaw (k+300)=some true:=jO
theorem awW:Ev (fun n=>aaw n) true:=by
 refine⟨300,fun n hn=>?_⟩;obtain⟨k,rfl⟩:∃k,n=k+300:=⟨n-300,by omega⟩;exact aIO k
theorem ayw(x0:kA)(hb:x0.kU<=1048576)(hw:x0.wf):∃n,Ff n x0=some true:=by
 have h:Ev (fun n=>Ff n x0) true:=by
  refine k6.ev ?_;refine k6.fn (fun n=>by simp only[Ff,kB,IN,mB];exact rfl) ?_;refine k6.bind (aIN x0 hb) fun x hx=>?_
  refine k6.pL (fun h=>?_) (fun _=>Ev.tot (r:=true) (Ev.bind awW Ev.pure) rfl);have ok:=hx h;unfold kA.kU at hb;obtain⟨z,e,rt,f1,f2⟩:=aII x0.st x0.kC x0.mF x0.term (by simp only[lm];omega) (by simp only[lm];omega) (by simp only[lm];omega) (by simp only[lm];omega) ok hw.2.2.2.1;refine Ev.tot (r:=true) ?_ rfl;refine Ev.bind f1 (Ev.bind f2 ?_);simp only[beq_self_eq_true,jF];refine Ev.bind (aGu rt) ?_;simp only[jF];exact Ev.bind awW Ev.pure
 obtain⟨N,h⟩:=h;exact⟨N,h N (jf _)⟩
end Go.Abs
