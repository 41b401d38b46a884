/- A part of the proof: plain facts. -/
import Derived.Test.YtdkeelhebopgkaaGreatDoorLawA
import Derived.Test.YtdkeelhebopgkaaGreatDoorReadA
set_option linter.all false
open List renaming drop_eq_getElem_cons → ib,length_drop → ig,length_cons → ii,drop_eq_nil_of_le → ij,getElem_mem → ik,cons_append → il,drop_zero → iq,drop_append_of_le_length → iv,drop_drop → iz,length_nil → iA,nil_append → iB,take_zero → iD,take_succ_cons → iI,any_cons → iJ,length_append → iN,take_length → iQ,contains_cons → iS,getElem?_eq_getElem → iT,take_of_length_le → iU,take_nil → iW,take_succ_eq_append_getElem → iX,all_eq_true → iY,length_singleton → iZ,take_append_drop → ja,any_nil → jb,mem_append → jc,all_cons → je,contains_eq_any_beq → jg,length_take → jh,drop_length → ji,length_eq_zero_iff → jk,any_append → jl,length → jn,map_cons → jo,drop → jq
open Option renaming bind_some → ic,isSome_none → jp
open Nat renaming le_refl → ir,strongRecOn → iw,zero_le → iC,lt_of_le_of_lt → iO,lt_or_ge → iP,lt_succ_self → iR,zero_add → jd,add_zero → jr
open Bool renaming and_eq_true → iy,not_false → iG,false_or → iK,not_true → iL,true_and → iM,or_false → iV,not_eq_true' → jf,eq_iff_iff → jm
open Int renaming le_refl → iE,toNat_natCast → iF,natCast_nonneg → iH,ofNat_lt → jj
noncomputable section
namespace Go.Abs
variable {f f' k t':Int}{j9 ns out:List Str}{l l' ops r:List Syntax}{p:List j8}{ls:List jM}{a i j m o q:Nat}{α:Type}{R:α->α->Nat->Prop}{r':Rs α}{s s' t y:Str}{x x':Syntax}{β:Type}{c:UInt8}{n:jH}
theorem Ia{α:Type}(x s:Str)(v:α): ∀es:List (Str×α),mz x (w7 s v es)=bif x==s then some v else mz x es
 |[]=>by
  simp only[w7,mz]
 |(k,u)::es=>by
  have ih:=Ia x s v es
  grind [w7,mz]
structure Idx(T:List jH)(sz:Int)(B C:List (Str×jH))(I:List (Str×Bool)):Prop where
 sz:sz=(T.length:Int)
 b: ∀s,mz s B=xF T s false
 c: ∀s,mz s C=xF T s true
 i: ∀s,s≠[]->(mz s I).getD false=T.any (fun t=>(pP t).contains s)
theorem Idx.nil:Idx [] 0 [] [] []:=⟨rfl,fun _=>rfl,fun _=>rfl,fun _ _=>rfl⟩
def ahk(l:List Str)(I:List (Str×Bool)):List (Str×Bool):=l.foldl (fun I s=>bif s==[] then I else w7 s true I) I
theorem aan: ∀(l:List Str)(I:List (Str×Bool))(s:Str),s≠[]->(mz s (ahk l I)).getD false=(l.contains s||(mz s I).getD false)
 |[],I,s,_=>rfl
 |x::l,I,s,hs=>by
  have ih:=aan l (bif x==[] then I else w7 x true I) s hs
  grind [ahk,Ia]
theorem Q7(T:List jH)(n:jH)(s:Str)(c:Bool):xF (T++[n]) s c=(xF T s c).or (bif H6 n==c&&oR n==s then some n else none):=by
 grind [xF]
theorem aj3(rest:List Str)(hl:rest.length<=cap)(sz:Int)(B C:List (Str×jH)): ∀(d i:Nat)(I:List (Str×Bool)),i+d=rest.length->
 kC (fun f m=>qX f m rest (rest.length:Int) (i:Int) sz B C I) (((IntKind.i64.wrap (sz+1),()),B,C,ahk (rest.drop i) I,()),0,()):=by
 simp only[cap] at hl;intro d;induction d with
 |zero=>
  intro i I hi;refine kC.lp (fun n m=>by simp only[Fl,tE,pu];exact rfl) ?_;have:decide ((i:Int)<(rest.length:Int))=false:=jx (by omega);simp only[this,jv,ij (show rest.length<=i by omega)];exact kC.pure
 |succ d ih=>
  intro i I hi;have hlt:i<rest.length:=by omega
  refine kC.lp (fun n m=>by simp only[Fl,tE,pu];exact rfl) ?_;have:decide ((i:Int)<(rest.length:Int))=true:=jw (by omega);simp only[this,ju];refine kC.idx hlt ?_;rw[kz (by omega),ib hlt];cases hx:rest[i]==[] with
  |true=>
   simp only[ju];have:=ih (i+1) I (by omega)
   grind [ahk]
  |false=>
   simp only[jv];have:=ih (i+1) (w7 rest[i] true I) (by omega)
   grind [ahk]
abbrev aAm:=((Int×Unit)×((List (Str×jH))×((List (Str×jH))×((List (Str×Bool))×Unit))))×(Int×Unit)
theorem arU(rest:List Str)(hl:rest.length<=cap)(hd:Str)(sz:Int)(B C:List (Str×jH))(I:List (Str×Bool))(n:jH)(h0:mz [] C=none): ∀(d i:Nat),i+d=rest.length->
 kC (fun f m=>tG f m hd rest rest (rest.length:Int) (i:Int) sz B C I n) (bif (rest.drop i).any (fun s=>(mz s C).isSome) then(((sz,()),B,C,I,()),8,()) else(((IntKind.i64.wrap (sz+1),()),B,w7 hd n C,ahk rest I,()),0,())):=by
 have Kc:=hl;simp only[cap] at hl;intro d;induction d with
 |zero=>
  intro i hi;refine kC.lp (fun n m=>by simp only[Fm,tF,pu];exact rfl) ?_;have:decide ((i:Int)<(rest.length:Int))=false:=jx (by omega);simp only[this,jv,ij (show rest.length<=i by omega),jb];have:=aj3 rest Kc sz B (w7 hd n C) rest.length 0 I (by omega);exact kC.Xi (Ev.AN (F:=fun f m=>qX f m rest (rest.length:Int) 0 sz B (w7 hd n C) I) this)
 |succ d ih=>
  intro i hi;have hlt:i<rest.length:=by omega
  refine kC.lp (fun n m=>by simp only[Fm,tF,pu];exact rfl) ?_;have:decide ((i:Int)<(rest.length:Int))=true:=jw (by omega);simp only[this,ju];refine kC.idx hlt ?_;rw[kz (by omega),ib hlt,iJ];have next:=ih (i+1) (by omega)
  cases hf:mz rest[i] C with
  |none=>grind [oel]
  |some x=>
   grind [oel,kC.pure]
theorem arV(rest:List Str)(hl:rest.length<=cap)(hd:Str)(sz:Int)(B C:List (Str×jH))(I:List (Str×Bool))(n:jH)(h0:mz [] C=none): ∀(d i:Nat),i+d=rest.length->
 kC (fun f m=>tI f m hd rest rest (rest.length:Int) (i:Int) sz B C I n) (bif (rest.drop i).any (fun s=>(mz s C).isSome) then(((sz,()),B,C,I,()),8,()) else(((IntKind.i64.wrap (sz+1),()),w7 hd n B,C,ahk rest I,()),0,())):=by
 have Kc:=hl;simp only[cap] at hl;intro d;induction d with
 |zero=>
  intro i hi;refine kC.lp (fun n m=>by simp only[Fo,tH,pu];exact rfl) ?_;have:decide ((i:Int)<(rest.length:Int))=false:=jx (by omega);simp only[this,jv,ij (show rest.length<=i by omega),jb];have:=aj3 rest Kc sz (w7 hd n B) C rest.length 0 I (by omega);exact kC.Xi (Ev.AN (F:=fun f m=>qX f m rest (rest.length:Int) 0 sz (w7 hd n B) C I) this)
 |succ d ih=>
  intro i hi;have hlt:i<rest.length:=by omega
  refine kC.lp (fun n m=>by simp only[Fo,tH,pu];exact rfl) ?_;have:decide ((i:Int)<(rest.length:Int))=true:=jw (by omega);simp only[this,ju];refine kC.idx hlt ?_;rw[kz (by omega),ib hlt,iJ];have next:=ih (i+1) (by omega)
  cases hf:mz rest[i] C with
  |none=>grind [oel]
  |some x=>
   grind [oel,kC.pure]
theorem aaX(xs:List Str)(s:Str)(hl:xs.length<=cap):Ev (fun n=>mj n xs s) (xs.contains s):=by
 simp only[cap] at hl;refine Ev.fn (fun n=>by simp only[mj,kq,xR,mB];exact rfl) ?_
 have key: ∀d i:Nat,i+d=xs.length->kC (fun f m=>vA f m xs s (xs.length:Int) (i:Int)) (bif (xs.drop i).contains s then((i+(xs.drop i).idxOf s:Nat):Int) else-1):=by
  intro d;induction d with
  |zero=>
   intro i hi;refine kC.lp (fun n m=>by simp only[DT,sL,mB];exact rfl) ?_
   grind [kC.pure]
  |succ d ih=>
   intro i hi;have hlt:i<xs.length:=by omega
   refine kC.lp (fun n m=>by simp only[DT,sL,mB];exact rfl) ?_;have:decide ((i:Int)<(xs.length:Int))=true:=jw (by omega);simp only[this,ju];refine kC.idx hlt ?_;rw[kz (by omega),ib hlt,iS,List.idxOf_cons];cases hx:s==xs[i] with
   |true=>
    grind [kC.pure]
   |false=>
    have hx':(xs[i]==s)=false:=by grind
    simp only[jv,iK,hx']
    grind
 have h1:=key xs.length 0 (by omega);rw[iq] at h1
 have h2:Ev (fun n=>yq n xs s) (bif xs.contains s then((0+xs.idxOf s:Nat):Int) else-1):=by
  refine Ev.fn (fun n=>by simp only[yq,kq,Bq,mB];exact rfl) ?_
  grind [Ev.AN]
 refine Ev.bind h2 ?_;cases xs.contains s with
 |true=>simp_all [Ev.pure]
 |false=>exact Ev.pure
theorem aj4{T:List jH}:T.any (fun t=>Hu t n||zM t n)=(T.any (fun t=>Hu t n)||(T.any (fun t=>H6 t&&(pP n).contains (oR t))||T.any (fun t=>H6 n&&(pP t).contains (oR n)))):=by
 induction T with
 |nil=>rfl
 |cons t T ih=>
  grind [zM]
theorem aj5{T:List jH}:T.any (fun t=>Hu t n)=(xF T (oR n) (H6 n)).isSome:=by
 grind [xF,Hu]
theorem aj6{T:List jH}{C:List (Str×jH)}(hc: ∀s,mz s C=xF T s true):(pP n).any (fun s=>(mz s C).isSome)=T.any (fun t=>H6 t&&(pP n).contains (oR t)):=by
 grind [xF]
theorem afS:pP n=bif H6 n then(n.parts.take n.parts.length).drop 2 else(n.parts.take n.parts.length).drop 1:=by
 grind [pP]
theorem Idx.azc{T:List jH}{sz:Int}{B C:List (Str×jH)}{I:List (Str×Bool)}(X:Idx T sz B C I)(hT:T.length<=100)(hl:H6 n=true)(hf:xF T (oR n) true=none):
 Idx (T++[n]) (IntKind.i64.wrap (sz+1)) B (w7 (oR n) n C) (ahk (pP n) I):=by
 refine⟨?_,fun s=> ?_,fun s=> ?_,fun s hs=> ?_⟩
 ·rw[X.sz,kz (by omega),iN,iZ]
 ·rw[X.b,Q7,hl];cases xF T s false<;>rfl
 ·rw[Ia,X.c,Q7,hl]
  grind
 ·rw[aan _ _ _ hs,X.i s hs,jl,iJ,jb,iV,Bool.or_comm]
theorem Idx.azd{T:List jH}{sz:Int}{B C:List (Str×jH)}{I:List (Str×Bool)}(X:Idx T sz B C I)(hT:T.length<=100)(hl:H6 n=false)(hf:xF T (oR n) false=none):
 Idx (T++[n]) (IntKind.i64.wrap (sz+1)) (w7 (oR n) n B) C (ahk (pP n) I):=by
 refine⟨?_,fun s=> ?_,fun s=> ?_,fun s hs=> ?_⟩
 ·rw[X.sz,kz (by omega),iN,iZ]
 ·rw[Ia,X.b,Q7,hl]
  grind
 ·rw[X.c,Q7,hl];cases xF T s true<;>rfl
 ·rw[aan _ _ _ hs,X.i s hs,jl,iJ,jb,iV,Bool.or_comm]
theorem auT{T:List jH}{sz:Int}{B C:List (Str×jH)}{I:List (Str×Bool)}(g:Wx T)(X:Idx T sz B C I)(h:Nsm n):
 li (fun f=>AF f n sz B C I) (fun r=>r.2.1=SB T n/\(SB T n=0->Idx (T++[n]) r.1.1.1 r.1.2.1 r.1.2.2.1 r.1.2.2.2.1)):=by
 refine li.fn (fun n=>by simp only[AF,kq,Cv,pu];exact rfl) ?_;refine li.bind ((arT h).tot (Q:=(· =zJ n)) rfl) fun x hx=> ?_
 subst hx;cases hc:zJ n==0 with
 |false=>
  simp only[bne,hc,iG,ju];have e:SB T n=zJ n:=by unfold SB;rw[hc];rfl
  refine li.pure ⟨e.symm,fun h0=> ?_⟩
  grind
 |true=>
 simp only[bne,hc,iL,jv];have k:Ok n:=Ok.of (jB.1 hc);rw[show decide ((100:Int)<=sz)=decide (100<=T.length) from by rw[X.sz];exact decide_eq_decide.2 (by omega)];have hT:=g.len;cases axf:decide (100<=T.length) with
 |true=>
  simp only[ju];have e:SB T n=6:=by unfold SB;rw[hc,axf];rfl
  exact li.pure ⟨e.symm,fun h0=>by rw[e] at h0;cases h0⟩
 |false=>
 simp only[jv];have ea:SB T n=bif zM n n||T.any (fun t=>Hu t n||zM t n) then 8 else 0:=by unfold SB;rw[hc,axf];rfl
 have bad:(zM n n||T.any (fun t=>Hu t n||zM t n))=true->li (fun _:Nat=>some ((((sz,()),B,C,I,()),8,()):aAm)) (fun r=>r.2.1=SB T n/\(SB T n=0->Idx (T++[n]) r.1.1.1 r.1.2.1 r.1.2.2.1 r.1.2.2.2.1)):=fun hb=>
  li.pure ⟨by rw[ea,hb];rfl,fun h0=>by rw[ea,hb] at h0;cases h0⟩
 have h0:mz [] C=none:=by
  rw[X.c];cases hf:xF T [] true with
  |none=>rfl
  |some m=>
   obtain⟨a,_,c⟩:=H7 hf;exact absurd c (g.ok a).head_ne
 have hin:(pP n).length<=cap:=by
  have:=k.LI
  grind [pP]
 refine li.bind (P:=fun r=>r=bif H6 n then(PR.ok (((sz,()),B,C,I,()),oR n,pP n,())) else(PR.pn (((sz,()),B,C,I,()),oR n,pP n,()))) ?_ fun x hx=> ?_
 ·refine li.fn (fun n=>by simp only[Ce,kq,Ar,mB];exact rfl) ?_;refine li.bind ((Ew k.pos).1.tot (Q:=(· =H6 n)) rfl) fun x hx=> ?_
  subst hx;cases hl:H6 n with
  |true=>
   have h2:=k.aaU hl;simp only[ju];rw[aza (by omega),jw (show(2:Int)<=(n.parts.length:Int)/\(n.parts.length:Int)<=(n.parts.length:Int) by omega)];refine li.pure ?_
   grind [adI,afS]
  |false=>
   have h2:=k.pos;simp only[jv];rw[auR h2,jw (show(1:Int)<=(n.parts.length:Int)/\(n.parts.length:Int)<=(n.parts.length:Int) by omega)];refine li.pure ?_
   grind [aaV,afS]
 ·subst hx;cases hl:H6 n with
  |true=>
   simp only[ju,BQ]
   have eC:(zM n n||T.any (fun t=>Hu t n||zM t n))=((xF T (oR n) true).isSome||((pP n).contains (oR n)||(T.any (fun t=>(pP t).contains (oR n))||(pP n).any (fun s=>(mz s C).isSome)))):=by
    rw[aj4,aj5,aj6 X.c,hl]
    grind [zM]
   rw[eC] at ea bad;rw[X.c];cases hf:xF T (oR n) true with
   |some m=>rw[hf] at bad;exact bad rfl
   |none=>
    simp only[oel];refine li.bind ((Ew k.pos).1.tot (Q:=(· =H6 n)) rfl) fun x hx=> ?_
    subst hx;rw[hl];simp only[ju];rw[X.i _ k.head_ne];cases hi:T.any (fun t=>(pP t).contains (oR n)) with
    |true=>
     grind
    |false=>
     simp only[jv];refine li.bind ((aaX _ _ hin).tot (Q:=(· =(pP n).contains (oR n))) rfl) fun x hx=> ?_
     subst hx;cases hcn:(pP n).contains (oR n) with
     |true=>
      grind
     |false=>
      simp only[jv];have:=arU (pP n) hin (oR n) sz B C I n h0 (pP n).length 0 (by omega);rw[iq] at this;refine(Ev.AN (F:=fun f m=>tG f m (oR n) (pP n) (pP n) ((pP n).length:Int) 0 sz B C I n) this).tot ?_;rw[hf,hcn,hi] at ea;simp only[jp,iK] at ea;cases hr:(pP n).any (fun s=>(mz s C).isSome) with
      |true=>
       grind
      |false=>
       rw[hr] at ea;exact⟨ea.symm,fun _=>X.azc hT hl hf⟩
  |false=>
   simp only[jv,BQ]
   have eC:(zM n n||T.any (fun t=>Hu t n||zM t n))=((xF T (oR n) false).isSome||(pP n).any (fun s=>(mz s C).isSome)):=by
    rw[aj4,aj5,aj6 X.c,hl]
    grind [zM]
   rw[eC] at ea bad;rw[X.b];cases hf:xF T (oR n) false with
   |some m=>rw[hf] at bad;exact bad rfl
   |none=>
    simp only[oel];refine li.bind ((Ew k.pos).1.tot (Q:=(· =H6 n)) rfl) fun x hx=> ?_
    subst hx;rw[hl];simp only[jv];have:=arV (pP n) hin (oR n) sz B C I n h0 (pP n).length 0 (by omega);rw[iq] at this;refine(Ev.AN (F:=fun f m=>tI f m (oR n) (pP n) (pP n) ((pP n).length:Int) 0 sz B C I n) this).tot ?_;rw[hf] at ea;simp only[jp,iK] at ea;cases hr:(pP n).any (fun s=>(mz s C).isSome) with
    |true=>
     grind
    |false=>
     rw[hr] at ea;exact⟨ea.symm,fun _=>X.azd hT hl hf⟩
theorem auU{T:List jH}(g:Wx T)(h:Nsm n):Ev (fun f=>VJ f T n) (SB T n):=by
 refine Ev.fn (fun n=>by simp only[VJ,kq,UP,mB];exact rfl) ?_;refine Ev.bind (aph h) ?_;unfold SB;cases hc:zJ n==0 with
 |false=>grind [Ev.pure]
 |true=>
 simp only[bne,hc,iL,jv,ju];have k:Ok n:=Ok.of (jB.1 hc);rw[show decide ((100:Int)<=(T.length:Int))=decide (100<=T.length) from decide_eq_decide.2 (by omega)];have hT:=g.len;cases axf:decide (100<=T.length) with
 |true=>exact Ev.pure
 |false=>
 simp only[jv];refine Ev.bind (aj1 k k) ?_;cases zM n n with
 |true=>exact Ev.pure
 |false=>
 simp only[jv,iK]
 have key: ∀d i:Nat,i+d=T.length->kC (fun f m=>C1 f m T (i:Int) n) (bif (T.drop i).any (fun t=>Hu t n||zM t n) then 8 else 0):=by
  intro d;induction d with
  |zero=>
   intro i hi;refine kC.lp (fun n m=>by simp only[UO,Gu,mB];exact rfl) ?_
   grind [kC.pure]
  |succ d ih=>
   intro i hi;have hlt:i<T.length:=by omega
   have kt:=g.ok (ik hlt);refine kC.lp (fun n m=>by simp only[UO,Gu,mB];exact rfl) ?_;have:decide ((i:Int)<(T.length:Int))=true:=jw (by omega);simp only[this,ju];refine kC.idx hlt ?_;have next:=ih (i+1) (by omega)
   rw[<-kz (by omega)] at next
   rw[ib hlt,iJ]
   have ay7:kC (fun f m=>(tu T (i:Int)).bind fun x=>(zj f x n).bind fun x=>bif x then some 8 else C1 f m T (IntKind.i64.wrap ((i:Int)+1)) n) (bif zM T[i] n||(T.drop (i+1)).any (fun t=>Hu t n||zM t n) then 8 else 0):=by
    refine kC.idx hlt (kC.lH (aj1 kt k) ?_);cases zM T[i] n with
    |true=>exact kC.pure
    |false=>exact next
   refine kC.lH (Ew kt.pos).2 (kC.lH (Ew k.pos).2 ?_);rw[show Hu T[i] n=(H6 T[i]==H6 n&&oR T[i]==oR n) from rfl];cases H6 T[i]==H6 n with
   |false=>grind
   |true=>
    simp only[ju,iM];refine kC.idx hlt (kC.lH (Zm kt) (kC.lH (Zm k) ?_));cases oR T[i]==oR n with
    |true=>exact kC.pure
    |false=>grind
 exact Ev.AN (F:=fun f m=>C1 f m T 0 n) (key T.length 0 (by omega))
theorem afT{T:List jH}(hl:T.length<=cap)(h: ∀n∈T,Nsm n):Ev (fun f=>Je f T) (aal T):=by
 refine Ev.fn (fun n=>by simp only[Je,kq,NO,mB];exact rfl) ?_;simp only[cap] at hl
 have key: ∀d i:Nat,i+d=T.length->Wx (T.take i)->kC (fun f m=>Cu f m T (i:Int)) (aaT (T.take i) (T.drop i)):=by
  intro d;induction d with
  |zero=>
   intro i hi g;refine kC.lp (fun n m=>by simp only[O8,Ct,mB];exact rfl) ?_;have:decide ((i:Int)<(T.length:Int))=false:=jx (by omega);simp only[this,jv,ij (show T.length<=i by omega)];exact kC.pure
  |succ d ih=>
   intro i hi g;have hlt:i<T.length:=by omega
   refine kC.lp (fun n m=>by simp only[O8,Ct,mB];exact rfl) ?_;have:decide ((i:Int)<(T.length:Int))=true:=jw (by omega);simp only[this,ju];rw[jw (show(0:Int)<=(i:Int)/\(i:Int)<=(T.length:Int)/\(T.length:Int)<=(T.length:Int) by omega)];simp only[ju,iF];refine kC.idx hlt ?_;refine kC.lH (auU g (h _ (ik hlt))) ?_;rw[ib hlt,aaT];cases ha:SB (T.take i) T[i]==0 with
   |false=>grind [kC.pure]
   |true=>
    simp only[bne,ha,iL,jv,iM];have g':=g.snoc (jB.1 ha)
    grind [iX,kz]
 have:=key T.length 0 (by omega) (by rw[iD];exact Wx.nil);rw[iD,iq] at this;exact Ev.AN (F:=fun f m=>Cu f m T 0) this
abbrev StP:=((List Syntax)×(Int×Unit))×((Int×Unit)×((List (Str×jH))×((List (Str×jH))×((List (Str×Bool))×Unit))))
def pos(L r:List Syntax):Int:=((L.length-r.length:Nat):Int)
theorem pos_at {L t:List Syntax}(h:L=t++r):pos L r=(t.length:Int):=by
 grind [pos]
theorem ahl(L:List Syntax):pos L []=(L.length:Int):=rfl
theorem auV(L:List Syntax):pos L L=0:=by unfold pos;rw[Nat.sub_self];rfl
theorem Vm{L:List Syntax}{y:Syntax}(h:y::r<:+L):decide ((L.length:Int)<=pos L (y::r))=false/\tu L (pos L (y::r))=some y:=by
 obtain⟨t,rfl⟩:=h
 grind [pos_at,n8]
theorem aj7{L:List Syntax}{y:Syntax}(h:y::r<:+L)(hL:L.length<=cap):IntKind.i64.wrap (pos L (y::r)+1)=pos L r:=by
 obtain⟨t,rfl⟩:=h;simp only[cap] at hL;rw[iN,ii] at hL;rw[pos_at rfl,pos_at (t:=t++[y]) (by simp),kz (by omega),iN,iZ]
theorem api{L:List Syntax}{y:Syntax}(h:y::r<:+L):r<:+L:=(List.suffix_cons y r).trans h
section prog
variable (L:List Syntax) (sz:Int) (B C:List (Str×jH)) (I:List (Str×Bool))
def psP(r:List Syntax):StP:=((L,pos L r,()),(sz,()),B,C,I,())
def aeQ:Out->PR (StP×(Syntax×(Int×Unit))) (StP×(Unit×Unit))
 | .bad q=> .pn (psP L sz B C I q,(),())
 | .val x h q=> .ok (psP L sz B C I q,x,h,())
 | .ops _ _ q=> .pn (psP L sz B C I q,(),())
def arW(n:jH)(start:Int):Out->PR (StP×(Syntax×Unit)) (StP×(Unit×Unit))
 | .bad q=> .pn (psP L sz B C I q,(),())
 | .val _ _ q=> .pn (psP L sz B C I q,(),())
 | .ops l e q=> .ok (psP L sz B C I q,JO n l start e,())
theorem Q8(h:r<:+L):Ev (fun f=>sM f L (pos L r) sz B C I) (psP L sz B C I r,match Zi r with|none=>([],false,())|some s=>(s,true,())):=by
 refine Ev.fn (fun n=>by simp only[sM,kq,xO,mB];exact rfl) ?_
 match r,h with
 |[],h=>
  rw[ahl,jw (iE _)];exact Ev.pure
 |y::r,h=>
  obtain⟨h1,h2⟩:=Vm h;rw[h1,h2];simp only[jv,ic];rw[show Zi (y::r)=bif y.kind==17 then some y.text else none from rfl,bne];cases y.kind==17<;>exact Ev.pure
theorem auW(n:jH)(ops:List Syntax)(hl:ops.length<=cap)(f t:Int)(r:List Syntax): ∀(d i:Nat)(k:Int)(s:Str)(kids:List Syntax)(a b:Int),i+d=ops.length->
 kC (fun g m=>rR (j7 g) g m f t (ops.length:Int) (i:Int) L (pos L r) sz B C I ops k s kids a b) (.ok (psP L sz B C I r,Vk (Syntax.mk k s 0 [] [] kids a b) (ops.drop i) f t,())):=by
 simp only[cap] at hl;intro d;induction d with
 |zero=>
  intro i k s kids a b hi;refine kC.lp (fun n m=>by simp only[Dh,rQ,kv,pu];exact rfl) ?_;have:decide ((i:Int)<(ops.length:Int))=false:=jx (by omega);simp only[this,jv,ij (show ops.length<=i by omega)];exact kC.pure
 |succ d ih=>
  intro i k s kids a b hi;have hlt:i<ops.length:=by omega
  refine kC.lp (fun n m=>by simp only[Dh,rQ,kv,pu];exact rfl) ?_;have:decide ((i:Int)<(ops.length:Int))=true:=jw (by omega);simp only[this,ju];refine kC.idx hlt ?_;rw[kz (by omega),ib hlt];exact ih (i+1) 2 [] _ f t (by omega)
theorem auX(n:jH)(ops:List Syntax)(hl:ops.length<=cap)(f t:Int)(r:List Syntax): ∀(d i:Nat)(k:Int)(s:Str)(kids:List Syntax)(a b:Int),i+d=ops.length->
 kC (fun g m=>rT (j7 g) g m f t ops (ops.length:Int) (i:Int) L (pos L r) sz B C I k s kids a b) (.ok (psP L sz B C I r,Vk (Syntax.mk k s 0 [] [] kids a b) (ops.drop i) f t,())):=by
 simp only[cap] at hl;intro d;induction d with
 |zero=>
  intro i k s kids a b hi;refine kC.lp (fun n m=>by simp only[Di,rS,kv,pu];exact rfl) ?_;have:decide ((i:Int)<(ops.length:Int))=false:=jx (by omega);simp only[this,jv,ij (show ops.length<=i by omega)];exact kC.pure
 |succ d ih=>
  intro i k s kids a b hi;have hlt:i<ops.length:=by omega
  refine kC.lp (fun n m=>by simp only[Di,rS,kv,pu];exact rfl) ?_;have:decide ((i:Int)<(ops.length:Int))=true:=jw (by omega);simp only[this,ju];refine kC.idx hlt ?_;rw[kz (by omega),ib hlt];exact ih (i+1) 2 [] _ f t (by omega)
def PG:Cmd->Out->Prop
 | .level m r,o=>Ev (fun f=>lZ f m L (pos L r) sz B C I) (aeQ L sz B C I o)
 | .first m r,o=>Ev (fun f=>ld f m L (pos L r) sz B C I) (aeQ L sz B C I o)
 | .loop m out has r,o=>kC (fun f k=>nV (j7 f) f k m has L (pos L r) sz B C I out) (aeQ L sz B C I o)
 | .parts n ps i ops e r,o=>Ok n-> ∀(from_ j:Nat)(start:Int),i=from_+j->from_+j<=n.parts.length->ps=n.parts.drop i->ops.length<=i->
     kC (fun f k=>uP (j7 f) f k (from_:Int) start e (n.parts.drop from_) ((n.parts.drop from_).length:Int) (j:Int) L (pos L r) sz B C I n ops) (arW L sz B C I n start o)/\
     kC (fun f k=>rU (j7 f) f k (from_:Int) ops start e (n.parts.drop from_) ((n.parts.drop from_).length:Int) (j:Int) L (pos L r) sz B C I n) (arW L sz B C I n start o)
variable {L} {sz} {B} {C} {I} {T:List jH}
theorem arX(h:ops.length<17):decide ((ops.length+1)*120<=17592186044416)=true:=jw (by omega)
theorem Ix(k:Ok n){from_:Nat}(hf:from_<=n.parts.length)(ho:ops.length<=from_){o:Out}(h:PG L sz B C I (.parts n (n.parts.drop from_) from_ ops 0 r) o)(start:Int):
 Ev (fun f=>mP f n (from_:Int) ops start L (pos L r) sz B C I) (arW L sz B C I n start o):=by
 refine Ev.fn (fun n=>by simp only[Qy,vE,kv,pu];exact rfl) ?_;rw[jw (show(0:Int)<=(from_:Int)/\(from_:Int)<=(n.parts.length:Int)/\(n.parts.length:Int)<=(n.parts.length:Int) by omega)];simp only[ju,iF,iQ];exact Ev.AN (F:=fun f k=>rU (j7 f) f k (from_:Int) ops start 0 (n.parts.drop from_) ((n.parts.drop from_).length:Int) 0 L (pos L r) sz B C I n) (h k from_ 0 start (by omega) (by omega) rfl ho).2
theorem abZ{ps:List Str}{from_:Nat}(hps:s::ps=n.parts.drop i)(hi:i=from_+j):
 ((j:Int)<((n.parts.drop from_).length:Int))/\tu (n.parts.drop from_) (j:Int)=some s/\ps=n.parts.drop (i+1)/\i<n.parts.length:=by
 grind [ii,ib,n8]
theorem Zn {from_:Nat}(hi:i=from_+j)(k:Ok n)(hle:from_+j<=n.parts.length):IntKind.i64.wrap ((from_:Int)+(j:Int))=((from_+j:Nat):Int):=by
 have:=k.few
 grind [wrap_small]
theorem GQ.prog(g:Wx T)(X:Idx T sz B C I)(hL:L.length<=cap){c:Cmd}{o:Out}(h:GQ T c o):c.rest<:+L->PG L sz B C I c o:=by
 induction h with
 | @Pv n i ops e r=>
   intro hr k from_ j start hi hle hps ho
   have hj:from_+j=n.parts.length:=by
    grind [iA]
   have he:decide ((j:Int)<((n.parts.drop from_).length:Int))=false:=jx (by rw[ig];omega);have hoc:ops.length<=cap:=by have:=k.LI;omega
   constructor
   ·refine kC.lp (fun n m=>by simp only[qJ,nW,kv,pu];exact rfl) ?_;simp only[he,jv];have:=auW L sz B C I n ops hoc start e r ops.length 0 0 n.target [] start e (by omega);exact kC.Xi (Ev.AN (F:=fun f m=>rR (j7 f) f m start e (ops.length:Int) 0 L (pos L r) sz B C I ops 0 n.target [] start e) this)
   ·refine kC.lp (fun n m=>by simp only[qK,nX,kv,pu];exact rfl) ?_;simp only[he,jv];have:=auX L sz B C I n ops hoc start e r ops.length 0 0 n.target [] start e (by omega);exact kC.Xi (Ev.AN (F:=fun f m=>rT (j7 f) f m start e ops (ops.length:Int) 0 L (pos L r) sz B C I 0 n.target [] start e) this)
 | @Zj n ps i ops e r q h1 ih=>
   intro hr k from_ j start hi hle hps ho;obtain⟨hlt,hx,hd,hil⟩:=abZ hps hi;constructor
   ·refine kC.lp (fun n m=>by simp only[qJ,nW,kv,pu];exact rfl) ?_;rw[jw hlt];simp only[ju,hx,ic,beq_self_eq_true];rw[Zn hi k hle,<-hi];refine kC.lH (Q6 k (i:=i) (by omega)) (kC.lH (ih hr) ?_);exact kC.pure
   ·refine kC.lp (fun n m=>by simp only[qK,nX,kv,pu];exact rfl) ?_;rw[jw hlt];simp only[ju,hx,ic,beq_self_eq_true];rw[Zn hi k hle,<-hi];refine kC.lH (Q6 k (i:=i) (by omega)) (kC.lH (ih hr) ?_);exact kC.pure
 | @hole n ps i ops e r x h q o h1 h2 ih1 ih2=>
   intro hr k from_ j start hi hle hps ho;obtain⟨hlt,hx,hd,hil⟩:=abZ hps hi;have hq:q<:+L:=(h1.suff (o:= .val x h q)).trans hr;have next:=(ih2 hq k from_ (j+1) start (by omega) (by omega) hd (by grind)).1
   have hw:IntKind.i64.wrap ((j:Int)+1)=((j+1:Nat):Int):=kz (by have:=k.few;omega);constructor
   ·refine kC.lp (fun n m=>by simp only[qJ,nW,kv,pu];exact rfl) ?_;rw[jw hlt];simp only[ju,hx,ic,beq_self_eq_true];rw[Zn hi k hle,<-hi];refine kC.lH (Q6 k (i:=i) (by omega)) (kC.lH (ih1 hr) ?_);simp only[aeQ,BQ,psP];rw[arX (by have:=k.few;omega),hw];exact next
   ·refine kC.lp (fun n m=>by simp only[qK,nX,kv,pu];exact rfl) ?_;rw[jw hlt];simp only[ju,hx,ic,beq_self_eq_true];rw[Zn hi k hle,<-hi];refine kC.lH (Q6 k (i:=i) (by omega)) (kC.lH (ih1 hr) ?_);simp only[aeQ,BQ,psP];rw[arX (by have:=k.few;omega),hw];exact next
 | @adH n s ps i ops e r hs hq=>
   intro hr k from_ j start hi hle hps ho;obtain⟨hlt,hx,hd,hil⟩:=abZ hps hi;have hs':(s==[])=false:=jC.2 hs;constructor
   ·refine kC.lp (fun n m=>by simp only[qJ,nW,kv,pu];exact rfl) ?_;rw[jw hlt];simp only[ju,hx,ic,hs',jv];refine kC.lH (Q8 L sz B C I hr) ?_;cases hy:Zi r with
    |none=>exact kC.pure
    |some t=>
     have:(t==s)=false:=jC.2 fun e=>hq (by rw[hy,e])
     simp only[ju,this,jv];exact kC.pure
   ·refine kC.lp (fun n m=>by simp only[qK,nX,kv,pu];exact rfl) ?_;rw[jw hlt];simp only[ju,hx,ic,hs',jv];refine kC.lH (Q8 L sz B C I hr) ?_;cases hy:Zi r with
    |none=>exact kC.pure
    |some t=>
     have:(t==s)=false:=jC.2 fun e=>hq (by rw[hy,e])
     simp only[ju,this,jv];exact kC.pure
 | @sym n s ps i ops e y r o hs hk ht h2 ih=>
   intro hr k from_ j start hi hle hps ho;obtain⟨hlt,hx,hd,hil⟩:=abZ hps hi;have hs':(s==[])=false:=jC.2 hs;simp only[Cmd.rest] at hr ih;obtain⟨aAE,aAF⟩:=ih (api hr) k from_ (j+1) start (by omega) (by omega) hd (by omega);have hw:IntKind.i64.wrap ((j:Int)+1)=((j+1:Nat):Int):=kz (by have:=k.few;omega);have hp:=aj7 hr hL;constructor
   ·refine kC.lp (fun n m=>by simp only[qJ,nW,kv,pu];exact rfl) ?_;rw[jw hlt];simp only[ju,hx,ic,hs',jv];refine kC.lH (Q8 L sz B C I hr) ?_
    simp_all [anE,psP,Vm]
   ·refine kC.lp (fun n m=>by simp only[qK,nX,kv,pu];exact rfl) ?_;rw[jw hlt];simp only[ju,hx,ic,hs',jv];refine kC.lH (Q8 L sz B C I hr) ?_
    simp_all [anE,psP,Vm]
 | @Pw m=>
   intro hr;show Ev (fun f=>ld f m L (pos L []) sz B C I) _;refine Ev.fn (fun n=>by simp only[qL,nv,kv,pu];exact rfl) ?_;rw[ahl,jw (iE _)];exact Ev.pure
 | @H8 m x r hx=>
   intro hr;show Ev (fun f=>ld f m L (pos L (x::r)) sz B C I) _;refine Ev.fn (fun n=>by simp only[qL,nv,kv,pu];exact rfl) ?_;obtain⟨h1,h2⟩:=Vm hr;rw[h1,h2,aj7 hr hL];have:(x.kind !=17)=true:=by grind
   simp only[jv,ic,this,ju];exact Ev.pure
 | @Px m x r hx hb=>
   intro hr;show Ev (fun f=>ld f m L (pos L (x::r)) sz B C I) _;refine Ev.fn (fun n=>by simp only[qL,nv,kv,pu];exact rfl) ?_;obtain⟨h1,h2⟩:=Vm hr;rw[h1,h2];have:(x.kind !=17)=false:=by rw[bne,jB.2 hx];rfl
   simp only[jv,ic,this,X.b];unfold aeP at hb;cases hf:xF T x.text false with
   |none=>exact Ev.pure
   |some n=>
    rw[hf] at hb;have kn:=g.ok (H7 hf).1;simp only[oel];cases hc:rgt n&&decide (n.level<m) with
    |false=>simp only[hc] at hb;cases hb
    |true=>
     rw[iy] at hc;refine Ev.bind (Ej kn.pos kn.LI).1 ?_;rw[hc.1,hc.2];exact Ev.pure
 | @Vl m x r n q hx hb h1 ih=>
   intro hr;show Ev (fun f=>ld f m L (pos L (x::r)) sz B C I) _;refine Ev.fn (fun n=>by simp only[qL,nv,kv,pu];exact rfl) ?_;obtain⟨e1,e2⟩:=Vm hr;rw[e1,e2];have:(x.kind !=17)=false:=by rw[bne,jB.2 hx];rfl
   obtain⟨hn,hl,hh,axg⟩:=KB hb;have kn:=g.ok hn;have hf:xF T x.text false=some n:=by grind [VS]
   simp only[jv,ic,this,X.b,hf,oel];have qD:=Ix kn (iC _) (ir 0) (ops:=[]) (ih hr) x.from_;refine Ev.bind (Ej kn.pos kn.LI).1 ?_;cases hrg:rgt n with
   |true=>
    have:decide (n.level<m)=false:=jx (by have:=axg hrg;omega);simp only[ju,this,jv];refine Ev.bind (Ej kn.pos kn.LI).1 ?_;rw[hrg];exact Ev.bind qD Ev.pure
   |false=>
    simp only[jv];refine Ev.bind (Ej kn.pos kn.LI).1 ?_;rw[hrg];exact Ev.bind qD Ev.pure
 | @first m x r n l e q hx hb h1 ih=>
   intro hr;show Ev (fun f=>ld f m L (pos L (x::r)) sz B C I) _;refine Ev.fn (fun n=>by simp only[qL,nv,kv,pu];exact rfl) ?_;obtain⟨e1,e2⟩:=Vm hr;rw[e1,e2];have:(x.kind !=17)=false:=by rw[bne,jB.2 hx];rfl
   obtain⟨hn,hl,hh,axg⟩:=KB hb;have kn:=g.ok hn;have hf:xF T x.text false=some n:=by grind [VS]
   simp only[jv,ic,this,X.b,hf,oel];have qD:=Ix kn (iC _) (ir 0) (ops:=[]) (ih hr) x.from_;refine Ev.bind (Ej kn.pos kn.LI).1 ?_;have ho:arO n=bif rgt n then n.level else 101:=rfl
   cases hrg:rgt n with
   |true=>
    rw[hrg] at ho;have:decide (n.level<m)=false:=jx (by have:=axg hrg;omega);simp only[ju,this,jv];refine Ev.bind (Ej kn.pos kn.LI).1 ?_;rw[hrg];refine Ev.bind qD ?_
    grind [arW,aeQ,BQ,Ev.pure]
   |false=>
    rw[hrg] at ho;simp only[jv];refine Ev.bind (Ej kn.pos kn.LI).1 ?_;rw[hrg];refine Ev.bind qD ?_
    grind [arW,aeQ,BQ,Ev.pure]
 | @stop m out has r hg=>
   intro hr;show kC (fun f k=>nV (j7 f) f k m has L (pos L r) sz B C I out) _;refine kC.lp (fun n m=>by simp only[wT,qc,kv,pu];exact rfl) ?_;refine kC.lH (Q8 L sz B C I hr) ?_;unfold aeO at hg;cases hs:Zi r with
   |none=>exact kC.pure
   |some s=>
    rw[hs] at hg;simp only at hg;simp only[ju,psP,X.c];cases hf:xF T s true with
    |none=>exact kC.pure
    |some n=>
     rw[hf] at hg;have kn:=g.ok (H7 hf).1;simp only[oel];cases h1:decide (n.level<m) with
     |true=>exact kC.pure
     |false=>
      simp only[jv];refine kC.lH (Q6 kn (i:=0) kn.pos) ?_;cases h2:decide (has<Xc n 0) with
      |true=>exact kC.pure
      |false=>simp [h1,h2] at hg
 | @ajY m out has r n q hg h1 ih=>
   intro hr;show kC (fun f k=>nV (j7 f) f k m has L (pos L r) sz B C I out) _;refine kC.lp (fun n m=>by simp only[wT,qc,kv,pu];exact rfl) ?_;refine kC.lH (Q8 L sz B C I hr) ?_;obtain⟨hn,hl,hs,hm,hh⟩:=KC hg;have kn:=g.ok hn;have hf:xF T (oR n) true=some n:=by rw[<-hl];exact VS g hn
   have qD:=Ix kn kn.pos (ir 1) (ops:=[out]) (ih hr) out.from_;rw[hs];simp only[ju,psP,X.c,hf,oel];rw[jx (show ¬ n.level<m by omega)];simp only[jv];refine kC.lH (Q6 kn (i:=0) kn.pos) ?_;rw[jx (show ¬ has<Xc n 0 by omega)];exact kC.lH qD kC.pure
 | @go m out has r n l e q o hg h1 h2 ih1 ih2=>
   intro hr;show kC (fun f k=>nV (j7 f) f k m has L (pos L r) sz B C I out) _;refine kC.lp (fun n m=>by simp only[wT,qc,kv,pu];exact rfl) ?_;refine kC.lH (Q8 L sz B C I hr) ?_;obtain⟨hn,hl,hs,hm,hh⟩:=KC hg;have kn:=g.ok hn;have hf:xF T (oR n) true=some n:=by rw[<-hl];exact VS g hn
   have qD:=Ix kn kn.pos (ir 1) (ops:=[out]) (ih1 hr) out.from_;rw[hs];simp only[ju,psP,X.c,hf,oel];rw[jx (show ¬ n.level<m by omega)];simp only[jv];refine kC.lH (Q6 kn (i:=0) kn.pos) ?_;rw[jx (show ¬ has<Xc n 0 by omega)];refine kC.lH qD ?_;exact ih2 ((h1.suff (o:= .ops l e q)).trans hr)
 | @Py m r q h1 ih=>
   intro hr;show Ev (fun f=>lZ f m L (pos L r) sz B C I) _;refine Ev.fn (fun n=>by simp only[Gh,sS,kv,pu];exact rfl) ?_;exact Ev.bind (ih hr) Ev.pure
 | @level m r x h q o h1 h2 ih1 ih2=>
   intro hr;show Ev (fun f=>lZ f m L (pos L r) sz B C I) _;refine Ev.fn (fun n=>by simp only[Gh,sS,kv,pu];exact rfl) ?_;refine Ev.bind (ih1 hr) ?_;exact Ev.AN (F:=fun f k=>nV (j7 f) f k m h L (pos L q) sz B C I x) (ih2 ((h1.suff (o:= .val x h q)).trans hr))
end prog
section ref
variable (T:List jH) (L:List Syntax)
variable {T} {L}
theorem Ev.aAn{S R:Type}{F:Nat->Option S}{x:S}{G:Nat->S->Option R}{Q:R->Prop}(h:Ev F x)(hg:li (fun n=>G n x) Q):li (fun n=>(F n).bind (G n)) Q:=
 li.bind (h.tot (Q:=(· =x)) rfl) fun y hy=>by subst hy;exact hg
end ref
def arY(T:List jH)(b:Bool)(r:PR (Unit×Unit) (((Int×Unit)×((List (Str×jH))×((List (Str×jH))×((List (Str×Bool))×Unit))))×Unit)):Prop:=
 (b=true/\ ∃sz B C I,r= .pn (((sz,()),B,C,I,()),())/\Idx T sz B C I)\/(b=false/\r= .ok ((),()))
theorem apj{T:List jH}(hl:T.length<=cap)(h: ∀n∈T,Nsm n):
 li (fun f=>C4 f T) (arY T (aal T)):=by
 refine li.fn (fun n=>by simp only[C4,kq,EJ,mB];exact rfl) ?_;simp only[cap] at hl
 have awR:Ev (fun f=>BH f) (((0,()),[],[],[],()),()):=by
  refine Ev.fn (fun n=>by simp only[BH,kq,Dy,mB];exact rfl) ?_;exact Ev.pure
 refine awR.aAn ?_
 have key: ∀(d i:Nat)(sz:Int)(B C:List (Str×jH))(I:List (Str×Bool)),i+d=T.length->Wx (T.take i)->Idx (T.take i) sz B C I->
  kW (fun f m=>vi f m T (T.length:Int) (i:Int) sz B C I) (arY T (aaT (T.take i) (T.drop i))):=by
  intro d;induction d with
  |zero=>
   intro i sz B C I hi g X;refine kW.lp (fun n m=>by simp only[Hp,vh,mB];exact rfl) ?_;have:decide ((i:Int)<(T.length:Int))=false:=jx (by omega);simp only[this,jv,ij (show T.length<=i by omega)];rw[iU (by omega)] at X;exact kW.pure (.inl ⟨by first|rfl|trivial,sz,B,C,I,rfl,X⟩)
  |succ d ih=>
   intro i sz B C I hi g X;have hlt:i<T.length:=by omega
   refine kW.lp (fun n m=>by simp only[Hp,vh,mB];exact rfl) ?_;have:decide ((i:Int)<(T.length:Int))=true:=jw (by omega);simp only[this,ju];refine kW.idx hlt ?_;refine kW.lH (auT g X (h _ (ik hlt))) fun r hr=> ?_
   obtain⟨h1,h2⟩:=hr;rw[h1,ib hlt,aaT];cases ha:SB (T.take i) T[i]==0 with
   |false=>simp only[bne,ha,iG,ju,Bool.false_and];exact kW.pure (.inr ⟨rfl,rfl⟩)
   |true=>
    simp only[bne,ha,iL,jv,iM];have h0:=jB.1 ha;have g':=g.snoc h0;have X':=h2 h0;have e:T.take i++[T[i]]=T.take (i+1):=by simp_all
    grind [kz]
 have:=key T.length 0 0 [] [] [] (by omega) (by rw[iD];exact Wx.nil) (by rw[iD];exact Idx.nil);rw[iD,iq] at this;exact li.AN (F:=fun f m=>vi f m T (T.length:Int) 0 0 [] [] []) this
def zS:Syntax:= .mk 0 [] 0 [] [] [] 0 0
def nB(L:List Syntax):Out->Syntax×Int×Int
 | .bad q=>(zS,pos L q,4)
 | .val x _ q=>bif q.isEmpty then(x,0,0) else(zS,pos L q,4)
 | .ops _ _ _=>(zS,0,0)
theorem amF{T:List jH}{L:List Syntax}(hl:T.length<=cap)(h: ∀n∈T,Nsm n)(hL:L.length<=cap)(ht:aal T=true)(hb: ¬ 4096<L.length){o:Out}(ho:GQ T (.level 0 L) o):
 Ev (fun f=>sZ f T L) (nB L o):=by
 obtain⟨ri,hri,evi⟩:=apj hl h;have evt:=afT hl h;have aze:decide ((4096:Int)<(L.length:Int))=decide (4096<L.length):=decide_eq_decide.2 (by omega);have g:=Wx.of ht;rcases hri with⟨_,sz,B,C,I,rfl,X⟩|⟨ht',rfl⟩
 ·rw[ht] at evt;refine Ev.fn (fun n=>by simp only[sZ,kq,HW,pu];exact rfl) ?_;refine Ev.bind evi ?_;simp only[BQ,aze,jx hb,jv];have hp:Ev (fun f=>lZ f 0 L (pos L L) sz B C I) (aeQ L sz B C I o):=GQ.prog g X hL ho (List.suffix_refl _);rw[auV] at hp;refine Ev.bind hp ?_
  have qp: ∀(x:Syntax)(q:List Syntax),Ev (fun f=>(s9 f () x 0 0 L (pos L q) sz B C I).bind fun x=>some (x.fst.snd.fst.fst,x.fst.snd.snd.fst.fst,x.fst.snd.snd.snd.fst.fst)) (zS,pos L q,4):=by
   intro x q;refine Ev.bind (x:=(((),(zS,()),(pos L q,()),(4,()),(L,pos L q,()),(sz,()),B,C,I,()),())) ?_ Ev.pure;refine Ev.fn (fun n=>by simp only[s9,kq,Bt,mB];exact rfl) ?_;exact Ev.pure
  rcases Kv ho rfl with⟨q,rfl⟩|⟨x,hh,q,rfl⟩
  ·simp only[aeQ,BQ,psP];exact qp _ _
  ·simp only[aeQ,BQ,psP];have hs:q<:+L:=ho.suff (o:= .val x hh q)
   match q,hs with
   |[],hs=>
    rw[ahl,jx (Int.lt_irrefl _)];simp only[jv];refine Ev.bind (x:=(((),(x,()),(0,()),(0,()),(L,(L.length:Int),()),(sz,()),B,C,I,()),())) ?_ Ev.pure;refine Ev.fn (fun n=>by simp only[vb,kq,Br,mB];exact rfl) ?_;exact Ev.pure
   |y::q,hs=>
    have:=(Vm hs).1;rw[jw (show pos L (y::q)<(L.length:Int) by grind)];exact qp _ _
 ·rw[ht] at ht';cases ht'
theorem Syntax.axh(e:Syntax):e.Ks=1+((e.text.length+1)+(1+(GS (fun m:Str=>m.length+1) e.names+(GS jM.Ks e.levels+(GS Syntax.Ks e.kids+(1+(1+1))))))):=by
 cases e;simp only[Syntax.Ks,Syntax.text,Syntax.names,Syntax.levels,Syntax.kids,Syntax.ajI]
section
variable {Z:Cx}
variable {ex ta:Nat->Rs Syntax} {d:Int}
def aaY(to:Int):List Syntax->Syntax->Syntax
 |[],o=>o
 |x::l,o=> .mk 6 [] 0 [] [] [x,aaY to l o] x.from_ to
theorem adL(to:Int): ∀(l:List Syntax)(x:Syntax)(h:(x::l)≠[]),Src.pairs to l x=aaY to (x::l).dropLast ((x::l).getLast h)
 |[],x,_=>rfl
 |y::l,x,_=>by
  show Syntax.mk 6 [] 0 [] [] [x,Src.pairs to l y] x.from_ to=Syntax.mk 6 [] 0 [] [] [x,aaY to (y::l).dropLast ((y::l).getLast (by simp))] x.from_ to;rw[adL to l y (by simp)]
theorem adM(to:Int): ∀(l:List Syntax)(x o:Syntax),aaY to (l++[x]) o=aaY to l (.mk 6 [] 0 [] [] [x,o] x.from_ to)
 |[],_,_=>rfl
 |y::l,x,o=>by rw[il,aaY,adM to l x o,aaY]
theorem axi(h:qU Z)(hq:q<Z.T.length)(a0:Syntax)(l:List Syntax)(hl:l.length<=100000): ∀(k:Nat),k<=l.length-> ∀o:Syntax,
 kC (fun n m=>qd (jJ n) n m ((k:Int)-1) (Z.st q d) a0 l o) (.ok (((Z.st q d,()),()),Src.GJ (aaY (Z.S.E q) (l.take k) o) a0.from_,())):=by
 intro k;induction k with
 |zero=>
  intro hk o;refine kC.lp (fun n m=>by simp only[Dl,r7,jY,pu];exact rfl) ?_;rw[jx (by omega)];exact kC.pure
 |succ k ih=>
  intro hk o;have hkl:k<l.length:=by omega
  refine kC.lp (fun n m=>by simp only[Dl,r7,jY,pu];exact rfl) ?_;rw[show((k+1:Nat):Int)-1=(k:Int) by omega,jw (iH k)];simp only[ju,n8 hkl,ic];refine kC.lH (Q2 h hq) ?_;rw[wrap_small (by omega) (by omega)]
  grind [adM,List.take_append_getElem]
theorem axj(h:qU Z)(hex:Nx Z d kg ex)(a0 x:Syntax): ∀(m:Nat)(out:List Syntax)(i:Nat),i<Z.T.length->m+out.length=199->
 kW (fun n q=>si (jJ n) n q (Z.st i d) a0 (x::out)) (RP Z d ((Z.S.Wv ex m out i).bind fun l k=>(Z.S.take [41] k).bind fun _ q=> .ok (Src.GJ (Src.pairs (Z.S.E q) l x) a0.from_) q)):=by
 intro m
 have fin: ∀(out:List Syntax)(i:Nat),i<Z.T.length->out.length<=199->kW (fun n _=>(lB n [41] (Z.st i d)).bind fun y=>BQ y (fun y=>(tu (x::out) (IntKind.i64.wrap (((x::out).length:Int)-1))).bind fun x_1=>qd (jJ n) n n (IntKind.i64.wrap (((x::out).length:Int)-2)) y.fst.fst.fst a0 (x::out) x_1) fun y=>some (PR.pn (((y.fst.fst.fst,()),()),y.snd.fst,())))
  (RP Z d ((Z.S.take [41] i).bind fun _ q=> .ok (Src.GJ (Src.pairs (Z.S.E q) out x) a0.from_) q)):=by
  intro out i hi ho;refine kW.Xi ?_;refine RU.step (tK h hi [41]) fun q _ hq=> ?_
  have hlen:(x::out).length=out.length+1:=rfl;have e1:IntKind.i64.wrap (((x::out).length:Int)-1)=(out.length:Int):=by grind [wrap_small]
  have e2:IntKind.i64.wrap (((x::out).length:Int)-2)=((out.length:Nat):Int)-1:=by grind [wrap_small]
  have hlt:out.length<(x::out).length:=by omega
  rw[e1,e2,n8 hlt];simp only[ic];refine Ev.tot (Ev.AN (F:=fun n m=>qd (jJ n) n m ((out.length:Int)-1) (Z.st q d) a0 (x::out) (x::out)[out.length]) (axi h hq a0 (x::out) (by omega) out.length (by omega) _)) ⟨hq,?_⟩
  grind [adL,List.dropLast_eq_take]
 induction m with
 |zero=>
  intro out i hi hm;refine kW.lp (fun n m=>by simp only[Dm,r9,jY,pu];exact rfl) ?_;refine Ev.BR (qf h hi [44]) ?_;unfold Src.Wv;cases hs:Z.S.sym [44] i with
  |true=>
   refine Ev.BR (xE h (qx hi) (k:=((x::out).length:Int)) (by rw[ii];omega)) ?_;exact kW.pure ⟨_,rfl⟩
  |false=>exact fin out i hi (by omega)
 |succ m ih=>
  intro out i hi hm;refine kW.lp (fun n m=>by simp only[Dm,r9,jY,pu];exact rfl) ?_;refine Ev.BR (qf h hi [44]) ?_;unfold Src.Wv;cases hs:Z.S.sym [44] i with
  |true=>
   simp only[ju];refine Ev.BR (yF (qx hi) (k:=((x::out).length:Int)) (by rw[ii];omega)) ?_;rw[Rs.bind_assoc];refine RP.step2 (hex _ (qx hi)) (fun y j _ hj=> ?_)
   grind
  |false=>exact fin out i hi (by omega)
theorem amG(h:qU Z)(k:XL Z.S)(hex:Nx Z d kg ex)(o i:Nat)(hi:i<Z.T.length):li (fun n=>nL n (.mk 0 [] 0 [] [] [] (Z.S.F o) 0) (Z.st i d)) (RP Z d (Z.S.DH ex o i)):=by
 refine li.fn (fun n=>by simp only[QX,vL,jY,pu];exact rfl) ?_;unfold Src.DH;refine RP.step (hex i hi) fun x j _ hj=> ?_
 refine Ev.to (qf h hj [41]) ?_;cases h1:Z.S.sym [41] j with
 |true=>exact li.pure ⟨qx hj,rfl⟩
 |false=>
  simp only[jv];refine Ev.to (qf h hj [58]) ?_;cases h2:Z.S.sym [58] j with
  |true=>
   simp only[ju];refine RP.step (hex _ (qx hj)) fun t k _ hk=> ?_
   refine RU.step (tK h hk [41]) fun q _ hq=> ?_
   exact Ev.to (Q2 h hq) (li.pure ⟨hq,rfl⟩)
  |false=>
   simp only[jv];refine Ev.to (DI hj [44]) ?_;refine li.bind (CH h hj _) fun r hr=> ?_
   cases h3:Z.S.sym [44] j with
   |true=>
    rw[h3] at hr;obtain⟨_,rfl⟩:=hr;exact li.AN (F:=fun n q=>si (jJ n) n q (Z.st j d) (.mk 0 [] 0 [] [] [] (Z.S.F o) 0) [x]) (axj h hex _ x 199 [] j hj rfl)
   |false=>
    rw[h3] at hr;obtain⟨p,rfl⟩:=hr;exact li.pure ⟨_,rfl⟩
def apk(Z:Cx):Prop:= ∀l:List Syntax,l≠[]->l.length<=200->Ev (fun n=>sZ n Z.tb l) (Z.np l)/\0<=(Z.np l).2.1
theorem aj8 (h:qU Z) (hn:apk Z) (hi:i<Z.T.length) (l:List Syntax) (hl:l.length<=200):
 li (fun n=>(lA n (decide (0<(l.length:Int))) (Z.st i d)).bind fun x=>BQ x (fun x=>
  bif (l.length:Int)==1 then(tu l 0).bind fun x_1=>bif x_1.kind !=17 then(tu l 0).bind fun x_2=>some (PR.ok (((x.fst.fst.fst,()),()),x_2,()))
   else(sZ n x.fst.fst.fst.table l).bind fun x_2=>bif x_2.snd.snd !=0 then bif decide (x_2.snd.fst<(l.length:Int)) then(tu l x_2.snd.fst).bind fun x_3=>some (PR.pn (((x.fst.fst.fst,()),()),{e:=x_2.snd.snd,at_:=x_3.from_},()))
    else bif x_2.snd.snd !=0 then(lK n x_2.snd.snd x.fst.fst.fst).bind fun x=>BQ x (fun x=>some (PR.ok (((x.fst.fst.fst,()),()),x_2.fst,()))) fun y=>some (PR.pn (((y.fst.fst.fst,()),()),y.snd.fst,()))
    else some (PR.ok (((x.fst.fst.fst,()),()),x_2.fst,()))
    else bif x_2.snd.snd !=0 then(lK n x_2.snd.snd x.fst.fst.fst).bind fun x=>BQ x (fun x=>some (PR.ok (((x.fst.fst.fst,()),()),x_2.fst,()))) fun y=>some (PR.pn (((y.fst.fst.fst,()),()),y.snd.fst,()))
    else some (PR.ok (((x.fst.fst.fst,()),()),x_2.fst,()))
  else (sZ n x.fst.fst.fst.table l).bind fun x_1=>bif x_1.snd.snd !=0 then bif decide (x_1.snd.fst<(l.length:Int)) then (tu l x_1.snd.fst).bind fun x_2=>some (PR.pn (((x.fst.fst.fst,()),()),{e:=x_1.snd.snd,at_:=x_2.from_},()))
        else bif x_1.snd.snd !=0 then(lK n x_1.snd.snd x.fst.fst.fst).bind fun x=>BQ x (fun x=>some (PR.ok (((x.fst.fst.fst,()),()),x_1.fst,()))) fun y=>some (PR.pn (((y.fst.fst.fst,()),()),y.snd.fst,()))
        else some (PR.ok (((x.fst.fst.fst,()),()),x_1.fst,()))
   else bif x_1.snd.snd !=0 then(lK n x_1.snd.snd x.fst.fst.fst).bind fun x=>BQ x (fun x=>some (PR.ok (((x.fst.fst.fst,()),()),x_1.fst,()))) fun y=>some (PR.pn (((y.fst.fst.fst,()),()),y.snd.fst,()))
   else some (PR.ok (((x.fst.fst.fst,()),()),x_1.fst,()))) fun y=>some (PR.pn (((y.fst.fst.fst,()),()),y.snd.fst,()))) (RP Z d (Z.S.SA l i)):=by
 match l,hl with
 |[],_=>exact li.bind (CH h hi _) fun r hr=>by obtain⟨p,rfl⟩:=hr;exact li.pure ⟨_,rfl⟩
 |x::r,hl=>
  obtain⟨PJ,hpos⟩:=hn (x::r) (by simp) hl;have e0:decide (0<((x::r).length:Int))=true:=jw (by rw[ii];omega);rw[e0];refine li.bind (CH h hi true) fun r' hr=> ?_
  obtain⟨_,rfl⟩:=hr;simp only[BQ];unfold Src.SA
  have np:li (fun n=>(sZ n (Z.st i d).table (x::r)).bind fun x_1=>bif x_1.snd.snd !=0 then bif decide (x_1.snd.fst<((x::r).length:Int)) then(tu (x::r) x_1.snd.fst).bind fun x_2=>some (PR.pn (((Z.st i d,()),()),{e:=x_1.snd.snd,at_:=x_2.from_},()))
         else bif x_1.snd.snd !=0 then(lK n x_1.snd.snd (Z.st i d)).bind fun x=>BQ x (fun x=>some (PR.ok (((x.fst.fst.fst,()),()),x_1.fst,()))) fun y=>some (PR.pn (((y.fst.fst.fst,()),()),y.snd.fst,()))
         else some (PR.ok (((Z.st i d,()),()),x_1.fst,()))
        else bif x_1.snd.snd !=0 then(lK n x_1.snd.snd (Z.st i d)).bind fun x=>BQ x (fun x=>some (PR.ok (((x.fst.fst.fst,()),()),x_1.fst,()))) fun y=>some (PR.pn (((y.fst.fst.fst,()),()),y.snd.fst,()))
        else some (PR.ok (((Z.st i d,()),()),x_1.fst,()))) (RP Z d (bif (Z.S.np (x::r)).2.2==0 then .ok (Z.S.np (x::r)).1 i else match (x::r)[(Z.S.np (x::r)).2.1.toNat]? with|some y=> .er (Z.S.np (x::r)).2.2 y.from_|none=> .er (Z.S.np (x::r)).2.2 (Z.S.F i))):=by
   refine Ev.to PJ ?_;show li _ (RP Z d (bif (Z.np (x::r)).2.2==0 then .ok (Z.np (x::r)).1 i else match (x::r)[(Z.np (x::r)).2.1.toNat]? with|some y=> .er (Z.np (x::r)).2.2 y.from_|none=> .er (Z.np (x::r)).2.2 (Z.S.F i)));revert hpos;generalize Z.np (x::r)=p;intro hpos;obtain⟨y,at_,e⟩:=p;simp only at hpos ⊢;obtain⟨k,rfl⟩: ∃k:Nat,at_=(k:Int):=⟨at_.toNat,by omega⟩;cases he:e==0 with
   |true=>
    simp only[bne,he,iL,jv,ju];exact li.pure ⟨hi,rfl⟩
   |false=>
    simp only[bne,he,iG,jv,ju,iF];by_cases hk:k<(x::r).length
    ·rw[jw (show(k:Int)<((x::r).length:Int) by omega),n8 hk,iT hk];exact li.pure ⟨_,rfl⟩
    ·rw[jx (show ¬ (k:Int)<((x::r).length:Int) by omega),List.getElem?_eq_none (by omega)];exact Ev.to (LF h hi e) (li.pure ⟨_,rfl⟩)
  cases r with
  |cons y r=>
   have e1:(((x::y::r).length:Int)==1)=false:=by grind
   rw[e1];exact np
  |nil=>
   have e1:((([x]:List Syntax).length:Int)==1)=true:=rfl;have e2:tu [x] 0=some x:=rfl;rw[e1,e2];simp only[ju,ic,List.isEmpty_nil,iM,bne];cases x.kind==17 with
   |true=>exact np
   |false=>exact li.pure ⟨hi,rfl⟩
theorem amH(h:qU Z)(hc: ∀s,Ev (fun n=>mj n Z.sy s) (Z.sy.contains s))(hn:apk Z)(ha:Nx Z d nq (Z.S.item ex ta)): ∀(m:Nat)(out:List Syntax)(i:Nat),i<Z.T.length->m+out.length=200->
 kW (fun n q=>tf (jJ n) n q (Z.st i d) out) (RP Z d ((Z.S.tU ex ta m out i).bind Z.S.SA)):=by
 intro m;induction m with
 |zero=>
  intro out i hi hm;have rm:kW (fun n (_:Nat)=>(kO n (out.length:Int) (Z.st i d))) (· = .pn (((Z.st i d,()),()),{e:=7,at_:=Z.S.F i},())):=kW.Xi (Ev.tot (xE h hi (by omega)) rfl);refine kW.lp (fun n m=>by simp only[Hq,vk,jY,pu];exact rfl) ?_;refine Ev.BR (adw hc hi) ?_;unfold Src.tU;cases hs:Z.S.BN i with
  |true=>exact Ev.BR (xE h hi (k:=(out.length:Int)) (by omega)) (kW.pure ⟨_,rfl⟩)
  |false=>
   simp only[jv,iK];refine Ev.BR (VP hi) ?_;cases hb:Z.S.vN i with
   |true=>exact Ev.BR (xE h hi (k:=(out.length:Int)) (by omega)) (kW.pure ⟨_,rfl⟩)
   |false=>exact kW.Xi (aj8 h hn hi out (by omega))
 |succ m ih=>
  intro out i hi hm
  have go:kW (fun n q=>(kO n (out.length:Int) (Z.st i d)).bind fun x=>BQ x (fun x=>(nq n x.fst.fst.fst).bind fun x=>BQ x (fun x=>bif decide ((out.length+1)*120<=17592186044416) then tf (jJ n) n q x.fst.fst.fst (out++[x.snd.fst]) else none)
   fun y=>some (PR.pn (((y.fst.fst.fst,()),()),y.snd.fst,()))) fun y=>some (PR.pn (((y.fst.fst.fst,()),()),y.snd.fst,()))) (RP Z d (((Z.S.item ex ta i).bind fun x j=>Z.S.tU ex ta m (out++[x]) j).bind Z.S.SA)):=by
   refine Ev.BR (yF hi (k:=(out.length:Int)) (by omega)) ?_;rw[Rs.bind_assoc];refine RP.step2 (ha i hi) fun x j _ hj=> ?_
   grind
  refine kW.lp (fun n m=>by simp only[Hq,vk,jY,pu];exact rfl) ?_;refine Ev.BR (adw hc hi) ?_;unfold Src.tU;cases hs:Z.S.BN i with
  |true=>exact go
  |false=>
   simp only[jv,iK];refine Ev.BR (VP hi) ?_;cases hb:Z.S.vN i with
   |true=>exact go
   |false=>exact kW.Xi (aj8 h hn hi out (by omega))
theorem axk(h:qU Z)(hc: ∀s,Ev (fun n=>mj n Z.sy s) (Z.sy.contains s))(hn:apk Z)(ha:Nx Z d nq (Z.S.item ex ta)):Nx Z d oZ (Z.S.op ex ta):=by
 intro i hi;refine li.fn (fun n=>by simp only[XK,AJ,jY,pu];exact rfl) ?_;exact li.AN (F:=fun n q=>tf (jJ n) n q (Z.st i d) []) (amH h hc hn ha 200 [] i hi rfl)
end
section
variable {Z:Cx}
variable {ex ta:Nat->Rs Syntax} {d:Int}
def azf(S:Src)(ex:Nat->Rs Syntax)(sh:Str)(l:List Str)(i:Nat):Rs (List jO):=(S.take [58] i).bind fun _ i=>(ex i).bind fun t i=>(S.take sh i).bind fun _ i=> .ok (Src.typed l t) i
theorem Rg.fin(h:Rg x):arB x:=by
 induction h with
 |mk h1 h2 h3 h4 h5 h6 h7 h8 ih=>exact .mk h1 h2 h3 h4 ih
theorem ab0(h:qU Z)(hx:HY Z.S ex)(hex:Nx Z d kg ex)(sh:Str){l:List Str}(hl:l.length<=200)(hi:i<Z.T.length):
 li (fun n=>(lB n [58] (Z.st i d)).bind fun x=>BQ x (fun x=>(kg n x.fst.fst.fst).bind fun x=>BQ x (fun x=>(lB n sh x.fst.fst.fst).bind fun x_1=>BQ x_1 (fun x_2=>(CY n l x.snd.fst).bind fun x=>some (PR.ok (((x_2.fst.fst.fst,()),()),x,())))
    fun y=>some (PR.pn (((y.fst.fst.fst,()),()),y.snd.fst,()))) fun y=>some (PR.pn (((y.fst.fst.fst,()),()),y.snd.fst,()))) fun y=>some (PR.pn (((y.fst.fst.fst,()),()),y.snd.fst,()))) (RP Z d (azf Z.S ex sh l i)):=by
 refine RU.step (tK h hi [58]) fun j _ hj=> ?_
 refine RP.step (hex j hj) fun t k hq hk=> ?_
 have ht:=hx j hj;rw[hq] at ht;refine RU.step (tK h hk sh) fun q _ hq=> ?_
 exact Ev.to (ajO l (by omega) ht.2.2.1.fin) (li.pure ⟨hq,rfl⟩)
theorem auY(h:qU Z)(hx:HY Z.S ex)(hex:Nx Z d kg ex){op:Str}(ho:(op==[91])=false)(sh:Str): ∀(m:Nat)(out:List Str)(i:Nat),i<Z.T.length->m+out.length=200->
 kW (fun n q=>uW (jJ n) n q op sh (Z.st i d) out) (RP Z d ((Z.S.Dn m out i).bind fun l i=>azf Z.S ex sh l i)):=by
 intro m;induction m with
 |zero=>
  intro out i hi hm;refine kW.lp (fun n m=>by simp only[Dk,rW,jY];exact rfl) ?_;simp only[ho,jv];refine Ev.BR (LG h hi) ?_;unfold Src.Dn;cases hs:Z.S.isVar i with
  |true=>exact Ev.BR (xE h hi (k:=(out.length:Int)) (by omega)) (kW.pure ⟨_,rfl⟩)
  |false=>exact kW.Xi (ab0 h hx hex sh (by omega) hi)
 |succ m ih=>
  intro out i hi hm;refine kW.lp (fun n m=>by simp only[Dk,rW,jY];exact rfl) ?_;simp only[ho,jv];refine Ev.BR (LG h hi) ?_;unfold Src.Dn;cases hs:Z.S.isVar i with
  |true=>
   simp only[ju];refine Ev.BR (yF hi (k:=(out.length:Int)) (by omega)) ?_;refine Ev.BR (ug h hi) ?_
   grind [qx]
  |false=>exact kW.Xi (ab0 h hx hex sh (by omega) hi)
theorem adN(h:qU Z)(hx:HY Z.S ex)(hex:Nx Z d kg ex)(op sh:Str)(hi:i<Z.T.length):li (fun n=>mw n op sh (Z.st i d)) (RP Z d (Z.S.binder ex op sh i)):=by
 refine li.fn (fun n=>by simp only[QW,vK,jY];exact rfl) ?_;unfold Src.binder;refine RU.step (tK h hi op) fun j _ hj=> ?_
 cases ho:op==[91] with
 |true=>
  simp only[ju];rw[Rs.bind_assoc];refine RP.step (VO h hj) fun s k _ hk=> ?_
  refine li.AN (F:=fun n q=>rX (jJ n) n q op sh [s] (Z.st k d)) ?_;refine kW.lp (fun n m=>by simp only[rX,ue,jY];exact rfl) ?_;simp only[ho,ju];exact kW.Xi (ab0 h hx hex sh (show [s].length<=200 by simp) hk)
 |false=>
  simp only[jv];unfold Src.vars;rw[Rs.bind_assoc];refine RP.step (VO h hj) fun s k _ hk=> ?_
  refine li.AN (F:=fun n q=>rX (jJ n) n q op sh [s] (Z.st k d)) ?_;refine kW.lp (fun n m=>by simp only[rX,ue,jY];exact rfl) ?_;simp only[ho,jv];refine Ev.BR (LG h hk) ?_;unfold Src.Dn;cases hs:Z.S.isVar k with
  |true=>
   simp only[ju];refine Ev.BR (yF hk (k:=1) (by omega)) ?_;refine Ev.BR (ug h hk) ?_;exact auY h hx hex ho sh 198 _ _ (qx hk) rfl
  |false=>exact kW.Xi (ab0 h hx hex sh (show [s].length<=200 by simp) hk)
theorem aj9(h:qU Z)(hex:Nx Z d kg ex)(k n:Int)(o:Nat){l:List jO}(hl:l.length<=1000000)(sep:Str)(hi:i<Z.T.length):
 li (fun f=>nj f (.mk k [] n [] [] [] (Z.S.F o) 0) l sep (Z.st i d)) (RP Z d (Z.S.product ex k n o l sep i)):=by
 refine li.fn (fun n=>by simp only[Pj,u0,jY,pu];exact rfl) ?_;unfold Src.product;refine RU.step (tK h hi sep) fun j _ hj=> ?_
 refine RP.step (hex j hj) fun x q _ hq=> ?_
 exact Ev.to (ag8 _ l hl x) (li.pure ⟨hq,rfl⟩)
def axl(S:Src)(ex:Nat->Rs Syntax)(f:Int)(l:List jO)(j:Nat):Rs Syntax:=(S.take [61,62] j).bind fun _ j=>(ex j).bind fun x k=> .ok (Src.Ku 3 0 l x f) k
theorem aka(h:qU Z)(hex:Nx Z d kg ex)(f:Int){l:List jO}(hl:l.length<=1000000)(hi:i<Z.T.length):
 li (fun n=>(lB n [61,62] (Z.st i d)).bind fun x=>BQ x (fun x=>(kg n x.fst.fst.fst).bind fun x=>BQ x (fun x=>(zX n (Syntax.mk 3 [] 0 [] [] [] f 0) l x.snd.fst).bind fun x_1=>some (PR.ok (((x.fst.fst.fst,()),()),x_1,())))
    fun y=>some (PR.pn (((y.fst.fst.fst,()),()),y.snd.fst,()))) fun y=>some (PR.pn (((y.fst.fst.fst,()),()),y.snd.fst,()))) (RP Z d (axl Z.S ex f l i)):=by
 refine RU.step (tK h hi _) fun j _ hj=> ?_
 refine RP.step (hex j hj) fun x q _ hq=> ?_
 exact Ev.to (ag8 _ l hl x) (li.pure ⟨hq,rfl⟩)
theorem arZ (h:qU Z) (k:XL Z.S) (p:Pos Z.S) (hx:HY Z.S ex) (hex:Nx Z d kg ex) (f:Int): ∀ (m:Nat) (out:List jO) (i:Nat),i<Z.T.length->m<=200->(out=[]↔m=200)->out.length<=200*(200-m)->
 kW (fun n q=>qq (jJ n) n q f ((200-m:Nat):Int) (Z.st i d) out) (RP Z d ((Z.S.L8 ex m out i).bind (axl Z.S ex f))):=by
 intro m;induction m with
 |zero=>
  intro out i hi _ ho hl;refine kW.lp (fun n m=>by simp only[GC,ux,jY,pu];exact rfl) ?_;rw[show(((200-0:Nat):Int)==0)=false by decide];simp only[jv];refine Ev.BR (DI hi [61,62]) ?_;unfold Src.L8;cases hs:Z.S.sym [61,62] i with
  |true=>exact kW.Xi (aka h hex f (by omega) hi)
  |false=>exact Ev.BR (xE h hi (k:=((200-0:Nat):Int)) (by decide)) (kW.pure ⟨_,rfl⟩)
 |succ m ih=>
  intro out i hi hm ho hl
  have go:kW (fun n q=>(kO n ((200-(m+1):Nat):Int) (Z.st i d)).bind fun x=>BQ x (fun x=>(lY n x.fst.fst.fst [40]).bind fun x_1=>bif x_1 then
        (mw n [40] [41] x.fst.fst.fst).bind fun x=>BQ x (fun x=>bif decide ((out.length+x.snd.fst.length)*136<=17592186044416) then qq (jJ n) n q f (IntKind.i64.wrap (((200-(m+1):Nat):Int)+1)) x.fst.fst.fst (out++x.snd.fst) else none) fun y=>some (PR.pn (((y.fst.fst.fst,()),()),y.snd.fst,()))
   else(nF n x.fst.fst.fst).bind fun x=>BQ x (fun x=>(tR n x.fst.fst.fst).bind fun x_2=>bif decide ((out.length+1)*136<=17592186044416) then qq (jJ n) n q f (IntKind.i64.wrap (((200-(m+1):Nat):Int)+1)) x_2.fst.fst (out++[{name:=x.snd.fst,t:=x_2.snd.fst}]) else none)
    fun y=>some (PR.pn (((y.fst.fst.fst,()),()),y.snd.fst,()))) fun y=>some (PR.pn (((y.fst.fst.fst,()),()),y.snd.fst,())))
   (RP Z d ((bif Z.S.sym [40] i then(Z.S.binder ex [40] [41] i).bind fun l j=>Z.S.L8 ex m (out++l) j else(Z.S.var i).bind fun s j=>Z.S.L8 ex m (out++[{name:=s,t:=Z.S.hole j}]) j).bind (axl Z.S ex f))):=by
   refine Ev.BR (yF hi (k:=((200-(m+1):Nat):Int)) (by omega)) ?_;refine Ev.BR (DI hi [40]) ?_;rw[show IntKind.i64.wrap (((200-(m+1):Nat):Int)+1)=((200-m:Nat):Int) by grind [wrap_small]];cases hs:Z.S.sym [40] i with
   |true=>
    simp only[ju];rw[Rs.bind_assoc];refine RP.step2 (adN h hx hex [40] [41] hi) fun l j hq hj=> ?_
    have hb:=k.binder p hx (op:=[40]) (sh:=[41]) (i:=i) hi;rw[hq] at hb;obtain⟨b1,b2,_⟩:=hb;simp only[jw (show(out.length+l.length)*136<=17592186044416 by omega),ju];refine ih _ _ hj (by omega) ⟨fun e=> ?_,fun e=>by omega⟩ (by rw[iN];omega)
    simp_all
   |false=>
    simp only[jv];rw[Rs.bind_assoc];refine RP.step2 (VO h hi) fun s j hq hj=> ?_
    refine Ev.BR (arA h hj) ?_;simp only[jw (show(out.length+1)*136<=17592186044416 by omega),ju];exact ih _ _ hj (by omega) ⟨fun e=>by simp at e,fun e=>by omega⟩ (by grind)
  refine kW.lp (fun n m=>by simp only[GC,ux,jY,pu];exact rfl) ?_;unfold Src.L8;by_cases h0:m+1=200
  ·grind
  ·have e1:(((200-(m+1):Nat):Int)==0)=false:=by rw[jC];omega
   have e2:out.isEmpty=false:=by
    grind
   rw[e1,e2];simp only[jv,iG,Bool.and_true];refine Ev.BR (DI hi [61,62]) ?_;cases hs:Z.S.sym [61,62] i with
   |true=>exact kW.Xi (aka h hex f (by omega) hi)
   |false=>exact go
theorem auZ(h:qU Z)(k:XL Z.S)(p:Pos Z.S)(hx:HY Z.S ex)(hex:Nx Z d kg ex)(hi:i<Z.T.length):li (fun n=>p4 n (Z.S.F i) (Z.st i d)) (RP Z d (Z.S.abJ ex i)):=by
 refine li.fn (fun n=>by simp only[Wr,yA,jY,pu];exact rfl) ?_;refine Ev.to (ug h hi) ?_;exact li.AN (F:=fun n q=>qq (jJ n) n q (Z.S.F i) 0 (Z.st (Z.S.nx i) d) []) (arZ h k p hx hex (Z.S.F i) 200 [] _ (qx hi) (ir _) ⟨fun _=>rfl,fun _=>rfl⟩ (iC _))
theorem au0(h:qU Z)(hex:Nx Z d kg ex)(hi:i<Z.T.length):li (fun n=>p5 n (Z.S.F i) (Z.st i d)) (RP Z d (Z.S.aai ex i)):=by
 refine li.fn (fun n=>by simp only[Ws,yC,jY,pu];exact rfl) ?_;unfold Src.aai;refine Ev.to (ug h hi) ?_;refine RP.step (VO h (qx hi)) fun s j _ hj=> ?_
 refine Ev.to (arA h hj) ?_;refine Ev.to (qf h hj [58]) ?_;cases hs:Z.S.sym [58] j with
 |true=>
  simp only[ju];refine RP.step (hex _ (qx hj)) fun t k _ hk=> ?_
  refine RU.step (tK h hk _) fun a _ ha=> ?_
  refine RP.step (hex _ ha) fun v b _ hb=> ?_
  refine RU.step (tK h hb _) fun c _ hc=> ?_
  exact RP.step (hex _ hc) fun y r _ hr=>li.pure ⟨hr,rfl⟩
 |false=>
  simp only[jv,Rs.ag6];refine RU.step (tK h hj _) fun a _ ha=> ?_
  refine RP.step (hex _ ha) fun v b _ hb=> ?_
  refine RU.step (tK h hb _) fun c _ hc=> ?_
  exact RP.step (hex _ hc) fun y r _ hr=>li.pure ⟨hr,rfl⟩
end
section
variable {Z:Cx}
variable {ex ta:Nat->Rs Syntax} {d:Int}
theorem ar0{S:Src}: ∀(f:Nat)(out:List Str)(i:Nat),(S.wr f out i).length<=out.length+f
 |0,out,i=>iC _
 |f+1,out,i=>by
  unfold Src.wr;cases S.sym [58] i with
  |true=>exact Nat.le_add_right _ _
  |false=>
   cases S.isVar i with
   |false=>exact iC _
   |true=>
    have:=ar0 (S:=S) f (out++[(S.K i).2]) (i+1)
    grind
theorem akb{S:Src}(i:Nat):(S.written i).length<=S.len:=by
 grind [Src.written,ar0]
theorem apl(h:qU Z)(k:XL Z.S)(p:Pos Z.S)(q:adv Z.S)(hx:HY Z.S ex)(ht:HY Z.S ta)(hex:Nx Z d kg ex)(ho:Nx Z d oZ (Z.S.op ex ta))(hi:i<Z.T.length):
 li (fun n=>oS n (Z.S.F i) (Z.st i d)) (RP Z d (Z.S.z7 ex ta i)):=by
 have hlen:=h.len;refine li.fn (fun n=>by simp only[Ss,wH,jY,pu];exact rfl) ?_;unfold Src.z7;refine RP.step (ho i hi) fun x j hq hj=> ?_
 have hall:=k.op p q hlen hx ht i hi;rw[hq] at hall;obtain⟨_,_,hr,_,_⟩:=hall;refine Ev.to (qf h hj [45,62]) ?_;cases hs:Z.S.sym [45,62] j with
 |false=>exact li.pure ⟨hj,rfl⟩
 |true=>
  simp only[ju];have hj':=qx (Z:=Z) hj;refine Ev.to (amr h hi hj') ?_
  have fin: ∀l:List jO,l.length<=1000000->li (fun n=>(kg n (Z.st (Z.S.nx j) d)).bind fun x_3=>BQ x_3 (fun x_4=>(zX n (Syntax.mk 4 [] 0 [] [] [] x.from_ 0) l x_4.snd.fst).bind fun x=>some (PR.ok (((x_4.fst.fst.fst,()),()),x,()))) fun y=>some (PR.pn (((y.fst.fst.fst,()),()),y.snd.fst,())))
   (RP Z d ((ex (Z.S.nx j)).bind fun b k=> .ok (Src.Ku 4 0 l b x.from_) k)):=fun l hl=>
   RP.step (hex _ hj') fun b q _ hq=>Ev.to (ag8 _ l hl b) (li.pure ⟨hq,rfl⟩)
  have hw:=akb (S:=Z.S) i;have hwl:Z.S.len=Z.T.length:=rfl
  have e0:decide (0<((Z.S.written i).length:Int))= !(Z.S.written i).isEmpty:=by
   cases Z.S.written i with
   |nil=>rfl
   |cons a b=>grind
  cases h13:x.kind==13 with
  |false=>simp_all
  |true=>
   cases hf:x.from_==Z.S.F i with
   |false=>simp_all
   |true=>
    simp only[ju,iM,e0];cases hn:(Z.S.written i).isEmpty with
    |true=>simp_all
    |false=>
     have h2:=hr.avI (jB.1 h13);have hl1:1<x.kids.length:=by omega
     have e1:tu x.kids 1=some x.kids[1]:=n8 (i:=1) hl1;have e2:x.kids.getD 1 Pl=x.kids[1]:=by grind
     simp only[iG,ju,e1,ic,e2];refine Ev.to (ajO _ (by omega) (hr.kids _ (ik hl1)).1.fin) ?_;exact fin _ (by rw[aak];omega)
theorem amI(p:jG):Ev (fun n=>mD n p) (((),({q7:=p.q7,table:=p.table,ww:=p.ww,depth:=IntKind.i64.wrap (p.depth-1)},()),()),()):=by
 refine Ev.fn (fun n=>by simp only[mD,kq,wQ,mB];exact rfl) ?_;exact Ev.pure
theorem anH(hd:0<=d/\d<200){r:Rs Syntax}{F:Nat->Option (PR (((jG×Unit)×Unit)×(Syntax×Unit)) (((jG×Unit)×Unit)×(jT×Unit)))}(hF:li F (RP Z (d+1) r)):
 li (fun n=>(F n).bind fun x=>BQ x (fun x=>(mD n x.fst.fst.fst).bind fun x_3=>some (PR.ok (((x_3.fst.snd.fst.fst,()),()),x.snd.fst,()))) fun y=>(mD n y.fst.fst.fst).bind fun x=>some (PR.pn (((x.fst.snd.fst.fst,()),()),y.snd.fst,()))) (RP Z d r):=by
 refine li.bind hF fun x hx=> ?_
 cases r with
 |ok v j=>
  obtain⟨hj,rfl⟩:=hx;refine Ev.to (amI _) ?_;rw[stU hd];exact li.pure ⟨hj,rfl⟩
 |er e a=>
  obtain⟨p,rfl⟩:=hx;exact Ev.to (amI _) (li.pure ⟨_,rfl⟩)
theorem ar1(h:qU Z)(k:XL Z.S)(p:Pos Z.S)(q:adv Z.S)(hd:0<=d/\d<200)(hx:HY Z.S ex)(ht:HY Z.S ta)(hex:Nx Z (d+1) kg ex)(ho:Nx Z (d+1) oZ (Z.S.op ex ta)):Nx Z d kg (Z.S.Fx ex ta):=by
 intro i hi;refine li.fn (fun n=>by simp only[Jk,uw,jY,pu];exact rfl) ?_;refine Ev.to (yF hi (k:=d) hd.2) ?_;simp only[BQ,stD hd];refine Ev.to (VN h hi) ?_;refine Ev.to (Ze hi 3 [102,117,110]) ?_;unfold Src.Fx Src.key
 have prod: ∀(o:Nat)(a b s:Str)(kd n:Int),o<Z.T.length->li (fun f=>(mw f a b (Z.st o (d+1))).bind fun x=>BQ x (fun x=>(nj f (Syntax.mk kd [] n [] [] [] (Z.S.F i) 0) x.snd.fst s x.fst.fst.fst).bind fun x=>BQ x (fun x=>(mD f x.fst.fst.fst).bind fun x_5=>some (PR.ok (((x_5.fst.snd.fst.fst,()),()),x.snd.fst,())))
       fun y=>(mD f y.fst.fst.fst).bind fun x=>some (PR.pn (((x.fst.snd.fst.fst,()),()),y.snd.fst,()))) fun y=>(mD f y.fst.fst.fst).bind fun x=>some (PR.pn (((x.fst.snd.fst.fst,()),()),y.snd.fst,()))) (RP Z d ((Z.S.binder ex a b o).bind fun l j=>Z.S.product ex kd n i l s j)):=by
  intro o a b s kd n hlt;refine RP.step (adN h hx hex a b hlt) (fun l j hq hj=> ?_) fun p e a _=>Ev.to (amI _) (li.pure ⟨_,rfl⟩)
  have hb:=k.binder p hx (op:=a) (sh:=b) (i:=o) hlt;rw[hq] at hb;have hl:l.length<=1000000:=by have:=hb.2.1;omega
  simp_all [anH,aj9]
 cases h1:Z.S.is 3 [102,117,110] i with
 |true=>exact anH hd (auZ h k p hx hex hi)
 |false=>
  simp only[jv];refine Ev.to (Ze hi 3 [108,101,116]) ?_;cases h2:Z.S.is 3 [108,101,116] i with
  |true=>exact anH hd (au0 h hex hi)
  |false=>
   simp only[jv];refine Ev.to (Ze hi 3 [83,105,103,109,97]) ?_;cases h3:Z.S.is 3 [83,105,103,109,97] i with
   |true=>exact Ev.to (ug h hi) (prod _ _ _ _ 5 0 (qx hi))
   |false=>
    simp only[jv];refine Ev.to (DI hi [123]) ?_;cases h4:Z.S.sym [123] i with
    |true=>exact prod _ _ _ _ 4 1 hi
    |false=>
     simp only[jv];refine Ev.to (DI hi [91]) ?_;cases h5:Z.S.sym [91] i with
     |true=>exact prod _ _ _ _ 4 2 hi
     |false=>exact anH hd (apl h k p q hx ht hex ho hi)
theorem azg(h:qU Z):Nx Z 200 kg (fun i=>Z.S.deep i):=by
 intro i hi;refine li.fn (fun n=>by simp only[Jk,uw,jY,pu];exact rfl) ?_;exact Ev.to (xE h hi (k:=200) (by omega)) (li.pure ⟨_,rfl⟩)
theorem akc(h:qU Z)(k:XL Z.S)(p:Pos Z.S)(q:adv Z.S)(hc: ∀s,Ev (fun n=>mj n Z.sy s) (Z.sy.contains s))(hn:apk Z): ∀(m:Nat)(d:Int),d+(m:Int)=200->0<=d->Nx Z d kg (Z.S.Bd m)/\Nx Z d kK (Z.S.adr m)
 |0,d,hd,_=>by
  obtain rfl:d=200:=by omega
  exact⟨azg h,ay6 h⟩
 |m+1,d,hd,h0=>by
  obtain⟨h1,h2⟩:=akc h k p q hc hn m (d+1) (by omega) (by omega);have hb:=k.both p q h.len m;have hd:0<=d/\d<200:=⟨h0,by omega⟩;exact⟨ar1 h k p q hd hb.1 hb.2 h1 (axk h hc hn (arH h hc (auI h (arF h (ao6 h k h2 (amG h k h1)))))),amt h hd h1 h2⟩
theorem apm(h:qU Z)(k:XL Z.S)(p:Pos Z.S)(q:adv Z.S)(hc: ∀s,Ev (fun n=>mj n Z.sy s) (Z.sy.contains s))(hn:apk Z):li (fun n=>(kg n (Z.st 0 0)).bind fun x=>BQ x (fun x=>(uu n x.fst.fst.fst).bind fun x_1=>BQ x_1 (fun x_2=>(tO n x.snd.fst 0 0).bind fun x=>some (x.fst.fst.fst,x.fst.snd.fst.fst,x.fst.snd.snd.fst.fst))
 fun y=>(qB n y.snd.fst x.snd.fst 0 0).bind fun x=>some (x.fst.fst.fst,x.fst.snd.fst.fst,x.fst.snd.snd.fst.fst)) fun y=>(qB n y.snd.fst (Syntax.mk 0 [] 0 [] [] [] 0 0) 0 0).bind fun x=>some (x.fst.fst.fst,x.fst.snd.fst.fst,x.fst.snd.snd.fst.fst))
 (· =match Z.S.whole with| .ok x _=>(x,0,0)| .er e a=>(Pl,a,e)):=by
 have qp: ∀(e a:Int)(x:Syntax),Ev (fun n=>(qB n {e:=e,at_:=a} x 0 0).bind fun x=>some (x.fst.fst.fst,x.fst.snd.fst.fst,x.fst.snd.snd.fst.fst)) (Pl,a,e):=by
  intro e a x;refine Ev.bind (x:=(((Pl,()),(a,()),(e,()),()),())) ?_ Ev.pure;refine Ev.fn (fun n=>by simp only[qB,kq,Am,mB];exact rfl) ?_;refine Ev.bind (x:=((),{e:=e,at_:=a},())) ?_ Ev.pure;refine Ev.fn (fun n=>by simp only[Ik,kq,Er,mB];exact rfl) ?_;exact Ev.pure
 have qr: ∀x:Syntax,Ev (fun n=>(tO n x 0 0).bind fun x=>some (x.fst.fst.fst,x.fst.snd.fst.fst,x.fst.snd.snd.fst.fst)) (x,0,0):=by
  intro x;refine Ev.bind (x:=(((x,()),(0,()),(0,()),()),())) ?_ Ev.pure;refine Ev.fn (fun n=>by simp only[tO,kq,ED,mB];exact rfl) ?_;exact Ev.pure
 refine RP.step (Q:=fun s r=>r=match s with| .ok x _=>(x,0,0)| .er e a=>(Pl,a,e)) ((akc h k p q hc hn 200 0 (by omega) (by omega)).1 0 h.pos) (fun x j _ hj=> ?_) (fun p e a _=>Ev.tot (r:=(Pl,a,e)) ?_ rfl)
 rotate_left
 ·exact qp e a _
 refine li.bind (amq h hj) fun r hr=> ?_
 cases hk:(Z.S.K j).1==4 with
 |true=>
  rw[hk] at hr;obtain⟨_,rfl⟩:=hr;exact Ev.tot (qr x) rfl
 |false=>
  rw[hk] at hr;obtain⟨p,rfl⟩:=hr;exact Ev.tot (qp _ _ _) rfl
end
def adO(out:List Str)(s:Str):List Str:=bif s==[]||out.contains s then out else out++[s]
def MQ(out:List Str)(ps:List Str):List Str:=ps.foldl adO out
def mb(out:List Str)(T:List jH):List Str:=T.foldl (fun out n=>MQ out n.parts) out
def N1(T:List jH):Nat:=(T.map fun n=>n.parts.length).sum
theorem VV: ∀(ps:List Str)(out:List Str),(MQ out ps).length<=out.length+ps.length
 |[],out=>ir _
 |s::ps,out=>by
  have h1:=VV ps (adO out s)
  grind [MQ,adO]
theorem azh(xs:List Str)(s:Str)(hl:xs.length<=4000000): ∀f,xs.length+2<=f->VF f xs s=some (xs.contains s):=by
 have key: ∀(f d i:Nat),i+d=xs.length-> ∀k,d<k->Kj f k xs s (i:Int)=some ((xs.drop i).contains s):=by
  intro f d;induction d with
  |zero=>
   intro i hi k hk;obtain⟨k,rfl⟩: ∃k',k=k'+1:=⟨k-1,by omega⟩;simp only[Uh,F6,mB]
   grind
  |succ d ih=>
   intro i hi k hk;obtain⟨k,rfl⟩: ∃k',k=k'+1:=⟨k-1,by omega⟩;have hlt:i<xs.length:=by omega
   simp only[Uh,F6,n8 hlt,ic,mB];rw[jw (show(i:Int)<(xs.length:Int) by omega),ju,ib hlt,iS,kz (by omega)]
   grind
 intro f hf;obtain⟨f,rfl⟩: ∃f',f=f'+1:=⟨f-1,by omega⟩;simp only[VF,Ui,mB];have:=key f xs.length 0 (by omega) f (by omega)
 rwa [iq] at this
theorem au1(f:Nat)(X:List jH->Int->List Str->Option (List Str))(T:List jH)(i:Nat)(hi:i<T.length)(hl:T[i].parts.length<=1048640)(hT:T.length<=1048641)(hf:4000003<=f):
 ∀d j:Nat,∀out:List Str,j+d=T[i].parts.length->out.length+d<=4000000-> ∀k,d<k->zg f X k T (i:Int) (j:Int) out=X T ((i+1:Nat):Int) (MQ out (T[i].parts.drop j)):=by
 intro d;induction d with
 |zero=>
  intro j out hj ho k hk;obtain⟨k,rfl⟩: ∃k',k=k'+1:=⟨k-1,by omega⟩;simp only[K6,zf,n8 hi,ic,mB];rw[jx (show ¬ (j:Int)<(T[i].parts.length:Int) by omega),jv,kz (by omega),ij (by omega)];rfl
 |succ d ih=>
  intro j out hj ho k hk;obtain⟨k,rfl⟩: ∃k',k=k'+1:=⟨k-1,by omega⟩;have hjl:j<T[i].parts.length:=by omega
  simp only[K6,zf,n8 hi,ic,n8 hjl,mB];rw[jw (show(j:Int)<(T[i].parts.length:Int) by omega),ju,kz (by omega),ib hjl];show _=X T _ (MQ (adO out T[i].parts[j]) (T[i].parts.drop (j+1)));unfold adO;cases T[i].parts[j]==[] with
  |true=>rw[ju,Bool.true_or,ju];exact ih (j+1) out (by omega) (by omega) k (by omega)
  |false=>
   rw[jv,iK,azh out _ (by omega) f (by omega),ic];cases out.contains T[i].parts[j] with
   |true=>rw[ju,ju];exact ih (j+1) out (by omega) (by omega) k (by omega)
   |false=>
    rw[jv,jv,jw (show(out.length+1)*16<=17592186044416 by omega),ju];exact ih (j+1) _ (by omega) (by grind) k (by omega)
theorem MR(n:jH)(T:List jH):N1 (n::T)=n.parts.length+N1 T:=by grind [N1]
theorem ar2(T:List jH)(hT:T.length<=cap)(hN: ∀n∈T,Nsm n)(hp:N1 T<=cap):Ev (fun f=>D3 f T) (mb [] T):=by
 simp only[cap] at hT hp;refine Ev.fn (fun n=>by simp only[D3,kq,JG,mB];exact rfl) ?_
 have key: ∀(d i:Nat)(out:List Str),i+d=T.length->out.length+N1 (T.drop i)<=2000000->kC (fun f m=>zi f m T (i:Int) out) (mb out (T.drop i)):=by
  intro d;induction d with
  |zero=>
   intro i out hi ho;refine kC.lp (fun n m=>by simp only[K7,zh];exact rfl) ?_;have:decide ((i:Int)<(T.length:Int))=false:=jx (by omega);simp only[this,jv,ij (show T.length<=i by omega)];exact kC.pure
  |succ d ih=>
   intro i out hi ho;have hlt:i<T.length:=by omega
   have hs:=(hN _ (ik hlt)).len;simp only[cap] at hs;rw[ib hlt,MR] at ho;refine kC.lp (fun n m=>by simp only[K7,zh];exact rfl) ?_;have:decide ((i:Int)<(T.length:Int))=true:=jw (by omega);simp only[this,ju];have hlen:=VV T[i].parts out;obtain⟨N,hN'⟩:=ih (i+1) (MQ out T[i].parts) (by omega) (by omega);refine⟨max N 6000000,fun f m hf hm=> ?_⟩;show zg f (zi f m) f T (i:Int) ((0:Nat):Int) out=_;rw[au1 f _ T i hlt hs (by omega) (by omega) T[i].parts.length 0 out (by omega) (by omega) f (by omega),iq,ib hlt];exact hN' f m (by omega) (by omega)
 have:=key T.length 0 [] (by omega) (by grind)
 grind [Ev.AN]
def Met(m:List (Str×Bool))(out:List Str):Prop:= ∀s,(mz s m).getD false=(s==[]||out.contains s)
theorem Met.ins{m:List (Str×Bool)}(h:Met m out)(hs:(mz s m).getD false=false):Met (w7 s true m) (out++[s]):=by
 intro t;rw[Ia,jg,jl,<-jg,iJ,jb,iV];cases hts:t==s with
 |true=>simp
 |false=>rw[jv,h t,iV]
theorem au2(f:Nat)(X:List jH->Int->Int->List (Str×Bool)->List Str->Option (List Str))(T:List jH)(tl:Int)(i:Nat)(parts:List Str)(hl:parts.length<=1048640)(hi:i<=1048641)(R:Option (List Str)):
 ∀d j:Nat,∀(m:List (Str×Bool))(out:List Str),j+d=parts.length->out.length+d<=4000000->Met m out->(∀m',Met m' (MQ out (parts.drop j))->X T tl ((i+1:Nat):Int) m' (MQ out (parts.drop j))=R)-> ∀k,d<k->
  yn f X k T tl (i:Int) parts (parts.length:Int) (j:Int) m out=R:=by
 intro d;induction d with
 |zero=>
  intro j m out hj ho hm hX k hk;obtain⟨k,rfl⟩: ∃k',k=k'+1:=⟨k-1,by omega⟩;simp only[GV,u9,mB];rw[jx (show ¬ (j:Int)<(parts.length:Int) by omega),jv,kz (by omega)];rw[ij (by omega)] at hX;exact hX m hm
 |succ d ih=>
  intro j m out hj ho hm hX k hk;obtain⟨k,rfl⟩: ∃k',k=k'+1:=⟨k-1,by omega⟩;have hjl:j<parts.length:=by omega
  simp only[GV,u9,n8 hjl,ic,mB];rw[jw (show(j:Int)<(parts.length:Int) by omega),ju,kz (by omega)];rw[ib hjl] at hX;have hX: ∀m',Met m' (MQ (adO out parts[j]) (parts.drop (j+1)))->X T tl ((i+1:Nat):Int) m' (MQ (adO out parts[j]) (parts.drop (j+1)))=R:=hX;unfold adO at hX;rw[hm];cases hq:parts[j]==[]||out.contains parts[j] with
  |true=>
   rw[hq] at hX;rw[ju];exact ih (j+1) m out (by omega) (by omega) hm hX k (by omega)
  |false=>
   rw[hq] at hX;rw[jv,jw (show(out.length+1)*16<=17592186044416 by omega),ju];exact ih (j+1) _ _ (by omega) (by grind) (hm.ins (by rw[hm];exact hq)) hX k (by omega)
theorem ar3(T:List jH)(hT:T.length<=cap)(hN: ∀n∈T,Nsm n)(hp:N1 T<=cap):Ev (fun f=>yP f T) (mb [] T):=by
 simp only[cap] at hT hp;refine Ev.fn (fun n=>by simp only[yP,kq,EE,mB];exact rfl) ?_
 have key: ∀(d i:Nat)(out:List Str),i+d=T.length->out.length+N1 (T.drop i)<=2000000-> ∃N,∀f m,N<=f->N<=m-> ∀mt,Met mt out->yo f m T (T.length:Int) (i:Int) mt out=some (mb out (T.drop i)):=by
  intro d;induction d with
  |zero=>
   intro i out hi ho;refine⟨1,fun f m hf hm mt hmt=> ?_⟩;obtain⟨m,rfl⟩: ∃m',m=m'+1:=⟨m-1,by omega⟩;simp only[GW,va];rw[jx (show ¬ (i:Int)<(T.length:Int) by omega),jv,ij (by omega)];rfl
  |succ d ih=>
   intro i out hi ho;have hlt:i<T.length:=by omega
   have hs:=(hN _ (ik hlt)).len;simp only[cap] at hs;rw[ib hlt,MR] at ho;have hlen:=VV T[i].parts out;obtain⟨N,hN'⟩:=ih (i+1) (MQ out T[i].parts) (by omega) (by omega);refine⟨max (N+1) 6000000,fun f m hf hm mt hmt=> ?_⟩;obtain⟨m,rfl⟩: ∃m',m=m'+1:=⟨m-1,by omega⟩;simp only[GW,va,n8 hlt,ic];rw[jw (show(i:Int)<(T.length:Int) by omega),ju,ib hlt];refine au2 f _ T _ i T[i].parts hs (by omega) _ T[i].parts.length 0 mt out (by omega) (by omega) hmt (fun m' hm'=> ?_) f (by omega);rw[iq] at hm' ⊢;exact hN' f m (by omega) (by omega) m' hm'
 obtain⟨N,hN'⟩:=key T.length 0 [] (by omega) (by grind);rw[iq] at hN';refine⟨N,fun n hn=>hN' n n hn hn _ fun s=> ?_⟩;rw[Ia];cases s==[]<;>rfl
theorem afU: ∀(T:List jH)(out:List Str),(mb out T).length<=out.length+N1 T
 |[],out=>ir _
 |n::T,out=>by
  have h1:=afU T (MQ out n.parts)
  grind [VV,mb,MR]
theorem ar4 {x:Str}(h:x∈adO out s):x∈out\/(x=s/\s≠[]):=by
 grind [adO]
theorem afV: ∀{ps out:List Str}{x:Str},x∈MQ out ps->x∈out\/(x∈ps/\x≠[])
 |[],out,x,h=> .inl h
 |s::ps,out,x,h=>by
  rcases afV (ps:=ps) (out:=adO out s) h with h|⟨h,h2⟩
  all_goals grind [ar4]
theorem aao: ∀{T:List jH}{out:List Str}{x:Str},x∈mb out T->x∈out\/ ∃n∈T,x∈n.parts/\x≠[]
 |[],out,x,h=> .inl h
 |n::T,out,x,h=>by
  rcases aao (T:=T) (out:=MQ out n.parts) h with h|⟨m,hm,h⟩
  all_goals grind [afV]
theorem apn(h:zJ n=0): ∀s∈n.parts,s=[]\/CL s=true:=by
 grind [zJ]
theorem GK{T:List jH}(g:Wx T):(mb [] T).all CL=true:=by
 rw[iY];intro x hx;rcases aao hx with h|⟨n,hn,h1,h2⟩
 ·cases h
 ·exact(apn (g.chk n hn) x h1).resolve_left h2
theorem akd{T:List jH}(g:Wx T):(mb [] T).contains [41]=false:=by
 cases h:(mb [] T).contains [41] with
 |false=>rfl
 |true=>
  have:=iY.1 (GK g) [41] (List.contains_iff_mem.1 h);exact absurd this (by decide)
set_option maxRecDepth 100000
theorem au3(k:Nat):vR (k+300)=some true:=jE
theorem Pz:Ev (fun n=>vR n) true:=by
 refine⟨300,fun n hn=> ?_⟩;obtain⟨k,rfl⟩: ∃k,n=k+300:=⟨n-300,by omega⟩;exact au3 k
theorem apo:Ev (fun n=>(vR n).bind fun x=>some x) true:=Ev.bind Pz Ev.pure
theorem MS{F:Nat->Option Bool}(h:Ev F true): ∃n,F n=some true:=by
 obtain⟨N,hN⟩:=h;exact⟨N,hN N (ir _)⟩
theorem kW.big{R:Type}{F G:Nat->Nat->Option R}{Q:R->Prop}(N:Nat)(h: ∀n m,N<=n->F n m=G n m)(hg:kW G Q):kW F Q:=by
 obtain⟨r,hr,M,hM⟩:=hg;exact⟨r,hr,max N M,fun n m h1 h2=>by grind⟩
structure au4(T:List jH):Prop where
 len:T.length<=8
 small: ∀n∈T,n.parts.length<=8/\n.target.length<=80/\ ∀s∈n.parts,s.length<=20
 tab:aal T=true
theorem axm(n:Nat)(X:List jH->Int->Option Bool)(T:List jH)(i:Nat)(hi:i<T.length)(hl:i<100)(hp:T[i].parts.length<=8): ∀d k p:Nat,k+d=T[i].parts.length->d<p->
 Kp n X p T (i:Int) (k:Int)=bif (T[i].parts.drop k).any (fun s=>decide (20<s.length)) then some false else X T ((i+1:Nat):Int):=by
 intro d;induction d with
 |zero=>
  intro k p hk hp';obtain⟨p,rfl⟩: ∃q,p=q+1:=⟨p-1,by omega⟩;simp only[UV,Gx,n8 hi,ic,mB]
  grind [kz]
 |succ d ih=>
  intro k p hk hp';obtain⟨p,rfl⟩: ∃q,p=q+1:=⟨p-1,by omega⟩;have hkl:k<T[i].parts.length:=by omega
  simp only[UV,Gx,n8 hi,ic,n8 hkl,mB];rw[jw (show(k:Int)<(T[i].parts.length:Int) by omega),ju,kz (by omega),ib hkl,iJ];have e:decide ((20:Int)<(T[i].parts[k].length:Int))=decide (20<T[i].parts[k].length):=decide_eq_decide.2 (by omega);rw[e];cases decide (20<T[i].parts[k].length) with
  |true=>rfl
  |false=>grind
theorem ab1{T:List jH}(hl:T.length<=cap)(h: ∀n∈T,Nsm n):li (fun f=>HV f T) (fun b=>b=true->au4 T):=by
 have Kc:=hl;simp only[cap] at hl
 have fin: ∀i,(i=T.length\/i=10)->(∀j (hj:j<T.length),j<i->T[j].parts.length<=8/\T[j].target.length<=80/\ ∀s∈T[j].parts,s.length<=20)->
  kW (fun f _=>bif decide ((T.length:Int)<=8) then(Je f T).bind fun x=>some x else some false) (fun b=>b=true->au4 T):=by
  intro i hi hs;refine kW.pO (fun h8=> ?_) fun _=>kW.pure fun h=>by cases h
  have h8:=jy h8;refine kW.lH (Ev.tot (Q:=(· =aal T)) (afT Kc h) rfl) fun b hb=>kW.pure fun hb2=> ?_
  subst hb;refine⟨by omega,fun n hn=> ?_,hb2⟩
  grind [List.getElem_of_mem]
 have key: ∀d i:Nat,i+d=10->i<=T.length->(∀j (hj:j<T.length),j<i->T[j].parts.length<=8/\T[j].target.length<=80/\ ∀s∈T[j].parts,s.length<=20)->
  kW (fun f m=>C3 f m T (i:Int)) (fun b=>b=true->au4 T):=by
  intro d;induction d with
  |zero=>
   intro i hi hle hs;refine kW.lp (fun n m=>by simp only[UW,Gy];exact rfl) ?_;have e:decide ((i:Int)<10)=false:=jx (by omega);simp only[e,jv];cases decide ((i:Int)<(T.length:Int)) with
   |true=>exact fin i (.inr (by omega)) hs
   |false=>exact fin i (.inr (by omega)) hs
  |succ d ih=>
   intro i hi hle hs;refine kW.lp (fun n m=>by simp only[UW,Gy];exact rfl) ?_;by_cases hlt:i<T.length
   ·have e1:decide ((i:Int)<(T.length:Int))=true:=jw (by omega);have e2:decide ((i:Int)<10)=true:=jw (by omega);simp only[e1,e2,ju,n8 hlt,ic];refine kW.pO (fun _=>kW.pure fun h=>by cases h) fun h8=>kW.pO (fun _=>kW.pure fun h=>by cases h) fun h80=> ?_
    have h8:=jz h8;have h80:=jz h80;refine kW.big (G:=fun f m=>bif (T[i].parts.drop 0).any (fun s=>decide (20<s.length)) then some false else C3 f m T ((i+1:Nat):Int)) 20 (fun n m hn=>axm n _ T i hlt (by omega) (by omega) T[i].parts.length 0 n (by omega) (by omega)) ?_;refine kW.pO (fun _=>kW.pure fun h=>by cases h) fun h20=>ih (i+1) (by omega) (by omega) fun j hj hji=> ?_
    grind
   ·have e1:decide ((i:Int)<(T.length:Int))=false:=jx (by omega);simp only[e1,jv];exact fin i (.inl (by omega)) hs
 refine li.fn (fun n=>by simp only[HV,kq,UX,mB];exact rfl) ?_;exact li.AN (F:=fun f m=>C3 f m T 0) (key 10 0 rfl (iC _) fun j _ hj=>by omega)
theorem apq(h:Rg x):Ev (fun n=>xd n x) true:=by
 induction h with
 | @mk k s n ns ls ks f t h1 h2 h3 h4 h5 h6 h7 h8 ih=>
   refine Ev.fn (fun n=>by simp only[xd,kq,KX,mB];exact rfl) ?_
   have key: ∀d i:Nat,i+d=ks.length->kC (fun g m=>AW (xd g) g m (i:Int) (.mk k s n ns ls ks f t)) true:=by
    intro d;induction d with
    |zero=>
     intro i hi;refine kC.lp (fun n m=>by simp only[Mw,AU,mB];exact rfl) ?_;have:decide ((i:Int)<(ks.length:Int))=false:=jx (by omega);simp only[Syntax.prj,this,jv,jw h6];exact kC.pure
    |succ d ihd=>
     intro i hi;have hlt:i<ks.length:=by omega
     refine kC.lp (fun n m=>by simp only[Mw,AU,mB];exact rfl) ?_;have:decide ((i:Int)<(ks.length:Int))=true:=jw (by omega);have hm:=ik hlt;have h9:=h8 _ hm;have h10:=(h7 _ hm).le;simp only[Syntax.prj,this,ju,n8 hlt,ic,jx (show ¬ ks[i].from_<f by omega),jx (show ¬ t<ks[i].to by omega),jx (show ¬ ks[i].to<ks[i].from_ by omega),jv];refine kC.lH (ih _ hm) ?_;simp only[ju];rw[kz (by omega)];exact ihd (i+1) (by omega)
   exact Ev.AN (F:=fun g m=>AW (xd g) g m 0 (.mk k s n ns ls ks f t)) (key ks.length 0 (by omega))
theorem ake{f t:Int}(hft:f<=t): ∀(l:List Syntax)(o:Syntax),Rg o->o.from_=f->o.to=t->(∀x∈l,Rg x/\f<=x.from_/\x.to<=t)->Rg (Vk o l f t)
 |[],o,h,_,_,_=>h
 |x::l,o,h,h1,h2,hl=>by
  obtain⟨k1,k2,k3⟩:=hl x (by simp);exact ake hft l (axc o x f t) (.two h k1 (by omega) (by omega) k2 k3) rfl rfl fun y hy=>hl y (by simp [hy])
theorem afW {t:Int}(hft:f<=t)(hl: ∀x∈l,Rg x/\f<=x.from_/\x.to<=t):Rg (JO n l f t):=
 ake hft l _ (.adu (by decide) hft) rfl rfl hl
def CI:Cmd->Out->Prop
 | .parts n ps i ops e r,.ops l e' q=> ∀lo m hi,lo<=m->m<=hi->RW m hi r->(∀x∈ops,Rg x/\lo<=x.from_/\x.to<=m)->(ps=[]->e=m)->(∀x∈l,Rg x/\lo<=x.from_/\x.to<=e')/\lo<=e'/\e'<=hi/\RW e' hi q
 | .first _ r,.val x _ q=> ∀a hi,RW a hi r->Rg x/\a<=x.from_/\x.to<=hi/\RW x.to hi q
 | .level _ r,.val x _ q=> ∀a hi,RW a hi r->Rg x/\a<=x.from_/\x.to<=hi/\RW x.to hi q
 | .loop _ out _ r,.val x _ q=> ∀a hi,Rg out->a<=out.from_->out.to<=hi->RW out.to hi r->Rg x/\a<=x.from_/\x.to<=hi/\RW x.to hi q
 |_,_=>True
theorem GQ.chn{T:List jH}(g:Wx T){c:Cmd}{o:Out}(h:GQ T c o):CI c o:=by
 induction h with
 |Pv=>intro lo m hi h1 h2 h3 h4 h5;grind
 | @hole n ps i ops e r x h q o h1 h2 ih1 ih2=>
   rcases VT h2 with⟨q',rfl⟩|⟨l,e',q',rfl⟩
   ·trivial
   ·intro lo m hi k1 k2 k3 k4 _;obtain⟨a1,a2,a3,a4⟩:=ih1 m hi k3;have:=a1.le;refine ih2 lo x.to hi (by omega) a3 a4 (fun y hy=> ?_) fun _=>rfl
    grind
 | @sym n s ps i ops e y r o hs h1 h2 h3 ih=>
   rcases VT h3 with⟨q',rfl⟩|⟨l,e',q',rfl⟩
   ·trivial
   ·intro lo m hi k1 k2 k3 k4 _;cases k3 with
    |cons a1 a2 a3 a4=>
     have:=a2.le;exact ih lo y.to hi (by omega) a3 a4 (fun z hz=>by grind) fun _=>rfl
 |H8 hx=>
  intro a hi k;cases k with
  |cons a1 a2 a3 a4=>exact⟨a2,a1,a3,a4⟩
 | @first m x r n l e q hx hb h1 ih=>
   intro a hi k;cases k with
   |cons a1 a2 a3 a4=>
    have hle:=a2.le
    obtain⟨c1,c2,c3,c4⟩:=ih x.from_ x.from_ hi (iE _) (by omega) (.cons (iE _) a2 a3 a4) (fun y hy=>by cases hy) fun e=>by
     have:=(g.ok (KB hb).1).pos
     grind
    grind [afW,Xd]
 |stop _=>intro a hi h1 h2 h3 h4;exact⟨h1,h2,h3,h4⟩
 | @go m out has r n l e q o hg h1 h2 ih1 ih2=>
   rcases Kv h2 rfl with⟨q',rfl⟩|⟨x,h,q',rfl⟩
   ·trivial
   ·intro a hi k1 k2 k3 k4;obtain⟨hn,hl,_⟩:=KC hg;have hle:=k1.le;obtain⟨c1,c2,c3,c4⟩:=ih1 out.from_ out.to hi hle k3 k4 (fun y hy=>by grind) fun e=>absurd e (arR g hn hl)
    refine ih2 a hi (afW c2 c1) ?_ ?_ ?_
    all_goals grind [Xd]
 | @level m r x h q o h1 h2 ih1 ih2=>
   rcases Kv h2 rfl with⟨q',rfl⟩|⟨x',h',q',rfl⟩
   ·trivial
   ·intro a hi k;obtain⟨c1,c2,c3,c4⟩:=ih1 a hi k;exact ih2 a hi c1 c2 c3 c4
 |_=>trivial
def PA(j9:List Str)(r:Str):Int×Nat×Int:=
 bif decide (64<Po r) then(0,0,5)
 else bif r.take (Po r)==[95] then(2,Po r,0)
 else bif j9.contains (r.take (Po r)) then(2,Po r,0)
 else bif kws.contains (r.take (Po r)) then(3,Po r,0)
 else(0,Po r,0)
def Wy(j9:List Str)(r:Str):Int×Nat×Int:=bif uA r 0 (oV++j9)==0 then(0,0,4) else(2,uA r 0 (oV++j9),0)
def nH(j9:List Str):Str->Int×Nat×Int
 |[]=>(0,0,4)
 |c::t=>bif yf c then PA j9 (c::t) else bif pq c then Pq (c::t) else bif c==34 then Jp (c::t) else Wy j9 (c::t)
theorem GL{k:Nat}(n:Nat):(s.take (k+n)).drop k=(s.drop k).take n:=by grind [List.drop_take]
theorem GM{r:Str}{n:Nat}(h:n<=r.length):(r.take n).length=n:=by rw[jh];omega
theorem ar5(s:Str)(k:Nat)(hk:k<=s.length)(r2:List (Str×Bool))(j9:List Str)(h2: ∀y,(mz y r2).getD false=j9.contains y):
 afK s k CJ r2 (k+Po (s.drop k))=Ww k (PA j9 (s.drop k)):=by
 unfold afK PA;have hn:=ahb (s.drop k);have hl:((s.drop k).take (Po (s.drop k))).length=Po (s.drop k):=GM hn;have hkw: ∀y,(mz y CJ).getD false=kws.contains y:=fun y=>XM y kws
 rw[GL,hl,h2,hkw];have e:decide ((64:Int)<((Po (s.drop k):Nat):Int))=decide (64<Po (s.drop k)):=decide_eq_decide.2 (by omega);rw[e];cases decide (64<Po (s.drop k))<;>cases (s.drop k).take (Po (s.drop k))==[95]<;>cases j9.contains ((s.drop k).take (Po (s.drop k)))<;>cases kws.contains ((s.drop k).take (Po (s.drop k)))<;>rfl
theorem apr(s:Str)(hs:s.length<LI)(k:Nat)(hk:k<s.length)(j9:List Str)(hl:j9.length<1000)(hy: ∀y∈j9,y.length<LI):
 Ev (fun n=>VI n s (k:Int) j9) (Ww k (nH j9 (s.drop k))):=by
 refine Ev.fn (fun n=>by simp only[VI,kq,UM,mB];exact rfl) ?_;have hs':s.length<4294967281:=hs;simp only[n8 hk,ic];refine Ev.bind (VQ _) ?_;have hd:=drop_cons hk
 have abM:nH j9 (s.drop k)=bif yf s[k] then PA j9 (s.drop k) else bif pq s[k] then Pq (s.drop k) else bif s[k]==34 then Jp (s.drop k) else Wy j9 (s.drop k):=by
  rw[hd];rfl
 rw[abM];cases yf s[k] with
 |true=>
  simp only[ju];have hn:=ahb (s.drop k);rw[ig] at hn;refine Ev.bind (amw s (by simp only[big];omega) k (by omega)) ?_;have e1:decide ((0:Int)<=(k:Int)/\(k:Int)<=((k+Po (s.drop k):Nat):Int)/\((k+Po (s.drop k):Nat):Int)<=(s.length:Int))=true:=jw (by omega);simp only[e1,ju,iF];rw[GL,adx (by omega) (by simp only[big];omega),Nat.add_sub_cancel_left];unfold PA;have e:decide ((64:Int)<((Po (s.drop k):Nat):Int))=decide (64<Po (s.drop k)):=decide_eq_decide.2 (by omega);rw[e];cases decide (64<Po (s.drop k)) with
  |true=>exact Ev.pure
  |false=>
   simp only[jv];cases (s.drop k).take (Po (s.drop k))==[95] with
   |true=>exact Ev.pure
   |false=>
    simp only[jv];refine Ev.bind (aw9 j9 _ (by omega)) ?_;cases j9.contains ((s.drop k).take (Po (s.drop k))) with
    |true=>exact Ev.pure
    |false=>
     simp only[jv];refine Ev.bind (Xb _) ?_;cases kws.contains ((s.drop k).take (Po (s.drop k))) with
     |true=>exact Ev.pure
     |false=>exact Ev.pure
 |false=>
  simp only[jv];refine Ev.bind (Vj _) ?_;cases pq s[k] with
  |true=>
   simp only[ju];exact Ev.AN (F:=fun n m=>C0 n m s (k:Int) (s[k].toNat:Int) (k:Int)) (ahd s (by simp only[big];omega) k j9 hk)
  |false=>
   simp only[jv];rw[show((s[k].toNat:Int)==34)=(s[k]==34) from s8 _ 34 (by decide)];cases s[k]==34 with
   |true=>
    grind [kz,Ev.AN,ahh]
   |false=>
    simp only[jv];refine Ev.bind ajQ ?_;have hfl:oV.length=21:=rfl
    have aAR:Ev (fun n=>(DY n s (k:Int) (oV++j9)).bind fun x=>bif x==0 then some ((0:Int),(k:Int),(4:Int)) else some ((2:Int),IntKind.i64.wrap ((k:Int)+x),(0:Int))) (Ww k (Wy j9 (s.drop k))):=by
     refine Ev.bind (amx s hs k (by omega) (oV++j9) (by grind) ?_) ?_
     ·intro y hy';rcases jc.1 hy' with h|h
      ·have: ∀y∈oV,y.length<4294967281:=by decide
       exact this y h
      ·exact hy y h
     ·have hle:=adB (s.drop k) (oV++j9);rw[ig] at hle;unfold Wy
      have e:(((uA (s.drop k) 0 (oV++j9):Nat):Int)==0)=(uA (s.drop k) 0 (oV++j9)==0):=by
       grind
      rw[e,wrap_small (by omega) (by omega),<-Int.natCast_add];generalize uA (s.drop k) 0 (oV++j9)=q;cases q==0 with
      |true=>exact Ev.pure
      |false=>exact Ev.pure
    grind [jk]
theorem anI{r:Str}(h:(Pq r).2.2=0):(Pq r).2.1=runT pq r:=by
 grind [Pq]
theorem ab2(h:(nH j9 (c::t)).2.2=0):1<=(nH j9 (c::t)).2.1/\(nH j9 (c::t)).2.1<=(c::t).length:=by
 rw[nH] at h ⊢;cases hb:yf c with
 |true=>
  grind [ahb,Q5,vl,qC,L9,PA]
 |false=>
  rw[hb] at h;simp only[jv] at h ⊢;cases hd:pq c with
  |true=>
   grind [C5,qC,anI]
  |false=>
   rw[hd] at h;simp only[jv] at h ⊢;cases hq:c==34 with
   |true=>
    grind [Jp,ii]
   |false=>
    grind [Wy,adB]
def wW(T:Str->Int×Nat×Int):Str->Nat->List j8×Int×Int
 |[],a=>([⟨4,[],(a:Int)⟩],0,0)
 |c::t,a=>
  bif (T (c::t)).2.2==0 then
   let r:=t.drop ((T (c::t)).2.1-1)
   let z:=wW T (r.drop (kQ false r)) (a+(T (c::t)).2.1+kQ false r)
   bif z.2.2==0 then(⟨(T (c::t)).1,(c::t).take (T (c::t)).2.1,(a:Int)⟩::z.1,0,0) else([],z.2.1,z.2.2)
  else([],((a+(T (c::t)).2.1:Nat):Int),(T (c::t)).2.2)
termination_by r=>r.length
decreasing_by grind
def aeR(out:List j8)(z:List j8×Int×Int):List j8×Int×Int:=bif z.2.2==0 then(out++z.1,0,0) else([],z.2.1,z.2.2)
theorem akf(out:List j8)(x:j8)(z:List j8×Int×Int):aeR (out++[x]) z=aeR out (bif z.2.2==0 then(x::z.1,0,0) else([],z.2.1,z.2.2)):=by
 grind [aeR]
theorem afX(T:Str->Int×Nat×Int)(s:Str)(k:Nat)(hk:k<s.length)(h0:(T (s.drop k)).2.2=0)(h1:1<=(T (s.drop k)).2.1)(h2:k+(T (s.drop k)).2.1<=s.length):
 wW T (s.drop k) k=let e:=k+(T (s.drop k)).2.1
  let j:=e+kQ false (s.drop e)
  let z:=wW T (s.drop j) j
  bif z.2.2==0 then(⟨(T (s.drop k)).1,(s.drop k).take (T (s.drop k)).2.1,(k:Int)⟩::z.1,0,0) else([],z.2.1,z.2.2):=by
 have hd:=drop_cons hk
 have e:(s.drop (k+1)).drop ((T (s.drop k)).2.1-1)=s.drop (k+(T (s.drop k)).2.1):=by
  rw[iz];congr 1;omega
 grind [wW,iz]
theorem akg(T:Str->Int×Nat×Int)(s:Str)(k:Nat)(hk:k<s.length)(h0:((T (s.drop k)).2.2==0)=false):wW T (s.drop k) k=([],((k+(T (s.drop k)).2.1:Nat):Int),(T (s.drop k)).2.2):=by
 grind [drop_cons,wW]
theorem akh(T:Str->Int×Nat×Int)(s:Str):wW T (s.drop s.length) s.length=([⟨4,[],(s.length:Int)⟩],0,0):=by
 rw[ji,wW]
def ny(j9:List Str)(s:Str):List j8×Int×Int:=
 bif j9.all CL then
  bif decide (65536<s.length) then([],0,5) else wW (nH j9) (s.drop (kQ false s)) (kQ false s)
 else([],0,1)
theorem aaZ{α:Type}(x s:Str)(v:α): ∀es:List (Str×α),mz x (w7 s v es)=bif x==s then some v else mz x es
 |[]=>by grind [w7,mz]
 |(k,u)::es=>by
  simp only[w7];cases hk:s==k with
  |true=>
   grind [mz]
  |false=>
   simp only[jv,mz,aaZ x s v es]
   grind
def AO(l:List Str)(r:List (Str×Bool)):List (Str×Bool):=l.foldl (fun r y=>w7 y true r) r
theorem Vn(y:Str): ∀(l:List Str)(r:List (Str×Bool)),(mz y (AO l r)).getD false=(l.contains y||(mz y r).getD false)
 |[],r=>rfl
 |x::l,r=>by
  show(mz y (AO l (w7 x true r))).getD false=_;rw[Vn y l,aaZ,iS];cases y==x<;>simp
theorem aps(ahm:j9.all CL=true){r:Str}(hr:r=c::t)(hb:yf c=false): ∀y∈oV++j9,r.take y.length=y->y.length<=8:=by
 intro y hy he;rcases jc.1 hy with h|h
 ·have: ∀y∈oV,y.length<=8:=by decide
  exact this y h
 ·have hs:=iY.1 ahm y h
  match y,hs,he with
  |d::u,hs,he=>
   grind [CL]
theorem apt(s:Str)(hs:s.length<LI)(j9:List Str)(ahm:j9.all CL=true)(r1 r2:List (Str×Bool))(h1: ∀y,(mz y r1).getD false=j9.contains y)(h2: ∀y,(mz y r2).getD false=(oV++j9).contains y):
 ∀(k:Nat)(out:List j8),k<=s.length->out.length<=k->kC (fun n m=>xX n m s CJ r1 r2 s (k:Int) out) (aeR out (wW (nH j9) (s.drop k) k)):=by
 intro k;have hs':s.length<4294967281:=hs;induction h:s.length-k using iw generalizing k with
 |ind d ih=>
  intro out hk hout;have hroom:decide ((out.length+1)*32<=17592186044416)=true:=jw (by omega);refine kC.lp (fun n m=>by simp only[abF,Iu,mB];exact rfl) ?_;by_cases hlt:k<s.length
  ·have e1:decide ((k:Int)<(s.length:Int))=true:=jw (by omega);simp only[e1,ju];refine kC.idx hlt ?_;refine kC.lH (LH _) ?_;have hd:=drop_cons hlt
   have abM:nH j9 (s.drop k)=bif yf s[k] then PA j9 (s.drop k) else bif pq s[k] then Pq (s.drop k) else bif s[k]==34 then Jp (s.drop k) else Wy j9 (s.drop k):=by
    rw[hd];rfl
   have tail: ∀xx,xx=pk (scn s k CJ r1 r2) (Ww k (nH j9 (s.drop k)))->kC (fun n m=>
    bif xx.snd.snd.snd.fst !=0 then some ([],xx.snd.snd.fst,xx.snd.snd.snd.fst)
    else
     bif decide (0<=xx.fst.fst.snd.fst/\xx.fst.fst.snd.fst<=xx.snd.snd.fst/\xx.snd.snd.fst<=(s.length:Int)) then
      bif decide ((out.length+1)*32<=17592186044416) then
       (tT n xx.fst.fst.fst xx.snd.snd.fst xx.fst.snd.fst xx.fst.snd.snd.fst xx.fst.snd.snd.snd.fst).bind fun x_1=>
         xX n m s x_1.fst.snd.fst x_1.fst.snd.snd.fst x_1.fst.snd.snd.snd.fst x_1.fst.fst.fst x_1.fst.fst.snd.fst
          (out++[{kind:=xx.snd.fst,text:=jq xx.fst.fst.snd.fst.toNat (List.take xx.snd.snd.fst.toNat s),at_:=xx.fst.fst.snd.fst}])
      else none
     else none) (aeR out (wW (nH j9) (s.drop k) k)):=by
    intro xx hxx;subst hxx;simp only[pk,scn,Ww];cases h0:(nH j9 (s.drop k)).2.2==0 with
    |false=>
     grind [akg,aeR,kC.pure]
    |true=>
     have hb:((nH j9 (s.drop k)).2.2 !=0)=false:=by rw[bne,h0];rfl
     simp only[hb,jv];have hp:=ab2 (j9:=j9) (c:=s[k]) (t:=s.drop (k+1)) (by rw[<-hd];exact eq_of_beq h0);rw[<-hd,ig] at hp;obtain⟨n,hn⟩: ∃n,(nH j9 (s.drop k)).2.1=n:=⟨_,rfl⟩;rw[hn] at hp;simp only[hn];have e2:decide ((0:Int)<=(k:Int)/\(k:Int)<=((k+n:Nat):Int)/\((k+n:Nat):Int)<=(s.length:Int))=true:=jw (by omega);simp only[e2,hroom,ju,iF];rw[GL];refine kC.lH (ajT s hs CJ r1 r2 (k+n) (by omega)) ?_;have hsk:=wv false (s.drop (k+n));rw[ig] at hsk;rw[afX _ s k hlt (eq_of_beq h0) (by rw[hn];omega) (by rw[hn];omega)];simp only[hn,scn];have:=ih (s.length-(k+n+kQ false (s.drop (k+n)))) (by omega) _ rfl (out++[⟨(nH j9 (s.drop k)).1,(s.drop k).take n,(k:Int)⟩]) (by omega) (by grind)
     grind [akf]
   cases hb:yf s[k] with
   |true=>
    have c0:(zI s[k]==0)=false:=by unfold zI;rw[hb];rfl
    have c1:(zI s[k]==1)=true:=by rw[Pm,hb]
    simp only[c0,c1,jv,ju];have hw:=auL s (by simp only[big];omega) k CJ r1 r2 hk;rw[ar5 s k hk r1 j9 h1] at hw;rw[hb,ju] at abM;rw[<-abM] at hw;exact kC.lH hw (tail _ rfl)
   |false=>
    rw[hb,jv] at abM;have c1:(zI s[k]==1)=false:=by rw[Pm,hb]
    cases hdg:pq s[k] with
    |true=>
     have c0:(zI s[k]==0)=false:=by unfold zI;rw[hb,hdg];rfl
     have c2:(zI s[k]==2)=true:=by rw[Pn,hdg]
     simp only[c0,c1,c2,jv,ju];rw[hdg,ju] at abM;have hw:=apa s (by simp only[big];omega) k CJ r1 r2 hlt;rw[<-abM] at hw;exact kC.lH hw (tail _ rfl)
    |false=>
     rw[hdg,jv] at abM;have c2:(zI s[k]==2)=false:=by rw[Pn,hdg]
     cases hq:s[k]==34 with
     |true=>
      have c0:(zI s[k]==0)=false:=by grind [zI]
      have c3:(zI s[k]==3)=true:=by grind [zI]
      simp only[c0,c1,c2,c3,jv,ju];rw[hq,ju] at abM;have hw:=ape s hs k hlt CJ r1 r2;rw[<-abM] at hw;exact kC.lH hw (tail _ rfl)
     |false=>
      have c0:(zI s[k]==0)=true:=by grind [zI]
      simp only[c0,ju];rw[hq,jv] at abM;have hw:=apd s hs k hk CJ r1 r2 (oV++j9) h2 (aps ahm hd hb)
      have e:(bif uA (s.drop k) 0 (oV++j9)==0 then((0:Int),(k:Int),(4:Int)) else(2,((k+uA (s.drop k) 0 (oV++j9):Nat):Int),0))=Ww k (Wy j9 (s.drop k)):=by
       unfold Wy;generalize uA (s.drop k) 0 (oV++j9)=q;cases q==0<;>rfl
      rw[e,<-abM] at hw;exact kC.lH hw (tail _ rfl)
  ·have e1:decide ((k:Int)<(s.length:Int))=false:=jx (by omega);obtain rfl:k=s.length:=by omega
   rw[akh];simp only[e1,jv,hroom,ju];exact kC.pure
theorem ahn(s:Str)(hs:s.length<LI)(j9:List Str)(hl:j9.length<1000)(hy: ∀y∈j9,y.length<LI):
 ∀(k:Nat)(out:List j8),k<=s.length->out.length<=k->kC (fun n m=>Ea n m s j9 (k:Int) out) (aeR out (wW (nH j9) (s.drop k) k)):=by
 intro k;have hs':s.length<4294967281:=hs;induction h:s.length-k using iw generalizing k with
 |ind d ih=>
  intro out hk hout;have hroom:decide ((out.length+1)*32<=17592186044416)=true:=jw (by omega);refine kC.lp (fun n m=>by simp only[abG,Iw,mB];exact rfl) ?_;by_cases hlt:k<s.length
  ·have e1:decide ((k:Int)<(s.length:Int))=true:=jw (by omega);simp only[e1,ju];refine kC.lH (apr s hs k hlt j9 hl hy) ?_;have hd:=drop_cons hlt;simp only[Ww];cases h0:(nH j9 (s.drop k)).2.2==0 with
   |false=>
    grind [akg,aeR,kC.pure]
   |true=>
    have hb:((nH j9 (s.drop k)).2.2 !=0)=false:=by rw[bne,h0];rfl
    simp only[hb,jv];have hp:=ab2 (j9:=j9) (c:=s[k]) (t:=s.drop (k+1)) (by rw[<-hd];exact eq_of_beq h0);rw[<-hd,ig] at hp;obtain⟨n,hn⟩: ∃n,(nH j9 (s.drop k)).2.1=n:=⟨_,rfl⟩;rw[hn] at hp;simp only[hn];have e2:decide ((0:Int)<=(k:Int)/\(k:Int)<=((k+n:Nat):Int)/\((k+n:Nat):Int)<=(s.length:Int))=true:=jw (by omega);simp only[e2,hroom,ju,iF];rw[GL];refine kC.lH (adz s (by simp only[big];omega) (k+n) (by omega)) ?_;have hsk:=wv false (s.drop (k+n));rw[ig] at hsk;rw[afX _ s k hlt (eq_of_beq h0) (by rw[hn];omega) (by rw[hn];omega)];simp only[hn];have:=ih (s.length-(k+n+kQ false (s.drop (k+n)))) (by omega) _ rfl (out++[⟨(nH j9 (s.drop k)).1,(s.drop k).take n,(k:Int)⟩]) (by omega) (by grind)
    grind [akf]
  ·have e1:decide ((k:Int)<(s.length:Int))=false:=jx (by omega);obtain rfl:k=s.length:=by omega
   rw[akh];simp only[e1,jv,hroom,ju];exact kC.pure
theorem aki{T:Str->Int×Nat×Int}{r:Str}:aeR [] (wW T r a)=wW T r a:=by
 unfold aeR
 match r with
 |[]=>rw[wW];rfl
 |c::t=>
  grind [wW]
theorem amJ(s:Str)(hs:s.length<LI)(j9:List Str)(hl:j9.length<1000)(hy: ∀y∈j9,y.length<LI):Ev (fun n=>Lv n s j9) (ny j9 s):=by
 refine Ev.fn (fun n=>by simp only[Lv,kq,QL,mB];exact rfl) ?_;have hs':s.length<4294967281:=hs
 have key: ∀d k:Nat,k+d=j9.length->kC (fun n m=>Ed n m s j9 (k:Int)) (bif (j9.drop k).all CL then(bif decide (65536<s.length) then([],0,5) else wW (nH j9) (s.drop (kQ false s)) (kQ false s)) else([],0,1)):=by
  intro d;induction d with
  |zero=>
   intro k hk;refine kC.lp (fun n m=>by simp only[RT,Eb,mB];exact rfl) ?_;have:decide ((k:Int)<(j9.length:Int))=false:=jx (by omega);simp only[this,jv];rw[ij (show j9.length<=k by omega)];simp only[List.all_nil,ju];have e:decide ((65536:Int)<(s.length:Int))=decide (65536<s.length):=decide_eq_decide.2 (by omega);rw[e];cases decide (65536<s.length) with
   |true=>exact kC.pure
   |false=>
    simp only[jv];have hk0:=adz s (by simp only[big];omega) 0 (iC _);rw[iq,jd] at hk0;refine kC.lH hk0 ?_;have hsk:=wv false s;have:=ahn s hs j9 hl hy (kQ false s) [] hsk (iC _);rw[aki] at this;exact kC.Xi (Ev.AN (F:=fun n m=>Ea n m s j9 ((kQ false s:Nat):Int) []) this)
  |succ d ih=>
   intro k hk;have hlt:k<j9.length:=by omega
   refine kC.lp (fun n m=>by simp only[RT,Eb,mB];exact rfl) ?_;have:decide ((k:Int)<(j9.length:Int))=true:=jw (by omega);simp only[this,ju];refine kC.idx hlt (kC.lH (Zg _ (hy _ (ik hlt))) ?_);rw[ib hlt,je]
   grind [kC.pure,kz]
 exact Ev.AN (F:=fun n m=>Ed n m s j9 0) (key j9.length 0 (by omega))
theorem au5(s:Str)(hs:s.length<LI)(j9:List Str)(hl:j9.length<1000)(hy: ∀y∈j9,y.length<LI):Ev (fun n=>Lt n s j9) (ny j9 s):=by
 refine Ev.fn (fun n=>by simp only[Lt,kq,QK,mB];exact rfl) ?_;have hs':s.length<4294967281:=hs;refine Ev.bind aaQ ?_
 have l2: ∀(l:List Str)(hll:l.length<1000)(j:Int)(r1:List (Str×Bool))(L:List (List Str))(b:Int)(X:Nat->Nat->List (Str×Bool)->Option (List j8×Int×Int))(res:List j8×Int×Int),
  ∀d k:Nat,k+d=l.length-> ∀r2,kC (fun n m=>sD n m s L b (IntKind.i64.wrap (j+1)) CJ r1 (AO (l.drop k) r2) s) res->
  JN (fun n m p=>vQ n (sD n m) p s L b j l ((l.length:Nat):Int) (k:Int) CJ r1 r2 s) res:=by
  intro l hll j r1 L b X res d;induction d with
  |zero=>
   intro k hk r2 hres;refine JN.lp (fun n m p=>by simp only[RQ,D7,mB];exact rfl) ?_;have:decide ((k:Int)<(l.length:Int))=false:=jx (by omega);simp only[this,jv];rw[ij (show l.length<=k by omega)] at hres;exact JN.AN hres
  |succ d ih=>
   intro k hk r2 hres;have hlt:k<l.length:=by omega
   refine JN.lp (fun n m p=>by simp only[RQ,D7,mB];exact rfl) ?_;have:decide ((k:Int)<(l.length:Int))=true:=jw (by omega);simp only[this,ju];refine JN.idx hlt ?_;rw[kz (by omega)];refine ih (k+1) (by omega) _ ?_;rw[ib hlt] at hres;exact hres
 have key: ∀d k:Nat,k+d=j9.length-> ∀r1,(∀y,(mz y (AO (j9.drop k) r1)).getD false=j9.contains y)->((j9.take k).all CL=true)->
  kC (fun n m=>D9 n m s j9 j9 ((j9.length:Nat):Int) (k:Int) CJ r1 [] s) (bif (j9.drop k).all CL then(bif decide (65536<s.length) then([],0,5) else wW (nH j9) (s.drop (kQ false s)) (kQ false s)) else([],0,1)):=by
  intro d;induction d with
  |zero=>
   intro k hk r1 hr1 hall;refine kC.lp (fun n m=>by simp only[RR,D8,mB];exact rfl) ?_;have:decide ((k:Int)<(j9.length:Int))=false:=jx (by omega);simp only[this,jv];rw[ij (show j9.length<=k by omega)] at hr1 ⊢;rw[iU (by omega)] at hall;simp only[List.all_nil,ju];refine kC.lH afI ?_;refine kC.Xi (Ev.AN (F:=fun n m=>sD n m s [oV,j9] 2 0 CJ r1 [] s) ?_);refine kC.lp (G:=fun n m=>vQ n (sD n m) n s [oV,j9] 2 0 oV ((oV.length:Nat):Int) 0 CJ r1 [] s) (fun n m=>by simp only[JL,Bh];exact rfl) ?_;refine JN.BR (F:=fun n m p=>vQ n (sD n m) p s [oV,j9] 2 0 oV ((oV.length:Nat):Int) ((0:Nat):Int) CJ r1 [] s) ?_;refine l2 oV (by decide) 0 r1 _ 2 (fun _ _ _=>none) _ oV.length 0 (by omega) [] ?_;refine kC.lp (G:=fun n m=>vQ n (sD n m) n s [oV,j9] 2 1 j9 ((j9.length:Nat):Int) 0 CJ r1 (AO oV []) s) (fun n m=>by simp only[JL,Bh];exact rfl) ?_;refine JN.BR (F:=fun n m p=>vQ n (sD n m) p s [oV,j9] 2 1 j9 ((j9.length:Nat):Int) ((0:Nat):Int) CJ r1 (AO oV []) s) ?_;refine l2 j9 hl 1 r1 _ 2 (fun _ _ _=>none) _ j9.length 0 (by omega) (AO oV []) ?_;rw[iq]
   refine kC.lp (G:=fun n m=>bif decide ((65536:Int)<(s.length:Int)) then some ([],0,5) else(tT n s 0 CJ r1 (AO j9 (AO oV []))).bind fun x=>
    xX n n s x.fst.snd.fst x.fst.snd.snd.fst x.fst.snd.snd.snd.fst x.fst.fst.fst x.fst.fst.snd.fst []) (fun n m=>by simp only[JL,Bh];exact rfl) ?_
   have e:decide ((65536:Int)<(s.length:Int))=decide (65536<s.length):=decide_eq_decide.2 (by omega);rw[e];cases decide (65536<s.length) with
   |true=>exact kC.pure
   |false=>
    simp only[jv];have hk0:=ajT s hs CJ r1 (AO j9 (AO oV [])) 0 (iC _);rw[iq,jd] at hk0;refine kC.lH hk0 ?_;have hsk:=wv false s
    have:=apt s hs j9 hall r1 (AO j9 (AO oV [])) hr1 (fun y=>by
     grind [Vn,mz]) (kQ false s) [] hsk (iC _)
    rw[aki] at this;exact kC.Xi (Ev.AN (F:=fun n m=>xX n m s CJ r1 (AO j9 (AO oV [])) s ((kQ false s:Nat):Int) []) this)
  |succ d ih=>
   intro k hk r1 hr1 hall;have hlt:k<j9.length:=by omega
   refine kC.lp (fun n m=>by simp only[RR,D8,mB];exact rfl) ?_;have:decide ((k:Int)<(j9.length:Int))=true:=jw (by omega);simp only[this,ju];refine kC.idx hlt (kC.lH (afM _ (hy _ (ik hlt))) ?_);rw[ib hlt,je];cases hsy:CL j9[k] with
   |false=>exact kC.pure
   |true=>
    simp only[ju,iM];rw[kz (by omega)];refine ih (k+1) (by omega) _ ?_ ?_
    ·rw[ib hlt] at hr1;exact hr1
    grind [iX]
 exact Ev.AN (F:=fun n m=>D9 n m s j9 j9 ((j9.length:Nat):Int) 0 CJ [] [] s) (key j9.length 0 (by omega) [] (fun y=>by grind [Vn,mz]) rfl)
def DJ(t:j8):Int×Str:=(t.kind,t.text)
theorem take_cons(h:1<=m):(c::t).take m=c::t.take (m-1):=by
 obtain⟨m,rfl⟩: ∃j,m=j+1:=⟨m-1,by omega⟩;rfl
theorem Vo{p:UInt8->Bool}{w:UInt8}(hw:p w=false)(x:Str): ∀(r:Str)(m:Nat),runT p r<=m->runT p (r.take m++w::x)=runT p r
 |[],m,_=>by rw[iW,iB,qC,hw];rfl
 |c::r,0,h=>by
  grind [qC]
 |c::r,m+1,h=>by
  rw[iI,il,qC,qC];cases hc:p c with
  |false=>rfl
  |true=>
   rw[qC,hc] at h;simp only[ju] at h ⊢;rw[Vo hw x r m (by omega)]
theorem Zo{r:Str}(h:q<=m)(hm:m<=r.length):(r.take m++y).drop q=(r.drop q).take (m-q)++y:=by
 grind [List.drop_take]
theorem ar6{r:Str}(h:q<=m)(hm:m<=r.length):(r.take m++y).take q=r.take q:=by
 grind
theorem afY{w:UInt8}(h:L9 w=false):yf w=false/\pq w=false/\(w==39)=false:=by
 grind [L9]
theorem au6{w:UInt8}(hw:L9 w=false)(h46:(w==46)=false)(x:Str): ∀(r:Str)(m:Nat),Po r<=m->m<=r.length->Po (r.take m++w::x)=Po r:=by
 intro r;induction h:r.length using iw generalizing r with
 |ind d ih=>
  intro m hm hml;have hb:=(afY hw).1;have he:=Q5 r;have hc:vl (r.take m++w::x)=vl r:=Vo hw x r m (by unfold vl at he;omega);rw[Q5 (r.take m++w::x),hc,Zo (by omega) (by omega),he];congr 1;have hcl:=Pp r;have hl1:(r.drop (vl r)).length=r.length-vl r:=ig ..
  have ht:tlT (r.drop (vl r))<=m-vl r:=by omega
  have hlt:vl r+2<=r.length->(r.drop (vl r+1)).length<d:=by rw[ig];omega
  have hdd:(r.drop (vl r)).drop 1=r.drop (vl r+1):=iz ..
  have hm1:m-vl r<=(r.drop (vl r)).length:=by omega
  generalize hq:m-vl r=q at ht hm1 ⊢
  match hr1:r.drop (vl r) with
  |[]=>
   rw[iW,iB];cases x with
   |nil=>rfl
   |cons c t=>show(bif w==46&&yf c then _ else 0)=0;rw[h46];rfl
  |[e]=>
   cases q with
   |zero=>
    rw[iD,iB];cases x with
    |nil=>rfl
    |cons c t=>show(bif w==46&&yf c then _ else 0)=0;rw[h46];rfl
   |succ q=>
    rw[iI,iW,il,iB];show(bif e==46&&yf w then _ else 0)=0;rw[hb,Bool.and_false];rfl
  |e::c::t=>
   rw[hr1] at ht hm1 hl1 hdd;cases hec:e==46&&yf c with
   |true=>
    have ht':tlT (e::c::t)=1+Po (c::t):=by show(bif e==46&&yf c then _ else 0)=_;rw[hec];rfl
    rw[ht'] at ht ⊢
    have hn1:1<=Po (c::t):=by
     rw[Q5]
     grind [vl,qC,L9]
    obtain⟨j,rfl⟩: ∃j,q=j+2:=⟨q-2,by omega⟩;have hih:=ih (c::t).length (by grind) (c::t) rfl (j+1) (by omega) (by grind);rw[iI,il,iI,il];show(bif e==46&&yf c then 1+Po (c::(t.take j++w::x)) else 0)=_
    grind
   |false=>
    have ht':tlT (e::c::t)=0:=by show(bif e==46&&yf c then _ else 0)=_;rw[hec];rfl
    rw[ht']
    match q with
    |0=>
     rw[iD,iB];cases x with
     |nil=>rfl
     |cons c t=>show(bif w==46&&yf c then _ else 0)=0;rw[h46];rfl
    |1=>
     show(bif e==46&&yf w then _ else 0)=0;rw[hb,Bool.and_false];rfl
    |q+2=>
     show(bif e==46&&yf c then _ else 0)=0;rw[hec];rfl
def spB(j9:List Str)(w:UInt8):Prop:=L9 w=false/\(w==46)=false/\ ∀y∈oV++j9,w ∉ y.drop 1
theorem apu{l:List Str}{w:UInt8}(hw: ∀y∈l,w ∉ y.drop 1)(x:Str)(r:Str)(m:Nat)(h1:1<=m)(hm:uA r 0 l<=m)(hml:m<=r.length):uA (r.take m++w::x) 0 l=uA r 0 l:=by
 obtain⟨a1,_,a3⟩:=CK r l 0;obtain⟨b1,_,b3⟩:=CK (r.take m++w::x) l 0;refine Nat.le_antisymm ?_ ?_
 ·rcases b1 with b1|⟨_,b4,b5⟩
  ·omega
  ·generalize uA (r.take m++w::x) 0 l=v at*;rcases iP m v with hv|hv
   ·exfalso;refine hw _ b5 ?_;have hl:(r.take m).length=m:=GM hml;obtain⟨j,rfl⟩: ∃j,v=m+(j+1):=⟨v-m-1,by omega⟩
    simp_all [List.take_append,iv]
   grind
 grind
theorem axn:qb 10=false:=rfl
theorem ar7{w:UInt8}(hw:L9 w=false)(x:Str)(c:UInt8)(t:Str)(m:Nat)(h1:1<=m)(hm:runT pq (c::t)<=m)(hml:m<=(c::t).length)(he:m=(c::t).length\/(Pq (c::t)).2.2=0):Pq ((c::t).take m++w::x)=Pq (c::t):=by
 obtain⟨wb,wd,w39⟩:=afY hw;have hrun:runT pq ((c::t).take m++w::x)=runT pq (c::t):=Vo wd x _ m hm;have hhd:((c::t).take m++w::x).head?=(c::t).head?:=by rw[take_cons h1];rfl
 unfold Pq at he ⊢;rw[hrun,hhd,Zo hm hml];generalize hq:runT pq (c::t)=q at*;revert he;cases decide (6<q) with
 |true=>intro _;rfl
 |false=>
  simp only[jv];cases decide (1<q)&&(c::t).head?==some 48 with
  |true=>intro _;rfl
  |false=>
   simp only[jv];intro he;have hl:((c::t).drop q).length=(c::t).length-q:=ig ..
   generalize (c::t).drop q=u at*;cases u with
   |nil=>
    grind
   |cons d u=>
    rcases iP q m with hlt|hge
    ·grind [take_cons]
    ·have:m-q=0:=by omega
     grind
theorem apv{w:UInt8}(x:Str)(c:UInt8)(t:Str)(m:Nat)(h1:1<=m)(hml:m<=(c::t).length)(he:((Jp (c::t)).2.2=0/\(Jp (c::t)).2.1<=m)\/(m=(c::t).length/\w=10)):Jp ((c::t).take m++w::x)=Jp (c::t):=by
 rw[take_cons h1,il];unfold Jp at he ⊢;simp only[List.drop_succ_cons,iq] at he ⊢;have hr:=C5 qb t;simp only[ii] at hml he;rcases he with⟨he,hm⟩|⟨he,rfl⟩
 ·have hst:=Pt (q:=qb) (r:=t) (p:=runT qb t) (ir _);have hdl:(t.drop (runT qb t)).length=t.length-runT qb t:=ig ..
  match hu:t.drop (runT qb t) with
  |[]=>rw[hu] at he;cases he
  |d::u=>
   rw[hu] at he hm;cases hd:d==34 with
   |false=>grind
   |true=>
    simp only[hd,ju] at hm
    have hrun:runT qb (t.take (m-1)++w::x)=runT qb t:=by
     have ht:t=t.take (runT qb t)++d::u:=by rw[<-hu,ja]
     have hlen:(t.take (runT qb t)).length=runT qb t:=GM hr;have hqd:qb d=false:=by rw[eq_of_beq hd];rfl
     have e1:t.take (m-1)++w::x=t.take (runT qb t)++d::(u.take (m-1-runT qb t-1)++w::x):=by
      conv=>lhs;rw[ht]
      rw[List.take_append,hlen,iU (by rw[hlen];omega),take_cons (by omega),List.append_assoc,il]
     grind [Vo]
    grind [Zo,take_cons]
 ·have e1:t.take (m-1)=t.take t.length:=by rw[he];rfl
  have hrun:runT qb (t.take (m-1)++10::x)=runT qb t:=Vo axn x t (m-1) (by omega)
  grind
theorem aho{w:UInt8}(hw:spB j9 w)(x:Str)(c:UInt8)(t:Str)(m:Nat)(h1:1<=m)(hml:m<=(c::t).length)
 (he:((nH j9 (c::t)).2.2=0/\(nH j9 (c::t)).2.1<=m)\/(m=(c::t).length/\w=10)):nH j9 ((c::t).take m++w::x)=nH j9 (c::t):=by
 obtain⟨w1,w2,w3⟩:=hw;have ar8:(c::t).take m++w::x=c::(t.take (m-1)++w::x):=by rw[take_cons h1,il]
 have he': ∀r,r=(c::t).take m++w::x->nH j9 r=bif yf c then PA j9 r else bif pq c then Pq r else bif c==34 then Jp r else Wy j9 r:=by
  intro r hr;rw[ar8] at hr;subst hr;rfl
 rw[he' _ rfl];rw[nH] at he ⊢;cases hb:yf c with
 |true=>
  rw[hb] at he;simp only[ju] at he ⊢
  have hn:Po (c::t)<=m:=by
   grind [PA,ahb]
  unfold PA
  grind [au6]
 |false=>
  rw[hb] at he;simp only[jv] at he ⊢;cases hd:pq c with
  |true=>
   grind [ar7,anI,C5]
  |false=>
   rw[hd] at he;simp only[jv] at he ⊢;cases hq:c==34 with
   |true=>
    grind [apv]
   |false=>
    rw[hq] at he;simp only[jv] at he ⊢
    have hn:uA (c::t) 0 (oV++j9)<=m:=by
     grind [Wy,adB]
    unfold Wy;rw[apu w3 x _ m h1 hn hml]
def GN:Bool->Str->Option Bool
 |co,[]=>some co
 |true,x::r=>bif x==10 then GN false r else GN true r
 |false,x::r=>bif whB x then GN false r else bif x==45&&r.head?==some 45 then GN true r else none
theorem Ek: ∀(co:Bool)(u v:Str)(f:Bool),GN co u=some f->kQ co (u++v)=u.length+kQ f v
 |co,[],v,f,h=>by
  grind [GN]
 |true,x::r,v,f,h=>by
  rw[GN] at h;rw[il,kQ,ii];cases hx:x==10 with
  |true=>rw[hx] at h;simp only[ju] at h ⊢;rw[Ek false r v f h];omega
  |false=>rw[hx] at h;simp only[jv] at h ⊢;rw[Ek true r v f h];omega
 |false,x::r,v,f,h=>by
  rw[GN] at h;rw[il,kQ,ii];cases hx:whB x with
  |true=>rw[hx] at h;simp only[ju] at h ⊢;rw[Ek false r v f h];omega
  |false=>
   rw[hx] at h;simp only[jv] at h ⊢;cases hc:x==45&&r.head?==some 45 with
   |false=>rw[hc] at h;cases h
   |true=>
    rw[hc] at h;simp only[ju] at h
    have:(x==45&&(r++v).head?==some 45)=true:=by
     grind
    rw[this,ju,Ek true r v f h];omega
def Fy:Str->Bool
 |[]=>true
 |c::t=> !whB c&& !(c==45&&t.head?==some 45)
theorem VW{r:Str}(h:Fy r=true):kQ false r=0:=by
 cases r with
 |nil=>rfl
 |cons c t=>
  grind [Fy,skip_none]
theorem AP: ∀(co:Bool)(r:Str),∃f,GN co (r.take (kQ co r))=some f/\(f=true->r.drop (kQ co r)=[])/\Fy (r.drop (kQ co r))=true
 |co,[]=>⟨co,by rw[iW];cases co<;>rfl,fun _=>by simp,by simp [Fy]⟩
 |true,x::r=>by
  rw[kQ];cases hx:x==10 with
  |true=>
   obtain⟨f,h1,h2⟩:=AP false r
   grind [GN]
  |false=>
   obtain⟨f,h1,h2⟩:=AP true r
   grind [GN]
 |false,x::r=>by
  rw[kQ];cases hx:whB x with
  |true=>
   obtain⟨f,h1,h2⟩:=AP false r
   grind [GN]
  |false=>
   simp only[jv];cases hc:x==45&&r.head?==some 45 with
   |false=>
    simp only[jv];refine⟨false,rfl,fun h=>(by cases h),?_⟩
    grind [Fy]
   |true=>
    obtain⟨f,h1,h2⟩:=AP true r;simp only[ju];refine⟨f,?_,h2⟩
    have hh:(r.take (kQ true r)).head?=r.head?:=by
     cases r with
     |nil=>rfl
     |cons y r=>
      grind [kQ]
    grind [GN]
theorem akj{co:Bool}{u:Str}{f:Bool}(h:GN co u=some f):kQ co u=u.length:=by
 have:=Ek co u [] f h
 grind [Ps]
theorem apw(T:Str->Int×Nat×Int): ∀(r:Str)(a b:Nat),(wW T r a).1.map DJ=(wW T r b).1.map DJ/\(wW T r a).2.2=(wW T r b).2.2:=by
 intro r;induction h:r.length using iw generalizing r with
 |ind d ih=>
  intro a b
  match r,h with
  |[],h=>rw[wW,wW];exact⟨rfl,rfl⟩
  |c::t,h=>
   rw[wW,wW];cases (T (c::t)).2.2==0 with
   |false=>exact⟨rfl,rfl⟩
   |true=>
    simp only[ju];have:=ih (((t.drop ((T (c::t)).2.1-1)).drop (kQ false (t.drop ((T (c::t)).2.1-1)))).length) (by grind) _ rfl (a+(T (c::t)).2.1+kQ false (t.drop ((T (c::t)).2.1-1))) (b+(T (c::t)).2.1+kQ false (t.drop ((T (c::t)).2.1-1)));generalize wW T _ (a+_+_)=z at this ⊢;generalize wW T _ (b+_+_)=z' at this ⊢;rw[this.2];cases z'.2.2==0 with
    |false=>exact⟨rfl,rfl⟩
    |true=>
     simp only[ju,jo];rw[this.1];exact⟨rfl,trivial⟩
theorem amK(h:((nH j9 (c::t)).2.2==0)=false):(nH j9 (c::t)).2.1<(c::t).length:=by
 have hpos:0<(c::t).length:=by simp
 rw[nH] at h ⊢;cases hb:yf c with
 |true=>
  grind [PA]
 |false=>
  rw[hb] at h;simp only[jv] at h ⊢;cases hd:pq c with
  |true=>
   grind [Pq,ii]
  |false=>
   grind [Jp,Wy]
theorem Vp{r:Str}{w:UInt8}{x:Str}(h:Fy r=true)(hr:r≠[])(hw:(w==45)=false):Fy (r++w::x)=true:=by
 match r,hr with
 |[c],_=>
  grind [Fy]
 |c::d::t,_=>exact h
theorem akk(hw:spB j9 10)(x:Str): ∀(r:Str)(a:Nat),((wW (nH j9) r a).2.2==0)=false->Fy r=true->wW (nH j9) (r++10::x) a=wW (nH j9) r a/\(a:Int)<=(wW (nH j9) r a).2.1/\(wW (nH j9) r a).2.1<((a+r.length:Nat):Int):=by
 intro r;induction h:r.length using iw generalizing r with
 |ind d ih=>
  intro a he hst
  match r,h with
  |[],h=>rw[wW] at he;cases he
  |c::t,h=>
   have apx:nH j9 (c::(t++10::x))=nH j9 (c::t):=by
    grind [aho,iQ]
   rw[wW] at he ⊢;rw[il,wW,apx];cases h0:(nH j9 (c::t)).2.2==0 with
   |false=>
    have:=amK h0
    grind
   |true=>
    rw[h0] at he;simp only[ju] at he ⊢;have hp:=ab2 (eq_of_beq h0);generalize hn:(nH j9 (c::t)).2.1=n at*
    have adE:t.drop (n-1)=(c::t).drop n:=by
     obtain⟨j,rfl⟩: ∃j,n=j+1:=⟨n-1,by omega⟩;rfl
    have ar9:(t++10::x).drop (n-1)=t.drop (n-1)++10::x:=iv (by rw[ii] at hp;omega);rw[ar9];generalize hr2:t.drop (n-1)=r2 at*;have hl2:r2.length=t.length-(n-1):=by rw[<-hr2,ig]
    obtain⟨f,s1,s2,s3⟩:=AP false r2;have hsk:=wv false r2
    have hne:r2.drop (kQ false r2)≠[]:=by
     grind [wW]
    have hf:f=false:=by
     grind
    subst hf;have hstop:=Vp (w:=10) (x:=x) s3 hne rfl
    have aAo:kQ false (r2++10::x)=kQ false r2:=by
     have e:r2++10::x=r2.take (kQ false r2)++(r2.drop (kQ false r2)++10::x):=by grind [ja]
     simp_all [Ek,VW]
    rw[aAo,iv hsk];rw[ii] at h hp
    have hz:((wW (nH j9) (r2.drop (kQ false r2)) (a+n+kQ false r2)).2.2==0)=false:=by
     grind
    obtain⟨i1,i2,i3⟩:=ih (r2.drop (kQ false r2)).length (by rw[ig];omega) _ rfl (a+n+kQ false r2) hz s3;rw[i1];generalize wW (nH j9) (r2.drop (kQ false r2)) (a+n+kQ false r2)=z at*;rw[hz];rw[ig] at i3;simp only[jv];exact⟨trivial,by omega,by omega⟩
theorem akl(w:UInt8)(h:whB w=true):L9 w=false/\RX w=false/\(w==46)=false/\(w==45)=false:=by
 have:=Q3 (p:=fun w=> !whB w||(!L9 w&&(!RX w&&(!(w==46)&& !(w==45))))) (jE) w
 grind
theorem VX(hs:j9.all CL=true){w:UInt8}(h:whB w=true):spB j9 w:=by
 obtain⟨h1,h2,h3,_⟩:=akl w h;refine⟨h1,h3,fun y hy hm=> ?_⟩;have hm':w∈y:=List.mem_of_mem_drop hm;rcases jc.1 hy with hf|hf
 ·have hall: ∀y∈oV,∀b∈y,whB b=false:=by decide
  grind
 ·have hsy:=iY.1 hs y hf
  match y,hsy,hm' with
  |c::t,hsy,hm'=>
   grind [CL]
theorem asa{r:Str}{w:UInt8}{x:Str}(h:Fy r=true)(h1:1<=m)(hr:r≠[])(hw:(w==45)=false):Fy (r.take m++w::x)=true:=by
 have hne:r.take m≠[]:=by
  grind [iA]
 refine Vp ?_ hne hw
 match r,hr with
 |c::t,_=>
  rw[take_cons h1];simp only[Fy,iy,jf] at h ⊢;refine⟨h.1,?_⟩;rcases Nat.eq_zero_or_pos (m-1) with h0|h0
  ·grind
  ·cases t with
   |nil=>rw[iW];exact h.2
   |cons d t=>rw[take_cons h0];exact h.2
theorem Ib(h:(wW (nH j9) (c::t) a).2.2=0):
 ∃n sk f,(nH j9 (c::t)).2.2=0/\n=(nH j9 (c::t)).2.1/\1<=n/\n<=(c::t).length/\sk=kQ false ((c::t).drop n)/\GN false (((c::t).drop n).take sk)=some f/\(f=true->(c::t).drop (n+sk)=[])/\Fy ((c::t).drop (n+sk))=true/\n+sk<=(c::t).length/\
  (wW (nH j9) ((c::t).drop (n+sk)) (a+n+sk)).2.2=0/\(wW (nH j9) (c::t) a).1=⟨(nH j9 (c::t)).1,(c::t).take n,(a:Int)⟩::(wW (nH j9) ((c::t).drop (n+sk)) (a+n+sk)).1:=by
 rw[wW] at h ⊢;cases h0:(nH j9 (c::t)).2.2==0 with
 |false=>
  grind
 |true=>
  rw[h0] at h;simp only[ju] at h ⊢;have hp:=ab2 (eq_of_beq h0)
  have adE:t.drop ((nH j9 (c::t)).2.1-1)=(c::t).drop (nH j9 (c::t)).2.1:=by
   obtain⟨j,hj⟩: ∃j,(nH j9 (c::t)).2.1=j+1:=⟨(nH j9 (c::t)).2.1-1,by omega⟩;rw[hj];rfl
  rw[adE] at h ⊢;have hdd: ∀q,((c::t).drop (nH j9 (c::t)).2.1).drop q=(c::t).drop ((nH j9 (c::t)).2.1+q):=fun q=>iz ..
  obtain⟨f,s1,s2,s3⟩:=AP false ((c::t).drop (nH j9 (c::t)).2.1);have hsk:=wv false ((c::t).drop (nH j9 (c::t)).2.1);rw[ig] at hsk;rw[hdd] at s2 s3;rw[hdd] at h ⊢;refine⟨_,_,f,eq_of_beq h0,rfl,hp.1,hp.2,rfl,s1,s2,s3,by omega,?_⟩
  grind
theorem head_ne: ∀{r:Str}{a:Nat},(wW (nH j9) r a).2.2=0->(wW (nH j9) r a).1≠[]
 |[],a,_=>by rw[wW];simp
 |c::t,a,h=>by
  obtain⟨n,sk,f,_,_,_,_,_,_,_,_,_,_,e⟩:=Ib h;rw[e];simp
theorem anJ: ∀{r:Str}{a:Nat},(wW (nH j9) r a).2.2=0-> ∀t∈(wW (nH j9) r a).1,(a:Int)<=t.at_:=by
 intro r;induction h:r.length using iw generalizing r with
 |ind d ih=>
  intro a he tok ht
  match r,h with
  |[],h=>
   grind [wW]
  |c::t,h=>
   obtain⟨n,sk,f,h0,hn,hn1,hnl,hsk,s1,s2,s3,hle,hz,heq⟩:=Ib he
   grind
theorem asb {w:UInt8} (hw:spB j9 w) (hsp:GN false (w::y)=some false) (au7: ∃f,GN true (w::y)=some f)
 (h45:(w==45)=false\/ ∀r:Str,r.head?=some 45->(nH j9 r).2.2=0->2<=(nH j9 r).2.1):
 ∀ (r:Str) (a m:Nat),(wW (nH j9) r a).2.2=0->Fy r=true->(∃t∈(wW (nH j9) r a).1,t.at_=((a+m:Nat):Int))->
   m<=r.length/\ ∀b,(wW (nH j9) ((r.take m++(w::y++r.drop m)).drop (kQ false (r.take m++(w::y++r.drop m)))) b).2.2=0/\(wW (nH j9) ((r.take m++(w::y++r.drop m)).drop (kQ false (r.take m++(w::y++r.drop m)))) b).1.map DJ=(wW (nH j9) r a).1.map DJ:=by
 intro r;induction h:r.length using iw generalizing r with
 |ind d ih=>
  intro a m he hst hm;rcases Nat.eq_zero_or_pos m with h0|hpos
  ·subst h0;refine⟨iC _,fun b=> ?_⟩;rw[iD,iB,iq,Ek false (w::y) r false hsp,VW hst,jr,iv (ir _),ji,iB]
   grind [apw]
  ·match r,h with
   |[],h=>
    grind [wW]
   |c::t,h=>
    obtain⟨n,sk,f,h0,hn,hn1,hnl,hsk,s1,s2,s3,hle,hz,heq⟩:=Ib he;rw[heq] at hm ⊢;obtain⟨tok,ht,ha⟩:=hm
    have ht':tok∈(wW (nH j9) ((c::t).drop (n+sk)) (a+n+sk)).1:=by
     grind
    have hge:((a+n+sk:Nat):Int)<=tok.at_:=anJ hz tok ht';have hmm:n+sk<=m:=by omega
    obtain⟨i1,i2⟩:=ih ((c::t).drop (n+sk)).length (by rw[ig];omega) _ rfl (a+n+sk) (m-(n+sk)) hz s3 ⟨tok,ht',by rw[ha];omega⟩;rw[ig] at i1;have hml:m<=(c::t).length:=by omega
    refine⟨by omega,fun b=> ?_⟩;have apx:nH j9 ((c::t).take m++w::(y++(c::t).drop m))=nH j9 (c::t):=aho hw _ c t m hpos hml (.inl ⟨h0,by omega⟩)
    have hstop:Fy ((c::t).take m++w::(y++(c::t).drop m))=true:=by
     rcases h45 with h45|h45
     ·exact asa hst hpos (by simp) h45
     ·cases hc:c==45 with
      |false=>
       rw[take_cons hpos,il];simp only[Fy,iy,jf] at hst ⊢;exact⟨hst.1,by rw[hc];rfl⟩
      |true=>
       have h2:=h45 (c::t) (by rw[eq_of_beq hc];rfl) h0;rw[take_cons hpos,il];cases t with
       |nil=>simp only[ii,iA] at hml;omega
       |cons e t=>
        rw[take_cons (by omega),il];exact hst
    have ar8:(c::t).take m++(w::y++(c::t).drop m)=c::(t.take (m-1)++w::(y++(c::t).drop m)):=by rw[take_cons hpos];rfl
    have amL:(c::t).take m++w::(y++(c::t).drop m)=c::(t.take (m-1)++w::(y++(c::t).drop m)):=by rw[take_cons hpos];rfl
    rw[amL] at apx hstop
    have htk:(c::(t.take (m-1)++w::(y++(c::t).drop m))).take n=(c::t).take n:=by
     rw[<-amL,ar6 (by omega) hml]
    have hdr:(t.take (m-1)++w::(y++(c::t).drop m)).drop (n-1)=((c::t).drop n).take sk++(((c::t).drop (n+sk)).take (m-(n+sk))++(w::y++(c::t).drop m)):=by
     have e1:(t.take (m-1)++w::(y++(c::t).drop m)).drop (n-1)=(c::(t.take (m-1)++w::(y++(c::t).drop m))).drop n:=by
      obtain⟨j,rfl⟩: ∃j,n=j+1:=⟨n-1,by omega⟩;rfl
     rw[e1,<-amL,Zo (by omega) hml,<-List.append_assoc];congr 1;have e2:(c::t).drop (n+sk)=((c::t).drop n).drop sk:=by rw[iz]
     rw[e2,<-List.take_add,show sk+(m-(n+sk))=m-n from by omega]
    have hdm:(c::t).drop m=((c::t).drop (n+sk)).drop (m-(n+sk)):=by rw[iz];congr 1;omega
    rw[ar8,VW hstop,iq,wW,apx,h0,<-hn,hdr];have hul:(((c::t).drop n).take sk).length=sk:=GM (by rw[ig];omega);have aAp: ∀v:Str,kQ false (((c::t).drop n).take sk++v)=sk+kQ f v:=fun v=>by rw[Ek false _ _ f s1,hul]
    have adE: ∀q (v:Str),(((c::t).drop n).take sk++v).drop (sk+q)=v.drop q:=by
     intro q v;rw[<-iz];congr 1;rw[iv (by omega),List.drop_of_length_le (by omega),iB]
    simp only[beq_self_eq_true,ju,aAp,adE,htk];cases f with
    |false=>
     rw[hdm];have:=i2 (b+n+(sk+kQ false (((c::t).drop (n+sk)).take (m-(n+sk))++(w::y++((c::t).drop (n+sk)).drop (m-(n+sk))))));generalize wW (nH j9) _ (b+n+(sk+_))=z' at this ⊢;rw[this.1];simp only[beq_self_eq_true,ju,jo];rw[this.2];exact⟨trivial,rfl⟩
    |true=>
     have ZG:=s2 rfl;obtain⟨f',hf'⟩:=au7
     have hm0:m-(n+sk)=0:=by
      have:=congrArg jn ZG;rw[ig,iA] at this;omega
     rw[hdm,ZG,hm0];simp only[iD,iB,List.drop_nil,List.append_nil];rw[akj hf',ji];rw[wW,wW];simp only[beq_self_eq_true,ju,jo,List.map_nil];exact⟨trivial,rfl⟩
theorem au8: ∀{r:Str}{a:Nat},(wW (nH j9) r a).2.2=0-> ∀t∈(wW (nH j9) r a).1,t.at_<=((a+r.length:Nat):Int):=by
 intro r;induction h:r.length using iw generalizing r with
 |ind d ih=>
  intro a he tok ht
  match r,h with
  |[],h=>
   grind [wW]
  |c::t,h=>
   obtain⟨n,sk,f,h0,hn,hn1,hnl,hsk,s1,s2,s3,hle,hz,heq⟩:=Ib he
   grind
theorem ahp(hs:j9.all CL=true)(h:s.length<=65536):ny j9 s=wW (nH j9) (s.drop (kQ false s)) (kQ false s):=by
 grind [ny]
theorem asc(hsy:j9.all CL=true){w:UInt8}(hw:spB j9 w)(hsp:GN false (w::y)=some false)(au7: ∃f,GN true (w::y)=some f)
 (h45:(w==45)=false\/ ∀r:Str,r.head?=some 45->(nH j9 r).2.2=0->2<=(nH j9 r).2.1) (hl:s.length+(w::y).length<=65536) (he:(ny j9 s).2.2=0) (t:j8) (ht:t∈(ny j9 s).1):
 0<=t.at_/\t.at_<=(s.length:Int)/\(ny j9 (s.take t.at_.toNat++(w::y)++s.drop t.at_.toNat)).2.2=0/\(ny j9 (s.take t.at_.toNat++(w::y)++s.drop t.at_.toNat)).1.map DJ=(ny j9 s).1.map DJ:=by
 have hs0:ny j9 s=wW (nH j9) (s.drop (kQ false s)) (kQ false s):=ahp hsy (by omega);rw[hs0] at he ht ⊢;have hge:=anJ he t ht;have hle:=au8 he t ht;rw[ig] at hle;have hsk:=wv false s;obtain⟨f,s1,s2,s3⟩:=AP false s;obtain⟨m,hm⟩: ∃m:Nat,t.at_=((kQ false s+m:Nat):Int):=⟨t.at_.toNat-kQ false s,by omega⟩;have hp:t.at_.toNat=kQ false s+m:=by omega
 refine⟨by omega,by omega,?_⟩;obtain⟨i1,i2⟩:=asb hw hsp au7 h45 (s.drop (kQ false s)) (kQ false s) m he s3 ⟨t,ht,hm⟩;rw[ig] at i1
 have hS:s.take t.at_.toNat++(w::y)++s.drop t.at_.toNat=s.take (kQ false s)++((s.drop (kQ false s)).take m++(w::y++(s.drop (kQ false s)).drop m)):=by
  simp_all [List.take_add]
 have hlen:(s.take t.at_.toNat++(w::y)++s.drop t.at_.toNat).length<=65536:=by
  grind
 rw[ahp hsy hlen,hS,Ek false _ _ f s1,GM hsk]
 have adE: ∀q (v:Str),(s.take (kQ false s)++v).drop (kQ false s+q)=v.drop q:=by
  intro q v;have hul:(s.take (kQ false s)).length=kQ false s:=GM hsk;rw[<-iz]
  grind
 rw[adE];cases f with
 |false=>exact i2 _
 |true=>
  have ZG:=s2 rfl
  have hm0:m=0:=by
   grind
  obtain⟨f',hf'⟩:=au7
  grind [akj]
theorem asd(h:(nH j9 (c::t)).2.2=0):(nH j9 (c::t)).1≠4:=by
 grind [nH,PA,Pq,Jp,Wy]
def anK(s:Str):Prop:=(s.length<=18/\Lib.atoi s=some (aah s))/\0<=aah s/\aah s<=999999
theorem anL: ∀(s:Str)(acc:Nat),s.all pq=true-> ∃m:Nat,Lib.decFrom acc s=some m/\(m:Int)=s.foldl (fun n c=>10*n+((c.toNat:Int)-48)) (acc:Int)/\m+1<=(acc+1)*10 ^ s.length
 |[],acc,_=>⟨acc,rfl,rfl,by simp⟩
 |c::t,acc,h=>by
  rw[je,iy] at h;have hd:=h.1;unfold pq at hd;rw[iy,jA,jA] at hd;obtain⟨m,h1,h2,h3⟩:=anL t (acc*10+(c.toNat-48)) h.2;refine⟨m,?_,?_,?_⟩
  ·grind [Lib.decFrom,Lib.digitVal]
  ·grind
  ·rw[ii,Nat.pow_succ,<-Nat.mul_assoc,Nat.mul_right_comm];exact Nat.le_trans h3 (Nat.mul_le_mul_right _ (by omega))
theorem au9(p:UInt8->Bool)(r:Str):(r.take (runT p r)).all p=true:=by
 grind [runT,List.prefix_iff_eq_take,List.takeWhile_prefix,List.all_takeWhile]
theorem axo{r:Str}(h:runT pq r<=6)(h1:1<=runT pq r):anK (r.take (runT pq r)):=by
 have ha:=au9 pq r;have hl:(r.take (runT pq r)).length=runT pq r:=GM (C5 pq r);revert ha hl;generalize hs:r.take (runT pq r)=s;intro ha hl;obtain⟨m,m1,m2,m3⟩:=anL s 0 ha;have hz:(m:Int)=aah s:=m2;have h6:10 ^ s.length<=10 ^ 6:=Nat.pow_le_pow_right (by decide) (by omega);refine⟨⟨by omega,?_⟩,by omega,by grind⟩
 match s,hl with
 |[],hl=>rw[iA] at hl;omega
 |c::t,hl=>
  rw[je,iy] at ha;have hd:=ha.1;unfold pq at hd;rw[iy,jA,jA] at hd
  have e1:(c==45)=false:=by
   rw[jC];intro e;simp_all
  have e2:(c==43)=false:=by
   rw[jC];intro e;simp_all
  grind [Lib.atoi,Lib.decNat]
theorem ava(h:(nH j9 (c::t)).2.2=0)(hk:(nH j9 (c::t)).1=1):anK ((c::t).take (nH j9 (c::t)).2.1):=by
 rw[nH] at h hk ⊢
 grind [PA,qC,Pq,axo,Jp,Wy]
inductive TkL(e:Nat):Nat->List j8->Prop
 |last:TkL e e [⟨4,[],(e:Int)⟩]
 |cons {a b:Nat} {k:Int} {x:Str} {l:List j8}:k≠4->1<=x.length->(k=1->anK x)->a+x.length<=b->TkL e b l->TkL e a (⟨k,x,(a:Int)⟩::l)
theorem azi: ∀{r:Str}{a:Nat},(wW (nH j9) r a).2.2=0->TkL (a+r.length) a (wW (nH j9) r a).1:=by
 intro r;induction h:r.length using iw generalizing r with
 |ind d ih=>
  intro a he
  match r,h with
  |[],h=>subst h;rw[wW];exact .last
  |c::t,h=>
   obtain⟨n,sk,f,h0,hn,hn1,hnl,hsk,s1,s2,s3,hle,hz,heq⟩:=Ib he;rw[heq];have hr:((c::t).drop (n+sk)).length=d-(n+sk):=by rw[ig,h]
   have:=ih ((c::t).drop (n+sk)).length (by rw[hr];omega) rfl hz;rw[show a+n+sk+((c::t).drop (n+sk)).length=a+d by rw[hr];omega] at this;refine .cons (asd h0) (by rw[GM hnl];exact hn1) (fun hk=> ?_) (by grind) this;rw[hn];exact ava h0 hk
namespace TkL
theorem pos {e:Nat}{l:List j8}(h:TkL e a l):0<l.length:=by cases h<;>simp
theorem le {e:Nat}{l:List j8}(h:TkL e a l):a<=e/\l.length+a<=e+1:=by
 induction h with
 |last=>simp;omega
 |cons h1 h2 h3 h4 _ ih=>rw[ii];omega
theorem mem {e:Nat}{l:List j8}(h:TkL e a l): ∀t∈l,(a:Int)<=t.at_/\t.at_+(t.text.length:Int)<=(e:Int)/\(t.kind=1->anK t.text):=by
 induction h with
 |last=>grind
 |cons h1 h2 h3 h4 h5 ih=>
  have:=h5.le
  grind
theorem next {e:Nat}{l:List j8}(h:TkL e a l): ∀(i:Nat)(hi:i+1<l.length),l[i].at_+(l[i].text.length:Int)<=l[i+1].at_/\l[i].at_<l[i+1].at_/\l[i].kind≠4:=by
 induction h with
 |last=>intro i hi;simp at hi
 |cons h1 h2 h3 h4 h5 ih=>
  intro i hi
  match i with
  |0=>
   have:=(h5.mem _ (ik h5.pos)).1
   grind
  |i+1=>
   grind
theorem apy {e:Nat}{l:List j8}(h:TkL e a l): ∀(i:Nat)(hi:i<l.length),i+1=l.length->l[i]=⟨4,[],(e:Int)⟩:=by
 induction h with
 |last=>grind
 |cons h1 h2 h3 h4 h5 ih=>
  intro i hi h
  match i with
  |0=>have:=h5.pos;rw[ii] at h;omega
  |i+1=>
   grind
end TkL
def Hv(j9:List Str)(s:Str)(a:Nat):List j8×Int×Int:=wW (nH j9) (s.drop (kQ false s)) (a+kQ false s)
theorem Jq(hs:j9.all CL=true)(h:s.length<=65536):ny j9 s=Hv j9 s 0:=by
 grind [ny,Hv]
theorem VY{w:UInt8}(hw:whB w=true)(s:Str)(a:Nat):Hv j9 (w::s) a=Hv j9 s (a+1):=by
 grind [Hv,kQ]
theorem Zp{r:Str}(h:Fy r=true)(a:Nat):Hv j9 r a=wW (nH j9) r a:=by
 unfold Hv;rw[VW h];rfl
theorem avb(a:Nat):Hv j9 [] a=([⟨4,[],(a:Int)⟩],0,0):=by
 grind [Hv,Ps,wW]
theorem akm{x:Str}: ∃r:Str,Fy r=true/\s.drop (kQ false s)=r/\(s++10::x).drop (kQ false (s++10::x))=(r++10::x).drop (kQ false (r++10::x))/\kQ false (s++10::x)=kQ false s+kQ false (r++10::x):=by
 obtain⟨f,s1,s2,s3⟩:=AP false s;have hsk:=wv false s;have e:s++10::x=s.take (kQ false s)++(s.drop (kQ false s)++10::x):=by grind [ja]
 have hk:=Ek false (s.take (kQ false s)) (s.drop (kQ false s)++10::x) f s1;rw[<-e,GM hsk] at hk
 have hk:kQ false (s++10::x)=kQ false s+kQ false (s.drop (kQ false s)++10::x):=by
  rw[hk];cases f with
  |false=>rfl
  |true=>rw[s2 rfl];rfl
 refine⟨_,s3,rfl,?_,hk⟩;rw[hk,<-iz]
 grind
theorem avc(hw:spB j9 10)(x:Str){L:List j8}: ∀(r:Str)(a:Nat),(wW (nH j9) r a).2.2=0->Fy r=true->Hv j9 (10::x) (a+r.length)=(L,0,0)->Hv j9 (r++10::x) a=((wW (nH j9) r a).1.dropLast++L,0,0):=by
 intro r;induction h:r.length using iw generalizing r with
 |ind d ih=>
  intro a he hst hL
  match r,h with
  |[],h=>
   grind [wW]
  |c::t,h=>
   rw[Zp (Vp (w:=10) (x:=x) hst (by simp) rfl)];obtain⟨n,sk,f,h0,hn,hn1,hnl,hsk,s1,s2,s3,hle,hz,heq⟩:=Ib he
   have apx:nH j9 (c::(t++10::x))=nH j9 (c::t):=by
    grind [aho,iQ]
   rw[il,wW,apx,h0,beq_self_eq_true,ju,<-hn]
   have ar9:(t++10::x).drop (n-1)=(c::t).drop n++10::x:=by
    rw[iv (by rw[ii] at hnl;omega)];obtain⟨j,rfl⟩: ∃j,n=j+1:=⟨n-1,by omega⟩;rfl
   have htk:(c::(t++10::x)).take n=(c::t).take n:=by
    grind
   obtain⟨r3,k1,k2,k3,k4⟩:=akm (s:=(c::t).drop n) (x:=x);have hr3:r3=(c::t).drop (n+sk):=by rw[<-k2,hsk,iz]
   have hi:=ih r3.length (by rw[hr3,ig];omega) r3 rfl (a+n+sk) (by rw[hr3];exact hz) k1 (by grind)
   simp_all [Hv,Nat.add_assoc,List.dropLast_cons_of_ne_nil,head_ne]
theorem avd(hw:spB j9 10){x:Str}{L:List j8}(he:(Hv j9 s a).2.2=0)(hL:Hv j9 (10::x) (a+s.length)=(L,0,0)):Hv j9 (s++10::x) a=((Hv j9 s a).1.dropLast++L,0,0):=by
 obtain⟨r,k1,k2,k3,k4⟩:=akm (s:=s) (x:=x);have hsk:=wv false s;have hr:r.length=s.length-kQ false s:=by rw[<-k2,ig]
 unfold Hv at he;rw[k2] at he;have:=avc hw x r (a+kQ false s) he k1 (by rw[hr,show a+kQ false s+(s.length-kQ false s)=a+s.length by omega];exact hL)
 grind [Hv]
theorem ahq(hs:j9.all CL=true)(hc:yf c=false/\pq c=false/\(c==34)=false/\RX c=false)(h1:[c]∈oV)(h2: ∀y∈oV,y.head?=some c->y=[c]\/t.take 1≠y.drop 1)(h3: ∀y∈oV,y.head?=some c->y.length<=2):nH j9 (c::t)=(2,1,0):=by
 obtain⟨c1,c2,c3,c4⟩:=hc
 have hv:uA (c::t) 0 (oV++j9)=1:=by
  obtain⟨a1,_,a3⟩:=CK (c::t) (oV++j9) 0;have hge:1<=uA (c::t) 0 (oV++j9):=a3 [c] (List.mem_append_left _ h1) rfl;rcases a1 with a1|⟨_,b2,b3⟩
  ·omega
  ·revert hge b2 b3;generalize uA (c::t) 0 (oV++j9)=v;intro hge b2 b3;obtain⟨v,rfl⟩: ∃k,v=k+1:=⟨v-1,by omega⟩;rw[iI] at b3;rcases jc.1 b3 with b3|b3
   ·have k3:=h3 _ b3 rfl;rcases h2 _ b3 rfl with k|k
    ·grind
    ·rw[ii] at b2;rw[ii,jh,Nat.min_eq_left (by omega)] at k3;obtain rfl|rfl:v=0\/v=1:=by omega
     all_goals grind
   grind [CL]
 grind [nH,Wy]
theorem anM{L:List j8}(hst:Fy (c::t)=true)(h:nH j9 (c::t)=(2,1,0))(hL:Hv j9 t (a+1)=(L,0,0)):Hv j9 (c::t) a=(⟨2,[c],(a:Int)⟩::L,0,0):=by
 rw[Zp hst,wW,h]
 grind [Hv]
theorem adP(hs:j9.all CL=true){L:List j8}(ht:t.head?≠some 41)(hL:Hv j9 t (a+1)=(L,0,0)):Hv j9 (40::t) a=(⟨2,[40],(a:Int)⟩::L,0,0):=by
 refine anM rfl (ahq hs (by decide) (by decide) (fun y hy h=> ?_) (by decide)) hL;have:y=[40]\/y=[40,41]:=by revert y;decide
 rcases this with rfl|rfl
 ·exact .inl rfl
 ·refine .inr fun e=>ht ?_
  cases t with
  |nil=>simp at e
  |cons d t=>simpa using e
theorem akn(hs:j9.all CL=true){L:List j8}(hL:Hv j9 t (a+1)=(L,0,0)):Hv j9 (41::t) a=(⟨2,[41],(a:Int)⟩::L,0,0):=by
 refine anM rfl (ahq hs (by decide) (by decide) (fun y hy h=> ?_) (by decide)) hL;have:y=[41]:=by revert y;decide
 exact .inl this
theorem axp(h:(Hv j9 s a).2.2=0):TkL (a+s.length) (a+kQ false s) (Hv j9 s a).1:=by
 have:=azi h;have hs:=wv false s;rw[ig,show a+kQ false s+(s.length-kQ false s)=a+s.length by omega] at this;exact this
theorem TkL.aAq{Z:Cx}{e:Nat}(h:TkL e a Z.T)(he:e<=70000)(hb:0<=Z.b/\Z.b<=100000):qU Z:=by
 have hl:=h.le;refine⟨h.pos,by omega,hb,fun t ht=> ?_,fun t ht hk=>(h.mem t ht).2.2 hk⟩;obtain⟨h1,h2,_⟩:=h.mem t ht;omega
theorem aeS{Z:Cx}(hi:i<Z.T.length):Z.S.F i=Z.b+Z.T[i].at_:=by simp [Cx.S,hi]
theorem ave{Z:Cx}(hi:i<Z.T.length):Z.S.E (i+1)=Z.b+(Z.T[i].at_+(Z.T[i].text.length:Int)):=by simp [Cx.S,hi]
theorem TkL.sok{Z:Cx}{e:Nat}(h:TkL e a Z.T):XL Z.S where
 last:=fun i hi hk=>by
  have hi:i<Z.T.length:=hi;rw[EP hi] at hk;show i+1<Z.T.length;rcases iP (i+1) Z.T.length with h1|h1
  ·exact h1
  ·have:=h.apy i hi (by omega)
   grind
 num:=fun i hi hk=>by
  have hi:i<Z.T.length:=hi;rw[EP hi] at hk ⊢;exact((h.mem _ (ik hi)).2.2 hk).2
theorem TkL.avf{Z:Cx}{e:Nat}(h:TkL e a Z.T):Pos Z.S where
 ef:=fun i hi=>by
  have hi:i<Z.T.length:=hi;rw[aeS hi]
  match i with
  |0=>
   have:=(h.mem _ (ik hi)).1;show Z.b<=_;omega
  |i+1=>
   rw[ave (by omega)];have:=(h.next i hi).1;omega
 fe:=fun i hi=>by
  have hi:i+1<Z.T.length:=hi;rw[aeS (by omega),ave (by omega)];omega
theorem TkL.inj{Z:Cx}{e:Nat}(h:TkL e a Z.T)(hij:i<j)(hj:j<Z.T.length):Z.S.F i<Z.S.F j:=by
 obtain⟨k,rfl⟩: ∃k,j=i+1+k:=⟨j-(i+1),by omega⟩;induction k with
 |zero=>
  have:=(h.next i hj).2.1;rw[aeS (by omega),aeS (by omega)]
  grind
 |succ k ih=>
  have h1:=ih (by omega) (by omega);have h2:=(h.next (i+1+k) hj).2.1;rw[aeS (by omega)] at h1 ⊢
  grind [aeS]
def npT(T:List jH)(l:List Syntax):Syntax×Int×Int:= @dite _ (∃o,GQ T (.level 0 l) o) (Classical.propDecidable _) (fun h=>nB l (Classical.choose h)) fun _=>(Pl,0,3)
def Zc(T:List jH)(s:Str):Cx:={T:=(ny (mb [] T) s).1,b:=0,tb:=T,sy:=mb [] T,np:=npT T}
structure Ma(T:List jH):Prop where
 few:au4 T
 nsm: ∀n∈T,Nsm n
namespace Ma
variable {T:List jH} (g:Ma T)
include g
theorem axq:T.length<=cap:=by have:=g.few.len;simp only[cap];omega
theorem ok:Wx T:=Wx.of g.few.tab
theorem ahr:N1 T<=8*T.length:=by
 have: ∀U:List jH,(∀n∈U,n.parts.length<=8)->N1 U<=8*U.length:=by
  intro U;induction U with
  |nil=>intro _;exact ir _
  |cons n U ih=>
   grind [MR]
 exact this T fun n hn=>(g.few.small n hn).1
theorem adQ:(mb [] T).length<=64:=by
 have h1:=afU T [];have h2:=g.ahr;have h3:=g.few.len;rw[iA] at h1;omega
theorem anN: ∀y∈mb [] T,y.length<=20:=by
 intro y hy;rcases aao hy with h|⟨n,hn,h1,_⟩
 ·cases h
 ·exact(g.few.small n hn).2.2 y h1
theorem anO:Ev (fun f=>yP f T) (mb [] T):=by
 have h2:=g.ahr;have h3:=g.few.len;exact ar3 T g.axq g.nsm (by simp only[cap];omega)
theorem npR: ∃o,GQ T (.level 0 l) o/\npT T l=nB l o:=by
 obtain⟨o,ho,_⟩:=GQ.total g.ok l.length 0 l (ir _);have h: ∃o,GQ T (.level 0 l) o:=⟨o,ho⟩
 grind [npT]
theorem axr(hl:l.length<=200){o:Out}(ho:GQ T (.level 0 l) o):Ev (fun n=>sZ n T l) (nB l o):=
 amF g.axq g.nsm (by simp only[cap];omega) g.few.tab (by omega) ho
theorem azj(hl:l.length<=200){o:Out}(ho:GQ T (.level 0 l) o):npT T l=nB l o:=by
 obtain⟨o',h1,h2⟩:=g.npR (l:=l);rw[h2];exact(g.axr hl h1).auy (g.axr hl ho)
omit g in
theorem aap{o:Out}(ho:GQ T (.level 0 l) o)(h:(nB l o).2.2=0): ∃x hh,o= .val x hh []/\nB l o=(x,0,0):=by
 rcases Kv ho rfl with⟨q,rfl⟩|⟨x,hh,q,rfl⟩
 ·exact absurd h (by simp [nB])
 ·cases q with
  |nil=>exact⟨x,hh,rfl,rfl⟩
  |cons y q=>exact absurd h (by simp [nB])
theorem azk(s:Str):apk (Zc T s):=by
 intro l _ hl;obtain⟨o,ho,e⟩:=g.npR (l:=l);have e:(Zc T s).np l=nB l o:=e;rw[e];refine⟨g.axr hl ho,?_⟩;rcases Kv ho rfl with⟨q,rfl⟩|⟨x,hh,q,rfl⟩
 ·exact iH _
 ·cases q with
  |nil=>exact iE _
  |cons y q=>exact iH _
theorem anP(s:Str):adv (Zc T s).S:=by
 intro l a b _ hc h0;obtain⟨o,ho,e⟩:=g.npR (l:=l);have e:(Zc T s).S.np l=nB l o:=e;rw[e] at h0 ⊢;obtain⟨x,hh,rfl,e2⟩:=aap ho h0;rw[e2];obtain⟨c1,c2,c3,_⟩:=(ho.chn g.ok:CI (.level 0 l) (.val x hh [])) a b hc;exact⟨c1,c2,c3⟩
theorem avg(hs:s.length<=65536):Ev (fun n=>Lt n s (mb [] T)) (ny (mb [] T) s):=
 au5 s (by simp only[LI];omega) _ (by have:=g.adQ;omega) fun y hy=>by have:=g.anN y hy;simp only[LI];omega
theorem tk(hs:s.length<=65536)(h:(ny (mb [] T) s).2.2=0):TkL s.length (kQ false s) (Zc T s).T:=by
 rw[Jq (GK g.ok) (by omega)] at h;have:=axp h;rw[jd,jd] at this;show TkL _ _ (ny (mb [] T) s).1;rw[Jq (GK g.ok) (by omega)];exact this
theorem ase(hs:s.length<=65536)(h:((ny (mb [] T) s).2.2==0)=false):0<=(ny (mb [] T) s).2.1/\(ny (mb [] T) s).2.1<=(s.length:Int):=by
 rw[ahp (GK g.ok) (by omega)] at h ⊢;have hk:=wv false s;obtain⟨f,s1,s2,s3⟩:=AP false s;obtain⟨_,h1,h2⟩:=akk (VX (GK g.ok) (w:=10) rfl) [] _ _ h s3;rw[ig] at h2;omega
end Ma
def p6(T:List jH)(s:Str):Syntax×Int×Int:=
 bif (ny (mb [] T) s).2.2==0 then(match (Zc T s).S.whole with| .ok x _=>(x,0,0)| .er e a=>(Pl,a,e)) else(Pl,(ny (mb [] T) s).2.1,(ny (mb [] T) s).2.2)
theorem MT{T:List jH}(g:Ma T)(hs:s.length<=65536):Ev (fun n=>xD n s T) (p6 T s):=by
 refine li.ev ?_;refine li.fn (fun n=>by simp only[xD,kq,NX,pu];exact rfl) ?_;have e0:decide ((65536:Int)<(s.length:Int))=false:=jx (by omega);simp only[e0,jv]
 have hnr: ∀sc,ny (mb [] T) s=sc->Ev (fun n=>C2 n s 0 (s.length:Int) (mb [] T)) (bif sc.2.2==0 then .ok ((),{tokens:=sc.1,next:=0,base:=0},()) else .pn ((),{e:=sc.2.2,at_:=IntKind.i64.wrap (0+sc.2.1)},())):=by
  intro sc hsc;refine Ev.fn (fun n=>by simp only[C2,kq,EI,pu];exact rfl) ?_;have e1:decide ((0:Int)<=0/\(0:Int)<=(s.length:Int)/\(s.length:Int)<=(s.length:Int))=true:=jw ⟨iE _,iH _,iE _⟩;simp only[e1,ju,iF,iQ,Int.toNat_zero,iq];refine Ev.bind (g.avg hs) ?_
  grind [Ev.pure]
 have hnr:=hnr _ rfl;unfold p6;cases he:(ny (mb [] T) s).2.2==0 with
 |false=>
  rw[he,jv] at hnr;have hb:=g.ase hs he;rw[Int.zero_add,wrap_small (by omega) (by omega)] at hnr
  have hnp:Ev (fun n=>vS n s 0 (s.length:Int) T) (.pn ((),{e:=(ny (mb [] T) s).2.2,at_:=(ny (mb [] T) s).2.1},())):=by
   refine Ev.fn (fun n=>by simp only[vS,kq,AG,pu];exact rfl) ?_;exact Ev.bind g.anO (Ev.bind hnr Ev.pure)
  refine Ev.to hnp ?_;simp only[BQ,jv];refine Ev.tot (Ev.bind (x:=(((Pl,()),((ny (mb [] T) s).2.1,()),((ny (mb [] T) s).2.2,()),()),())) ?_ Ev.pure) rfl;refine Ev.fn (fun n=>by simp only[qB,kq,Am,mB];exact rfl) ?_;refine Ev.bind (x:=((),{e:=(ny (mb [] T) s).2.2,at_:=(ny (mb [] T) s).2.1},())) ?_ Ev.pure;refine Ev.fn (fun n=>by simp only[Ik,kq,Er,mB];exact rfl) ?_;exact Ev.pure
 |true=>
  rw[he,ju] at hnr
  have hnp:Ev (fun n=>vS n s 0 (s.length:Int) T) (.ok ((((Zc T s).st 0 0,()),()),())):=by
   refine Ev.fn (fun n=>by simp only[vS,kq,AG,pu];exact rfl) ?_;exact Ev.bind g.anO (Ev.bind hnr Ev.pure)
  refine Ev.to hnp ?_;simp only[BQ,ju];have ht:=g.tk hs (jB.1 he);have hlen:=g.adQ;exact apm (ht.aAq (by omega) ⟨iE _,by show(0:Int)<=100000;decide⟩) ht.sok ht.avf (g.anP s) (fun y=>aaX (mb [] T) y (by simp only[cap];omega)) (g.azk s)
theorem adR{T:List jH}(g:Ma T)(hs:s.length<=65536)(h:(p6 T s).2.2=0):Rg (p6 T s).1/\0<=(p6 T s).1.from_/\(p6 T s).1.to<=(s.length:Int):=by
 unfold p6 at h ⊢;cases he:(ny (mb [] T) s).2.2==0 with
 |false=>grind
 |true=>
  rw[he,ju] at h;rw[ju];have ht:=g.tk hs (jB.1 he);have hp:=ht.pos;have hw:=ht.sok.whole ht.avf (g.anP s) (by show(Zc T s).T.length<=100000;have:=ht.le;omega) ht.pos;cases hq:(Zc T s).S.whole with
  |er e a=>
   exact⟨.adu (by decide) (iE _),iE _,iH _⟩
  |ok x j=>
   rw[hq] at hw;obtain⟨h1,h2,h3,h4⟩:=hw;refine⟨h1,?_,?_⟩
   ·rw[aeS hp] at h2;have:=(ht.mem _ (ik hp)).1
    grind [Zc]
   ·show x.to<=_;have h4:j<(Zc T s).T.length:=h4
    match j,h4,h3 with
    |0,_,h3=>exact Int.le_trans h3 (iH _)
    |j+1,h4,h3=>
     rw[ave (by omega)] at h3;have:=(ht.mem _ (ik (show j<(Zc T s).T.length by omega))).2.1
     grind [Zc]
theorem GO{Q:Bool->Prop}(q:Q true):li (fun n=>(vR n).bind fun x=>some x) Q:=Ev.tot apo q
theorem anQ{x0:Str}{x1:List jH}(h:(x0.length+1)+GS jH.Ks x1<=1048576):x1.length<=cap/\ ∀n∈x1,Nsm n:=by
 grind [adK,jH.Ks,Nsm.of,Zl]
theorem aeT(x0:Str)(x1:List jH)(h:(x0.length+1)+GS jH.Ks x1<=1048576)(_:True)(_: ∀y∈x1,y.wf): ∃n,EL n x0 x1=some true:=by
 obtain⟨h1,h2⟩:=anQ h;refine MS (li.ev ?_);refine li.fn (fun n=>by simp only[EL,kq,CC,mB];exact rfl) ?_;refine li.pO (fun _=>GO rfl) fun hl=> ?_
 have hl:=jz hl;refine li.bind (ab1 h1 h2) fun b hb=> ?_
 cases b with
 |false=>exact GO rfl
 |true=>
  have g:Ma x1:=⟨hb rfl,h2⟩;simp only[ju];refine Ev.to (MT g (by omega)) (Ev.to Pz ?_);simp only[ju];cases he:(p6 x1 x0).2.2==0 with
  |false=>simp only[bne,he,iG,ju];exact li.pure rfl
  |true=>
   obtain⟨r1,r2,r3⟩:=adR g (by omega) (jB.1 he);simp only[bne,he,iL,jv];refine Ev.to (apq r1) ?_;simp only[ju,jw r2,jw r3];exact li.pure rfl
section
variable (S S':Src) (δ:Nat)
def Zq(f f':Int):Prop:= ∃a,a+1<S.len/\f=S.F a/\f'=S'.F (a+δ)
def AtE(t t':Int):Prop:= ∃b,0<b/\b<S.len/\t=S.E b/\t'=S'.E (b+δ)
inductive Sm:Syntax->Syntax->Prop
 |mk {k:Int} {s:Str} {n:Int} {ns:List Str} {ls:List jM} {ks ks':List Syntax} {f f' t t':Int} (hl:ks.length=ks'.length) (hk: ∀(i:Nat)(h1:i<ks.length)(h2:i<ks'.length),Sm ks[i] ks'[i])
   (hf:Zq S S' δ f f'\/AtE S S' δ f f') (ht:AtE S S' δ t t') (h13:k=13->ks.length=2/\Zq S S' δ f f'):Sm (.mk k s n ns ls ks f t) (.mk k s n ns ls ks' f' t')
def RS(dp:Bool)(R:α->α->Nat->Prop):Rs α->Rs α->Prop
 | .ok x j,r=>(∃x',r= .ok x' (j+δ)/\j<S.len/\R x x' j)\/(dp=true/\ ∃a,r= .er 7 a)
 | .er _ _,_=>True
structure Win:Prop where
 pos:0<S.len
 K: ∀i,i+1<S.len->S'.K (i+δ)=S.K i
 apz: ∀i,i+1=S.len->(S.K i).1=4
 stop: ∀i,i+1=S.len->(S'.K (i+δ)).1=4\/S'.K (i+δ)=(2,[41])
 len:S.len+δ<=S'.len
 isS:S'.isS=S.isS
 par:S.isS [41]=false
 inj: ∀i j,i<S.len->j<S.len->(S.F i=S.F j↔S'.F (i+δ)=S'.F (j+δ))
 np: ∀l l':List Syntax,l≠[]->l.length<=200->l.length=l'.length->(∀(i:Nat)(h1:i<l.length)(h2:i<l'.length),Sm S S' δ l[i] l'[i]/\Zq S S' δ l[i].from_ l'[i].from_)->(S.np l).2.2=0->
  (S'.np l').2.2=0/\Sm S S' δ (S.np l).1 (S'.np l').1/\Zq S S' δ (S.np l).1.from_ (S'.np l').1.from_
end
section
variable {S S':Src} {δ:Nat} {dp:Bool}
theorem RS.ok{x x':α}(hj:j<S.len)(h:R x x' j):RS S δ dp R (.ok x j) (.ok x' (j+δ)):= .inl ⟨_,rfl,hj,h⟩
theorem RS.bind{Q:β->β->Nat->Prop}{r:Rs α}{f f':α->Nat->Rs β}(h:RS S δ dp R r r')(hf: ∀x x' j,j<S.len->R x x' j->RS S δ dp Q (f x j) (f' x' (j+δ))):RS S δ dp Q (r.bind f) (r'.bind f'):=by
 cases r with
 |er e a=>trivial
 |ok x j=>
  rcases h with⟨x',rfl,hj,hx⟩|⟨hd,a,rfl⟩
  ·exact hf x x' j hj hx
  ·show RS S δ dp Q (f x j) (.er 7 a);cases f x j with
   |er e a=>trivial
   |ok y q=>exact .inr ⟨hd,a,rfl⟩
theorem RS.imp {Q:α->α->Nat->Prop}{r:Rs α}(h:RS S δ dp R r r')(hf: ∀x x' j,j<S.len->R x x' j->Q x x' j):RS S δ dp Q r r':=by
 cases r with
 |er e a=>trivial
 |ok x j=>
  rcases h with⟨x',rfl,hj,hx⟩|h
  ·exact .inl ⟨x',rfl,hj,hf _ _ _ hj hx⟩
  ·exact .inr h
theorem RS.pO{c c':Bool}{r s s':Rs α}(hc:c'=c)(h1:c=true->RS S δ dp R r r')(h2:c=false->RS S δ dp R s s'):RS S δ dp R (bif c then r else s) (bif c' then r' else s'):=by
 grind
namespace Win
variable (w:Win S S' δ)
include w
theorem inn(hi:i<S.len)(f:Int×Str->Bool)(h4: ∀s,f (4,s)=false)(hf:f (S.K i)=true):i+1<S.len:=by
 rcases iP (i+1) S.len with h|h
 ·exact h
 ·have:=w.apz i (by omega)
  grind
theorem tst(hi:i<S.len)(f:Int×Str->Bool)(h4: ∀s,f (4,s)=false)(h41:f (2,[41])=false):f (S'.K (i+δ))=f (S.K i):=by
 rcases iP (i+1) S.len with h|h
 ·rw[w.K i h]
 ·have h1:=w.apz i (by omega);rw[show S.K i=(4,(S.K i).2) by rw[<-h1],h4];rcases w.stop i (by omega) with h2|h2
  all_goals grind
theorem nx(h:i+1<S.len):S.nx i=i+1/\S'.nx (i+δ)=i+1+δ:=by
 have:=w.len
 grind [Src.nx]
theorem sym{i:Nat}(hi:i<S.len){s:Str}(hs:([41]==s)=false):S'.sym s (i+δ)=S.sym s i:=w.tst hi (fun k=>k.1==2&&k.2==s) (fun _=>rfl) (by rw[hs];rfl)
theorem key(hi:i<S.len)(s:Str):S'.key s (i+δ)=S.key s i:=w.tst hi (fun k=>k.1==3&&k.2==s) (fun _=>rfl) rfl
theorem SC(hi:i<S.len)(h:S.sym s i=true):i+1<S.len:=w.inn hi (fun k=>k.1==2&&k.2==s) (fun _=>rfl) h
theorem apA(hi:i<S.len)(h:S.key s i=true):i+1<S.len:=w.inn hi (fun k=>k.1==3&&k.2==s) (fun _=>rfl) h
theorem kind(hi:i<S.len)(k:Int)(h4:((4:Int)==k)=false)(h2:((2:Int)==k)=false):((S'.K (i+δ)).1==k)=((S.K i).1==k):=w.tst hi (fun q=>q.1==k) (fun _=>h4) h2
theorem avK(hi:i<S.len)(h4:((4:Int)==k)=false)(h:((S.K i).1==k)=true):i+1<S.len:=w.inn hi (fun q=>q.1==k) (fun _=>h4) h
theorem isVar(hi:i<S.len):S'.isVar (i+δ)=S.isVar i:=w.tst hi (fun k=>(k.1==0&& !ajJ k.2)||(k.1==2&&k.2==[95])) (fun _=>rfl) rfl
theorem asf(hi:i<S.len)(h:S.isVar i=true):i+1<S.len:=w.inn hi (fun k=>(k.1==0&& !ajJ k.2)||(k.1==2&&k.2==[95])) (fun _=>rfl) h
theorem simple(hi:i<S.len):S'.simple (i+δ)=S.simple i:=w.tst hi (fun k=>k.1==0&& !ajJ k.2) (fun _=>rfl) rfl
theorem avh(hi:i<S.len)(h:S.simple i=true):i+1<S.len:=w.inn hi (fun k=>k.1==0&& !ajJ k.2) (fun _=>rfl) h
def bgn(k:Int×Str):Bool:=k.1==0||k.1==1||(k.1==2&&k.2==[40])||(k.1==2&&k.2==[40,41])||(k.1==2&&k.2==[95])||(k.1==2&&k.2==[64])||(k.1==3&&k.2==[80,114,111,112])||(k.1==3&&k.2==[84,121,112,101])||(k.1==3&&k.2==[98,121])
theorem vN(hi:i<S.len):S'.vN (i+δ)=S.vN i:=w.tst hi bgn (fun _=>rfl) rfl
theorem BN(hi:i<S.len):S'.BN (i+δ)=S.BN i:=by
 have:=w.tst hi (fun k=>k.1==2&&(!(k.2==[95])&&S.isS k.2)) (fun _=>rfl) (by rw[w.par];rfl);unfold Src.BN;rw[w.isS];exact this
theorem axs(hi:i<S.len)(h:S.BN i=true):i+1<S.len:=w.inn hi (fun k=>k.1==2&&(!(k.2==[95])&&S.isS k.2)) (fun _=>rfl) h
theorem dem(ho:o<=i)(hi:i<S.len)(f:Int×Str->Bool)(h4: ∀s,f (4,s)=false)(g:Int×Str->α):RS S δ dp (fun x x' j=>x=x'/\o<j) (bif f (S.K i) then .ok (g (S.K i)) (S.nx i) else S.bad i) (bif f (S'.K (i+δ)) then .ok (g (S'.K (i+δ))) (S'.nx (i+δ)) else S'.bad (i+δ)):=by
 cases hf:f (S.K i) with
 |false=>trivial
 |true=>
  have h:=w.inn hi f h4 hf;obtain⟨e1,e2⟩:=w.nx h;rw[w.K i h,hf,e1,e2];exact .ok h ⟨rfl,by omega⟩
theorem take(ho:o<=i)(hi:i<S.len)(s:Str):RS S δ dp (fun _ _ j=>o<j) (S.take s i) (S'.take s (i+δ)):=
 (w.dem ho hi (fun k=>(k.1==2&&k.2==s)||(k.1==3&&k.2==s)) (fun _=>rfl) fun _=>()).imp fun _ _ _ _ h=>h.2
theorem var(ho:o<=i)(hi:i<S.len):RS S δ dp (fun x x' j=>x=x'/\o<j) (S.var i) (S'.var (i+δ)):=w.dem ho hi (fun k=>(k.1==0&& !ajJ k.2)||(k.1==2&&k.2==[95])) (fun _=>rfl) fun k=>k.2
theorem Jn(ho:o<=i)(hi:i<S.len):RS S δ dp (fun x x' j=>x=x'/\o<j) (S.Jn i) (S'.Jn (i+δ)):=w.dem ho hi (fun k=>k.1==0&& !ajJ k.2) (fun _=>rfl) fun k=>k.2
theorem name(ho:o<=i)(hi:i<S.len):RS S δ dp (fun x x' j=>x=x'/\o<j) (S.name i) (S'.name (i+δ)):=w.dem ho hi (fun k=>k.1==0) (fun _=>rfl) fun k=>k.2
theorem num(ho:o<=i)(hi:i<S.len):RS S δ dp (fun x x' j=>x=x'/\o<j) (S.num i) (S'.num (i+δ)):=w.dem ho hi (fun k=>k.1==1) (fun _=>rfl) fun k=>aah k.2
theorem Dn{o:Nat}: ∀(m:Nat)(out:List Str)(i:Nat),o<i->i<S.len->RS S δ dp (fun x x' j=>x=x'/\o<j) (S.Dn m out i) (S'.Dn m out (i+δ))
 |0,out,i,ho,hi=> .pO (w.isVar hi) (fun _=>trivial) fun _=> .ok hi ⟨rfl,ho⟩
 |m+1,out,i,ho,hi=>by
  unfold Src.Dn;refine .pO (w.isVar hi) (fun hc=> ?_) fun _=> .ok hi ⟨rfl,ho⟩
  have h:=w.asf hi hc;obtain⟨e1,e2⟩:=w.nx h;rw[w.K i h,e1,e2];exact Dn m _ _ (by omega) h
theorem vars(ho:o<=i)(hi:i<S.len):RS S δ dp (fun x x' j=>x=x'/\o<j) (S.vars i) (S'.vars (i+δ)):=
 (w.var ho hi).bind fun s s' j hj ⟨e,h⟩=>by subst e;exact w.Dn 199 [s] j h hj
theorem listed{α:Type}{o:Nat}{one one':Nat->Rs (List α)}(h1: ∀i,o<i->i<S.len->RS S δ dp (fun x x' j=>x=x'/\o<j) (one i) (one' (i+δ))): ∀(m:Nat)(out:List α)(i:Nat),o<i->i<S.len->
 RS S δ dp (fun x x' j=>x=x'/\o<j) (S.listed one m out i) (S'.listed one' m out (i+δ))
 |0,_,_,_,_=>trivial
 |m+1,out,i,ho,hi=>by
  unfold Src.listed;refine(h1 i ho hi).bind fun l l' j hj ⟨e,h⟩=> ?_
  subst e;refine .pO (w.sym hj rfl) (fun hc=> ?_) fun _=> .ok hj ⟨rfl,h⟩
  have h2:=w.SC hj hc;obtain⟨e1,e2⟩:=w.nx h2;rw[e1,e2];exact listed h1 m _ _ (by omega) h2
theorem plus{out:List jP}(ho:o<i)(hi:i<S.len):RS S δ dp (fun x x' j=>x=x'/\o<j) (S.plus out i) (S'.plus out (i+δ)):=by
 unfold Src.plus;refine .pO (w.sym hi rfl) (fun hc=> ?_) fun _=> .ok hi ⟨rfl,ho⟩
 have h:=w.SC hi hc;obtain⟨e1,e2⟩:=w.nx h;rw[e1,e2];refine(w.num (o:=o) (by omega) h).bind fun n n' j hj ⟨e,h⟩=> ?_
 subst e;exact .pO rfl (fun _=> .ok hj ⟨rfl,h⟩) fun _=>trivial
theorem qw{o:Nat}: ∀(f f' i:Nat),f<=f'->o<=i->i<S.len->RS S δ dp (fun x x' j=>x=x'/\o<j) (S.qw f i) (S'.qw f' (i+δ))
 |0,_,_,_,_,_=>trivial
 |f+1,0,i,hf,_,_=>by omega
 |f+1,f'+1,i,hf,ho,hi=>by
  unfold Src.qw;have hl:=w.len;refine RS.bind (R:=fun x x' j=>x=x'/\o<j) ?_ fun l l' j hj ⟨e,h⟩=>by subst e;exact w.plus h hj
  refine .pO (w.kind hi 1 rfl rfl) (fun _=> ?_) fun _=> ?_
  ·exact(w.num ho hi).bind fun n n' j hj ⟨e,h⟩=>by subst e;exact .ok hj ⟨rfl,h⟩
  ·have es:RS S δ dp (fun x x' j=>x=x'/\o<j) ((S.Jn i).bind fun s j=> .ok [({name:=s,plus:=0}:jP)] j) ((S'.Jn (i+δ)).bind fun s j=> .ok [({name:=s,plus:=0}:jP)] j):=
    (w.Jn ho hi).bind fun n n' j hj ⟨e,h⟩=>by subst e;exact .ok hj ⟨rfl,h⟩
   have em:S'.is 0 [109,97,120] (i+δ)=S.is 0 [109,97,120] i:=w.tst hi (fun k=>k.1==0&&k.2==[109,97,120]) (fun _=>rfl) rfl;rw[em];cases hm:S.is 0 [109,97,120] i with
   |false=>exact es
   |true=>
    have h1:i+1<S.len:=w.inn hi (fun k=>k.1==0&&k.2==[109,97,120]) (fun _=>rfl) hm;have e1:decide (i+1<S.len)=true:=jw h1;have e2:decide (i+δ+1<S'.len)=true:=jw (by omega);have e3:S'.sym [40] (i+δ+1)=S.sym [40] (i+1):=by rw[show i+δ+1=i+1+δ by omega];exact w.sym h1 rfl
    simp only[e1,e2,e3,iM];cases hs:S.sym [40] (i+1) with
    |false=>exact es
    |true=>
     have h2:=w.SC h1 hs;obtain⟨a1,a2⟩:=w.nx h1;obtain⟨b1,b2⟩:=w.nx h2;rw[a1,a2,b1,b2];refine(w.listed (o:=o) (fun i ho hi=>qw f f' i (by omega) (by omega) hi) 200 [] _ (by omega) h2).bind fun l l' j hj ⟨e,h⟩=> ?_
     subst e;exact(w.take (o:=o) (by omega) hj _).bind fun _ _ k hk h=> .ok hk ⟨rfl,h⟩
theorem level{o i:Nat}(ho:o<=i)(hi:i<S.len):RS S δ dp (fun x x' j=>x=x'/\o<j) (S.level i) (S'.level (i+δ)):=by
 unfold Src.level;have hl:=w.len;refine .pO (w.sym hi rfl) (fun hc=> ?_) fun _=> ?_
 ·have h:=w.SC hi hc;obtain⟨e1,e2⟩:=w.nx h;rw[e1,e2];exact .ok h ⟨rfl,by omega⟩
 ·exact(w.qw S.len S'.len i (by omega) ho hi).bind fun l l' j hj ⟨e,h⟩=>by subst e;exact .ok hj ⟨rfl,h⟩
theorem one(ho:o<i)(hi:i<S.len):RS S δ dp (fun x x' j=>x=x'/\o<j) (S.one i) (S'.one (i+δ)):=by
 unfold Src.one;refine .pO (w.kind hi 1 rfl rfl) (fun _=> ?_) fun _=> .pO (w.simple hi) (fun hc=> ?_) fun _=> .pO (w.sym hi rfl) (fun hc=> ?_) fun _=> ?_
 ·exact(w.num (Nat.le_of_lt ho) hi).bind fun n n' j hj ⟨e,h⟩=>by subst e;exact .ok hj ⟨rfl,h⟩
 ·have h:=w.avh hi hc;obtain⟨e1,e2⟩:=w.nx h;rw[w.K i h,e1,e2];exact .ok h ⟨rfl,by omega⟩
 ·have h:=w.SC hi hc;obtain⟨e1,e2⟩:=w.nx h;rw[e1,e2];refine(w.level (o:=o) (by omega) h).bind fun n n' j hj ⟨e,h⟩=> ?_
  subst e;exact(w.take (o:=o) (by omega) hj _).bind fun _ _ k hk h=> .ok hk ⟨rfl,h⟩
 ·rw[w.sym hi rfl];cases hs:S.sym [95] i with
  |false=>exact .ok hi ⟨rfl,ho⟩
  |true=>
   have h:=w.SC hi hs;obtain⟨e1,e2⟩:=w.nx h;rw[ju,ju,e1,e2];exact .ok h ⟨rfl,by omega⟩
theorem levels(ho:o<i)(hi:i<S.len):RS S δ dp (fun x x' j=>x=x'/\o<j) (S.levels i) (S'.levels (i+δ)):=by
 unfold Src.levels;refine .pO (w.sym hi rfl) (fun hc=> ?_) fun _=> .ok hi ⟨rfl,ho⟩
 have h:=w.SC hi hc;obtain⟨e1,e2⟩:=w.nx h;rw[e1,e2];refine(w.listed (o:=o) (one':=fun i=>(S'.level i).bind fun l j=> .ok [l] j) (fun i ho hi=> ?_) 200 [] _ (by omega) h).bind fun l l' j hj ⟨e,h⟩=> ?_
 ·exact(w.level (Nat.le_of_lt ho) hi).bind fun l l' j hj ⟨e,h⟩=>by subst e;exact .ok hj ⟨rfl,h⟩
 ·subst e;exact(w.take (o:=o) (by omega) hj _).bind fun _ _ k hk h=> .ok hk ⟨rfl,h⟩
end Win
end
section
variable {S S':Src} {δ:Nat} {dp:Bool}
def RE(S S':Src)(δ o:Nat)(x x':Syntax)(j:Nat):Prop:=o<j/\Sm S S' δ x x'/\Zq S S' δ x.from_ x'.from_
def Q9(S S':Src)(δ:Nat)(l l':List Syntax):Prop:=l.length=l'.length/\ ∀(i:Nat)(h1:i<l.length)(h2:i<l'.length),Sm S S' δ l[i] l'[i]/\Zq S S' δ l[i].from_ l'[i].from_
theorem Q9.nil:Q9 S S' δ [] []:=⟨rfl,fun i h1=>by simp at h1⟩
theorem Q9.snoc(h:Q9 S S' δ l l')(hx:Sm S S' δ x x')(hf:Zq S S' δ x.from_ x'.from_):Q9 S S' δ (l++[x]) (l'++[x']):=by
 obtain⟨h1,h2⟩:=h;refine⟨by simp [h1],fun i a b=> ?_⟩
 grind
theorem Q9.sm(h:Q9 S S' δ l l'): ∀(i:Nat)(h1:i<l.length)(h2:i<l'.length),Sm S S' δ l[i] l'[i]:=fun i a b=>(h.2 i a b).1
theorem Sm.two{n:Int}{y y':Syntax}{t:Int}(hx:Sm S S' δ x x')(hy:Sm S S' δ y y')(hf:Zq S S' δ f f')(ht:AtE S S' δ t t'):Sm S S' δ (.mk k s n [] [] [x,y] f t) (.mk k s n [] [] [x',y'] f' t'):=by
 refine .mk rfl (fun i h1 h2=> ?_) (.inl hf) ht fun _=>⟨rfl,hf⟩
 grind
theorem Sm.one{n:Int}{t:Int}(h13:k≠13)(hx:Sm S S' δ x x')(hf:Zq S S' δ f f')(ht:AtE S S' δ t t'):Sm S S' δ (.mk k s n [] [] [x] f t) (.mk k s n [] [] [x'] f' t'):=by
 refine .mk rfl (fun i h1 h2=> ?_) (.inl hf) ht fun e=>absurd e h13
 grind
theorem Sm.leaf{n:Int}{t:Int}(h13:k≠13)(hf:Zq S S' δ f f')(ht:AtE S S' δ t t'):Sm S S' δ (.mk k s n ns ls [] f t) (.mk k s n ns ls [] f' t'):=
 .mk rfl (fun i h1=>by simp at h1) (.inl hf) ht fun e=>absurd e h13
theorem Sm.arC{n:Int}{t:Int}(h13:k≠13)(h:Q9 S S' δ l l')(hf:Zq S S' δ f f')(ht:AtE S S' δ t t'):Sm S S' δ (.mk k s n ns ls l f t) (.mk k s n ns ls l' f' t'):=
 .mk h.1 h.sm (.inl hf) ht fun e=>absurd e h13
theorem Sm.to(h:Sm S S' δ x x'):AtE S S' δ x.to x'.to:=by cases h;assumption
theorem Sm.kind(h:Sm S S' δ x x'):x'.kind=x.kind:=by cases h;rfl
theorem Sm.GJ(h:Sm S S' δ x x')(hf:Zq S S' δ f f'):Sm S S' δ (Src.GJ x f) (Src.GJ x' f'):=by
 cases h with
 |mk a b c d e=>exact .mk a b (.inl hf) d fun q=>⟨(e q).1,hf⟩
theorem atF(hi:i+1<S.len):Zq S S' δ (S.F i) (S'.F (i+δ)):=⟨i,hi,rfl,rfl⟩
theorem atE(h:o<j)(hj:j<S.len):AtE S S' δ (S.E j) (S'.E (j+δ)):=⟨j,by omega,hj,rfl,rfl⟩
def Nw(S S':Src)(δ:Nat)(dp:Bool)(r r':Nat->Rs Syntax):Prop:= ∀o i,o<=i->i<S.len->RS S δ dp (RE S S' δ o) (r i) (r' (i+δ))
def RF_(S S':Src)(δ i:Nat)(x x':Syntax)(j:Nat):Prop:=i<j/\ ∃k s n ls ks ks',k≠13/\x= .mk k s n [] ls ks (S.F i) 0/\x'= .mk k s n [] ls ks' (S'.F (i+δ)) 0/\Q9 S S' δ ks ks'
namespace Win
variable (w:Win S S' δ) {ex ta Ra Wz:Nat->Rs Syntax}
include w
theorem alts(w4:Nw S S' δ dp ta Wz){o:Nat}: ∀(m:Nat)(x x':Syntax)(i:Nat),i<S.len->RE S S' δ o x x' i->RS S δ dp (RE S S' δ o) (S.alts ta m x i) (S'.alts Wz m x' (i+δ))
 |0,x,x',i,hi,hx=> .pO (w.sym hi rfl) (fun _=>trivial) fun _=> .ok hi hx
 |m+1,x,x',i,hi,hx=>by
  unfold Src.alts;refine .pO (w.sym hi rfl) (fun hc=> ?_) fun _=> .ok hi hx
  have h:=w.SC hi hc;obtain⟨e1,e2⟩:=w.nx h;rw[e1,e2];obtain⟨h1,h2,h3⟩:=hx;exact(w4 o _ (by omega) h).bind fun y y' j hj ⟨k1,k2,k3⟩=>alts w4 m _ _ j hj ⟨k1,.two h2 k2 h3 k2.to,h3⟩
theorem alt(w4:Nw S S' δ dp ta Wz):Nw S S' δ dp (S.alt ta) (S'.alt Wz):=fun o i ho hi=>(w4 o i ho hi).bind fun x x' j hj hx=>w.alts w4 199 x x' j hj hx
theorem Jo(w4:Nw S S' δ dp ta Wz){o:Nat}: ∀(m:Nat)(out out':List Syntax)(i:Nat),o<i->i<S.len->Q9 S S' δ out out'->RS S δ dp (fun l l' j=>o<j/\Q9 S S' δ l l') (S.Jo ta m out i) (S'.Jo Wz m out' (i+δ))
 |0,out,out',i,ho,hi,hs=>by
  unfold Src.Jo;exact .pO (w.sym hi rfl) (fun _=> .ok hi ⟨ho,hs⟩) fun _=>trivial
 |m+1,out,out',i,ho,hi,hs=>by
  unfold Src.Jo;refine .pO (w.sym hi rfl) (fun _=> .ok hi ⟨ho,hs⟩) fun _=>(w.alt w4 o i (by omega) hi).bind fun x x' j hj ⟨k1,k2,k3⟩=> .pO (w.sym hj rfl) (fun hc=> ?_) fun _=> .ok hj ⟨k1,hs.snoc k2 k3⟩
  have h:=w.SC hj hc;obtain⟨e1,e2⟩:=w.nx h;rw[e1,e2];exact Jo w4 m _ _ _ (by omega) h (hs.snoc k2 k3)
theorem block(w4:Nw S S' δ dp ta Wz)(ho:o<=i)(hi:i<S.len):RS S δ dp (fun l l' j=>o<j/\Q9 S S' δ l l') (S.block ta i) (S'.block Wz (i+δ)):=by
 unfold Src.block;refine(w.take (o:=o) ho hi _).bind fun _ _ k hk h1=>(w.Jo w4 200 [] [] k h1 hk .nil).bind fun l l' j hj ⟨h2,h3⟩=> ?_
 exact(w.take (o:=o) (by omega) hj _).bind fun _ _ q hq h4=> .ok hq ⟨h4,h3⟩
theorem fill(w4:Nw S S' δ dp ta Wz)(hi:i<S.len):RS S δ dp (RF_ S S' δ i) (S.fill ta i) (S'.fill Wz (i+δ)):=by
 have fix: ∀{k n:Int},k≠13->i+1<S.len->RS S δ dp (RF_ S S' δ i) (.ok (.mk k [] n [] [] [] (S.F i) 0) (S.nx i)) (.ok (.mk k [] n [] [] [] (S'.F (i+δ)) 0) (S'.nx (i+δ))):=fun h13 h=>by
  obtain⟨e1,e2⟩:=w.nx h;rw[e1,e2];exact .ok h ⟨by omega,_,_,_,_,_,_,h13,rfl,rfl,.nil⟩
 have lev: ∀{s:Str}{n:Int}{j:Nat},i<j->j<S.len->RS S δ dp (RF_ S S' δ i) ((S.levels j).bind fun l k=> .ok (.mk 0 s n [] l [] (S.F i) 0) k) ((S'.levels (j+δ)).bind fun l k=> .ok (.mk 0 s n [] l [] (S'.F (i+δ)) 0) k):=fun a b=>
  (w.levels a b).bind fun l l' k hk ⟨e,h⟩=>by subst e;exact .ok hk ⟨h,_,_,_,_,_,_,by decide,rfl,rfl,.nil⟩
 unfold Src.fill
 refine .pO (w.kind hi 0 rfl rfl) (fun hc=> ?_) fun _=> .pO (w.sym hi rfl) (fun hc=> ?_) fun _=> .pO (w.sym hi rfl) (fun hc=>fix (by decide) (w.SC hi hc)) fun _=> .pO (w.kind hi 1 rfl rfl) (fun hc=> ?_) fun _=>
  .pO (w.key hi _) (fun hc=>fix (by decide) (w.apA hi hc)) fun _=> .pO (w.key hi _) (fun hc=> ?_) fun _=> .pO (w.sym hi rfl) (fun hc=>fix (by decide) (w.SC hi hc)) fun _=> .pO (w.key hi _) (fun hc=> ?_) fun _=>trivial
 ·have h:=w.avK hi rfl hc;obtain⟨e1,e2⟩:=w.nx h;rw[w.K i h,e1,e2];exact lev (by omega) h
 ·have h:=w.SC hi hc;obtain⟨e1,e2⟩:=w.nx h;rw[e1,e2];exact(w.name (o:=i) (by omega) h).bind fun s s' j hj ⟨e,h⟩=>by subst e;exact lev h hj
 ·exact(w.num (ir i) hi).bind fun s s' j hj ⟨e,h⟩=>by subst e;exact .ok hj ⟨h,_,_,_,_,_,_,by decide,rfl,rfl,.nil⟩
 ·have h:=w.apA hi hc;obtain⟨e1,e2⟩:=w.nx h;rw[e1,e2];exact(w.one (o:=i) (by omega) h).bind fun s s' j hj ⟨e,h⟩=>by subst e;exact .ok hj ⟨h,_,_,_,_,_,_,by decide,rfl,rfl,.nil⟩
 ·have h:=w.apA hi hc;obtain⟨e1,e2⟩:=w.nx h;rw[e1,e2];exact(w.block w4 (o:=i) (by omega) h).bind fun l l' j hj ⟨h1,h2⟩=> .ok hj ⟨h1,_,_,_,_,_,_,by decide,rfl,rfl,h2⟩
theorem Wv(hex:Nw S S' δ dp ex Ra){o:Nat}: ∀(m:Nat)(out out':List Syntax)(i:Nat),o<i->i<S.len->Q9 S S' δ out out'->RS S δ dp (fun l l' j=>o<j/\Q9 S S' δ l l') (S.Wv ex m out i) (S'.Wv Ra m out' (i+δ))
 |0,out,out',i,ho,hi,hs=> .pO (w.sym hi rfl) (fun _=>trivial) fun _=> .ok hi ⟨ho,hs⟩
 |m+1,out,out',i,ho,hi,hs=>by
  unfold Src.Wv;refine .pO (w.sym hi rfl) (fun hc=> ?_) fun _=> .ok hi ⟨ho,hs⟩
  have h:=w.SC hi hc;obtain⟨e1,e2⟩:=w.nx h;rw[e1,e2];exact(hex o _ (by omega) h).bind fun x x' j hj ⟨k1,k2,k3⟩=>Wv hex m _ _ _ k1 hj (hs.snoc k2 k3)
omit w in
theorem asg{t t':Int}(ht:AtE S S' δ t t'): ∀(l l':List Syntax)(x x':Syntax),l.length=l'.length->(∀(i:Nat)(h1:i<l.length)(h2:i<l'.length),Sm S S' δ l[i] l'[i]/\Zq S S' δ l[i].from_ l'[i].from_)->Sm S S' δ x x'->Zq S S' δ x.from_ x'.from_->Sm S S' δ (Src.pairs t l x) (Src.pairs t' l' x')
 |[],[],x,x',_,_,hx,_=>hx
 |y::l,y'::l',x,x',hl,h,hx,hf=>by
  have h0:=h 0 (by simp) (by simp);exact .two hx (asg ht l l' y y' (by simpa using hl) (fun i a b=>h (i+1) (by simpa using a) (by simpa using b)) h0.1 h0.2) hf ht
theorem DH(hex:Nw S S' δ dp ex Ra)(ho:o<i)(hi:i<S.len):RS S δ dp (RE S S' δ o) (S.DH ex o i) (S'.DH Ra (o+δ) (i+δ)):=by
 unfold Src.DH;refine(hex o i (by omega) hi).bind fun x x' j hj ⟨h1,h2,h3⟩=> ?_
 rcases iP (j+1) S.len with h|h
 ·have e41:S'.sym [41] (j+δ)=S.sym [41] j:=by unfold Src.sym Src.is;rw[w.K j h]
  obtain⟨e1,e2⟩:=w.nx h;rw[e1,e2];refine .pO e41 (fun _=> .ok h ⟨by omega,h2,h3⟩) fun _=> .pO (w.sym hj rfl) (fun hc=> ?_) fun _=> .pO (w.sym hj rfl) (fun hc=> ?_) fun _=>trivial
  ·exact(hex o _ (by omega) h).bind fun t t' k hk ⟨k1,k2,k3⟩=>(w.take (o:=o) (by omega) hk _).bind fun _ _ q hq h4=> .ok hq ⟨h4,.two h2 k2 (atF (by omega)) (atE h4 hq),atF (by omega)⟩
  ·exact(w.Wv hex 199 [] [] j h1 hj .nil).bind fun l l' k hk ⟨k1,k2⟩=>(w.take (o:=o) (by omega) hk _).bind fun _ _ q hq h4=> .ok hq ⟨h4,(asg (atE h4 hq) l l' x x' k2.1 k2.2 h2 h3).GJ (atF (by omega)),atF (by omega)⟩
 ·have h4:=w.apz j (by omega);have es: ∀s,S.sym s j=false:=fun s=>by unfold Src.sym Src.is;rw[h4];rfl
  rw[es,es,es];trivial
theorem basic(hex:Nw S S' δ dp ex Ra)(w4:Nw S S' δ dp ta Wz):Nw S S' δ dp (S.basic ex ta) (S'.basic Ra Wz):=by
 intro o i ho hi;unfold Src.basic;refine .pO (w.sym hi rfl) (fun hc=> ?_) fun _=> ?_
 ·have h:=w.SC hi hc;obtain⟨e1,e2⟩:=w.nx h;rw[e1,e2];exact(w.DH hex (iR i) h).imp fun x x' j _ ⟨h1,h2⟩=>⟨by omega,h2⟩
 ·refine(w.fill w4 hi).bind fun x x' j hj ⟨h1,k,s,n,ls,ks,ks',h13,e1,e2,h2⟩=> ?_
  subst e1 e2;exact .ok hj ⟨by omega,.arC h13 h2 (atF (by omega)) (atE h1 hj),atF (by omega)⟩
theorem Do{o:Nat}: ∀(m:Nat)(x x':Syntax)(i:Nat),i<S.len->RE S S' δ o x x' i->RS S δ dp (RE S S' δ o) (S.Do m x i) (S'.Do m x' (i+δ))
 |0,x,x',i,hi,hx=> .pO (by rw[w.sym hi rfl,w.sym hi rfl]) (fun _=>trivial) fun _=> .ok hi hx
 |m+1,x,x',i,hi,hx=>by
  unfold Src.Do;refine .pO (by rw[w.sym hi rfl,w.sym hi rfl]) (fun hc=> ?_) fun _=> .ok hi hx
  have h:i+1<S.len:=by
   rw[Bool.or_eq_true] at hc;rcases hc with hc|hc<;>exact w.SC hi hc
  obtain⟨e1,e2⟩:=w.nx h;rw[w.K i h,e1,e2];obtain⟨h1,h2,h3⟩:=hx;exact Do m _ _ _ h ⟨by omega,.one (by grind) h2 h3 (atE (iR i) h),h3⟩
theorem Q1(hex:Nw S S' δ dp ex Ra)(w4:Nw S S' δ dp ta Wz):Nw S S' δ dp (S.Q1 ex ta) (S'.Q1 Ra Wz):=fun o i ho hi=>(w.basic hex w4 o i ho hi).bind fun x x' j hj hx=>w.Do 200 x x' j hj hx
theorem NY(ha:Nw S S' δ dp (S.Q1 ex ta) (S'.Q1 Ra Wz)){o:Nat}: ∀(m:Nat)(x x':Syntax)(i:Nat),i<S.len->RE S S' δ o x x' i->RS S δ dp (RE S S' δ o) (S.NY ex ta m x i) (S'.NY Ra Wz m x' (i+δ))
 |0,x,x',i,hi,hx=> .pO (w.vN hi) (fun _=>trivial) fun _=> .ok hi hx
 |m+1,x,x',i,hi,hx=>by
  unfold Src.NY;refine .pO (w.vN hi) (fun hc=> ?_) fun _=> .ok hi hx
  obtain⟨h1,h2,h3⟩:=hx;exact(ha o i (by omega) hi).bind fun y y' j hj ⟨k1,k2,k3⟩=>NY ha m _ _ j hj ⟨k1,.two h2 k2 h3 k2.to,h3⟩
theorem app(hex:Nw S S' δ dp ex Ra)(w4:Nw S S' δ dp ta Wz):Nw S S' δ dp (S.app ex ta) (S'.app Ra Wz):=fun o i ho hi=>(w.Q1 hex w4 o i ho hi).bind fun x x' j hj hx=>w.NY (w.Q1 hex w4) 199 x x' j hj hx
theorem item(hex:Nw S S' δ dp ex Ra)(w4:Nw S S' δ dp ta Wz):Nw S S' δ dp (S.item ex ta) (S'.item Ra Wz):=by
 intro o i ho hi;unfold Src.item;refine .pO (w.BN hi) (fun hc=> ?_) fun _=>w.app hex w4 o i ho hi
 have h:=w.axs hi hc;obtain⟨e1,e2⟩:=w.nx h;rw[w.K i h,e1,e2];exact .ok h ⟨by omega,.leaf (by decide) (atF (by omega)) (atE (iR i) h),atF (by omega)⟩
theorem tU(hit:Nw S S' δ dp (S.item ex ta) (S'.item Ra Wz)){o:Nat}: ∀(m:Nat)(out out':List Syntax)(i:Nat),o<=i->i<S.len->(out≠[]->o<i)->Q9 S S' δ out out'->out.length+m=200->RS S δ dp (fun l l' j=>(l≠[]->o<j)/\Q9 S S' δ l l'/\l.length<=200) (S.tU ex ta m out i) (S'.tU Ra Wz m out' (i+δ))
 |0,out,out',i,ho,hi,hn,hs,hm=> .pO (by rw[w.BN hi,w.vN hi]) (fun _=>trivial) fun _=> .ok hi ⟨hn,hs,by omega⟩
 |m+1,out,out',i,ho,hi,hn,hs,hm=>by
  unfold Src.tU;refine .pO (by rw[w.BN hi,w.vN hi]) (fun hc=> ?_) fun _=> .ok hi ⟨hn,hs,by omega⟩
  exact(hit o i ho hi).bind fun x x' j hj ⟨k1,k2,k3⟩=>tU hit m _ _ j (by omega) hj (fun _=>k1) (hs.snoc k2 k3) (by grind)
theorem SA(hj:j<S.len)(hn:l≠[]->o<j)(hs:Q9 S S' δ l l')(axt:l.length<=200):RS S δ dp (RE S S' δ o) (S.SA l j) (S'.SA l' (j+δ)):=by
 unfold Src.SA
 match l,l',hs,axt with
 |[],[],_,_=>trivial
 |x::r,x'::r',hs,axt=>
  have ho:=hn (by simp);have h0:=hs.2 0 (by simp) (by simp);have hl:r.length=r'.length:=by simpa using hs.1
  have he:r'.isEmpty=r.isEmpty:=by
   cases r<;>cases r'<;>simp_all
  have h0a:Sm S S' δ x x':=h0.1;have h0b:Zq S S' δ x.from_ x'.from_:=h0.2;refine .pO (by rw[he,h0a.kind]) (fun _=> .ok hj ⟨ho,h0a,h0b⟩) fun _=> ?_
  cases hz:(S.np (x::r)).2.2==0 with
  |false=>
   rw[jv];split<;>trivial
  |true=>
   obtain⟨k1,k2,k3⟩:=w.np (x::r) (x'::r') (by simp) axt hs.1 hs.2 (jB.1 hz);rw[k1,beq_self_eq_true,ju,ju];exact .ok hj ⟨ho,k2,k3⟩
theorem op(hex:Nw S S' δ dp ex Ra)(w4:Nw S S' δ dp ta Wz):Nw S S' δ dp (S.op ex ta) (S'.op Ra Wz):=fun o i ho hi=>
 (w.tU (w.item hex w4) 200 [] [] i ho hi (fun e=>absurd rfl e) .nil rfl).bind fun l l' j hj ⟨h1,h2,h3⟩=>w.SA hj h1 h2 h3
end Win
end
section
variable {S S':Src} {δ:Nat} {dp:Bool}
def SmB(S S':Src)(δ:Nat)(l l':List jO):Prop:=l.length=l'.length/\ ∀(i:Nat)(h1:i<l.length)(h2:i<l'.length),l[i].name=l'[i].name/\Sm S S' δ l[i].t l'[i].t
theorem SmB.nil:SmB S S' δ [] []:=⟨rfl,fun i h1=>by simp at h1⟩
theorem SmB.append{l l' k k':List jO}(h:SmB S S' δ l l')(g:SmB S S' δ k k'):SmB S S' δ (l++k) (l'++k'):=by
 obtain⟨h1,h2⟩:=h;obtain⟨g1,g2⟩:=g;refine⟨by simp [h1,g1],fun i a b=> ?_⟩
 grind
theorem SmB.one{t t':Syntax}(h:Sm S S' δ t t'):SmB S S' δ [{name:=s,t:=t}] [{name:=s,t:=t'}]:=by
 refine⟨rfl,fun i h1 h2=> ?_⟩
 grind
theorem SmB.typed{l:List Str}{t t':Syntax}(h:Sm S S' δ t t'):SmB S S' δ (Src.typed l t) (Src.typed l t'):=by
 unfold Src.typed;refine⟨by simp,fun i h1 h2=> ?_⟩
 grind
theorem anR{k n f f':Int}(hf:Zq S S' δ f f'){x x':Syntax}(hx:Sm S S' δ x x')(LM:Zq S S' δ x.from_ x'.from_): ∀l l':List jO,l.length=l'.length->(∀(i:Nat)(h1:i<l.length)(h2:i<l'.length),l[i].name=l'[i].name/\Sm S S' δ l[i].t l'[i].t)->
 Sm S S' δ (Src.Ku k n l x f) (Src.Ku k n l' x' f')/\Zq S S' δ (Src.Ku k n l x f).from_ (Src.Ku k n l' x' f').from_
 |[],[],_,_=>⟨hx,LM⟩
 |b::l,b'::l',hl,h=>by
  have h0:=h 0 (by simp) (by simp);have h0a:b.name=b'.name:=h0.1;obtain⟨k1,_⟩:=anR (k:=k) (n:=n) hf hx LM l l' (by simpa using hl) (fun i a b=>h (i+1) (by simpa using a) (by simpa using b));refine⟨?_,hf⟩;show Sm S S' δ (.mk k b.name n [] [] [b.t,Src.Ku k n l x f] f (Src.Ku k n l x f).to) (.mk k b'.name n [] [] [b'.t,Src.Ku k n l' x' f'] f' (Src.Ku k n l' x' f').to);rw[h0a];exact .two h0.2 k1 hf k1.to
theorem avL(h:o<j)(hj:j<S.len):Sm S S' δ (S.hole j) (S'.hole (j+δ)):= .mk rfl (fun i h1=>by simp at h1) (.inr (atE h hj)) (atE h hj) fun e=>absurd e (by decide)
namespace Win
variable (w:Win S S' δ) {ex ta Ra Wz:Nat->Rs Syntax}
include w
theorem wr: ∀(d i:Nat)(out:List Str)(f:Nat),i<S.len->i+d=S.len->d<=f->S'.wr f out (i+δ)=S.wr d out i
 |0,i,out,f,hi,hd,hf=>by omega
 |d+1,i,out,0,hi,hd,hf=>by omega
 |d+1,i,out,f+1,hi,hd,hf=>by
  unfold Src.wr;rw[w.sym hi rfl,w.isVar hi];cases hs:S.sym [58] i with
  |true=>rfl
  |false=>
   cases hv:S.isVar i with
   |false=>rfl
   |true=>
    have h:=w.asf hi hv;rw[w.K i h,show i+δ+1=i+1+δ by omega];exact wr d (i+1) _ f h (by omega) (by omega)
theorem written(hi:i<S.len):S'.written (i+δ)=S.written i:=by
 unfold Src.written;rw[w.sym hi rfl];cases hs:S.sym [40] i with
 |false=>rfl
 |true=>
  have h:=w.SC hi hs;have:=w.len;rw[ju,ju,show i+δ+1=i+1+δ by omega];exact w.wr _ _ _ _ h (by omega) (by omega)
theorem binder(hex:Nw S S' δ dp ex Ra){op sh:Str}(ho:o<=i)(hi:i<S.len):RS S δ dp (fun l l' j=>o<j/\SmB S S' δ l l') (S.binder ex op sh i) (S'.binder Ra op sh (i+δ)):=by
 unfold Src.binder;refine(w.take (o:=o) ho hi _).bind fun _ _ k hk h1=> ?_
 refine RS.bind (R:=fun x x' j=>x=x'/\o<j) ?_ fun l l' j hj ⟨e,h2⟩=>(w.take (o:=o) (by omega) hj _).bind fun _ _ a ha h3=>(hex o a (by omega) ha).bind fun t t' b hb ⟨k1,k2,k3⟩=>(w.take (o:=o) (by omega) hb _).bind fun _ _ c hc h4=> ?_
 ·refine .pO rfl (fun _=> ?_) fun _=>w.vars (by omega) hk
  exact(w.var (o:=o) (by omega) hk).bind fun s s' j hj ⟨e,h⟩=>by subst e;exact .ok hj ⟨rfl,h⟩
 ·subst e;exact .ok hc ⟨h4,.typed k2⟩
theorem product(hex:Nw S S' δ dp ex Ra){n:Int}{l l':List jO}{sep:Str}(ho:o<i)(hi:i<S.len)(hl:SmB S S' δ l l'):RS S δ dp (RE S S' δ o) (S.product ex k n o l sep i) (S'.product Ra k n (o+δ) l' sep (i+δ)):=by
 unfold Src.product;refine(w.take (o:=o) (by omega) hi _).bind fun _ _ a ha h1=>(hex o a (by omega) ha).bind fun x x' j hj ⟨h2,h3,h4⟩=> ?_
 obtain⟨q1,q2⟩:=anR (k:=k) (n:=n) (atF (S':=S') (δ:=δ) (show o+1<S.len by omega)) h3 h4 l l' hl.1 hl.2;exact .ok hj ⟨h2,q1,q2⟩
theorem L8(hex:Nw S S' δ dp ex Ra){o:Nat}: ∀(m:Nat)(out out':List jO)(i:Nat),o<i->i<S.len->SmB S S' δ out out'->RS S δ dp (fun l l' j=>o<j/\SmB S S' δ l l') (S.L8 ex m out i) (S'.L8 Ra m out' (i+δ))
 |0,out,out',i,ho,hi,hs=> .pO (w.sym hi rfl) (fun _=> .ok hi ⟨ho,hs⟩) fun _=>trivial
 |m+1,out,out',i,ho,hi,hs=>by
  unfold Src.L8
  have he:out'.isEmpty=out.isEmpty:=by
   have:=hs.1;cases out<;>cases out'<;>simp_all
  refine .pO (by rw[w.sym hi rfl,he]) (fun _=> .ok hi ⟨ho,hs⟩) fun _=> .pO (w.sym hi rfl) (fun _=> ?_) fun _=> ?_
  ·exact(w.binder hex (o:=o) (by omega) hi).bind fun l l' j hj ⟨h1,h2⟩=>L8 hex m _ _ j h1 hj (hs.append h2)
  ·exact(w.var (o:=o) (by omega) hi).bind fun s s' j hj ⟨e,h⟩=>by subst e;exact L8 hex m _ _ j h hj (hs.append (.one (avL h hj)))
theorem abJ(hex:Nw S S' δ dp ex Ra)(hi:i+1<S.len):RS S δ dp (RE S S' δ i) (S.abJ ex i) (S'.abJ Ra (i+δ)):=by
 unfold Src.abJ;obtain⟨e1,e2⟩:=w.nx hi;rw[e1,e2];refine(w.L8 hex (o:=i) 200 [] [] _ (iR i) hi .nil).bind fun l l' j hj ⟨h1,h2⟩=>(w.take (o:=i) (by omega) hj _).bind fun _ _ a ha h3=>(hex i a (by omega) ha).bind fun x x' k hk ⟨h4,h5,h6⟩=> ?_
 obtain⟨q1,q2⟩:=anR (k:=3) (n:=0) (atF (S':=S') (δ:=δ) (show i+1<S.len by omega)) h5 h6 l l' h2.1 h2.2;exact .ok hk ⟨h4,q1,q2⟩
theorem aai(hex:Nw S S' δ dp ex Ra)(hi:i+1<S.len):RS S δ dp (RE S S' δ i) (S.aai ex i) (S'.aai Ra (i+δ)):=by
 unfold Src.aai;obtain⟨e1,e2⟩:=w.nx hi;rw[e1,e2];refine(w.var (o:=i) (by omega) hi).bind fun s s' j hj ⟨e,h⟩=> ?_
 subst e;refine RS.bind (R:=fun x x' j=>i<j/\Sm S S' δ x x') ?_ fun t t' k hk ⟨k1,k2⟩=>(w.take (o:=i) (by omega) hk _).bind fun _ _ a ha h3=>(hex i a (by omega) ha).bind fun v v' b hb ⟨v1,v2,v3⟩=>(w.take (o:=i) (by omega) hb _).bind fun _ _ c hc h4=>(hex i c (by omega) hc).bind fun y y' q hq ⟨y1,y2,y3⟩=> ?_
 ·refine .pO (w.sym hj rfl) (fun hc=> ?_) fun _=> .ok hj ⟨h,avL h hj⟩
  have h2:=w.SC hj hc;obtain⟨e1,e2⟩:=w.nx h2;rw[e1,e2];exact(hex i _ (by omega) h2).imp fun x x' j _ ⟨h1,h2,_⟩=>⟨h1,h2⟩
 ·refine .ok hq ⟨y1,.mk rfl (fun a h1 h2=> ?_) (.inl (atF (by omega))) y2.to fun e=>absurd e (by decide),atF (by omega)⟩
  grind
theorem z7(hex:Nw S S' δ dp ex Ra)(w4:Nw S S' δ dp ta Wz):Nw S S' δ dp (S.z7 ex ta) (S'.z7 Ra Wz):=by
 intro o i ho hi;unfold Src.z7;refine(w.op hex w4 i i (ir i) hi).bind fun x x' j hj ⟨h1,h2,h3⟩=> .pO (w.sym hj rfl) (fun hc=> ?_) fun _=> .ok hj ⟨by omega,h2,h3⟩
 have h:=w.SC hj hc;obtain⟨e1,e2⟩:=w.nx h;rw[e1,e2,w.written hi];refine(hex i _ (by omega) h).bind fun b b' k hk ⟨b1,b2,b3⟩=> ?_
 have hb:SmB S S' δ (bif x.kind==13&&(x.from_==S.F i&& !(S.written i).isEmpty) then Src.typed (S.written i) (x.kids.getD 1 Pl) else [{name:=[],t:=x}]) (bif x'.kind==13&&(x'.from_==S'.F (i+δ)&& !(S.written i).isEmpty) then Src.typed (S.written i) (x'.kids.getD 1 Pl) else [{name:=[],t:=x'}]):=by
  have ef:(x'.from_==S'.F (i+δ))=(x.from_==S.F i):=by
   obtain⟨a,ha,f1,f2⟩:=h3;rw[f1,f2,jm,jB,jB];exact(w.inj a i (by omega) hi).symm
  rw[ef,h2.kind];cases hx:x.kind==13 with
  |false=>exact .one h2
  |true=>
   cases (x.from_==S.F i&& !(S.written i).isEmpty) with
   |false=>exact .one h2
   |true=>
    refine .typed ?_;cases h2 with
    | @mk k' s n ns ls ks ks' f f' t t' a1 a2 a3 a4 a5=>
      have c1:=(a5 (jB.1 hx)).1;have l1:1<ks.length:=by omega
      have l2:1<ks'.length:=by omega
      have:=a2 1 l1 l2;show Sm S S' δ (ks.getD 1 Pl) (ks'.getD 1 Pl)
      grind
 obtain⟨q1,q2⟩:=anR (k:=4) (n:=0) h3 b2 b3 _ _ hb.1 hb.2;exact .ok hk ⟨by omega,q1,q2⟩
theorem Fx(hex:Nw S S' δ dp ex Ra)(w4:Nw S S' δ dp ta Wz):Nw S S' δ dp (S.Fx ex ta) (S'.Fx Ra Wz):=by
 intro o i ho hi;have up: ∀{r r':Rs Syntax},RS S δ dp (RE S S' δ i) r r'->RS S δ dp (RE S S' δ o) r r':=fun h=>h.imp fun _ _ _ _ ⟨h1,h2⟩=>⟨by omega,h2⟩
 have prod: ∀{q:Nat}{op sh sep:Str}{k n:Int},i<=q->q<S.len->RS S δ dp (RE S S' δ o) ((S.binder ex op sh q).bind fun l j=>S.product ex k n i l sep j) ((S'.binder Ra op sh (q+δ)).bind fun l j=>S'.product Ra k n (i+δ) l sep j):=fun a b=>
  up ((w.binder hex (o:=i) a b).bind fun l l' j hj ⟨h1,h2⟩=>w.product hex h1 hj h2)
 unfold Src.Fx;refine .pO (w.key hi _) (fun hc=>up (w.abJ hex (w.apA hi hc))) fun _=> .pO (w.key hi _) (fun hc=>up (w.aai hex (w.apA hi hc))) fun _=> .pO (w.key hi _) (fun hc=> ?_) fun _=> .pO (w.sym hi rfl) (fun hc=>prod (ir _) hi) fun _=> .pO (w.sym hi rfl) (fun hc=>prod (ir _) hi) fun _=>w.z7 hex w4 o i ho hi
 have h:=w.apA hi hc;obtain⟨e1,e2⟩:=w.nx h
 simp_all
theorem Kb{o:Nat}: ∀(m:Nat)(out:List Str)(i:Nat),o<i->i<S.len->RS S δ dp (fun x x' j=>x=x'/\o<j) (S.Kb m out i) (S'.Kb m out (i+δ))
 |0,out,i,ho,hi=> .pO (w.kind hi 0 rfl rfl) (fun _=>trivial) fun _=> .ok hi ⟨rfl,ho⟩
 |m+1,out,i,ho,hi=>by
  unfold Src.Kb;refine .pO (w.kind hi 0 rfl rfl) (fun hc=> ?_) fun _=> .ok hi ⟨rfl,ho⟩
  have h:=w.avK hi rfl hc;obtain⟨e1,e2⟩:=w.nx h;rw[w.K i h,e1,e2];exact Kb m _ _ (by omega) h
theorem known(hex:Nw S S' δ dp ex Ra)(w4:Nw S S' δ dp ta Wz){v:Str}(h:i+1<S.len):RS S δ dp (fun r r' j=>i<j/\r.1=r'.1/\Q9 S S' δ r.2 r'.2) (S.known ex ta v i) (S'.known Ra Wz v (i+δ)):=by
 obtain⟨e1,e2⟩:=w.nx h
 have one: ∀{r r':Nat->Rs Syntax},Nw S S' δ dp r r'->RS S δ dp (fun r r' j=>i<j/\r.1=r'.1/\Q9 S S' δ r.2 r'.2) ((r (i+1)).bind fun x j=> .ok (([],[x]):List Str×List Syntax) j) ((r' (i+1+δ)).bind fun x j=> .ok (([],[x]):List Str×List Syntax) j):=fun g=>
  (g i (i+1) (by omega) h).bind fun x x' j hj ⟨h1,h2,h3⟩=> .ok hj ⟨h1,rfl,Q9.nil.snoc h2 h3⟩
 unfold Src.known;rw[e1,e2];refine .pO rfl (fun _=> ?_) fun _=> .pO rfl (fun _=>one hex) fun _=> .pO rfl (fun _=> .ok h ⟨iR i,rfl,.nil⟩) fun _=> .pO rfl (fun _=> ?_) fun _=> .pO rfl (fun _=> ?_) fun _=> .pO rfl (fun _=> ?_) fun _=> .pO rfl (fun _=> ?_) fun _=> .pO rfl (fun _=>one w4) fun _=>trivial
 ·exact(w.block w4 (o:=i) (by omega) h).bind fun l l' j hj ⟨h1,h2⟩=> .ok hj ⟨h1,rfl,h2⟩
 ·exact(w.var (o:=i) (by omega) h).bind fun s s' j hj ⟨e,h⟩=>by subst e;exact .ok hj ⟨h,rfl,.nil⟩
 ·exact(w.vars (o:=i) (by omega) h).bind fun s s' j hj ⟨e,h⟩=>by subst e;exact .ok hj ⟨h,rfl,.nil⟩
 ·exact(w.Jn (o:=i) (by omega) h).bind fun s s' j hj ⟨e,h⟩=>by subst e;exact .ok hj ⟨h,rfl,.nil⟩
 ·exact(w.name (o:=i) (by omega) h).bind fun s s' j hj ⟨e,h⟩=>by
   subst e;exact(w.Kb (o:=i) 199 [s] j h hj).bind fun l l' k hk ⟨e,h⟩=>by subst e;exact .ok hk ⟨h,rfl,.nil⟩
theorem RV(hex:Nw S S' δ dp ex Ra)(w4:Nw S S' δ dp ta Wz):Nw S S' δ dp (S.RV ex ta) (S'.RV Ra Wz):=by
 intro o i ho hi;unfold Src.RV;rcases iP (i+1) S.len with h|h
 ·refine RS.bind (R:=fun r r' j=>i<j/\r.1=r'.1/\Q9 S S' δ r.2 r'.2) ?_ fun r r' j hj ⟨h1,h2,h3⟩=> ?_
  ·refine .pO (w.sym hi rfl) (fun _=> ?_) fun _=> .pO (w.kind hi 0 rfl rfl) (fun hc=> ?_) fun _=>trivial
   ·exact(w.block w4 (ir i) hi).bind fun l l' j hj ⟨h1,h2⟩=> .ok hj ⟨h1,rfl,h2⟩
   ·rw[w.K i h];exact w.known hex w4 h
  ·rw[w.K i h,<-h2];exact .ok hj ⟨by omega,.arC (by decide) h3 (atF (by omega)) (atE h1 hj),atF (by omega)⟩
 ·have h4:=w.apz i (by omega);have es:S.sym [123] i=false:=by unfold Src.sym Src.is;rw[h4];rfl
  have ek:((S.K i).1==0)=false:=by rw[h4];rfl
  rw[es,ek];trivial
theorem both: ∀d d':Nat,d'<=d->(dp=true\/d'=d)->Nw S S' δ dp (S.Bd d) (S'.Bd d')/\Nw S S' δ dp (S.adr d) (S'.adr d')
 |0,d',hd,_=>⟨fun o i ho hi=>trivial,fun o i ho hi=>trivial⟩
 |d+1,0,hd,hp=>by
  have hp:dp=true:=hp.elim id fun h=>by omega
  have h: ∀r:Nat->Rs Syntax,Nw S S' δ dp r (fun i=>S'.deep i):=fun r o i ho hi=>by
   match r i with
   | .er e a=>trivial
   | .ok x j=>exact .inr ⟨hp,_,rfl⟩
  exact⟨h _,h _⟩
 |d+1,d'+1,hd,hp=>by
  obtain⟨h1,h2⟩:=both d d' (by omega) (hp.imp id fun h=>by omega);exact⟨w.Fx h1 h2,w.RV h1 h2⟩
end Win
end
section
variable {S S':Src} {δ:Nat}
theorem Sm.text(h:Sm S S' δ x x'):x'.text=x.text:=by cases h;rfl
theorem Q9.cons(h:Q9 S S' δ (x::l) l'): ∃x' k,l'=x'::k/\Sm S S' δ x x'/\Zq S S' δ x.from_ x'.from_/\Q9 S S' δ l k:=by
 match l',h with
 |x'::k,h=>
  have h0:=h.2 0 (by simp) (by simp);exact⟨x',k,rfl,h0.1,h0.2,by simpa using h.1,fun i a b=>h.2 (i+1) (by simpa using a) (by simpa using b)⟩
 |[],h=>have:=h.1;simp at this
theorem Q9.avi(h:Q9 S S' δ [] l'):l'=[]:=jk.1 h.1.symm
theorem ab3 {r':List Syntax}(h:Q9 S S' δ r r'):Zi r'=Zi r:=by
 match r,h with
 |[],h=>rw[h.avi]
 |x::r,h=>
  obtain⟨x',k,rfl,h1,h2,h3⟩:=h.cons;show(bif x'.kind==17 then some x'.text else none)=bif x.kind==17 then some x.text else none
  rw[h1.kind,h1.text]
theorem ako{f f' t t':Int}(hf:Zq S S' δ f f')(ht:AtE S S' δ t t'): ∀(l l':List Syntax)(o o':Syntax),Q9 S S' δ l l'->Sm S S' δ o o'->Zq S S' δ o.from_ o'.from_->Sm S S' δ (Vk o l f t) (Vk o' l' f' t')/\Zq S S' δ (Vk o l f t).from_ (Vk o' l' f' t').from_
 |[],l',o,o',h,ho,hof=>by rw[h.avi];exact⟨ho,hof⟩
 |x::l,l',o,o',h,ho,hof=>by
  obtain⟨x',k,rfl,h1,h2,h3⟩:=h.cons;exact ako hf ht l k _ _ h3 (.two ho h1 hf ht) hf
theorem afZ {t:Int}(hf:Zq S S' δ f f')(ht:AtE S S' δ t t')(h:Q9 S S' δ l l'):Sm S S' δ (JO n l f t) (JO n l' f' t')/\Zq S S' δ (JO n l f t).from_ (JO n l' f' t').from_:=
 ako hf ht l l' _ _ h (.leaf (by decide) hf ht) hf
def aAr(S S':Src)(δ:Nat):Out->Out->Prop
 | .bad _,.bad _=>True
 | .val x h q,.val x' h' q'=>h=h'/\Sm S S' δ x x'/\Zq S S' δ x.from_ x'.from_/\Q9 S S' δ q q'
 | .ops l e q,.ops l' e' q'=>Q9 S S' δ l l'/\AtE S S' δ e e'/\Q9 S S' δ q q'
 |_,_=>False
def aAs(S S':Src)(δ:Nat):Cmd->Cmd->Prop
 | .parts n ps i ops e r,.parts n' ps' i' ops' e' r'=>n=n'/\ps=ps'/\i=i'/\Q9 S S' δ ops ops'/\(ps=[]->AtE S S' δ e e')/\Q9 S S' δ r r'
 | .first m r,.first m' r'=>m=m'/\Q9 S S' δ r r'
 | .level m r,.level m' r'=>m=m'/\Q9 S S' δ r r'
 | .loop m x h r,.loop m' x' h' r'=>m=m'/\h=h'/\Sm S S' δ x x'/\Zq S S' δ x.from_ x'.from_/\Q9 S S' δ r r'
 |_,_=>False
theorem GQ.sm{T:List jH}(g:Wx T){c:Cmd}{o:Out}(h:GQ T c o): ∀c',aAs S S' δ c c'-> ∃o',GQ T c' o'/\aAr S S' δ o o':=by
 induction h with
 |Pv=>
  intro c' hc
  match c',hc with
  | .parts _ _ _ ops' e' r',⟨rfl,rfl,rfl,h1,h2,h3⟩=>exact⟨_,.Pv,h1,h2 rfl,h3⟩
 |Zj h1 ih=>
  intro c' hc
  match c',hc with
  | .parts _ _ _ ops' e' r',⟨rfl,rfl,rfl,h1,h2,h3⟩=>
    obtain⟨o',k1,k2⟩:=ih (.level _ r') ⟨rfl,h3⟩
    match o',k2 with
    | .bad q,_=>exact⟨_,.Zj k1,trivial⟩
 |hole h1 h2 ih1 ih2=>
  intro c' hc
  match c',hc with
  | .parts _ _ _ ops' e' r',⟨rfl,rfl,rfl,h1,h2,h3⟩=>
    obtain⟨o',k1,k2⟩:=ih1 (.level _ r') ⟨rfl,h3⟩
    match o',k2 with
    | .val x' _ q',⟨rfl,k2,k3,k4⟩=>
      obtain⟨o',p1,p2⟩:=ih2 (.parts _ _ _ (ops'++[x']) x'.to q') ⟨rfl,rfl,rfl,h1.snoc k2 k3,fun _=>k2.to,k4⟩;exact⟨_,.hole k1 p1,p2⟩
 |adH hs hr=>
  intro c' hc
  match c',hc with
  | .parts _ _ _ ops' e' r',⟨rfl,rfl,rfl,h1,h2,h3⟩=>exact⟨_,.adH hs (by rw[ab3 h3];exact hr),trivial⟩
 |sym hs hk ht _ ih=>
  intro c' hc
  match c',hc with
  | .parts _ _ _ ops' e' r',⟨rfl,rfl,rfl,h1,h2,h3⟩=>
    obtain⟨y',k,rfl,q1,q2,q3⟩:=h3.cons;obtain⟨o',p1,p2⟩:=ih (.parts _ _ _ ops' y'.to k) ⟨rfl,rfl,rfl,h1,fun _=>q1.to,q3⟩;exact⟨_,.sym hs (by rw[q1.kind];exact hk) (by rw[q1.text];exact ht) p1,p2⟩
 |Pw=>
  intro c' hc
  match c',hc with
  | .first _ r',⟨rfl,h⟩=>rw[h.avi];exact⟨_,.Pw,trivial⟩
 |H8 hx=>
  intro c' hc
  match c',hc with
  | .first _ r',⟨rfl,h⟩=>
    obtain⟨x',k,rfl,q1,q2,q3⟩:=h.cons;exact⟨_,.H8 (by rw[q1.kind];exact hx),rfl,q1,q2,q3⟩
 |Px hx hb=>
  intro c' hc
  match c',hc with
  | .first _ r',⟨rfl,h⟩=>
    obtain⟨x',k,rfl,q1,q2,q3⟩:=h.cons;exact⟨_,.Px (by rw[q1.kind];exact hx) (by unfold aeP at hb ⊢;rw[q1.text];exact hb),trivial⟩
 |Vl hx hb _ ih=>
  intro c' hc
  match c',hc with
  | .first _ r',⟨rfl,h⟩=>
    have h':=h;obtain⟨x',k,rfl,q1,q2,q3⟩:=h.cons
    obtain⟨o',p1,p2⟩:=ih (.parts _ _ 0 [] 0 (x'::k)) ⟨rfl,rfl,rfl,.nil,fun e=>by
     have:=(g.ok (KB hb).1).pos
     grind,h'⟩
    match o',p2 with
    | .bad q,_=>exact⟨_,.Vl (by rw[q1.kind];exact hx) (by unfold aeP at hb ⊢;rw[q1.text];exact hb) p1,trivial⟩
 |first hx hb _ ih=>
  intro c' hc
  match c',hc with
  | .first _ r',⟨rfl,h⟩=>
    have h':=h;obtain⟨x',k,rfl,q1,q2,q3⟩:=h.cons
    obtain⟨o',p1,p2⟩:=ih (.parts _ _ 0 [] 0 (x'::k)) ⟨rfl,rfl,rfl,.nil,fun e=>by
     have:=(g.ok (KB hb).1).pos
     grind,h'⟩
    match o',p2 with
    | .ops l' e' q',⟨k1,k2,k3⟩=>
      obtain⟨a1,a2⟩:=afZ (n:=_) q2 k2 k1;exact⟨_,.first (by rw[q1.kind];exact hx) (by unfold aeP at hb ⊢;rw[q1.text];exact hb) p1,rfl,a1,a2,k3⟩
 |stop hg=>
  intro c' hc
  match c',hc with
  | .loop _ x' _ r',⟨rfl,rfl,h1,h2,h3⟩=>exact⟨_,.stop (by grind [aeO,ab3]),rfl,h1,h2,h3⟩
 |ajY hg _ ih=>
  intro c' hc
  match c',hc with
  | .loop _ x' _ r',⟨rfl,rfl,h1,h2,h3⟩=>
    obtain⟨hn,hl,_⟩:=KC hg
    obtain⟨o',p1,p2⟩:=ih (.parts _ _ 1 [x'] 0 r') ⟨rfl,rfl,rfl,Q9.nil.snoc h1 h2,fun e=>by
     have h2':=congrArg jn e;rw[ig,iA] at h2';have:=(g.ok hn).aaU hl;omega,h3⟩
    match o',p2 with
    | .bad q,_=>exact⟨_,.ajY (by grind [aeO,ab3]) p1,trivial⟩
 |go hg _ _ ih1 ih2=>
  intro c' hc
  match c',hc with
  | .loop _ x' _ r',⟨rfl,rfl,h1,h2,h3⟩=>
    obtain⟨hn,hl,_⟩:=KC hg
    obtain⟨o',p1,p2⟩:=ih1 (.parts _ _ 1 [x'] 0 r') ⟨rfl,rfl,rfl,Q9.nil.snoc h1 h2,fun e=>by
     have h2':=congrArg jn e;rw[ig,iA] at h2';have:=(g.ok hn).aaU hl;omega,h3⟩
    match o',p2 with
    | .ops l' e' q',⟨k1,k2,k3⟩=>
      obtain⟨a1,a2⟩:=afZ (n:=_) h2 k2 k1;obtain⟨o',r1,r2⟩:=ih2 (.loop _ _ _ q') ⟨rfl,rfl,a1,a2,k3⟩;exact⟨_,.go (by grind [aeO,ab3]) p1 r1,r2⟩
 |Py _ ih=>
  intro c' hc
  match c',hc with
  | .level _ r',⟨rfl,h⟩=>
    obtain⟨o',p1,p2⟩:=ih (.first _ r') ⟨rfl,h⟩
    match o',p2 with
    | .bad q,_=>exact⟨_,.Py p1,trivial⟩
 |level _ _ ih1 ih2=>
  intro c' hc
  match c',hc with
  | .level _ r',⟨rfl,h⟩=>
    obtain⟨o',p1,p2⟩:=ih1 (.first _ r') ⟨rfl,h⟩
    match o',p2 with
    | .val x' _ q',⟨rfl,k1,k2,k3⟩=>
      obtain⟨o',r1,r2⟩:=ih2 (.loop _ x' _ q') ⟨rfl,rfl,k1,k2,k3⟩;exact⟨_,.level p1 r1,r2⟩
end
def lim:Nat:=9223372036854775807
theorem Syntax.axu {k:Syntax}(h:k∈x.kids):k.Ks<x.Ks:=by
 grind [Zl,Syntax.axh]
def Dp(x:Syntax):Syntax:=Syntax.mk x.kind x.text x.num x.names x.levels (x.kids.attach.map fun k=>Dp k.1) 0 0
termination_by x.Ks
decreasing_by exact Syntax.axu k.2
theorem adS(x:Syntax):Dp x=Syntax.mk x.kind x.text x.num x.names x.levels (x.kids.map Dp) 0 0:=by
 grind [Dp,List.attach_map_val]
theorem apB(a b:Syntax):eqb (Dp a) (Dp b)=(a.kind==b.kind&&(a.text==b.text&&(a.num==b.num&&(eqb a.names b.names&&(eqb a.levels b.levels&&eqb (a.kids.map Dp) (b.kids.map Dp)))))):=by
 grind [adS,MO]
theorem aeU(a b:jP):eqb a b=(a.name==b.name&&a.plus==b.plus):=by
 rw[jm,MO,iy,jB,jB];cases a;cases b;simp
theorem abN(a b:jM):eqb a b=(a.hole==b.hole&&eqb a.qw b.qw):=by
 rw[jm,MO,iy,jB,MO];cases a;cases b;simp
theorem ahs(xs:List α)(ys:List β):((xs.length:Int) !=(ys.length:Int))=(xs.length !=ys.length):=by
 grind
theorem Rb(a b:List Str)(hk:a.length<lim):Ev (fun n=>yt n a b) (eqb a b):=by
 refine Ev.fn (fun n=>by simp only[yt,kq,Bv,mB];exact rfl) ?_;by_cases hl:a.length=b.length
 ·have e:((a.length:Int) !=(b.length:Int))=false:=by rw[ahs,hl];simp
  simp only[e,jv];refine Ev.AN (F:=fun n m=>sO n m a b a.length 0) ?_;refine kC.same (L:=fun n m i=>sO n m a b a.length i) a b hl ?_ ?_
  ·intro i hi hj r hr;refine kC.lp (fun n m=>by simp only[DV,sN,mB];exact rfl) ?_;simp only[hi,jj,decide_true,ju];rw[kz (by unfold lim at hk;omega),auz];exact kC.idx hi (kC.idx hj (kC.andThen hr))
  ·refine kC.lp (fun n m=>by simp only[DV,sN,mB];exact rfl) ?_
   grind [kC.pure]
 grind [abW,Ev.pure]
theorem Mb(a b:List jP)(hk:a.length<lim):Ev (fun n=>vB n a b) (eqb a b):=by
 refine Ev.fn (fun n=>by simp only[vB,kq,xQ,mB];exact rfl) ?_;by_cases hl:a.length=b.length
 ·have e:((a.length:Int) !=(b.length:Int))=false:=by rw[ahs,hl];simp
  simp only[e,jv];refine Ev.AN (F:=fun n m=>qI n m a b a.length 0) ?_;refine kC.same (L:=fun n m i=>qI n m a b a.length i) a b hl ?_ ?_
  ·intro i hi hj r hr;refine kC.lp (fun n m=>by simp only[BI,qH,mB];exact rfl) ?_;simp only[hi,jj,decide_true,ju];rw[kz (by unfold lim at hk;omega),aeU];exact kC.idx hi (kC.idx hj (kC.andThen hr))
  ·refine kC.lp (fun n m=>by simp only[BI,qH,mB];exact rfl) ?_
   grind [kC.pure]
 grind [abW,Ev.pure]
theorem adT(a b:jM)(hk:a.qw.length<lim):Ev (fun n=>Mx n a b) (eqb a b):=by
 refine Ev.fn (fun n=>by simp only[Mx,kq,Ny,mB];exact rfl) ?_
 grind [abN,Mb,Ev.pure]
theorem zR(a b:List jM)(hk:a.length<lim)(ha: ∀l∈a,l.qw.length<lim):Ev (fun n=>nS n a b ()) (eqb a b):=by
 refine Ev.fn (fun n=>by simp only[nS,kq,pH,mB];exact rfl) ?_;by_cases hl:a.length=b.length
 ·have e:((a.length:Int) !=(b.length:Int))=false:=by rw[ahs,hl];simp
  simp only[e,jv];refine Ev.AN (F:=fun n m=>l9 n m b a a.length 0) ?_;refine kC.same (L:=fun n m i=>l9 n m b a a.length i) a b hl ?_ ?_
  ·intro i hi hj r hr;refine kC.lp (fun n m=>by simp only[rD,l8,mB];exact rfl) ?_;simp only[hi,jj,decide_true,ju];rw[kz (by unfold lim at hk;omega)];exact kC.idx hi (kC.idx hj (kC.lH (adT _ _ (ha _ (ik hi))) (kC.andThen hr)))
  ·refine kC.lp (fun n m=>by simp only[rD,l8,mB];exact rfl) ?_
   grind [kC.pure]
 grind [abW,Ev.pure]
theorem Zr{F:Nat->Option Bool}{c r:Bool}(h:c=true->Ev F r):Ev (fun n=>bif c then F n else some false) (c&&r):=by
 cases c with
 |true=>exact h rfl
 |false=>exact Ev.pure
theorem Sm.amM{S S':Src}{δ:Nat}(h:Sm S S' δ x x'):Dp x=Dp x':=by
 induction h with
 | @mk k s n ns ls ks ks' f f' t t' hl hk hf ht h13 ih=>
   have e:ks.map Dp=ks'.map Dp:=List.ext_getElem (by simp [hl]) fun i h1 h2=>by
    grind
   rw[adS,adS];show Syntax.mk k s n ns ls (ks.map Dp) 0 0=Syntax.mk k s n ns ls (ks'.map Dp) 0 0;rw[e]
theorem Rg.ind{P:Syntax->Prop}(h: ∀x,Rg x->(∀y∈x.kids,P y)->P x)(hx:Rg x):P x:=by
 induction hx with
 |mk h1 h2 h3 h4 h5 h6 h7 h8 ih=>exact h _ (.mk h1 h2 h3 h4 h5 h6 h7 h8) ih
theorem Rg.lens(h:Rg x):x.kids.length<lim/\x.levels.length<lim/\x.names.length<lim/\ ∀l∈x.levels,l.qw.length<lim:=by
 cases h;rename_i h1 h2 h3 h4 h5 h6 h7 h8;have e:lim=9223372036854775807:=rfl;refine⟨iO h4 (by decide),iO h2 (by decide),iO h1 (by decide),fun l hl=> ?_⟩;exact iO (h3 l hl) (by decide)
theorem adU{a:Syntax}(h:Rg a): ∀b:Syntax,Ev (fun n=>pz n a b) (eqb (Dp a) (Dp b)):=by
 refine Rg.ind (P:=fun a=> ∀b:Syntax,Ev (fun n=>pz n a b) (eqb (Dp a) (Dp b))) ?_ h;intro a ha ih b;obtain⟨l1,l2,l3,l4⟩:=ha.lens
 have kids:Ev (fun n=>k7 n a.kids b.kids ()) (eqb (a.kids.map Dp) (b.kids.map Dp)):=by
  refine Ev.fn (fun n=>by simp only[CZ,oB,Gk,mB];exact rfl) ?_;by_cases hl:a.kids.length=b.kids.length
  ·have e:((a.kids.length:Int) !=(b.kids.length:Int))=false:=by rw[ahs,hl];simp
   simp only[e,jv];refine Ev.AN (F:=fun n m=>mR (ot n) n m b.kids a.kids a.kids.length 0) ?_;refine kC.same (L:=fun n m i=>mR (ot n) n m b.kids a.kids a.kids.length i) (a.kids.map Dp) (b.kids.map Dp) (by simpa using hl) ?_ ?_
   ·intro i hi hj r hr;rw[List.length_map] at hi hj;refine kC.lp (fun n m=>by simp only[tD,mQ,Gk,mB];exact rfl) ?_;simp only[hi,jj,decide_true,ju,List.getElem_map];rw[kz (by unfold lim at l1;omega)];exact kC.idx hi (kC.idx hj (kC.lH (ih _ (ik hi) _) (kC.andThen hr)))
   ·rw[List.length_map];refine kC.lp (fun n m=>by simp only[tD,mQ,Gk,mB];exact rfl) ?_
    grind [kC.pure]
  grind [abW,Ev.pure]
 refine Ev.fn (fun n=>by simp only[aev,Ip,Gk,mB];exact rfl) ?_;rw[apB];refine Zr fun _=>Zr fun _=>Zr fun _=>Ev.bind (Rb _ _ l3) (Zr fun _=>Ev.bind (zR _ _ l2 l4) (Zr fun _=>Ev.bind kids Ev.pure))
theorem Sm.same{S S':Src}{δ:Nat}(h:Sm S S' δ x x')(hr:Rg x):Ev (fun n=>pz n x x') true:=by
 have:=adU hr x';rw[<-h.amM,Zd] at this;exact this
section
variable {T:List jH} (g:Ma T)
include g
theorem Ma.avM{δ:Nat}(l l':List Syntax)(hn:l≠[])(hl:l.length<=200)(he:l.length=l'.length)
 (hs: ∀(i:Nat)(h1:i<l.length)(h2:i<l'.length),Sm (Zc T s).S (Zc T s').S δ l[i] l'[i]/\Zq (Zc T s).S (Zc T s').S δ l[i].from_ l'[i].from_) (h0:((Zc T s).S.np l).2.2=0):
 ((Zc T s').S.np l').2.2=0/\Sm (Zc T s).S (Zc T s').S δ ((Zc T s).S.np l).1 ((Zc T s').S.np l').1/\Zq (Zc T s).S (Zc T s').S δ ((Zc T s).S.np l).1.from_ ((Zc T s').S.np l').1.from_:=by
 obtain⟨o,ho,e⟩:=g.npR (l:=l);have e:(Zc T s).S.np l=nB l o:=e;rw[e] at h0 ⊢;obtain⟨x,hh,rfl,e2⟩:=Ma.aap ho h0;obtain⟨o',k1,k2⟩:=GQ.sm (S:=(Zc T s).S) (S':=(Zc T s').S) (δ:=δ) g.ok ho (.level 0 l') ⟨rfl,he,hs⟩
 match o',k2,k1 with
 | .val x' _ q',⟨rfl,k2,k3,k4⟩,k1=>
   obtain rfl:=k4.avi;have e':(Zc T s').S.np l'=nB l' (.val x' hh []):=g.azj (by omega) k1;rw[e',e2];exact⟨rfl,k2,k3⟩
end
theorem TkL.inj_iff{Z:Cx}{e:Nat}(h:TkL e a Z.T)(hi:i<Z.T.length)(hj:j<Z.T.length):Z.S.F i=Z.S.F j↔i=j:=by
 refine⟨fun hF=> ?_,fun e=>by rw[e]⟩;rcases Nat.lt_trichotomy i j with h1|h1|h1
 ·have:=h.inj h1 hj;omega
 ·exact h1
 ·have:=h.inj h1 hi;omega
theorem akp{l l':List j8}(h:l'.map DJ=l.map DJ):l'.length=l.length/\ ∀(i:Nat)(h1:i<l'.length)(h2:i<l.length),(l'[i].kind,l'[i].text)=(l[i].kind,l[i].text):=by
 have hl:l'.length=l.length:=by have:=congrArg jn h;simpa using this
 refine⟨hl,fun i h1 h2=> ?_⟩;have h3:(l'.map DJ)[i]? =(l.map DJ)[i]? :=by rw[h]
 rw[List.getElem?_map,List.getElem?_map,iT h1,iT h2] at h3;exact Option.some.inj h3
section
variable {T:List jH} (g:Ma T)
include g
theorem apC(hs:s.length<=65536)(hs':s'.length<=65536)(h0:(ny (mb [] T) s).2.2=0)(h0':(ny (mb [] T) s').2.2=0)(hm:(ny (mb [] T) s').1.map DJ=(ny (mb [] T) s).1.map DJ):Win (Zc T s).S (Zc T s').S 0:=by
 have ht:=g.tk hs h0;have ht':=g.tk hs' h0';obtain⟨hl,he⟩:=akp hm;have hl:(Zc T s').T.length=(Zc T s).T.length:=hl
 have hK: ∀i,i<(Zc T s).T.length->(Zc T s').S.K (i+0)=(Zc T s).S.K i:=fun i hi=>by
  grind [EP,Zc]
 have hend: ∀i,i+1=(Zc T s).S.len->((Zc T s).S.K i).1=4:=fun i hi=>by
  have hi:i+1=(Zc T s).T.length:=hi;rw[EP (by omega),ht.apy i (by omega) hi]
 exact {
  pos:=ht.pos
  K:=fun i hi=>hK i (by have hi:i+1<(Zc T s).T.length:=hi;omega)
  apz:=hend
  stop:=fun i hi=> .inl (by
   have h4:=hend i hi;have hi:i+1=(Zc T s).T.length:=hi;rw[hK i (by omega)];exact h4)
  len:=by show(Zc T s).T.length+0<=(Zc T s').T.length;omega
  isS:=rfl
  par:=akd g.ok
  inj:=fun i j hi hj=>by
   have hi:i<(Zc T s).T.length:=hi;have hj:j<(Zc T s).T.length:=hj;rw[ht.inj_iff hi hj,jr,jr,ht'.inj_iff (by omega) (by omega)]
  np:=fun l l' hn hl he hs h0=>g.avM l l' hn hl he hs h0}
theorem Ic(hs:s.length<=65536)(h:(p6 T s).2.2=0): ∃x j,(ny (mb [] T) s).2.2=0/\(Zc T s).S.Bd 200 0= .ok x j/\j<(Zc T s).T.length/\((Zc T s).S.K j).1=4/\p6 T s=(x,0,0)/\Rg x:=by
 unfold p6 at h ⊢;cases he:(ny (mb [] T) s).2.2==0 with
 |false=>
  grind
 |true=>
  rw[he,ju] at h;rw[ju];have h0:=jB.1 he;have ht:=g.tk hs h0;have hw:=ht.sok.whole ht.avf (g.anP s) (by show(Zc T s).T.length<=100000;have:=ht.le;omega) ht.pos;unfold Src.whole at hw h ⊢;cases hq:(Zc T s).S.Bd 200 0 with
  |er e a=>
   rw[hq] at hw h;exact absurd h hw.1
  |ok x j=>
   rw[hq] at hw h;simp only[Rs.bind] at hw h ⊢;cases h4:((Zc T s).S.K j).1==4 with
   |false=>
    rw[h4,jv] at hw h;exact absurd h hw.1
   |true=>
    rw[h4,ju] at hw;obtain⟨k1,_,_,k4⟩:=hw;rw[ju];exact⟨x,j,h0,rfl,k4,jB.1 h4,rfl,k1⟩
omit g in
theorem adV(h0:(ny (mb [] T) s).2.2=0)(hx:(Zc T s).S.Bd 200 0= .ok x j)(h4:((Zc T s).S.K j).1=4):p6 T s=(x,0,0):=by
 unfold p6;rw[show((ny (mb [] T) s).2.2==0)=true from jB.2 h0,ju];unfold Src.whole;rw[hx];simp only[Rs.bind,h4,beq_self_eq_true,ju]
theorem amN(hs:s.length<=65536)(hs':s'.length<=65536)(h0':(ny (mb [] T) s').2.2=0)(hm:(ny (mb [] T) s').1.map DJ=(ny (mb [] T) s).1.map DJ)(h:(p6 T s).2.2=0):
 (p6 T s').2.2=0/\Sm (Zc T s).S (Zc T s').S 0 (p6 T s).1 (p6 T s').1/\Rg (p6 T s).1:=by
 obtain⟨x,j,h0,hx,hj,h4,he,hr⟩:=Ic g hs h;have w:=apC g hs hs' h0 h0' hm;have hb:=(w.both (dp:=false) 200 200 (ir _) (.inr rfl)).1 0 0 (ir _) w.pos;rw[hx] at hb;rcases hb with⟨x',hx',_,_,hsm,_⟩|⟨hd,_⟩
 ·obtain⟨hl,hk⟩:=akp hm;have hl:(Zc T s').T.length=(Zc T s).T.length:=hl
  have h4':((Zc T s').S.K (j+0)).1=4:=by
   grind [Zc,EP]
  rw[he,adV h0' hx' h4'];exact⟨rfl,hsm,hr⟩
 ·cases hd
omit g in
theorem axv(s:Str)(hs:s.length<=1000)(g:Ma T)(he:(ny (mb [] T) s).2.2=0)(t:j8)(ht:t∈(ny (mb [] T) s).1):
 0<=t.at_/\t.at_<=(s.length:Int)/\(ny (mb [] T) (s.take t.at_.toNat++[32,10]++s.drop t.at_.toNat)).2.2=0/\(ny (mb [] T) (s.take t.at_.toNat++[32,10]++s.drop t.at_.toNat)).1.map DJ=(ny (mb [] T) s).1.map DJ:=
 asc (GK g.ok) (VX (GK g.ok) rfl) rfl ⟨_,rfl⟩ (.inl rfl) (by simp only[ii,iA];omega) he t ht
theorem Ma.azl:Ev (fun n=>D3 n T) (mb [] T):=by
 have h2:=g.ahr;have h3:=g.few.len;exact ar2 T g.axq g.nsm (by simp only[cap];omega)
theorem Ma.azm(hs:s.length<=65536):Ev (fun n=>Lv n s (mb [] T)) (ny (mb [] T) s):=
 amJ s (by simp only[LI];omega) _ (by have:=g.adQ;omega) fun y hy=>by have:=g.anN y hy;simp only[LI];omega
end
theorem aeV(x0:Str)(x1:List jH)(x2:Int)(h:(x0.length+1)+(GS jH.Ks x1+1)<=1048576)(_:True)(_: ∀y∈x1,y.wf)(hx:wfI .u8 x2): ∃n,EN n x0 x1 x2=some true:=by
 obtain⟨h1,h2⟩:=anQ (x0:=x0) (x1:=x1) (by omega);refine MS (li.ev ?_);refine li.fn (fun n=>by simp only[EN,kq,CF,mB];exact rfl) ?_;refine li.pO (fun _=>GO rfl) fun hl=> ?_
 have hl:=jz hl;refine li.bind (ab1 h1 h2) fun b hb=> ?_
 cases b with
 |false=>exact GO rfl
 |true=>
  have g:Ma x1:=⟨hb rfl,h2⟩;simp only[ju];refine Ev.to (MT g (by omega)) (Ev.to g.azl (Ev.to (g.azm (s:=x0) (by omega)) ?_));cases he:(p6 x1 x0).2.2==0 with
  |false=>simp only[bne,he,iG,ju];exact GO rfl
  |true=>
   have he':=jB.1 he;obtain⟨xx,j,s0,_,hj,_⟩:=Ic g (s:=x0) (by omega) he';have hpos:0<(ny (mb [] x1) x0).1.length:=iO (iC _) hj;have hlen:(ny (mb [] x1) x0).1.length<=65537:=by have:=(g.tk (s:=x0) (by omega) s0).le;grind [Zc]
   simp only[bne,he,iL,jv,s0,beq_self_eq_true];have hw:=fun t ht=>axv x0 (by omega) g s0 t ht
   have hsm:=fun s' hs' w1 w2=>amN g (s:=x0) (s':=s') (by omega) hs' w1 w2 he'
   revert hpos hlen hw hsm;generalize (ny (mb [] x1) x0).1=L;intro hpos hlen hw hsm;have e0:((L.length:Int)==0)=false:=by rw[jC];omega
   have e1:decide ((L.length:Int)=0)=false:=jx (by omega)
   have e2:(IntKind.i64.wrap x2).tmod (L.length:Int)=((x2.toNat % L.length:Nat):Int):=by
    have hx':=aw3 hx
    grind [wrap_small]
   have hk:=Nat.mod_lt x2.toNat hpos;simp only[e0,e1,e2,jv,n8 hk,ic];obtain⟨t0,t1,w1,w2⟩:=hw _ (ik hk);have e3:(List.take (L[x2.toNat % L.length]).at_.toNat x0).length<=x0.length:=by rw[jh];omega
   have e4:(jq (L[x2.toNat % L.length]).at_.toNat x0).length<=x0.length:=by rw[ig];omega
   have d1:decide (0<=(L[x2.toNat % L.length]).at_/\(L[x2.toNat % L.length]).at_<=(x0.length:Int))=true:=jw ⟨t0,t1⟩;have d2:decide ((List.take (L[x2.toNat % L.length]).at_.toNat x0).length<=9223372036854775805)=true:=jw (by omega);have d3:decide (0<=(L[x2.toNat % L.length]).at_/\(L[x2.toNat % L.length]).at_<=(x0.length:Int)/\(x0.length:Int)<=(x0.length:Int))=true:=jw ⟨t0,t1,iE _⟩;have d4:decide ((List.take (L[x2.toNat % L.length]).at_.toNat x0).length+2+(jq (L[x2.toNat % L.length]).at_.toNat x0).length<=9223372036854775807)=true:=jw (by omega);simp only[iQ,d1,d2,d3,d4,ju]
   have e5:(List.take (L[x2.toNat % L.length]).at_.toNat x0++[32,10]++jq (L[x2.toNat % L.length]).at_.toNat x0).length<=65536:=by
    grind
   obtain⟨z1,z2,z3⟩:=hsm _ e5 w1 w2;refine Ev.to (MT g e5) (Ev.to Pz ?_);simp only[z1,beq_self_eq_true,ju];exact Ev.tot (Ev.bind (z2.same z3) Ev.pure) rfl
def Xe(c:Nat)(t:j8):j8:=⟨t.kind,t.text,t.at_+(c:Int)⟩
theorem axw(T:Str->Int×Nat×Int)(c:Nat): ∀(r:Str)(a:Nat),(wW T r (a+c)).1=(wW T r a).1.map (Xe c)/\(wW T r (a+c)).2.2=(wW T r a).2.2:=by
 intro r;induction h:r.length using iw generalizing r with
 |ind d ih=>
  intro a
  match r,h with
  |[],_=>
   grind [wW,Xe]
  |q::t,h=>
   rw[wW,wW];cases (T (q::t)).2.2==0 with
   |false=>exact⟨rfl,rfl⟩
   |true=>
    simp only[ju];have hi:=ih ((t.drop ((T (q::t)).2.1-1)).drop (kQ false (t.drop ((T (q::t)).2.1-1)))).length (by grind) _ rfl (a+(T (q::t)).2.1+kQ false (t.drop ((T (q::t)).2.1-1)))
    grind [Xe]
theorem ash(j9:List Str)(s:Str)(a c:Nat):(Hv j9 s (a+c)).1=(Hv j9 s a).1.map (Xe c)/\(Hv j9 s (a+c)).2.2=(Hv j9 s a).2.2:=by
 unfold Hv;rw[show a+c+kQ false s=a+kQ false s+c by omega];exact axw _ c _ _
theorem adW(hs:j9.all CL=true){x:Str}{L:List j8}(h0:(Hv j9 s 0).2.2=0)(hL:Hv j9 x (a+s.length+2)=(L,0,0)):
 Hv j9 (s++10::41::x) a=(((Hv j9 s 0).1.map (Xe a)).dropLast++⟨2,[41],((a+s.length+1:Nat):Int)⟩::L,0,0):=by
 have h1:=ash j9 s 0 a;rw[jd] at h1;rw[avd (VX hs rfl) (h1.2.trans h0) (L:=⟨2,[41],((a+s.length+1:Nat):Int)⟩::L) ?_,h1.1];rw[VY rfl];exact akn hs hL
theorem avj(hs:j9.all CL=true)(h0:(Hv j9 s 0).2.2=0):
 Hv j9 (40::10::(s++10::41::[])) 0=(⟨2,[40],0⟩::(((Hv j9 s 0).1.map (Xe 2)).dropLast++[⟨2,[41],((2+s.length+1:Nat):Int)⟩,⟨4,[],((2+s.length+2:Nat):Int)⟩]),0,0):=by
 refine adP hs (by simp) ?_;rw[VY rfl];exact adW hs h0 (avb _)
def N17(r:Rs Syntax):Prop:= ∀x j,r= .ok x j->x.kind≠17
theorem N17.bind{r:Rs β}{f:β->Nat->Rs Syntax}(h: ∀x j,r= .ok x j->N17 (f x j)):N17 (r.bind f):=by
 cases r with
 |ok x j=>exact h x j rfl
 |er e a=>intro x j h;cases h
theorem N17.pO{c:Bool}{r s:Rs Syntax}(h1:c=true->N17 r)(h2:c=false->N17 s):N17 (bif c then r else s):=by
 cases c with
 |true=>exact h1 rfl
 |false=>exact h2 rfl
theorem N17.ok(h:x.kind≠17):N17 (.ok x j):=fun y k e=>by injection e with e1;rw[<-e1];exact h
theorem N17.er{e a:Int}:N17 (.er e a):=fun _ _ h=>by cases h
theorem amO {n:Int}(hk:k≠17){b:Syntax}(hb:b.kind≠17): ∀l:List jO,(Src.Ku k n l b f).kind≠17
 |[]=>hb
 |_::_=>hk
section
variable {S:Src} {ex ta:Nat->Rs Syntax}
def apD(S:Src):Prop:= ∀l,(S.np l).2.2=0->(S.np l).1.kind≠17
theorem axx(hn:apD S)(l:List Syntax)(i:Nat):N17 (S.SA l i):=by
 unfold Src.SA
 match l with
 |[]=>exact .er
 |x::r=>
  refine .pO (fun hc=> .ok ?_) fun _=> .pO (fun h0=> .ok (hn _ (jB.1 h0))) fun _=> ?_
  ·rw[iy,jf] at hc;exact jC.1 hc.2
  ·split<;>exact .er
theorem aAt(hn:apD S)(i:Nat):N17 (S.op ex ta i):= .bind fun l j _=>axx hn l j
theorem azn(hex: ∀i,N17 (ex i))(i:Nat):N17 (S.abJ ex i):= .bind fun l j _=> .bind fun _ j _=> .bind fun x k hx=> .ok (amO (by decide) (hex _ x k hx) l)
theorem azo(i:Nat):N17 (S.aai ex i):= .bind fun s j _=> .bind fun t k _=> .bind fun _ k _=> .bind fun v q _=> .bind fun _ q _=> .bind fun b r _=> .ok (show(9:Int)≠17 by decide)
theorem aaq(hex: ∀i,N17 (ex i)){n:Int}(hk:k≠17)(o:Nat)(l:List jO)(sep:Str)(i:Nat):N17 (S.product ex k n o l sep i):= .bind fun _ i _=> .bind fun x j hx=> .ok (amO hk (hex _ x j hx) l)
theorem avk(hn:apD S)(hex: ∀i,N17 (ex i))(i:Nat):N17 (S.z7 ex ta i):=by
 unfold Src.z7;exact .bind fun x j hx=> .pO (fun _=> .bind fun b k hb=> .ok (amO (by decide) (hex _ b k hb) _)) fun _=> .ok (aAt hn i x j hx)
theorem avl(hn:apD S)(hex: ∀i,N17 (ex i))(i:Nat):N17 (S.Fx ex ta i):=by
 unfold Src.Fx
 exact .pO (fun _=>azn hex i) fun _=> .pO (fun _=>azo i) fun _=> .pO (fun _=> .bind fun l j _=>aaq hex (by decide) _ _ _ _) fun _=> .pO (fun _=> .bind fun l j _=>aaq hex (by decide) _ _ _ _) fun _=>
  .pO (fun _=> .bind fun l j _=>aaq hex (by decide) _ _ _ _) fun _=>avk hn hex i
theorem aht(hn:apD S): ∀(d i:Nat),N17 (S.Bd d i)
 |0,i=> .er
 |d+1,i=>avl hn (aht hn d) i
end
theorem anS{f t:Int}: ∀(l:List Syntax)(o:Syntax),o.kind≠17->(Vk o l f t).kind≠17
 |[],_,h=>h
 |_::l,_,_=>anS l _ (show(2:Int)≠17 by decide)
theorem akq {t:Int}:(JO n l f t).kind≠17:=anS l _ (show(0:Int)≠17 by decide)
def K17:Cmd->Out->Prop
 | .first _ r,.val x _ q=>x.kind≠17
 | .level _ r,.val x _ q=>x.kind≠17
 | .loop _ out _ r,.val x _ q=>out.kind≠17->x.kind≠17
 |_,_=>True
theorem GQ.k17{T:List jH}{c:Cmd}{o:Out}(h:GQ T c o):K17 c o:=by
 induction h with
 |H8 hx=>exact hx
 |first hx hb h1 ih=>exact akq
 |stop _=>exact fun h=>h
 | @go m out has r n l e q o hg h1 h2 ih1 ih2=>
   rcases Kv h2 rfl with⟨q',rfl⟩|⟨x,h,q',rfl⟩
   ·trivial
   ·exact fun _=>ih2 akq
 | @level m r x h q o h1 h2 ih1 ih2=>
   rcases Kv h2 rfl with⟨q',rfl⟩|⟨x',h',q',rfl⟩
   ·trivial
   ·exact ih2 ih1
 |_=>trivial
theorem Ma.azp{T:List jH}(g:Ma T)(s:Str):apD (Zc T s).S:=by
 intro l h0;obtain⟨o,ho,e⟩:=g.npR (l:=l);have e:(Zc T s).S.np l=nB l o:=e;rw[e] at h0 ⊢;obtain⟨x,hh,rfl,e2⟩:=Ma.aap ho h0;rw[e2];exact(ho.k17:K17 (.level 0 l) (.val x hh []))
section
variable {S:Src} {ex ta:Nat->Rs Syntax}
structure Stop(S:Src)(q:Nat):Prop where
 s1:S.sym [46,49] q=false
 s2:S.sym [46,50] q=false
 b:S.vN q=false
 s:S.BN q=false
theorem Stop.apy(h:(S.K q).1=4):Stop S q:=by
 constructor<;>simp [Src.vN,Src.BN,Src.sym,Src.key,Src.is,h]
theorem Stop.sym{q:Nat}{y:Str}(h:S.K q=(2,y))(hy:([46,49]::[46,50]::[40]::[40,41]::[95]::[64]::[]:List Str).contains y=false)(hs:S.isS y=false):Stop S q:=by
 simp only[iS,List.contains_nil,iV,Bool.or_eq_false_iff,jC,ne_eq] at hy;obtain⟨h1,h2,h3,h4,h5,h6⟩:=hy;constructor<;>simp [Src.vN,Src.BN,Src.sym,Src.key,Src.is,h,hs,h1,h2,h3,h4,h5,h6]
theorem Stop.Do(h:Stop S q)(x:Syntax): ∀m,S.Do m x q= .ok x q
 |0=>by unfold Src.Do;rw[h.s1,h.s2];rfl
 |m+1=>by unfold Src.Do;rw[h.s1,h.s2];rfl
theorem Stop.NY(h:Stop S q)(x:Syntax): ∀m,S.NY ex ta m x q= .ok x q
 |0=>by unfold Src.NY;rw[h.b];rfl
 |m+1=>by unfold Src.NY;rw[h.b];rfl
theorem Stop.tU(h:Stop S q)(l:List Syntax): ∀m,S.tU ex ta m l q= .ok l q
 |0=>by unfold Src.tU;rw[h.b,h.s];rfl
 |m+1=>by unfold Src.tU;rw[h.b,h.s];rfl
theorem LJ {z:Str}(h:S.K i=(2,y)):S.sym z i=(y==z):=by simp [Src.sym,Src.is,h]
theorem asi {z:Str}(h:S.K i=(2,y)):S.key z i=false:=by simp [Src.key,Src.is,h]
theorem avm(h40:S.K i=(2,[40]))(hi:S.nx i=i+1)(hx:ex (i+1)= .ok x j)(h41:S.K j=(2,[41]))(hj:S.nx j=j+1)(hq:Stop S (j+1)):S.app ex ta i= .ok x (j+1):=by
 unfold Src.app Src.Q1 Src.basic Src.DH;rw[LJ h40,hi,hx];simp only[beq_self_eq_true,ju,Rs.bind];rw[LJ h41,hj];simp only[beq_self_eq_true,ju,hq.Do,hq.NY]
theorem amP(h40:S.K i=(2,[40]))(hs:S.isS [40]=false)(hi:S.nx i=i+1)(hx:ex (i+1)= .ok x j)(h41:S.K j=(2,[41]))(hj:S.nx j=j+1)(hq:Stop S (j+1))(hk:x.kind≠17):S.op ex ta i= .ok x (j+1):=by
 have ahm:S.BN i=false:=by simp [Src.BN,h40,hs]
 have hb:S.vN i=true:=by simp [Src.vN,LJ h40]
 have hit:S.item ex ta i= .ok x (j+1):=by
  unfold Src.item;rw[ahm,jv];exact avm h40 hi hx h41 hj hq
 have hl:S.tU ex ta 200 [] i= .ok [x] (j+1):=by
  unfold Src.tU;rw[ahm,hb,hit];exact hq.tU [x] 199
 unfold Src.op;rw[hl];show S.SA [x] (j+1)=_;unfold Src.SA;have:(x.kind==17)=false:=jC.2 hk;simp only[List.isEmpty_nil,this,iG,Bool.and_self,ju]
theorem amQ{e a:Int}(h40:S.K i=(2,[40]))(hs:S.isS [40]=false)(hi:S.nx i=i+1)(hx:ex (i+1)= .er e a):S.op ex ta i= .er e a:=by
 have ahm:S.BN i=false:=by simp [Src.BN,h40,hs]
 have hb:S.vN i=true:=by simp [Src.vN,LJ h40]
 have hit:S.item ex ta i= .er e a:=by
  unfold Src.item Src.app Src.Q1 Src.basic Src.DH;rw[ahm,LJ h40,hi,hx];rfl
 unfold Src.op Src.tU;rw[ahm,hb,hit];rfl
theorem Rc(h40:S.K i=(2,[40])):S.Fx ex ta i=S.z7 ex ta i:=by
 unfold Src.Fx;simp only[asi h40,LJ h40,jv];rfl
theorem akr(h:S.op ex ta i= .ok x j)(hj:S.sym [45,62] j=false):S.z7 ex ta i= .ok x j:=by
 unfold Src.z7;rw[h];simp only[Rs.bind,hj,jv]
theorem Zs{e a:Int}(h:S.op ex ta i= .er e a):S.z7 ex ta i= .er e a:=by
 unfold Src.z7;rw[h];rfl
end
theorem aks{Z:Cx}{t:j8}(h:Z.T[i]? =some t):Z.S.K i=(t.kind,t.text):=by simp [Cx.S,h]
theorem aAu{Z:Cx}{t:j8}(h:Z.T[i]? =some t):Z.S.F i=Z.b+t.at_:=by simp [Cx.S,h]
theorem aAv{Z:Cx}{t:j8}(h:Z.T[i]? =some t):Z.S.E (i+1)=Z.b+(t.at_+(t.text.length:Int)):=by simp [Cx.S,h]
theorem axy {A R:List j8}(h:i+1<A.length):(p++(A.dropLast++R))[i+p.length]? =A[i]? :=by
 grind
theorem anT {A R:List j8}{k:Nat}(h:0<A.length):(p++(A.dropLast++R))[p.length+(A.length-1)+k]? =R[k]? :=by
 grind
theorem Vq{T:List jH}(g:Wx T)(hy:CL y=false):(mb [] T).contains y=false:=by
 grind [GK]
section
variable {T:List jH} (g:Ma T)
include g
theorem ahu(hs:s.length<=65536)(hs':s'.length<=65536)(h0:(ny (mb [] T) s).2.2=0)(h0':(ny (mb [] T) s').2.2=0){R:List j8}{r:j8}(hT:(Zc T s').T=p++(((Zc T s).T.map (Xe m)).dropLast++r::R))
 (hr:r.kind=4\/(r.kind,r.text)=((2,[41]):Int×Str)):Win (Zc T s).S (Zc T s').S p.length:=by
 have ht:=g.tk hs h0;have ht':=g.tk hs' h0';have hp:=ht.pos;have hl:(Zc T s').T.length=p.length+((Zc T s).T.length-1)+(R.length+1):=by grind
 have hend: ∀i,i+1=(Zc T s).S.len->((Zc T s).S.K i).1=4:=fun i hi=>by
  have hi:i+1=(Zc T s).T.length:=hi;rw[EP (by omega),ht.apy i (by omega) hi]
 exact {
  pos:=hp
  K:=fun i hi=>by
   have hi:i+1<(Zc T s).T.length:=hi
   grind [Xe,EP]
  apz:=hend
  stop:=fun i hi=>by
   have hi:i+1=(Zc T s).T.length:=hi
   grind [aks]
  len:=by show(Zc T s).T.length+p.length<=(Zc T s').T.length;omega
  isS:=rfl
  par:=akd g.ok
  inj:=fun i j hi hj=>by
   have hi:i<(Zc T s).T.length:=hi;have hj:j<(Zc T s).T.length:=hj;rw[ht.inj_iff hi hj,ht'.inj_iff (by omega) (by omega)];omega
  np:=fun l l' hn hl he hs h0=>g.avM l l' hn hl he hs h0}
end
end Go.Abs
end
