/- A part of the proof: plain facts. -/
import Derived.Test.YtdkeelhebopgkaaGreatDoorCoreC
import Derived.Test.YtdkeelhebopgkaaGreatDoorReadA
import Derived.KernelRfl
import Derived.Test.YtdkeelhebopgkaaGreatDoorDataA
set_option linter.all false
open List renaming drop_eq_getElem_cons→gx,drop_eq_nil_of_le→gz,length_drop→gB,getElem_mem→gC,drop_drop→gI,length_cons→gM,contains_cons→gN,length_append→gP,suffix_refl→gQ,mem_append→gS,length_nil→gT,drop_zero→gU,length_singleton→gV,take_length→gX,mem_singleton→gZ,take_zero→hJ,any_cons→ia,drop→ib,all_nil→ij,suffix_cons→ir,any_nil→iw,take_append_getElem→iy,getElem?_eq_getElem→iz,length_eq_zero_iff→iA,set_getElem_self→iC
open Option renaming bind_some→gy,isSome_none→iG
open Bool renaming true_and→gA,and_eq_true→gD,false_or→gE,not_false→gH,not_true→gK,eq_iff_iff→gY,or_false→hU,or_eq_false_iff→ig,false_and→ik,or_comm→iE
open Int renaming toNat_natCast→gF,le_refl→gL,le_trans→gW,natCast_add→ii,lt_irrefl→il,ofNat_lt→iv
open Nat renaming le_refl→gG,zero_le→gJ,strongRecOn→gR,add_zero→iq,le_trans→iF
open Go.Lib renaming contains→gO,index→iB,indexAny→iD
open Go.Utf8 renaming decode→hO
open Exists renaming imp→ic
namespace Go.Abs
variable {b c:Bool}{a d f k:Int}{ns:List Str}{ls:List j7}{W:Type}{xs:List W}{N j:Nat}{t:Syntax}{O:Type}{p:UInt8->Bool}{P:W->Nat->Prop}
section
variable {R S T:Type}
def Ev(F:Nat->Option R)(r:R):Prop:=∃N,∀n,N<=n->F n=some r
def kZ(F:Nat->Nat->Option R)(r:R):Prop:=∃N,∀n m,N<=n->N<=m->F n m=some r
theorem Ev.fn{F G:Nat->Option R}{r:R}(h:∀n,F (n+1)=G n)(hg:Ev G r):Ev F r:=by
 obtain⟨N,hN⟩:=hg;refine⟨N+1,fun n hn=>?_⟩;obtain⟨k,rfl⟩:∃k,n=k+1:=⟨n-1,by omega⟩;rw[h];exact hN k (by omega)
theorem Ev.yn{F:Nat->Nat->Option R}{r:R}(h:kZ F r):Ev (fun n=>F n n) r:=by
 obtain⟨N,hN⟩:=h;exact⟨N,fun n hn=>hN n n hn hn⟩
theorem kZ.P9{F:Nat->Option R}{r:R}(h:Ev F r):kZ (fun n _=>F n) r:=by
 obtain⟨N,hN⟩:=h;exact⟨N,fun n m hn _=>hN n hn⟩
theorem kZ.lp{F G:Nat->Nat->Option R}{r:R}(h:∀n m,F n (m+1)=G n m)(hg:kZ G r):kZ F r:=by
 obtain⟨N,hN⟩:=hg;refine⟨N+1,fun n m hn hm=>?_⟩;obtain⟨k,rfl⟩:∃k,m=k+1:=⟨m-1,by omega⟩
 grind
theorem Ev.pure{r:R}:Ev (fun _=>some r) r:=⟨0,fun _ _=>rfl⟩
theorem kZ.pure{r:R}:kZ (fun _ _=>some r) r:=⟨0,fun _ _ _ _=>rfl⟩
theorem Ev.bind{F:Nat->Option S}{G:Nat->S->Option R}{x:S}{r:R}(h:Ev F x)(hg:Ev (fun n=>G n x) r):Ev (fun n=>(F n).bind (G n)) r:=by
 obtain⟨N,hN⟩:=h;obtain⟨M,hM⟩:=hg;refine⟨max N M,fun n hn=>?_⟩
 grind
theorem kZ.bind{F:Nat->Nat->Option S}{G:Nat->Nat->S->Option R}{x:S}{r:R}(h:kZ F x)(hg:kZ (fun n m=>G n m x) r):kZ (fun n m=>(F n m).bind (G n m)) r:=by
 obtain⟨N,hN⟩:=h;obtain⟨M,hM⟩:=hg;refine⟨max N M,fun n m hn hm=>?_⟩
 grind
theorem kZ.lQ{F:Nat->Option S}{G:Nat->Nat->S->Option R}{x:S}{r:R}(h:Ev F x)(hg:kZ (fun n m=>G n m x) r):kZ (fun n m=>(F n).bind (G n m)) r:=
 kZ.bind (F:=fun n _=>F n) (kZ.P9 h) hg
theorem Ev.congr{F G:Nat->Option R}{r:R}(hg:Ev G r)(h:∀n,F n=G n):Ev F r:=by
 rw[show F=G from funext h];exact hg
def k8(F:Nat->Option R)(Q:R->Prop):Prop:=∃r,Q r/\Ev F r
def kF(F:Nat->Nat->Option R)(Q:R->Prop):Prop:=∃r,Q r/\kZ F r
theorem k8.fn{F G:Nat->Option R}{Q:R->Prop}(h:∀n,F (n+1)=G n)(hg:k8 G Q):k8 F Q:=ic (fun _ k=>⟨k.1,Ev.fn h k.2⟩) hg
theorem k8.yn{F:Nat->Nat->Option R}{Q:R->Prop}(h:kF F Q):k8 (fun n=>F n n) Q:=ic (fun _ k=>⟨k.1,Ev.yn k.2⟩) h
theorem kF.P9{F:Nat->Option R}{Q:R->Prop}(h:k8 F Q):kF (fun n _=>F n) Q:=ic (fun _ k=>⟨k.1,kZ.P9 k.2⟩) h
theorem kF.lp{F G:Nat->Nat->Option R}{Q:R->Prop}(h:∀n m,F n (m+1)=G n m)(hg:kF G Q):kF F Q:=ic (fun _ k=>⟨k.1,kZ.lp h k.2⟩) hg
theorem k8.pure{r:R}{Q:R->Prop}(h:Q r):k8 (fun _=>some r) Q:=⟨r,h,Ev.pure⟩
theorem kF.pure{r:R}{Q:R->Prop}(h:Q r):kF (fun _ _=>some r) Q:=⟨r,h,kZ.pure⟩
theorem k8.bind{F:Nat->Option S}{G:Nat->S->Option R}{P:S->Prop}{Q:R->Prop}(h:k8 F P)(hg:∀x,P x->k8 (fun n=>G n x) Q):k8 (fun n=>(F n).bind (G n)) Q:=by
 obtain⟨x,hx,hF⟩:=h;obtain⟨r,hr,hG⟩:=hg x hx;exact⟨r,hr,Ev.bind hF hG⟩
theorem kF.bind{F:Nat->Nat->Option S}{G:Nat->Nat->S->Option R}{P:S->Prop}{Q:R->Prop}(h:kF F P)(hg:∀x,P x->kF (fun n m=>G n m x) Q):kF (fun n m=>(F n m).bind (G n m)) Q:=by
 obtain⟨x,hx,hF⟩:=h;obtain⟨r,hr,hG⟩:=hg x hx;exact⟨r,hr,kZ.bind hF hG⟩
theorem kF.lQ{F:Nat->Option S}{G:Nat->Nat->S->Option R}{P:S->Prop}{Q:R->Prop}(h:k8 F P)(hg:∀x,P x->kF (fun n m=>G n m x) Q):kF (fun n m=>(F n).bind (G n m)) Q:=
 kF.bind (F:=fun n _=>F n) (kF.P9 h) hg
theorem kF.Eu{xs:List S}{i:Nat}{G:Nat->Nat->S->Option R}{Q:R->Prop}(hi:i<xs.length)(hg:kF (fun n m=>G n m xs[i]) Q):kF (fun n m=>(sQ xs (i:Int)).bind (G n m)) Q:=by
 grind [sQ]
theorem k8.C4{A B:Nat->Option R}{Q:R->Prop}(h1:c=true->k8 A Q)(h2:c=false->k8 B Q):k8 (fun n=>bif c then A n else B n) Q:=by
 cases c with
 |true=>exact h1 rfl
 |false=>exact h2 rfl
theorem kF.C4{A B:Nat->Nat->Option R}{Q:R->Prop}(h1:c=true->kF A Q)(h2:c=false->kF B Q):kF (fun n m=>bif c then A n m else B n m) Q:=by
 cases c with
 |true=>exact h1 rfl
 |false=>exact h2 rfl
theorem k8.imp{F:Nat->Option R}{P Q:R->Prop}(h:k8 F P)(k:∀r,P r->Q r):k8 F Q:=ic (fun r x=>⟨k r x.1,x.2⟩) h
theorem kF.imp{F:Nat->Nat->Option R}{P Q:R->Prop}(h:kF F P)(k:∀r,P r->Q r):kF F Q:=ic (fun r x=>⟨k r x.1,x.2⟩) h
theorem k8.ev{F:Nat->Option R}{r:R}(h:k8 F (· =r)):Ev F r:=by obtain⟨s,rfl,h⟩:=h;exact h
theorem Ev.Uu{F:Nat->Option R}{r:R}{Q:R->Prop}(h:Ev F r)(q:Q r):k8 F Q:=⟨r,q,h⟩
theorem kZ.Uu{F:Nat->Nat->Option R}{r:R}{Q:R->Prop}(h:kZ F r)(q:Q r):kF F Q:=⟨r,q,h⟩
theorem kF.up {L:Nat->Nat->Int->S->Option R} (len:Nat) (I:Nat->S->Prop) (Q:R->Prop)
 (h1:∀i s,i<len->I i s->(∀s',I (i+1) s'->kF (fun n m=>L n m ((i+1:Nat):Int) s') Q)->kF (fun n m=>L n m (i:Int) s) Q)
 (h2:∀s,I len s->kF (fun n m=>L n m (len:Int) s) Q):∀(i:Nat)(s:S),i<=len->I i s->kF (fun n m=>L n m (i:Int) s) Q:=by
 intro i s hi h;obtain⟨k,hk⟩:∃k,k=len-i:=⟨_,rfl⟩;induction k generalizing i s with
 |zero=>obtain rfl:i=len:=by omega
        exact h2 s h
 |succ k ih=>grind
theorem lj{n:Int}(h: -9223372036854775808<=n)(h2:n<=9223372036854775807):IntKind.i64.wrap n=n:=by
 grind [IntKind.wrap,IntKind.signed,IntKind.bits]
theorem kM{i:Nat}(h:i<9223372036854775807):IntKind.i64.wrap ((i:Int)+1)=((i+1:Nat):Int):=by
 grind [lj]
theorem nA{xs:List S}{i:Nat}(hi:i<xs.length):sQ xs (i:Int)=some xs[i]:=by simp [sQ]
theorem kZ.Eu{xs:List S}{i:Nat}{G:Nat->Nat->S->Option R}{r:R}(hi:i<xs.length)(hg:kZ (fun n m=>G n m xs[i]) r):kZ (fun n m=>(sQ xs (i:Int)).bind (G n m)) r:=by
 simp [nA hi];exact hg
noncomputable def eqb (a b:W):Bool:= @decide (a=b) (Classical.propDecidable _)
theorem alr{a b:W}:eqb a b=true↔a=b:=by
 grind [eqb]
theorem aul(a:W):eqb a a=true:=alr.2 rfl
theorem azI{a b:W}(h:a≠b):eqb a b=false:=by
 grind [alr]
theorem aCn(x y:W)(xs ys:List W):eqb (x::xs) (y::ys)=(eqb x y&&eqb xs ys):=by
 grind [alr]
theorem aFh {ys:List W}(h:xs.length≠ys.length):eqb xs ys=false:=azI fun e=>h (by rw[e])
theorem aFi[BEq W][LawfulBEq W](x y:W):eqb x y=(x==y):=by
 grind [alr]
theorem kZ.andThen{F:Nat->Nat->Option Bool}{r:Bool}(h:kZ F r):kZ (fun n m=>bif c then F n m else some false) (c&&r):=by
 cases c with
 |true=>exact h
 |false=>exact kZ.pure
theorem kZ.P8{L:Nat->Nat->Int->Option Bool}(xs ys:List W)(hl:xs.length=ys.length)
 (h1:∀(i:Nat)(hi:i<xs.length)(hj:i<ys.length)(r:Bool),kZ (fun n m=>L n m ((i+1:Nat):Int)) r->kZ (fun n m=>L n m (i:Int)) (eqb xs[i] ys[i]&&r))
 (h2:kZ (fun n m=>L n m (xs.length:Int)) true):kZ (fun n m=>L n m 0) (eqb xs ys):=by
 have key:∀(k i:Nat),k+i=xs.length->kZ (fun n m=>L n m (i:Int)) (eqb (xs.drop i) (ys.drop i)):=by
  intro k;induction k with
  |zero=>
   grind [aul]
  |succ k ih=>
   grind [gx,aCn]
 have:=key xs.length 0 (by omega);simpa using this
end
theorem Zs(h:(List.range 256).all (fun n=>p (UInt8.ofNat n))=true)(c:UInt8):p c=true:=by
 have:=List.all_eq_true.1 h c.toNat (List.mem_range.2 c.toNat_lt)
 rwa [UInt8.ofNat_toNat]at this
def aFj(c:UInt8):Bool:=(decide (97<=c.toNat)&&decide (c.toNat<=122))||(decide (65<=c.toNat)&&decide (c.toNat<=90))
def C5(c:UInt8):Bool:=aFj c||c==95
def rD(c:UInt8):Bool:=decide (48<=c.toNat)&&decide (c.toNat<=57)
def Sw(c:UInt8):Bool:=C5 c||(rD c||c==39)
def CX(c:UInt8):Int:=bif C5 c then 1 else bif rD c then 2 else bif c==34 then 3 else 0
theorem RM(c:UInt8):Ev (fun n=>C9 n (c.toNat:Int)) (CX c):=by
 refine Ev.fn (fun n=>by simp only[C9,kD,UP,mB];exact rfl) ?_;refine Ev.congr Ev.pure (fun _=>?_)
 have:=Zs (p:=fun c=>decide ((bif decide (97<=(c.toNat:Int))then
  bif decide ((c.toNat:Int)<=122)then some 1
  else
   bif decide (65<=(c.toNat:Int))then
    bif decide ((c.toNat:Int)<=90)then some 1
    else
     bif (c.toNat:Int)==95 then some 1
     else
      bif decide (48<=(c.toNat:Int))then bif decide ((c.toNat:Int)<=57)then some 2 else bif (c.toNat:Int)==34 then some 3 else some 0
      else bif (c.toNat:Int)==34 then some 3 else some 0
   else
    bif (c.toNat:Int)==95 then some 1
    else
     bif decide (48<=(c.toNat:Int))then bif decide ((c.toNat:Int)<=57)then some 2 else bif (c.toNat:Int)==34 then some 3 else some 0
     else bif (c.toNat:Int)==34 then some 3 else some 0
  else
   bif decide (65<=(c.toNat:Int))then
    bif decide ((c.toNat:Int)<=90)then some 1
    else
     bif (c.toNat:Int)==95 then some 1
     else
      bif decide (48<=(c.toNat:Int))then bif decide ((c.toNat:Int)<=57)then some 2 else bif (c.toNat:Int)==34 then some 3 else some 0
      else bif (c.toNat:Int)==34 then some 3 else some 0
   else
    bif (c.toNat:Int)==95 then some 1
    else
     bif decide (48<=(c.toNat:Int))then bif decide ((c.toNat:Int)<=57)then some 2 else bif (c.toNat:Int)==34 then some 3 else some 0
     else bif (c.toNat:Int)==34 then some 3 else some 0)=some (CX c))) (jR) c
 exact jO this
theorem azJ(c:UInt8):Ev (fun n=>Qa n (c.toNat:Int)) (aFj c):=by
 refine Ev.fn (fun n=>by simp only[Qa,kD,QK,mB];exact rfl) ?_
 grind [Ev.pure,aFj]
theorem wq(c:UInt8)(k:Nat)(hk:k<256):((c.toNat:Int)==(k:Int))=(c==UInt8.ofNat k):=by
 rw[gY];constructor
 ·grind [UInt8.ofNat_toNat]
 simp_all [Nat.mod_eq_of_lt]
theorem adZ(c:UInt8):Ev (fun n=>xp n (c.toNat:Int)) (C5 c):=by
 refine Ev.fn (fun n=>by simp only[xp,kD,QW,mB];exact rfl) ?_;refine Ev.bind (azJ c) ?_;unfold C5;cases aFj c with
 |true=>exact Ev.pure
 |false=>
  simp only[jL,gE];rw[show((c.toNat:Int)==95)=(c==95)from wq c 95 (by decide)];exact Ev.pure
theorem ads(c:UInt8):Ev (fun n=>N8 n (c.toNat:Int)) (rD c):=by
 refine Ev.fn (fun n=>by simp only[N8,kD,UK,mB];exact rfl) ?_
 grind [Ev.pure,rD]
theorem Xr(c:UInt8):(CX c==1)=C5 c:=by grind [CX]
theorem Xs(c:UInt8):(CX c==2)=rD c:=by
 have:=Zs (p:=fun c=>(CX c==2)==rD c) (jR) c;exact eq_of_beq this
theorem ad0(c:UInt8):Ev (fun n=>yS n (c.toNat:Int)) (Sw c):=by
 refine Ev.fn (fun n=>by simp only[yS,kD,QX,mB];exact rfl) ?_;refine Ev.bind (RM c) ?_;rw[Xr];unfold Sw;cases C5 c with
 |true=>exact Ev.pure
 |false=>
  simp only[jL,gE];refine Ev.bind (RM c) ?_;rw[Xs];cases rD c with
  |true=>exact Ev.pure
  |false=>
   simp only[jL,gE];rw[show((c.toNat:Int)==39)=(c==39)from wq c 39 (by decide)];exact Ev.pure
def ayr:Str:=[33,35,36,37,38,42,43,45,47,58,60,61,62,63,64,92,94,124,126]
def kws:List Str:=[[102,117,110],[108,101,116],[105,110],[83,105,103,109,97],[80,114,111,112],[84,121,112,101],
       [98,121],[97,120,105,111,109],[100,101,102],[116,104,101,111,114,101,109],
       [105,110,100,117,99,116,105,118,101],[102,117,110,99,116,105,111,110],[97,110,100],
       [101,110,100],[99,108,97,115,115],[105,110,115,116,97,110,99,101],
       [110,111,116,97,116,105,111,110],[110,97,109,101,115,112,97,99,101],[111,112,101,110],
       [99,104,101,99,107],[101,118,97,108],[105,109,112,111,114,116]]
def sX:List Str:=[[40],[41],[40,41],[123],[125],[91],[93],[44],[59],[58],[58,61],[45,62],[61,62],[124],[64],
     [43],[95],[46,123],[46,49],[46,50],[60,124,62]]
theorem apz[BEq W][LawfulBEq W](xs:List W)(v:W){L:Nat->Nat->Int->Option Bool}(hl:xs.length<4611686018427387904)
 (h:∀n m k,L n (m+1) k=bif decide (k<(xs.length:Int))then(sQ xs k).bind fun x=>bif x==v then some true else L n m (IntKind.i64.wrap (k+1))else some false):
 kZ (fun n m=>L n m 0) (xs.contains v):=by
 have key:∀d k:Nat,k+d=xs.length->kZ (fun n m=>L n m (k:Int)) ((xs.drop k).contains v):=by
  intro d;induction d with
  |zero=>
   grind [kZ.lp,kZ.pure]
  |succ d ih=>
   intro k hk;have me:k<xs.length:=by omega
   refine kZ.lp (fun n m=>h n m k) ?_;have:decide ((k:Int)<(xs.length:Int))=true:=jM (by omega);simp only[this];refine kZ.Eu me ?_;rw[gx me,gN];rw[show(v==xs[k])=(xs[k]==v)from gY.2 ⟨fun h=>by simpa using (beq_iff_eq.1 h).symm,fun h=>by simpa using (beq_iff_eq.1 h).symm⟩];cases xs[k]==v with
   |true=>exact kZ.pure
   |false=>
    grind [kM]
 simpa using key xs.length 0 (by omega)
theorem afW(s:Str):Ev (fun n=>HK n s) (kws.contains s):=by
 refine Ev.fn (fun n=>by simp only[HK,kD,aMn,mB];exact rfl) ?_;exact Ev.yn (F:=fun n m=>Gz n m s kws 0) (apz kws s (by decide) (fun n m k=>by simp only[agh,Gy,mB]))
theorem aHJ(xs:List Str)(s:Str)(hl:xs.length<4611686018427387904):Ev (fun n=>adS n xs s) (xs.contains s):=by
 refine Ev.fn (fun n=>by simp only[adS,kD,abT,mB];exact rfl) ?_;exact Ev.yn (F:=fun n m=>Qh n m xs s 0) (apz xs s hl (fun n m k=>by simp only[amT,Qg,mB]))
theorem aum:Ev (fun n=>N9 n) sX:=by
 refine Ev.fn (fun n=>by simp only[N9,kD,UN,mB];exact rfl) ?_;exact Ev.pure
theorem aFk(k:Nat):Oj (k+80)=some sX:=jR
theorem apA:Ev (fun n=>Oj n) sX:=by
 refine⟨80,fun n hn=>?_⟩;obtain⟨k,rfl⟩:∃k,n=k+80:=⟨n-80,by omega⟩;exact aFk k
def Gl:List (Str×Bool):=kws.map fun s=>(s,true)
theorem aw2(k:Nat):FZ (k+250)=some ((Gl,()),()):=jR
theorem akc:Ev (fun n=>FZ n) ((Gl,()),()):=by
 refine⟨250,fun n hn=>?_⟩;obtain⟨k,rfl⟩:∃k,n=k+250:=⟨n-250,by omega⟩;exact aw2 k
theorem agP(s:Str):∀xs:List Str,(oa s (xs.map fun x=>(x,true))).getD false=xs.contains s
 |[]=>rfl
 |x::xs=>by
  rw[List.map_cons,oa,gN];cases s==x with
  |true=>rfl
  |false=>exact agP s xs
theorem aw3(s:Str):Ev (fun n=>NK n s) (kws.contains s):=by
 refine Ev.fn (fun n=>by simp only[NK,kD,Pf,mB];exact rfl) ?_;refine Ev.bind akc ?_;rw[<-agP];exact Ev.pure
abbrev big:Nat:=4611686018427387904
theorem oo{s:Str}{k:Nat}(h:k<s.length):s.drop k=s[k]::s.drop (k+1):=gx h
def pe(p:UInt8->Bool)(r:Str):Nat:=(r.takeWhile p).length
theorem aun(p:UInt8->Bool):pe p []=0:=rfl
theorem tN(p:UInt8->Bool)(c:UInt8)(r:Str):pe p (c::r)=bif p c then pe p r+1 else 0:=by
 grind [pe,List.takeWhile_cons]
theorem GM(p:UInt8->Bool):∀r:Str,pe p r<=r.length
 |[]=>gG _
 |c::r=>by rw[tN];have:=GM p r;grind
theorem ais{R:Type}{s:Str}(hs:s.length<big)(p:UInt8->Bool){L:Nat->Nat->Int->Option R}{r:R}
 (step:∀k:Nat,∀hk:k<s.length,p s[k]=true->kZ (fun n m=>L n m ((k+1:Nat):Int)) r->kZ (fun n m=>L n m (k:Int)) r)
 (stop:∀k:Nat,k<=s.length->(∀hk:k<s.length,p s[k]=false)->k=N->kZ (fun n m=>L n m (k:Int)) r):
 ∀k:Nat,k<=s.length->k+pe p (s.drop k)=N->kZ (fun n m=>L n m (k:Int)) r:=by
 have key:∀d k:Nat,k+d=s.length->k+pe p (s.drop k)=N->kZ (fun n m=>L n m (k:Int)) r:=by
  intro d;induction d with
  |zero=>
   grind [aun]
  |succ d ih=>
   intro k hk hN;have me:k<s.length:=by omega
   rw[oo me,tN]at hN
   grind
 intro k hk hN;exact key (s.length-k) k (by omega) hN
def yJ(r:Str):Nat:=pe Sw r
theorem Zt(s:Str)(hs:s.length<big)(k:Nat)(hk:k<=s.length):Ev (fun n=>Ed n s (k:Int)) ((k+yJ (s.drop k):Nat):Int):=by
 refine Ev.fn (fun n=>by simp only[Ed,kD,K6,mB];exact rfl) ?_;refine Ev.yn (F:=fun n m=>zI n m s (k:Int)) ?_;refine ais hs Sw (L:=fun n m k=>zI n m s k) (N:=k+yJ (s.drop k)) ?_ ?_ k hk rfl
 ·intro k me hp next
  refine kZ.lp (fun n m=>by simp only[OB,zH,mB];exact rfl) ?_;have:decide ((k:Int)<(s.length:Int))=true:=jM (by omega);simp only[this,jK];refine kZ.Eu me (kZ.lQ (adZ _) ?_);rw[kM (by simp only[big]at hs;omega)];unfold Sw at hp;cases hb:C5 s[k]with
  |true=>simp only[jK];exact next
  |false=>
   simp only[jL];refine kZ.Eu me (kZ.lQ (ads _) ?_);cases hd:rD s[k]with
   |true=>simp only[jK];exact next
   |false=>
    simp only[jL];refine kZ.Eu me ?_
    simp_all
 ·intro k hle hp hN;refine kZ.lp (fun n m=>by simp only[OB,zH,mB];exact rfl) ?_;by_cases me:k<s.length
  ·have:decide ((k:Int)<(s.length:Int))=true:=jM (by omega);have hp:=hp me;unfold Sw at hp;simp only[ig]at hp;obtain⟨h1,h2,h3⟩:=hp;simp only[this,jK];refine kZ.Eu me (kZ.lQ (adZ _) ?_);simp only[h1,jL];refine kZ.Eu me (kZ.lQ (ads _) ?_);simp only[h2,jL];refine kZ.Eu me ?_;rw[show((s[k].toNat:Int)==39)=(s[k]==39)from wq _ 39 (by decide),h3]
   grind [kZ.pure]
  grind [kZ.pure]
noncomputable def Xt (r:Str):Nat:=
 match h:r.drop (yJ r)with
 |d::c::t=>bif d==46&&C5 c then yJ r+(1+Xt (c::t))else yJ r
 |_=>yJ r
termination_by r.length
decreasing_by
 grind [gM]
noncomputable def tlT:Str->Nat
 |d::c::t=>bif d==46&&C5 c then 1+Xt (c::t)else 0
 |_=>0
theorem Zu(r:Str):Xt r=yJ r+tlT (r.drop (yJ r)):=by
 grind [Xt,tlT]
theorem adt(r:Str):yJ r<=r.length:=GM _ _
theorem aCo:∀r:Str,tlT r<=r.length:=by
 intro r;induction h:r.length using gR generalizing r with
 |ind k ih=>
  unfold tlT
  grind [adt,Zu]
theorem art(r:Str):Xt r<=r.length:=by
 grind [adt,aCo,Zu]
theorem aru(s:Str)(hs:s.length<big):∀k:Nat,k<=s.length->kZ (fun n m=>NM n m s (k:Int)) ((k+tlT (s.drop k):Nat):Int):=by
 intro k;induction h:s.length-k using gR generalizing k with
 |ind d ih=>
  intro hk;simp only[big]at hs;refine kZ.lp (fun n m=>by simp only[akZ,NL,mB];exact rfl) ?_;rw[kM (by omega)];by_cases h1:k+1<s.length
  ·have e1:decide (((k+1:Nat):Int)<(s.length:Int))=true:=jM (by omega);have OZ:k<s.length:=by omega
   simp only[e1,jK];refine kZ.Eu OZ ?_;rw[oo OZ,oo h1];rw[show((s[k].toNat:Int)==46)=(s[k]==46)from wq _ 46 (by decide)];simp only[tlT];cases s[k]==46 with
   |false=>grind [kZ.pure]
   |true=>
    simp only[jK,gA];refine kZ.Eu h1 (kZ.lQ (adZ _) ?_);cases C5 s[k+1]with
    |false=>grind [kZ.pure]
    |true=>
     simp only[jK];refine kZ.lQ (Zt s (by simp only[big];omega) (k+1) (by omega)) ?_;have hc:=adt (s.drop (k+1));rw[gB]at hc;have:=ih (s.length-(k+1+yJ (s.drop (k+1)))) (by omega) (k+1+yJ (s.drop (k+1))) rfl (by omega);rw[<-oo h1,Zu,gI]
     grind
  ·have e1:decide (((k+1:Nat):Int)<(s.length:Int))=false:=jN (by omega);simp only[e1,jL]
   have:tlT (s.drop k)=0:=by
    have hl:(s.drop k).length<=1:=by rw[gB];omega
    match s.drop k,hl with
    |[],_=>rfl
    |[_],_=>rfl
    |_::_::_,hl=>simp at hl
   rw[this];exact kZ.pure
theorem aw4(s:Str)(hs:s.length<big)(k:Nat)(hk:k<=s.length):Ev (fun n=>YL n s (k:Int)) ((k+Xt (s.drop k):Nat):Int):=by
 refine Ev.fn (fun n=>by simp only[YL,kD,YK,mB];exact rfl) ?_;refine Ev.bind (Zt s hs k hk) ?_;have hc:=adt (s.drop k);rw[gB]at hc;have:=aru s hs (k+yJ (s.drop k)) (by omega);rw[Zu,gI]
 grind [Ev.yn]
def Pk{R:Type}(F:Nat->Nat->Nat->Option R)(r:R):Prop:=∃N,∀n m p,N<=n->N<=m->N<=p->F n m p=some r
section ev3
variable {R S:Type}
theorem Pk.lp{F G:Nat->Nat->Nat->Option R}{r:R}(h:∀n m p,F n m (p+1)=G n m p)(hg:Pk G r):Pk F r:=by
 obtain⟨N,hN⟩:=hg;refine⟨N+1,fun n m p h1 h2 h3=>?_⟩;obtain⟨q,rfl⟩:∃q,p=q+1:=⟨p-1,by omega⟩
 grind
theorem Pk.sn{F:Nat->Nat->Nat->Option R}{r:R}(h:Pk F r):kZ (fun n m=>F n m n) r:=by
 obtain⟨N,hN⟩:=h;exact⟨N,fun n m h1 h2=>hN n m n h1 h2 h1⟩
theorem Pk.yn{F:Nat->Nat->Option R}{r:R}(h:kZ F r):Pk (fun n m _=>F n m) r:=by
 obtain⟨N,hN⟩:=h;exact⟨N,fun n m p h1 h2 _=>hN n m h1 h2⟩
theorem Pk.pure{r:R}:Pk (fun _ _ _=>some r) r:=⟨0,fun _ _ _ _ _ _=>rfl⟩
theorem Pk.lQ{F:Nat->Option S}{G:Nat->Nat->Nat->S->Option R}{x:S}{r:R}(h:Ev F x)(hg:Pk (fun n m p=>G n m p x) r):Pk (fun n m p=>(F n).bind (G n m p)) r:=by
 obtain⟨N,hN⟩:=h;obtain⟨M,hM⟩:=hg;refine⟨max N M,fun n m p h1 h2 h3=>?_⟩
 grind
theorem Pk.Eu{xs:List S}{i:Nat}{G:Nat->Nat->Nat->S->Option R}{r:R}(hi:i<xs.length)(hg:Pk (fun n m p=>G n m p xs[i]) r):Pk (fun n m p=>(sQ xs (i:Int)).bind (G n m p)) r:=by
 grind [sQ]
end ev3
theorem apB{R:Type}{s:Str}(p:UInt8->Bool){L:Nat->Nat->Nat->Int->Option R}{r:R}
 (step:∀k:Nat,∀hk:k<s.length,p s[k]=true->Pk (fun n m q=>L n m q ((k+1:Nat):Int)) r->Pk (fun n m q=>L n m q (k:Int)) r)
 (stop:∀k:Nat,k<=s.length->(∀hk:k<s.length,p s[k]=false)->k=N->Pk (fun n m q=>L n m q (k:Int)) r):
 ∀k:Nat,k<=s.length->k+pe p (s.drop k)=N->Pk (fun n m q=>L n m q (k:Int)) r:=by
 have key:∀d k:Nat,k+d=s.length->k+pe p (s.drop k)=N->Pk (fun n m q=>L n m q (k:Int)) r:=by
  intro d;induction d with
  |zero=>
   grind [aun]
  |succ d ih=>
   intro k hk hN;have me:k<s.length:=by omega
   rw[oo me,tN]at hN
   grind
 intro k hk hN;exact key (s.length-k) k (by omega) hN
abbrev Scn:=(Str×Int×Unit)×List (Str×Bool)×List (Str×Bool)×List (Str×Bool)×Unit
def scn(s:Str)(nE:Int)(r1 r2 r3:List (Str×Bool)):Scn:=((s,nE,()),r1,r2,r3,())
def pk(x:Scn)(r:Int×Int×Int):Scn×Int×Int×Int×Unit:=(x,r.1,r.2.1,r.2.2,())
def apC(s:Str)(nE:Nat)(r1 r2:List (Str×Bool))(to:Nat):Int×Int×Int:=
 bif decide ((64:Int)<(((s.take to).drop nE).length:Int))then(0,nE,5)
 else bif (s.take to).drop nE==[95] then(2,to,0)
 else bif (oa ((s.take to).drop nE) r2).getD false then(2,to,0)
 else bif (oa ((s.take to).drop nE) r1).getD false then(3,to,0)
 else(0,to,0)
theorem aFl (s:Str) (hs:s.length<big) (nE:Nat) (r1 r2 r3:List (Str×Bool)) (ha:nE<=s.length):
 Ev (fun n=>DA n s (nE:Int) r1 r2 r3) (pk (scn s nE r1 r2 r3) (apC s nE r1 r2 (nE+Xt (s.drop nE)))):=by
 simp only[big]at hs
 have uA: ∀to:Nat,nE<=to->to<=s.length->Pk (fun n m p=>bif decide ((0:Int)<=(nE:Int)/\(nE:Int)<=(to:Int)/\(to:Int)<=(s.length:Int)) then
  bif decide ((64:Int)<((ib (nE:Int).toNat (List.take (to:Int).toNat s)).length:Int))then
   some (((s,(nE:Int),()),r1,r2,r3,()),(0:Int),(nE:Int),(5:Int),())
  else
   bif ib (nE:Int).toNat (List.take (to:Int).toNat s)==[95] then
    some (((s,(nE:Int),()),r1,r2,r3,()),(2:Int),(to:Int),(0:Int),())
   else
    bif (oa (ib (nE:Int).toNat (List.take (to:Int).toNat s)) r2).getD false then
     some (((s,(nE:Int),()),r1,r2,r3,()),(2:Int),(to:Int),(0:Int),())
    else
     bif (oa (ib (nE:Int).toNat (List.take (to:Int).toNat s)) r1).getD false then
      some (((s,(nE:Int),()),r1,r2,r3,()),(3:Int),(to:Int),(0:Int),())
     else some (((s,(nE:Int),()),r1,r2,r3,()),(0:Int),(to:Int),(0:Int),())
  else none) (pk (scn s nE r1 r2 r3) (apC s nE r1 r2 to)):=by
  intro to h1 h2;have e:decide ((0:Int)<=(nE:Int)/\(nE:Int)<=(to:Int)/\(to:Int)<=(s.length:Int))=true:=jM (by omega);simp only[e,jK,gF];unfold apC;cases decide ((64:Int)<(((s.take to).drop nE).length:Int))with
  |true=>exact Pk.pure
  |false=>
   cases (s.take to).drop nE==[95]with
   |true=>exact Pk.pure
   |false=>
    cases (oa ((s.take to).drop nE) r2).getD false with
    |true=>exact Pk.pure
    |false=>
     cases (oa ((s.take to).drop nE) r1).getD false with
     |true=>exact Pk.pure
     |false=>exact Pk.pure
 have outer: ∀k:Nat,nE<=k->k<=s.length->kZ (fun n m=>sI n m (k:Int) s (nE:Int) r1 r2 r3) (pk (scn s nE r1 r2 r3) (apC s nE r1 r2 (k+Xt (s.drop k)))):=by
  intro k;induction h:s.length-k using gR generalizing k with
  |ind d ih=>
   intro hak hk;refine kZ.lp (G:=fun n m=>ue n (sI n m) n (k:Int) s (nE:Int) r1 r2 r3) (fun n m=>by simp_all [WR,zZ]) ?_;refine Pk.sn (F:=fun n m p=>ue n (sI n m) p (k:Int) s (nE:Int) r1 r2 r3) ?_
   have abj:∀q:Nat,k<=q->q=k+yJ (s.drop k)->k+Xt (s.drop k)=q+tlT (s.drop q):=by
    grind [Zu,gI]
   refine apB (s:=s) Sw (L:=fun n m p k=>ue n (sI n m) p k s (nE:Int) r1 r2 r3) (N:=k+yJ (s.drop k)) ?_ ?_ k hk rfl
   ·intro q me hp next
    refine Pk.lp (fun n m p=>by simp only[Jv,wS,mB];exact rfl) ?_;have e:decide ((q:Int)<(s.length:Int))=true:=jM (by omega);simp only[e,jK];refine Pk.Eu me (Pk.lQ (ad0 _) ?_);rw[hp,kM (by omega)]
    grind
   ·intro q hle hp hN;have hq:=adt (s.drop k);rw[gB]at hq;rw[abj q (by omega) hN];refine Pk.lp (fun n m p=>by simp only[Jv,wS,mB];exact rfl) ?_;rw[kM (by omega)];have stop:tlT (s.drop q)=0->q+tlT (s.drop q)=q:=by omega
    by_cases me:q<s.length
    ·have e:decide ((q:Int)<(s.length:Int))=true:=jM (by omega);simp only[e,jK];refine Pk.Eu me (Pk.lQ (ad0 _) ?_);rw[hp me];simp only[jL];by_cases h1:q+1<s.length
     ·have e1:decide ((s.length:Int)<=((q+1:Nat):Int))=false:=jN (by omega);simp only[e1,jL];refine Pk.Eu me ?_;rw[show((s[q].toNat:Int) !=46)= !(s[q]==46)from by rw[bne,show((s[q].toNat:Int)==46)=(s[q]==46)from wq _ 46 (by decide)]];rw[oo me,oo h1];simp only[tlT];cases s[q]==46 with
      |false=>
       simp only[gH,jK,ik,jL,iq];exact uA q (by omega) hle
      |true=>
       simp only[gK,jL,gA];refine Pk.Eu h1 (Pk.lQ (RM _) ?_);rw[bne,Xr];cases C5 s[q+1]with
       |false=>
        simp only[gH,jK,jL,iq];exact uA q (by omega) hle
       |true=>
        simp only[gK,jL,jK];have:=ih (s.length-(q+1)) (by omega) (q+1) rfl (by omega) (by omega);rw[oo h1]at this
        grind [Pk.yn]
     ·have e1:decide ((s.length:Int)<=((q+1:Nat):Int))=true:=jM (by omega)
      have:tlT (s.drop q)=0:=by
       have hl:(s.drop q).length<=1:=by rw[gB];omega
       match s.drop q,hl with
       |[],_=>rfl
       |[_],_=>rfl
       |_::_::_,hl=>simp at hl
      rw[stop this];simp only[e1,jK];exact uA q (by omega) hle
    ·have e:decide ((q:Int)<(s.length:Int))=false:=jN (by omega);have e1:decide ((s.length:Int)<=((q+1:Nat):Int))=true:=jM (by omega);rw[gz (show s.length<=q by omega)];simp only[e,e1,jK,jL,tlT,iq];exact uA q (by omega) hle
 refine Ev.fn (fun n=>by simp only[DA,kD,F1,mC];exact rfl) ?_
 grind [Ev.yn]
def Xu(r:Str):Int×Nat×Int:=
 bif decide (6<pe rD r)then(0,0,5)
 else bif decide (1<pe rD r)&&r.head?==some 48 then(0,0,4)
 else match r.drop (pe rD r)with
  |d::_=>bif C5 d||d==39 then(0,pe rD r,4)else(1,pe rD r,0)
  |[]=>(1,pe rD r,0)
def ae2(nE:Nat)(r:Int×Nat×Int):Int×Int×Int:=(r.1,((nE+r.2.1:Nat):Int),r.2.2)
theorem Xv(c:UInt8)(k:Nat)(hk:k<256):((c.toNat:Int) !=(k:Int))= !(c==UInt8.ofNat k):=by rw[bne,wq c k hk]
theorem anf{a b:Nat}(h:b<=a)(ha:a<big):IntKind.i64.wrap ((a:Int)-(b:Int))=((a-b:Nat):Int):=by
 grind [lj]
theorem azK (s:Str) (hs:s.length<big) (nE:Nat) (r1 r2 r3:List (Str×Bool)) (ha:nE<s.length):
 Ev (fun n=>AR n s (nE:Int) r1 r2 r3) (pk (scn s nE r1 r2 r3) (ae2 nE (Xu (s.drop nE)))):=by
 refine Ev.fn (fun n=>by simp only[AR,kD,DC,mC];exact rfl) ?_;have hr:=GM rD (s.drop nE);rw[gB]at hr;have hd0:s.drop nE=s[nE]::s.drop (nE+1):=oo ha;refine Ev.yn (F:=fun n m=>uY n m (nE:Int) s (nE:Int) r1 r2 r3) ?_;have hb:s.length<4611686018427387904:=hs
 have uA: ∀q:Nat,q=nE+pe rD (s.drop nE)->(∀hq:q<s.length,rD s[q]=false)->kZ (fun n m=>bif decide (6<IntKind.i64.wrap ((q:Int)-(nE:Int))) then some (((s,(nE:Int),()),r1,r2,r3,()),(0:Int),(nE:Int),(5:Int),())
  else
   bif decide (1<IntKind.i64.wrap ((q:Int)-(nE:Int))) then
    (sQ s (nE:Int)).bind fun x=>
      bif (x.toNat:Int)==48 then some (((s,(nE:Int),()),r1,r2,r3,()),(0:Int),(nE:Int),(4:Int),())
      else
       bif decide ((q:Int)<(s.length:Int))then
        (sQ s (q:Int)).bind fun x=>
          (yS n (x.toNat:Int)).bind fun x=>
            bif x then some (((s,(nE:Int),()),r1,r2,r3,()),(0:Int),(q:Int),(4:Int),())
            else some (((s,(nE:Int),()),r1,r2,r3,()),(1:Int),(q:Int),(0:Int),())
       else some (((s,(nE:Int),()),r1,r2,r3,()),(1:Int),(q:Int),(0:Int),())
   else
    bif decide ((q:Int)<(s.length:Int))then
     (sQ s (q:Int)).bind fun x=>
       (yS n (x.toNat:Int)).bind fun x=>
         bif x then some (((s,(nE:Int),()),r1,r2,r3,()),(0:Int),(q:Int),(4:Int),())
         else some (((s,(nE:Int),()),r1,r2,r3,()),(1:Int),(q:Int),(0:Int),())
    else some (((s,(nE:Int),()),r1,r2,r3,()),(1:Int),(q:Int),(0:Int),())) (pk (scn s nE r1 r2 r3) (ae2 nE (Xu (s.drop nE)))):=by
  intro q hq hdq
  have aea:IntKind.i64.wrap ((q:Int)-(nE:Int))=((pe rD (s.drop nE):Nat):Int):=by
   rw[anf (by omega) (by simp only[big];omega)];congr 1;omega
  have e6:decide ((6:Int)<((pe rD (s.drop nE):Nat):Int))=decide (6<pe rD (s.drop nE)):=decide_eq_decide.2 (by omega);have e1:decide ((1:Int)<((pe rD (s.drop nE):Nat):Int))=decide (1<pe rD (s.drop nE)):=decide_eq_decide.2 (by omega)
  have rest:kZ (fun n m=>bif decide ((q:Int)<(s.length:Int))then
        (sQ s (q:Int)).bind fun x=>
          (yS n (x.toNat:Int)).bind fun x=>
            bif x then some (((s,(nE:Int),()),r1,r2,r3,()),(0:Int),(q:Int),(4:Int),())
            else some (((s,(nE:Int),()),r1,r2,r3,()),(1:Int),(q:Int),(0:Int),())
        else some (((s,(nE:Int),()),r1,r2,r3,()),(1:Int),(q:Int),(0:Int),())) (pk (scn s nE r1 r2 r3) (ae2 nE (match (s.drop nE).drop (pe rD (s.drop nE))with
  |d::_=>bif C5 d||d==39 then(0,pe rD (s.drop nE),4)else(1,pe rD (s.drop nE),0)
  |[]=>(1,pe rD (s.drop nE),0)))):=by
   rw[gI,<-hq];by_cases me:q<s.length
   ·have e:decide ((q:Int)<(s.length:Int))=true:=jM (by omega);simp only[e,jK,oo me];refine kZ.Eu me (kZ.lQ (ad0 _) ?_);have hd:=hdq me;unfold Sw;rw[hd,gE];cases (C5 s[q]||s[q]==39)with
    |true=>simp only[jK];rw[show(q:Int)=((nE+pe rD (s.drop nE):Nat):Int)from by rw[hq]];exact kZ.pure
    |false=>simp only[jL];rw[show(q:Int)=((nE+pe rD (s.drop nE):Nat):Int)from by rw[hq]];exact kZ.pure
   ·have e:decide ((q:Int)<(s.length:Int))=false:=jN (by omega);simp only[e,jL,gz (show s.length<=q by omega)];rw[show(q:Int)=((nE+pe rD (s.drop nE):Nat):Int)from by rw[hq]];exact kZ.pure
  unfold Xu;simp only[aea,e6,e1];cases decide (6<pe rD (s.drop nE))with
  |true=>simp only[jK];exact kZ.pure
  |false=>
   simp only[jL];cases decide (1<pe rD (s.drop nE))with
   |false=>grind
   |true=>
    simp only[jK,gA];refine kZ.Eu ha ?_;rw[show((s[nE].toNat:Int)==48)=(s[nE]==48)from wq _ 48 (by decide)];have hh:((s.drop nE).head?==some 48)=(s[nE]==48):=by rw[hd0];rfl
    rw[hh];cases s[nE]==48 with
    |true=>simp only[jK];exact kZ.pure
    |false=>simp only[jL];exact rest
 refine ais hs rD (L:=fun n m k=>uY n m k s (nE:Int) r1 r2 r3) (N:=nE+pe rD (s.drop nE)) ?_ ?_ nE (by omega) rfl
 ·intro q me hp next
  refine kZ.lp (fun n m=>by simp only[GS,uX,mB];exact rfl) ?_;have e:decide ((q:Int)<(s.length:Int))=true:=jM (by omega);simp only[e,jK];refine kZ.Eu me (kZ.lQ (RM _) ?_);rw[Xs,hp,kM (by omega)]
  grind
 ·intro q hle hp hN;refine kZ.lp (fun n m=>by simp only[GS,uX,mB];exact rfl) ?_;by_cases me:q<s.length
  ·have e:decide ((q:Int)<(s.length:Int))=true:=jM (by omega);have f:=uA q hN hp;simp only[e,jK]at f ⊢;refine kZ.Eu me (kZ.lQ (RM _) ?_);rw[Xs,hp me]
   grind
  ·have e:decide ((q:Int)<(s.length:Int))=false:=jN (by omega);have f:=uA q hN hp
   grind
theorem arv (s:Str) (hs:s.length<big) (nE:Nat) (lH:List Str) (ha:nE<s.length):
 kZ (fun n m=>GG n m s (nE:Int) (s[nE].toNat:Int) (nE:Int)) (ae2 nE (Xu (s.drop nE))):=by
 have hr:=GM rD (s.drop nE);rw[gB]at hr;have hd0:s.drop nE=s[nE]::s.drop (nE+1):=oo ha;have hb:s.length<4611686018427387904:=hs
 have uA: ∀q:Nat,q=nE+pe rD (s.drop nE)->(∀hq:q<s.length,rD s[q]=false)->kZ (fun n m=>bif decide (6<IntKind.i64.wrap ((q:Int)-(nE:Int))) then some ((0:Int),(nE:Int),(5:Int))
  else
   bif decide (1<IntKind.i64.wrap ((q:Int)-(nE:Int)))then
    bif (s[nE].toNat:Int)==48 then some ((0:Int),(nE:Int),(4:Int))
    else
     bif decide ((q:Int)<(s.length:Int))then
      (sQ s (q:Int)).bind fun x=>
        (xp n (x.toNat:Int)).bind fun x=>
          bif x then some ((0:Int),(q:Int),(4:Int))
          else(sQ s (q:Int)).bind fun x=>bif (x.toNat:Int)==39 then some ((0:Int),(q:Int),(4:Int))else some ((1:Int),(q:Int),(0:Int))
     else some ((1:Int),(q:Int),(0:Int))
   else
    bif decide ((q:Int)<(s.length:Int))then
     (sQ s (q:Int)).bind fun x=>
       (xp n (x.toNat:Int)).bind fun x=>
         bif x then some ((0:Int),(q:Int),(4:Int))
         else(sQ s (q:Int)).bind fun x=>bif (x.toNat:Int)==39 then some ((0:Int),(q:Int),(4:Int))else some ((1:Int),(q:Int),(0:Int))
    else some ((1:Int),(q:Int),(0:Int))) (ae2 nE (Xu (s.drop nE))):=by
  intro q hq hdq
  have aea:IntKind.i64.wrap ((q:Int)-(nE:Int))=((pe rD (s.drop nE):Nat):Int):=by
   rw[anf (by omega) (by simp only[big];omega)];congr 1;omega
  have e6:decide ((6:Int)<((pe rD (s.drop nE):Nat):Int))=decide (6<pe rD (s.drop nE)):=decide_eq_decide.2 (by omega);have e1:decide ((1:Int)<((pe rD (s.drop nE):Nat):Int))=decide (1<pe rD (s.drop nE)):=decide_eq_decide.2 (by omega)
  have rest:kZ (fun n m=>bif decide ((q:Int)<(s.length:Int))then
        (sQ s (q:Int)).bind fun x=>
          (xp n (x.toNat:Int)).bind fun x=>
            bif x then some ((0:Int),(q:Int),(4:Int))
            else(sQ s (q:Int)).bind fun x=>bif (x.toNat:Int)==39 then some ((0:Int),(q:Int),(4:Int))else some ((1:Int),(q:Int),(0:Int))
        else some ((1:Int),(q:Int),(0:Int))) (ae2 nE (match (s.drop nE).drop (pe rD (s.drop nE))with
  |d::_=>bif C5 d||d==39 then(0,pe rD (s.drop nE),4)else(1,pe rD (s.drop nE),0)
  |[]=>(1,pe rD (s.drop nE),0))):=by
   rw[gI,<-hq];by_cases me:q<s.length
   ·have e:decide ((q:Int)<(s.length:Int))=true:=jM (by omega);simp only[e,jK,oo me];refine kZ.Eu me (kZ.lQ (adZ _) ?_);cases C5 s[q]with
    |true=>simp only[jK,Bool.true_or];rw[show(q:Int)=((nE+pe rD (s.drop nE):Nat):Int)from by rw[hq]];exact kZ.pure
    |false=>
     simp only[jL,gE];refine kZ.Eu me ?_;rw[show((s[q].toNat:Int)==39)=(s[q]==39)from wq _ 39 (by decide)];cases s[q]==39 with
     |true=>simp only[jK];rw[show(q:Int)=((nE+pe rD (s.drop nE):Nat):Int)from by rw[hq]];exact kZ.pure
     |false=>simp only[jL];rw[show(q:Int)=((nE+pe rD (s.drop nE):Nat):Int)from by rw[hq]];exact kZ.pure
   ·have e:decide ((q:Int)<(s.length:Int))=false:=jN (by omega);simp only[e,jL,gz (show s.length<=q by omega)];rw[show(q:Int)=((nE+pe rD (s.drop nE):Nat):Int)from by rw[hq]];exact kZ.pure
  unfold Xu;simp only[aea,e6,e1];have hh:((s.drop nE).head?==some 48)=(s[nE]==48):=by rw[hd0];rfl
  rw[show((s[nE].toNat:Int)==48)=(s[nE]==48)from wq _ 48 (by decide),hh];cases decide (6<pe rD (s.drop nE))with
  |true=>simp only[jK];exact kZ.pure
  |false=>
   simp only[jL];cases decide (1<pe rD (s.drop nE))with
   |false=>grind
   |true=>
    simp only[jK,gA];cases s[nE]==48 with
    |true=>simp only[jK];exact kZ.pure
    |false=>simp only[jL];exact rest
 refine ais hs rD (L:=fun n m k=>GG n m s (nE:Int) (s[nE].toNat:Int) k) (N:=nE+pe rD (s.drop nE)) ?_ ?_ nE (by omega) rfl
 ·intro q me hp next
  refine kZ.lp (fun n m=>by simp only[acK,Lm,mB];exact rfl) ?_;have e:decide ((q:Int)<(s.length:Int))=true:=jM (by omega);simp only[e,jK];refine kZ.Eu me (kZ.lQ (ads _) ?_);rw[hp,kM (by omega)]
  grind
 ·intro q hle hp hN;refine kZ.lp (fun n m=>by simp only[acK,Lm,mB];exact rfl) ?_;by_cases me:q<s.length
  ·have e:decide ((q:Int)<(s.length:Int))=true:=jM (by omega);have f:=uA q hN hp;simp only[e,jK]at f ⊢;refine kZ.Eu me (kZ.lQ (ads _) ?_);rw[hp me]
   grind
  grind
def whB(c:UInt8):Bool:=c==32||(c==9||(c==13||c==10))
def n10(c:UInt8):Bool:= !(c==10)
theorem ays(c:UInt8):n10 c= !(c==10):=rfl
def n7:Bool->Str->Nat
 |_,[]=>0
 |true,x::r=>bif x==10 then n7 false r+1 else n7 true r+1
 |false,x::r=>bif whB x then n7 false r+1 else bif x==45&&r.head?==some 45 then n7 true r+1 else 0
theorem apD(b:Bool):n7 b []=0:=by cases b<;>rfl
theorem Gm:∀(b:Bool)(r:Str),n7 b r<=r.length
 |b,[]=>by exact gG _
 |true,x::r=>by
  rw[n7];have h1:=Gm false r;have h2:=Gm true r
  grind
 |false,x::r=>by
  rw[n7];have h1:=Gm false r;have h2:=Gm true r
  grind
theorem agQ:∀r:Str,n7 true r=pe n10 r+n7 false (r.drop (pe n10 r))
 |[]=>rfl
 |x::r=>by
  rw[n7,tN,ays];cases hx:x==10 with
  |true=>
   grind [n7,whB]
  |false=>
   simp only[jL,gH,jK];rw[agQ r,List.drop_succ_cons];omega
theorem apE{r:Str}(h:r.head?=some 45)(h2:(r.drop 1).head?=some 45):n7 false r=n7 true r:=by
 match r,h with
 |x::t,h=>
  obtain rfl:x=45:=by simpa using h
  have h2:t.head?=some 45:=h2;rw[n7,n7,h2];rfl
theorem ang{x:UInt8}{r:Str}(h:whB x=true):n7 false (x::r)=n7 false r+1:=by rw[n7,h,jK]
theorem Xw{x:UInt8}{r:Str}(h:whB x=false)(h2:(x==45&&r.head?==some 45)=false):n7 false (x::r)=0:=by grind [n7]
theorem aCp{s:Str}{k:Nat}(h:k<s.length)(h1:k+1<s.length)(e:s[k]=45)(e1:s[k+1]=45):n7 false (s.drop k)=pe n10 (s.drop k)+n7 false (s.drop (k+pe n10 (s.drop k))):=by
 grind [apE,oo,gI,agQ]
theorem ayt{s:Str}{k:Nat}(h:k<s.length)(e:s[k]=45):0<pe n10 (s.drop k):=by
 grind [oo,tN,n10]
theorem arw (s:Str) (hs:s.length<big): ∀k:Nat,k<=s.length->kZ (fun n m=>zk n m s (k:Int)) ((k+n7 false (s.drop k):Nat):Int):=by
 intro k;induction h:s.length-k using gR generalizing k with
 |ind d ih=>
  intro hk;have hb:s.length<4611686018427387904:=hs;refine kZ.lp (fun n m=>by simp only[akM,NG];exact rfl) ?_;rw[kM (by omega)];by_cases me:k<s.length
  ·have e1:decide ((k:Int)<(s.length:Int))=true:=jM (by omega);simp only[e1,jK]
   have next:whB s[k]=true->kZ (fun n m=>zk n m s ((k+1:Nat):Int)) ((k+n7 false (s.drop k):Nat):Int):=by
    intro hw;rw[oo me,ang hw]
    grind
   refine kZ.Eu me ?_;rw[show((s[k].toNat:Int)==32)=(s[k]==32)from wq _ 32 (by decide)];cases h32:s[k]==32 with
   |true=>grind [whB]
   |false=>
    simp only[jL];refine kZ.Eu me ?_;rw[show((s[k].toNat:Int)==9)=(s[k]==9)from wq _ 9 (by decide)];cases h9:s[k]==9 with
    |true=>grind [whB]
    |false=>
     simp only[jL];refine kZ.Eu me ?_;rw[show((s[k].toNat:Int)==13)=(s[k]==13)from wq _ 13 (by decide)];cases h13:s[k]==13 with
     |true=>grind [whB]
     |false=>
      simp only[jL];refine kZ.Eu me ?_;rw[show((s[k].toNat:Int)==10)=(s[k]==10)from wq _ 10 (by decide)];cases h10:s[k]==10 with
      |true=>grind [whB]
      |false=>
       simp only[jL];have hw:whB s[k]=false:=by grind [whB]
       by_cases h1:k+1<s.length
       ·have e2:decide (((k+1:Nat):Int)<(s.length:Int))=true:=jM (by omega);simp only[e2,jK];refine kZ.Eu me ?_;rw[show((s[k].toNat:Int)==45)=(s[k]==45)from wq _ 45 (by decide)];have hh:(s.drop (k+1)).head?=some s[k+1]:=by rw[oo h1];rfl
        cases h45:s[k]==45 with
        |false=>
         simp only[jL];rw[oo me,Xw hw (by rw[h45];rfl)];exact kZ.pure
        |true=>
         simp only[jK];refine kZ.Eu h1 ?_;rw[show((s[k+1].toNat:Int)==45)=(s[k+1]==45)from wq _ 45 (by decide)];cases h46:s[k+1]==45 with
         |false=>
          simp only[jL];rw[oo me,Xw hw (by rw[h45,hh];simpa using h46)];exact kZ.pure
         |true=>
          simp only[jK];have hr:=GM n10 (s.drop k);rw[gB]at hr;have hp:=ayt me (eq_of_beq h45);rw[aCp me h1 (eq_of_beq h45) (eq_of_beq h46)];have hj:=ih (s.length-(k+pe n10 (s.drop k))) (by omega) (k+pe n10 (s.drop k)) rfl (by omega);rw[show k+(pe n10 (s.drop k)+n7 false (s.drop (k+pe n10 (s.drop k))))=k+pe n10 (s.drop k)+n7 false (s.drop (k+pe n10 (s.drop k)))from by omega];refine Pk.sn (F:=fun n m p=>HO n (zk n m) p s (k:Int)) ?_;refine apB (s:=s) n10 (L:=fun n m p k=>HO n (zk n m) p s k) (N:=k+pe n10 (s.drop k)) ?_ ?_ k hk rfl
          ·intro q hq hpq nx;refine Pk.lp (fun n m p=>by simp only[ZN,HN,mB];exact rfl) ?_;have e:decide ((q:Int)<(s.length:Int))=true:=jM (by omega);simp only[e,jK];refine Pk.Eu hq ?_;rw[show((s[q].toNat:Int) !=10)= !(s[q]==10)from Xv _ 10 (by decide),kM (by omega)];have hpq:(!(s[q]==10))=true:=hpq;rw[hpq]
           grind
          ·intro q hq hpq hN;refine Pk.lp (fun n m p=>by simp only[ZN,HN,mB];exact rfl) ?_;rw[<-hN]at hj ⊢;by_cases hql:q<s.length
           ·have e:decide ((q:Int)<(s.length:Int))=true:=jM (by omega);simp only[e,jK];refine Pk.Eu hql ?_;have hpq:(!(s[q]==10))=false:=hpq hql
            simp_all [Pk.yn]
           ·have e:decide ((q:Int)<(s.length:Int))=false:=jN (by omega);simp only[e,jL];exact Pk.yn hj
       ·have e2:decide (((k+1:Nat):Int)<(s.length:Int))=false:=jN (by omega);simp only[e2,jL];have aqm:s.drop (k+1)=[]:=gz (by omega);rw[oo me,Xw hw (by rw[aqm];simp)];exact kZ.pure
  ·have e1:decide ((k:Int)<(s.length:Int))=false:=jN (by omega);simp only[e1,jL]
   simp_all [gz,apD,kZ.pure]
theorem anh(s:Str)(hs:s.length<big)(k:Nat)(hk:k<=s.length):Ev (fun n=>Ym n s (k:Int)) ((k+n7 false (s.drop k):Nat):Int):=by
 refine Ev.fn (fun n=>by simp only[Ym,kD,Yl,mB];exact rfl) ?_;exact Ev.yn (F:=fun n m=>zk n m s (k:Int)) (arw s hs k hk)
theorem auo:∀r:Str,(iB r [10]= -1/\pe n10 r=r.length)\/(iB r [10]=(pe n10 r:Int)/\pe n10 r<r.length)
 |[]=>.inl ⟨rfl,rfl⟩
 |x::r=>by
  rw[tN];unfold iB
  have e:([10]:Str).isPrefixOf (x::r)=(x==10):=by
   grind
  rw[e,ays];cases x==10 with
  |true=>exact .inr ⟨rfl,by simp⟩
  |false=>
   have:=auo r
   grind
theorem aFm(r:Str):(Lib.cut r [10]).1.length=pe n10 r:=by
 grind [Lib.cut,auo]
theorem arx(s p:Str):Ev (fun n=>E7 n s p) (decide (p.length<=s.length)&&s.take p.length==p):=by
 refine Ev.fn (fun n=>by simp only[E7,kD,Hq,mB];exact rfl) ?_;refine Ev.fn (fun n=>by simp only[xd,kD,vK,mB];exact rfl) ?_
 grind [Ev.pure]
theorem ani(k:Nat)(c:UInt8):xD (k+40) [32,9,13,10] (IntKind.i32.wrap (c.toNat:Int))=some (whB c):=by
 have:=Zs (p:=fun c=>decide (xD (k+40) [32,9,13,10] (IntKind.i32.wrap (c.toNat:Int))=some (whB c))) (jR) c;exact jO this
abbrev Nq:Nat:=4294967281
theorem alb(c:UInt8):Ev (fun n=>xD n [32,9,13,10] (IntKind.i32.wrap (c.toNat:Int))) (whB c):=by
 refine⟨40,fun n hn=>?_⟩;obtain⟨k,rfl⟩:∃k,n=k+40:=⟨n-40,by omega⟩;exact ani k c
theorem aHK(r:Str)(h:r.length<Nq):Ev (fun n=>strings_Cut n r [10]) (Lib.cut r [10]):=by
 refine⟨1,fun n hn=>?_⟩;obtain⟨k,rfl⟩:∃k,n=k+1:=⟨n-1,by omega⟩;show(bif decide (r.length<4294967281)then some (Lib.cut r [10])else none)=_;rw[jM h];rfl
theorem akd(s sub:Str)(h:s.length<Nq):Ev (fun n=>strings_Contains n s sub) (gO s sub):=by
 refine⟨1,fun n hn=>?_⟩;obtain⟨k,rfl⟩:∃k,n=k+1:=⟨n-1,by omega⟩;show(bif decide (s.length<4294967281)then some (gO s sub)else none)=_;rw[jM h];rfl
theorem azL{s:Str}{k:Nat}(h:k<s.length):sQ (s.drop k) 0=some s[k]:=by
 rw[oo h];rfl
theorem aCq{s:Str}{k:Nat}:(decide (([45,45]:Str).length<=(s.drop k).length)&&(s.drop k).take ([45,45]:Str).length==[45,45])=((s.drop k).head?==some 45&&(s.drop (k+1)).head?==some 45):=by
 rw[show s.drop (k+1)=(s.drop k).drop 1 from by rw[gI]]
 match s.drop k with
 |[]=>rfl
 |[a]=>simp
 |a::b::t=>
  simp
theorem azM(s:Str)(hs:s.length<Nq)(r1 r2 r3:List (Str×Bool)):∀k:Nat,k<=s.length->
 kZ (fun n m=>z6 n m s (k:Int) r1 r2 r3) (scn s ((k+n7 false (s.drop k):Nat):Int) r1 r2 r3,()):=by
 intro k;induction h:s.length-k using gR generalizing k with
 |ind d ih=>
  intro hk;have hb:s.length<4294967281:=hs;refine kZ.lp (fun n m=>by simp only[aL8,z1,mB];exact rfl) ?_;by_cases me:k<s.length
  ·have e1:decide ((k:Int)<(s.length:Int))=true:=jM (by omega);have e2:decide ((0:Int)<=(k:Int)/\(k:Int)<=(s.length:Int)/\(s.length:Int)<=(s.length:Int))=true:=jM (by omega);simp only[e1,e2,jK,gX,gF,azL me,gy];refine kZ.lQ (alb _) ?_;cases hw:whB s[k]with
   |true=>
    simp only[jK];rw[kM (by omega),oo me,ang hw]
    grind
   |false=>
    simp only[jL];refine kZ.lQ (arx _ _) ?_;rw[aCq];cases hc:(s.drop k).head?==some 45&&(s.drop (k+1)).head?==some 45 with
    |false=>
     simp only[jL]
     have:n7 false (s.drop k)=0:=by
      grind [oo,Xw]
     rw[this];exact kZ.pure
    |true=>
     simp only[jK];simp only[gD,beq_iff_eq]at hc;have hr:=GM n10 (s.drop k);rw[gB]at hr;have e45:s[k]=45:=by simp_all
     have hp:=ayt me e45;refine kZ.lQ (aHK _ (by grind)) ?_;rw[aFm,apE hc.1 (by rw[gI];exact hc.2),agQ,gI];rw[lj (by omega) (by omega),<-ii];have:=ih (s.length-(k+pe n10 (s.drop k))) (by omega) (k+pe n10 (s.drop k)) rfl (by omega)
     grind
  ·have e1:decide ((k:Int)<(s.length:Int))=false:=jN (by omega);simp only[e1,jL];rw[gz (by omega),apD];exact kZ.pure
theorem aup(s:Str)(hs:s.length<Nq)(r1 r2 r3:List (Str×Bool))(k:Nat)(hk:k<=s.length):
 Ev (fun n=>xg n s (k:Int) r1 r2 r3) (scn s ((k+n7 false (s.drop k):Nat):Int) r1 r2 r3,()):=by
 refine Ev.fn (fun n=>by simp only[xg,kD,F4,mC];exact rfl) ?_
 grind [Ev.yn,azM]
def Bc(r:Str):Nat->List Str->Nat
 |b,[]=>b
 |b,y::l=>Bc r (bif decide (b<y.length)&&r.take y.length==y then y.length else b) l
theorem Nr(r:Str):∀(l:List Str)(b:Nat),(Bc r b l=b\/(b<Bc r b l/\Bc r b l<=r.length/\r.take (Bc r b l)∈l))/\b<=Bc r b l/\∀y∈l,r.take y.length=y->y.length<=Bc r b l
 |[],b=>⟨.inl rfl,gG _,fun y hy=>by cases hy⟩
 |y::l,b=>by
  rw[Bc];cases hc:decide (b<y.length)&&r.take y.length==y with
  |true=>
   obtain⟨h1,h2,h3⟩:=Nr r l y.length
   grind
  |false=>
   obtain⟨h1,h2,h3⟩:=Nr r l b
   grind
theorem anj(r:Str)(l:List Str):Bc r 0 l<=r.length:=by
 grind [Nr]
theorem aw5(s:Str)(hs:s.length<Nq)(k:Nat)(hk:k<=s.length)(l:List Str)(hl:l.length<Nq)(hy:∀y∈l,y.length<Nq):
 Ev (fun n=>HP n s (k:Int) l) ((Bc (s.drop k) 0 l:Nat):Int):=by
 refine Ev.fn (fun n=>by simp only[HP,kD,aMs,mB];exact rfl) ?_;simp only[Nq]at hs hl hy
 have key:∀d j b:Nat,j+d=l.length->b<4294967281->kZ (fun n m=>Ct n m s (k:Int) l (b:Int) (j:Int)) ((Bc (s.drop k) b (l.drop j):Nat):Int):=by
  intro d;induction d with
  |zero=>
   intro j b hj hb;refine kZ.lp (fun n m=>by simp only[QQ,Cs,mB];exact rfl) ?_
   grind [Bc,kZ.pure]
  |succ d ih=>
   intro j b hj hb;have me:j<l.length:=by omega
   have hyl:=hy l[j] (gC me);refine kZ.lp (fun n m=>by simp only[QQ,Cs,mB];exact rfl) ?_;have:decide ((j:Int)<(l.length:Int))=true:=jM (by omega);simp only[this,jK];refine kZ.Eu me ?_;rw[gx me,Bc,kM (by omega),lj (n:=(k:Int)+((l[j].length:Nat):Int)) (by omega) (by omega),<-ii];by_cases hbl:b<l[j].length
   ·have e1:decide ((b:Int)<((l[j]).length:Int))=true:=jM (by omega);have e1':decide (b<l[j].length)=true:=jM hbl;simp only[e1,e1',jK,gA];by_cases hkl:k+l[j].length<=s.length
    ·have e2:decide (((k+l[j].length:Nat):Int)<=(s.length:Int))=true:=jM (by omega);have e3:decide ((0:Int)<=(k:Int)/\(k:Int)<=((k+l[j].length:Nat):Int)/\((k+l[j].length:Nat):Int)<=(s.length:Int))=true:=jM (by omega);simp only[e2,e3,jK,gF];refine kZ.Eu me ?_
     grind
    grind
   grind
 exact Ev.yn (F:=fun n m=>Ct n m s (k:Int) l 0 0) (key l.length 0 0 (by omega) (by omega))
theorem azN(s:Str)(hs:s.length<Nq)(k:Nat)(hk:k<=s.length)(r1 r2 r3:List (Str×Bool))(l:List Str)
 (h3:∀y,(oa y r3).getD false=l.contains y) (h8:∀y∈l,(s.drop k).take y.length=y->y.length<=8):
 Ev (fun n=>AI n s (k:Int) r1 r2 r3) (pk (scn s k r1 r2 r3) (bif Bc (s.drop k) 0 l==0 then(0,(k:Int),4)else(2,((k+Bc (s.drop k) 0 l:Nat):Int),0))):=by
 refine Ev.fn (fun n=>by simp only[AI,kD,Dn,mC];exact rfl) ?_;simp only[Nq]at hs;obtain⟨q1,q2,q3⟩:=Nr (s.drop k) l 0;generalize hN:Bc (s.drop k) 0 l=N at*
 have key:∀v:Nat,N<=v->k+v<=s.length->kZ (fun n m=>xT n m (v:Int) s (k:Int) r1 r2 r3) (pk (scn s k r1 r2 r3) (bif N==0 then(0,(k:Int),4)else(2,((k+N:Nat):Int),0))):=by
  intro v;induction v with
  |zero=>
   intro hv hkv;obtain rfl:N=0:=by omega
   refine kZ.lp (fun n m=>by simp only[GN,uS,mB];exact rfl) ?_;exact kZ.pure
  |succ v ih=>
   intro hv hkv;refine kZ.lp (fun n m=>by simp only[GN,uS,mB];exact rfl) ?_;have e1:decide ((0:Int)<((v+1:Nat):Int))=true:=jM (by omega);rw[lj (n:=(k:Int)+((v+1:Nat):Int)) (by omega) (by omega),<-ii];have e2:decide ((0:Int)<=(k:Int)/\(k:Int)<=((k+(v+1):Nat):Int)/\((k+(v+1):Nat):Int)<=(s.length:Int))=true:=jM (by omega);simp only[e1,e2,jK,gF,h3];rw[show ib k (List.take (k+(v+1)) s)=(s.drop k).take (v+1)from by simp_all [List.drop_take]];have hlen:((s.drop k).take (v+1)).length=v+1:=by grind
   cases hc:l.contains ((s.drop k).take (v+1))with
   |true=>
    simp only[jK];have hm:(s.drop k).take (v+1)∈l:=by simpa using hc
    have:=q3 _ hm (by rw[hlen]);rw[hlen]at this;obtain rfl:N=v+1:=by omega
    exact kZ.pure
   |false=>
    grind [lj]
 rw[lj (by omega) (by omega),show(s.length:Int)-(k:Int)=((s.length-k:Nat):Int)from by omega]
 have hN8:N<=8:=by
  grind
 have hNk:N<=s.length-k:=by
  grind
 by_cases h:((s.length-k:Nat):Int)<8
 ·simp only[if_pos h]
  grind [Ev.yn]
 ·simp only[if_neg h]
  grind [Ev.yn]
set_option maxRecDepth 100000
def qb(c:UInt8):Bool:= !(c==34)&& !(c==10)
theorem aHL(c:UInt8):qb c=(!(c==34)&& !(c==10)):=rfl
def auq(s:Str):Int:=if pe qb s<s.length then(pe qb s:Int)else-1
theorem ank:∀s:Str,iD s [34,10]=auq s
 |[]=>rfl
 |x::s=>by
  unfold iD auq;rw[tN,aHL,ank s]
  grind [auq]
theorem ary{s:Str}{i:Nat}(h:i<s.length):(sb s).get! i=s[i]:=by
 show(s.toArray)[i]! =s[i];simp [h]
theorem aw6{s:Str}{p:Nat}(h:p<s.length)(hb:s[p].toNat<128):hO (sb s) p=(s[p].toNat,1):=by
 grind [hO,ary]
theorem Qr{s:Str}{i:Nat}(h:(decide (i<(sb s).size)&&((sb s).get! i).toNat / 64==2)=true):∃hi:i<s.length,128<=s[i].toNat:=by
 grind [SK,ary]
def aCr(s:Str)(p w:Nat):Prop:=1<=w/\∀j,j<w->∃h:p+j<s.length,128<=s[p+j].toNat
theorem aur{s:Str}{p:Nat}(h:p<s.length)(hb:128<=s[p].toNat):128<=(hO (sb s) p).1/\aCr s p (hO (sb s) p).2:=by
 have h0:∀j,j<1->∃h:p+j<s.length,128<=s[p+j].toNat:=fun j hj=>by
  grind
 have one:aCr s p 1:=⟨gG _,h0⟩;unfold hO;simp only[iq,ary h];rw[if_neg (by omega)];split
 ·rename_i h1;rw[gD]at h1;have c1:=Qr h1.2
  have two:aCr s p 2:=⟨by omega,fun j hj=>by
   grind⟩
  split
  ·rename_i h2;exact⟨h2,two⟩
  ·exact⟨by decide,one⟩
 ·split
  ·rename_i _ h1;rw[gD,gD]at h1;have c1:=Qr h1.1.2;have c2:=Qr h1.2
   have three:aCr s p 3:=⟨by omega,fun j hj=>by
    grind⟩
   split
   ·grind
   ·exact⟨by decide,one⟩
  ·split
   ·rename_i _ _ h1;rw[gD,gD,gD]at h1;have c1:=Qr h1.1.1.2;have c2:=Qr h1.1.2;have c3:=Qr h1.2
    have four:aCr s p 4:=⟨by omega,fun j hj=>by
     grind⟩
    split
    ·grind
    ·exact⟨by decide,one⟩
   ·exact⟨by decide,one⟩
theorem aw7{c:Nat}(h:128<=c):∃l b,aBP (c:Int)=l++[b]/\128<=b.toNat/\1<=l.length/\l.length<=3:=by
 unfold aBP;simp only[Utf8.encode];generalize hd:(if Utf8.valid (c:Int)=true then(c:Int).toNat else Utf8.runeError)=d
 have hd':128<=d:=by
  grind [Utf8.runeError]
 have hb:128<=(UInt8.ofNat (128+d % 64)).toNat:=by
  rw[UInt8.toNat_ofNat'];omega
 rw[if_neg (by omega)];split
 ·exact⟨[_],_,rfl,hb,by simp,by simp⟩
 ·split
  ·exact⟨[_,_],_,rfl,hb,by simp,by simp⟩
  ·exact⟨[_,_,_],_,rfl,hb,by simp,by simp⟩
theorem aoL(k:Nat)(x:Int):strings_IndexByte (k+3) [] x=some (-1):=jR
theorem aoM(k:Nat):oF (k+8) [34,10] 65533=some (-1):=jR
theorem aoN(k:Nat)(c:UInt8):((oF (k+8) [34,10] (c.toNat:Int)).map fun x=>decide (0<=x))=some (!qb c)\/128<=c.toNat:=by
 have:=Zs (p:=fun c=>decide (((oF (k+8) [34,10] (c.toNat:Int)).map fun x=>decide (0<=x))=some (!qb c))||decide (128<=c.toNat)) (jR) c
 grind
theorem alc(c:UInt8)(hc:c.toNat<128):k8 (fun n=>oF n [34,10] (c.toNat:Int)) (fun x=>decide (0<=x)= !qb c):=by
 have key:∀k,((oF (k+8) [34,10] (c.toNat:Int)).map fun x=>decide (0<=x))=some (!qb c):=fun k=>(aoN k c).resolve_right (by omega)
 have e:∀k,oF (k+8) [34,10] (c.toNat:Int)=oF 8 [34,10] (c.toNat:Int):=by
  intro k;have:=Zs (p:=fun c=>decide (oF (k+8) [34,10] (c.toNat:Int)=oF 8 [34,10] (c.toNat:Int))||decide (128<=c.toNat)) (jR) c
  grind
 have k0:=key 0;rw[Option.map_eq_some_iff]at k0;obtain⟨x,hx,hd⟩:=k0;refine⟨x,hd,8,fun n hn=>?_⟩;obtain⟨k,rfl⟩:∃k,n=k+8:=⟨n-8,by omega⟩
 grind
theorem anl{c:Nat}(hc:128<=c):Ev (fun n=>oF n [34,10] (c:Int)) (-1):=by
 by_cases h3:c=65533
 ·subst h3;refine⟨8,fun n hn=>?_⟩;obtain⟨k,rfl⟩:∃k,n=k+8:=⟨n-8,by omega⟩;exact aoM k
 ·refine Ev.fn (fun n=>by simp only[oF,kD,Hp,mB];exact rfl) ?_;have e1:decide ((0:Int)<=(c:Int))=true:=jM (by omega);have e2:decide ((c:Int)<128)=false:=jN (by omega);have e3:((c:Int)==65533)=false:=by rw[beq_eq_false_iff_ne];omega
  simp only[e1,e2,e3,jK,jL]
  have hv:∃b,Ev (fun n=>yN n (c:Int)) b:=by
   refine⟨bif decide ((c:Int)<55296)then true else bif decide (57343<(c:Int))then decide ((c:Int)<=1114111)else false,?_⟩;refine Ev.fn (fun n=>by simp only[yN,kD,Bj,mB];exact rfl) ?_
   grind [Ev.pure]
  obtain⟨b,hv⟩:=hv;refine Ev.bind hv ?_;cases b with
  |false=>exact Ev.pure
  |true=>
   simp only[jK];obtain⟨l,b,hl,hb,h1,h4⟩:=aw7 hc;rw[hl];have hlen:(l++[b]).length=l.length+1:=by simp
   rw[hlen,lj (by omega) (by omega),show((l.length+1:Nat):Int)-1=(l.length:Int)from by omega];refine Ev.yn (F:=fun n m=>AP n m [34,10] (l++[b]) (l.length:Int) (l.length:Int)) ?_;refine kZ.lp (fun n m=>by simp only[Yu,AO];exact rfl) ?_;by_cases hl1:l.length=1
   ·rw[hl1]
    have Df:sQ (l++[b]) ((1:Nat):Int)=some b:=by
     grind [nA]
    have wN:(((10:UInt8).toNat:Int) !=(b.toNat:Int))=true:=by
     grind
    have aLt:sQ (l++[b]) (1:Int)=some b:=Df;have i1:sQ ([34,10]:Str) ((1:Nat):Int)=some 10:=rfl;have hz:decide (((1:Nat):Int)<(([34,10]:Str).length:Int))=true:=rfl;simp only[hz,jK,i1,Df,gy,wN];have hw:IntKind.i64.wrap (((1:Nat):Int)+1)=((2:Nat):Int):=kM (by omega);have hd2:decide ((0:Int)<=((2:Nat):Int)/\((2:Nat):Int)<=(([34,10]:Str).length:Int)/\(([34,10]:Str).length:Int)<=(([34,10]:Str).length:Int))=true:=rfl;simp only[hw,hd2,jK];have aCs:ib ((2:Nat):Int).toNat (List.take ([34,10]:Str).length [34,10])=[]:=rfl
    have hs:Ev (fun n=>strings_IndexByte n [] (b.toNat:Int)) (-1):=by
     refine⟨3,fun n hn=>?_⟩;obtain⟨k,rfl⟩:∃k,n=k+3:=⟨n-3,by omega⟩;exact aoL k _
    exact kZ.lQ (x:= -1) hs kZ.pure
   grind [kZ.pure]
theorem ad1{q:UInt8->Bool}:∀{r:Str}{p:Nat},p<=pe q r->∀h:p<r.length,(q r[p]=true->p+1<=pe q r)/\(q r[p]=false->pe q r=p)
 |[],p,_,h=>absurd h (Nat.not_lt_zero _)
 |x::r,0,hp,h=>by
  grind [tN]
 |x::r,p+1,hp,h=>by
  rw[tN]at hp ⊢;cases hx:q x with
  |false=>rw[hx]at hp;simp at hp
  |true=>
   rw[hx]at hp;simp at hp ⊢;have:=ad1 (q:=q) (r:=r) (p:=p) (by omega) (by simpa using h)
   grind
theorem aFn{c:UInt8}(h:128<=c.toNat):qb c=true:=by
 have:=Zs (p:=fun c=>qb c||decide (c.toNat<128)) (jR) c
 grind
theorem aoO(s:Str):∀p:Nat,p<=pe qb s->kZ (fun n m=>yA n m [34,10] s p) (auq s):=by
 intro p;induction h:s.length-p using gR generalizing p with
 |ind d ih=>
  intro hp;have hr:=GM qb s;refine kZ.lp (fun n m=>by simp only[aat,BS,mB];exact rfl) ?_;by_cases me:p<s.length
  ·have e:decide (p<s.length)=true:=jM me;simp only[e,jK];have st:=ad1 hp me;rcases Nat.lt_or_ge s[p].toNat 128 with hb|hb
   ·rw[aw6 me hb];obtain⟨x,hx,XN⟩:=alc s[p] hb;refine kZ.lQ XN ?_;rw[hx];cases hq:qb s[p]with
    |true=>
     grind
    |false=>
     grind [auq,kZ.pure]
   ·obtain⟨h1,hw,h2⟩:=aur me hb;refine kZ.lQ (anl h1) ?_;have e0:decide ((0:Int)<= -1)=false:=rfl;simp only[e0,jL]
    have run:∀j,j<=(hO (sb s) p).2->p+j<=pe qb s:=by
     intro j;induction j with
     |zero=>intro _;exact hp
     |succ j ihj=>
      grind [ad1,aFn]
    have:=run _ (gG _)
    grind
  grind [auq,kZ.pure]
theorem aCt(t:Str)(ht:t.length<Nq):Ev (fun n=>(xS n t [34,10]).or (strings_IndexAny n t [34,10])) (auq t):=by
 simp only[Nq]at ht;by_cases h8:8<t.length
 ·refine⟨1,fun n hn=>?_⟩;obtain⟨k,rfl⟩:∃k,n=k+1:=⟨n-1,by omega⟩
  grind [xS,ank]
 ·have hL:∀n,xS n t [34,10]=none:=by
   intro n;cases n with
   |zero=>rfl
   |succ k=>
    show(bif decide (2<=([34,10]:Str).length)&&(decide (8<t.length)&&(decide (t.length<4294967281)&&(decide (([34,10]:Str).length<4294967281)&&([34,10]:Str).all (fun b=>decide (b.toNat<128)))))then some (iD t [34,10])else none)=_;rw[jN h8];rfl
  simp only[hL,Option.none_or];refine Ev.fn (fun n=>by simp only[strings_IndexAny,kD,I5,mB];exact rfl) ?_;have e0:(([34,10]:Str)==[])=false:=rfl;have e1:((([34,10]:Str).length:Int)==1)=false:=rfl;simp only[e0,e1,jL]
  have hs:Ev (fun n=>strings_shouldUseASCIISet n (t.length:Int)) false:=by
   refine Ev.fn (fun n=>by simp only[strings_shouldUseASCIISet,kD,yO,mB];exact rfl) ?_
   grind [Ev.pure]
  refine Ev.bind hs ?_;simp only[jL];exact Ev.yn (F:=fun n m=>yA n m [34,10] t 0) (aoO t 0 (gJ _))
def OW(r:Str):Int×Nat×Int:=
 match (r.drop 1).drop (pe qb (r.drop 1))with
 |d::_=>bif d==34 then(2,pe qb (r.drop 1)+2,0)else(0,0,4)
 |[]=>(0,0,4)
theorem aus{c:UInt8}(h:qb c=false):(c==10)= !(c==34):=by
 grind [qb]
theorem azO(s:Str)(hs:s.length<Nq)(k:Nat)(hk:k<s.length)(r1 r2 r3:List (Str×Bool)):
 Ev (fun n=>AU n s (k:Int) r1 r2 r3) (pk (scn s k r1 r2 r3) (ae2 k (OW (s.drop k)))):=by
 refine Ev.fn (fun n=>by simp only[AU,kD,DG,mC];exact rfl) ?_;simp only[Nq]at hs;rw[kM (by omega)];have e:decide ((0:Int)<=((k+1:Nat):Int)/\((k+1:Nat):Int)<=(s.length:Int)/\(s.length:Int)<=(s.length:Int))=true:=jM (by omega);simp only[e,jK,gX,gF];refine Ev.bind (aCt _ (by grind)) ?_;unfold OW auq;rw[show(s.drop k).drop 1=s.drop (k+1)from by rw[gI]];have hr:=GM qb (s.drop (k+1));rw[gB]at hr;generalize hm:pe qb (s.drop (k+1))=m at*;rw[gI];by_cases h:m<(s.drop (k+1)).length
 ·rw[if_pos h];rw[gB]at h;have hl:k+1+m<s.length:=by omega
  have e1:decide ((m:Int)<0)=false:=jN (by omega);simp only[e1,jL];rw[lj (n:=((k+1:Nat):Int)+(m:Int)) (by omega) (by omega),<-ii,nA hl,gy,oo hl]
  have hq:qb s[k+1+m]=false:=by
   have:=ad1 (q:=qb) (r:=s.drop (k+1)) (p:=m) (by omega) (by rw[gB];omega)
   grind
  rw[show((s[k+1+m].toNat:Int)==10)=(s[k+1+m]==10)from wq _ 10 (by decide),aus hq];cases h34:s[k+1+m]==34 with
  |false=>simp only[h34,gH,jK,jL];exact Ev.pure
  |true=>
   simp only[h34,gK,jK,jL];rw[lj (n:=(k:Int)+(m:Int)) (by omega) (by omega),lj (by omega) (by omega),show(k:Int)+(m:Int)+2=((k+(m+2):Nat):Int)from by omega];exact Ev.pure
 ·rw[if_neg h];rw[gB]at h;rw[gz (show s.length<=k+1+m by omega)];exact Ev.pure
theorem arz(s:Str)(hs:s.length<Nq)(k:Nat)(hk:k<s.length):
 kZ (fun n m=>Lo n m s (k:Int) ((k+1:Nat):Int)) (ae2 k (OW (s.drop k))):=by
 simp only[Nq]at hs;unfold OW;rw[show(s.drop k).drop 1=s.drop (k+1)from by rw[gI]];have hr:=GM qb (s.drop (k+1));rw[gB]at hr;generalize hm:pe qb (s.drop (k+1))=m at*;rw[gI];refine ais (s:=s) (by simp only[big];omega) qb (L:=fun n m q=>Lo n m s (k:Int) q) (N:=k+1+m) ?_ ?_ (k+1) (by omega) (by rw[hm])
 ·intro q hq hp next
  refine kZ.lp (fun n m=>by simp only[acL,Ln,mB];exact rfl) ?_;have e:decide ((q:Int)<(s.length:Int))=true:=jM (by omega);simp only[e,jK];refine kZ.Eu hq ?_;rw[show((s[q].toNat:Int) !=34)= !(s[q]==34)from Xv _ 34 (by decide)];unfold qb at hp;rw[gD]at hp;rw[hp.1];simp only[jK];refine kZ.Eu hq ?_;rw[show((s[q].toNat:Int) !=10)= !(s[q]==10)from Xv _ 10 (by decide),hp.2,kM (by omega)]
  grind
 ·intro q hle hp hN;refine kZ.lp (fun n m=>by simp only[acL,Ln,mB];exact rfl) ?_
  have uA:∀hq:q<s.length,kZ (fun _ _=>bif (q:Int)==(s.length:Int)then some ((0:Int),(k:Int),(4:Int))else(sQ s (q:Int)).bind fun x=>bif (x.toNat:Int) !=34 then some ((0:Int),(k:Int),(4:Int))else some ((2:Int),IntKind.i64.wrap ((q:Int)+1),(0:Int)))
   (ae2 k (match s.drop (k+1+m)with|d::_=>bif d==34 then(2,m+2,0)else(0,0,4)|[]=>(0,0,4))):=by
   intro hq;have e:((q:Int)==(s.length:Int))=false:=by rw[beq_eq_false_iff_ne];omega
   simp only[e,jL];refine kZ.Eu hq ?_;rw[<-hN,oo hq,kM (by omega),show((s[q].toNat:Int) !=34)= !(s[q]==34)from Xv _ 34 (by decide)];cases h34:s[q]==34 with
   |false=>simp only[h34,gH,jK,jL];exact kZ.pure
   |true=>
    simp only[h34,gK,jK,jL];rw[show((q+1:Nat):Int)=((k+(m+2):Nat):Int)from by omega];exact kZ.pure
  by_cases me:q<s.length
  ·have e:decide ((q:Int)<(s.length:Int))=true:=jM (by omega);have hp:=hp me;simp only[e,jK];refine kZ.Eu me ?_;rw[show((s[q].toNat:Int) !=34)= !(s[q]==34)from Xv _ 34 (by decide)];cases h34:s[q]==34 with
   |true=>grind
   |false=>
    simp only[gH,jK];refine kZ.Eu me ?_;rw[show((s[q].toNat:Int) !=10)= !(s[q]==10)from Xv _ 10 (by decide),aus hp,h34]
    grind
  ·have e:decide ((q:Int)<(s.length:Int))=false:=jN (by omega);have e2:((q:Int)==(s.length:Int))=true:=by rw[beq_iff_eq];omega
   simp only[e,e2,jK,jL];rw[gz (show s.length<=k+1+m by omega)];exact kZ.pure
def adu(c:UInt8):Bool:=ayr.contains c
theorem aFo(c:UInt8):Ev (fun n=>Ya n (c.toNat:Int)) (adu c):=by
 refine⟨25,fun n hn=>?_⟩;obtain⟨k,rfl⟩:∃k,n=k+25:=⟨n-25,by omega⟩;have:=Zs (p:=fun c=>decide (Ya (k+25) (c.toNat:Int)=some (adu c))) (jR) c;exact jO this
theorem aoP(c:UInt8):gO ayr [c]=adu c:=by
 have:=Zs (p:=fun c=>decide (gO ayr [c]=adu c)) (jR) c;exact jO this
def dd:Str->Bool
 |[]=>false
 |x::r=>(x==45&&r.head?==some 45)||dd r
theorem ake:∀s:Str,gO s [45,45]=dd s
 |[]=>rfl
 |x::r=>by
  have ih:=ake r;unfold gO at ih ⊢;unfold iB dd
  have hp:([45,45]:List UInt8).isPrefixOf (x::r)=(x==45&&r.head?==some 45):=by
   cases r with
   |nil=>simp [List.isPrefixOf]
   |cons y t=>
    grind
  grind
def RO(s:Str):Bool:=
 match s with
 |[]=>false
 |c::t=>bif C5 c then(c::t).all Sw&&(!((c::t)==[95])&& !kws.contains (c::t))else(c::t).all adu&&(!dd (c::t)&&(decide ((c::t).length<=8)&&(!sX.contains (c::t)||(c::t)==[43])))
theorem anm{s:Str}{k:Nat}(h:k<s.length):(s.drop k).all p=(p s[k]&&(s.drop (k+1)).all p):=by
 rw[oo h,List.all_cons]
theorem aut(p:UInt8->Bool):∀r:Str,(pe p r==r.length)=r.all p
 |[]=>rfl
 |x::r=>by
  rw[tN,List.all_cons,<-aut p r]
  grind
theorem aFp(s:Str):kZ (fun n m=>AD n m s sX ((sX.length:Nat):Int) 0) (!sX.contains s||s==[43]):=by
 have key:∀d k:Nat,k+d=sX.length->kZ (fun n m=>AD n m s sX ((sX.length:Nat):Int) (k:Int)) (!(sX.drop k).contains s||s==[43]):=by
  intro d;have hle:sX.length=21:=rfl;induction d with
  |zero=>
   intro k hk;refine kZ.lp (fun n m=>by simp only[Ul,Ej,mB];exact rfl) ?_
   grind [kZ.pure]
  |succ d ih=>
   intro k hk;have me:k<sX.length:=by omega
   refine kZ.lp (fun n m=>by simp only[Ul,Ej,mB];exact rfl) ?_;have:decide ((k:Int)<((sX.length:Nat):Int))=true:=jM (by omega);simp only[this,jK];refine kZ.Eu me ?_;rw[gx me,gN,show(s==sX[k])=(sX[k]==s)from gY.2 ⟨fun h=>by simpa using (beq_iff_eq.1 h).symm,fun h=>by simpa using (beq_iff_eq.1 h).symm⟩];cases sX[k]==s with
   |true=>grind [kZ.pure]
   |false=>
    grind [kM]
 exact key sX.length 0 (by omega)
theorem aw8(s:Str):kZ (fun n m=>AC n m s sX 0) (decide (s.length<=8)&&(!sX.contains s||s==[43])):=by
 have h8:decide ((s.length:Int)<=8)=decide (s.length<=8):=decide_eq_decide.2 (by omega)
 have key:∀d k:Nat,k+d=sX.length->kZ (fun n m=>AC n m s sX (k:Int)) (decide (s.length<=8)&&(!(sX.drop k).contains s||s==[43])):=by
  intro d;have hle:sX.length=21:=rfl;induction d with
  |zero=>
   intro k hk;refine kZ.lp (fun n m=>by simp only[Ui,Eg,mB];exact rfl) ?_
   grind [kZ.pure]
  |succ d ih=>
   intro k hk;have me:k<sX.length:=by omega
   refine kZ.lp (fun n m=>by simp only[Ui,Eg,mB];exact rfl) ?_;have:decide ((k:Int)<((sX.length:Nat):Int))=true:=jM (by omega);simp only[this,jK];refine kZ.Eu me ?_;rw[gx me,gN,show(s==sX[k])=(sX[k]==s)from gY.2 ⟨fun h=>by simpa using (beq_iff_eq.1 h).symm,fun h=>by simpa using (beq_iff_eq.1 h).symm⟩];rw[kM (by omega)];have next:=ih (k+1) (by omega)
   cases sX[k]==s with
   |true=>
    grind [kZ.pure]
   |false=>
    grind
 exact key sX.length 0 (by omega)
theorem apF(s:Str)(hs:s.length<Nq):Ev (fun n=>Lj n s) (RO s):=by
 refine Ev.fn (fun n=>by simp only[Lj,kD,Rn,mB];exact rfl) ?_;simp only[Nq]at hs
 match s with
 |[]=>exact Ev.pure
 |c::t=>
  simp only[show((c::t)==([]:Str))=false from rfl,jL,show sQ (c::t) 0=some c from rfl,gy];refine Ev.bind (RM c) ?_;rw[Xr,RO];have hs':(c::t).length<4294967281:=hs;generalize VT:c::t=s at*;cases C5 c with
  |true=>
   simp only[jK]
   have key:∀d k:Nat,k+d=s.length->kZ (fun n m=>En n m s (s.length:Int) (k:Int)) ((s.drop k).all Sw&&(!(s==[95])&& !kws.contains s)):=by
    intro d;induction d with
    |zero=>
     intro k hk;refine kZ.lp (fun n m=>by simp only[Un,Em,mB];exact rfl) ?_;have:decide ((k:Int)<(s.length:Int))=false:=jN (by omega);simp only[this,jL];rw[gz (by omega)];simp only[ij,gA];cases s==[95]with
     |true=>exact kZ.pure
     |false=>
      simp only[jL,gH,gA];exact kZ.lQ (aw3 s) kZ.pure
    |succ d ih=>
     intro k hk;have me:k<s.length:=by omega
     refine kZ.lp (fun n m=>by simp only[Un,Em,mB];exact rfl) ?_;have:decide ((k:Int)<(s.length:Int))=true:=jM (by omega);simp only[this,jK];refine kZ.Eu me (kZ.lQ (ad0 _) ?_);rw[anm me];cases Sw s[k]with
     |false=>grind [kZ.pure]
     |true=>
      simp only[jK,gA];rw[kM (by omega)];exact ih (k+1) (by omega)
   exact Ev.yn (F:=fun n m=>En n m s (s.length:Int) 0) (key s.length 0 (by omega))
  |false=>
   simp only[jL]
   have key:∀d k:Nat,k+d=s.length->kZ (fun n m=>El n m s (s.length:Int) (k:Int)) ((s.drop k).all adu&&(!dd s&&(decide (s.length<=8)&&(!sX.contains s||s==[43])))):=by
    intro d;induction d with
    |zero=>
     intro k hk;refine kZ.lp (fun n m=>by simp only[Um,Ek,mB];exact rfl) ?_;have:decide ((k:Int)<(s.length:Int))=false:=jN (by omega);simp only[this,jL];rw[gz (by omega)];simp only[ij,gA];refine kZ.lQ (akd s [45,45] hs') ?_;rw[ake];cases dd s with
     |true=>grind [kZ.pure]
     |false=>
      simp only[jL,gH,gA];by_cases h8:s.length<=8
      ·have e1:decide ((8:Int)<(s.length:Int))=false:=jN (by omega);have e2:decide (s.length<=8)=true:=jM h8;simp only[e1,e2,jL,gA];exact kZ.lQ apA (kZ.P9 (Ev.yn (F:=fun n m=>AD n m s sX ((sX.length:Nat):Int) 0) (aFp s)))
      grind [kZ.pure]
    |succ d ih=>
     intro k hk;have me:k<s.length:=by omega
     refine kZ.lp (fun n m=>by simp only[Um,Ek,mB];exact rfl) ?_;rw[kM (by omega)];have e1:decide ((k:Int)<(s.length:Int))=true:=jM (by omega);have e2:decide ((0:Int)<=(k:Int)/\(k:Int)<=((k+1:Nat):Int)/\((k+1:Nat):Int)<=(s.length:Int))=true:=jM (by omega);simp only[e1,e2,jK,gF];rw[show ib k (List.take (k+1) s)=[s[k]] from by grind [oo]];refine kZ.lQ (akd ayr [s[k]] (by simp only[Nq];decide)) ?_;rw[aoP,anm me];cases adu s[k]with
     |false=>grind [kZ.pure]
     |true=>
      grind
   exact Ev.yn (F:=fun n m=>El n m s (s.length:Int) 0) (key s.length 0 (by omega))
theorem ait (s:Str) (hs:s.length<Nq):Ev (fun n=>Lb n s) (RO s):=by
 refine Ev.fn (fun n=>by simp only[Lb,kD,Rl,mB];exact rfl) ?_;simp only[Nq]at hs
 match s with
 |[]=>exact Ev.pure
 |c::t=>
  simp only[show((c::t)==([]:Str))=false from rfl,jL,show sQ (c::t) 0=some c from rfl,gy];refine Ev.bind (adZ c) ?_;rw[RO];have hs':(c::t).length<4294967281:=hs;generalize VT:c::t=s at*;cases C5 c with
  |true=>
   simp only[jK];have hc:=Zt s (by simp only[big];omega) 0 (gJ _);rw[gU,Nat.zero_add]at hc;refine Ev.bind hc ?_
   have e:(((yJ s:Nat):Int)==(s.length:Int))=s.all Sw:=by
    grind [aut,yJ]
   rw[e];cases s.all Sw with
   |false=>exact Ev.pure
   |true=>
    simp only[jK,gA];cases s==[95]with
    |true=>exact Ev.pure
    |false=>
     simp only[jL,gH,gA];exact Ev.bind (afW s) Ev.pure
  |false=>
   simp only[jL]
   have key: ∀d k:Nat,k+d=s.length->kZ (fun n m=>Ei n m s (k:Int)) ((s.drop k).all adu&&(!dd (s.drop (k-1))&&(decide (s.length<=8)&&(!sX.contains s||s==[43])))):=by
    intro d;induction d with
    |zero=>
     intro k hk;refine kZ.lp (fun n m=>by simp only[Uj,Eh,mB];exact rfl) ?_;have:decide ((k:Int)<(s.length:Int))=false:=jN (by omega);simp only[this,jL];rw[gz (show s.length<=k by omega)];simp only[ij,gA]
     have:dd (s.drop (k-1))=false:=by
      match hd:s.drop (k-1)with
      |[]=>rfl
      |[x]=>simp [dd]
      |x::y::r=>
       grind [gM]
     rw[this,gH,gA];exact kZ.lQ aum (kZ.P9 (Ev.yn (F:=fun n m=>AC n m s sX 0) (aw8 s)))
    |succ d ih=>
     intro k hk;have me:k<s.length:=by omega
     refine kZ.lp (fun n m=>by simp only[Uj,Eh,mB];exact rfl) ?_;rw[kM (by omega)];have e1:decide ((k:Int)<(s.length:Int))=true:=jM (by omega);simp only[e1,jK];refine kZ.Eu me (kZ.lQ (aFo _) ?_);rw[anm me];have next:=ih (k+1) (by omega)
     rw[Nat.add_sub_cancel]at next
     cases adu s[k]with
     |false=>grind [kZ.pure]
     |true=>
      simp only[jK,gA];by_cases h0:0<k
      ·have e2:decide ((0:Int)<(k:Int))=true:=jM (by omega);simp only[e2,jK];have hk1:k-1<s.length:=by omega
       have hkk:k-1+1=k:=by omega
       have hdd:dd (s.drop (k-1))=((s[k-1]==45&&s[k]==45)||dd (s.drop k)):=by
        rw[oo hk1,dd,hkk]
        simp_all
       rw[hdd];refine kZ.Eu me ?_;rw[show((s[k].toNat:Int)==45)=(s[k]==45)from wq _ 45 (by decide)];cases s[k]==45 with
       |false=>grind
       |true=>
        simp only[jK,Bool.and_true];rw[lj (by omega) (by omega),show(k:Int)-1=((k-1:Nat):Int)from by omega];refine kZ.Eu hk1 ?_;rw[show((s[k-1].toNat:Int)==45)=(s[k-1]==45)from wq _ 45 (by decide)];cases s[k-1]==45 with
        |true=>simp_all [kZ.pure]
        |false=>grind
      simp_all
   exact Ev.yn (F:=fun n m=>Ei n m s 0) (key s.length 0 (by omega))
abbrev cap:Nat:=1048640
def ann(c:UInt8):Bool:=(decide (97<=(c.toNat:Int))&&decide ((c.toNat:Int)<=122))||((decide (65<=(c.toNat:Int))&&decide ((c.toNat:Int)<=90))||((c.toNat:Int)==95))
def Ns:Bool->Str->Bool
 |b,[]=> !b
 |b,c::s=>bif ann c then Ns false s else bif b then false else bif ((c.toNat:Int)==46)then Ns true s else bif ((c.toNat:Int)==39)||(decide (48<=(c.toNat:Int))&&decide ((c.toNat:Int)<=57))then Ns false s else false
def Xx(s:Str):Bool:=Ns true s&&decide ((s.length:Int)<=64)
def Kl(n:jV):Bool:=n.parts.getD 0 []==[]
def rgt(n:jV):Bool:=n.parts.getD (n.parts.length-1) []==[]
def aiu:List Str->Bool
 |x::y::r=>(x==[]&&y==[])||aiu (y::r)
 |_=>false
def CY(n:jV):Int:=
 bif decide (n.parts.length=0)||decide (16<n.parts.length)then 6
 else bif aiu n.parts||n.parts.all (· ==[])then 3
 else bif n.parts.all (fun s=>s==[]||RO s)then
  (bif decide (n.mY<0)||(decide (100<n.mY)||(decide (n.Ck<0)||decide (2<n.Ck)))then 2
  else bif !(n.Ck==0)&& !(Kl n&&rgt n)then 1 else bif Xx n.target then 0 else 29)
 else 4
def qd(n:jV):Str:=bif Kl n then n.parts.getD 1 [] else n.parts.getD 0 []
def sv(n:jV):List Str:=bif Kl n then n.parts.drop 2 else n.parts.drop 1
def CZ(a b:jV):Bool:=(Kl a&&(sv b).contains (qd a))||(Kl b&&(sv a).contains (qd b))
def MZ(t n:jV):Bool:=Kl t==Kl n&&qd t==qd n
def abe(T:List jV)(n:jV):Int:=
 bif CY n==0 then(bif decide (100<=T.length)then 6 else bif CZ n n||T.any (fun t=>MZ t n||CZ t n)then 8 else 0)else CY n
def akf(pre:List jV):List jV->Bool
 |[]=>true
 |n::r=>abe pre n==0&&akf (pre++[n]) r
def agR(T:List jV):Bool:=akf [] T
def vo(T:List jV)(s:Str)(c:Bool):Option jV:=T.find? fun n=>Kl n==c&&qd n==s
structure Ok(n:jV):Prop where
 pos:0<n.parts.length
 few:n.parts.length<=16
 adj:aiu n.parts=false
 tX:n.parts.all (· ==[])=false
 lo:0<=n.mY
 hi:n.mY<=100
 alo:0<=n.Ck
 ahi:n.Ck<=2
theorem Ok.of{n:jV}(h:CY n=0):Ok n:=by
 unfold CY at h;cases h1:decide (n.parts.length=0)||decide (16<n.parts.length)with
 |true=>grind
 |false=>
  rw[h1,jL]at h;cases h2:aiu n.parts||n.parts.all (· ==[])with
  |true=>grind
  |false=>
   rw[h2,jL]at h;cases h3:n.parts.all (fun s=>s==[]||RO s)with
   |false=>grind
   |true=>
    rw[h3,jK]at h;cases h4:decide (n.mY<0)||(decide (100<n.mY)||(decide (n.Ck<0)||decide (2<n.Ck)))with
    |true=>grind
    |false=>
     simp only[ig,decide_eq_false_iff_not]at h1 h2 h4;exact⟨by omega,by omega,h2.1,h2.2,by omega,by omega,by omega,by omega⟩
structure TOk(T:List jV):Prop where
 chk:∀n∈T,CY n=0
 aJK:∀a∈T,∀b∈T,CZ a b=false
 aJL:∀a∈T,∀b∈T,MZ a b=true->a=b
 len:T.length<=100
theorem aw9(a b:jV):CZ a b=CZ b a:=by unfold CZ;rw[iE]
theorem axa{a b:jV}(h:MZ a b=true):MZ b a=true:=by
 grind [MZ]
theorem azP{T:List jV}{n:jV}(h:abe T n=0):CY n=0/\T.length<100/\CZ n n=false/\∀t∈T,MZ t n=false/\CZ t n=false:=by
 unfold abe at h
 grind
theorem TOk.nil:TOk []:=⟨by simp,by simp,by simp,by simp⟩
theorem TOk.axb{T:List jV}{n:jV}(g:TOk T)(h:abe T n=0):TOk (T++[n]):=by
 obtain⟨h1,h2,h3,h4⟩:=azP h;refine⟨fun a ha=>?_,fun a ha b hb=>?_,fun a ha b hb e=>?_,by grind⟩
 ·rcases gS.1 ha with ha|ha
  ·exact g.chk a ha
  grind
 ·rcases gS.1 ha with ha|ha<;>rcases gS.1 hb with hb|hb
  ·exact g.aJK a ha b hb
  all_goals grind [aw9]
 ·rcases gS.1 ha with ha|ha<;>rcases gS.1 hb with hb|hb
  ·exact g.aJL a ha b hb e
  all_goals grind [axa]
theorem TOk.go:∀{r pre:List jV},TOk pre->akf pre r=true->TOk (pre++r)
 |[],pre,g,_=>by rw[List.append_nil];exact g
 |n::r,pre,g,h=>by
  rw[akf,gD,beq_iff_eq]at h;have:=TOk.go (g.axb h.1) h.2
  rwa [List.append_assoc]at this
theorem TOk.of{T:List jV}(h:agR T=true):TOk T:=by simpa using TOk.go TOk.nil h
theorem TOk.ok{T:List jV}(g:TOk T){n:jV}(h:n∈T):Ok n:=Ok.of (g.chk n h)
theorem Gn{T:List jV}{s:Str}{n:jV}(h:vo T s c=some n):n∈T/\Kl n=c/\qd n=s:=by
 have h1:=List.mem_of_find?_eq_some h;have h2:=List.find?_some h
 grind
theorem Kf{T:List jV}(g:TOk T){n:jV}(h:n∈T):vo T (qd n) (Kl n)=some n:=by
 cases hf:vo T (qd n) (Kl n)with
 |none=>
  have:=List.find?_eq_none.1 hf n h;simp at this
 |some m=>
  obtain⟨a,b,c⟩:=Gn hf;rw[g.aJL m a n h (by unfold MZ;simp [b,c])]
theorem auu:∀{l:List Str}{i:Nat},aiu l=false->i+1<l.length->l.getD i []=[]->l.getD (i+1) []≠[]
 |[],i,_,h,_=>by simp at h
 |[x],i,_,h,_=>by simp at h
 |x::y::r,0,h,_,e=>by
  grind [aiu]
 |x::y::r,i+1,h,hl,e=>by
  rw[aiu,ig]at h;have:=auu (l:=y::r) (i:=i) h.2 (by simpa using hl) (by simpa using e);simpa using this
theorem Ok.apG{n:jV}(k:Ok n)(h:Kl n=true):2<=n.parts.length:=by
 have hp:=k.pos
 match hn:n.parts with
 |[]=>rw[hn]at hp;simp at hp
 |[x]=>
  unfold Kl at h;rw[hn]at h;have:=k.tX
  grind
 |x::y::r=>simp
theorem Ok.als{n:jV}(k:Ok n):qd n≠[]:=by
 unfold qd;cases h:Kl n with
 |true=>
  rw[jK];exact auu k.adj (by have:=k.apG h;omega) (by grind [Kl])
 |false=>grind [Kl]
def arA(n:jV):Bool:=Kl n&&rgt n
def RR(n:jV)(i:Nat):Int:=
 bif decide (0<i)&&decide (i<n.parts.length-1)then 0
 else bif (arA n&&(decide (i=0)&& !(n.Ck==1)))||(arA n&&(decide (0<i)&& !(n.Ck==2)))then n.mY+1 else n.mY
def aJM(s:Str)(f t:Int):Syntax:=.mk 0 s 0 [] [] [] f t
def aHM(o x:Syntax)(f t:Int):Syntax:=.mk 2 [] 0 [] [] [o,x] f t
def ano(o:Syntax)(ky:List Syntax)(f t:Int):Syntax:=ky.foldl (fun o x=>aHM o x f t) o
def Zv(n:jV)(ky:List Syntax)(f t:Int):Syntax:=ano (aJM n.target f t) ky f t
def adv:List Syntax->Option Str
 |[]=>none
 |x::_=>bif x.kind==17 then some x.text else none
inductive Cmd where
 |parts (n:jV) (ps:List Str) (i:Nat) (ky:List Syntax) (e:Int) (r:List Syntax)
 |first (m:Int) (r:List Syntax)
 |loop (m:Int) (out:Syntax) (has:Int) (r:List Syntax)
 |mY (m:Int) (r:List Syntax)
inductive Out where
 |D5 (r:List Syntax)
 |val (x:Syntax) (h:Int) (r:List Syntax)
 |ky (l:List Syntax) (e:Int) (r:List Syntax)
def auv(T:List jV)(m has:Int)(r:List Syntax):Option jV:=
 match adv r with
 |none=>none
 |some s=>match vo T s true with
  |none=>none
  |some n=>bif decide (n.mY<m)||decide (has<RR n 0)then none else some n
def auw(T:List jV)(m:Int)(x:Syntax):Option jV:=
 match vo T x.text false with
 |none=>none
 |some n=>bif rgt n&&decide (n.mY<m)then none else some n
def axc(n:jV):Int:=bif rgt n then n.mY else 101
inductive Nt(T:List jV):Cmd->Out->Prop
 |adw {n i ky e r}:Nt T (.parts n [] i ky e r) (.ky ky e r)
 |alu {n ps i ky e r q}:Nt T (.mY (RR n i) r) (.D5 q)->Nt T (.parts n ([]::ps) i ky e r) (.D5 q)
 |Cj {n ps i ky e r x h q o}:Nt T (.mY (RR n i) r) (.val x h q)->Nt T (.parts n ps (i+1) (ky++[x]) x.to q) o->Nt T (.parts n ([]::ps) i ky e r) o
 |arB {n s ps i ky e r}:s≠[]->adv r≠some s->Nt T (.parts n (s::ps) i ky e r) (.D5 r)
 |tX {n s ps i ky e y r o}:s≠[]->y.kind=17->y.text=s->Nt T (.parts n ps (i+1) ky y.to r) o->Nt T (.parts n (s::ps) i ky e (y::r)) o
 |adx {m}:Nt T (.first m []) (.D5 [])
 |Xy {m x r}:x.kind≠17->Nt T (.first m (x::r)) (.val x 101 r)
 |ad2 {m x r}:x.kind=17->auw T m x=none->Nt T (.first m (x::r)) (.D5 (x::r))
 |aiv {m x r n q}:x.kind=17->auw T m x=some n->Nt T (.parts n n.parts 0 [] 0 (x::r)) (.D5 q)->Nt T (.first m (x::r)) (.D5 q)
 |first {m x r n l e q}:x.kind=17->auw T m x=some n->Nt T (.parts n n.parts 0 [] 0 (x::r)) (.ky l e q)->Nt T (.first m (x::r)) (.val (Zv n l x.k9 e) (axc n) q)
 |stop {m out has r}:auv T m has r=none->Nt T (.loop m out has r) (.val out has r)
 |ayu {m out has r n q}:auv T m has r=some n->Nt T (.parts n (n.parts.drop 1) 1 [out] 0 r) (.D5 q)->Nt T (.loop m out has r) (.D5 q)
 |go {m out has r n l e q o}:auv T m has r=some n->Nt T (.parts n (n.parts.drop 1) 1 [out] 0 r) (.ky l e q)->Nt T (.loop m (Zv n l out.k9 e) n.mY q) o->Nt T (.loop m out has r) o
 |ady {m r q}:Nt T (.first m r) (.D5 q)->Nt T (.mY m r) (.D5 q)
 |mY {m r x h q o}:Nt T (.first m r) (.val x h q)->Nt T (.loop m x h q) o->Nt T (.mY m r) o
def Cmd.rest:Cmd->List Syntax
 |.parts _ _ _ _ _ r=>r
 |.first _ r=>r
 |.loop _ _ _ r=>r
 |.mY _ r=>r
def Out.rest:Out->List Syntax
 |.D5 r=>r
 |.val _ _ r=>r
 |.ky _ _ r=>r
theorem Nt.anp{T:List jV}{c:Cmd}{o:Out}(h:Nt T c o):o.rest<:+c.rest:=by
 induction h with
 |adw=>exact gQ _
 |alu _ ih=>exact ih
 |Cj _ _ ih1 ih2=>exact ih2.trans ih1
 |arB _ _=>exact gQ _
 |tX _ _ _ _ ih=>exact ih.trans (ir _ _)
 |adx=>exact gQ _
 |Xy _=>exact ir _ _
 |ad2 _ _=>exact gQ _
 |aiv _ _ _ ih=>exact ih
 |first _ _ _ ih=>exact ih
 |stop _=>exact gQ _
 |ayu _ _ ih=>exact ih
 |go _ _ _ ih1 ih2=>exact ih2.trans ih1
 |ady _ ih=>exact ih
 |mY _ _ ih1 ih2=>exact ih2.trans ih1
def Cmd.wF:Cmd->Bool
 |.parts .. =>true
 |_=>false
def aCu(c:Cmd):Out->Prop
 |.D5 _=>True
 |.val .. =>c.wF=false
 |.ky .. =>c.wF=true
theorem Nt.aGh{T:List jV}{c:Cmd}{o:Out}(h:Nt T c o):aCu c o:=by
 induction h with
 |Cj _ _ _ ih=>exact ih
 |tX _ _ _ _ ih=>exact ih
 |go _ _ _ _ ih=>exact ih
 |mY _ _ _ ih=>exact ih
 |_=>first|trivial|rfl
theorem ad3{T:List jV}{n:jV}{ps:List Str}{i:Nat}{ky:List Syntax}{e:Int}{r:List Syntax}{o:Out}(h:Nt T (.parts n ps i ky e r) o):(∃q,o=.D5 q)\/∃l e' q,o=.ky l e' q:=by
 have:=h.aGh
 match o,this with
 |.D5 q,_=>exact .inl ⟨q,rfl⟩
 |.val x h q,this=>grind [aCu,Cmd.wF]
 |.ky l e' q,_=>exact .inr ⟨l,e',q,rfl⟩
theorem Qn{T:List jV}{c:Cmd}{o:Out}(h:Nt T c o)(hc:c.wF=false):(∃q,o=.D5 q)\/∃x hh q,o=.val x hh q:=by
 have:=h.aGh
 match o,this with
 |.D5 q,_=>exact .inl ⟨q,rfl⟩
 |.val x h q,_=>exact .inr ⟨x,h,q,rfl⟩
 |.ky l e' q,this=>grind [aCu]
theorem Qs{T:List jV}{m:Int}{x:Syntax}{n:jV}(h:auw T m x=some n):n∈T/\Kl n=false/\qd n=x.text/\(rgt n=true->m<=n.mY):=by
 grind [auw,Gn]
theorem apH{r:List Syntax}{s:Str}(h:adv r=some s):∃y r',r=y::r'/\y.kind=17/\y.text=s:=by
 match r with
 |[]=>simp [adv]at h
 |y::r'=>
  have h:(bif y.kind==17 then some y.text else none)=some s:=h
  grind
theorem arC{y:Syntax}{r:List Syntax}(h:y.kind=17):adv (y::r)=some y.text:=by
 show(bif y.kind==17 then some y.text else none)=some y.text;rw[beq_iff_eq.2 h];rfl
theorem Qt{T:List jV}{m has:Int}{r:List Syntax}{n:jV}(h:auv T m has r=some n):n∈T/\Kl n=true/\adv r=some (qd n)/\m<=n.mY/\RR n 0<=has:=by
 unfold auv at h
 all_goals grind [Gn]
theorem anq{n:jV}(h:Kl n=true):qd n=n.parts.getD 1 []:=by unfold qd;rw[h];rfl
theorem akg{n:jV}(h:Kl n=false):qd n=n.parts.getD 0 []:=by unfold qd;rw[h];rfl
theorem axd{n:jV}(k:Ok n)(h:Kl n=true):n.parts=[]::qd n::n.parts.drop 2:=by
 have h2:=k.apG h;rw[anq h];unfold Kl at h
 match hp:n.parts with
 |[]=>rw[hp]at h2;simp at h2
 |[x]=>rw[hp]at h2;simp at h2
 |x::y::r=>grind
theorem auy{n:jV}(k:Ok n)(h:Kl n=false):n.parts=qd n::n.parts.drop 1:=by
 have h2:=k.pos;rw[akg h]
 match hp:n.parts with
 |[]=>rw[hp]at h2;simp at h2
 |x::r=>rfl
theorem Nt.aJN{T:List jV}(g:TOk T):∀(k:Nat)(m:Int)(r:List Syntax),r.length<=k->∃o,Nt T (.mY m r) o/\(∀x h q,o=.val x h q->q.length<r.length):=by
 intro k;induction k with
 |zero=>
  intro m r hr;have:r=[]:=iA.1 (by omega);subst this;exact⟨_,.ady .adx,fun x h q e=>by cases e⟩
 |succ k ih=>
  intro m r hr
  have parts:∀(n:jV)(ps:List Str)(i:Nat)(ky:List Syntax)(e:Int)(r:List Syntax),r.length<=k->∃o,Nt T (.parts n ps i ky e r) o:=by
   intro n ps;induction ps with
   |nil=>intro i ky e r _;exact⟨_,.adw⟩
   |cons s ps ihp=>
    intro i ky e r hr;by_cases hs:s=[]
    ·subst hs;obtain⟨o,ho,_⟩:=ih (RR n i) r hr;rcases Qn ho rfl with⟨q,rfl⟩|⟨x,h,q,rfl⟩
     ·exact⟨_,.alu ho⟩
     ·obtain⟨o,h2⟩:=ihp (i+1) (ky++[x]) x.to q (iF ho.anp.length_le hr);exact⟨_,.Cj ho h2⟩
    ·by_cases hq:adv r=some s
     ·obtain⟨y,r',rfl,h1,h2⟩:=apH hq;rw[gM]at hr;obtain⟨o,h3⟩:=ihp (i+1) ky y.to r' (by omega);exact⟨_,.tX hs h1 h2 h3⟩
     ·exact⟨_,.arB hs hq⟩
  have aCv:∀(n:jV)(ps:List Str)(i:Nat)(ky:List Syntax)(e:Int)(y:Syntax)(r:List Syntax),r.length<=k->qd n≠[]->y.kind=17->y.text=qd n->∃o,Nt T (.parts n (qd n::ps) i ky e (y::r)) o/\o.rest<:+r:=by
   intro n ps i ky e y r hr h0 h1 h2;obtain⟨o,ho⟩:=parts n ps (i+1) ky y.to r hr;exact⟨_,.tX h0 h1 h2 ho,ho.anp⟩
  have loop:∀(j:Nat)(m:Int)(out:Syntax)(has:Int)(r:List Syntax),r.length<=j->j<=k->∃o,Nt T (.loop m out has r) o:=by
   intro j;induction j with
   |zero=>
    intro m out has r hr _;have:r=[]:=iA.1 (by omega);subst this;exact⟨_,.stop rfl⟩
   |succ j ihj=>
    intro m out has r hr hj;cases hg:auv T m has r with
    |none=>exact⟨_,.stop hg⟩
    |some n=>
     obtain⟨hn,hl,hs,_,_⟩:=Qt hg;obtain⟨y,r',rfl,h1,h2⟩:=apH hs;rw[gM]at hr;have kn:=g.ok hn
     have hp:n.parts.drop 1=qd n::n.parts.drop 2:=by
      grind [axd]
     obtain⟨o,ho,hsf⟩:=aCv n (n.parts.drop 2) 1 [out] 0 y r' (by omega) kn.als h1 h2;rw[<-hp]at ho;rcases ad3 ho with⟨q,rfl⟩|⟨l,e,q,rfl⟩
     ·exact⟨_,.ayu hg ho⟩
     ·have:=hsf.length_le;obtain⟨o,h3⟩:=ihj m (Zv n l out.k9 e) n.mY q (by simp [Out.rest]at this;omega) (by omega);exact⟨_,.go hg ho h3⟩
  have first: ∃o,Nt T (.first m r) o/\(∀x h q,o= .val x h q->q.length<r.length):=by
   match r,hr with
   |[],_=>exact⟨_,.adx,fun x h q e=>by cases e⟩
   |x::r,hr=>
    rw[gM]at hr;by_cases hx:x.kind=17
    ·cases hb:auw T m x with
     |none=>exact⟨_,.ad2 hx hb,fun x h q e=>by cases e⟩
     |some n=>
      obtain⟨hn,hl,hh,_⟩:=Qs hb;have kn:=g.ok hn;obtain⟨o,ho,hsf⟩:=aCv n (n.parts.drop 1) 0 [] 0 x r (by omega) kn.als hx hh.symm;rw[<-auy kn hl]at ho;rcases ad3 ho with⟨q,rfl⟩|⟨l,e,q,rfl⟩
      ·exact⟨_,.aiv hx hb ho,fun x h q e=>by cases e⟩
      ·refine⟨_,.first hx hb ho,fun x' h' q' e'=>?_⟩
       grind [Out.rest]
    ·exact⟨_,.Xy hx,fun x h q e=>by cases e;simp⟩
  obtain⟨o,ho,me⟩:=first
  rcases Qn ho rfl with⟨q,rfl⟩|⟨x,h,q,rfl⟩
  ·exact⟨_,.ady ho,fun x h q e=>by cases e⟩
  ·have hq:=me x h q rfl;obtain⟨o,h2⟩:=loop k m x h q (by omega) (gG _);refine⟨o,.mY ho h2,fun x' h' q' e'=>?_⟩;have:=h2.anp.length_le
   grind [Out.rest,Cmd.rest]
def Kj(s:Str):Syntax:=.mk 17 s 0 [] [] [] 0 0
theorem aiw(f t:Int):∀(l:List Syntax)(o:Syntax),o.k9=f->o.to=t->(ano o l f t).k9=f/\(ano o l f t).to=t
 |[],_,h1,h2=>⟨h1,h2⟩
 |x::l,o,_,_=>aiw f t l (aHM o x f t) rfl rfl
theorem afX(n:jV)(l:List Syntax)(f t:Int):(Zv n l f t).k9=f/\(Zv n l f t).to=t:=aiw f t l _ rfl rfl
theorem aCw{T:List jV}(g:TOk T){n:jV}(hn:n∈T)(hl:Kl n=true):n.parts.drop 1≠[]:=by
 have:=(g.ok hn).apG hl
 grind [gT]
theorem anr(c:UInt8):Ev (fun n=>S6 n (c.toNat:Int)) (ann c)/\Ev (fun n=>Qb n (c.toNat:Int)) (ann c):=by
 unfold ann;constructor
 ·refine Ev.fn (fun n=>by simp only[S6,kD,aLM,mB];exact rfl) ?_
  grind [Ev.pure]
 ·refine Ev.fn (fun n=>by simp only[Qb,kD,QM,mB];exact rfl) ?_
  grind [Ev.pure]
theorem aFq(s:Str)(hl:s.length<=cap*4):Ev (fun n=>adT n s) (Xx s):=by
 refine k8.ev ?_;refine k8.fn (fun n=>by simp only[adT,kD,acg,mB];exact rfl) ?_;refine k8.yn (F:=fun n m=>K4 n m s true s.length 0) ?_;refine kF.up (S:=Bool) (L:=fun n m i b=>K4 n m s b s.length i) s.length (fun i b=>Ns true s=Ns b (s.drop i)) _ ?_ ?_ 0 true (by omega) rfl
 ·intro i b hi hI next
  refine kF.lp (fun n m=>by simp only[acf,K3,mB];exact rfl) ?_;simp only[hi,iv,decide_true,jK];refine kF.Eu hi ?_;rw[gx hi,Ns]at hI;rw[kM (by simp only[cap]at hl;omega)];refine kF.lQ ((anr s[i]).1.Uu (Q:=(· =ann s[i])) rfl) fun x hx=>?_
  subst hx;cases h1:ann s[i]with
  |true=>
   grind
  |false=>
   rw[h1,jL]at hI;cases b with
   |true=>exact kF.pure (by grind [Xx])
   |false=>
    simp only[jL]at hI ⊢;cases h2:((s[i].toNat:Int)==46)with
    |true=>
     grind
    |false=>
     rw[h2,jL]at hI;simp only[jL];cases h3:((s[i].toNat:Int)==39)with
     |true=>
      grind
     |false=>
      rw[h3,gE]at hI;have e:((s[i].toNat:Int) !=39)=true:=by rw[bne,h3];rfl
      simp only[e,jK];refine kF.C4 (fun h4=>kF.pure ?_) fun h4=>kF.C4 (fun h5=>kF.pure ?_) fun h5=>next _ ?_
      all_goals grind [Xx]
 ·intro b hI;refine kF.lp (fun n m=>by simp only[acf,K3,mB];exact rfl) ?_;simp only[il,decide_false,jL];rw[List.drop_length,Ns]at hI;cases b with
  |true=>exact kF.pure (by unfold Xx;rw[hI];rfl)
  |false=>exact kF.pure (by unfold Xx;rw[hI];simp)
theorem auz(s:Str)(hl:s.length<=cap*4):Ev (fun n=>Yp n s) (Xx s):=by
 refine k8.ev ?_;refine k8.fn (fun n=>by simp only[Yp,kD,Yo,mB];exact rfl) ?_;refine k8.C4 (fun h=>k8.pure ?_) fun _=>?_
 ·have:=beq_iff_eq.1 h;subst this;rfl
 refine k8.C4 (fun h=>k8.pure ?_) fun h64=>?_
 ·grind [Xx]
 have aLE:decide ((s.length:Int)<=64)=true:=jM (by grind);have hT:Xx s=Ns true s:=by grind [Xx]
 rw[hT];refine k8.yn (F:=fun n m=>HT n m s true 0) ?_;refine kF.up (S:=Bool) (L:=fun n m i b=>HT n m s b i) s.length (fun i b=>Ns true s=Ns b (s.drop i)) _ ?_ ?_ 0 true (by omega) rfl
 ·intro i b hi hI next
  refine kF.lp (fun n m=>by simp only[ZS,HR,mB];exact rfl) ?_;simp only[hi,iv,decide_true,jK];refine kF.Eu hi ?_;rw[gx hi,Ns]at hI;rw[kM (by simp only[cap]at hl;omega)];have aJO:=(anr s[i]).2;cases b with
  |true=>
   simp only[jK]at hI ⊢;refine kF.lQ (aJO.Uu (Q:=(· =ann s[i])) rfl) fun x hx=>?_
   subst hx;cases h1:ann s[i]with
   |true=>grind
   |false=>rw[h1,jL]at hI;exact kF.pure hI.symm
  |false=>
   simp only[jL]at hI ⊢;cases h2:((s[i].toNat:Int)==46)with
   |true=>
    grind [ann]
   |false=>
    simp only[jL];refine kF.lQ (aJO.Uu (Q:=(· =ann s[i])) rfl) fun x hx=>?_
    subst hx;cases h1:ann s[i]with
    |true=>grind
    |false=>
     rw[h1,jL,h2,jL]at hI;simp only[jL];cases h3:((s[i].toNat:Int)==39)with
     |true=>
      grind
     |false=>
      rw[h3,gE]at hI;have e:((s[i].toNat:Int) !=39)=true:=by rw[bne,h3];rfl
      simp only[e,jK];refine kF.C4 (fun h4=>kF.pure ?_) fun h4=>kF.C4 (fun h5=>kF.pure ?_) fun h5=>next _ ?_
      all_goals grind
 ·intro b hI;refine kF.lp (fun n m=>by simp only[ZS,HR,mB];exact rfl) ?_;simp only[il,decide_false,jL];rw[List.drop_length,Ns]at hI;exact kF.pure hI.symm
theorem ant{W:Type}{bk:W->Nat}:∀{xs:List W}{x:W},x∈xs->bk x+1<=ae1 bk xs
 |y::ys,x,h=>by
  rw[ae1];rcases List.mem_cons.1 h with e|e
  ·grind [ane]
  ·have:=ant (bk:=bk) e;omega
theorem anu{W:Type}{bk:W->Nat}(h:∀x,1<=bk x):∀xs:List W,xs.length+1<=ae1 bk xs
 |[]=>ane []
 |x::xs=>by
  have h1:=anu h xs
  grind [ae1]
structure Nsm(n:jV):Prop where
 len:n.parts.length<=cap
 aJP:∀s∈n.parts,s.length<=cap
 target:n.target.length<=cap
theorem Nsm.of{n:jV}(h:n.aw1<=cap):Nsm n:=by
 unfold jV.aw1 at h;have h1:=anu (bk:=fun m:Str=>m.length+1) (fun _=>Nat.le_add_left _ _) n.parts;refine⟨by omega,fun s hs=>?_,by omega⟩
 grind [ant]
theorem alv(i:Nat):decide (0<(i:Int))=decide (0<i):=decide_eq_decide.2 (by omega)
theorem aHN(i k:Nat):decide ((i:Int)<(k:Int))=decide (i<k):=decide_eq_decide.2 (by omega)
theorem aix(i:Nat):((i:Int)==0)=decide (i=0):=by grind
theorem nat_eq(i k:Nat):((i:Int)==(k:Int))=decide (i=k):=by grind
theorem Xz{k:Nat}(h:0<k)(h2:k<=cap):IntKind.i64.wrap ((k:Int)-1)=((k-1:Nat):Int):=by
 grind [lj]
theorem arD{xs:List Str}{i:Nat}(h:i<xs.length):xs.getD i []=xs[i]:=by
 grind
theorem aFr(h:0<xs.length):sQ xs 0=some xs[0]:=nA (i:=0) h
theorem aJQ(h:1<xs.length):sQ xs 1=some xs[1]:=nA (i:=1) h
theorem Fe{n:jV}(h:0<n.parts.length):Ev (fun k=>Bm k n) (Kl n)/\Ev (fun k=>zD k n) (Kl n):=by
 unfold Kl;rw[arD h];constructor
 ·refine Ev.fn (fun n=>by simp only[Bm,kD,aMq,mB];exact rfl) ?_;rw[aFr h];exact Ev.pure
 ·refine Ev.fn (fun n=>by simp only[zD,kD,Yb,mB];exact rfl) ?_;rw[aFr h];exact Ev.pure
theorem w9{n:jV}(h:0<n.parts.length)(h2:n.parts.length<=cap):Ev (fun k=>Cr k n) (rgt n)/\Ev (fun k=>Jo k n) (rgt n):=by
 unfold rgt;rw[arD (by omega)];constructor
 ·refine Ev.fn (fun n=>by simp only[Cr,kD,Ng,mB];exact rfl) ?_
  grind [Xz,nA,Ev.pure]
 ·refine Ev.fn (fun n=>by simp only[Jo,kD,UO,mB];exact rfl) ?_
  grind [Xz,nA,Ev.pure]
theorem Ok.Nq{n:jV}(k:Ok n):n.parts.length<=cap:=by have:=k.few;simp only[cap];omega
theorem Zw{n:jV}(k:Ok n){i:Nat}(hi:i<n.parts.length):Ev (fun f=>HU f n (i:Int)) (RR n i):=by
 refine Ev.fn (fun n=>by simp only[HU,kD,Pc,mB];exact rfl) ?_;have hp:=k.pos;refine Ev.bind (Fe hp).1 ?_;unfold RR arA;have e2:IntKind.i64.wrap ((n.parts.length:Int)-1)=((n.parts.length-1:Nat):Int):=Xz hp k.Nq;have e3:IntKind.i64.wrap (n.mY+1)=n.mY+1:=lj (by have:=k.lo;omega) (by have:=k.hi;omega);simp only[alv,aix,e2,aHN,e3];cases Kl n with
 |false=>
  grind [Ev.pure]
 |true=>
  simp only[jK,gA];refine Ev.bind (w9 hp k.Nq).1 ?_
  grind [Ev.pure]
theorem adz{n:jV}(k:Ok n):Ev (fun f=>I0 f n) (qd n):=by
 refine Ev.fn (fun n=>by simp only[I0,kD,Yq,mB];exact rfl) ?_;refine Ev.bind (Fe k.pos).2 ?_;unfold qd;cases h:Kl n with
 |true=>
  have h2:=k.apG h
  grind [aJQ,Ev.pure]
 |false=>
  simp only[jL];rw[aFr k.pos,arD k.pos];exact Ev.pure
theorem apI{n:jV}(k:Ok n)(s:Str):Ev (fun f=>Oi f n s) ((sv n).contains s):=by
 refine Ev.fn (fun n=>by simp only[Oi,kD,aLT,mB];exact rfl) ?_;refine Ev.bind (Fe k.pos).2 ?_
 have key:∀d i:Nat,i+d=n.parts.length->kZ (fun f m=>Cu f m s (i:Int) n) ((n.parts.drop i).contains s):=by
  intro d;induction d with
  |zero=>
   intro i hi;refine kZ.lp (fun n m=>by simp only[Wp,FD,mB];exact rfl) ?_
   grind [kZ.pure]
  |succ d ih=>
   intro i hi;have me:i<n.parts.length:=by omega
   refine kZ.lp (fun n m=>by simp only[Wp,FD,mB];exact rfl) ?_;have:decide ((i:Int)<(n.parts.length:Int))=true:=jM (by omega);simp only[this,jK];refine kZ.Eu me ?_;rw[gx me,gN];rw[show(s==n.parts[i])=(n.parts[i]==s)from gY.2 ⟨fun h=>by simpa using (beq_iff_eq.1 h).symm,fun h=>by simpa using (beq_iff_eq.1 h).symm⟩];cases n.parts[i]==s with
   |true=>exact kZ.pure
   |false=>
    simp only[jL,gE];rw[kM (by have:=k.few;omega)];exact ih (i+1) (by omega)
 unfold sv;cases h:Kl n with
 |true=>
  have h2:=k.apG h;exact Ev.yn (F:=fun f m=>Cu f m s 2 n) (key (n.parts.length-2) 2 (by omega))
 |false=>
  have h2:=k.pos;exact Ev.yn (F:=fun f m=>Cu f m s 1 n) (key (n.parts.length-1) 1 (by omega))
theorem auA{a b:jV}(ka:Ok a)(kb:Ok b):Ev (fun f=>CN f a b) (CZ a b):=by
 refine Ev.fn (fun n=>by simp only[CN,kD,Nj,mB];exact rfl) ?_
 have two:Ev (fun f=>(zD f b).bind fun x=>bif x then(I0 f b).bind fun x=>(Oi f a x).bind fun x=>some x else some false) (Kl b&&(sv a).contains (qd b)):=by
  refine Ev.bind (Fe kb.pos).2 ?_;cases Kl b with
  |false=>exact Ev.pure
  |true=>exact Ev.bind (adz kb) (Ev.bind (apI ka _) Ev.pure)
 refine Ev.bind (Fe ka.pos).2 ?_;unfold CZ;cases Kl a with
 |false=>exact two
 |true=>
  simp only[jK,gA];refine Ev.bind (adz ka) (Ev.bind (apI kb _) ?_);cases (sv b).contains (qd a)with
  |true=>exact Ev.pure
  |false=>exact two
def apJ (n:jV):Int:=bif decide (n.mY<0)||(decide (100<n.mY)||(decide (n.Ck<0)||decide (2<n.Ck))) then 2
    else bif !(n.Ck==0)&& !(Kl n&&rgt n)then 1 else bif Xx n.target then 0 else 29
def azQ(n:jV):Int:=bif n.parts.all (fun s=>s==[]||RO s)then apJ n else 4
theorem ayv{n:jV}{lf rt nm:Nat->Option Bool}(h1:Ev lf (Kl n))(h2:Ev rt (rgt n))(h3:Ev nm (Xx n.target)):
 Ev (fun f=>bif decide (n.mY<0)then some 2 else bif decide (100<n.mY)then some 2 else bif decide (n.Ck<0)then some 2 else bif decide (2<n.Ck)then some 2 else
  bif n.Ck !=0 then(lf f).bind fun x=>bif x then(rt f).bind fun x=>bif x then(nm f).bind fun x=>bif x then some 0 else some 29 else some 1 else some 1
  else(nm f).bind fun x=>bif x then some 0 else some 29) (apJ n):=by
 have nme:Ev (fun f=>(nm f).bind fun x=>bif x then some (0:Int)else some 29) (bif Xx n.target then 0 else 29):=by
  refine Ev.bind h3 ?_
  grind [Ev.pure]
 unfold apJ;cases decide (n.mY<0)with
 |true=>exact Ev.pure
 |false=>
 cases decide (100<n.mY)with
 |true=>exact Ev.pure
 |false=>
 cases decide (n.Ck<0)with
 |true=>exact Ev.pure
 |false=>
 cases decide (2<n.Ck)with
 |true=>exact Ev.pure
 |false=>
 simp [bne];cases n.Ck==0 with
 |true=>grind
 |false=>
  refine Ev.bind h1 ?_;cases Kl n with
  |false=>exact Ev.pure
  |true=>
   refine Ev.bind h2 ?_
   grind [Ev.pure]
theorem aCx{s:Str}(h:s.length<=cap):s.length<Nq:=by grind
theorem aJR{s:Str}(h:s.length<=cap):s.length<=cap*4:=by omega
theorem ajA{p:W->Bool}{s:List W}{k:Nat}(h:k<s.length):(s.drop k).all p=(p s[k]&&(s.drop (k+1)).all p):=by
 grind [gx]
theorem aHO{n:jV}(h:Nsm n)(hp:0<n.parts.length):kZ (fun f m=>yb f m n.parts (n.parts.length:Int) 0 n) (azQ n):=by
 have hl:=h.len;simp only[cap]at hl
 have key:∀d i:Nat,i+d=n.parts.length->kZ (fun f m=>yb f m n.parts (n.parts.length:Int) (i:Int) n) (bif (n.parts.drop i).all (fun s=>s==[]||RO s)then apJ n else 4):=by
  intro d;induction d with
  |zero=>
   intro i hi;refine kZ.lp (fun n m=>by simp only[PO,A2,mB];exact rfl) ?_;have:decide ((i:Int)<(n.parts.length:Int))=false:=jN (by omega);simp only[this,jL,gz (show n.parts.length<=i by omega),ij,jK];exact kZ.P9 (ayv (Fe hp).1 (w9 hp h.len).1 (aFq _ (aJR h.target)))
  |succ d ih=>
   intro i hi;have me:i<n.parts.length:=by omega
   refine kZ.lp (fun n m=>by simp only[PO,A2,mB];exact rfl) ?_;have:decide ((i:Int)<(n.parts.length:Int))=true:=jM (by omega);simp only[this,jK];refine kZ.Eu me ?_;rw[ajA me];have next:=ih (i+1) (by omega)
   rw[<-kM (by omega)]at next
   cases n.parts[i]==[]with
   |true=>grind
   |false=>
    simp only[jL,gE];refine kZ.lQ (apF _ (aCx (h.aJP _ (gC me)))) ?_
    grind [kZ.pure]
 exact key n.parts.length 0 (by omega)
theorem aFs{n:jV}(h:Nsm n)(hp:0<n.parts.length):kZ (fun f m=>CQ f m 0 n) (azQ n):=by
 have hl:=h.len;simp only[cap]at hl
 have key:∀d i:Nat,i+d=n.parts.length->kZ (fun f m=>CQ f m (i:Int) n) (bif (n.parts.drop i).all (fun s=>s==[]||RO s)then apJ n else 4):=by
  intro d;induction d with
  |zero=>
   intro i hi;refine kZ.lp (fun n m=>by simp only[aMa,F7,mB];exact rfl) ?_;have:decide ((i:Int)<(n.parts.length:Int))=false:=jN (by omega);simp only[this,jL,gz (show n.parts.length<=i by omega),ij,jK];exact kZ.P9 (ayv (Fe hp).2 (w9 hp h.len).2 (auz _ (aJR h.target)))
  |succ d ih=>
   intro i hi;have me:i<n.parts.length:=by omega
   refine kZ.lp (fun n m=>by simp only[aMa,F7,mB];exact rfl) ?_;have:decide ((i:Int)<(n.parts.length:Int))=true:=jM (by omega);simp only[this,jK];refine kZ.Eu me ?_;rw[ajA me];have next:=ih (i+1) (by omega)
   rw[<-kM (by omega)]at next
   cases n.parts[i]==[]with
   |true=>grind
   |false=>
    simp only[jL,gE];refine kZ.Eu me ?_;refine kZ.lQ (ait _ (aCx (h.aJP _ (gC me)))) ?_
    grind [kZ.pure]
 exact key n.parts.length 0 (by omega)
theorem auB{l:List Str}{i:Nat}(h:0<i)(hi:i<l.length):aiu (l.drop (i-1))=((l[i-1]==[]&&l[i]==[])||aiu (l.drop i)):=by
 grind [gx,aiu]
theorem ayw(l:List Str)(i:Nat)(h:l.length<=i):aiu (l.drop (i-1))=false:=by
 match hd:l.drop (i-1)with
 |[]=>rfl
 |[x]=>rfl
 |x::y::r=>
  grind [gM]
def Uv(n:jV)(b:Bool)(i:Nat):Int:=bif aiu (n.parts.drop (i-1))||(!b&&(n.parts.drop i).all (· ==[]))then 3 else azQ n
theorem Nu{n:jV}{i:Nat}(hi:i<n.parts.length)(h:i=0\/(n.parts[i-1]==[]&&n.parts[i]==[])=false):
 Uv n b i=Uv n (b|| !(n.parts[i]==[])) (i+1):=by
 unfold Uv;rw[ajA hi]
 have:aiu (n.parts.drop (i-1))=aiu (n.parts.drop i):=by
  grind [auB]
 grind
theorem apK{n:jV}{i:Nat}(h0:0<i)(hi:i<n.parts.length)(h1:(n.parts[i-1]==[])=true)(h2:(n.parts[i]==[])=true):Uv n b i=3:=by
 grind [Uv,auB]
theorem apL{i:Nat}(h0:0<i)(h:i<=cap):IntKind.i64.wrap ((i:Int)-1)=((i-1:Nat):Int):=Xz h0 h
theorem akh{n:jV}(h1:0<n.parts.length)(h2:n.parts.length<=16):CY n=Uv n false 0:=by
 grind [CY,Uv,azQ,apJ]
theorem aCy{n:jV}(h:Nsm n):Ev (fun f=>Lu f n) (CY n):=by
 refine Ev.fn (fun n=>by simp only[Lu,kD,No,mB];exact rfl) ?_;have hl:=h.len;rw[aix,show decide ((16:Int)<(n.parts.length:Int))=decide (16<n.parts.length)from decide_eq_decide.2 (by omega)];by_cases h0:n.parts.length=0
 ·grind [CY,Ev.pure]
 by_cases h16:16<n.parts.length
 ·grind [CY,Ev.pure]
 have hp:0<n.parts.length:=by omega
 rw[jN h0,jN h16,akh hp (by omega)];simp only[jL]
 have key: ∀d i c:Nat,i+d=n.parts.length->c<=i->kZ (fun f m=>A4 f m (c:Int) n.parts (n.parts.length:Int) (i:Int) n) (Uv n (!decide (c=0)) i):=by
  intro d;induction d with
  |zero=>
   intro i c hi hc;refine kZ.lp (fun n m=>by simp only[PP,A3,mB];exact rfl) ?_;have:decide ((i:Int)<(n.parts.length:Int))=false:=jN (by omega);simp only[this,jL,aix]
   have e:Uv n (!decide (c=0)) i=bif decide (c=0)then 3 else azQ n:=by
    grind [Uv,ayw]
   rw[e];cases decide (c=0)with
   |true=>exact kZ.pure
   |false=>exact kZ.P9 (Ev.yn (F:=fun f m=>yb f m n.parts (n.parts.length:Int) 0 n) (aHO h hp))
  |succ d ih=>
   intro i c hi hc;have me:i<n.parts.length:=by omega
   refine kZ.lp (fun n m=>by simp only[PP,A3,mB];exact rfl) ?_;have:decide ((i:Int)<(n.parts.length:Int))=true:=jM (by omega);simp only[this,jK];refine kZ.Eu me ?_;cases hx:n.parts[i]==[]with
   |true=>
    simp only[jK,alv];by_cases h0:0<i
    ·rw[jM h0];simp only[jK];rw[apL h0 (by omega)];refine kZ.Eu (show i-1<n.parts.length by omega) ?_;cases hy:n.parts[i-1]==[]with
     |true=>grind [apK,kZ.pure]
     |false=>
      simp only[jL];rw[Nu me (.inr (by rw[hy];rfl)),hx,gK,hU,kM (by simp only[cap]at hl;omega)];exact ih (i+1) c (by omega) (by omega)
    ·rw[jN h0];simp only[jL];rw[Nu me (.inl (by omega)),hx,gK,hU,kM (by simp only[cap]at hl;omega)];exact ih (i+1) c (by omega) (by omega)
   |false=>
    simp only[jL];rw[Nu me (.inr (by rw[hx,Bool.and_false])),hx,gH,Bool.or_true,kM (by simp only[cap]at hl;omega),kM (by simp only[cap]at hl;omega)];have:=ih (i+1) (c+1) (by omega) (by omega)
    grind
 exact Ev.yn (F:=fun f m=>A4 f m 0 n.parts (n.parts.length:Int) 0 n) (key n.parts.length 0 0 (by omega) (gG _))
theorem azR{n:jV}(h:Nsm n):Ev (fun f=>Uk f n) (CY n):=by
 refine Ev.fn (fun n=>by simp only[Uk,kD,Vq,mB];exact rfl) ?_;have hl:=h.len;rw[aix,show decide ((16:Int)<(n.parts.length:Int))=decide (16<n.parts.length)from decide_eq_decide.2 (by omega)];by_cases h0:n.parts.length=0
 ·grind [CY,Ev.pure]
 by_cases h16:16<n.parts.length
 ·grind [CY,Ev.pure]
 have hp:0<n.parts.length:=by omega
 rw[jN h0,jN h16,akh hp (by omega)];simp only[jL]
 have key: ∀d i:Nat,∀b:Bool,i+d=n.parts.length->kZ (fun f m=>xH f m b (i:Int) n) (Uv n b i):=by
  intro d;induction d with
  |zero=>
   intro i b hi;refine kZ.lp (fun n m=>by simp only[aMb,F8,mB];exact rfl) ?_;have:decide ((i:Int)<(n.parts.length:Int))=false:=jN (by omega);simp only[this,jL]
   have e:Uv n b i=bif b then azQ n else 3:=by
    grind [Uv,ayw]
   rw[e];cases b with
   |false=>exact kZ.pure
   |true=>exact kZ.P9 (Ev.yn (F:=fun f m=>CQ f m 0 n) (aFs h hp))
  |succ d ih=>
   intro i b hi;have me:i<n.parts.length:=by omega
   refine kZ.lp (fun n m=>by simp only[aMb,F8,mB];exact rfl) ?_;have:decide ((i:Int)<(n.parts.length:Int))=true:=jM (by omega);simp only[this,jK,alv]
   have rest:∀b':Bool,b'=(b|| !(n.parts[i]==[]))->kZ (fun f m=>bif decide (0<i)then(sQ n.parts (i:Int)).bind fun x=>bif x==[] then(sQ n.parts (IntKind.i64.wrap ((i:Int)-1))).bind fun x=>bif x==[] then some 3 else xH f m b' (IntKind.i64.wrap ((i:Int)+1)) n else xH f m b' (IntKind.i64.wrap ((i:Int)+1)) n else xH f m b' (IntKind.i64.wrap ((i:Int)+1)) n) (Uv n b i):=by
    intro b' Gs;have next:=ih (i+1) b' (by omega)
    rw[<-kM (by simp only[cap]at hl;omega)]at next
    by_cases h0:0<i
    ·rw[jM h0];simp only[jK];refine kZ.Eu me ?_;cases hx:n.parts[i]==[]with
     |true=>
      simp only[jK];rw[apL h0 (by omega)];refine kZ.Eu (show i-1<n.parts.length by omega) ?_
      grind [apK,kZ.pure,Nu]
     |false=>grind [Nu]
    grind [Nu]
   cases b with
   |true=>grind
   |false=>
    simp only[jL];refine kZ.Eu me ?_
    grind
 exact Ev.yn (F:=fun f m=>xH f m false 0 n) (key n.parts.length 0 false (by omega))
theorem Nv{W:Type}(x s:Str)(v:W):∀es:List (Str×W),oa x (AF s v es)=bif x==s then some v else oa x es
 |[]=>by
  simp [AF,oa]
 |(k,u)::es=>by
  have ih:=Nv x s v es
  grind [AF,oa]
structure Idx(T:List jV)(sz:Int)(B C:List (Str×jV))(I:List (Str×Bool)):Prop where
 sz:sz=(T.length:Int)
 b:∀s,oa s B=vo T s false
 c:∀s,oa s C=vo T s true
 i:∀s,s≠[]->(oa s I).getD false=T.any (fun t=>(sv t).contains s)
theorem Idx.nil:Idx [] 0 [] [] []:=⟨rfl,fun _=>rfl,fun _=>rfl,fun _ _=>rfl⟩
def arE(l:List Str)(I:List (Str×Bool)):List (Str×Bool):=l.foldl (fun I s=>bif s==[] then I else AF s true I) I
theorem ajB:∀(l:List Str)(I:List (Str×Bool))(s:Str),s≠[]->(oa s (arE l I)).getD false=(l.contains s||(oa s I).getD false)
 |[],I,s,_=>rfl
 |x::l,I,s,hs=>by
  have ih:=ajB l (bif x==[] then I else AF x true I) s hs
  grind [arE,Nv]
theorem Zx(T:List jV)(n:jV)(s:Str)(c:Bool):vo (T++[n]) s c=(vo T s c).or (bif Kl n==c&&qd n==s then some n else none):=by
 grind [vo]
theorem auC(rest:List Str)(hl:rest.length<=cap)(sz:Int)(B C:List (Str×jV)):∀(d i:Nat)(I:List (Str×Bool)),i+d=rest.length->
 kZ (fun f m=>ug f m rest (rest.length:Int) (i:Int) sz B C I) (((IntKind.i64.wrap (sz+1),()),B,C,arE (rest.drop i) I,()),0,()):=by
 simp only[cap]at hl;intro d;induction d with
 |zero=>
  intro i I hi;refine kZ.lp (fun n m=>by simp only[JR,wY,yp];exact rfl) ?_;have:decide ((i:Int)<(rest.length:Int))=false:=jN (by omega);simp only[this,jL,gz (show rest.length<=i by omega)];exact kZ.pure
 |succ d ih=>
  intro i I hi;have me:i<rest.length:=by omega
  refine kZ.lp (fun n m=>by simp only[JR,wY,yp];exact rfl) ?_;have:decide ((i:Int)<(rest.length:Int))=true:=jM (by omega);simp only[this,jK];refine kZ.Eu me ?_;rw[kM (by omega),gx me];cases hx:rest[i]==[]with
  |true=>
   simp only[jK];have:=ih (i+1) I (by omega)
   grind [arE]
  |false=>
   simp only[jL];have:=ih (i+1) (AF rest[i] true I) (by omega)
   grind [arE]
abbrev aLg:=((Int×Unit)×((List (Str×jV))×((List (Str×jV))×((List (Str×Bool))×Unit))))×(Int×Unit)
theorem aCz(rest:List Str)(hl:rest.length<=cap)(hd:Str)(sz:Int)(B C:List (Str×jV))(I:List (Str×Bool))(n:jV)(h0:oa [] C=none):∀(d i:Nat),i+d=rest.length->
 kZ (fun f m=>w4 f m hd rest rest (rest.length:Int) (i:Int) sz B C I n) (bif (rest.drop i).any (fun s=>(oa s C).isSome)then(((sz,()),B,C,I,()),8,())else(((IntKind.i64.wrap (sz+1),()),B,AF hd n C,arE rest I,()),0,())):=by
 have hl':=hl;simp only[cap]at hl;intro d;induction d with
 |zero=>
  intro i hi;refine kZ.lp (fun n m=>by simp only[JS,wZ,yp];exact rfl) ?_;have:decide ((i:Int)<(rest.length:Int))=false:=jN (by omega);simp only[this,jL,gz (show rest.length<=i by omega),iw];have:=auC rest hl' sz B (AF hd n C) rest.length 0 I (by omega);exact kZ.P9 (Ev.yn (F:=fun f m=>ug f m rest (rest.length:Int) 0 sz B (AF hd n C) I) this)
 |succ d ih=>
  intro i hi;have me:i<rest.length:=by omega
  refine kZ.lp (fun n m=>by simp only[JS,wZ,yp];exact rfl) ?_;have:decide ((i:Int)<(rest.length:Int))=true:=jM (by omega);simp only[this,jK];refine kZ.Eu me ?_;rw[kM (by omega),gx me,ia];have next:=ih (i+1) (by omega)
  cases hf:oa rest[i] C with
  |none=>grind [oel]
  |some x=>
   grind [oel,kZ.pure]
theorem aCA(rest:List Str)(hl:rest.length<=cap)(hd:Str)(sz:Int)(B C:List (Str×jV))(I:List (Str×Bool))(n:jV)(h0:oa [] C=none):∀(d i:Nat),i+d=rest.length->
 kZ (fun f m=>w6 f m hd rest rest (rest.length:Int) (i:Int) sz B C I n) (bif (rest.drop i).any (fun s=>(oa s C).isSome)then(((sz,()),B,C,I,()),8,())else(((IntKind.i64.wrap (sz+1),()),AF hd n B,C,arE rest I,()),0,())):=by
 have hl':=hl;simp only[cap]at hl;intro d;induction d with
 |zero=>
  intro i hi;refine kZ.lp (fun n m=>by simp only[JT,w5,yp];exact rfl) ?_;have:decide ((i:Int)<(rest.length:Int))=false:=jN (by omega);simp only[this,jL,gz (show rest.length<=i by omega),iw];have:=auC rest hl' sz (AF hd n B) C rest.length 0 I (by omega);exact kZ.P9 (Ev.yn (F:=fun f m=>ug f m rest (rest.length:Int) 0 sz (AF hd n B) C I) this)
 |succ d ih=>
  intro i hi;have me:i<rest.length:=by omega
  refine kZ.lp (fun n m=>by simp only[JT,w5,yp];exact rfl) ?_;have:decide ((i:Int)<(rest.length:Int))=true:=jM (by omega);simp only[this,jK];refine kZ.Eu me ?_;rw[kM (by omega),gx me,ia];have next:=ih (i+1) (by omega)
  cases hf:oa rest[i] C with
  |none=>grind [oel]
  |some x=>
   grind [oel,kZ.pure]
theorem aki(xs:List Str)(s:Str)(hl:xs.length<=cap):Ev (fun n=>nZ n xs s) (xs.contains s):=by
 simp only[cap]at hl;refine Ev.fn (fun n=>by simp only[nZ,kD,Bp,mB];exact rfl) ?_
 have key:∀d i:Nat,i+d=xs.length->kZ (fun f m=>yR f m xs s (xs.length:Int) (i:Int)) (bif (xs.drop i).contains s then((i+(xs.drop i).idxOf s:Nat):Int)else-1):=by
  intro d;induction d with
  |zero=>
   intro i hi;refine kZ.lp (fun n m=>by simp only[HL,vN,mB];exact rfl) ?_
   grind [kZ.pure]
  |succ d ih=>
   intro i hi;have me:i<xs.length:=by omega
   refine kZ.lp (fun n m=>by simp only[HL,vN,mB];exact rfl) ?_;have:decide ((i:Int)<(xs.length:Int))=true:=jM (by omega);simp only[this,jK];refine kZ.Eu me ?_;rw[kM (by omega),gx me,gN,List.idxOf_cons];cases hx:s==xs[i]with
   |true=>
    grind [kZ.pure]
   |false=>
    have VO:(xs[i]==s)=false:=by grind
    simp only[jL,gE,VO]
    grind
 have h1:=key xs.length 0 (by omega);rw[gU]at h1
 have h2:Ev (fun n=>BP n xs s) (bif xs.contains s then((0+xs.idxOf s:Nat):Int)else-1):=by
  refine Ev.fn (fun n=>by simp only[BP,kD,EC,mB];exact rfl) ?_
  grind [Ev.yn]
 refine Ev.bind h2 ?_;cases xs.contains s with
 |true=>simp_all [Ev.pure]
 |false=>exact Ev.pure
theorem auD{T:List jV}{n:jV}:T.any (fun t=>MZ t n||CZ t n)=(T.any (fun t=>MZ t n)||(T.any (fun t=>Kl t&&(sv n).contains (qd t))||T.any (fun t=>Kl n&&(sv t).contains (qd n)))):=by
 induction T with
 |nil=>rfl
 |cons t T ih=>
  grind [CZ]
theorem auE{T:List jV}{n:jV}:T.any (fun t=>MZ t n)=(vo T (qd n) (Kl n)).isSome:=by
 grind [vo,MZ]
theorem auF{T:List jV}{n:jV}{C:List (Str×jV)}(hc:∀s,oa s C=vo T s true):(sv n).any (fun s=>(oa s C).isSome)=T.any (fun t=>Kl t&&(sv n).contains (qd t)):=by
 grind [vo]
theorem apM{n:jV}:sv n=bif Kl n then(n.parts.take n.parts.length).drop 2 else(n.parts.take n.parts.length).drop 1:=by
 grind [sv]
theorem Idx.aJS{T:List jV}{sz:Int}{B C:List (Str×jV)}{I:List (Str×Bool)}{n:jV}(X:Idx T sz B C I)(hT:T.length<=100)(hl:Kl n=true)(hf:vo T (qd n) true=none):
 Idx (T++[n]) (IntKind.i64.wrap (sz+1)) B (AF (qd n) n C) (arE (sv n) I):=by
 refine⟨?_,fun s=>?_,fun s=>?_,fun s hs=>?_⟩
 ·rw[X.sz,kM (by omega),gP,gV]
 ·rw[X.b,Zx,hl];cases vo T s false<;>rfl
 ·rw[Nv,X.c,Zx]
  grind
 ·rw[ajB _ _ _ hs,X.i s hs,List.any_append,ia,iw,hU,iE]
theorem Idx.aJT{T:List jV}{sz:Int}{B C:List (Str×jV)}{I:List (Str×Bool)}{n:jV}(X:Idx T sz B C I)(hT:T.length<=100)(hl:Kl n=false)(hf:vo T (qd n) false=none):
 Idx (T++[n]) (IntKind.i64.wrap (sz+1)) (AF (qd n) n B) C (arE (sv n) I):=by
 refine⟨?_,fun s=>?_,fun s=>?_,fun s hs=>?_⟩
 ·rw[X.sz,kM (by omega),gP,gV]
 ·rw[Nv,X.b,Zx]
  grind
 ·rw[X.c,Zx,hl];cases vo T s true<;>rfl
 ·rw[ajB _ _ _ hs,X.i s hs,List.any_append,ia,iw,hU,iE]
theorem aFt{T:List jV}{sz:Int}{B C:List (Str×jV)}{I:List (Str×Bool)}{n:jV}(g:TOk T)(X:Idx T sz B C I)(h:Nsm n):
 k8 (fun f=>DO f n sz B C I) (fun r=>r.2.1=abe T n/\(abe T n=0->Idx (T++[n]) r.1.1.1 r.1.2.1 r.1.2.2.1 r.1.2.2.2.1)):=by
 refine k8.fn (fun n=>by simp only[DO,kD,Gh,Al];exact rfl) ?_;refine k8.bind ((aCy h).Uu (Q:=(· =CY n)) rfl) fun x hx=>?_
 subst hx;cases hc:CY n==0 with
 |false=>
  simp only[bne,hc,gH,jK];have e:abe T n=CY n:=by unfold abe;rw[hc];rfl
  refine k8.pure ⟨e.symm,fun h0=>?_⟩
  grind
 |true=>
 simp only[bne,hc,gK,jL];have k:Ok n:=Ok.of (beq_iff_eq.1 hc);rw[show decide ((100:Int)<=sz)=decide (100<=T.length)from by rw[X.sz];exact decide_eq_decide.2 (by omega)];have hT:=g.len;cases aHP:decide (100<=T.length)with
 |true=>
  simp only[jK];have e:abe T n=6:=by unfold abe;rw[hc,aHP];rfl
  exact k8.pure ⟨e.symm,fun h0=>by rw[e]at h0;cases h0⟩
 |false=>
 simp only[jL];have ea:abe T n=bif CZ n n||T.any (fun t=>MZ t n||CZ t n)then 8 else 0:=by unfold abe;rw[hc,aHP];rfl
 have D5:(CZ n n||T.any (fun t=>MZ t n||CZ t n))=true->k8 (fun _:Nat=>some ((((sz,()),B,C,I,()),8,()):aLg)) (fun r=>r.2.1=abe T n/\(abe T n=0->Idx (T++[n]) r.1.1.1 r.1.2.1 r.1.2.2.1 r.1.2.2.2.1)):=fun hb=>
  k8.pure ⟨by rw[ea,hb];rfl,fun h0=>by rw[ea,hb]at h0;cases h0⟩
 have h0:oa [] C=none:=by
  rw[X.c];cases hf:vo T [] true with
  |none=>rfl
  |some m=>
   obtain⟨a,_,c⟩:=Gn hf;exact absurd c (g.ok a).als
 have hin:(sv n).length<=cap:=by
  have:=k.Nq
  grind [sv]
 refine k8.bind (P:=fun r=>r=bif Kl n then(PR.ok (((sz,()),B,C,I,()),qd n,sv n,()))else(PR.pn (((sz,()),B,C,I,()),qd n,sv n,()))) ?_ fun x hx=>?_
 ·refine k8.fn (fun n=>by simp only[FQ,kD,Dy,mC];exact rfl) ?_;refine k8.bind ((Fe k.pos).1.Uu (Q:=(· =Kl n)) rfl) fun x hx=>?_
  subst hx;cases hl:Kl n with
  |true=>
   have h2:=k.apG hl;simp only[jK];rw[aJQ (by omega),jM (show(2:Int)<=(n.parts.length:Int)/\(n.parts.length:Int)<=(n.parts.length:Int) by omega)];refine k8.pure ?_
   grind [anq,apM]
  |false=>
   have h2:=k.pos;simp only[jL];rw[aFr h2,jM (show(1:Int)<=(n.parts.length:Int)/\(n.parts.length:Int)<=(n.parts.length:Int) by omega)];refine k8.pure ?_
   grind [akg,apM]
 ·subst hx;cases hl:Kl n with
  |true=>
   simp only[jK,EZ]
   have eC:(CZ n n||T.any (fun t=>MZ t n||CZ t n))=((vo T (qd n) true).isSome||((sv n).contains (qd n)||(T.any (fun t=>(sv t).contains (qd n))||(sv n).any (fun s=>(oa s C).isSome)))):=by
    rw[auD,auE,auF X.c,hl]
    grind [CZ]
   rw[eC]at ea D5;rw[X.c];cases hf:vo T (qd n) true with
   |some m=>rw[hf]at D5;exact D5 rfl
   |none=>
    simp only[oel];refine k8.bind ((Fe k.pos).1.Uu (Q:=(· =Kl n)) rfl) fun x hx=>?_
    subst hx;rw[hl];simp only[jK];rw[X.i _ k.als];cases hi:T.any (fun t=>(sv t).contains (qd n))with
    |true=>
     grind
    |false=>
     simp only[jL];refine k8.bind ((aki _ _ hin).Uu (Q:=(· =(sv n).contains (qd n))) rfl) fun x hx=>?_
     subst hx;cases hcn:(sv n).contains (qd n)with
     |true=>
      grind
     |false=>
      simp only[jL];have:=aCz (sv n) hin (qd n) sz B C I n h0 (sv n).length 0 (by omega);rw[gU]at this;refine(Ev.yn (F:=fun f m=>w4 f m (qd n) (sv n) (sv n) ((sv n).length:Int) 0 sz B C I n) this).Uu ?_;rw[hf,hcn,hi]at ea;simp only[iG,gE]at ea;cases hr:(sv n).any (fun s=>(oa s C).isSome)with
      |true=>
       grind
      |false=>
       rw[hr]at ea;exact⟨ea.symm,fun _=>X.aJS hT hl hf⟩
  |false=>
   simp only[jL,EZ]
   have eC:(CZ n n||T.any (fun t=>MZ t n||CZ t n))=((vo T (qd n) false).isSome||(sv n).any (fun s=>(oa s C).isSome)):=by
    rw[auD,auE,auF X.c,hl]
    grind [CZ]
   rw[eC]at ea D5;rw[X.b];cases hf:vo T (qd n) false with
   |some m=>rw[hf]at D5;exact D5 rfl
   |none=>
    simp only[oel];refine k8.bind ((Fe k.pos).1.Uu (Q:=(· =Kl n)) rfl) fun x hx=>?_
    subst hx;rw[hl];simp only[jL];have:=aCA (sv n) hin (qd n) sz B C I n h0 (sv n).length 0 (by omega);rw[gU]at this;refine(Ev.yn (F:=fun f m=>w6 f m (qd n) (sv n) (sv n) ((sv n).length:Int) 0 sz B C I n) this).Uu ?_;rw[hf]at ea;simp only[iG,gE]at ea;cases hr:(sv n).any (fun s=>(oa s C).isSome)with
    |true=>
     grind
    |false=>
     rw[hr]at ea;exact⟨ea.symm,fun _=>X.aJT hT hl hf⟩
theorem aFu{T:List jV}{n:jV}(g:TOk T)(h:Nsm n):Ev (fun f=>adV f T n) (abe T n):=by
 refine Ev.fn (fun n=>by simp only[adV,kD,acR,mB];exact rfl) ?_;refine Ev.bind (azR h) ?_;unfold abe;cases hc:CY n==0 with
 |false=>grind [Ev.pure]
 |true=>
 simp only[bne,hc,gK,jL,jK];have k:Ok n:=Ok.of (beq_iff_eq.1 hc);rw[show decide ((100:Int)<=(T.length:Int))=decide (100<=T.length)from decide_eq_decide.2 (by omega)];have hT:=g.len;cases aHP:decide (100<=T.length)with
 |true=>exact Ev.pure
 |false=>
 simp only[jL];refine Ev.bind (auA k k) ?_;cases CZ n n with
 |true=>exact Ev.pure
 |false=>
 simp only[jL,gE]
 have key:∀d i:Nat,i+d=T.length->kZ (fun f m=>GH f m T (i:Int) n) (bif (T.drop i).any (fun t=>MZ t n||CZ t n)then 8 else 0):=by
  intro d;induction d with
  |zero=>
   intro i hi;refine kZ.lp (fun n m=>by simp only[acQ,Lt,mB];exact rfl) ?_
   grind [kZ.pure]
  |succ d ih=>
   intro i hi;have me:i<T.length:=by omega
   have kt:=g.ok (gC me);refine kZ.lp (fun n m=>by simp only[acQ,Lt,mB];exact rfl) ?_;have:decide ((i:Int)<(T.length:Int))=true:=jM (by omega);simp only[this,jK];refine kZ.Eu me ?_;have next:=ih (i+1) (by omega)
   rw[<-kM (by omega)]at next
   rw[gx me,ia]
   have aJK:kZ (fun f m=>(sQ T (i:Int)).bind fun x=>(CN f x n).bind fun x=>bif x then some 8 else GH f m T (IntKind.i64.wrap ((i:Int)+1)) n) (bif CZ T[i] n||(T.drop (i+1)).any (fun t=>MZ t n||CZ t n)then 8 else 0):=by
    refine kZ.Eu me (kZ.lQ (auA kt k) ?_);cases CZ T[i] n with
    |true=>exact kZ.pure
    |false=>exact next
   refine kZ.lQ (Fe kt.pos).2 (kZ.lQ (Fe k.pos).2 ?_);rw[show MZ T[i] n=(Kl T[i]==Kl n&&qd T[i]==qd n)from rfl];cases Kl T[i]==Kl n with
   |false=>grind
   |true=>
    simp only[jK,gA];refine kZ.Eu me (kZ.lQ (adz kt) (kZ.lQ (adz k) ?_));cases qd T[i]==qd n with
    |true=>exact kZ.pure
    |false=>grind
 exact Ev.yn (F:=fun f m=>GH f m T 0 n) (key T.length 0 (by omega))
theorem ajC{T:List jV}(hl:T.length<=cap)(h:∀n∈T,Nsm n):Ev (fun f=>JQ f T) (agR T):=by
 refine Ev.fn (fun n=>by simp only[JQ,kD,Vx,mB];exact rfl) ?_;simp only[cap]at hl
 have key:∀d i:Nat,i+d=T.length->TOk (T.take i)->kZ (fun f m=>Gg f m T (i:Int)) (akf (T.take i) (T.drop i)):=by
  intro d;induction d with
  |zero=>
   intro i hi g;refine kZ.lp (fun n m=>by simp only[Xa,Gf,mB];exact rfl) ?_;have:decide ((i:Int)<(T.length:Int))=false:=jN (by omega);simp only[this,jL,gz (show T.length<=i by omega)];exact kZ.pure
  |succ d ih=>
   intro i hi g;have me:i<T.length:=by omega
   refine kZ.lp (fun n m=>by simp only[Xa,Gf,mB];exact rfl) ?_;have:decide ((i:Int)<(T.length:Int))=true:=jM (by omega);simp only[this,jK];rw[jM (show(0:Int)<=(i:Int)/\(i:Int)<=(T.length:Int)/\(T.length:Int)<=(T.length:Int) by omega)];simp only[jK,gF];refine kZ.Eu me ?_;refine kZ.lQ (aFu g (h _ (gC me))) ?_;rw[gx me,akf];cases ha:abe (T.take i) T[i]==0 with
   |false=>grind [kZ.pure]
   |true=>
    simp only[bne,ha,gK,jL,gA];have g':=g.axb (beq_iff_eq.1 ha)
    grind [List.take_succ_eq_append_getElem,kM]
 have:=key T.length 0 (by omega) (by rw[hJ];exact TOk.nil);rw[hJ,gU]at this;exact Ev.yn (F:=fun f m=>Gg f m T 0) this
abbrev StP:=((List Syntax)×(Int×Unit))×((Int×Unit)×((List (Str×jV))×((List (Str×jV))×((List (Str×Bool))×Unit))))
def pos(L r:List Syntax):Int:=((L.length-r.length:Nat):Int)
theorem axe{L t r:List Syntax}(h:L=t++r):pos L r=(t.length:Int):=by
 grind [pos]
theorem arF(L:List Syntax):pos L []=(L.length:Int):=rfl
theorem ayx(L:List Syntax):pos L L=0:=by unfold pos;rw[Nat.sub_self];rfl
theorem Pl{L:List Syntax}{y:Syntax}{r:List Syntax}(h:y::r<:+L):decide ((L.length:Int)<=pos L (y::r))=false/\sQ L (pos L (y::r))=some y:=by
 obtain⟨t,rfl⟩:=h
 grind [axe,nA]
theorem aiy{L:List Syntax}{y:Syntax}{r:List Syntax}(h:y::r<:+L)(hL:L.length<=cap):IntKind.i64.wrap (pos L (y::r)+1)=pos L r:=by
 obtain⟨t,rfl⟩:=h;simp only[cap]at hL;rw[gP]at hL;rw[axe rfl,axe (t:=t++[y]) (by simp),kM (by omega),gP,gV]
theorem apN{L:List Syntax}{y:Syntax}{r:List Syntax}(h:y::r<:+L):r<:+L:=(ir y r).trans h
section prog
variable (L:List Syntax) (sz:Int) (B C:List (Str×jV)) (I:List (Str×Bool))
def psP(r:List Syntax):StP:=((L,pos L r,()),(sz,()),B,C,I,())
def aoQ:Out->PR (StP×(Syntax×(Int×Unit))) (StP×(Unit×Unit))
 |.D5 q=>.pn (psP L sz B C I q,(),())
 |.val x h q=>.ok (psP L sz B C I q,x,h,())
 |.ky _ _ q=>.pn (psP L sz B C I q,(),())
def aCB(n:jV)(start:Int):Out->PR (StP×(Syntax×Unit)) (StP×(Unit×Unit))
 |.D5 q=>.pn (psP L sz B C I q,(),())
 |.val _ _ q=>.pn (psP L sz B C I q,(),())
 |.ky l e q=>.ok (psP L sz B C I q,Zv n l start e,())
theorem Zy{r:List Syntax}(h:r<:+L):Ev (fun f=>vO f L (pos L r) sz B C I) (psP L sz B C I r,match adv r with|none=>([],false,())|some s=>(s,true,())):=by
 refine Ev.fn (fun n=>by simp only[vO,kD,Bo,mC];exact rfl) ?_
 match r,h with
 |[],h=>
  rw[arF,jM (gL _)];exact Ev.pure
 |y::r,h=>
  obtain⟨h1,h2⟩:=Pl h;rw[h1,h2];simp only[jL,gy];rw[show adv (y::r)=bif y.kind==17 then some y.text else none from rfl,bne];cases y.kind==17<;>exact Ev.pure
theorem aFv(n:jV)(ky:List Syntax)(hl:ky.length<=cap)(f t:Int)(r:List Syntax):∀(d i:Nat)(k:Int)(s:Str)(vE:List Syntax)(a b:Int),i+d=ky.length->
 kZ (fun g m=>u1 (kJ g) g m f t (ky.length:Int) (i:Int) L (pos L r) sz B C I ky k s vE a b) (.ok (psP L sz B C I r,ano (Syntax.mk k s 0 [] [] vE a b) (ky.drop i) f t,())):=by
 simp only[cap]at hl;intro d;induction d with
 |zero=>
  intro i k s vE a b hi;refine kZ.lp (fun n m=>by simp only[GV,u0,kV,yp];exact rfl) ?_;have:decide ((i:Int)<(ky.length:Int))=false:=jN (by omega);simp only[this,jL,gz (show ky.length<=i by omega)];exact kZ.pure
 |succ d ih=>
  intro i k s vE a b hi;have me:i<ky.length:=by omega
  refine kZ.lp (fun n m=>by simp only[GV,u0,kV,yp];exact rfl) ?_;have:decide ((i:Int)<(ky.length:Int))=true:=jM (by omega);simp only[this,jK];refine kZ.Eu me ?_;rw[kM (by omega),gx me];exact ih (i+1) 2 [] _ f t (by omega)
theorem aFw(n:jV)(ky:List Syntax)(hl:ky.length<=cap)(f t:Int)(r:List Syntax):∀(d i:Nat)(k:Int)(s:Str)(vE:List Syntax)(a b:Int),i+d=ky.length->
 kZ (fun g m=>u4 (kJ g) g m f t ky (ky.length:Int) (i:Int) L (pos L r) sz B C I k s vE a b) (.ok (psP L sz B C I r,ano (Syntax.mk k s 0 [] [] vE a b) (ky.drop i) f t,())):=by
 simp only[cap]at hl;intro d;induction d with
 |zero=>
  intro i k s vE a b hi;refine kZ.lp (fun n m=>by simp only[GW,u3,kV,yp];exact rfl) ?_;have:decide ((i:Int)<(ky.length:Int))=false:=jN (by omega);simp only[this,jL,gz (show ky.length<=i by omega)];exact kZ.pure
 |succ d ih=>
  intro i k s vE a b hi;have me:i<ky.length:=by omega
  refine kZ.lp (fun n m=>by simp only[GW,u3,kV,yp];exact rfl) ?_;have:decide ((i:Int)<(ky.length:Int))=true:=jM (by omega);simp only[this,jK];refine kZ.Eu me ?_;rw[kM (by omega),gx me];exact ih (i+1) 2 [] _ f t (by omega)
def PG:Cmd->Out->Prop
 |.mY m r,o=>Ev (fun f=>nQ f m L (pos L r) sz B C I) (aoQ L sz B C I o)
 |.first m r,o=>Ev (fun f=>mr f m L (pos L r) sz B C I) (aoQ L sz B C I o)
 |.loop m out has r,o=>kZ (fun f k=>qo (kJ f) f k m has L (pos L r) sz B C I out) (aoQ L sz B C I o)
 |.parts n ps i ky e r,o=>Ok n->∀(k9 j:Nat)(start:Int),i=k9+j->k9+j<=n.parts.length->ps=n.parts.drop i->ky.length<=i->
     kZ (fun f k=>xY (kJ f) f k (k9:Int) start e (n.parts.drop k9) ((n.parts.drop k9).length:Int) (j:Int) L (pos L r) sz B C I n ky) (aCB L sz B C I n start o)/\
     kZ (fun f k=>u5 (kJ f) f k (k9:Int) ky start e (n.parts.drop k9) ((n.parts.drop k9).length:Int) (j:Int) L (pos L r) sz B C I n) (aCB L sz B C I n start o)
variable {L} {sz} {B} {C} {I} {T:List jV}
theorem ajD{ky:List Syntax}(h:ky.length<17):decide ((ky.length+1)*120<=17592186044416)=true:=jM (by omega)
theorem NR{n:jV}(k:Ok n){k9:Nat}(hf:k9<=n.parts.length){ky:List Syntax}(ho:ky.length<=k9){r:List Syntax}{o:Out}(h:PG L sz B C I (.parts n (n.parts.drop k9) k9 ky 0 r) o)(start:Int):
 Ev (fun f=>oU f n (k9:Int) ky start L (pos L r) sz B C I) (aCB L sz B C I n start o):=by
 refine Ev.fn (fun n=>by simp only[YG,yV,kV,Al];exact rfl) ?_;rw[jM (show(0:Int)<=(k9:Int)/\(k9:Int)<=(n.parts.length:Int)/\(n.parts.length:Int)<=(n.parts.length:Int) by omega)];simp only[jK,gF,gX];exact Ev.yn (F:=fun f k=>u5 (kJ f) f k (k9:Int) ky start 0 (n.parts.drop k9) ((n.parts.drop k9).length:Int) 0 L (pos L r) sz B C I n) (h k k9 0 start (by omega) (by omega) rfl ho).2
theorem aiz{n:jV}{s:Str}{ps:List Str}{i k9:Nat}(hps:s::ps=n.parts.drop i)(hi:i=k9+j):
 ((j:Int)<((n.parts.drop k9).length:Int))/\sQ (n.parts.drop k9) (j:Int)=some s/\ps=n.parts.drop (i+1)/\i<n.parts.length:=by
 grind [gM,gx,nA]
theorem aiA {i k9:Nat}{n:jV}(hi:i=k9+j)(k:Ok n)(hle:k9+j<=n.parts.length):IntKind.i64.wrap ((k9:Int)+(j:Int))=((k9+j:Nat):Int):=by
 have:=k.few
 grind [lj]
theorem Nt.prog(g:TOk T)(X:Idx T sz B C I)(hL:L.length<=cap){c:Cmd}{o:Out}(h:Nt T c o):c.rest<:+L->PG L sz B C I c o:=by
 induction h with
 | @adw n i ky e r=>
   intro hr k k9 j start hi hle hps ho
   have hj:k9+j=n.parts.length:=by
    grind [gT]
   have he:decide ((j:Int)<((n.parts.drop k9).length:Int))=false:=jN (by rw[gB];omega);have hoc:ky.length<=cap:=by have:=k.Nq;omega
   constructor
   ·refine kZ.lp (fun n m=>by simp only[tS,qq,kV,yp];exact rfl) ?_;simp only[he,jL];have:=aFv L sz B C I n ky hoc start e r ky.length 0 0 n.target [] start e (by omega);exact kZ.P9 (Ev.yn (F:=fun f m=>u1 (kJ f) f m start e (ky.length:Int) 0 L (pos L r) sz B C I ky 0 n.target [] start e) this)
   ·refine kZ.lp (fun n m=>by simp only[tT,qt,kV,yp];exact rfl) ?_;simp only[he,jL];have:=aFw L sz B C I n ky hoc start e r ky.length 0 0 n.target [] start e (by omega);exact kZ.P9 (Ev.yn (F:=fun f m=>u4 (kJ f) f m start e ky (ky.length:Int) 0 L (pos L r) sz B C I 0 n.target [] start e) this)
 | @alu n ps i ky e r q h1 ih=>
   intro hr k k9 j start hi hle hps ho;obtain⟨me,hx,hd,hil⟩:=aiz hps hi;constructor
   ·refine kZ.lp (fun n m=>by simp only[tS,qq,kV,yp];exact rfl) ?_;rw[jM me];simp only[jK,hx,gy,beq_self_eq_true];rw[aiA hi k hle,<-hi];refine kZ.lQ (Zw k (i:=i) (by omega)) (kZ.lQ (ih hr) ?_);exact kZ.pure
   ·refine kZ.lp (fun n m=>by simp only[tT,qt,kV,yp];exact rfl) ?_;rw[jM me];simp only[jK,hx,gy,beq_self_eq_true];rw[aiA hi k hle,<-hi];refine kZ.lQ (Zw k (i:=i) (by omega)) (kZ.lQ (ih hr) ?_);exact kZ.pure
 | @Cj n ps i ky e r x h q o h1 h2 ih1 ih2=>
   intro hr k k9 j start hi hle hps ho;obtain⟨me,hx,hd,hil⟩:=aiz hps hi;have hq:q<:+L:=(h1.anp (o:=.val x h q)).trans hr;have next:=(ih2 hq k k9 (j+1) start (by omega) (by omega) hd (by grind)).1
   have hw:IntKind.i64.wrap ((j:Int)+1)=((j+1:Nat):Int):=kM (by have:=k.few;omega);constructor
   ·refine kZ.lp (fun n m=>by simp only[tS,qq,kV,yp];exact rfl) ?_;rw[jM me];simp only[jK,hx,gy,beq_self_eq_true];rw[aiA hi k hle,<-hi];refine kZ.lQ (Zw k (i:=i) (by omega)) (kZ.lQ (ih1 hr) ?_);simp only[aoQ,EZ,psP];rw[ajD (by have:=k.few;omega),hw];exact next
   ·refine kZ.lp (fun n m=>by simp only[tT,qt,kV,yp];exact rfl) ?_;rw[jM me];simp only[jK,hx,gy,beq_self_eq_true];rw[aiA hi k hle,<-hi];refine kZ.lQ (Zw k (i:=i) (by omega)) (kZ.lQ (ih1 hr) ?_);simp only[aoQ,EZ,psP];rw[ajD (by have:=k.few;omega),hw];exact next
 | @arB n s ps i ky e r hs hq=>
   intro hr k k9 j start hi hle hps ho;obtain⟨me,hx,hd,hil⟩:=aiz hps hi;have hs':(s==[])=false:=beq_eq_false_iff_ne.2 hs;constructor
   ·refine kZ.lp (fun n m=>by simp only[tS,qq,kV,yp];exact rfl) ?_;rw[jM me];simp only[jK,hx,gy,hs',jL];refine kZ.lQ (Zy L sz B C I hr) ?_;cases hy:adv r with
    |none=>exact kZ.pure
    |some t=>
     have:(t==s)=false:=beq_eq_false_iff_ne.2 fun e=>hq (by rw[hy,e])
     simp only[jK,this,jL];exact kZ.pure
   ·refine kZ.lp (fun n m=>by simp only[tT,qt,kV,yp];exact rfl) ?_;rw[jM me];simp only[jK,hx,gy,hs',jL];refine kZ.lQ (Zy L sz B C I hr) ?_;cases hy:adv r with
    |none=>exact kZ.pure
    |some t=>
     have:(t==s)=false:=beq_eq_false_iff_ne.2 fun e=>hq (by rw[hy,e])
     simp only[jK,this,jL];exact kZ.pure
 | @tX n s ps i ky e y r o hs hk ht h2 ih=>
   intro hr k k9 j start hi hle hps ho;obtain⟨me,hx,hd,hil⟩:=aiz hps hi;have hs':(s==[])=false:=beq_eq_false_iff_ne.2 hs;simp only[Cmd.rest]at hr ih;obtain⟨aGi,aGj⟩:=ih (apN hr) k k9 (j+1) start (by omega) (by omega) hd (by omega);have hw:IntKind.i64.wrap ((j:Int)+1)=((j+1:Nat):Int):=kM (by have:=k.few;omega);have hp:=aiy hr hL;constructor
   ·refine kZ.lp (fun n m=>by simp only[tS,qq,kV,yp];exact rfl) ?_;rw[jM me];simp only[jK,hx,gy,hs',jL];refine kZ.lQ (Zy L sz B C I hr) ?_
    simp_all [arC,psP,Pl]
   ·refine kZ.lp (fun n m=>by simp only[tT,qt,kV,yp];exact rfl) ?_;rw[jM me];simp only[jK,hx,gy,hs',jL];refine kZ.lQ (Zy L sz B C I hr) ?_
    simp_all [arC,psP,Pl]
 | @adx m=>
   intro hr;show Ev (fun f=>mr f m L (pos L []) sz B C I) _;refine Ev.fn (fun n=>by simp only[tU,pP,kV,Al];exact rfl) ?_;rw[arF,jM (gL _)];exact Ev.pure
 | @Xy m x r hx=>
   intro hr;show Ev (fun f=>mr f m L (pos L (x::r)) sz B C I) _;refine Ev.fn (fun n=>by simp only[tU,pP,kV,Al];exact rfl) ?_;obtain⟨h1,h2⟩:=Pl hr;rw[h1,h2,aiy hr hL];have:(x.kind !=17)=true:=by grind
   simp only[jL,gy,this,jK];exact Ev.pure
 | @ad2 m x r hx hb=>
   intro hr;show Ev (fun f=>mr f m L (pos L (x::r)) sz B C I) _;refine Ev.fn (fun n=>by simp only[tU,pP,kV,Al];exact rfl) ?_;obtain⟨h1,h2⟩:=Pl hr;rw[h1,h2];have:(x.kind !=17)=false:=by rw[bne,beq_iff_eq.2 hx];rfl
   simp only[jL,gy,this,X.b];unfold auw at hb;cases hf:vo T x.text false with
   |none=>exact Ev.pure
   |some n=>
    rw[hf]at hb;have kn:=g.ok (Gn hf).1;simp only[oel];cases hc:rgt n&&decide (n.mY<m)with
    |false=>simp only[hc]at hb;cases hb
    |true=>
     rw[gD]at hc;refine Ev.bind (w9 kn.pos kn.Nq).1 ?_;rw[hc.1,hc.2];exact Ev.pure
 | @aiv m x r n q hx hb h1 ih=>
   intro hr;show Ev (fun f=>mr f m L (pos L (x::r)) sz B C I) _;refine Ev.fn (fun n=>by simp only[tU,pP,kV,Al];exact rfl) ?_;obtain⟨e1,e2⟩:=Pl hr;rw[e1,e2];have:(x.kind !=17)=false:=by rw[bne,beq_iff_eq.2 hx];rfl
   obtain⟨hn,hl,hh,axf⟩:=Qs hb;have kn:=g.ok hn;have hf:vo T x.text false=some n:=by grind [Kf]
   simp only[jL,gy,this,X.b,hf,oel];have qz:=NR kn (gJ _) (gG 0) (ky:=[]) (ih hr) x.k9;refine Ev.bind (w9 kn.pos kn.Nq).1 ?_;cases hrg:rgt n with
   |true=>
    have:decide (n.mY<m)=false:=jN (by have:=axf hrg;omega);simp only[jK,this,jL];refine Ev.bind (w9 kn.pos kn.Nq).1 ?_;rw[hrg];exact Ev.bind qz Ev.pure
   |false=>
    simp only[jL];refine Ev.bind (w9 kn.pos kn.Nq).1 ?_;rw[hrg];exact Ev.bind qz Ev.pure
 | @first m x r n l e q hx hb h1 ih=>
   intro hr;show Ev (fun f=>mr f m L (pos L (x::r)) sz B C I) _;refine Ev.fn (fun n=>by simp only[tU,pP,kV,Al];exact rfl) ?_;obtain⟨e1,e2⟩:=Pl hr;rw[e1,e2];have:(x.kind !=17)=false:=by rw[bne,beq_iff_eq.2 hx];rfl
   obtain⟨hn,hl,hh,axf⟩:=Qs hb;have kn:=g.ok hn;have hf:vo T x.text false=some n:=by grind [Kf]
   simp only[jL,gy,this,X.b,hf,oel];have qz:=NR kn (gJ _) (gG 0) (ky:=[]) (ih hr) x.k9;refine Ev.bind (w9 kn.pos kn.Nq).1 ?_;have ho:axc n=bif rgt n then n.mY else 101:=rfl
   cases hrg:rgt n with
   |true=>
    rw[hrg]at ho;have:decide (n.mY<m)=false:=jN (by have:=axf hrg;omega);simp only[jK,this,jL];refine Ev.bind (w9 kn.pos kn.Nq).1 ?_;rw[hrg];refine Ev.bind qz ?_
    grind [aCB,aoQ,EZ,Ev.pure]
   |false=>
    rw[hrg]at ho;simp only[jL];refine Ev.bind (w9 kn.pos kn.Nq).1 ?_;rw[hrg];refine Ev.bind qz ?_
    grind [aCB,aoQ,EZ,Ev.pure]
 | @stop m out has r hg=>
   intro hr;show kZ (fun f k=>qo (kJ f) f k m has L (pos L r) sz B C I out) _;refine kZ.lp (fun n m=>by simp only[At,s4,kV,yp];exact rfl) ?_;refine kZ.lQ (Zy L sz B C I hr) ?_;unfold auv at hg;cases hs:adv r with
   |none=>exact kZ.pure
   |some s=>
    rw[hs]at hg;simp only at hg;simp only[jK,psP,X.c];cases hf:vo T s true with
    |none=>exact kZ.pure
    |some n=>
     rw[hf]at hg;have kn:=g.ok (Gn hf).1;simp only[oel];cases h1:decide (n.mY<m)with
     |true=>exact kZ.pure
     |false=>
      simp only[jL];refine kZ.lQ (Zw kn (i:=0) kn.pos) ?_;cases h2:decide (has<RR n 0)with
      |true=>exact kZ.pure
      |false=>simp [h1,h2]at hg
 | @ayu m out has r n q hg h1 ih=>
   intro hr;show kZ (fun f k=>qo (kJ f) f k m has L (pos L r) sz B C I out) _;refine kZ.lp (fun n m=>by simp only[At,s4,kV,yp];exact rfl) ?_;refine kZ.lQ (Zy L sz B C I hr) ?_;obtain⟨hn,hl,hs,hm,hh⟩:=Qt hg;have kn:=g.ok hn;have hf:vo T (qd n) true=some n:=by rw[<-hl];exact Kf g hn
   have qz:=NR kn kn.pos (gG 1) (ky:=[out]) (ih hr) out.k9;rw[hs];simp only[jK,psP,X.c,hf,oel];rw[jN (show ¬ n.mY<m by omega)];simp only[jL];refine kZ.lQ (Zw kn (i:=0) kn.pos) ?_;rw[jN (show ¬ has<RR n 0 by omega)];exact kZ.lQ qz kZ.pure
 | @go m out has r n l e q o hg h1 h2 ih1 ih2=>
   intro hr;show kZ (fun f k=>qo (kJ f) f k m has L (pos L r) sz B C I out) _;refine kZ.lp (fun n m=>by simp only[At,s4,kV,yp];exact rfl) ?_;refine kZ.lQ (Zy L sz B C I hr) ?_;obtain⟨hn,hl,hs,hm,hh⟩:=Qt hg;have kn:=g.ok hn;have hf:vo T (qd n) true=some n:=by rw[<-hl];exact Kf g hn
   have qz:=NR kn kn.pos (gG 1) (ky:=[out]) (ih1 hr) out.k9;rw[hs];simp only[jK,psP,X.c,hf,oel];rw[jN (show ¬ n.mY<m by omega)];simp only[jL];refine kZ.lQ (Zw kn (i:=0) kn.pos) ?_;rw[jN (show ¬ has<RR n 0 by omega)];refine kZ.lQ qz ?_;exact ih2 ((h1.anp (o:=.ky l e q)).trans hr)
 | @ady m r q h1 ih=>
   intro hr;show Ev (fun f=>nQ f m L (pos L r) sz B C I) _;refine Ev.fn (fun n=>by simp only[K9,vT,kV,Al];exact rfl) ?_;exact Ev.bind (ih hr) Ev.pure
 | @mY m r x h q o h1 h2 ih1 ih2=>
   intro hr;show Ev (fun f=>nQ f m L (pos L r) sz B C I) _;refine Ev.fn (fun n=>by simp only[K9,vT,kV,Al];exact rfl) ?_;refine Ev.bind (ih1 hr) ?_;exact Ev.yn (F:=fun f k=>qo (kJ f) f k m h L (pos L q) sz B C I x) (ih2 ((h1.anp (o:=.val x h q)).trans hr))
end prog
section ref
variable (T:List jV) (L:List Syntax)
def L5(r:List Syntax)(b:Bool):kj:=⟨T,L,pos L r,b⟩
theorem arG(r:List Syntax)(b:Bool):(L5 T L r b).D5=b:=rfl
theorem aCC(b:Bool):decide (((L5 T L [] b).l.length:Int)<=(L5 T L [] b).nE)=true:=jM (gL _)
theorem apO{y:Syntax}{r:List Syntax}(h:y::r<:+L):decide (((L5 T L (y::r) b).l.length:Int)<=(L5 T L (y::r) b).nE)=false/\sQ (L5 T L (y::r) b).l (L5 T L (y::r) b).nE=some y:=Pl h
theorem aFx{y:Syntax}{r:List Syntax}(h:y::r<:+L)(hL:L.length<=cap):IntKind.i64.wrap ((L5 T L (y::r) b).nE+1)=pos L r:=aiy h hL
def QE(o:Out)(z:(kj×Unit)×(Syntax×(Int×Unit))):Prop:=
 match o with
 |.D5 q=>z.1.1=L5 T L q true
 |.val x h q=>z=((L5 T L q false,()),x,h,())
 |.ky _ _ _=>False
def QR(n:jV)(start:Int)(o:Out)(z:((kj×Unit)×Unit)×(Syntax×Unit)):Prop:=
 match o with
 |.D5 q=>z.1.1.1=L5 T L q true
 |.val _ _ _=>False
 |.ky l e q=>z=(((L5 T L q false,()),()),Zv n l start e,())
variable {T} {L}
theorem alw{n:jV}{s:Str}{ps:List Str}{i:Nat}(hps:s::ps=n.parts.drop i):decide ((i:Int)<(n.parts.length:Int))=true/\sQ n.parts (i:Int)=some s/\ps=n.parts.drop (i+1)/\i<n.parts.length:=by
 obtain⟨h1,h2,h3,h4⟩:=aiz (n:=n) (k9:=0) (j:=i) hps (by omega)
 grind
theorem Ev.Pm{S R:Type}{F:Nat->Option S}{x:S}{G:Nat->Nat->S->Option R}{Q:R->Prop}(h:Ev F x)(hg:kF (fun n m=>G n m x) Q):kF (fun n m=>(F n).bind (G n m)) Q:=
 kF.lQ (h.Uu (Q:=(· =x)) rfl) fun y hy=>by subst hy;exact hg
theorem Ev.auG{S R:Type}{F:Nat->Option S}{x:S}{G:Nat->S->Option R}{Q:R->Prop}(h:Ev F x)(hg:k8 (fun n=>G n x) Q):k8 (fun n=>(F n).bind (G n)) Q:=
 k8.bind (h.Uu (Q:=(· =x)) rfl) fun y hy=>by subst hy;exact hg
end ref
def aCD(T:List jV)(b:Bool)(r:PR (Unit×Unit) (((Int×Unit)×((List (Str×jV))×((List (Str×jV))×((List (Str×Bool))×Unit))))×Unit)):Prop:=
 (b=true/\∃sz B C I,r=.pn (((sz,()),B,C,I,()),())/\Idx T sz B C I)\/(b=false/\r=.ok ((),()))
theorem apP{T:List jV}(hl:T.length<=cap)(h:∀n∈T,Nsm n):
 k8 (fun f=>GL f T) (aCD T (agR T)):=by
 refine k8.fn (fun n=>by simp only[GL,kD,I9,mC];exact rfl) ?_;simp only[cap]at hl
 have aHn:Ev (fun f=>E6 f) (((0,()),[],[],[],()),()):=by
  refine Ev.fn (fun n=>by simp only[E6,kD,Hi,mC];exact rfl) ?_;exact Ev.pure
 refine aHn.auG ?_
 have key:∀(d i:Nat)(sz:Int)(B C:List (Str×jV))(I:List (Str×Bool)),i+d=T.length->TOk (T.take i)->Idx (T.take i) sz B C I->
  kF (fun f m=>yE f m T (T.length:Int) (i:Int) sz B C I) (aCD T (akf (T.take i) (T.drop i))):=by
  intro d;induction d with
  |zero=>
   intro i sz B C I hi g X;refine kF.lp (fun n m=>by simp only[MU,yD,mB];exact rfl) ?_;have:decide ((i:Int)<(T.length:Int))=false:=jN (by omega);simp only[this,jL,gz (show T.length<=i by omega)];rw[List.take_of_length_le (by omega)]at X;exact kF.pure (.inl ⟨by first|rfl|trivial,sz,B,C,I,rfl,X⟩)
  |succ d ih=>
   intro i sz B C I hi g X;have me:i<T.length:=by omega
   refine kF.lp (fun n m=>by simp only[MU,yD,mB];exact rfl) ?_;have:decide ((i:Int)<(T.length:Int))=true:=jM (by omega);simp only[this,jK];refine kF.Eu me ?_;refine kF.lQ (aFt g X (h _ (gC me))) fun r hr=>?_
   obtain⟨h1,h2⟩:=hr;rw[h1,gx me,akf];cases ha:abe (T.take i) T[i]==0 with
   |false=>simp only[bne,ha,gH,jK,ik];exact kF.pure (.inr ⟨rfl,rfl⟩)
   |true=>
    simp only[bne,ha,gK,jL,gA];have h0:=beq_iff_eq.1 ha;have g':=g.axb h0;have X':=h2 h0;have e:T.take i++[T[i]]=T.take (i+1):=by simp_all
    grind [kM]
 have:=key T.length 0 0 [] [] [] (by omega) (by rw[hJ];exact TOk.nil) (by rw[hJ];exact Idx.nil);rw[hJ,gU]at this;exact k8.yn (F:=fun f m=>yE f m T (T.length:Int) 0 0 [] [] []) this
def zS:Syntax:=.mk 0 [] 0 [] [] [] 0 0
def pT(L:List Syntax):Out->Syntax×Int×Int
 |.D5 q=>(zS,pos L q,4)
 |.val x _ q=>bif q.isEmpty then(x,0,0)else(zS,pos L q,4)
 |.ky _ _ _=>(zS,0,0)
theorem axg{T:List jV}{L:List Syntax}(hl:T.length<=cap)(h:∀n∈T,Nsm n)(hL:L.length<=cap)(ht:agR T=true)(hb: ¬ 4096<L.length){o:Out}(ho:Nt T (.mY 0 L) o):
 Ev (fun f=>wi f T L) (pT L o):=by
 obtain⟨ri,hri,evi⟩:=apP hl h;have evt:=ajC hl h;have aCE:decide ((4096:Int)<(L.length:Int))=decide (4096<L.length):=decide_eq_decide.2 (by omega);have g:=TOk.of ht;rcases hri with⟨_,sz,B,C,I,rfl,X⟩|⟨ht',rfl⟩
 ·rw[ht]at evt;refine Ev.fn (fun n=>by simp only[wi,kD,Np,yp];exact rfl) ?_;refine Ev.bind evi ?_;simp only[EZ,aCE,jN hb,jL];have hp:Ev (fun f=>nQ f 0 L (pos L L) sz B C I) (aoQ L sz B C I o):=Nt.prog g X hL ho (gQ _);rw[ayx]at hp;refine Ev.bind hp ?_
  have qp:∀(x:Syntax)(q:List Syntax),Ev (fun f=>(wv f () x 0 0 L (pos L q) sz B C I).bind fun x=>some (x.fst.snd.fst.fst,x.fst.snd.snd.fst.fst,x.fst.snd.snd.snd.fst.fst)) (zS,pos L q,4):=by
   intro x q;refine Ev.bind (x:=(((),(zS,()),(pos L q,()),(4,()),(L,pos L q,()),(sz,()),B,C,I,()),())) ?_ Ev.pure;refine Ev.fn (fun n=>by simp only[wv,kD,EE,mB];exact rfl) ?_;exact Ev.pure
  rcases Qn ho rfl with⟨q,rfl⟩|⟨x,hh,q,rfl⟩
  ·simp only[aoQ,EZ,psP];exact qp _ _
  ·simp only[aoQ,EZ,psP];have hs:q<:+L:=ho.anp (o:=.val x hh q)
   match q,hs with
   |[],hs=>
    rw[arF,jN (il _)];simp only[jL];refine Ev.bind (x:=(((),(x,()),(0,()),(0,()),(L,(L.length:Int),()),(sz,()),B,C,I,()),())) ?_ Ev.pure;refine Ev.fn (fun n=>by simp only[yw,kD,ED,mB];exact rfl) ?_;exact Ev.pure
   |y::q,hs=>
    have:=(Pl hs).1;rw[jM (show pos L (y::q)<(L.length:Int) by grind)];exact qp _ _
 ·rw[ht]at ht';cases ht'
def lim:Nat:=9223372036854775807
theorem aHQ(xs:List W)(ys:List O):((xs.length:Int) !=(ys.length:Int))=(xs.length !=ys.length):=by
 grind
theorem agS(a b:List Str)(hk:a.length<lim):Ev (fun n=>IB n a b) (eqb a b):=by
 refine Ev.fn (fun n=>by simp only[IB,kD,KW,mB];exact rfl) ?_;by_cases hl:a.length=b.length
 ·have e:((a.length:Int) !=(b.length:Int))=false:=by rw[aHQ,hl];simp
  simp only[e,jL];refine Ev.yn (F:=fun n m=>zF n m a b 0) ?_;refine kZ.P8 (L:=fun n m i=>zF n m a b i) a b hl ?_ ?_
  ·intro i hi hj r hr;refine kZ.lp (fun n m=>by simp only[Oh,zE,mB];exact rfl) ?_;simp only[hi,iv,decide_true,jK];rw[kM (by unfold lim at hk;omega),aFi];exact kZ.Eu hi (kZ.Eu hj (kZ.andThen hr))
  ·refine kZ.lp (fun n m=>by simp only[Oh,zE,mB];exact rfl) ?_
   grind [kZ.pure]
 grind [aFh,Ev.pure]
inductive Rs(W:Type) where
 |ok (x:W) (j:Nat)
 |er (e nE:Int)
def Rs.bind:Rs W->(W->Nat->Rs O)->Rs O
 |.ok x j,f=>f x j
 |.er e a,_=>.er e a
structure nS where
 len:Nat
 K:Nat->Int×Str
 F:Nat->Int
 E:Nat->Int
 isS:Str->Bool
 np:List Syntax->Syntax×Int×Int
def Zz:Syntax:=.mk 0 [] 0 [] [] [] 0 0
def axh(s:Str):Bool:=s.contains 46
def VK(s:Str):Int:=s.foldl (fun n c=>10*n+((c.toNat:Int)-48)) 0
namespace nS
section
variable (S:nS)
def nx(i:Nat):Nat:=if i+1<S.len then i+1 else i
def is(k:Int)(s:Str)(i:Nat):Bool:=(S.K i).1==k&&(S.K i).2==s
def tX(s:Str)(i:Nat):Bool:=S.is 2 s i
def key(s:Str)(i:Nat):Bool:=S.is 3 s i
def D5(i:Nat):Rs W:=.er 4 (S.F i)
def abf(i:Nat):Rs W:=.er 7 (S.F i)
def take(s:Str)(i:Nat):Rs Unit:=bif S.tX s i||S.key s i then .ok () (S.nx i)else S.D5 i
def simple(i:Nat):Bool:=(S.K i).1==0&& !axh (S.K i).2
def G7(i:Nat):Bool:=S.simple i||S.tX [95] i
def var(i:Nat):Rs Str:=bif S.G7 i then .ok (S.K i).2 (S.nx i)else S.D5 i
def OX:Nat->List Str->Nat->Rs (List Str)
 |0,out,i=>bif S.G7 i then S.abf i else .ok out i
 |m+1,out,i=>bif S.G7 i then OX m (out++[(S.K i).2]) (S.nx i)else .ok out i
def vars(i:Nat):Rs (List Str):=(S.var i).bind fun s j=>S.OX 199 [s] j
def RS(i:Nat):Rs Str:=bif S.simple i then .ok (S.K i).2 (S.nx i)else S.D5 i
def name(i:Nat):Rs Str:=bif (S.K i).1==0 then .ok (S.K i).2 (S.nx i)else S.D5 i
def num(i:Nat):Rs Int:=bif (S.K i).1==1 then .ok (VK (S.K i).2) (S.nx i)else S.D5 i
def listed{W:Type}(one:Nat->Rs (List W)):Nat->List W->Nat->Rs (List W)
 |0,_,i=>S.abf i
 |m+1,out,i=>(one i).bind fun l j=>bif S.tX [44] j then listed one m (out++l) (S.nx j)else .ok (out++l) j
def plus(out:List ko)(i:Nat):Rs (List ko):=
 bif S.tX [43] i then(S.num (S.nx i)).bind fun n j=>bif out.all (fun a=>decide (a.plus+n<=999999))then .ok (out.map fun a=>{name:=a.name,plus:=a.plus+n}) j else .er 5 (S.F (S.nx i))
 else .ok out i
def nU:Nat->Nat->Rs (List ko)
 |0,i=>S.D5 i
 |f+1,i=>(bif (S.K i).1==1 then(S.num i).bind fun n j=>.ok [{name:=[],plus:=n}] j
   else bif S.is 0 [109,97,120] i&&(decide (i+1<S.len)&&S.tX [40] (i+1))then(S.listed (nU f) 200 [] (S.nx (S.nx i))).bind fun l j=>(S.take [41] j).bind fun _ k=>.ok l k
   else(S.RS i).bind fun s j=>.ok [{name:=s,plus:=0}] j).bind S.plus
def mY(i:Nat):Rs j7:=bif S.tX [95] i then .ok {Cj:=true,nU:=[]} (S.nx i)else(S.nU S.len i).bind fun l j=>.ok {Cj:=false,nU:=l} j
def one(i:Nat):Rs j7:=
 bif (S.K i).1==1 then(S.num i).bind fun n j=>.ok {Cj:=false,nU:=[{name:=[],plus:=n}]} j
 else bif S.simple i then .ok {Cj:=false,nU:=[{name:=(S.K i).2,plus:=0}]} (S.nx i)
 else bif S.tX [40] i then(S.mY (S.nx i)).bind fun l j=>(S.take [41] j).bind fun _ k=>.ok l k
 else .ok {Cj:=true,nU:=[]} (bif S.tX [95] i then S.nx i else i)
def sW(i:Nat):Rs (List j7):=
 bif S.tX [46,123] i then(S.listed (fun i=>(S.mY i).bind fun l j=>.ok [l] j) 200 [] (S.nx i)).bind fun l j=>(S.take [125] j).bind fun _ k=>.ok l k
 else .ok [] i
def Pn(i:Nat):Bool:=
 (S.K i).1==0||(S.K i).1==1||S.tX [40] i||S.tX [40,41] i||S.tX [95] i||S.tX [64] i||S.key [80,114,111,112] i||S.key [84,121,112,101] i||S.key [98,121] i
def adA(i:Nat):Bool:=(S.K i).1==2&&(!((S.K i).2==[95])&&S.isS (S.K i).2)
def XA(kind num:Int)(l:List kg)(body:Syntax)(k9:Int):Syntax:=l.foldr (fun b body=>.mk kind b.name num [] [] [b.t,body] k9 body.to) body
def L6(l:List Str)(t:Syntax):List kg:=l.map fun s=>{name:=s,t}
def wr:Nat->List Str->Nat->List Str
 |0,_,_=>[]
 |f+1,out,i=>bif S.tX [58] i then out else bif S.G7 i then wr f (out++[(S.K i).2]) (i+1)else []
def zi(i:Nat):List Str:=bif S.tX [40] i then S.wr (S.len-(i+1)) [] (i+1)else []
def Cj(j:Nat):Syntax:=.mk 1 [] 0 [] [] [] (S.E j) (S.E j)
section
variable (ex ta:Nat->Rs Syntax)
def alts:Nat->Syntax->Nat->Rs Syntax
 |0,x,i=>bif S.tX [60,124,62] i then S.abf (S.nx i)else .ok x i
 |m+1,x,i=>bif S.tX [60,124,62] i then(ta (S.nx i)).bind fun y j=>alts m (.mk 15 [60,124,62] 0 [] [] [x,y] x.k9 y.to) j else .ok x i
def alt(i:Nat):Rs Syntax:=(ta i).bind fun x j=>S.alts ta 199 x j
def aaf:Nat->List Syntax->Nat->Rs (List Syntax)
 |0,out,i=>bif S.tX [125] i then .ok out i else S.abf i
 |m+1,out,i=>bif S.tX [125] i then .ok out i else(S.alt ta i).bind fun x j=>bif S.tX [59] j then aaf m (out++[x]) (S.nx j)else .ok (out++[x]) j
def aHR(i:Nat):Rs (List Syntax):=S.aaf ta 200 [] i
def block(i:Nat):Rs (List Syntax):=(S.take [123] i).bind fun _ j=>(S.aHR ta j).bind fun l k=>(S.take [125] k).bind fun _ q=>.ok l q
def fill(i:Nat):Rs Syntax:=
 bif (S.K i).1==0 then(S.sW (S.nx i)).bind fun l j=>.ok (.mk 0 (S.K i).2 0 [] l [] (S.F i) 0) j
 else bif S.tX [64] i then(S.name (S.nx i)).bind fun s j=>(S.sW j).bind fun l k=>.ok (.mk 0 s 1 [] l [] (S.F i) 0) k
 else bif S.tX [95] i then .ok (.mk 1 [] 0 [] [] [] (S.F i) 0) (S.nx i)
 else bif (S.K i).1==1 then(S.num i).bind fun n j=>.ok (.mk 12 [] n [] [] [] (S.F i) 0) j
 else bif S.key [80,114,111,112] i then .ok (.mk 10 [] 0 [] [] [] (S.F i) 0) (S.nx i)
 else bif S.key [84,121,112,101] i then(S.one (S.nx i)).bind fun l j=>.ok (.mk 11 [] 0 [] [l] [] (S.F i) 0) j
 else bif S.tX [40,41] i then .ok (.mk 16 [] 0 [] [] [] (S.F i) 0) (S.nx i)
 else bif S.key [98,121] i then(S.block ta (S.nx i)).bind fun l j=>.ok (.mk 14 [] 0 [] [] l (S.F i) 0) j
 else S.D5 i
def ayy(x:Syntax)(t:Int):Syntax:=.mk x.kind x.text x.num x.oe x.sW x.vE x.k9 t
def NS(x:Syntax)(t:Int):Syntax:=.mk x.kind x.text x.num x.oe x.sW x.vE t x.to
def RT(to:Int):List Syntax->Syntax->Syntax
 |[],x=>x
 |y::l,x=>.mk 6 [] 0 [] [] [x,RT to l y] x.k9 to
def ald:Nat->List Syntax->Nat->Rs (List Syntax)
 |0,out,i=>bif S.tX [44] i then S.abf (S.nx i)else .ok out i
 |m+1,out,i=>bif S.tX [44] i then(ex (S.nx i)).bind fun x j=>ald m (out++[x]) j else .ok out i
def VM(o i:Nat):Rs Syntax:=
 (ex i).bind fun x j=>
   bif S.tX [41] j then .ok x (S.nx j)
   else bif S.tX [58] j then(ex (S.nx j)).bind fun t k=>(S.take [41] k).bind fun _ q=>.ok (.mk 13 [] 0 [] [] [x,t] (S.F o) (S.E q)) q
   else bif S.tX [44] j then(S.ald ex 199 [] j).bind fun l k=>(S.take [41] k).bind fun _ q=>.ok (NS (RT (S.E q) l x) (S.F o)) q
   else S.D5 j
def afY(i:Nat):Rs Syntax:=bif S.tX [40] i then S.VM ex i (S.nx i)else(S.fill ta i).bind fun x j=>.ok (ayy x (S.E j)) j
def Uw:Nat->Syntax->Nat->Rs Syntax
 |0,x,i=>bif S.tX [46,49] i||S.tX [46,50] i then S.abf i else .ok x i
 |m+1,x,i=>bif S.tX [46,49] i||S.tX [46,50] i then Uw m (.mk (bif (S.K i).2==[46,50] then 8 else 7) [] 0 [] [] [x] x.k9 (S.E (S.nx i))) (S.nx i)else .ok x i
def aiB(i:Nat):Rs Syntax:=(S.afY ex ta i).bind fun x j=>S.Uw 200 x j
def ale:Nat->Syntax->Nat->Rs Syntax
 |0,x,i=>bif S.Pn i then S.abf i else .ok x i
 |m+1,x,i=>bif S.Pn i then(S.aiB ex ta i).bind fun y j=>ale m (.mk 2 [] 0 [] [] [x,y] x.k9 y.to) j else .ok x i
def app(i:Nat):Rs Syntax:=(S.aiB ex ta i).bind fun x j=>S.ale ex ta 199 x j
def alf(i:Nat):Rs Syntax:=bif S.adA i then .ok (.mk 17 (S.K i).2 0 [] [] [] (S.F i) (S.E (S.nx i))) (S.nx i)else S.app ex ta i
def Jc:Nat->List Syntax->Nat->Rs (List Syntax)
 |0,out,i=>bif S.adA i||S.Pn i then S.abf i else .ok out i
 |m+1,out,i=>bif S.adA i||S.Pn i then(S.alf ex ta i).bind fun x j=>Jc m (out++[x]) j else .ok out i
def aiC(l:List Syntax)(i:Nat):Rs Syntax:=
 match l with
 |[]=>S.D5 i
 |x::r=>bif r.isEmpty&& !(x.kind==17)then .ok x i
  else bif (S.np (x::r)).2.2==0 then .ok (S.np (x::r)).1 i
  else match (x::r)[(S.np (x::r)).2.1.toNat]? with
   |some y=>.er (S.np (x::r)).2.2 y.k9
   |none=>.er (S.np (x::r)).2.2 (S.F i)
def op(i:Nat):Rs Syntax:=(S.Jc ex ta 200 [] i).bind S.aiC
def BB(open_ shut:Str)(i:Nat):Rs (List kg):=
 (S.take open_ i).bind fun _ i=>(bif open_==[91] then(S.var i).bind fun s j=>.ok [s] j else S.vars i).bind fun l i=>
   (S.take [58] i).bind fun _ i=>(ex i).bind fun t i=>(S.take shut i).bind fun _ i=>.ok (L6 l t) i
def IG(kind num:Int)(o:Nat)(l:List kg)(sep:Str)(i:Nat):Rs Syntax:=
 (S.take sep i).bind fun _ i=>(ex i).bind fun x j=>.ok (XA kind num l x (S.F o)) j
def ZA:Nat->List kg->Nat->Rs (List kg)
 |0,out,i=>bif S.tX [61,62] i then .ok out i else S.abf i
 |m+1,out,i=>bif S.tX [61,62] i&& !out.isEmpty then .ok out i
  else bif S.tX [40] i then(S.BB ex [40] [41] i).bind fun l j=>ZA m (out++l) j
  else(S.var i).bind fun s j=>ZA m (out++[{name:=s,t:=S.Cj j}]) j
def axi(i:Nat):Rs Syntax:=(S.ZA ex 200 [] (S.nx i)).bind fun l j=>(S.take [61,62] j).bind fun _ j=>(ex j).bind fun x k=>.ok (XA 3 0 l x (S.F i)) k
def arH(i:Nat):Rs Syntax:=
 (S.var (S.nx i)).bind fun s j=>(bif S.tX [58] j then ex (S.nx j)else .ok (S.Cj j) j).bind fun t k=>(S.take [58,61] k).bind fun _ k=>(ex k).bind fun v q=>(S.take [105,110] q).bind fun _ q=>(ex q).bind fun b r=>
   .ok (.mk 9 s 0 [] [] [t,v,b] (S.F i) b.to) r
def anv(i:Nat):Rs Syntax:=
 (S.op ex ta i).bind fun x j=>bif S.tX [45,62] j then
     (ex (S.nx j)).bind fun b k=>.ok (XA 4 0 (bif x.kind==13&&(x.k9==S.F i&& !(S.zi i).isEmpty)then L6 (S.zi i) (x.vE.getD 1 Zz)else [{name:=[],t:=x}]) b x.k9) k
   else .ok x j
def afZ(i:Nat):Rs Syntax:=
 bif S.key [102,117,110] i then S.axi ex i
 else bif S.key [108,101,116] i then S.arH ex i
 else bif S.key [83,105,103,109,97] i then(S.BB ex [40] [41] (S.nx i)).bind fun l j=>S.IG ex 5 0 i l [44] j
 else bif S.tX [123] i then(S.BB ex [123] [125] i).bind fun l j=>S.IG ex 4 1 i l [45,62] j
 else bif S.tX [91] i then(S.BB ex [91] [93] i).bind fun l j=>S.IG ex 4 2 i l [45,62] j
 else S.anv ex ta i
def XB:Nat->List Str->Nat->Rs (List Str)
 |0,out,i=>bif (S.K i).1==0 then S.abf i else .ok out i
 |m+1,out,i=>bif (S.K i).1==0 then XB m (out++[(S.K i).2]) (S.nx i)else .ok out i
def akj(w:Str)(i:Nat):Rs (List Str×List Syntax):=
 bif w==[102,111,99,117,115] then(S.block ta (S.nx i)).bind fun l j=>.ok ([],l) j
 else bif [[101,120,97,99,116],[97,112,112,108,121],[99,104,97,110,103,101],[114,101,119,114,105,116,101],[114,101,119,114,105,116,101,66,97,99,107]].contains w then(ex (S.nx i)).bind fun x j=>.ok ([],[x]) j
 else bif [[97,115,115,117,109,112,116,105,111,110],[99,111,110,103,114,117,101,110,99,101],[108,105,110,97,114,105,116,104],[115,107,105,112]].contains w then .ok ([],[]) (S.nx i)
 else bif w==[105,110,116,114,111] then(S.var (S.nx i)).bind fun s j=>.ok ([s],[]) j
 else bif w==[105,110,116,114,111,115] then(S.vars (S.nx i)).bind fun l j=>.ok (l,[]) j
 else bif [[114,101,118,101,114,116],[105,110,100,117,99,116,105,111,110],[99,97,115,101,115],[105,110,106,101,99,116,105,111,110]].contains w then(S.RS (S.nx i)).bind fun s j=>.ok ([s],[]) j
 else bif w==[115,105,109,112,108,105,102,121] then(S.name (S.nx i)).bind fun s j=>(S.XB 199 [s] j).bind fun l k=>.ok (l,[]) k
 else bif w==[114,101,112,101,97,116]||w==[97,108,108] then(ta (S.nx i)).bind fun x j=>.ok ([],[x]) j
 else S.D5 i
def akk(i:Nat):Rs Syntax:=
 (bif S.tX [123] i then(S.block ta i).bind fun l j=>.ok (([],l):List Str×List Syntax) j
   else bif (S.K i).1==0 then S.akj ex ta (S.K i).2 i else S.D5 i).bind fun p j=>.ok (.mk 15 (S.K i).2 0 p.1 [] p.2 (S.F i) (S.E j)) j
end
def both:Nat->(Nat->Rs Syntax)×(Nat->Rs Syntax)
 |0=>(fun i=>S.abf i,fun i=>S.abf i)
 |d+1=>(S.afZ (both d).1 (both d).2,S.akk (both d).1 (both d).2)
def ayz(d i:Nat):Rs Syntax:=(S.both d).1 i
def aHS(d i:Nat):Rs Syntax:=(S.both d).2 i
def whole:Rs Syntax:=(S.ayz 200 0).bind fun x j=>bif (S.K j).1==4 then .ok x j else S.D5 j
end
end nS
structure Cx where
 T:List kH
 b:Int
 tb:List jV
 sy:List Str
 np:List Syntax->Syntax×Int×Int
structure ny(Z:Cx):Prop where
 pos:0<Z.T.length
 len:Z.T.length<=100000
 base:0<=Z.b/\Z.b<=100000
 nE:∀t∈Z.T,0<=t.nE/\t.nE<=100000/\t.text.length<=100000
 num:∀t∈Z.T,t.kind=1->(t.text.length<=18/\Lib.atoi t.text=some (VK t.text))/\0<=VK t.text/\VK t.text<=999999
def Cx.S(Z:Cx):nS where
 len:=Z.T.length
 K:=fun i=>match Z.T[i]? with|some t=>(t.kind,t.text)|none=>(4,[])
 F:=fun i=>Z.b+match Z.T[i]? with|some t=>t.nE|none=>0
 E:=fun i=>match i with|0=>Z.b|k+1=>Z.b+match Z.T[k]? with|some t=>t.nE+(t.text.length:Int)|none=>0
 isS:=fun s=>Z.sy.contains s
 np:=Z.np
def Cx.st(Z:Cx)(i:Nat)(d:Int):jU:={ul:={Ey:=Z.T,next:=(i:Int),base:=Z.b},rF:=Z.tb,oN:=Z.sy,depth:=d}
theorem Ev.to{S R:Type}{F:Nat->Option S}{x:S}{G:Nat->S->Option R}{Q:R->Prop}(h:Ev F x)(hg:k8 (fun n=>G n x) Q):k8 (fun n=>(F n).bind (G n)) Q:=
 k8.bind (Ev.Uu (Q:=(· =x)) h rfl) fun r hr=>by subst hr;exact hg
theorem Ev.sn{S R:Type}{F:Nat->Option S}{x:S}{G:Nat->Nat->S->Option R}{Q:R->Prop}(h:Ev F x)(hg:kF (fun n m=>G n m x) Q):kF (fun n m=>(F n).bind (G n m)) Q:=
 kF.lQ (Ev.Uu (Q:=(· =x)) h rfl) fun r hr=>by subst hr;exact hg
section
variable {Z:Cx}
def RP(Z:Cx)(d:Int):Rs W->PR (((jU×Unit)×Unit)×(W×Unit)) (((jU×Unit)×Unit)×(kq×Unit))->Prop
 |.ok x j,r=>j<Z.T.length/\r=.ok (((Z.st j d,()),()),x,())
 |.er e a,r=>∃p,r=.pn (((p,()),()),{e:=e,nE:=a},())
def RU(Z:Cx)(d:Int):Rs Unit->PR (((jU×Unit)×Unit)×Unit) (((jU×Unit)×Unit)×(kq×Unit))->Prop
 |.ok x j,r=>j<Z.T.length/\r=.ok (((Z.st j d,()),()),())
 |.er e a,r=>∃p,r=.pn (((p,()),()),{e:=e,nE:=a},())
theorem mS{i:Nat}(h:i<Z.T.length):Z.S.nx i<Z.T.length:=by
 unfold nS.nx;split
 ·rename_i h';exact h'
 ·exact h
theorem Gp{i:Nat}(h:i<Z.T.length):Z.S.K i=(Z.T[i].kind,Z.T[i].text):=by simp [Cx.S,h]
theorem EV{i:Nat}(h:i<Z.T.length):Ev (fun n=>mg n (Z.st i d)) Z.T[i]:=by
 refine Ev.fn (fun n=>by simp only[mg,kD,EA,mB];exact rfl) ?_
 grind [Ev.pure,Cx.st,nA]
theorem ad4(h:ny Z){i:Nat}(hi:i<Z.T.length):Ev (fun n=>qf n (Z.st i d)) (Z.S.F i):=by
 refine Ev.fn (fun n=>by simp only[qf,kD,FJ,mB];exact rfl) ?_;refine Ev.bind (EV hi) ?_;have h1:=h.nE Z.T[i] (gC hi);have h2:=h.base
 grind [Cx.st,lj,Cx.S,Ev.pure]
theorem ZB(h:ny Z){i:Nat}(hi:i<Z.T.length):Ev (fun n=>py n (Z.st i d)) (Z.S.E i):=by
 refine Ev.fn (fun n=>by simp only[py,kD,Hh,mB];exact rfl) ?_;simp only[Cx.st];cases i with
 |zero=>grind [Cx.S,Ev.pure]
 |succ k=>
  have hk:k<Z.T.length:=by omega
  have h1:=h.nE Z.T[k] (gC hk);have h2:=h.base;have hl:=h.len
  grind [lj,nA,Cx.S,Ev.pure]
theorem aiD{i:Nat}(hi:i<Z.T.length)(k:Int)(s:Str):Ev (fun n=>uU n (Z.st i d) k s) (Z.S.is k s i):=by
 refine Ev.fn (fun n=>by simp only[uU,kD,I1,mB];exact rfl) ?_;refine Ev.bind (EV hi) ?_
 grind [nS.is,Gp,Ev.pure]
theorem Hy{i:Nat}(hi:i<Z.T.length)(s:Str):Ev (fun n=>nP n (Z.st i d) s) (Z.S.tX s i):=by
 refine Ev.fn (fun n=>by simp only[nP,kD,DE,mB];exact rfl) ?_;exact Ev.bind (aiD hi 2 s) Ev.pure
theorem RV(h:ny Z){i:Nat}(hi:i<Z.T.length)(e:Int):Ev (fun n=>nq n e (Z.st i d)) (.pn (((Z.st i d,()),()),{e:=e,nE:=Z.S.F i},())):=by
 refine Ev.fn (fun n=>by simp only[nq,kD,DD,Al];exact rfl) ?_;exact Ev.bind (ad4 h hi) Ev.pure
theorem Gq(h:ny Z){i:Nat}(hi:i<Z.T.length)(c:Bool):k8 (fun n=>mP n c (Z.st i d)) (RU Z d (bif c then .ok () i else Z.S.D5 i)):=by
 refine k8.fn (fun n=>by simp only[mP,kD,DH,Al];exact rfl) ?_;cases c with
 |true=>exact k8.pure ⟨hi,rfl⟩
 |false=>
  refine Ev.to (RV h hi 4) ?_;exact k8.pure ⟨_,rfl⟩
theorem B5{i:Nat}(hi:i<Z.T.length)(hk:k<200):Ev (fun n=>lN n k (Z.st i d)) (.ok (((Z.st i d,()),()),())):=by
 refine Ev.fn (fun n=>by simp only[lN,kD,AW,Al];exact rfl) ?_
 grind [Ev.pure]
theorem Bd(h:ny Z){i:Nat}(hi:i<Z.T.length)(hk:200<=k):Ev (fun n=>lN n k (Z.st i d)) (.pn (((Z.st i d,()),()),{e:=7,nE:=Z.S.F i},())):=by
 refine Ev.fn (fun n=>by simp only[lN,kD,AW,Al];exact rfl) ?_;rw[jM hk];refine Ev.bind (RV h hi 7) ?_;simp only[EZ];exact Ev.pure
theorem xA(h:ny Z){i:Nat}(hi:i<Z.T.length):Ev (fun n=>lr n (Z.st i d)) ((Z.st (Z.S.nx i) d,()),(Z.S.K i).2,()):=by
 refine Ev.fn (fun n=>by simp only[lr,kD,FL,mB];exact rfl) ?_;refine Ev.bind (EV hi) ?_;rw[Gp hi];have hl:=h.len;have e:IntKind.i64.wrap ((i:Int)+1)=((i+1:Nat):Int):=kM (by omega);have e2:decide ((((i+1:Nat):Int))<(Z.T.length:Int))=decide (i+1<Z.T.length):=decide_eq_decide.2 (by omega);simp only[Cx.st,e,e2];have hlen:Z.S.len=Z.T.length:=rfl
 grind [nS.nx,Ev.pure]
theorem tf(h:ny Z){i:Nat}(hi:i<Z.T.length)(s:Str):Ev (fun n=>l6 n (Z.st i d) s) ((Z.st (bif Z.S.tX s i then Z.S.nx i else i) d,()),Z.S.tX s i,()):=by
 refine Ev.fn (fun n=>by simp only[l6,kD,DI,mB];exact rfl) ?_;refine Ev.bind (Hy hi s) ?_;cases Z.S.tX s i with
 |true=>exact Ev.bind (xA h hi) Ev.pure
 |false=>exact Ev.pure
theorem RU.step{rs:Rs Unit}{f:Unit->Nat->Rs W}{F:Nat->Option (PR (((jU×Unit)×Unit)×Unit) (((jU×Unit)×Unit)×(kq×Unit)))}{R:Type}{A:Nat->(((jU×Unit)×Unit)×Unit)->Option R}{B:Nat->(((jU×Unit)×Unit)×(kq×Unit))->Option R}{Q:Rs W->R->Prop}
 (h:k8 F (RU Z d rs)) (L9:∀j,rs=.ok () j->j<Z.T.length->k8 (fun n=>A n (((Z.st j d,()),()),())) (Q (f () j))) (hpn:∀p e a,rs=.er e a->k8 (fun n=>B n (((p,()),()),{e:=e,nE:=a},())) (Q (.er e a)):=by intros;first|exact k8.pure ⟨_,rfl⟩|exact k8.pure ⟨_,_,rfl⟩):
 k8 (fun n=>(F n).bind fun x=>EZ x (A n) (B n)) (Q (rs.bind f)):=by
 refine k8.bind h fun r hr=>?_
 cases rs with
 |ok x j=>obtain⟨hj,rfl⟩:=hr;exact L9 j rfl hj
 |er e a=>obtain⟨p,rfl⟩:=hr;exact hpn p e a rfl
theorem RP.step{rs:Rs O}{f:O->Nat->Rs W}{F:Nat->Option (PR (((jU×Unit)×Unit)×(O×Unit)) (((jU×Unit)×Unit)×(kq×Unit)))}{R:Type}{A:Nat->(((jU×Unit)×Unit)×(O×Unit))->Option R}{B:Nat->(((jU×Unit)×Unit)×(kq×Unit))->Option R}{Q:Rs W->R->Prop}
 (h:k8 F (RP Z d rs)) (L9:∀x j,rs=.ok x j->j<Z.T.length->k8 (fun n=>A n (((Z.st j d,()),()),x,())) (Q (f x j))) (hpn:∀p e a,rs=.er e a->k8 (fun n=>B n (((p,()),()),{e:=e,nE:=a},())) (Q (.er e a)):=by intros;first|exact k8.pure ⟨_,rfl⟩|exact k8.pure ⟨_,_,rfl⟩):
 k8 (fun n=>(F n).bind fun x=>EZ x (A n) (B n)) (Q (rs.bind f)):=by
 refine k8.bind h fun r hr=>?_
 cases rs with
 |ok x j=>obtain⟨hj,rfl⟩:=hr;exact L9 x j rfl hj
 |er e a=>obtain⟨p,rfl⟩:=hr;exact hpn p e a rfl
theorem xa(h:ny Z){i:Nat}(hi:i<Z.T.length)(s:Str):k8 (fun n=>mQ n s (Z.st i d)) (RU Z d (Z.S.take s i)):=by
 refine k8.fn (fun n=>by simp only[mQ,kD,F9,Al];exact rfl) ?_
 have go:∀c:Bool,k8 (fun n=>(mP n c (Z.st i d)).bind fun x=>EZ x (fun x=>(lr n x.fst.fst.fst).bind fun x=>some (PR.ok (((x.fst.fst,()),()),()))) fun y=>some (PR.pn (((y.fst.fst.fst,()),()),y.snd.fst,())))
  (RU Z d (bif c then .ok () (Z.S.nx i)else Z.S.D5 i)):=by
  intro c;refine k8.bind (Gq h hi c) fun r hr=>?_
  cases c with
  |true=>
   obtain⟨_,rfl⟩:=hr;exact Ev.Uu (Ev.bind (xA h hi) Ev.pure) ⟨mS hi,rfl⟩
  |false=>
   obtain⟨p,rfl⟩:=hr;exact k8.pure ⟨p,rfl⟩
 refine Ev.to (Hy hi s) ?_;unfold nS.take;cases hs:Z.S.tX s i with
 |true=>exact go true
 |false=>
  simp only[jL,gE];refine Ev.to (aiD hi 3 s) ?_;exact go _
end
section
variable {Z:Cx}
theorem azS:∀s:Str,gO s [46]=s.contains 46:=by
 intro s;induction s with
 |nil=>rfl
 |cons x r ih=>
  grind [gO,iB]
theorem aCF(s:Str)(h:s.length<=100000):Ev (fun n=>strings_Contains n s [46]) (axh s):=by
 refine⟨1,fun n hn=>?_⟩;obtain⟨k,rfl⟩:∃k,n=k+1:=⟨n-1,by omega⟩;show(bif decide (s.length<4294967281)then some (gO s [46])else none)=_;rw[jM (by omega),azS];rfl
theorem ajE(h:ny Z){i:Nat}(hi:i<Z.T.length):Ev (fun n=>uV n (Z.st i d)) (Z.S.simple i):=by
 refine Ev.fn (fun n=>by simp only[uV,kD,Dw,mB];exact rfl) ?_;refine Ev.bind (EV hi) ?_;unfold nS.simple;rw[Gp hi];cases Z.T[i].kind==0 with
 |true=>
  refine Ev.bind (aCF _ (h.nE _ (gC hi)).2.2) ?_;rw[gA];exact Ev.pure
 |false=>exact Ev.pure
theorem RW(h:ny Z){i:Nat}(hi:i<Z.T.length):Ev (fun n=>sA n (Z.st i d)) (Z.S.G7 i):=by
 refine Ev.fn (fun n=>by simp only[sA,kD,zJ,mB];exact rfl) ?_;refine Ev.bind (ajE h hi) ?_;unfold nS.G7;cases Z.S.simple i with
 |true=>exact Ev.pure
 |false=>rw[gE];exact Ev.bind (Hy hi [95]) Ev.pure
theorem taken(h:ny Z){i:Nat}(hi:i<Z.T.length){R:Type}{A:Nat->jU×Unit->Str->Option R}{B:Nat->(((jU×Unit)×Unit)×(kq×Unit))->Option R}{Q:Rs W->R->Prop}{x:Rs W}
 (L9:k8 (fun n=>A n (Z.st (Z.S.nx i) d,()) (Z.S.K i).2) (Q x)) (hpn:∀p e a,k8 (fun n=>B n (((p,()),()),{e:=e,nE:=a},())) (Q (.er e a))):
 k8 (fun n=>(mP n c (Z.st i d)).bind fun x=>EZ x (fun x=>(lr n x.fst.fst.fst).bind fun x=>A n x.fst x.snd.fst) (B n)) (Q (bif c then x else Z.S.D5 i)):=by
 refine k8.bind (Gq h hi c) fun r hr=>?_
 cases c with
 |true=>
  obtain⟨_,rfl⟩:=hr;exact k8.bind (Ev.Uu (xA h hi) rfl) fun r hr=>by subst hr;exact L9
 |false=>
  obtain⟨p,rfl⟩:=hr;exact hpn _ _ _
theorem ad5(h:ny Z){i:Nat}(hi:i<Z.T.length):k8 (fun n=>pV n (Z.st i d)) (RP Z d (Z.S.var i)):=by
 refine k8.fn (fun n=>by simp only[pV,kD,Br,Al];exact rfl) ?_;refine Ev.to (RW h hi) ?_;exact taken (A:=fun n p s=>some (PR.ok (((p,()),s,())))) (Q:=RP Z d) h hi (k8.pure ⟨mS hi,rfl⟩) fun p e a=>k8.pure ⟨p,rfl⟩
theorem apQ(h:ny Z){i:Nat}(hi:i<Z.T.length):k8 (fun n=>qS n (Z.st i d)) (RP Z d (Z.S.RS i)):=by
 refine k8.fn (fun n=>by simp only[qS,kD,zN,Al];exact rfl) ?_;refine Ev.to (ajE h hi) ?_;exact taken (A:=fun n p s=>some (PR.ok (((p,()),s,())))) (Q:=RP Z d) h hi (k8.pure ⟨mS hi,rfl⟩) fun p e a=>k8.pure ⟨p,rfl⟩
theorem auH(h:ny Z){i:Nat}(hi:i<Z.T.length):k8 (fun n=>zO n (Z.st i d)) (RP Z d (Z.S.name i)):=by
 refine k8.fn (fun n=>by simp only[zO,kD,Ga,Al];exact rfl) ?_;refine Ev.to (EV hi) ?_;unfold nS.name;rw[show(Z.S.K i).1=Z.T[i].kind by rw[Gp hi]];exact taken (A:=fun n p s=>some (PR.ok (((p,()),s,())))) (Q:=RP Z d) h hi (k8.pure ⟨mS hi,rfl⟩) fun p e a=>k8.pure ⟨p,rfl⟩
theorem aFy{s:Str}(h:s.length<=18/\Lib.atoi s=some (VK s)):Ev (fun n=>strconv_Atoi n s) (VK s,()):=by
 refine⟨1,fun n hn=>?_⟩;obtain⟨k,rfl⟩:∃k,n=k+1:=⟨n-1,by omega⟩
 grind [strconv_Atoi]
theorem alx(h:ny Z){i:Nat}(hi:i<Z.T.length):k8 (fun n=>rN n (Z.st i d)) (RP Z d (Z.S.num i)):=by
 refine k8.fn (fun n=>by simp only[rN,kD,DK,Al];exact rfl) ?_;refine Ev.to (EV hi) ?_;unfold nS.num;rw[show(Z.S.K i).1=Z.T[i].kind by rw[Gp hi]];refine k8.bind (Gq h hi _) fun r hr=>?_
 cases hk:Z.T[i].kind==1 with
 |true=>
  rw[hk]at hr;obtain⟨_,rfl⟩:=hr;refine Ev.to (xA h hi) ?_;rw[Gp hi];refine Ev.to (aFy (h.num _ (gC hi) (beq_iff_eq.1 hk)).1) ?_;exact k8.pure ⟨mS hi,rfl⟩
 |false=>
  rw[hk]at hr;obtain⟨p,rfl⟩:=hr;exact k8.pure ⟨p,rfl⟩
theorem azT(h:ny Z):∀(m:Nat)(out:List Str)(i:Nat),i<Z.T.length->m+out.length=200->kF (fun n q=>vY n q (Z.st i d) out) (RP Z d (Z.S.OX m out i)):=by
 intro m;induction m with
 |zero=>
  intro out i hi hm;refine kF.lp (fun n m=>by simp only[Eo,tw];exact rfl) ?_;refine Ev.sn (RW h hi) ?_;unfold nS.OX;cases Z.S.G7 i with
  |true=>
   refine Ev.sn (Bd h hi (k:=(out.length:Int)) (by omega)) ?_;exact kF.pure ⟨_,rfl⟩
  |false=>exact kF.pure ⟨hi,rfl⟩
 |succ m ih=>
  intro out i hi hm;refine kF.lp (fun n m=>by simp only[Eo,tw];exact rfl) ?_;refine Ev.sn (RW h hi) ?_;unfold nS.OX;cases Z.S.G7 i with
  |true=>
   refine Ev.sn (B5 hi (k:=(out.length:Int)) (by omega)) ?_;refine Ev.sn (xA h hi) ?_
   grind [mS]
  |false=>exact kF.pure ⟨hi,rfl⟩
theorem aCG(h:ny Z){i:Nat}(hi:i<Z.T.length):k8 (fun n=>ya n (Z.st i d)) (RP Z d (Z.S.vars i)):=by
 refine k8.fn (fun n=>by simp only[ya,kD,Ay];exact rfl) ?_;refine RP.step (ad5 h hi) (fun s j _ hj=>?_);refine k8.yn (F:=fun n q=>zP n q [s] (Z.st j d)) ?_;refine kF.lp (fun n m=>by simp only[zP,za];exact rfl) ?_;refine Ev.sn (RW h hj) ?_;unfold nS.OX;cases Z.S.G7 j with
 |true=>
  refine Ev.sn (B5 hj (k:=1) (by omega)) ?_;refine Ev.sn (xA h hj) ?_
  grind [azT,mS]
 |false=>exact kF.pure ⟨hj,rfl⟩
end
section
variable {Z:Cx}
def auI(n:Int)(a:ko):ko:={name:=a.name,plus:=a.plus+n}
def aiE(n:Int)(a:ko):Bool:=decide (a.plus+n<=999999)
theorem azU(hj:j<Z.T.length)(a:Int)(hk:0<=k/\k<=999999):∀(r pre:List ko),pre.length+r.length<=1000000->(∀x∈r,0<=x.plus/\x.plus<=999999)->
 kF (fun n q=>rW (ld n) n q a k ((pre.length+r.length:Nat):Int) (pre.length:Int) (Z.st j d) (pre++r)) (RP Z d (bif r.all (aiE k)then .ok (pre++r.map (auI k)) j else .er 5 a)):=by
 intro r;induction r with
 |nil=>
  intro pre _ _;refine kF.lp (fun n m=>by simp only[Ib,vX,rX,yp];exact rfl) ?_;rw[jN (by simp)];exact kF.pure ⟨hj,by simp⟩
 |cons x r ih=>
  intro pre hl hx;refine kF.lp (fun n m=>by simp only[Ib,vX,rX,yp];exact rfl) ?_;have hlen:(x::r).length=r.length+1:=rfl;have hx1:=hx x (by simp);have e1:decide ((pre.length:Int)<((pre.length+(x::r).length:Nat):Int))=true:=jM (by omega);have me:pre.length<(pre++x::r).length:=by simp
  have e2:sQ (pre++x::r) (pre.length:Int)=some x:=by rw[nA me];simp
  have e3:(pre++x::r)[pre.length]? =some x:=by simp
  simp only[e1,e2,e3,jK,gy,gF,jM me,jM (Int.natCast_nonneg pre.length),Bool.and_self];rw[lj (n:=x.plus+k) (by omega) (by omega)]
  have e6:(x::r).all (aiE k)=(!decide (999999<x.plus+k)&&r.all (aiE k)):=by
   grind [aiE]
  rw[e6];cases decide (999999<x.plus+k)with
  |true=>exact kF.pure ⟨_,rfl⟩
  |false=>
   simp only[jL,gH,gA];rw[kM (by omega)];have:=ih (pre++[auI k x]) (by grind) (fun y hy=>hx y (by simp [hy]));rw[gP,gV]at this;rw[show(pre++x::r).set pre.length {name:=x.name,plus:=x.plus+k}=pre++[auI k x]++r by simp [auI]];rw[show pre.length+(x::r).length=pre.length+1+r.length by omega]
   grind
end
def nS.Ec(S:nS)(e a:Int):Prop:=e≠0/\∃i j,i<S.len/\j<S.len/\S.F i<=a/\a<=S.F j
def Rs.M1(S:nS)(P:W->Nat->Prop):Rs W->Prop
 |.ok x j=>P x j
 |.er e a=>S.Ec e a
section
variable {S:nS}
theorem Rs.M1.er{e:Int}{i:Nat}(hi:i<S.len)(he:e≠0:=by decide):(Rs.er e (S.F i):Rs W).M1 S P:=⟨he,i,i,hi,hi,gL _,gL _⟩
theorem Rs.M1.bind{Q:O->Nat->Prop}{r:Rs W}{f:W->Nat->Rs O}(h:r.M1 S P)(hf:∀x j,P x j->(f x j).M1 S Q):(r.bind f).M1 S Q:=by
 cases r with
 |ok x j=>exact hf x j h
 |er e a=>exact h
theorem Rs.M1.imp {Q:W->Nat->Prop}{r:Rs W}(h:r.M1 S P)(hf:∀x j,P x j->Q x j):r.M1 S Q:=by
 cases r with
 |ok x j=>exact hf x j h
 |er e a=>exact h
theorem Rs.M1.C4{r s:Rs W}(h1:c=true->r.M1 S P)(h2:c=false->s.M1 S P):(bif c then r else s).M1 S P:=by
 grind
end
structure OY(S:nS):Prop where
 last:∀i,i<S.len->(S.K i).1≠4->i+1<S.len
 num:∀i,i<S.len->(S.K i).1=1->0<=VK (S.K i).2/\VK (S.K i).2<=999999
namespace OY
variable {S:nS} (h:OY S)
include h
theorem nx{i:Nat}(hi:i<S.len)(hk:(S.K i).1≠4):S.nx i=i+1/\i+1<S.len:=by
 have:=h.last i hi hk
 grind [nS.nx]
theorem isN{i:Nat}{s:Str}(hi:i<S.len)(hs:S.is k s i=true)(hk:k≠4):S.nx i=i+1/\i+1<S.len:=by
 unfold nS.is at hs;rw[gD,beq_iff_eq]at hs;exact h.nx hi (by rw[hs.1];exact hk)
theorem Kj{i:Nat}{s:Str}(hi:i<S.len)(hs:S.tX s i=true):S.nx i=i+1/\i+1<S.len:=h.isN hi hs (by decide)
theorem axj{i:Nat}{s:Str}(hi:i<S.len)(hs:S.key s i=true):S.nx i=i+1/\i+1<S.len:=h.isN hi hs (by decide)
theorem arI{i:Nat}(hi:i<S.len)(hs:S.simple i=true):S.nx i=i+1/\i+1<S.len:=by
 unfold nS.simple at hs;rw[gD,beq_iff_eq]at hs;exact h.nx hi (by rw[hs.1];decide)
theorem aJU{i:Nat}(hi:i<S.len)(hs:S.G7 i=true):S.nx i=i+1/\i+1<S.len:=by
 unfold nS.G7 at hs;rw[Bool.or_eq_true]at hs;rcases hs with hs|hs
 ·exact h.arI hi hs
 ·exact h.Kj hi hs
theorem take{i:Nat}(hi:i<S.len)(s:Str):(S.take s i).M1 S fun _ j=>j=i+1/\j<S.len:=by
 refine .C4 (fun hc=>?_) fun _=>.er hi
 rw[Bool.or_eq_true]at hc;rcases hc with hc|hc
 ·obtain⟨e,hl⟩:=h.Kj hi hc;exact⟨e,by rw[e];exact hl⟩
 ·obtain⟨e,hl⟩:=h.axj hi hc;exact⟨e,by rw[e];exact hl⟩
theorem var{i:Nat}(hi:i<S.len):(S.var i).M1 S fun _ j=>j=i+1/\j<S.len:=by
 refine .C4 (fun hc=>?_) fun _=>.er hi
 obtain⟨e,hl⟩:=h.aJU hi hc;exact⟨e,by rw[e];exact hl⟩
theorem RS{i:Nat}(hi:i<S.len):(S.RS i).M1 S fun _ j=>j=i+1/\j<S.len:=by
 refine .C4 (fun hc=>?_) fun _=>.er hi
 obtain⟨e,hl⟩:=h.arI hi hc;exact⟨e,by rw[e];exact hl⟩
theorem name{i:Nat}(hi:i<S.len):(S.name i).M1 S fun _ j=>j=i+1/\j<S.len:=by
 refine .C4 (fun hc=>?_) fun _=>.er hi
 obtain⟨e,hl⟩:=h.nx hi (by rw[beq_iff_eq.1 hc];decide);exact⟨e,by rw[e];exact hl⟩
theorem number{i:Nat}(hi:i<S.len):(S.num i).M1 S fun n j=>(0<=n/\n<=999999)/\j=i+1/\j<S.len:=by
 refine .C4 (fun hc=>?_) fun _=>.er hi
 have hk:=beq_iff_eq.1 hc;obtain⟨e,hl⟩:=h.nx hi (by rw[hk];decide);exact⟨h.num i hi hk,e,by rw[e];exact hl⟩
theorem OX:∀(m:Nat)(out:List Str)(i:Nat),i<S.len->(S.OX m out i).M1 S fun l j=>l.length<=out.length+m/\l.length+i=out.length+j/\i<=j/\j<S.len
 |0,out,i,hi=>by
  exact .C4 (fun _=>.er hi) fun _=>⟨gG _,rfl,gG _,hi⟩
 |m+1,out,i,hi=>by
  refine .C4 (fun hc=>?_) fun _=>⟨Nat.le_add_right _ _,rfl,gG _,hi⟩
  obtain⟨e,hl⟩:=h.aJU hi hc;rw[e];refine(OX m _ _ hl).imp fun l j ⟨h1,h2,h3,h4⟩=>?_
  grind
theorem vars{i:Nat}(hi:i<S.len):(S.vars i).M1 S fun l j=>1<=l.length/\l.length<=200/\i<j/\j<S.len:=by
 refine(h.var hi).bind fun s k ⟨e,hk⟩=>?_
 refine(h.OX 199 [s] _ hk).imp fun l j ⟨h1,h2,h3,h4⟩=>?_
 grind
theorem listed{W:Type}{one:Nat->Rs (List W)}{P:W->Prop}(h1:∀i,i<S.len->(one i).M1 S fun l j=>l.length+i<=j/\i<j/\j<S.len/\∀x∈l,P x):∀(m:Nat)(out:List W)(i:Nat),i<S.len->(∀x∈out,P x)->
 (S.listed one m out i).M1 S fun l j=>l.length+i<=out.length+j/\i<j/\j<S.len/\∀x∈l,P x
 |0,_,_,hi,_=>.er hi
 |m+1,out,i,hi,ho=>by
  refine(h1 i hi).bind fun l j ⟨k1,k2,k3,k4⟩=>?_
  have Fq:∀x∈out++l,P x:=fun x hx=>(gS.1 hx).elim (ho x) (k4 x)
  refine .C4 (fun hc=>?_) fun _=>⟨by rw[gP];omega,k2,k3,Fq⟩
  obtain⟨e,hl⟩:=h.Kj k3 hc;rw[e];refine(listed h1 m _ _ hl Fq).imp fun l' j' ⟨q1,q2,q3,q4⟩=>?_
  grind
def SmA(a:ko):Prop:=0<=a.plus/\a.plus<=999999
theorem plus{out:List ko}{i:Nat}(hi:i<S.len)(ho:∀x∈out,SmA x):(S.plus out i).M1 S fun l j=>l.length=out.length/\i<=j/\j<S.len/\∀x∈l,SmA x:=by
 refine .C4 (fun hc=>?_) fun _=>⟨rfl,gG _,hi,ho⟩
 obtain⟨e,hl⟩:=h.Kj hi hc;rw[e];refine(h.number hl).bind fun n j ⟨hn,e2,hj⟩=>?_
 refine .C4 (fun Fq=>⟨by rw[List.length_map],by omega,hj,fun x hx=>?_⟩) fun _=>.er hl
 grind [SmA]
theorem nU:∀(f i:Nat),i<S.len->(S.nU f i).M1 S fun l j=>l.length+i<=j/\i<j/\j<S.len/\∀x∈l,SmA x
 |0,_,hi=>.er hi
 |f+1,i,hi=>by
  refine Rs.M1.bind (P:=fun l j=>l.length+i<=j/\i<j/\j<S.len/\∀x∈l,SmA x) ?_ fun l j ⟨k1,k2,k3,k4⟩=>(h.plus k3 k4).imp fun l' j' ⟨q1,q2,q3,q4⟩=>⟨by omega,by omega,q3,q4⟩
  refine .C4 (fun hc=>?_) fun _=>.C4 (fun hc=>?_) fun _=>?_
  ·refine(h.number hi).bind fun n j ⟨hn,e,hj⟩=>?_
   exact⟨by simp;omega,by omega,hj,fun x hx=>by rw[gZ.1 hx];exact hn⟩
  ·rw[gD,gD]at hc;obtain⟨c1,c2,c3⟩:=hc;obtain⟨e,hl⟩:=h.isN hi c1 (by decide);rw[e];obtain⟨e2,hl2⟩:=h.Kj hl c3;rw[e2];refine(h.listed (fun i hi=>nU f i hi) 200 [] _ hl2 (by simp)).bind fun l j ⟨q1,q2,q3,q4⟩=>?_
   refine(h.take q3 _).bind fun _ k ⟨e3,hk⟩=>?_
   rw[gT]at q1;exact⟨by omega,by omega,hk,q4⟩
  ·refine(h.RS hi).bind fun s j ⟨e,hj⟩=>?_
   exact⟨by simp;omega,by omega,hj,fun x hx=>by rw[gZ.1 hx];exact⟨gL 0,(by decide:(0:Int)<=999999)⟩⟩
end OY
theorem Rs.bind_assoc {γ:Type}(r:Rs W)(f:W->Nat->Rs O)(g:O->Nat->Rs γ):(r.bind f).bind g=r.bind fun x j=>(f x j).bind g:=by cases r<;>rfl
section
variable {Z:Cx}
def RL(Z:Cx)(d:Int):Rs (List W)->PR (((jU×Unit)×(Unit×(Unit×((List W)×Unit))))×Unit) (((jU×Unit)×(Unit×(Unit×((List W)×Unit))))×(kq×Unit))->Prop
 |.ok l j,r=>j<Z.T.length/\r=.ok (((Z.st j d,()),(),(),l,()),())
 |.er e a,r=>∃p l,r=.pn (((p,()),(),(),l,()),{e:=e,nE:=a},())
theorem anw(h:ny Z)(k:OY Z.S)(hj:j<Z.T.length){l:List ko}(hl:l.length<=1000000)(hx:∀x∈l,OY.SmA x){L:Int}(hL:L=(l.length:Int)):
 k8 (fun n=>(l6 n (Z.st j d) [43]).bind fun x_1=>bif x_1.snd.fst then(qf n x_1.fst.fst).bind fun x_2=>(rN n x_1.fst.fst).bind fun x_3=>
  EZ x_3 (fun x_4=>rW (ld n) n n x_2 x_4.snd.fst L 0 x_4.fst.fst.fst l) (fun y=>some (PR.pn (((y.fst.fst.fst,()),()),y.snd.fst,())))else some (PR.ok (((x_1.fst.fst,()),()),l,()))) (RP Z d (Z.S.plus l j)):=by
 subst hL;refine Ev.to (tf h hj [43]) ?_;unfold nS.plus;cases hs:Z.S.tX [43] j with
 |false=>exact k8.pure ⟨hj,rfl⟩
 |true=>
  simp only[jK];have hj2:=mS hj;refine Ev.to (ad4 h hj2) ?_;refine RP.step (alx h hj2) (fun n q hq hql=>?_);have hn:=k.number (i:=Z.S.nx j) hj2;rw[hq]at hn;have:=azU (d:=d) hql (Z.S.F (Z.S.nx j)) hn.1 l [] (by simpa using hl) hx;simp only[gT,Nat.zero_add,List.nil_append,Int.natCast_zero]at this;exact k8.yn (F:=fun n q'=>rW (ld n) n q' (Z.S.F (Z.S.nx j)) _ (l.length:Int) 0 (Z.st q d) l) this
theorem aFz(h:ny Z)(k:OY Z.S){f:Nat}(hA:∀i,i<Z.T.length->Z.T.length-i<=f->k8 (fun n=>pQ n (Z.st i d)) (RP Z d (Z.S.nU f i))):
 ∀ (m:Nat) (out:List ko) (i:Nat),i<Z.T.length->m<=200->out.length<=i->Z.T.length-i<=f->
   kF (fun n q=>oY (ld n) n q ((200-m:Nat):Int) (Z.st i d) out) (RL Z d (Z.S.listed (Z.S.nU f) m out i)):=by
 intro m;induction m with
 |zero=>
  intro out i hi _ ho hf;refine kF.lp (fun n m=>by simp only[tZ,nI,rX,yp];exact rfl) ?_;refine Ev.sn (Bd h hi (k:=((200-0:Nat):Int)) (by omega)) ?_;exact kF.pure ⟨_,_,rfl⟩
 |succ m ih=>
  intro out i hi hm ho hf;have hlen:=h.len;refine kF.lp (fun n m=>by simp only[tZ,nI,rX,yp];exact rfl) ?_;refine Ev.sn (B5 hi (k:=((200-(m+1):Nat):Int)) (by omega)) ?_;have Fq:=k.nU f i hi
  refine kF.lQ (P:=fun r=>match Z.S.nU f i with
   |.ok l j=>j<Z.T.length/\r=PR.ok (((),(),out++l,(Z.st j d,()),()),())
   |.er e a=>∃p,r=PR.pn (((),(),out,(p,()),()),{e:=e,nE:=a},())) ?_ fun r hr=>?_
  ·refine k8.fn (fun n=>by simp only[aMg,x8,rX,Al];exact rfl) ?_;refine k8.bind (hA i hi hf) fun r hr=>?_
   cases hq:Z.S.nU f i with
   |er e a=>
    rw[hq]at hr;obtain⟨p,rfl⟩:=hr;exact k8.pure ⟨p,rfl⟩
   |ok l j=>
    rw[hq]at hr Fq;obtain⟨hj,rfl⟩:=hr;obtain⟨q1,q2,q3,q4⟩:=Fq;have q3:j<Z.T.length:=q3;simp only[EZ,jM (show(out.length+l.length)*24<=17592186044416 by omega),jK];exact k8.pure ⟨hj,rfl⟩
  ·unfold nS.listed;cases hq:Z.S.nU f i with
   |er e a=>
    rw[hq]at hr;obtain⟨p,rfl⟩:=hr;exact kF.pure ⟨_,_,rfl⟩
   |ok l j=>
    rw[hq]at hr Fq;obtain⟨hj,rfl⟩:=hr;obtain⟨q1,q2,q3,q4⟩:=Fq;refine Ev.sn (tf h hj [44]) ?_;simp only[Rs.bind];cases hs:Z.S.tX [44] j with
    |true=>
     obtain⟨e,hl⟩:=k.Kj hj hs
     grind [lj,mS]
    |false=>exact kF.pure ⟨hj,rfl⟩
end
theorem Rs.yf(x:W)(j:Nat)(f:W->Nat->Rs O):(Rs.ok x j).bind f=f x j:=rfl
section
variable {Z:Cx}
theorem axk(h:ny Z)(k:OY Z.S){i:Nat}(hi:i<Z.T.length):
 k8 (fun n=>(qS n (Z.st i d)).bind fun x=>EZ x (fun x=>(l6 n x.fst.fst.fst [43]).bind fun x_1=>bif x_1.snd.fst then(qf n x_1.fst.fst).bind fun x_2=>(rN n x_1.fst.fst).bind fun x_3=>
  EZ x_3 (fun x_4=>rW (ld n) n n x_2 x_4.snd.fst 1 0 x_4.fst.fst.fst [{name:=x.snd.fst,plus:=0}]) (fun y=>some (PR.pn (((y.fst.fst.fst,()),()),y.snd.fst,())))else some (PR.ok (((x_1.fst.fst,()),()),[{name:=x.snd.fst,plus:=0}],()))) fun y=>some (PR.pn (((y.fst.fst.fst,()),()),y.snd.fst,())))
  (RP Z d ((Z.S.RS i).bind fun s j=>Z.S.plus [{name:=s,plus:=0}] j)):=by
 refine RP.step (apQ h hi) (fun s j _ hj=>?_);exact anw h k hj (by simp) (fun x hx=>by rw[gZ.1 hx];exact⟨gL 0,(by decide:(0:Int)<=999999)⟩) rfl
theorem azV (h:ny Z) (k:OY Z.S): ∀ (f i:Nat),i<Z.T.length->Z.T.length-i<=f->k8 (fun n=>pQ n (Z.st i d)) (RP Z d (Z.S.nU f i)):=by
 intro f;induction f with
 |zero=>intro i hi hf;omega
 |succ f ih=>
  intro i hi hf;have hlen:=h.len;refine k8.fn (fun n=>by simp only[aaH,Aa,rX,Al];exact rfl) ?_;refine Ev.to (EV hi) ?_;unfold nS.nU;rw[show(Z.S.K i).1=Z.T[i].kind by rw[Gp hi]];cases hk:Z.T[i].kind==1 with
  |true=>
   simp only[jK];rw[Rs.bind_assoc];refine RP.step (alx h hi) (fun n j hq hj=>?_);have hn:=k.number (i:=i) hi;rw[hq]at hn;exact anw h k hj (by simp) (fun x hx=>by rw[gZ.1 hx];exact hn.1) rfl
  |false=>
   simp only[jL];refine Ev.to (aiD hi 0 [109,97,120]) ?_;have hsn:=axk (d:=d) h k hi;cases hmx:Z.S.is 0 [109,97,120] i with
   |false=>
    simp only[jL,ik];rw[Rs.bind_assoc];exact hsn
   |true=>
    have hmi:=k.isN hi hmx (by decide);have hi1:i+1<Z.T.length:=hmi.2;have e1:IntKind.i64.wrap ((i:Int)+1)=((i+1:Nat):Int):=kM (by omega);have e2:decide (((i+1:Nat):Int)<(Z.T.length:Int))=true:=jM (by omega);have e3:decide (i+1<Z.S.len)=true:=jM hi1;simp only[jK,Cx.st,e1,e2,nA hi1,gy,e3,gA];have e4:Z.S.tX [40] (i+1)=((Z.T[i+1].kind==2)&&(Z.T[i+1].text==[40])):=by unfold nS.tX nS.is;rw[Gp hi1]
    cases hk2:Z.T[i+1].kind==2 with
    |false=>
     rw[hk2,ik]at e4;rw[e4];simp only[jL];rw[Rs.bind_assoc];exact hsn
    |true=>
     cases ht2:Z.T[i+1].text==[40]with
     |false=>
      rw[hk2,ht2]at e4;rw[e4];simp only[jK,jL,Bool.and_false];rw[Rs.bind_assoc];exact hsn
     |true=>
      rw[hk2,ht2]at e4;have e4:Z.S.tX [40] (i+1)=true:=e4;rw[e4];simp only[jK];have hs1:=k.Kj hi1 e4;refine Ev.to (xA (d:=d) h hi) ?_;rw[hmi.1];refine Ev.to (xA (d:=d) h hi1) ?_;rw[hs1.1];have hi2:i+1+1<Z.T.length:=hs1.2;have aGk:=k.listed (fun i hi=>k.nU f i hi) 200 [] _ hi2 (by simp);rw[Rs.bind_assoc];refine k8.bind (P:=RL Z d (Z.S.listed (Z.S.nU f) 200 [] (i+1+1))) ?_ fun r hr=>?_
      ·refine k8.fn (fun n=>by simp only[CS,pF,rX,Al];exact rfl) ?_
       grind [k8.yn,aFz]
      ·cases hq:Z.S.listed (Z.S.nU f) 200 [] (i+1+1)with
       |er e a=>
        rw[hq]at hr;obtain⟨p,l,rfl⟩:=hr;exact k8.pure ⟨_,rfl⟩
       |ok l j=>
        rw[hq]at hr aGk;obtain⟨hj,rfl⟩:=hr;obtain⟨q1,q2,q3,q4⟩:=aGk;have q3:j<Z.T.length:=q3;simp only[awN,Rs.yf];rw[Rs.bind_assoc];refine RU.step (xa h hj [41]) (fun q hq' hql=>?_);exact anw h k hql (by rw[gT]at q1;omega) q4 rfl
theorem apR(h:ny Z)(k:OY Z.S){i:Nat}(hi:i<Z.T.length):k8 (fun n=>yC n (Z.st i d)) (RP Z d (Z.S.mY i)):=by
 refine k8.fn (fun n=>by simp only[yC,kD,EP,Al];exact rfl) ?_;refine Ev.to (tf h hi [95]) ?_;unfold nS.mY;cases hs:Z.S.tX [95] i with
 |true=>exact k8.pure ⟨mS hi,rfl⟩
 |false=>
  simp only[jL];refine RP.step (azV h k Z.S.len i hi (Nat.sub_le _ _)) (fun l j _ hj=>k8.pure ⟨hj,rfl⟩)
theorem aFA(h:ny Z)(k:OY Z.S){i:Nat}(hi:i<Z.T.length):k8 (fun n=>Fb n (Z.st i d)) (RP Z d (Z.S.one i)):=by
 refine k8.fn (fun n=>by simp only[Fb,kD,Hw,Al];exact rfl) ?_;refine Ev.to (EV hi) ?_;unfold nS.one;rw[show(Z.S.K i).1=Z.T[i].kind by rw[Gp hi]];cases hk:Z.T[i].kind==1 with
 |true=>
  simp only[jK];exact RP.step (alx h hi) (fun l j _ hj=>k8.pure ⟨hj,rfl⟩)
 |false=>
  simp only[jL];refine Ev.to (ajE h hi) ?_;cases hs:Z.S.simple i with
  |true=>
   simp only[jK];refine Ev.to (xA h hi) ?_;exact k8.pure ⟨mS hi,rfl⟩
  |false=>
   simp only[jL];refine Ev.to (tf h hi [40]) ?_;cases ho:Z.S.tX [40] i with
   |true=>
    simp only[jK];refine RP.step (apR h k (mS hi)) (fun l j _ hj=>?_);exact RU.step (xa h hj [41]) (fun q _ hql=>k8.pure ⟨hql,rfl⟩)
   |false=>
    simp only[jL];refine Ev.to (tf h hi [95]) ?_;refine k8.pure ⟨?_,rfl⟩;cases Z.S.tX [95] i with
    |true=>exact mS hi
    |false=>exact hi
end
def LSm(l:j7):Prop:=l.nU.length<=200000
namespace OY
variable {S:nS} (h:OY S)
include h
theorem mY(hl:S.len<=100000){i:Nat}(hi:i<S.len):(S.mY i).M1 S fun x j=>i<j/\j<S.len/\LSm x:=by
 unfold nS.mY;refine .C4 (fun hc=>?_) fun _=>?_
 ·obtain⟨e,hj⟩:=h.Kj hi hc;rw[e];exact⟨by omega,hj,gJ _⟩
 ·refine(h.nU S.len i hi).bind fun l j ⟨h1,h2,h3,h4⟩=>⟨h2,h3,?_⟩
  unfold LSm;simp only;omega
theorem one(hl:S.len<=100000){i:Nat}(hi:i<S.len):(S.one i).M1 S fun x j=>i<=j/\j<S.len/\LSm x:=by
 unfold nS.one;refine .C4 (fun hc=>?_) fun _=>.C4 (fun hc=>?_) fun _=>.C4 (fun hc=>?_) fun _=>?_
 ·exact(h.number hi).bind fun n j ⟨hn,e,hj⟩=>⟨by omega,hj,(by decide:1<=200000)⟩
 ·obtain⟨e,hj⟩:=h.arI hi hc;rw[e];exact⟨by omega,hj,(by decide:1<=200000)⟩
 ·obtain⟨e,hj⟩:=h.Kj hi hc;rw[e];refine(h.mY hl hj).bind fun l j ⟨h1,h2,h3⟩=>?_
  exact(h.take h2 _).bind fun _ k ⟨e,hk⟩=>⟨by omega,hk,h3⟩
 ·cases hs:S.tX [95] i with
  |true=>
   obtain⟨e,hj⟩:=h.Kj hi hs;rw[jK,e];exact⟨by omega,hj,gJ _⟩
  |false=>exact⟨gG _,hi,gJ _⟩
theorem aHT(hl:S.len<=100000){i:Nat}(hi:i<S.len):((S.mY i).bind fun l j=>Rs.ok [l] j).M1 S fun l j=>l.length+i<=j/\i<j/\j<S.len/\∀x∈l,LSm x:=
 (h.mY hl hi).bind fun l j ⟨h1,h2,h3⟩=>⟨by simp;omega,h1,h2,fun x hx=>by grind⟩
theorem sW(hl:S.len<=100000){i:Nat}(hi:i<S.len):(S.sW i).M1 S fun l j=>i<=j/\j<S.len/\l.length<=100000/\∀x∈l,LSm x:=by
 unfold nS.sW;refine .C4 (fun hc=>?_) fun _=>⟨gG _,hi,by simp,by simp⟩
 obtain⟨e,hj⟩:=h.Kj hi hc;rw[e];refine(h.listed (fun i hi=>h.aHT hl hi) 200 [] _ hj (by simp)).bind fun l j ⟨q1,q2,q3,q4⟩=>?_
 rw[gT]at q1;exact(h.take q3 _).bind fun _ k ⟨e,hk⟩=>⟨by omega,hk,by omega,q4⟩
end OY
section
variable {Z:Cx}
theorem aFB(h:ny Z)(k:OY Z.S):∀(m:Nat)(out:List j7)(i:Nat),i<Z.T.length->m<=200->out.length<=i->
 kF (fun n q=>nD n q ((200-m:Nat):Int) (Z.st i d) out) (RL Z d (Z.S.listed (fun i=>(Z.S.mY i).bind fun l j=>.ok [l] j) m out i)):=by
 intro m;induction m with
 |zero=>
  intro out i hi _ ho;refine kF.lp (fun n m=>by simp only[tW,nC,yp];exact rfl) ?_;refine Ev.sn (Bd h hi (k:=((200-0:Nat):Int)) (by omega)) ?_;exact kF.pure ⟨_,_,rfl⟩
 |succ m ih=>
  intro out i hi hm ho;have hlen:=h.len;refine kF.lp (fun n m=>by simp only[tW,nC,yp];exact rfl) ?_;refine Ev.sn (B5 hi (k:=((200-(m+1):Nat):Int)) (by omega)) ?_;have Fq:=k.mY hlen hi
  refine kF.lQ (P:=fun r=>match Z.S.mY i with
   |.ok l j=>j<Z.T.length/\r=PR.ok (((),(),out++[l],(Z.st j d,()),()),())
   |.er e a=>∃p,r=PR.pn (((),(),out,(p,()),()),{e:=e,nE:=a},())) ?_ fun r hr=>?_
  ·refine k8.fn (fun n=>by simp only[DR,kD,Bw,Al];exact rfl) ?_;refine k8.bind (apR h k hi) fun r hr=>?_
   cases hq:Z.S.mY i with
   |er e a=>
    rw[hq]at hr;obtain⟨p,rfl⟩:=hr;exact k8.pure ⟨p,rfl⟩
   |ok l j=>
    rw[hq]at hr;obtain⟨hj,rfl⟩:=hr;simp only[EZ,jM (show(out.length+1)*32<=17592186044416 by omega),jK];exact k8.pure ⟨hj,rfl⟩
  ·unfold nS.listed;cases hq:Z.S.mY i with
   |er e a=>
    rw[hq]at hr;obtain⟨p,rfl⟩:=hr;exact kF.pure ⟨_,_,rfl⟩
   |ok l j=>
    rw[hq]at hr Fq;obtain⟨hj,rfl⟩:=hr;obtain⟨q1,q2,q3⟩:=Fq;refine Ev.sn (tf h hj [44]) ?_;simp only[Rs.bind];cases hs:Z.S.tX [44] j with
    |true=>
     obtain⟨e,hl⟩:=k.Kj hj hs;simp only[jK];rw[show IntKind.i64.wrap (((200-(m+1):Nat):Int)+1)=((200-m:Nat):Int) by grind [lj]];exact ih _ _ (mS hj) (by omega) (by grind)
    |false=>exact kF.pure ⟨hj,rfl⟩
theorem anx(h:ny Z)(k:OY Z.S){i:Nat}(hi:i<Z.T.length):k8 (fun n=>A7 n (Z.st i d)) (RP Z d (Z.S.sW i)):=by
 refine k8.fn (fun n=>by simp only[A7,kD,D0,Al];exact rfl) ?_;refine Ev.to (tf h hi [46,123]) ?_;unfold nS.sW;cases hs:Z.S.tX [46,123] i with
 |false=>exact k8.pure ⟨hi,rfl⟩
 |true=>
  obtain⟨e,hl⟩:=k.Kj hi hs;simp only[jK];rw[e];refine k8.bind (P:=RL Z d (Z.S.listed (fun i=>(Z.S.mY i).bind fun l j=>.ok [l] j) 200 [] (i+1))) ?_ fun r hr=>?_
  ·refine k8.fn (fun n=>by simp only[rJ,kD,qY,Al];exact rfl) ?_;exact k8.yn (F:=fun n q=>nD n q 0 (Z.st (i+1) d) []) (aFB h k 200 [] _ hl (gG _) (gJ _))
  ·cases hq:Z.S.listed (fun i=>(Z.S.mY i).bind fun l j=>.ok [l] j) 200 [] (i+1)with
   |er e a=>
    rw[hq]at hr;obtain⟨p,l,rfl⟩:=hr;exact k8.pure ⟨_,rfl⟩
   |ok l j=>
    rw[hq]at hr;obtain⟨hj,rfl⟩:=hr;simp only[awN,Rs.yf];exact RU.step (xa h hj [125]) (fun q _ hql=>k8.pure ⟨hql,rfl⟩)
end
section
variable {Z:Cx}
theorem ad6{i:Nat}(hi:i<Z.T.length):Ev (fun n=>xC n (Z.st i d)) (Z.S.Pn i):=by
 refine Ev.fn (fun n=>by simp only[xC,kD,Dx,mB];exact rfl) ?_;refine Ev.bind (EV hi) ?_;unfold nS.Pn nS.tX nS.key nS.is;rw[Gp hi];cases h0:Z.T[i].kind==0 with
 |true=>grind [Ev.pure]
 |false=>
  cases h1:Z.T[i].kind==1 with
  |true=>grind [Ev.pure]
  |false=>
   simp only[jL,gE];cases h2:Z.T[i].kind==2 with
   |true=>
    have h3:(Z.T[i].kind==3)=false:=by rw[beq_iff_eq.1 h2];rfl
    grind [Ev.pure]
   |false=>
    grind [Ev.pure]
theorem aCH(h:ny Z){i:Nat}(hi:i<Z.T.length):Ev (fun n=>xe n (Z.st i d)) ((Z.st i d,()),Z.S.Cj i,()):=by
 refine Ev.fn (fun n=>by simp only[xe,kD,FM,yp];exact rfl) ?_;refine Ev.bind (ZB h hi) ?_;exact Ev.bind (ZB h hi) Ev.pure
theorem axl(h:ny Z){i:Nat}(hi:i<Z.T.length):k8 (fun n=>xI n (Z.st i d)) (RU Z d (bif (Z.S.K i).1==4 then .ok () i else Z.S.D5 i)):=by
 refine k8.fn (fun n=>by simp only[xI,kD,DL,Al];exact rfl) ?_;refine Ev.to (EV hi) ?_;rw[show(Z.S.K i).1=Z.T[i].kind by rw[Gp hi]];refine k8.bind (Gq h hi _) fun r hr=>?_
 cases hk:Z.T[i].kind==4 with
 |true=>rw[hk]at hr;obtain⟨_,rfl⟩:=hr;exact k8.pure ⟨hi,rfl⟩
 |false=>rw[hk]at hr;obtain⟨p,rfl⟩:=hr;exact k8.pure ⟨p,rfl⟩
theorem adB(t:kH)(s:Str):Ev (fun n=>xU n t s) (t.kind==2&&t.text==s):=by
 refine Ev.fn (fun n=>by simp only[xU,kD,Ar,mB];exact rfl) ?_;cases t.kind==2<;>exact Ev.pure
theorem arJ(h:ny Z){i p:Nat}:∀(f q:Nat)(out:List Str),q+f=Z.T.length->out.length<=q->∀k:Nat,∀hk:i+1+k=q,i+1<=Z.T.length->
 kZ (fun n m=>uq n m (Z.T.drop (i+1)) ((Z.T.drop (i+1)).length:Int) (k:Int) (Z.st p d) out) ((Z.st p d,()),Z.S.wr f out q,()):=by
 intro f;induction f with
 |zero=>
  intro q out hq ho k hk hi;refine kZ.lp (fun n m=>by simp only[FR,uo,mB];exact rfl) ?_;rw[jN (by rw[gB];omega)];exact kZ.pure
 |succ f ih=>
  intro q out hq ho k hk hi;have hlen:=h.len;have hql:q<Z.T.length:=by omega
  have hkl:k<(Z.T.drop (i+1)).length:=by rw[gB];omega
  have e0:(Z.T.drop (i+1))[k]=Z.T[q]:=by grind
  refine kZ.lp (fun n m=>by simp only[FR,uo,mB];exact rfl) ?_;rw[jM (show(k:Int)<((Z.T.drop (i+1)).length:Int) by omega)];simp only[jK,nA hkl,gy,e0];refine kZ.lQ (adB _ _) ?_;unfold nS.wr;have aCI:∀s,Z.S.tX s q=(Z.T[q].kind==2&&Z.T[q].text==s):=fun s=>by unfold nS.tX nS.is;rw[Gp hql]
  rw[aCI];cases Z.T[q].kind==2&&Z.T[q].text==[58]with
  |true=>exact kZ.pure
  |false=>
   simp only[jL];refine kZ.lQ (adB _ _) ?_;unfold nS.G7 nS.simple;rw[aCI,Gp hql];have aJV:=ih (q+1) (out++[Z.T[q].text]) (by omega) (by grind) (k+1) (by omega) hi;have e16:decide ((out.length+1)*16<=17592186044416)=true:=jM (by omega);cases Z.T[q].kind==2&&Z.T[q].text==[95]with
   |true=>
    grind [kM]
   |false=>
    simp only[jL,hU];cases Z.T[q].kind==0 with
    |false=>exact kZ.pure
    |true=>
     simp only[jK,gA];refine kZ.lQ (aCF _ (h.nE _ (gC hql)).2.2) ?_
     grind [kZ.pure,kM]
theorem axm(h:ny Z){i q:Nat}(hi:i<Z.T.length)(hq:q<Z.T.length):Ev (fun n=>zX n (Z.st q d) (i:Int)) ((Z.st q d,()),Z.S.zi i,()):=by
 refine Ev.fn (fun n=>by simp only[zX,kD,CE,mB];exact rfl) ?_;have hlen:=h.len;have e0:sQ (Z.st q d).ul.Ey (i:Int)=some Z.T[i]:=nA hi;simp only[e0,gy];refine Ev.bind (adB _ _) ?_;unfold nS.zi;rw[show Z.S.tX [40] i=(Z.T[i].kind==2&&Z.T[i].text==[40]) by unfold nS.tX nS.is;rw[Gp hi]];cases Z.T[i].kind==2&&Z.T[i].text==[40]with
 |false=>exact Ev.pure
 |true=>
  simp only[jK]
  have e2:decide (0<=((i+1:Nat):Int)/\((i+1:Nat):Int)<=((Z.st q d).ul.Ey.length:Int)/\((Z.st q d).ul.Ey.length:Int)<=((Z.st q d).ul.Ey.length:Int))=true:=
   jM ⟨by omega,by show((i+1:Nat):Int)<=(Z.T.length:Int);omega,gL _⟩
  rw[kM (by omega),e2];simp only[jK,gF,gX];exact Ev.yn (F:=fun n m=>uq n m (Z.T.drop (i+1)) ((Z.T.drop (i+1)).length:Int) 0 (Z.st q d) []) (arJ h (Z.T.length-(i+1)) (i+1) [] (by omega) (gJ _) 0 rfl (by omega))
inductive auJ:Syntax->Prop
 |mk {k:Int} {s:Str} {n:Int} {ns:List Str} {ls:List j7} {ks:List Syntax} {f t:Int} (h1:ns.length<=1000000) (h2:ls.length<=1000000) (h3:∀l∈ls,LSm l) (h4:ks.length<=1000000) (h5:∀x∈ks,auJ x):auJ (.mk k s n ns ls ks f t)
theorem apS{kind num:Int}(l:List kg)(c:kg)(body:Syntax)(f:Int):nS.XA kind num (l++[c]) body f=nS.XA kind num l (.mk kind c.name num [] [] [c.t,body] f body.to) f:=by
 grind [nS.XA]
theorem azW(x:Syntax)(l:List kg)(hl:l.length<=1000000):∀(k:Nat),k<=l.length->∀body:Syntax,
 kZ (fun n m=>vR n m l ((k:Int)-1) 0 x body) ((((),0),(x,()),(nS.XA x.kind x.num (l.take k) body x.k9,()),()),()):=by
 intro k;induction k with
 |zero=>
  intro hk body;refine kZ.lp (fun n m=>by simp only[Eb,tu,mB];exact rfl) ?_;rw[jN (by omega)];exact kZ.pure
 |succ k ih=>
  intro hk body;have hkl:k<l.length:=by omega
  refine kZ.lp (fun n m=>by simp only[Eb,tu,mB];exact rfl) ?_;rw[show((k+1:Nat):Int)-1=(k:Int) by omega,jM (Int.natCast_nonneg k)];simp only[jK,nA hkl,gy,beq_self_eq_true];refine kZ.lQ (x:=((((),0),(x,()),(Syntax.mk x.kind l[k].name x.num [] [] [l[k].t,body] x.k9 body.to,()),()),true,())) ?_ ?_
  ·refine Ev.fn (fun n=>by simp only[Dp,kD,Bl,mB];exact rfl) ?_;exact Ev.pure
  ·simp only[jK];rw[lj (by omega) (by omega)]
   grind [apS,iy]
theorem arK(x:Syntax)(l:List kg)(hl:l.length<=1000000)(body:Syntax):Ev (fun n=>Da n x l body) (nS.XA x.kind x.num l body x.k9):=by
 refine Ev.fn (fun n=>by simp only[Da,kD,Vj,mB];exact rfl) ?_;refine Ev.bind (x:=l) ?_ ?_
 ·refine Ev.fn (fun n=>by simp only[EB,kD,Cq,mB];exact rfl) ?_;exact Ev.pure
 ·refine Ev.bind (x:=((((),0),(x,()),(nS.XA x.kind x.num l body x.k9,()),()),())) ?_ Ev.pure;refine Ev.fn (fun n=>by simp only[CB,kD,As,mC];exact rfl) ?_
  grind [lj,azW,gX,Ev.yn]
end
theorem axn{x:Syntax}(h:auJ x):Ev (fun n=>uW n x x false) true:=by
 induction h with
 | @mk k s num ns ls ks f t h1 h2 h3 h4 h5 ih=>
   have vE:∀(d i:Nat),i+d=ks.length->kZ (fun n m=>FW (uW n) n m false (i:Int) (.mk k s num ns ls ks f t) (.mk k s num ns ls ks f t)) true:=by
    intro d;induction d with
    |zero=>
     intro i hi;refine kZ.lp (fun n m=>by simp only[WK,FV,mB];exact rfl) ?_;simp only[Syntax.prj,jN (show ¬ (i:Int)<(ks.length:Int) by omega),jL];exact kZ.pure
    |succ d ihd=>
     intro i hi;have me:i<ks.length:=by omega
     refine kZ.lp (fun n m=>by simp only[WK,FV,mB];exact rfl) ?_;simp only[Syntax.prj,jM (show(i:Int)<(ks.length:Int) by omega),jK,nA me,gy];refine kZ.lQ (ih _ (gC me)) ?_;rw[kM (by omega)];exact ihd (i+1) (by omega)
   have nU:∀(x:j7)(hx:x.nU.length<=1000000)(i:Nat)(hi:i<=1000000),kZ (fun n m=>zG (uW n) n m false ((i+1:Nat):Int) (.mk k s num ns ls ks f t) (.mk k s num ns ls ks f t)) true->
    ∀(d j:Nat),d+j=x.nU.length->∃N,∀n m q,N<=n->N<=m->N<=q->K5 (uW n) n (zG (uW n) n m) q false (i:Int) (j:Int) (.mk k s num ns ls ks f t) (.mk k s num ns ls ks f t) x x=some true:=by
    intro x hx i hi hr d;have hw:IntKind.i64.wrap ((i:Int)+1)=((i+1:Nat):Int):=kM (by omega);induction d with
    |zero=>
     intro j hj;obtain rfl:j=x.nU.length:=by omega
     obtain⟨N,hN⟩:=hr;refine⟨N+1,fun n m q hn hm hq=>?_⟩;obtain⟨q,rfl⟩:∃z,q=z+1:=⟨q-1,by omega⟩;simp only[WL,FX,il,decide_false,jL,hw,mB]
     grind
    |succ d ih2=>
     intro j hj;have h1:j<x.nU.length:=by omega
     have hwj:IntKind.i64.wrap ((j:Int)+1)=((j+1:Nat):Int):=kM (by omega);obtain⟨N,hN⟩:=ih2 (j+1) (by omega);refine⟨N+1,fun n m q hn hm hq=>?_⟩;obtain⟨q,rfl⟩:∃z,q=z+1:=⟨q-1,by omega⟩;have:=hN n m q (by omega) (by omega) (by omega);simp only[WL,FX,h1,iv,decide_true,jK,nA h1,gy,hwj,this,mB];simp
   have sW:∀(d i:Nat),i+d=ls.length->kZ (fun n m=>zG (uW n) n m false (i:Int) (.mk k s num ns ls ks f t) (.mk k s num ns ls ks f t)) true:=by
    intro d;induction d with
    |zero=>
     intro i hi;refine kZ.lp (fun n m=>by simp only[WM,FY];exact rfl) ?_;simp only[Syntax.prj,jN (show ¬ (i:Int)<(ls.length:Int) by omega),jL];exact kZ.P9 (Ev.yn (F:=fun n m=>FW (uW n) n m false 0 (.mk k s num ns ls ks f t) (.mk k s num ns ls ks f t)) (vE ks.length 0 (by omega)))
    |succ d ihd=>
     intro i hi;have me:i<ls.length:=by omega
     refine kZ.lp (fun n m=>by simp only[WM,FY];exact rfl) ?_;simp only[Syntax.prj,jM (show(i:Int)<(ls.length:Int) by omega),jK,nA me,gy,bne_self_eq_false,beq_self_eq_true,jL];have hx:ls[i].nU.length<=1000000:=iF (h3 _ (gC me)) (by decide);obtain⟨N,hN⟩:=nU ls[i] hx i (by omega) (ihd (i+1) (by omega)) ls[i].nU.length 0 (by omega);refine⟨N,fun n m hn hm=>?_⟩
     grind
   refine Ev.fn (fun n=>by simp only[uW,kD,Vg,mB];exact rfl) ?_;simp only[Syntax.prj,bne_self_eq_false,beq_self_eq_true,jL,jK];have hn:=agS ns ns (by unfold lim;omega);rw[aul]at hn;refine Ev.bind hn ?_;simp only[gK,jL,jK];exact Ev.yn (F:=fun n m=>zG (uW n) n m false 0 (.mk k s num ns ls ks f t) (.mk k s num ns ls ks f t)) (sW ls.length 0 (by omega))
theorem auK(l:List Str)(h:l.length<=1000000):Ev (fun n=>zR n l) ((l,()),()):=by
 refine⟨1,fun n hn=>?_⟩;obtain⟨k,rfl⟩:∃k,n=k+1:=⟨n-1,by omega⟩;cases l with
 |nil=>rfl
 |cons x xs=>
  grind [zR,Cn]
theorem auL(l:List j7)(h:l.length<=1000000):Ev (fun n=>vM n l) ((l,()),()):=by
 refine⟨1,fun n hn=>?_⟩;obtain⟨k,rfl⟩:∃k,n=k+1:=⟨n-1,by omega⟩;cases l with
 |nil=>rfl
 |cons x xs=>
  grind [vM,yg]
theorem auM(l:List Syntax)(h:l.length<=1000000):Ev (fun n=>zU n l) ((l,()),()):=by
 refine⟨1,fun n hn=>?_⟩;obtain⟨k,rfl⟩:∃k,n=k+1:=⟨n-1,by omega⟩;cases l with
 |nil=>rfl
 |cons x xs=>
  grind [zU,Cp]
theorem arL(l:List ko)(h:l.length<=1000000):Ev (fun n=>yP n l) l:=by
 refine⟨1,fun n hn=>?_⟩;obtain⟨k,rfl⟩:∃k,n=k+1:=⟨n-1,by omega⟩;cases l with
 |nil=>rfl
 |cons x xs=>
  grind [yP,Bk]
theorem azX(h:auJ t):Ev (fun n=>vF n t) t:=by
 induction h with
 | @mk k s num ns ls ks f t h1 h2 h3 h4 h5 ih=>
   have vE:∀(d i:Nat),i+d=ks.length->kZ (fun n m=>Cy (vF n) n m (ks.length:Int) (i:Int) k s num f t ns ls ks) (Syntax.mk k s num ns ls ks f t):=by
    intro d;induction d with
    |zero=>
     intro i hi;refine kZ.lp (fun n m=>by simp only[QY,Cw,mB];exact rfl) ?_
     grind [kZ.pure]
    |succ d ihd=>
     intro i hi;have me:i<ks.length:=by omega
     refine kZ.lp (fun n m=>by simp only[QY,Cw,mB];exact rfl) ?_;rw[jM (by omega)];simp only[jK,nA me,gy,gF,iz me];refine kZ.lQ (ih _ (gC me)) ?_;rw[iC,kM (by omega)];exact ihd (i+1) (by omega)
   have aLh:∀(d i:Nat),i+d=ls.length->kZ (fun n m=>CA (vF n) n m (ls.length:Int) (i:Int) k s num ks f t ns ls) (Syntax.mk k s num ns ls ks f t):=by
    intro d;induction d with
    |zero=>
     intro i hi;refine kZ.lp (fun n m=>by simp only[QZ,Cz,mB];exact rfl) ?_;rw[jN (by omega)];simp only[jL];refine kZ.lQ (auM ks h4) ?_;exact kZ.P9 (Ev.yn (F:=fun n m=>Cy (vF n) n m (ks.length:Int) 0 k s num f t ns ls ks) (vE ks.length 0 (by omega)))
    |succ d ihd=>
     intro i hi;have me:i<ls.length:=by omega
     refine kZ.lp (fun n m=>by simp only[QZ,Cz,mB];exact rfl) ?_;rw[jM (by omega)];simp only[jK,nA me,gy,gF,iz me];refine kZ.lQ (arL _ (iF (h3 _ (gC me)) (by decide))) ?_;simp only[jM me,jK];rw[show({Cj:=ls[i].Cj,nU:=ls[i].nU}:j7)=ls[i] from rfl,iC,kM (by omega)];exact ihd (i+1) (by omega)
   refine Ev.fn (fun n=>by simp only[vF,kD,Pb,mB];exact rfl) ?_;refine Ev.bind (auK ns h1) ?_;refine Ev.bind (auL ls h2) ?_;exact Ev.yn (F:=fun n m=>CA (vF n) n m (ls.length:Int) 0 k s num ks f t ns ls) (aLh ls.length 0 (by omega))
theorem auN(l:List Str)(hl:l.length<=1000000)(h:auJ t):Ev (fun n=>GF n l t) (nS.L6 l t):=by
 have key:∀(d i:Nat),i+d=l.length->kZ (fun n m=>Ef n m l (l.length:Int) (i:Int) t (nS.L6 (l.take i) t)) (nS.L6 l t):=by
  intro d;induction d with
  |zero=>
   intro i hi;refine kZ.lp (fun n m=>by simp only[Uh,Ee,mB];exact rfl) ?_
   grind [kZ.pure]
  |succ d ihd=>
   intro i hi;have me:i<l.length:=by omega
   refine kZ.lp (fun n m=>by simp only[Uh,Ee,mB];exact rfl) ?_;rw[jM (by omega)];simp only[jK,nA me,gy];refine kZ.lQ (azX h) ?_;have hlen:(nS.L6 (l.take i) t).length=i:=by grind [nS.L6]
   simp only[hlen,jM (show(i+1)*136<=17592186044416 by omega),jK];rw[kM (by omega),show nS.L6 (l.take i) t++[{name:=l[i],t:=t}]=nS.L6 (l.take (i+1)) t by grind [nS.L6,iy]];exact ihd (i+1) (by omega)
 refine Ev.fn (fun n=>by simp only[GF,kD,Ra,mB];exact rfl) ?_;exact Ev.yn (F:=fun n m=>Ef n m l (l.length:Int) 0 t []) (key l.length 0 (by omega))
inductive Rg:Syntax->Prop
 |mk {k:Int} {s:Str} {n:Int} {ns:List Str} {ls:List j7} {ks:List Syntax} {f t:Int} (h1:ns.length<=1000000) (h2:ls.length<=1000000) (h3:∀l∈ls,LSm l) (h4:ks.length<=1000000) (h5:k=13->ks.length=2) (h6:f<=t)
   (h7:∀x∈ks,Rg x) (h8:∀x∈ks,f<=x.k9/\x.to<=t):Rg (.mk k s n ns ls ks f t)
theorem Rg.le{x:Syntax}(h:Rg x):x.k9<=x.to:=by cases h;assumption
theorem Rg.leaf{s:Str}{n:Int}{t:Int}(hk:k≠13)(h6:f<=t)(h1:ns.length<=1000000)(h2:ls.length<=1000000)(h3:∀l∈ls,LSm l):Rg (.mk k s n ns ls [] f t):=
 .mk h1 h2 h3 (gJ _) (fun e=>absurd e hk) h6 (fun x hx=>by cases hx) fun x hx=>by cases hx
theorem Rg.anz{s:Str}{n:Int}{t:Int}(hk:k≠13)(h6:f<=t):Rg (.mk k s n [] [] [] f t):=.leaf hk h6 (gJ _) (gJ _) fun l hl=>by cases hl
theorem Rg.two{s:Str}{n:Int}{x y:Syntax}{t:Int}(hx:Rg x)(hy:Rg y)(h1:f<=x.k9)(h2:x.to<=t)(h3:f<=y.k9)(h4:y.to<=t):Rg (.mk k s n [] [] [x,y] f t):=by
 refine .mk (gJ _) (gJ _) (fun l hl=>by cases hl) (by decide:2<=1000000) (fun _=>rfl) (by have:=hx.le;omega) (fun z hz=>?_) fun z hz=>?_<;>
 ·grind
theorem Rg.one{s:Str}{n:Int}{x:Syntax}{t:Int}(hk:k≠13)(hx:Rg x)(h1:f<=x.k9)(h2:x.to<=t):Rg (.mk k s n [] [] [x] f t):=by
 refine .mk (gJ _) (gJ _) (fun l hl=>by cases hl) (by decide:1<=1000000) (fun e=>absurd e hk) (by have:=hx.le;omega) (fun z hz=>?_) fun z hz=>?_
 all_goals grind
theorem Rg.vE{x:Syntax}(h:Rg x):∀y∈x.vE,Rg y/\x.k9<=y.k9/\y.to<=x.to:=by
 cases h;rename_i h7 h8;exact fun y hy=>⟨h7 y hy,h8 y hy⟩
theorem Rg.aCJ{x:Syntax}(h:Rg x):x.kind=13->x.vE.length=2:=by cases h;assumption
theorem Rg.NS{x:Syntax}(h:Rg x)(hf:f<=x.k9):Rg (nS.NS x f):=by
 cases h;rename_i h1 h2 h3 h4 h5 h6 h7 h8;exact .mk h1 h2 h3 h4 h5 (gW hf h6) h7 fun y hy=>⟨gW hf (h8 y hy).1,(h8 y hy).2⟩
inductive Chn:Int->Int->List Syntax->Prop
 |nil {a b:Int}:Chn a b []
 |cons {a b:Int} {x:Syntax} {l:List Syntax}:a<=x.k9->Rg x->x.to<=b->Chn x.to b l->Chn a b (x::l)
theorem Chn.left {a' b:Int}{l:List Syntax}(h:Chn a b l)(ha:a'<=a):Chn a' b l:=by
 cases h with
 |nil=>exact .nil
 |cons h1 h2 h3 h4=>exact .cons (gW ha h1) h2 h3 h4
theorem Chn.right {b b':Int}{l:List Syntax}(h:Chn a b l)(hb:b<=b'):Chn a b' l:=by
 induction h with
 |nil=>exact .nil
 |cons h1 h2 h3 _ ih=>exact .cons h1 h2 (gW h3 hb) (ih hb)
theorem Chn.mem {b:Int}{l:List Syntax}(h:Chn a b l):∀x∈l,Rg x/\a<=x.k9/\x.to<=b:=by
 induction h with
 |nil=>intro x hx;cases hx
 |cons h1 h2 h3 _ ih=>
  intro y hy;rcases List.mem_cons.1 hy with rfl|hy
  ·exact⟨h2,h1,h3⟩
  ·obtain⟨k1,k2,k3⟩:=ih y hy;have:=h2.le;exact⟨k1,by omega,k3⟩
theorem Chn.axb {b c:Int}{l:List Syntax}{y:Syntax}(h:Chn a b l)(hy:Rg y)(h1:a<=y.k9)(h2:b<=y.k9)(h3:y.to<=c):Chn a c (l++[y]):=by
 induction h with
 |nil=>exact .cons h1 hy h3 .nil
 |cons k1 k2 k3 _ ih=>exact .cons k1 k2 (by have:=hy.le;omega) (ih (by omega) h2)
theorem Rg.aJW{s:Str}{n:Int}{l:List Syntax}{t b:Int}(hk:k≠13)(h:Chn a b l)(hl:l.length<=1000000)(h6:f<=t)(ha:f<=a)(hb:b<=t)(h1:ns.length<=1000000)(h2:ls.length<=1000000)(h3:∀l∈ls,LSm l):Rg (.mk k s n ns ls l f t):=
 .mk h1 h2 h3 hl (fun e=>absurd e hk) h6 (fun x hx=>(h.mem x hx).1) fun x hx=>by have:=h.mem x hx;omega
theorem Chn.RT{b:Int}:∀(l:List Syntax){a:Int}{x:Syntax},Chn a b (x::l)->Rg (nS.RT b l x)/\(nS.RT b l x).k9=x.k9/\(nS.RT b l x).to<=b
 |[],a,x,.cons _ h2 h3 _=>⟨h2,rfl,h3⟩
 |y::l,a,x,.cons h1 h2 h3 h4=>by
  obtain⟨k1,k2,k3⟩:=Chn.RT l h4;have:=h2.le;cases h4 with
  |cons q1 _ _ _=>exact⟨.two h2 k1 (gL _) h3 (by omega) k3,rfl,gL _⟩
theorem arM{k n f:Int}{body:Syntax}(hb:Rg body)(hf:f<=body.k9):∀l:List kg,(∀b∈l,Rg b.t/\f<=b.t.k9/\b.t.to<=body.to)->Rg (nS.XA k n l body f)/\f<=(nS.XA k n l body f).k9/\(nS.XA k n l body f).to=body.to
 |[],_=>⟨hb,hf,rfl⟩
 |b::l,h=>by
  obtain⟨k1,k2,k3⟩:=arM (k:=k) (n:=n) hb hf l fun c hc=>h c (by simp [hc])
  obtain⟨q1,q2,q3⟩:=h b (by simp);exact⟨.two q1 k1 q2 (gW q3 (Int.le_of_eq k3.symm)) k2 (gL _),gL _,k3⟩
theorem ajF(l:List Str)(t:Syntax):(nS.L6 l t).length=l.length:=List.length_map _
theorem apT{l:List Str}{b:kg}(h:b∈nS.L6 l t):b.t=t:=by
 obtain⟨s,_,rfl⟩:=List.mem_map.1 h;rfl
structure Pos(S:nS):Prop where
 ef:∀i,i<S.len->S.E i<=S.F i
 fe:∀i,i+1<S.len->S.F i<=S.E (i+1)
theorem Pos.ee{S:nS}(p:Pos S){i:Nat}(h:i<=j)(hj:j<S.len):S.E i<=S.E j:=by
 obtain⟨k,rfl⟩:=Nat.le.dest h;induction k with
 |zero=>exact gL _
 |succ k ih=>
  have h2:=p.ef (i+k) (by omega);have h3:=p.fe (i+k) (by omega)
  grind
theorem Pos.fl{S:nS}(p:Pos S){i:Nat}(h:i<j)(hj:j<S.len):S.F i<=S.E j:=gW (p.fe i (by omega)) (p.ee h hj)
theorem Pos.ff{S:nS}(p:Pos S){i:Nat}(h:i<=j)(hj:j<S.len):S.F i<=S.F j:=by
 rcases Nat.lt_or_ge i j with h1|h1
 ·exact gW (p.fl h1 hj) (p.ef j hj)
 grind
def Ex(S:nS)(i:Nat)(x:Syntax)(j:Nat):Prop:=i<j/\j<S.len/\Rg x/\S.F i<=x.k9/\x.to<=S.E j
def L7(S:nS)(r:Nat->Rs Syntax):Prop:=∀i,i<S.len->(r i).M1 S (Ex S i)
theorem Ex.ahf{S:nS}(p:Pos S){i i':Nat}{x:Syntax}(h:Ex S i x j)(hi:i'<=i):Ex S i' x j:=by
 obtain⟨h1,h2,h3,h4,h5⟩:=h;have:=p.ff hi (by omega);exact⟨by omega,h2,h3,by omega,h5⟩
theorem Ex.on{S:nS}(p:Pos S){i j':Nat}{x:Syntax}(h:Ex S i x j)(hj:j<=j')(hl:j'<S.len):Ex S i x j':=by
 obtain⟨h1,h2,h3,h4,h5⟩:=h;have:=p.ee hj hl;exact⟨by omega,hl,h3,h4,by omega⟩
def aiF(S:nS):Prop:=∀(l:List Syntax)(a b:Int),l≠[]->Chn a b l->(S.np l).2.2=0->Rg (S.np l).1/\a<=(S.np l).1.k9/\(S.np l).1.to<=b
end Go.Abs
