/- A part of the proof: plain facts. -/
import Derived.Test.YtpdbjkgnmjnebaaGreatDoorLawA
import Derived.KernelRfl
import Derived.Test.YtpdbjkgnmjnebaaGreatDoorReadA
set_option linter.all false
open Option renaming bind_some→iH
open List renaming drop_eq_getElem_cons→iI,length_cons→iJ,length_drop→iK,drop_eq_nil_of_le→iL,getElem_mem→iM,cons_append→iN,mem_cons_self→iO,drop_zero→iQ,mem_singleton→iS,drop_drop→iU,drop_append_of_le_length→iW,contains_iff_mem→iX,mem_append→iZ,take_of_length_le→jd,length_append→je,all_cons→jg,take_nil→jh,append_assoc→ji,take_length→jj,contains_eq_any_beq→jk,all_eq_true→jl,length_nil→jn,take_zero→jo,take_append_drop→jq,mem_append_right→jr,mem_cons_of_mem→jt,take_succ_cons→jw
open Bool renaming and_eq_true→iP,not_false→jb,true_and→jf,and_false→jp,not_true→ju,and_true→jv
open Nat renaming le_refl→iR,strongRecOn→iV,zero_le→iY,lt_or_ge→jm,zero_add→jx
open Int renaming le_refl→iT,natCast_nonneg→ja,toNat_natCast→jc
noncomputable section
namespace Go.Abs
variable {lM out:List Str}{j8 l r:List Syntax}{a i j q:Nat}{o:Out}{s t:Str}{x y:Syntax}{W O:Type}{c w:UInt8}{n:jI}
abbrev StP:=((List Syntax)×(Int×Unit))×((Int×Unit)×((List (Str×jI))×((List (Str×jI))×((List (Str×Bool))×Unit))))
def pos(L r:List Syntax):Int:=((L.length-r.length:Nat):Int)
theorem aum {L t:List Syntax}(h:L=t++r):pos L r=(t.length:Int):=by
 grind [pos]
theorem aoQ(L:List Syntax):pos L []=(L.length:Int):=rfl
theorem aCJ(L:List Syntax):pos L L=0:=by unfold pos;rw[Nat.sub_self];rfl
theorem ab5{L:List Syntax}(h:y::r<:+L):decide ((L.length:Int)<=pos L (y::r))=false/\Ab L (pos L (y::r))=some y:=by
 obtain⟨t,rfl⟩:=h
 grind [aum,q6]
theorem arH{L:List Syntax}(h:y::r<:+L)(hL:L.length<=cap):IntKind.i64.wrap (pos L (y::r)+1)=pos L r:=by
 obtain⟨t,rfl⟩:=h;simp only[cap]at hL;rw[je]at hL;rw[aum rfl,aum (t:=t++[y]) (by simp),kX (by omega),je,List.length_singleton]
theorem aw7{L:List Syntax}(h:y::r<:+L):r<:+L:=(List.suffix_cons y r).trans h
section prog
variable (L:List Syntax) (sz:Int) (B C:List (Str×jI)) (I:List (Str×Bool))
def psP(r:List Syntax):StP:=((L,pos L r,()),(sz,()),B,C,I,())
def ame:Out->PR (StP×(Syntax×(Int×Unit))) (StP×(Unit×Unit))
 |.RE q=>.pn (psP L sz B C I q,(),())
 |.val x h q=>.ok (psP L sz B C I q,x,h,())
 |.j8 _ _ q=>.pn (psP L sz B C I q,(),())
def azQ(n:jI)(start:Int):Out->PR (StP×(Syntax×Unit)) (StP×(Unit×Unit))
 |.RE q=>.pn (psP L sz B C I q,(),())
 |.val _ _ q=>.pn (psP L sz B C I q,(),())
 |.j8 l e q=>.ok (psP L sz B C I q,ab3 n l start e,())
theorem YV(h:r<:+L):Ev (fun f=>wz f L (pos L r) sz B C I) (psP L sz B C I r,match ag2 r with|none=>([],false,())|some s=>(s,true,())):=by
 refine Ev.fn (fun n=>by simp only[wz,kA,BT,mC];exact rfl) ?_
 match r,h with
 |[],h=>
  rw[aoQ,jA (iT _)];exact Ev.pure
 |y::r,h=>
  obtain⟨h1,h2⟩:=ab5 h;rw[h1,h2];simp only[jz,iH];rw[show ag2 (y::r)=bif y.kind==17 then some y.text else none from rfl,bne];cases y.kind==17<;>exact Ev.pure
theorem aCK(n:jI)(j8:List Syntax)(hl:j8.length<=cap)(f t:Int)(r:List Syntax):∀(d i:Nat)(k:Int)(s:Str)(wi:List Syntax)(a b:Int),i+d=j8.length->
 li (fun g m=>vC (kj g) g m f t (j8.length:Int) (i:Int) L (pos L r) sz B C I j8 k s wi a b) (.ok (psP L sz B C I r,akG (Syntax.mk k s 0 [] [] wi a b) (j8.drop i) f t,())):=by
 simp only[cap]at hl;intro d;induction d with
 |zero=>
  intro i k s wi a b hi;refine li.lp (fun n m=>by simp only[HM,vB,kD,EH];exact rfl) ?_;have:decide ((i:Int)<(j8.length:Int))=false:=jB (by omega);simp only[this,jz,iL (show j8.length<=i by omega)];exact li.pure
 |succ d ih=>
  intro i k s wi a b hi;have mR:i<j8.length:=by omega
  refine li.lp (fun n m=>by simp only[HM,vB,kD,EH];exact rfl) ?_;have:decide ((i:Int)<(j8.length:Int))=true:=jA (by omega);simp only[this,jy];refine li.Qi mR ?_;rw[kX (by omega),iI mR];exact ih (i+1) 2 [] _ f t (by omega)
theorem aCL(n:jI)(j8:List Syntax)(hl:j8.length<=cap)(f t:Int)(r:List Syntax):∀(d i:Nat)(k:Int)(s:Str)(wi:List Syntax)(a b:Int),i+d=j8.length->
 li (fun g m=>vE (kj g) g m f t j8 (j8.length:Int) (i:Int) L (pos L r) sz B C I k s wi a b) (.ok (psP L sz B C I r,akG (Syntax.mk k s 0 [] [] wi a b) (j8.drop i) f t,())):=by
 simp only[cap]at hl;intro d;induction d with
 |zero=>
  intro i k s wi a b hi;refine li.lp (fun n m=>by simp only[HN,vD,kD,EH];exact rfl) ?_;have:decide ((i:Int)<(j8.length:Int))=false:=jB (by omega);simp only[this,jz,iL (show j8.length<=i by omega)];exact li.pure
 |succ d ih=>
  intro i k s wi a b hi;have mR:i<j8.length:=by omega
  refine li.lp (fun n m=>by simp only[HN,vD,kD,EH];exact rfl) ?_;have:decide ((i:Int)<(j8.length:Int))=true:=jA (by omega);simp only[this,jy];refine li.Qi mR ?_;rw[kX (by omega),iI mR];exact ih (i+1) 2 [] _ f t (by omega)
def PG:Cmd->Out->Prop
 |.mW m r,o=>Ev (fun f=>nG f m L (pos L r) sz B C I) (ame L sz B C I o)
 |.first m r,o=>Ev (fun f=>l5 f m L (pos L r) sz B C I) (ame L sz B C I o)
 |.loop m out has r,o=>li (fun f k=>qi (kj f) f k m has L (pos L r) sz B C I out) (ame L sz B C I o)
 |.parts n ps i j8 e r,o=>Ok n->∀(kM j:Nat)(start:Int),i=kM+j->kM+j<=n.parts.length->ps=n.parts.drop i->j8.length<=i->
     li (fun f k=>yt (kj f) f k (kM:Int) start e (n.parts.drop kM) ((n.parts.drop kM).length:Int) (j:Int) L (pos L r) sz B C I n j8) (azQ L sz B C I n start o)/\
     li (fun f k=>vF (kj f) f k (kM:Int) j8 start e (n.parts.drop kM) ((n.parts.drop kM).length:Int) (j:Int) L (pos L r) sz B C I n) (azQ L sz B C I n start o)
variable {L} {sz} {B} {C} {I} {T:List jI}
theorem azR(h:j8.length<17):decide ((j8.length+1)*120<=17592186044416)=true:=jA (by omega)
theorem NQ(k:Ok n){kM:Nat}(hf:kM<=n.parts.length)(ho:j8.length<=kM)(h:PG L sz B C I (.parts n (n.parts.drop kM) kM j8 0 r) o)(start:Int):
 Ev (fun f=>oX f n (kM:Int) j8 start L (pos L r) sz B C I) (azQ L sz B C I n start o):=by
 refine Ev.fn (fun n=>by simp only[Yj,zF,kD,AZ];exact rfl) ?_;rw[jA (show(0:Int)<=(kM:Int)/\(kM:Int)<=(n.parts.length:Int)/\(n.parts.length:Int)<=(n.parts.length:Int) by omega)];simp only[jy,jc,jj];exact Ev.Il (F:=fun f k=>vF (kj f) f k (kM:Int) j8 start 0 (n.parts.drop kM) ((n.parts.drop kM).length:Int) 0 L (pos L r) sz B C I n) (h k kM 0 start (by omega) (by omega) rfl ho).2
theorem aiR{ps:List Str}{kM:Nat}(hps:s::ps=n.parts.drop i)(hi:i=kM+j):
 ((j:Int)<((n.parts.drop kM).length:Int))/\Ab (n.parts.drop kM) (j:Int)=some s/\ps=n.parts.drop (i+1)/\i<n.parts.length:=by
 grind [iJ,iI,q6]
theorem af3 {kM:Nat}(hi:i=kM+j)(k:Ok n)(hle:kM+j<=n.parts.length):IntKind.i64.wrap ((kM:Int)+(j:Int))=((kM+j:Nat):Int):=by
 have:=k.few
 grind [nv]
theorem L7.prog(g:TOk T)(X:Idx T sz B C I)(hL:L.length<=cap){c:Cmd}(h:L7 T c o):c.rest<:+L->PG L sz B C I c o:=by
 induction h with
 | @Xa n i j8 e r=>
   intro hr k kM j start hi hle hps ho
   have hj:kM+j=n.parts.length:=by
    grind [jn]
   have he:decide ((j:Int)<((n.parts.drop kM).length:Int))=false:=jB (by rw[iK];omega);have hoc:j8.length<=cap:=by have:=k.sml;omega
   constructor
   ·refine li.lp (fun n m=>by simp only[ul,qj,kD,EH];exact rfl) ?_;simp only[he,jz];have:=aCK L sz B C I n j8 hoc start e r j8.length 0 0 n.target [] start e (by omega);exact li.of1 (Ev.Il (F:=fun f m=>vC (kj f) f m start e (j8.length:Int) 0 L (pos L r) sz B C I j8 0 n.target [] start e) this)
   ·refine li.lp (fun n m=>by simp only[um,qk,kD,EH];exact rfl) ?_;simp only[he,jz];have:=aCL L sz B C I n j8 hoc start e r j8.length 0 0 n.target [] start e (by omega);exact li.of1 (Ev.Il (F:=fun f m=>vE (kj f) f m start e j8 (j8.length:Int) 0 L (pos L r) sz B C I 0 n.target [] start e) this)
 | @af0 n ps i j8 e r q h1 ih=>
   intro hr k kM j start hi hle hps ho;obtain⟨mR,hx,hd,hil⟩:=aiR hps hi;constructor
   ·refine li.lp (fun n m=>by simp only[ul,qj,kD,EH];exact rfl) ?_;rw[jA mR];simp only[jy,hx,iH,beq_self_eq_true];rw[af3 hi k hle,<-hi];refine li.nL (YT k (i:=i) (by omega)) (li.nL (ih hr) ?_);exact li.pure
   ·refine li.lp (fun n m=>by simp only[um,qk,kD,EH];exact rfl) ?_;rw[jA mR];simp only[jy,hx,iH,beq_self_eq_true];rw[af3 hi k hle,<-hi];refine li.nL (YT k (i:=i) (by omega)) (li.nL (ih hr) ?_);exact li.pure
 | @KL n ps i j8 e r x h q o h1 h2 ih1 ih2=>
   intro hr k kM j start hi hle hps ho;obtain⟨mR,hx,hd,hil⟩:=aiR hps hi;have hq:q<:+L:=(h1.aeG (o:=.val x h q)).trans hr;have next:=(ih2 hq k kM (j+1) start (by omega) (by omega) hd (by grind)).1
   have hw:IntKind.i64.wrap ((j:Int)+1)=((j+1:Nat):Int):=kX (by have:=k.few;omega);constructor
   ·refine li.lp (fun n m=>by simp only[ul,qj,kD,EH];exact rfl) ?_;rw[jA mR];simp only[jy,hx,iH,beq_self_eq_true];rw[af3 hi k hle,<-hi];refine li.nL (YT k (i:=i) (by omega)) (li.nL (ih1 hr) ?_);simp only[ame,F7,psP];rw[azR (by have:=k.few;omega),hw];exact next
   ·refine li.lp (fun n m=>by simp only[um,qk,kD,EH];exact rfl) ?_;rw[jA mR];simp only[jy,hx,iH,beq_self_eq_true];rw[af3 hi k hle,<-hi];refine li.nL (YT k (i:=i) (by omega)) (li.nL (ih1 hr) ?_);simp only[ame,F7,psP];rw[azR (by have:=k.few;omega),hw];exact next
 | @akH n s ps i j8 e r hs hq=>
   intro hr k kM j start hi hle hps ho;obtain⟨mR,hx,hd,hil⟩:=aiR hps hi;have hs':(s==[])=false:=beq_eq_false_iff_ne.2 hs;constructor
   ·refine li.lp (fun n m=>by simp only[ul,qj,kD,EH];exact rfl) ?_;rw[jA mR];simp only[jy,hx,iH,hs',jz];refine li.nL (YV L sz B C I hr) ?_;cases hy:ag2 r with
    |none=>exact li.pure
    |some t=>
     have:(t==s)=false:=beq_eq_false_iff_ne.2 fun e=>hq (by rw[hy,e])
     simp only[jy,this,jz];exact li.pure
   ·refine li.lp (fun n m=>by simp only[um,qk,kD,EH];exact rfl) ?_;rw[jA mR];simp only[jy,hx,iH,hs',jz];refine li.nL (YV L sz B C I hr) ?_;cases hy:ag2 r with
    |none=>exact li.pure
    |some t=>
     have:(t==s)=false:=beq_eq_false_iff_ne.2 fun e=>hq (by rw[hy,e])
     simp only[jy,this,jz];exact li.pure
 | @yC n s ps i j8 e y r o hs hk ht h2 ih=>
   intro hr k kM j start hi hle hps ho;obtain⟨mR,hx,hd,hil⟩:=aiR hps hi;have hs':(s==[])=false:=beq_eq_false_iff_ne.2 hs;simp only[Cmd.rest]at hr ih;obtain⟨aIS,aIT⟩:=ih (aw7 hr) k kM (j+1) start (by omega) (by omega) hd (by omega);have hw:IntKind.i64.wrap ((j:Int)+1)=((j+1:Nat):Int):=kX (by have:=k.few;omega);have hp:=arH hr hL;constructor
   ·refine li.lp (fun n m=>by simp only[ul,qj,kD,EH];exact rfl) ?_;rw[jA mR];simp only[jy,hx,iH,hs',jz];refine li.nL (YV L sz B C I hr) ?_
    simp_all [avm,psP,ab5]
   ·refine li.lp (fun n m=>by simp only[um,qk,kD,EH];exact rfl) ?_;rw[jA mR];simp only[jy,hx,iH,hs',jz];refine li.nL (YV L sz B C I hr) ?_
    simp_all [avm,psP,ab5]
 | @Xb m=>
   intro hr;show Ev (fun f=>l5 f m L (pos L []) sz B C I) _;refine Ev.fn (fun n=>by simp only[uo,pJ,kD,AZ];exact rfl) ?_;rw[aoQ,jA (iT _)];exact Ev.pure
 | @Nw m x r hx=>
   intro hr;show Ev (fun f=>l5 f m L (pos L (x::r)) sz B C I) _;refine Ev.fn (fun n=>by simp only[uo,pJ,kD,AZ];exact rfl) ?_;obtain⟨h1,h2⟩:=ab5 hr;rw[h1,h2,arH hr hL];have:(x.kind !=17)=true:=by grind
   simp only[jz,iH,this,jy];exact Ev.pure
 | @Xc m x r hx hb=>
   intro hr;show Ev (fun f=>l5 f m L (pos L (x::r)) sz B C I) _;refine Ev.fn (fun n=>by simp only[uo,pJ,kD,AZ];exact rfl) ?_;obtain⟨h1,h2⟩:=ab5 hr;rw[h1,h2];have:(x.kind !=17)=false:=by rw[bne,beq_iff_eq.2 hx];rfl
   simp only[jz,iH,this,X.b];unfold amd at hb;cases hf:z8 T x.text false with
   |none=>exact Ev.pure
   |some n=>
    rw[hf]at hb;have kn:=g.ok (Nv hf).1;simp only[oel];cases hc:rgt n&&decide (n.mW<m)with
    |false=>simp only[hc]at hb;cases hb
    |true=>
     rw[iP]at hc;refine Ev.bind (I6 kn.pos kn.sml).1 ?_;rw[hc.1,hc.2];exact Ev.pure
 | @ab4 m x r n q hx hb h1 ih=>
   intro hr;show Ev (fun f=>l5 f m L (pos L (x::r)) sz B C I) _;refine Ev.fn (fun n=>by simp only[uo,pJ,kD,AZ];exact rfl) ?_;obtain⟨e1,e2⟩:=ab5 hr;rw[e1,e2];have:(x.kind !=17)=false:=by rw[bne,beq_iff_eq.2 hx];rfl
   obtain⟨hn,hl,hh,aE2⟩:=acG hb;have kn:=g.ok hn;have hf:z8 T x.text false=some n:=by grind [acE]
   simp only[jz,iH,this,X.b,hf,oel];have uh:=NQ kn (iY _) (iR 0) (j8:=[]) (ih hr) x.kM;refine Ev.bind (I6 kn.pos kn.sml).1 ?_;cases hrg:rgt n with
   |true=>
    have:decide (n.mW<m)=false:=jB (by have:=aE2 hrg;omega);simp only[jy,this,jz];refine Ev.bind (I6 kn.pos kn.sml).1 ?_;rw[hrg];exact Ev.bind uh Ev.pure
   |false=>
    simp only[jz];refine Ev.bind (I6 kn.pos kn.sml).1 ?_;rw[hrg];exact Ev.bind uh Ev.pure
 | @first m x r n l e q hx hb h1 ih=>
   intro hr;show Ev (fun f=>l5 f m L (pos L (x::r)) sz B C I) _;refine Ev.fn (fun n=>by simp only[uo,pJ,kD,AZ];exact rfl) ?_;obtain⟨e1,e2⟩:=ab5 hr;rw[e1,e2];have:(x.kind !=17)=false:=by rw[bne,beq_iff_eq.2 hx];rfl
   obtain⟨hn,hl,hh,aE2⟩:=acG hb;have kn:=g.ok hn;have hf:z8 T x.text false=some n:=by grind [acE]
   simp only[jz,iH,this,X.b,hf,oel];have uh:=NQ kn (iY _) (iR 0) (j8:=[]) (ih hr) x.kM;refine Ev.bind (I6 kn.pos kn.sml).1 ?_;have ho:azJ n=bif rgt n then n.mW else 101:=rfl
   cases hrg:rgt n with
   |true=>
    rw[hrg]at ho;have:decide (n.mW<m)=false:=jB (by have:=aE2 hrg;omega);simp only[jy,this,jz];refine Ev.bind (I6 kn.pos kn.sml).1 ?_;rw[hrg];refine Ev.bind uh ?_
    grind [azQ,ame,F7,Ev.pure]
   |false=>
    rw[hrg]at ho;simp only[jz];refine Ev.bind (I6 kn.pos kn.sml).1 ?_;rw[hrg];refine Ev.bind uh ?_
    grind [azQ,ame,F7,Ev.pure]
 | @stop m out has r hg=>
   intro hr;show li (fun f k=>qi (kj f) f k m has L (pos L r) sz B C I out) _;refine li.lp (fun n m=>by simp only[A6,s9,kD,EH];exact rfl) ?_;refine li.nL (YV L sz B C I hr) ?_;unfold amc at hg;cases hs:ag2 r with
   |none=>exact li.pure
   |some s=>
    rw[hs]at hg;simp only at hg;simp only[jy,psP,X.c];cases hf:z8 T s true with
    |none=>exact li.pure
    |some n=>
     rw[hf]at hg;have kn:=g.ok (Nv hf).1;simp only[oel];cases h1:decide (n.mW<m)with
     |true=>exact li.pure
     |false=>
      simp only[jz];refine li.nL (YT kn (i:=0) kn.pos) ?_;cases h2:decide (has<ad2 n 0)with
      |true=>exact li.pure
      |false=>simp [h1,h2]at hg
 | @arz m out has r n q hg h1 ih=>
   intro hr;show li (fun f k=>qi (kj f) f k m has L (pos L r) sz B C I out) _;refine li.lp (fun n m=>by simp only[A6,s9,kD,EH];exact rfl) ?_;refine li.nL (YV L sz B C I hr) ?_;obtain⟨hn,hl,hs,hm,hh⟩:=acH hg;have kn:=g.ok hn;have hf:z8 T (qw n) true=some n:=by rw[<-hl];exact acE g hn
   have uh:=NQ kn kn.pos (iR 1) (j8:=[out]) (ih hr) out.kM;rw[hs];simp only[jy,psP,X.c,hf,oel];rw[jB (show ¬ n.mW<m by omega)];simp only[jz];refine li.nL (YT kn (i:=0) kn.pos) ?_;rw[jB (show ¬ has<ad2 n 0 by omega)];exact li.nL uh li.pure
 | @go m out has r n l e q o hg h1 h2 ih1 ih2=>
   intro hr;show li (fun f k=>qi (kj f) f k m has L (pos L r) sz B C I out) _;refine li.lp (fun n m=>by simp only[A6,s9,kD,EH];exact rfl) ?_;refine li.nL (YV L sz B C I hr) ?_;obtain⟨hn,hl,hs,hm,hh⟩:=acH hg;have kn:=g.ok hn;have hf:z8 T (qw n) true=some n:=by rw[<-hl];exact acE g hn
   have uh:=NQ kn kn.pos (iR 1) (j8:=[out]) (ih1 hr) out.kM;rw[hs];simp only[jy,psP,X.c,hf,oel];rw[jB (show ¬ n.mW<m by omega)];simp only[jz];refine li.nL (YT kn (i:=0) kn.pos) ?_;rw[jB (show ¬ has<ad2 n 0 by omega)];refine li.nL uh ?_;exact ih2 ((h1.aeG (o:=.j8 l e q)).trans hr)
 | @Xd m r q h1 ih=>
   intro hr;show Ev (fun f=>nG f m L (pos L r) sz B C I) _;refine Ev.fn (fun n=>by simp only[Lf,wE,kD,AZ];exact rfl) ?_;exact Ev.bind (ih hr) Ev.pure
 | @mW m r x h q o h1 h2 ih1 ih2=>
   intro hr;show Ev (fun f=>nG f m L (pos L r) sz B C I) _;refine Ev.fn (fun n=>by simp only[Lf,wE,kD,AZ];exact rfl) ?_;refine Ev.bind (ih1 hr) ?_;exact Ev.Il (F:=fun f k=>qi (kj f) f k m h L (pos L q) sz B C I x) (ih2 ((h1.aeG (o:=.val x h q)).trans hr))
end prog
section ref
variable (T:List jI) (L:List Syntax)
variable {T} {L}
theorem Ev.aIE{S R:Type}{F:Nat->Option S}{x:S}{G:Nat->S->Option R}{Q:R->Prop}(h:Ev F x)(hg:l3 (fun n=>G n x) Q):l3 (fun n=>(F n).bind (G n)) Q:=
 l3.bind (h.tot (Q:=(· =x)) rfl) fun y hy=>by subst hy;exact hg
end ref
def azS(T:List jI)(b:Bool)(r:PR (Unit×Unit) (((Int×Unit)×((List (Str×jI))×((List (Str×jI))×((List (Str×Bool))×Unit))))×Unit)):Prop:=
 (b=true/\∃sz B C I,r=.pn (((sz,()),B,C,I,()),())/\Idx T sz B C I)\/(b=false/\r=.ok ((),()))
theorem anj{T:List jI}(hl:T.length<=cap)(h:∀n∈T,Nsm n):
 l3 (fun f=>Ae f T) (azS T (Vq T)):=by
 refine l3.fn (fun n=>by simp only[Ae,kA,Jw,mC];exact rfl) ?_;simp only[cap]at hl
 have aEx:Ev (fun f=>FP f) (((0,()),[],[],[],()),()):=by
  refine Ev.fn (fun n=>by simp only[FP,kA,Ia,mC];exact rfl) ?_;exact Ev.pure
 refine aEx.aIE ?_
 have key:∀(d i:Nat)(sz:Int)(B C:List (Str×jI))(I:List (Str×Bool)),i+d=T.length->TOk (T.take i)->Idx (T.take i) sz B C I->
  lu (fun f m=>zc f m T (T.length:Int) (i:Int) sz B C I) (azS T (aJI (T.take i) (T.drop i))):=by
  intro d;induction d with
  |zero=>
   intro i sz B C I hi g X;refine lu.lp (fun n m=>by simp only[MJ,zb,mB];exact rfl) ?_;have:decide ((i:Int)<(T.length:Int))=false:=jB (by omega);simp only[this,jz,iL (show T.length<=i by omega)];rw[jd (by omega)]at X;exact lu.pure (.inl ⟨by first|rfl|trivial,sz,B,C,I,rfl,X⟩)
  |succ d ih=>
   intro i sz B C I hi g X;have mR:i<T.length:=by omega
   refine lu.lp (fun n m=>by simp only[MJ,zb,mB];exact rfl) ?_;have:decide ((i:Int)<(T.length:Int))=true:=jA (by omega);simp only[this,jy];refine lu.Qi mR ?_;refine lu.nL (avp g X (h _ (iM mR))) fun r hr=>?_
   obtain⟨h1,h2⟩:=hr;rw[h1,iI mR,aJI];cases ha:Qd (T.take i) T[i]==0 with
   |false=>simp only[bne,ha,jb,jy,Bool.false_and];exact lu.pure (.inr ⟨rfl,rfl⟩)
   |true=>
    simp only[bne,ha,ju,jz,jf];have h0:=beq_iff_eq.1 ha;have g':=g.aoF h0;have X':=h2 h0;have e:T.take i++[T[i]]=T.take (i+1):=by simp_all
    grind [kX]
 have:=key T.length 0 0 [] [] [] (by omega) (by rw[jo];exact TOk.nil) (by rw[jo];exact Idx.nil);rw[jo,iQ]at this;exact l3.Il (F:=fun f m=>zc f m T (T.length:Int) 0 0 [] [] []) this
def zS:Syntax:=.mk 0 [] 0 [] [] [] 0 0
def pP(L:List Syntax):Out->Syntax×Int×Int
 |.RE q=>(zS,pos L q,4)
 |.val x _ q=>bif q.isEmpty then(x,0,0)else(zS,pos L q,4)
 |.j8 _ _ _=>(zS,0,0)
theorem aun{T:List jI}{L:List Syntax}(hl:T.length<=cap)(h:∀n∈T,Nsm n)(hL:L.length<=cap)(ht:Vq T=true)(hb: ¬ 4096<L.length)(ho:L7 T (.mW 0 L) o):
 Ev (fun f=>wI f T L) (pP L o):=by
 obtain⟨ri,hri,evi⟩:=anj hl h;have evt:=ani hl h;have aHo:decide ((4096:Int)<(L.length:Int))=decide (4096<L.length):=decide_eq_decide.2 (by omega);have g:=TOk.of ht;rcases hri with⟨_,sz,B,C,I,rfl,X⟩|⟨ht',rfl⟩
 ·rw[ht]at evt;refine Ev.fn (fun n=>by simp only[wI,kA,Np,EH];exact rfl) ?_;refine Ev.bind evi ?_;simp only[F7,aHo,jB hb,jz];have hp:Ev (fun f=>nG f 0 L (pos L L) sz B C I) (ame L sz B C I o):=L7.prog g X hL ho (List.suffix_refl _);rw[aCJ]at hp;refine Ev.bind hp ?_
  have qp:∀(x:Syntax)(q:List Syntax),Ev (fun f=>(wP f () x 0 0 L (pos L q) sz B C I).bind fun x=>some (x.fst.snd.fst.fst,x.fst.snd.snd.fst.fst,x.fst.snd.snd.snd.fst.fst)) (zS,pos L q,4):=by
   intro x q;refine Ev.bind (x:=(((),(zS,()),(pos L q,()),(4,()),(L,pos L q,()),(sz,()),B,C,I,()),())) ?_ Ev.pure;refine Ev.fn (fun n=>by simp only[wP,kA,Ft,mB];exact rfl) ?_;exact Ev.pure
  rcases Qe ho rfl with⟨q,rfl⟩|⟨x,hh,q,rfl⟩
  ·simp only[ame,F7,psP];exact qp _ _
  ·simp only[ame,F7,psP];have hs:q<:+L:=ho.aeG (o:=.val x hh q)
   match q,hs with
   |[],hs=>
    rw[aoQ,jB (Int.lt_irrefl _)];simp only[jz];refine Ev.bind (x:=(((),(x,()),(0,()),(0,()),(L,(L.length:Int),()),(sz,()),B,C,I,()),())) ?_ Ev.pure;refine Ev.fn (fun n=>by simp only[yT,kA,Fs,mB];exact rfl) ?_;exact Ev.pure
   |y::q,hs=>
    have:=(ab5 hs).1;rw[jA (show pos L (y::q)<(L.length:Int) by grind)];exact qp _ _
 ·rw[ht]at ht';cases ht'
section
variable {Z:Cx}
variable {ex ta:Nat->Rs Syntax} {d:Int}
def ahN(to:Int):List Syntax->Syntax->Syntax
 |[],o=>o
 |x::l,o=>.mk 6 [] 0 [] [] [x,ahN to l o] x.kM to
theorem akN(to:Int):∀(l:List Syntax)(x:Syntax)(h:(x::l)≠[]),oQ.aJC to l x=ahN to (x::l).dropLast ((x::l).getLast h)
 |[],x,_=>rfl
 |y::l,x,_=>by
  show Syntax.mk 6 [] 0 [] [] [x,oQ.aJC to l y] x.kM to=Syntax.mk 6 [] 0 [] [] [x,ahN to (y::l).dropLast ((y::l).getLast (by simp))] x.kM to;rw[akN to l y (by simp)]
theorem akO(to:Int):∀(l:List Syntax)(x o:Syntax),ahN to (l++[x]) o=ahN to l (.mk 6 [] 0 [] [] [x,o] x.kM to)
 |[],_,_=>rfl
 |y::l,x,o=>by rw[iN,ahN,akO to l x o,ahN]
theorem aE3(h:uB Z)(hq:q<Z.T.length)(a0:Syntax)(l:List Syntax)(hl:l.length<=100000):∀(k:Nat),k<=l.length->∀o:Syntax,
 li (fun n m=>tf (jK n) n m ((k:Int)-1) (Z.st q d) a0 l o) (.ok (((Z.st q d,()),()),oQ.YQ (ahN (Z.S.E q) (l.take k) o) a0.kM,())):=by
 intro k;induction k with
 |zero=>
  intro hk o;refine li.lp (fun n m=>by simp only[HX,vP,j9,EH];exact rfl) ?_;rw[jB (by omega)];exact li.pure
 |succ k ih=>
  intro hk o;have hkl:k<l.length:=by omega
  refine li.lp (fun n m=>by simp only[HX,vP,j9,EH];exact rfl) ?_;rw[show((k+1:Nat):Int)-1=(k:Int) by omega,jA (ja k)];simp only[jy,q6 hkl,iH];refine li.nL (YR h hq) ?_;rw[nv (by omega) (by omega)]
  grind [akO,List.take_append_getElem]
theorem aE4(h:uB Z)(hex:Nx Z d kp ex)(a0 x:Syntax):∀(m:Nat)(out:List Syntax)(i:Nat),i<Z.T.length->m+out.length=199->
 lu (fun n q=>vR (jK n) n q (Z.st i d) a0 (x::out)) (RP Z d ((Z.S.agZ ex m out i).bind fun l k=>(Z.S.take [41] k).bind fun _ q=>.ok (oQ.YQ (oQ.aJC (Z.S.E q) l x) a0.kM) q)):=by
 intro m
 have xw:∀(out:List Syntax)(i:Nat),i<Z.T.length->out.length<=199->lu (fun n _=>(mA n [41] (Z.st i d)).bind fun y=>F7 y (fun y=>(Ab (x::out) (IntKind.i64.wrap (((x::out).length:Int)-1))).bind fun x_1=>tf (jK n) n n (IntKind.i64.wrap (((x::out).length:Int)-2)) y.fst.fst.fst a0 (x::out) x_1) fun y=>some (PR.pn (((y.fst.fst.fst,()),()),y.snd.fst,())))
  (RP Z d ((Z.S.take [41] i).bind fun _ q=>.ok (oQ.YQ (oQ.aJC (Z.S.E q) out x) a0.kM) q)):=by
  intro out i hi ho;refine lu.of1 ?_;refine RU.step (xp h hi [41]) fun q _ hq=>?_
  have hlen:(x::out).length=out.length+1:=rfl;have e1:IntKind.i64.wrap (((x::out).length:Int)-1)=(out.length:Int):=by grind [nv]
  have e2:IntKind.i64.wrap (((x::out).length:Int)-2)=((out.length:Nat):Int)-1:=by grind [nv]
  have mR:out.length<(x::out).length:=by omega
  rw[e1,e2,q6 mR];simp only[iH];refine Ev.tot (Ev.Il (F:=fun n m=>tf (jK n) n m ((out.length:Int)-1) (Z.st q d) a0 (x::out) (x::out)[out.length]) (aE3 h hq a0 (x::out) (by omega) out.length (by omega) _)) ⟨hq,?_⟩
  grind [akN,List.dropLast_eq_take]
 induction m with
 |zero=>
  intro out i hi hm;refine lu.lp (fun n m=>by simp only[HY,vQ,j9,EH];exact rfl) ?_;refine Ev.G4 (th h hi [44]) ?_;unfold oQ.agZ;cases hs:Z.S.yC [44] i with
  |true=>
   refine Ev.G4 (BL h (tS hi) (k:=((x::out).length:Int)) (by rw[iJ];omega)) ?_;exact lu.pure ⟨_,rfl⟩
  |false=>exact xw out i hi (by omega)
 |succ m ih=>
  intro out i hi hm;refine lu.lp (fun n m=>by simp only[HY,vQ,j9,EH];exact rfl) ?_;refine Ev.G4 (th h hi [44]) ?_;unfold oQ.agZ;cases hs:Z.S.yC [44] i with
  |true=>
   simp only[jy];refine Ev.G4 (CD (tS hi) (k:=((x::out).length:Int)) (by rw[iJ];omega)) ?_;rw[Rs.bind_assoc];refine RP.akx (hex _ (tS hi)) (fun y j _ hj=>?_)
   grind
  |false=>exact xw out i hi (by omega)
theorem auo(h:uB Z)(k:SOk Z.S)(hex:Nx Z d kp ex)(o i:Nat)(hi:i<Z.T.length):l3 (fun n=>p4 n (.mk 0 [] 0 [] [] [] (Z.S.F o) 0) (Z.st i d)) (RP Z d (Z.S.Nq ex o i)):=by
 refine l3.fn (fun n=>by simp only[YJ,zY,j9,AZ];exact rfl) ?_;unfold oQ.Nq;refine RP.step (hex i hi) fun x j _ hj=>?_
 refine Ev.to (th h hj [41]) ?_;cases h1:Z.S.yC [41] j with
 |true=>exact l3.pure ⟨tS hj,rfl⟩
 |false=>
  simp only[jz];refine Ev.to (th h hj [58]) ?_;cases h2:Z.S.yC [58] j with
  |true=>
   simp only[jy];refine RP.step (hex _ (tS hj)) fun t k _ hk=>?_
   refine RU.step (xp h hk [41]) fun q _ hq=>?_
   exact Ev.to (YR h hq) (l3.pure ⟨hq,rfl⟩)
  |false=>
   simp only[jz];refine Ev.to (Im hj [44]) ?_;refine l3.bind (G5 h hj _) fun r hr=>?_
   cases h3:Z.S.yC [44] j with
   |true=>
    rw[h3]at hr;obtain⟨_,rfl⟩:=hr;exact l3.Il (F:=fun n q=>vR (jK n) n q (Z.st j d) (.mk 0 [] 0 [] [] [] (Z.S.F o) 0) [x]) (aE4 h hex _ x 199 [] j hj rfl)
   |false=>
    rw[h3]at hr;obtain⟨p,rfl⟩:=hr;exact l3.pure ⟨_,rfl⟩
def aw8(Z:Cx):Prop:=∀l:List Syntax,l≠[]->l.length<=200->Ev (fun n=>wI n Z.tb l) (Z.np l)/\0<=(Z.np l).2.1
theorem arI (h:uB Z) (hn:aw8 Z) (hi:i<Z.T.length) (l:List Syntax) (hl:l.length<=200):
 l3 (fun n=>(mz n (decide (0<(l.length:Int))) (Z.st i d)).bind fun x=>F7 x (fun x=>
  bif (l.length:Int)==1 then(Ab l 0).bind fun x_1=>bif x_1.kind !=17 then(Ab l 0).bind fun x_2=>some (PR.ok (((x.fst.fst.fst,()),()),x_2,()))
   else(wI n x.fst.fst.fst.IA l).bind fun x_2=>bif x_2.snd.snd !=0 then bif decide (x_2.snd.fst<(l.length:Int))then(Ab l x_2.snd.fst).bind fun x_3=>some (PR.pn (((x.fst.fst.fst,()),()),{e:=x_2.snd.snd,rB:=x_3.kM},()))
    else bif x_2.snd.snd !=0 then(mT n x_2.snd.snd x.fst.fst.fst).bind fun x=>F7 x (fun x=>some (PR.ok (((x.fst.fst.fst,()),()),x_2.fst,()))) fun y=>some (PR.pn (((y.fst.fst.fst,()),()),y.snd.fst,()))
    else some (PR.ok (((x.fst.fst.fst,()),()),x_2.fst,()))
    else bif x_2.snd.snd !=0 then(mT n x_2.snd.snd x.fst.fst.fst).bind fun x=>F7 x (fun x=>some (PR.ok (((x.fst.fst.fst,()),()),x_2.fst,()))) fun y=>some (PR.pn (((y.fst.fst.fst,()),()),y.snd.fst,()))
    else some (PR.ok (((x.fst.fst.fst,()),()),x_2.fst,()))
  else (wI n x.fst.fst.fst.IA l).bind fun x_1=>bif x_1.snd.snd !=0 then bif decide (x_1.snd.fst<(l.length:Int)) then (Ab l x_1.snd.fst).bind fun x_2=>some (PR.pn (((x.fst.fst.fst,()),()),{e:=x_1.snd.snd,rB:=x_2.kM},()))
        else bif x_1.snd.snd !=0 then(mT n x_1.snd.snd x.fst.fst.fst).bind fun x=>F7 x (fun x=>some (PR.ok (((x.fst.fst.fst,()),()),x_1.fst,()))) fun y=>some (PR.pn (((y.fst.fst.fst,()),()),y.snd.fst,()))
        else some (PR.ok (((x.fst.fst.fst,()),()),x_1.fst,()))
   else bif x_1.snd.snd !=0 then(mT n x_1.snd.snd x.fst.fst.fst).bind fun x=>F7 x (fun x=>some (PR.ok (((x.fst.fst.fst,()),()),x_1.fst,()))) fun y=>some (PR.pn (((y.fst.fst.fst,()),()),y.snd.fst,()))
   else some (PR.ok (((x.fst.fst.fst,()),()),x_1.fst,()))) fun y=>some (PR.pn (((y.fst.fst.fst,()),()),y.snd.fst,()))) (RP Z d (Z.S.afW l i)):=by
 match l,hl with
 |[],_=>exact l3.bind (G5 h hi _) fun r hr=>by obtain⟨p,rfl⟩:=hr;exact l3.pure ⟨_,rfl⟩
 |x::r,hl=>
  obtain⟨Xr,ala⟩:=hn (x::r) (by simp) hl;have e0:decide (0<((x::r).length:Int))=true:=jA (by rw[iJ];omega);rw[e0];refine l3.bind (G5 h hi true) fun r' hr=>?_
  obtain⟨_,rfl⟩:=hr;simp only[F7];unfold oQ.afW
  have np:l3 (fun n=>(wI n (Z.st i d).IA (x::r)).bind fun x_1=>bif x_1.snd.snd !=0 then bif decide (x_1.snd.fst<((x::r).length:Int))then(Ab (x::r) x_1.snd.fst).bind fun x_2=>some (PR.pn (((Z.st i d,()),()),{e:=x_1.snd.snd,rB:=x_2.kM},()))
         else bif x_1.snd.snd !=0 then(mT n x_1.snd.snd (Z.st i d)).bind fun x=>F7 x (fun x=>some (PR.ok (((x.fst.fst.fst,()),()),x_1.fst,()))) fun y=>some (PR.pn (((y.fst.fst.fst,()),()),y.snd.fst,()))
         else some (PR.ok (((Z.st i d,()),()),x_1.fst,()))
        else bif x_1.snd.snd !=0 then(mT n x_1.snd.snd (Z.st i d)).bind fun x=>F7 x (fun x=>some (PR.ok (((x.fst.fst.fst,()),()),x_1.fst,()))) fun y=>some (PR.pn (((y.fst.fst.fst,()),()),y.snd.fst,()))
        else some (PR.ok (((Z.st i d,()),()),x_1.fst,()))) (RP Z d (bif (Z.S.np (x::r)).2.2==0 then .ok (Z.S.np (x::r)).1 i else match (x::r)[(Z.S.np (x::r)).2.1.toNat]? with|some y=>.er (Z.S.np (x::r)).2.2 y.kM|none=>.er (Z.S.np (x::r)).2.2 (Z.S.F i))):=by
   refine Ev.to Xr ?_;show l3 _ (RP Z d (bif (Z.np (x::r)).2.2==0 then .ok (Z.np (x::r)).1 i else match (x::r)[(Z.np (x::r)).2.1.toNat]? with|some y=>.er (Z.np (x::r)).2.2 y.kM|none=>.er (Z.np (x::r)).2.2 (Z.S.F i)));revert ala;generalize Z.np (x::r)=p;intro ala;obtain⟨y,rB,e⟩:=p;simp only at ala ⊢;obtain⟨k,rfl⟩:∃k:Nat,rB=(k:Int):=⟨rB.toNat,by omega⟩;cases he:e==0 with
   |true=>
    simp only[bne,he,ju,jz,jy];exact l3.pure ⟨hi,rfl⟩
   |false=>
    simp only[bne,he,jb,jz,jy,jc];by_cases hk:k<(x::r).length
    ·rw[jA (show(k:Int)<((x::r).length:Int) by omega),q6 hk,List.getElem?_eq_getElem hk];exact l3.pure ⟨_,rfl⟩
    ·rw[jB (show ¬ (k:Int)<((x::r).length:Int) by omega),List.getElem?_eq_none (by omega)];exact Ev.to (Rx h hi e) (l3.pure ⟨_,rfl⟩)
  cases r with
  |cons y r=>
   have e1:(((x::y::r).length:Int)==1)=false:=by grind
   rw[e1];exact np
  |nil=>
   have e1:((([x]:List Syntax).length:Int)==1)=true:=rfl;have e2:Ab [x] 0=some x:=rfl;rw[e1,e2];simp only[jy,iH,List.isEmpty_nil,jf,bne];cases x.kind==17 with
   |true=>exact np
   |false=>exact l3.pure ⟨hi,rfl⟩
theorem aup(h:uB Z)(hc:∀s,Ev (fun n=>nZ n Z.sy s) (Z.sy.contains s))(hn:aw8 Z)(ha:Nx Z d pI (Z.S.aeD ex ta)):∀(m:Nat)(out:List Syntax)(i:Nat),i<Z.T.length->m+out.length=200->
 lu (fun n q=>wR (jK n) n q (Z.st i d) out) (RP Z d ((Z.S.EE ex ta m out i).bind Z.S.afW)):=by
 intro m;induction m with
 |zero=>
  intro out i hi hm;have rm:lu (fun n (_:Nat)=>(k8 n (out.length:Int) (Z.st i d))) (· =.pn (((Z.st i d,()),()),{e:=7,rB:=Z.S.F i},())):=lu.of1 (Ev.tot (BL h hi (by omega)) rfl);refine lu.lp (fun n m=>by simp only[MK,zd,j9,EH];exact rfl) ?_;refine Ev.G4 (aky hc hi) ?_;unfold oQ.EE;cases hs:Z.S.OR i with
  |true=>exact Ev.G4 (BL h hi (k:=(out.length:Int)) (by omega)) (lu.pure ⟨_,rfl⟩)
  |false=>
   simp only[jz,Bool.false_or];refine Ev.G4 (acB hi) ?_;cases hb:Z.S.LV i with
   |true=>exact Ev.G4 (BL h hi (k:=(out.length:Int)) (by omega)) (lu.pure ⟨_,rfl⟩)
   |false=>exact lu.of1 (arI h hn hi out (by omega))
 |succ m ih=>
  intro out i hi hm
  have go:lu (fun n q=>(k8 n (out.length:Int) (Z.st i d)).bind fun x=>F7 x (fun x=>(pI n x.fst.fst.fst).bind fun x=>F7 x (fun x=>bif decide ((out.length+1)*120<=17592186044416)then wR (jK n) n q x.fst.fst.fst (out++[x.snd.fst])else none)
   fun y=>some (PR.pn (((y.fst.fst.fst,()),()),y.snd.fst,()))) fun y=>some (PR.pn (((y.fst.fst.fst,()),()),y.snd.fst,()))) (RP Z d (((Z.S.aeD ex ta i).bind fun x j=>Z.S.EE ex ta m (out++[x]) j).bind Z.S.afW)):=by
   refine Ev.G4 (CD hi (k:=(out.length:Int)) (by omega)) ?_;rw[Rs.bind_assoc];refine RP.akx (ha i hi) fun x j _ hj=>?_
   grind
  refine lu.lp (fun n m=>by simp only[MK,zd,j9,EH];exact rfl) ?_;refine Ev.G4 (aky hc hi) ?_;unfold oQ.EE;cases hs:Z.S.OR i with
  |true=>exact go
  |false=>
   simp only[jz,Bool.false_or];refine Ev.G4 (acB hi) ?_;cases hb:Z.S.LV i with
   |true=>exact go
   |false=>exact lu.of1 (arI h hn hi out (by omega))
theorem aE5(h:uB Z)(hc:∀s,Ev (fun n=>nZ n Z.sy s) (Z.sy.contains s))(hn:aw8 Z)(ha:Nx Z d pI (Z.S.aeD ex ta)):Nx Z d rn (Z.S.op ex ta):=by
 intro i hi;refine l3.fn (fun n=>by simp only[aeC,EB,j9,AZ];exact rfl) ?_;exact l3.Il (F:=fun n q=>wR (jK n) n q (Z.st i d) []) (aup h hc hn ha 200 [] i hi rfl)
end
section
variable {Z:Cx}
variable {ex ta:Nat->Rs Syntax} {d:Int}
def aHp(S:oQ)(ex:Nat->Rs Syntax)(sh:Str)(l:List Str)(i:Nat):Rs (List jS):=(S.take [58] i).bind fun _ i=>(ex i).bind fun t i=>(S.take sh i).bind fun _ i=>.ok (oQ.Ue l t) i
theorem Rg.xw(h:Rg x):azu x:=by
 induction h with
 |mk h1 h2 h3 h4 h5 h6 h7 h8 ih=>exact .mk h1 h2 h3 h4 ih
theorem aiS(h:uB Z)(hx:Ns Z.S ex)(hex:Nx Z d kp ex)(sh:Str){l:List Str}(hl:l.length<=200)(hi:i<Z.T.length):
 l3 (fun n=>(mA n [58] (Z.st i d)).bind fun x=>F7 x (fun x=>(kp n x.fst.fst.fst).bind fun x=>F7 x (fun x=>(mA n sh x.fst.fst.fst).bind fun x_1=>F7 x_1 (fun x_2=>(Hu n l x.snd.fst).bind fun x=>some (PR.ok (((x_2.fst.fst.fst,()),()),x,())))
    fun y=>some (PR.pn (((y.fst.fst.fst,()),()),y.snd.fst,()))) fun y=>some (PR.pn (((y.fst.fst.fst,()),()),y.snd.fst,()))) fun y=>some (PR.pn (((y.fst.fst.fst,()),()),y.snd.fst,()))) (RP Z d (aHp Z.S ex sh l i)):=by
 refine RU.step (xp h hi [58]) fun j _ hj=>?_
 refine RP.step (hex j hj) fun t k hq hk=>?_
 have ht:=hx j hj;rw[hq]at ht;refine RU.step (xp h hk sh) fun q _ hq=>?_
 exact Ev.to (arl l (by omega) ht.2.2.1.xw) (l3.pure ⟨hq,rfl⟩)
theorem aCM(h:uB Z)(hx:Ns Z.S ex)(hex:Nx Z d kp ex){op:Str}(ho:(op==[91])=false)(sh:Str):∀(m:Nat)(out:List Str)(i:Nat),i<Z.T.length->m+out.length=200->
 lu (fun n q=>yz (jK n) n q op sh (Z.st i d) out) (RP Z d ((Z.S.MQ m out i).bind fun l i=>aHp Z.S ex sh l i)):=by
 intro m;induction m with
 |zero=>
  intro out i hi hm;refine lu.lp (fun n m=>by simp only[HW,vM,j9];exact rfl) ?_;simp only[ho,jz];refine Ev.G4 (Ry h hi) ?_;unfold oQ.MQ;cases hs:Z.S.MP i with
  |true=>exact Ev.G4 (BL h hi (k:=(out.length:Int)) (by omega)) (lu.pure ⟨_,rfl⟩)
  |false=>exact lu.of1 (aiS h hx hex sh (by omega) hi)
 |succ m ih=>
  intro out i hi hm;refine lu.lp (fun n m=>by simp only[HW,vM,j9];exact rfl) ?_;simp only[ho,jz];refine Ev.G4 (Ry h hi) ?_;unfold oQ.MQ;cases hs:Z.S.MP i with
  |true=>
   simp only[jy];refine Ev.G4 (CD hi (k:=(out.length:Int)) (by omega)) ?_;refine Ev.G4 (xS h hi) ?_
   grind [tS]
  |false=>exact lu.of1 (aiS h hx hex sh (by omega) hi)
theorem akP(h:uB Z)(hx:Ns Z.S ex)(hex:Nx Z d kp ex)(op sh:Str)(hi:i<Z.T.length):l3 (fun n=>ow n op sh (Z.st i d)) (RP Z d (Z.S.FG ex op sh i)):=by
 refine l3.fn (fun n=>by simp only[YI,zX,j9];exact rfl) ?_;unfold oQ.FG;refine RU.step (xp h hi op) fun j _ hj=>?_
 cases ho:op==[91]with
 |true=>
  simp only[jy];rw[Rs.bind_assoc];refine RP.step (acA h hj) fun s k _ hk=>?_
  refine l3.Il (F:=fun n q=>vN (jK n) n q op sh [s] (Z.st k d)) ?_;refine lu.lp (fun n m=>by simp only[vN,xR,j9];exact rfl) ?_;simp only[ho,jy];exact lu.of1 (aiS h hx hex sh (show [s].length<=200 by simp) hk)
 |false=>
  simp only[jz];unfold oQ.vars;rw[Rs.bind_assoc];refine RP.step (acA h hj) fun s k _ hk=>?_
  refine l3.Il (F:=fun n q=>vN (jK n) n q op sh [s] (Z.st k d)) ?_;refine lu.lp (fun n m=>by simp only[vN,xR,j9];exact rfl) ?_;simp only[ho,jz];refine Ev.G4 (Ry h hk) ?_;unfold oQ.MQ;cases hs:Z.S.MP k with
  |true=>
   simp only[jy];refine Ev.G4 (CD hk (k:=1) (by omega)) ?_;refine Ev.G4 (xS h hk) ?_;exact aCM h hx hex ho sh 198 _ _ (tS hk) rfl
  |false=>exact lu.of1 (aiS h hx hex sh (show [s].length<=200 by simp) hk)
theorem arJ(h:uB Z)(hex:Nx Z d kp ex)(k n:Int)(o:Nat){l:List jS}(hl:l.length<=1000000)(sep:Str)(hi:i<Z.T.length):
 l3 (fun f=>pH f (.mk k [] n [] [] [] (Z.S.F o) 0) l sep (Z.st i d)) (RP Z d (Z.S.F6 ex k n o l sep i)):=by
 refine l3.fn (fun n=>by simp only[WV,yB,j9,AZ];exact rfl) ?_;unfold oQ.F6;refine RU.step (xp h hi sep) fun j _ hj=>?_
 refine RP.step (hex j hj) fun x q _ hq=>?_
 exact Ev.to (aoD _ l hl x) (l3.pure ⟨hq,rfl⟩)
def aE6(S:oQ)(ex:Nat->Rs Syntax)(f:Int)(l:List jS)(j:Nat):Rs Syntax:=(S.take [61,62] j).bind fun _ j=>(ex j).bind fun x k=>.ok (oQ.adn 3 0 l x f) k
theorem arK(h:uB Z)(hex:Nx Z d kp ex)(f:Int){l:List jS}(hl:l.length<=1000000)(hi:i<Z.T.length):
 l3 (fun n=>(mA n [61,62] (Z.st i d)).bind fun x=>F7 x (fun x=>(kp n x.fst.fst.fst).bind fun x=>F7 x (fun x=>(DI n (Syntax.mk 3 [] 0 [] [] [] f 0) l x.snd.fst).bind fun x_1=>some (PR.ok (((x.fst.fst.fst,()),()),x_1,())))
    fun y=>some (PR.pn (((y.fst.fst.fst,()),()),y.snd.fst,()))) fun y=>some (PR.pn (((y.fst.fst.fst,()),()),y.snd.fst,()))) (RP Z d (aE6 Z.S ex f l i)):=by
 refine RU.step (xp h hi _) fun j _ hj=>?_
 refine RP.step (hex j hj) fun x q _ hq=>?_
 exact Ev.to (aoD _ l hl x) (l3.pure ⟨hq,rfl⟩)
theorem azT (h:uB Z) (k:SOk Z.S) (p:Pos Z.S) (hx:Ns Z.S ex) (hex:Nx Z d kp ex) (f:Int): ∀ (m:Nat) (out:List jS) (i:Nat),i<Z.T.length->m<=200->(out=[]↔m=200)->out.length<=200*(200-m)->
 lu (fun n q=>tL (jK n) n q f ((200-m:Nat):Int) (Z.st i d) out) (RP Z d ((Z.S.aal ex m out i).bind (aE6 Z.S ex f))):=by
 intro m;induction m with
 |zero=>
  intro out i hi _ ho hl;refine lu.lp (fun n m=>by simp only[LG,x9,j9,EH];exact rfl) ?_;rw[show(((200-0:Nat):Int)==0)=false by decide];simp only[jz];refine Ev.G4 (Im hi [61,62]) ?_;unfold oQ.aal;cases hs:Z.S.yC [61,62] i with
  |true=>exact lu.of1 (arK h hex f (by omega) hi)
  |false=>exact Ev.G4 (BL h hi (k:=((200-0:Nat):Int)) (by decide)) (lu.pure ⟨_,rfl⟩)
 |succ m ih=>
  intro out i hi hm ho hl
  have go:lu (fun n q=>(k8 n ((200-(m+1):Nat):Int) (Z.st i d)).bind fun x=>F7 x (fun x=>(nF n x.fst.fst.fst [40]).bind fun x_1=>bif x_1 then
        (ow n [40] [41] x.fst.fst.fst).bind fun x=>F7 x (fun x=>bif decide ((out.length+x.snd.fst.length)*136<=17592186044416)then tL (jK n) n q f (IntKind.i64.wrap (((200-(m+1):Nat):Int)+1)) x.fst.fst.fst (out++x.snd.fst)else none) fun y=>some (PR.pn (((y.fst.fst.fst,()),()),y.snd.fst,()))
   else(pU n x.fst.fst.fst).bind fun x=>F7 x (fun x=>(xB n x.fst.fst.fst).bind fun x_2=>bif decide ((out.length+1)*136<=17592186044416)then tL (jK n) n q f (IntKind.i64.wrap (((200-(m+1):Nat):Int)+1)) x_2.fst.fst (out++[{name:=x.snd.fst,t:=x_2.snd.fst}])else none)
    fun y=>some (PR.pn (((y.fst.fst.fst,()),()),y.snd.fst,()))) fun y=>some (PR.pn (((y.fst.fst.fst,()),()),y.snd.fst,())))
   (RP Z d ((bif Z.S.yC [40] i then(Z.S.FG ex [40] [41] i).bind fun l j=>Z.S.aal ex m (out++l) j else(Z.S.var i).bind fun s j=>Z.S.aal ex m (out++[{name:=s,t:=Z.S.KL j}]) j).bind (aE6 Z.S ex f))):=by
   refine Ev.G4 (CD hi (k:=((200-(m+1):Nat):Int)) (by omega)) ?_;refine Ev.G4 (Im hi [40]) ?_;rw[show IntKind.i64.wrap (((200-(m+1):Nat):Int)+1)=((200-m:Nat):Int) by grind [nv]];cases hs:Z.S.yC [40] i with
   |true=>
    simp only[jy];rw[Rs.bind_assoc];refine RP.akx (akP h hx hex [40] [41] hi) fun l j hq hj=>?_
    have hb:=k.FG p hx (op:=[40]) (sh:=[41]) (i:=i) hi;rw[hq]at hb;obtain⟨b1,b2,_⟩:=hb;simp only[jA (show(out.length+l.length)*136<=17592186044416 by omega),jy];refine ih _ _ hj (by omega) ⟨fun e=>?_,fun e=>by omega⟩ (by rw[je];omega)
    simp_all
   |false=>
    simp only[jz];rw[Rs.bind_assoc];refine RP.akx (acA h hi) fun s j hq hj=>?_
    refine Ev.G4 (azt h hj) ?_;simp only[jA (show(out.length+1)*136<=17592186044416 by omega),jy];exact ih _ _ hj (by omega) ⟨fun e=>by simp at e,fun e=>by omega⟩ (by grind)
  refine lu.lp (fun n m=>by simp only[LG,x9,j9,EH];exact rfl) ?_;unfold oQ.aal;by_cases h0:m+1=200
  ·grind
  ·have e1:(((200-(m+1):Nat):Int)==0)=false:=by rw[beq_eq_false_iff_ne];omega
   have e2:out.isEmpty=false:=by
    grind
   rw[e1,e2];simp only[jz,jb,jv];refine Ev.G4 (Im hi [61,62]) ?_;cases hs:Z.S.yC [61,62] i with
   |true=>exact lu.of1 (arK h hex f (by omega) hi)
   |false=>exact go
theorem aCN(h:uB Z)(k:SOk Z.S)(p:Pos Z.S)(hx:Ns Z.S ex)(hex:Nx Z d kp ex)(hi:i<Z.T.length):l3 (fun n=>sW n (Z.S.F i) (Z.st i d)) (RP Z d (Z.S.al5 ex i)):=by
 refine l3.fn (fun n=>by simp only[adg,Cy,j9,AZ];exact rfl) ?_;refine Ev.to (xS h hi) ?_;exact l3.Il (F:=fun n q=>tL (jK n) n q (Z.S.F i) 0 (Z.st (Z.S.nx i) d) []) (azT h k p hx hex (Z.S.F i) 200 [] _ (tS hi) (iR _) ⟨fun _=>rfl,fun _=>rfl⟩ (iY _))
theorem aCO(h:uB Z)(hex:Nx Z d kp ex)(hi:i<Z.T.length):l3 (fun n=>sX n (Z.S.F i) (Z.st i d)) (RP Z d (Z.S.aks ex i)):=by
 refine l3.fn (fun n=>by simp only[adh,CA,j9,AZ];exact rfl) ?_;unfold oQ.aks;refine Ev.to (xS h hi) ?_;refine RP.step (acA h (tS hi)) fun s j _ hj=>?_
 refine Ev.to (azt h hj) ?_;refine Ev.to (th h hj [58]) ?_;cases hs:Z.S.yC [58] j with
 |true=>
  simp only[jy];refine RP.step (hex _ (tS hj)) fun t k _ hk=>?_
  refine RU.step (xp h hk _) fun a _ ha=>?_
  refine RP.step (hex _ ha) fun v b _ hb=>?_
  refine RU.step (xp h hb _) fun c _ hc=>?_
  exact RP.step (hex _ hc) fun y r _ hr=>l3.pure ⟨hr,rfl⟩
 |false=>
  simp only[jz,Rs.aoB];refine RU.step (xp h hj _) fun a _ ha=>?_
  refine RP.step (hex _ ha) fun v b _ hb=>?_
  refine RU.step (xp h hb _) fun c _ hc=>?_
  exact RP.step (hex _ hc) fun y r _ hr=>l3.pure ⟨hr,rfl⟩
end
section
variable {Z:Cx}
variable {ex ta:Nat->Rs Syntax} {d:Int}
theorem azU{S:oQ}:∀(f:Nat)(out:List Str)(i:Nat),(S.wr f out i).length<=out.length+f
 |0,out,i=>iY _
 |f+1,out,i=>by
  unfold oQ.wr;cases S.yC [58] i with
  |true=>exact Nat.le_add_right _ _
  |false=>
   cases S.MP i with
   |false=>exact iY _
   |true=>
    have:=azU (S:=S) f (out++[(S.K i).2]) (i+1)
    grind
theorem arL{S:oQ}(i:Nat):(S.CC i).length<=S.len:=by
 grind [oQ.CC,azU]
theorem aw9(h:uB Z)(k:SOk Z.S)(p:Pos Z.S)(q:akw Z.S)(hx:Ns Z.S ex)(ht:Ns Z.S ta)(hex:Nx Z d kp ex)(ho:Nx Z d rn (Z.S.op ex ta))(hi:i<Z.T.length):
 l3 (fun n=>qX n (Z.S.F i) (Z.st i d)) (RP Z d (Z.S.ab0 ex ta i)):=by
 have hlen:=h.len;refine l3.fn (fun n=>by simp only[aab,AO,j9,AZ];exact rfl) ?_;unfold oQ.ab0;refine RP.step (ho i hi) fun x j hq hj=>?_
 have PX:=k.op p q hlen hx ht i hi;rw[hq]at PX;obtain⟨_,_,hr,_,_⟩:=PX;refine Ev.to (th h hj [45,62]) ?_;cases hs:Z.S.yC [45,62] j with
 |false=>exact l3.pure ⟨hj,rfl⟩
 |true=>
  simp only[jy];have hj':=tS (Z:=Z) hj;refine Ev.to (at7 h hi hj') ?_
  have xw:∀l:List jS,l.length<=1000000->l3 (fun n=>(kp n (Z.st (Z.S.nx j) d)).bind fun x_3=>F7 x_3 (fun x_4=>(DI n (Syntax.mk 4 [] 0 [] [] [] x.kM 0) l x_4.snd.fst).bind fun x=>some (PR.ok (((x_4.fst.fst.fst,()),()),x,()))) fun y=>some (PR.pn (((y.fst.fst.fst,()),()),y.snd.fst,())))
   (RP Z d ((ex (Z.S.nx j)).bind fun b k=>.ok (oQ.adn 4 0 l b x.kM) k)):=fun l hl=>
   RP.step (hex _ hj') fun b q _ hq=>Ev.to (aoD _ l hl b) (l3.pure ⟨hq,rfl⟩)
  have hw:=arL (S:=Z.S) i;have hwl:Z.S.len=Z.T.length:=rfl
  have e0:decide (0<((Z.S.CC i).length:Int))= !(Z.S.CC i).isEmpty:=by
   cases Z.S.CC i with
   |nil=>rfl
   |cons a b=>grind
  cases h13:x.kind==13 with
  |false=>simp_all
  |true=>
   cases hf:x.kM==Z.S.F i with
   |false=>simp_all
   |true=>
    simp only[jy,jf,e0];cases hn:(Z.S.CC i).isEmpty with
    |true=>simp_all
    |false=>
     have h2:=hr.aDp (beq_iff_eq.1 h13);have hl1:1<x.wi.length:=by omega
     have e1:Ab x.wi 1=some x.wi[1]:=q6 (i:=1) hl1;have e2:x.wi.getD 1 agY=x.wi[1]:=by grind
     simp only[jb,jy,e1,iH,e2];refine Ev.to (arl _ (by omega) (hr.wi _ (iM hl1)).1.xw) ?_;exact xw _ (by rw[ag1];omega)
theorem auq(p:jH):Ev (fun n=>oH n p) (((),({uN:=p.uN,IA:=p.IA,AB:=p.AB,depth:=IntKind.i64.wrap (p.depth-1)},()),()),()):=by
 refine Ev.fn (fun n=>by simp only[oH,kA,A2,mB];exact rfl) ?_;exact Ev.pure
theorem avq(hd:0<=d/\d<200){r:Rs Syntax}{F:Nat->Option (PR (((jH×Unit)×Unit)×(Syntax×Unit)) (((jH×Unit)×Unit)×(jW×Unit)))}(hF:l3 F (RP Z (d+1) r)):
 l3 (fun n=>(F n).bind fun x=>F7 x (fun x=>(oH n x.fst.fst.fst).bind fun x_3=>some (PR.ok (((x_3.fst.snd.fst.fst,()),()),x.snd.fst,()))) fun y=>(oH n y.fst.fst.fst).bind fun x=>some (PR.pn (((x.fst.snd.fst.fst,()),()),y.snd.fst,()))) (RP Z d r):=by
 refine l3.bind hF fun x hx=>?_
 cases r with
 |ok v j=>
  obtain⟨hj,rfl⟩:=hx;refine Ev.to (auq _) ?_;rw[stU hd];exact l3.pure ⟨hj,rfl⟩
 |er e a=>
  obtain⟨p,rfl⟩:=hx;exact Ev.to (auq _) (l3.pure ⟨_,rfl⟩)
theorem azV(h:uB Z)(k:SOk Z.S)(p:Pos Z.S)(q:akw Z.S)(hd:0<=d/\d<200)(hx:Ns Z.S ex)(ht:Ns Z.S ta)(hex:Nx Z (d+1) kp ex)(ho:Nx Z (d+1) rn (Z.S.op ex ta)):Nx Z d kp (Z.S.Rv ex ta):=by
 intro i hi;refine l3.fn (fun n=>by simp only[OM,x8,j9,AZ];exact rfl) ?_;refine Ev.to (CD hi (k:=d) hd.2) ?_;simp only[F7,stD hd];refine Ev.to (acz h hi) ?_;refine Ev.to (afX hi 3 [102,117,110]) ?_;unfold oQ.Rv oQ.key
 have prod:∀(o:Nat)(a b s:Str)(kd n:Int),o<Z.T.length->l3 (fun f=>(ow f a b (Z.st o (d+1))).bind fun x=>F7 x (fun x=>(pH f (Syntax.mk kd [] n [] [] [] (Z.S.F i) 0) x.snd.fst s x.fst.fst.fst).bind fun x=>F7 x (fun x=>(oH f x.fst.fst.fst).bind fun x_5=>some (PR.ok (((x_5.fst.snd.fst.fst,()),()),x.snd.fst,())))
       fun y=>(oH f y.fst.fst.fst).bind fun x=>some (PR.pn (((x.fst.snd.fst.fst,()),()),y.snd.fst,()))) fun y=>(oH f y.fst.fst.fst).bind fun x=>some (PR.pn (((x.fst.snd.fst.fst,()),()),y.snd.fst,()))) (RP Z d ((Z.S.FG ex a b o).bind fun l j=>Z.S.F6 ex kd n i l s j)):=by
  intro o a b s kd n mR;refine RP.step (akP h hx hex a b mR) (fun l j hq hj=>?_) fun p e a _=>Ev.to (auq _) (l3.pure ⟨_,rfl⟩)
  have hb:=k.FG p hx (op:=a) (sh:=b) (i:=o) mR;rw[hq]at hb;have hl:l.length<=1000000:=by have:=hb.2.1;omega
  simp_all [avq,arJ]
 cases h1:Z.S.is 3 [102,117,110] i with
 |true=>exact avq hd (aCN h k p hx hex hi)
 |false=>
  simp only[jz];refine Ev.to (afX hi 3 [108,101,116]) ?_;cases h2:Z.S.is 3 [108,101,116] i with
  |true=>exact avq hd (aCO h hex hi)
  |false=>
   simp only[jz];refine Ev.to (afX hi 3 [83,105,103,109,97]) ?_;cases h3:Z.S.is 3 [83,105,103,109,97] i with
   |true=>exact Ev.to (xS h hi) (prod _ _ _ _ 5 0 (tS hi))
   |false=>
    simp only[jz];refine Ev.to (Im hi [123]) ?_;cases h4:Z.S.yC [123] i with
    |true=>exact prod _ _ _ _ 4 1 hi
    |false=>
     simp only[jz];refine Ev.to (Im hi [91]) ?_;cases h5:Z.S.yC [91] i with
     |true=>exact prod _ _ _ _ 4 2 hi
     |false=>exact avq hd (aw9 h k p q hx ht hex ho hi)
theorem aHq(h:uB Z):Nx Z 200 kp (fun i=>Z.S.adm i):=by
 intro i hi;refine l3.fn (fun n=>by simp only[OM,x8,j9,AZ];exact rfl) ?_;exact Ev.to (BL h hi (k:=200) (by omega)) (l3.pure ⟨_,rfl⟩)
theorem arM(h:uB Z)(k:SOk Z.S)(p:Pos Z.S)(q:akw Z.S)(hc:∀s,Ev (fun n=>nZ n Z.sy s) (Z.sy.contains s))(hn:aw8 Z):∀(m:Nat)(d:Int),d+(m:Int)=200->0<=d->Nx Z d kp (Z.S.arf m)/\Nx Z d kU (Z.S.aHa m)
 |0,d,hd,_=>by
  obtain rfl:d=200:=by omega
  exact⟨aHq h,aHf h⟩
 |m+1,d,hd,h0=>by
  obtain⟨h1,h2⟩:=arM h k p q hc hn m (d+1) (by omega) (by omega);have hb:=k.both p q h.len m;have hd:0<=d/\d<200:=⟨h0,by omega⟩;exact⟨azV h k p q hd hb.1 hb.2 h1 (aE5 h hc hn (azz h hc (aCw h (azx h (awS h k h2 (auo h k h1)))))),aub h hd h1 h2⟩
theorem axa(h:uB Z)(k:SOk Z.S)(p:Pos Z.S)(q:akw Z.S)(hc:∀s,Ev (fun n=>nZ n Z.sy s) (Z.sy.contains s))(hn:aw8 Z):l3 (fun n=>(kp n (Z.st 0 0)).bind fun x=>F7 x (fun x=>(xY n x.fst.fst.fst).bind fun x_1=>F7 x_1 (fun x_2=>(xz n x.snd.fst 0 0).bind fun x=>some (x.fst.fst.fst,x.fst.snd.fst.fst,x.fst.snd.snd.fst.fst))
 fun y=>(ua n y.snd.fst x.snd.fst 0 0).bind fun x=>some (x.fst.fst.fst,x.fst.snd.fst.fst,x.fst.snd.snd.fst.fst)) fun y=>(ua n y.snd.fst (Syntax.mk 0 [] 0 [] [] [] 0 0) 0 0).bind fun x=>some (x.fst.fst.fst,x.fst.snd.fst.fst,x.fst.snd.snd.fst.fst))
 (· =match Z.S.whole with|.ok x _=>(x,0,0)|.er e a=>(agY,a,e)):=by
 have qp:∀(e a:Int)(x:Syntax),Ev (fun n=>(ua n {e:=e,rB:=a} x 0 0).bind fun x=>some (x.fst.fst.fst,x.fst.snd.fst.fst,x.fst.snd.snd.fst.fst)) (agY,a,e):=by
  intro e a x;refine Ev.bind (x:=(((agY,()),(a,()),(e,()),()),())) ?_ Ev.pure;refine Ev.fn (fun n=>by simp only[ua,kA,D6,mB];exact rfl) ?_;refine Ev.bind (x:=((),{e:=e,rB:=a},())) ?_ Ev.pure;refine Ev.fn (fun n=>by simp only[NK,kA,Jd,mC];exact rfl) ?_;exact Ev.pure
 have qr:∀x:Syntax,Ev (fun n=>(xz n x 0 0).bind fun x=>some (x.fst.fst.fst,x.fst.snd.fst.fst,x.fst.snd.snd.fst.fst)) (x,0,0):=by
  intro x;refine Ev.bind (x:=(((x,()),(0,()),(0,()),()),())) ?_ Ev.pure;refine Ev.fn (fun n=>by simp only[xz,kA,Jo,mB];exact rfl) ?_;exact Ev.pure
 refine RP.step (Q:=fun s r=>r=match s with|.ok x _=>(x,0,0)|.er e a=>(agY,a,e)) ((arM h k p q hc hn 200 0 (by omega) (by omega)).1 0 h.pos) (fun x j _ hj=>?_) (fun p e a _=>Ev.tot (r:=(agY,a,e)) ?_ rfl)
 rotate_left
 ·exact qp e a _
 refine l3.bind (at6 h hj) fun r hr=>?_
 cases hk:(Z.S.K j).1==4 with
 |true=>
  rw[hk]at hr;obtain⟨_,rfl⟩:=hr;exact Ev.tot (qr x) rfl
 |false=>
  rw[hk]at hr;obtain⟨p,rfl⟩:=hr;exact Ev.tot (qp _ _ _) rfl
end
def aiB(out:List Str)(s:Str):List Str:=bif s==[]||out.contains s then out else out++[s]
def RA(out:List Str)(ps:List Str):List Str:=ps.foldl aiB out
def tM(out:List Str)(T:List jI):List Str:=T.foldl (fun out n=>RA out n.parts) out
def ab6(T:List jI):Nat:=(T.map fun n=>n.parts.length).sum
theorem ag6:∀(ps:List Str)(out:List Str),(RA out ps).length<=out.length+ps.length
 |[],out=>iR _
 |s::ps,out=>by
  have h1:=ag6 ps (aiB out s)
  grind [RA,aiB]
theorem ab7(n:jI)(T:List jI):ab6 (n::T)=n.parts.length+ab6 T:=by grind [ab6]
def Met(m:List (Str×Bool))(out:List Str):Prop:=∀s,(oF s m).getD false=(s==[]||out.contains s)
theorem Met.ins{m:List (Str×Bool)}(h:Met m out)(hs:(oF s m).getD false=false):Met (Bi s true m) (out++[s]):=by
 intro t;rw[Nz,jk,List.any_append,<-jk,List.any_cons,List.any_nil,Bool.or_false];cases hts:t==s with
 |true=>simp
 |false=>rw[jz,h t,Bool.or_false]
theorem aCP(f:Nat)(X:List jI->Int->Int->List (Str×Bool)->List Str->Option (List Str))(T:List jI)(tl:Int)(i:Nat)(parts:List Str)(hl:parts.length<=1048640)(hi:i<=1048641)(R:Option (List Str)):
 ∀d j:Nat,∀(m:List (Str×Bool))(out:List Str),j+d=parts.length->out.length+d<=4000000->Met m out->(∀m',Met m' (RA out (parts.drop j))->X T tl ((i+1:Nat):Int) m' (RA out (parts.drop j))=R)->∀k,d<k->
  Ck f X k T tl (i:Int) parts (parts.length:Int) (j:Int) m out=R:=by
 intro d;induction d with
 |zero=>
  intro j m out hj ho hm hX k hk;obtain⟨k,rfl⟩:∃k',k=k'+1:=⟨k-1,by omega⟩;simp only[Md,yR,mB];rw[jB (show ¬ (j:Int)<(parts.length:Int) by omega),jz,kX (by omega)];rw[iL (by omega)]at hX;exact hX m hm
 |succ d ih=>
  intro j m out hj ho hm hX k hk;obtain⟨k,rfl⟩:∃k',k=k'+1:=⟨k-1,by omega⟩;have hjl:j<parts.length:=by omega
  simp only[Md,yR,q6 hjl,iH,mB];rw[jA (show(j:Int)<(parts.length:Int) by omega),jy,kX (by omega)];rw[iI hjl]at hX;have hX:∀m',Met m' (RA (aiB out parts[j]) (parts.drop (j+1)))->X T tl ((i+1:Nat):Int) m' (RA (aiB out parts[j]) (parts.drop (j+1)))=R:=hX;unfold aiB at hX;rw[hm];cases hq:parts[j]==[]||out.contains parts[j]with
  |true=>
   rw[hq]at hX;rw[jy];exact ih (j+1) m out (by omega) (by omega) hm hX k (by omega)
  |false=>
   rw[hq]at hX;rw[jz,jA (show(out.length+1)*16<=17592186044416 by omega),jy];exact ih (j+1) _ _ (by omega) (by grind) (hm.ins (by rw[hm];exact hq)) hX k (by omega)
theorem azW(T:List jI)(hT:T.length<=cap)(hN:∀n∈T,Nsm n)(hp:ab6 T<=cap):Ev (fun f=>Ac f T) (tM [] T):=by
 simp only[cap]at hT hp;refine Ev.fn (fun n=>by simp only[Ac,kA,Jq,mB];exact rfl) ?_
 have key:∀(d i:Nat)(out:List Str),i+d=T.length->out.length+ab6 (T.drop i)<=2000000->∃N,∀f m,N<=f->N<=m->∀mt,Met mt out->Cl f m T (T.length:Int) (i:Int) mt out=some (tM out (T.drop i)):=by
  intro d;induction d with
  |zero=>
   intro i out hi ho;refine⟨1,fun f m hf hm mt hmt=>?_⟩;obtain⟨m,rfl⟩:∃m',m=m'+1:=⟨m-1,by omega⟩;simp only[Me,yS];rw[jB (show ¬ (i:Int)<(T.length:Int) by omega),jz,iL (by omega)];rfl
  |succ d ih=>
   intro i out hi ho;have mR:i<T.length:=by omega
   have hs:=(hN _ (iM mR)).len;simp only[cap]at hs;rw[iI mR,ab7]at ho;have hlen:=ag6 T[i].parts out;obtain⟨N,hN'⟩:=ih (i+1) (RA out T[i].parts) (by omega) (by omega);refine⟨max (N+1) 6000000,fun f m hf hm mt hmt=>?_⟩;obtain⟨m,rfl⟩:∃m',m=m'+1:=⟨m-1,by omega⟩;simp only[Me,yS,q6 mR,iH];rw[jA (show(i:Int)<(T.length:Int) by omega),jy,iI mR];refine aCP f _ T _ i T[i].parts hs (by omega) _ T[i].parts.length 0 mt out (by omega) (by omega) hmt (fun m' hm'=>?_) f (by omega);rw[iQ]at hm' ⊢;exact hN' f m (by omega) (by omega) m' hm'
 obtain⟨N,hN'⟩:=key T.length 0 [] (by omega) (by grind);rw[iQ]at hN';refine⟨N,fun n hn=>hN' n n hn hn _ fun s=>?_⟩;rw[Nz];cases s==[]<;>rfl
theorem ank:∀(T:List jI)(out:List Str),(tM out T).length<=out.length+ab6 T
 |[],out=>iR _
 |n::T,out=>by
  have h1:=ank T (RA out n.parts)
  grind [ag6,tM,ab7]
theorem azX {x:Str}(h:x∈aiB out s):x∈out\/(x=s/\s≠[]):=by
 grind [aiB]
theorem ag7:∀{ps out:List Str}{x:Str},x∈RA out ps->x∈out\/(x∈ps/\x≠[])
 |[],out,x,h=>.inl h
 |s::ps,out,x,h=>by
  rcases ag7 (ps:=ps) (out:=aiB out s) h with h|⟨h,h2⟩
  all_goals grind [azX]
theorem ag8:∀{T:List jI}{out:List Str}{x:Str},x∈tM out T->x∈out\/∃n∈T,x∈n.parts/\x≠[]
 |[],out,x,h=>.inl h
 |n::T,out,x,h=>by
  rcases ag8 (T:=T) (out:=RA out n.parts) h with h|⟨m,hm,h⟩
  all_goals grind [ag7]
theorem anl(h:Bc n=0):∀s∈n.parts,s=[]\/OT s=true:=by
 grind [Bc]
theorem aiT{T:List jI}(g:TOk T):(tM [] T).all OT=true:=by
 rw[jl];intro x hx;rcases ag8 hx with h|⟨n,hn,h1,h2⟩
 ·cases h
 ·exact(anl (g.chk n hn) x h1).resolve_left h2
structure aIF(T:List jI):Prop where
 len:T.length<=9
 small:∀n∈T,n.parts.length<=16
 tab:Vq T=true
theorem arN{f t:Int}(hft:f<=t):∀(l:List Syntax)(o:Syntax),Rg o->o.kM=f->o.to=t->(∀x∈l,Rg x/\f<=x.kM/\x.to<=t)->Rg (akG o l f t)
 |[],o,h,_,_,_=>h
 |x::l,o,h,h1,h2,hl=>by
  obtain⟨k1,k2,k3⟩:=hl x (by simp);exact arN hft l (aEX o x f t) (.two h k1 (by omega) (by omega) k2 k3) rfl rfl fun y hy=>hl y (by simp [hy])
theorem anm{f t:Int}(hft:f<=t)(hl:∀x∈l,Rg x/\f<=x.kM/\x.to<=t):Rg (ab3 n l f t):=
 arN hft l _ (.akv (by decide) hft) rfl rfl hl
def CI:Cmd->Out->Prop
 |.parts n ps i j8 e r,.j8 l e' q=>∀lo m hi,lo<=m->m<=hi->ZE m hi r->(∀x∈j8,Rg x/\lo<=x.kM/\x.to<=m)->(ps=[]->e=m)->(∀x∈l,Rg x/\lo<=x.kM/\x.to<=e')/\lo<=e'/\e'<=hi/\ZE e' hi q
 |.first _ r,.val x _ q=>∀a hi,ZE a hi r->Rg x/\a<=x.kM/\x.to<=hi/\ZE x.to hi q
 |.mW _ r,.val x _ q=>∀a hi,ZE a hi r->Rg x/\a<=x.kM/\x.to<=hi/\ZE x.to hi q
 |.loop _ out _ r,.val x _ q=>∀a hi,Rg out->a<=out.kM->out.to<=hi->ZE out.to hi r->Rg x/\a<=x.kM/\x.to<=hi/\ZE x.to hi q
 |_,_=>True
theorem L7.chn{T:List jI}(g:TOk T){c:Cmd}(h:L7 T c o):CI c o:=by
 induction h with
 |Xa=>intro lo m hi h1 h2 h3 h4 h5;grind
 | @KL n ps i j8 e r x h q o h1 h2 ih1 ih2=>
   rcases acF h2 with⟨q',rfl⟩|⟨l,e',q',rfl⟩
   ·trivial
   ·intro lo m hi k1 k2 k3 k4 _;obtain⟨a1,a2,a3,a4⟩:=ih1 m hi k3;have:=a1.le;refine ih2 lo x.to hi (by omega) a3 a4 (fun y hy=>?_) fun _=>rfl
    grind
 | @yC n s ps i j8 e y r o hs h1 h2 h3 ih=>
   rcases acF h3 with⟨q',rfl⟩|⟨l,e',q',rfl⟩
   ·trivial
   ·intro lo m hi k1 k2 k3 k4 _;cases k3 with
    |cons a1 a2 a3 a4=>
     have:=a2.le;exact ih lo y.to hi (by omega) a3 a4 (fun z hz=>by grind) fun _=>rfl
 |Nw hx=>
  intro a hi k;cases k with
  |cons a1 a2 a3 a4=>exact⟨a2,a1,a3,a4⟩
 | @first m x r n l e q hx hb h1 ih=>
   intro a hi k;cases k with
   |cons a1 a2 a3 a4=>
    have hle:=a2.le
    obtain⟨c1,c2,c3,c4⟩:=ih x.kM x.kM hi (iT _) (by omega) (.cons (iT _) a2 a3 a4) (fun y hy=>by cases hy) fun e=>by
     have:=(g.ok (acG hb).1).pos
     grind
    grind [anm,ad3]
 |stop _=>intro a hi h1 h2 h3 h4;exact⟨h1,h2,h3,h4⟩
 | @go m out has r n l e q o hg h1 h2 ih1 ih2=>
   rcases Qe h2 rfl with⟨q',rfl⟩|⟨x,h,q',rfl⟩
   ·trivial
   ·intro a hi k1 k2 k3 k4;obtain⟨hn,hl,_⟩:=acH hg;have hle:=k1.le;obtain⟨c1,c2,c3,c4⟩:=ih1 out.kM out.to hi hle k3 k4 (fun y hy=>by grind) fun e=>absurd e (azM g hn hl)
    refine ih2 a hi (anm c2 c1) ?_ ?_ ?_
    all_goals grind [ad3]
 | @mW m r x h q o h1 h2 ih1 ih2=>
   rcases Qe h2 rfl with⟨q',rfl⟩|⟨x',h',q',rfl⟩
   ·trivial
   ·intro a hi k;obtain⟨c1,c2,c3,c4⟩:=ih1 a hi k;exact ih2 a hi c1 c2 c3 c4
 |_=>trivial
def ZF(lM:List Str)(r:Str):Int×Nat×Int:=
 bif decide (64<nmT r)then(0,0,5)
 else bif r.take (nmT r)==[95] then(2,nmT r,0)
 else bif lM.contains (r.take (nmT r))then(2,nmT r,0)
 else bif kws.contains (r.take (nmT r))then(3,nmT r,0)
 else(0,nmT r,0)
def aiC(lM:List Str)(r:Str):Int×Nat×Int:=bif Cd r 0 (uC++lM)==0 then(0,0,4)else(2,Cd r 0 (uC++lM),0)
def ug(lM:List Str):Str->Int×Nat×Int
 |[]=>(0,0,4)
 |c::t=>bif G6 c then ZF lM (c::t)else bif wT c then ado (c::t)else bif c==34 then Ug (c::t)else aiC lM (c::t)
theorem ab8{k:Nat}(n:Nat):(s.take (k+n)).drop k=(s.drop k).take n:=by grind [List.drop_take]
theorem Xe{r:Str}{n:Nat}(h:n<=r.length):(r.take n).length=n:=by rw[List.length_take];omega
theorem azY(s:Str)(k:Nat)(hk:k<=s.length)(r2:List (Str×Bool))(lM:List Str)(h2:∀y,(oF y r2).getD false=lM.contains y):
 am7 s k G7 r2 (k+nmT (s.drop k))=arq k (ZF lM (s.drop k)):=by
 unfold am7 ZF;have hn:=aoJ (s.drop k);have hl:((s.drop k).take (nmT (s.drop k))).length=nmT (s.drop k):=Xe hn;have hkw:∀y,(oF y G7).getD false=kws.contains y:=fun y=>aeE y kws
 rw[ab8,hl,h2,hkw];have e:decide ((64:Int)<((nmT (s.drop k):Nat):Int))=decide (64<nmT (s.drop k)):=decide_eq_decide.2 (by omega);rw[e];cases decide (64<nmT (s.drop k))<;>cases (s.drop k).take (nmT (s.drop k))==[95]<;>cases lM.contains ((s.drop k).take (nmT (s.drop k)))<;>cases kws.contains ((s.drop k).take (nmT (s.drop k)))<;>rfl
theorem avr{r:Str}(h:(ado r).2.2=0):(ado r).2.1=r9 wT r:=by
 grind [ado]
theorem aoR(h:(ug lM (c::t)).2.2=0):1<=(ug lM (c::t)).2.1/\(ug lM (c::t)).2.1<=(c::t).length:=by
 rw[ug]at h ⊢;cases hb:G6 c with
 |true=>
  grind [aoJ,aeF,AX,uf,Sa,ZF]
 |false=>
  cases hd:wT c with
  |true=>
   grind [NP,uf,avr]
  |false=>
   cases hq:c==34 with
   |true=>
    grind [Ug,iJ]
   |false=>
    grind [aiC,aru]
def Ui(T:Str->Int×Nat×Int):Str->Nat->List kF×Int×Int
 |[],a=>([⟨4,[],(a:Int)⟩],0,0)
 |c::t,a=>
  bif (T (c::t)).2.2==0 then
   let r:=t.drop ((T (c::t)).2.1-1)
   let z:=Ui T (r.drop (pN false r)) (a+(T (c::t)).2.1+pN false r)
   bif z.2.2==0 then(⟨(T (c::t)).1,(c::t).take (T (c::t)).2.1,(a:Int)⟩::z.1,0,0)else([],z.2.1,z.2.2)
  else([],((a+(T (c::t)).2.1:Nat):Int),(T (c::t)).2.2)
termination_by r=>r.length
decreasing_by grind
def arO(out:List kF)(z:List kF×Int×Int):List kF×Int×Int:=bif z.2.2==0 then(out++z.1,0,0)else([],z.2.1,z.2.2)
theorem azZ(out:List kF)(x:kF)(z:List kF×Int×Int):arO (out++[x]) z=arO out (bif z.2.2==0 then(x::z.1,0,0)else([],z.2.1,z.2.2)):=by
 grind [arO]
theorem axb(T:Str->Int×Nat×Int)(s:Str)(k:Nat)(hk:k<s.length)(h0:(T (s.drop k)).2.2=0)(h1:1<=(T (s.drop k)).2.1)(h2:k+(T (s.drop k)).2.1<=s.length):
 Ui T (s.drop k) k=let e:=k+(T (s.drop k)).2.1
  let j:=e+pN false (s.drop e)
  let z:=Ui T (s.drop j) j
  bif z.2.2==0 then(⟨(T (s.drop k)).1,(s.drop k).take (T (s.drop k)).2.1,(k:Int)⟩::z.1,0,0)else([],z.2.1,z.2.2):=by
 have hd:=ue hk
 have e:(s.drop (k+1)).drop ((T (s.drop k)).2.1-1)=s.drop (k+(T (s.drop k)).2.1):=by
  rw[iU];congr 1;omega
 grind [Ui,iU]
theorem az0(T:Str->Int×Nat×Int)(s:Str)(k:Nat)(hk:k<s.length)(h0:((T (s.drop k)).2.2==0)=false):Ui T (s.drop k) k=([],((k+(T (s.drop k)).2.1:Nat):Int),(T (s.drop k)).2.2):=by
 grind [ue,Ui]
theorem az1(T:Str->Int×Nat×Int)(s:Str):Ui T (s.drop s.length) s.length=([⟨4,[],(s.length:Int)⟩],0,0):=by
 rw[List.drop_length,Ui]
def we(lM:List Str)(s:Str):List kF×Int×Int:=
 bif lM.all OT then
  bif decide (65536<s.length)then([],0,5)else Ui (ug lM) (s.drop (pN false s)) (pN false s)
 else([],0,1)
theorem ahO{W:Type}(x s:Str)(v:W):∀es:List (Str×W),oF x (Bi s v es)=bif x==s then some v else oF x es
 |[]=>by grind [Bi,oF]
 |(k,u)::es=>by
  simp [Bi];cases hk:s==k with
  |true=>
   grind [oF]
  |false=>
   simp [oF,ahO x s v es]
   grind
def EF(l:List Str)(r:List (Str×Bool)):List (Str×Bool):=l.foldl (fun r y=>Bi y true r) r
theorem ab9(y:Str):∀(l:List Str)(r:List (Str×Bool)),(oF y (EF l r)).getD false=(l.contains y||(oF y r).getD false)
 |[],r=>rfl
 |x::l,r=>by
  show(oF y (EF l (Bi x true r))).getD false=_;rw[ab9 y l,ahO,List.contains_cons];cases y==x<;>simp
theorem axc(aE7:lM.all OT=true){r:Str}(hr:r=c::t)(hb:G6 c=false):∀y∈uC++lM,r.take y.length=y->y.length<=8:=by
 intro y hy he;rcases iZ.1 hy with h|h
 ·have:∀y∈uC,y.length<=8:=by decide
  exact this y h
 ·have hs:=jl.1 aE7 y h
  match y,hs,he with
  |d::u,hs,he=>
   grind [OT]
theorem axd(s:Str)(hs:s.length<sml)(lM:List Str)(aE7:lM.all OT=true)(r1 r2:List (Str×Bool))(h1:∀y,(oF y r1).getD false=lM.contains y)(h2:∀y,(oF y r2).getD false=(uC++lM).contains y):
 ∀(k:Nat)(out:List kF),k<=s.length->out.length<=k->li (fun n m=>B6 n m s G7 r1 r2 s (k:Int) out) (arO out (Ui (ug lM) (s.drop k) k)):=by
 intro k;have hs':s.length<4294967281:=hs;induction h:s.length-k using iV generalizing k with
 |ind d ih=>
  intro out hk ahT;have NS:decide ((out.length+1)*32<=17592186044416)=true:=jA (by omega);refine li.lp (fun n m=>by simp only[aiv,NO,mB];exact rfl) ?_;by_cases mR:k<s.length
  ·have e1:decide ((k:Int)<(s.length:Int))=true:=jA (by omega);simp only[e1,jy];refine li.Qi mR ?_;refine li.nL (Rz _) ?_;have hd:=ue mR
   have amf:ug lM (s.drop k)=bif G6 s[k] then ZF lM (s.drop k)else bif wT s[k] then ado (s.drop k)else bif s[k]==34 then Ug (s.drop k)else aiC lM (s.drop k):=by
    rw[hd];rfl
   have tail:∀xx,xx=pk (scn s k G7 r1 r2) (arq k (ug lM (s.drop k)))->li (fun n m=>
    bif xx.snd.snd.snd.fst !=0 then some ([],xx.snd.snd.fst,xx.snd.snd.snd.fst)
    else
     bif decide (0<=xx.fst.fst.snd.fst/\xx.fst.fst.snd.fst<=xx.snd.snd.fst/\xx.snd.snd.fst<=(s.length:Int)) then
      bif decide ((out.length+1)*32<=17592186044416) then
       (xC n xx.fst.fst.fst xx.snd.snd.fst xx.fst.snd.fst xx.fst.snd.snd.fst xx.fst.snd.snd.snd.fst).bind fun x_1=>
         B6 n m s x_1.fst.snd.fst x_1.fst.snd.snd.fst x_1.fst.snd.snd.snd.fst x_1.fst.fst.fst x_1.fst.fst.snd.fst
          (out++[{kind:=xx.snd.fst,text:=List.drop xx.fst.fst.snd.fst.toNat (List.take xx.snd.snd.fst.toNat s),rB:=xx.fst.fst.snd.fst}])
      else none
     else none) (arO out (Ui (ug lM) (s.drop k) k)):=by
    intro xx hxx;subst hxx;simp only[pk,scn,arq];cases h0:(ug lM (s.drop k)).2.2==0 with
    |false=>
     grind [az0,arO,li.pure]
    |true=>
     have hb:((ug lM (s.drop k)).2.2 !=0)=false:=by rw[bne,h0];rfl
     simp only[hb,jz];have hp:=aoR (lM:=lM) (c:=s[k]) (t:=s.drop (k+1)) (by rw[<-hd];exact eq_of_beq h0);rw[<-hd,iK]at hp;obtain⟨n,hn⟩:∃n,(ug lM (s.drop k)).2.1=n:=⟨_,rfl⟩;rw[hn]at hp;simp only[hn];have e2:decide ((0:Int)<=(k:Int)/\(k:Int)<=((k+n:Nat):Int)/\((k+n:Nat):Int)<=(s.length:Int))=true:=jA (by omega);simp only[e2,NS,jy,jc];rw[ab8];refine li.nL (art s hs G7 r1 r2 (k+n) (by omega)) ?_;have hsk:=LW false (s.drop (k+n));rw[iK]at hsk;rw[axb _ s k mR (eq_of_beq h0) (by rw[hn];omega) (by rw[hn];omega)];simp only[hn,scn];have:=ih (s.length-(k+n+pN false (s.drop (k+n)))) (by omega) _ rfl (out++[⟨(ug lM (s.drop k)).1,(s.drop k).take n,(k:Int)⟩]) (by omega) (by grind)
     grind [azZ]
   cases hb:G6 s[k]with
   |true=>
    have c0:(Dq s[k]==0)=false:=by unfold Dq;rw[hb];rfl
    have c1:(Dq s[k]==1)=true:=by rw[aJF,hb]
    simp only[c0,c1,jz,jy];have hw:=aCz s (by simp only[big];omega) k G7 r1 r2 hk;rw[azY s k hk r1 lM h1]at hw;rw[hb,jy]at amf;rw[<-amf]at hw;exact li.nL hw (tail _ rfl)
   |false=>
    rw[hb,jz]at amf;have c1:(Dq s[k]==1)=false:=by rw[aJF,hb]
    cases hdg:wT s[k]with
    |true=>
     have c0:(Dq s[k]==0)=false:=by unfold Dq;rw[hb,hdg];rfl
     have c2:(Dq s[k]==2)=true:=by rw[aJG,hdg]
     simp only[c0,c1,c2,jz,jy];rw[hdg,jy]at amf;have hw:=awY s (by simp only[big];omega) k G7 r1 r2 mR;rw[<-amf]at hw;exact li.nL hw (tail _ rfl)
    |false=>
     rw[hdg,jz]at amf;have c2:(Dq s[k]==2)=false:=by rw[aJG,hdg]
     cases hq:s[k]==34 with
     |true=>
      have c0:(Dq s[k]==0)=false:=by grind [Dq]
      have c3:(Dq s[k]==3)=true:=by grind [Dq]
      simp only[c0,c1,c2,c3,jz,jy];rw[hq,jy]at amf;have hw:=aw4 s hs k mR G7 r1 r2;rw[<-amf]at hw;exact li.nL hw (tail _ rfl)
     |false=>
      have c0:(Dq s[k]==0)=true:=by grind [Dq]
      simp only[c0,jy];rw[hq,jz]at amf;have hw:=aw3 s hs k hk G7 r1 r2 (uC++lM) h2 (axc aE7 hd hb)
      have e:(bif Cd (s.drop k) 0 (uC++lM)==0 then((0:Int),(k:Int),(4:Int))else(2,((k+Cd (s.drop k) 0 (uC++lM):Nat):Int),0))=arq k (aiC lM (s.drop k)):=by
       unfold aiC;generalize Cd (s.drop k) 0 (uC++lM)=q;cases q==0<;>rfl
      rw[e,<-amf]at hw;exact li.nL hw (tail _ rfl)
  ·have e1:decide ((k:Int)<(s.length:Int))=false:=jB (by omega);obtain rfl:k=s.length:=by omega
   rw[az1];simp only[e1,jz,NS,jy];exact li.pure
theorem az2{T:Str->Int×Nat×Int}{r:Str}:arO [] (Ui T r a)=Ui T r a:=by
 unfold arO
 match r with
 |[]=>rw[Ui];rfl
 |c::t=>
  grind [Ui]
theorem aCQ(s:Str)(hs:s.length<sml)(lM:List Str)(hl:lM.length<1000)(hy:∀y∈lM,y.length<sml):Ev (fun n=>Rd n s lM) (we lM s):=by
 refine Ev.fn (fun n=>by simp only[Rd,kA,Yu,mB];exact rfl) ?_;have hs':s.length<4294967281:=hs;refine Ev.bind ahG ?_
 have l2:∀(l:List Str)(hll:l.length<1000)(j:Int)(r1:List (Str×Bool))(L:List (List Str))(b:Int)(X:Nat->Nat->List (Str×Bool)->Option (List kF×Int×Int))(res:List kF×Int×Int),
  ∀d k:Nat,k+d=l.length->∀r2,li (fun n m=>wk n m s L b (IntKind.i64.wrap (j+1)) G7 r1 (EF (l.drop k) r2) s) res->
  Uf (fun n m p=>z6 n (wk n m) p s L b j l ((l.length:Nat):Int) (k:Int) G7 r1 r2 s) res:=by
  intro l hll j r1 L b X res d;induction d with
  |zero=>
   intro k hk r2 are;refine Uf.lp (fun n m p=>by simp only[Zu,IW,mB];exact rfl) ?_;have:decide ((k:Int)<(l.length:Int))=false:=jB (by omega);simp only[this,jz];rw[iL (show l.length<=k by omega)]at are;exact Uf.Il are
  |succ d ih=>
   intro k hk r2 are;have mR:k<l.length:=by omega
   refine Uf.lp (fun n m p=>by simp only[Zu,IW,mB];exact rfl) ?_;have:decide ((k:Int)<(l.length:Int))=true:=jA (by omega);simp only[this,jy];refine Uf.Qi mR ?_;rw[kX (by omega)];refine ih (k+1) (by omega) _ ?_;rw[iI mR]at are;exact are
 have key:∀d k:Nat,k+d=lM.length->∀r1,(∀y,(oF y (EF (lM.drop k) r1)).getD false=lM.contains y)->((lM.take k).all OT=true)->
  li (fun n m=>IY n m s lM lM ((lM.length:Nat):Int) (k:Int) G7 r1 [] s) (bif (lM.drop k).all OT then(bif decide (65536<s.length)then([],0,5)else Ui (ug lM) (s.drop (pN false s)) (pN false s))else([],0,1)):=by
  intro d;induction d with
  |zero=>
   intro k hk r1 hr1 PX;refine li.lp (fun n m=>by simp only[Zv,IX,mB];exact rfl) ?_;have:decide ((k:Int)<(lM.length:Int))=false:=jB (by omega);simp only[this,jz];rw[iL (show lM.length<=k by omega)]at hr1 ⊢;rw[jd (by omega)]at PX;simp only[List.all_nil,jy];refine li.nL am6 ?_;refine li.of1 (Ev.Il (F:=fun n m=>wk n m s [uC,lM] 2 0 G7 r1 [] s) ?_);refine li.lp (G:=fun n m=>z6 n (wk n m) n s [uC,lM] 2 0 uC ((uC.length:Nat):Int) 0 G7 r1 [] s) (fun n m=>by simp only[Pd,Fg];exact rfl) ?_;refine Uf.G4 (F:=fun n m p=>z6 n (wk n m) p s [uC,lM] 2 0 uC ((uC.length:Nat):Int) ((0:Nat):Int) G7 r1 [] s) ?_;refine l2 uC (by decide) 0 r1 _ 2 (fun _ _ _=>none) _ uC.length 0 (by omega) [] ?_;refine li.lp (G:=fun n m=>z6 n (wk n m) n s [uC,lM] 2 1 lM ((lM.length:Nat):Int) 0 G7 r1 (EF uC []) s) (fun n m=>by simp only[Pd,Fg];exact rfl) ?_;refine Uf.G4 (F:=fun n m p=>z6 n (wk n m) p s [uC,lM] 2 1 lM ((lM.length:Nat):Int) ((0:Nat):Int) G7 r1 (EF uC []) s) ?_;refine l2 lM hl 1 r1 _ 2 (fun _ _ _=>none) _ lM.length 0 (by omega) (EF uC []) ?_;rw[iQ]
   refine li.lp (G:=fun n m=>bif decide ((65536:Int)<(s.length:Int))then some ([],0,5)else(xC n s 0 G7 r1 (EF lM (EF uC []))).bind fun x=>
    B6 n n s x.fst.snd.fst x.fst.snd.snd.fst x.fst.snd.snd.snd.fst x.fst.fst.fst x.fst.fst.snd.fst []) (fun n m=>by simp only[Pd,Fg];exact rfl) ?_
   have e:decide ((65536:Int)<(s.length:Int))=decide (65536<s.length):=decide_eq_decide.2 (by omega);rw[e];cases decide (65536<s.length)with
   |true=>exact li.pure
   |false=>
    simp only[jz];have hk0:=art s hs G7 r1 (EF lM (EF uC [])) 0 (iY _);rw[iQ,jx]at hk0;refine li.nL hk0 ?_;have hsk:=LW false s
    have:=axd s hs lM PX r1 (EF lM (EF uC [])) hr1 (fun y=>by
     grind [ab9,oF]) (pN false s) [] hsk (iY _)
    rw[az2]at this;exact li.of1 (Ev.Il (F:=fun n m=>B6 n m s G7 r1 (EF lM (EF uC [])) s ((pN false s:Nat):Int) []) this)
  |succ d ih=>
   intro k hk r1 hr1 PX;have mR:k<lM.length:=by omega
   refine li.lp (fun n m=>by simp only[Zv,IX,mB];exact rfl) ?_;have:decide ((k:Int)<(lM.length:Int))=true:=jA (by omega);simp only[this,jy];refine li.Qi mR (li.nL (am9 _ (hy _ (iM mR))) ?_);rw[iI mR,jg];cases hsy:OT lM[k]with
   |false=>exact li.pure
   |true=>
    simp only[jy,jf];rw[kX (by omega)];refine ih (k+1) (by omega) _ ?_ ?_
    ·rw[iI mR]at hr1;exact hr1
    grind [List.take_succ_eq_append_getElem]
 exact Ev.Il (F:=fun n m=>IY n m s lM lM ((lM.length:Nat):Int) 0 G7 [] [] s) (key lM.length 0 (by omega) [] (fun y=>by grind [ab9,oF]) rfl)
theorem Qk{m:Nat}(h:1<=m):(c::t).take m=c::t.take (m-1):=by
 obtain⟨m,rfl⟩:∃j,m=j+1:=⟨m-1,by omega⟩;rfl
theorem acd{p:UInt8->Bool}{w:UInt8}(hw:p w=false)(x:Str):∀(r:Str)(m:Nat),r9 p r<=m->r9 p (r.take m++w::x)=r9 p r
 |[],m,_=>by rw[jh,List.nil_append,uf,hw];rfl
 |c::r,0,h=>by
  grind [uf]
 |c::r,m+1,h=>by
  rw[jw,iN,uf,uf];cases hc:p c with
  |false=>rfl
  |true=>
   rw[uf,hc]at h;simp at h ⊢;rw[acd hw x r m (by omega)]
theorem akQ{r:Str}{m:Nat}{y:Str}(h:q<=m)(hm:m<=r.length):(r.take m++y).drop q=(r.drop q).take (m-q)++y:=by
 grind [List.drop_take]
theorem ann(h:Sa w=false):G6 w=false/\wT w=false/\(w==39)=false:=by
 grind [Sa]
theorem aCR(hw:Sa w=false)(h46:(w==46)=false)(x:Str):∀(r:Str)(m:Nat),nmT r<=m->m<=r.length->nmT (r.take m++w::x)=nmT r:=by
 intro r;induction h:r.length using iV generalizing r with
 |ind d ih=>
  intro m hm hml;have hb:=(ann hw).1;have he:=aeF r;have hc:AX (r.take m++w::x)=AX r:=acd hw x r m (by unfold AX at he;omega);rw[aeF (r.take m++w::x),hc,akQ (by omega) (by omega),he];congr 1;have hl1:(r.drop (AX r)).length=r.length-AX r:=iK ..
  have ht:tlT (r.drop (AX r))<=m-AX r:=by omega
  have mR:AX r+2<=r.length->(r.drop (AX r+1)).length<d:=by rw[iK];omega
  have hdd:(r.drop (AX r)).drop 1=r.drop (AX r+1):=iU ..
  have hm1:m-AX r<=(r.drop (AX r)).length:=by omega
  generalize hq:m-AX r=q at ht hm1 ⊢
  match hr1:r.drop (AX r)with
  |[]=>
   rw[jh];cases x with
   |nil=>rfl
   |cons c t=>show(bif w==46&&G6 c then _ else 0)=0;rw[h46];rfl
  |[e]=>
   cases q with
   |zero=>
    cases x with
    |nil=>rfl
    |cons c t=>show(bif w==46&&G6 c then _ else 0)=0;rw[h46];rfl
   |succ q=>
    rw[jw,jh,iN];show(bif e==46&&G6 w then _ else 0)=0;rw[hb,jp];rfl
  |e::c::t=>
   rw[hr1]at ht hm1 hl1 hdd;cases hec:e==46&&G6 c with
   |true=>
    have ht':tlT (e::c::t)=1+nmT (c::t):=by show(bif e==46&&G6 c then _ else 0)=_;rw[hec];rfl
    have hn1:1<=nmT (c::t):=by
     rw[aeF]
     grind [AX,uf,Sa]
    obtain⟨j,rfl⟩:∃j,q=j+2:=⟨q-2,by omega⟩;have hih:=ih (c::t).length (by grind) (c::t) rfl (j+1) (by omega) (by grind);show(bif e==46&&G6 c then 1+nmT (c::(t.take j++w::x))else 0)=_
    grind
   |false=>
    have ht':tlT (e::c::t)=0:=by show(bif e==46&&G6 c then _ else 0)=_;rw[hec];rfl
    rw[ht']
    match q with
    |0=>
     cases x with
     |nil=>rfl
     |cons c t=>show(bif w==46&&G6 c then _ else 0)=0;rw[h46];rfl
    |1=>
     show(bif e==46&&G6 w then _ else 0)=0;rw[hb,jp];rfl
    |q+2=>
     show(bif e==46&&G6 c then _ else 0)=0;rw[hec];rfl
def spB(lM:List Str)(w:UInt8):Prop:=Sa w=false/\(w==46)=false/\∀y∈uC++lM,w ∉ y.drop 1
theorem axe{l:List Str}(hw:∀y∈l,w ∉ y.drop 1)(x:Str)(r:Str)(m:Nat)(h1:1<=m)(hm:Cd r 0 l<=m)(hml:m<=r.length):Cd (r.take m++w::x) 0 l=Cd r 0 l:=by
 obtain⟨a1,_,a3⟩:=Nt r l 0;obtain⟨b1,_,b3⟩:=Nt (r.take m++w::x) l 0;refine Nat.le_antisymm ?_ ?_
 ·rcases b1 with b1|⟨_,b4,b5⟩
  ·omega
  ·generalize Cd (r.take m++w::x) 0 l=v at*;rcases jm m v with hv|hv
   ·exfalso;refine hw _ b5 ?_;obtain⟨j,rfl⟩:∃j,v=m+(j+1):=⟨v-m-1,by omega⟩
    simp_all [List.take_append,iW]
   grind
 grind
theorem aE8:qb 10=false:=rfl
theorem az3(hw:Sa w=false)(x:Str)(c:UInt8)(t:Str)(m:Nat)(h1:1<=m)(hm:r9 wT (c::t)<=m)(hml:m<=(c::t).length)(he:m=(c::t).length\/(ado (c::t)).2.2=0):ado ((c::t).take m++w::x)=ado (c::t):=by
 obtain⟨wb,wd,w39⟩:=ann hw;have uz:r9 wT ((c::t).take m++w::x)=r9 wT (c::t):=acd wd x _ m hm;have hhd:((c::t).take m++w::x).head?=(c::t).head?:=by rw[Qk h1];rfl
 unfold ado at he ⊢;rw[uz,hhd,akQ hm hml];generalize hq:r9 wT (c::t)=q at*;revert he;cases decide (6<q)with
 |true=>intro _;rfl
 |false=>
  cases decide (1<q)&&(c::t).head?==some 48 with
  |true=>intro _;rfl
  |false=>
   have hl:((c::t).drop q).length=(c::t).length-q:=iK ..
   generalize (c::t).drop q=u at*;cases u with
   |nil=>
    grind
   |cons d u=>
    rcases jm q m with mR|hge
    ·grind [Qk]
    ·have:m-q=0:=by omega
     grind
theorem axf(x:Str)(c:UInt8)(t:Str)(m:Nat)(h1:1<=m)(hml:m<=(c::t).length)(he:((Ug (c::t)).2.2=0/\(Ug (c::t)).2.1<=m)\/(m=(c::t).length/\w=10)):Ug ((c::t).take m++w::x)=Ug (c::t):=by
 rw[Qk h1];unfold Ug at he ⊢;simp [iQ]at he ⊢;have hr:=NP qb t;simp at hml he;rcases he with⟨he,hm⟩|⟨he,rfl⟩
 ·match hu:t.drop (r9 qb t)with
  |[]=>rw[hu]at he;cases he
  |d::u=>
   rw[hu]at he hm;cases hd:d==34 with
   |false=>grind
   |true=>
    simp [hd]at hm
    have uz:r9 qb (t.take (m-1)++w::x)=r9 qb t:=by
     have ht:t=t.take (r9 qb t)++d::u:=by rw[<-hu,jq]
     have hlen:(t.take (r9 qb t)).length=r9 qb t:=Xe hr;have hqd:qb d=false:=by rw[eq_of_beq hd];rfl
     have e1:t.take (m-1)++w::x=t.take (r9 qb t)++d::(u.take (m-1-r9 qb t-1)++w::x):=by
      conv=>lhs;rw[ht]
      rw[List.take_append,hlen,jd (by omega),Qk (by omega),ji,iN]
     grind [acd]
    grind [akQ,Qk]
 ·have uz:r9 qb (t.take (m-1)++10::x)=r9 qb t:=acd aE8 x t (m-1) (by omega)
  grind
theorem aCS(hw:spB lM w)(x:Str)(c:UInt8)(t:Str)(m:Nat)(h1:1<=m)(hml:m<=(c::t).length)
 (he:((ug lM (c::t)).2.2=0/\(ug lM (c::t)).2.1<=m)\/(m=(c::t).length/\w=10)):ug lM ((c::t).take m++w::x)=ug lM (c::t):=by
 obtain⟨w1,w2,w3⟩:=hw;have aHr:(c::t).take m++w::x=c::(t.take (m-1)++w::x):=by rw[Qk h1,iN]
 have he':∀r,r=(c::t).take m++w::x->ug lM r=bif G6 c then ZF lM r else bif wT c then ado r else bif c==34 then Ug r else aiC lM r:=by
  intro r hr;rw[aHr]at hr;subst hr;rfl
 rw[he' _ rfl];rw[ug]at he ⊢;cases hb:G6 c with
 |true=>
  have hn:nmT (c::t)<=m:=by
   grind [ZF,aoJ]
  unfold ZF
  grind [aCR]
 |false=>
  cases hd:wT c with
  |true=>
   grind [az3,avr,NP]
  |false=>
   cases hq:c==34 with
   |true=>
    grind [axf]
   |false=>
    simp at he ⊢
    have hn:Cd (c::t) 0 (uC++lM)<=m:=by
     grind [aiC,aru]
    unfold aiC;rw[axe w3 x _ m h1 hn hml]
def Uj:Bool->Str->Option Bool
 |co,[]=>some co
 |true,x::r=>bif x==10 then Uj false r else Uj true r
 |false,x::r=>bif whB x then Uj false r else bif x==45&&r.head?==some 45 then Uj true r else none
theorem ace:∀(co:Bool)(u v:Str)(f:Bool),Uj co u=some f->pN co (u++v)=u.length+pN f v
 |co,[],v,f,h=>by
  grind [Uj]
 |true,x::r,v,f,h=>by
  rw[Uj]at h;rw[iN,pN,iJ];cases hx:x==10 with
  |true=>rw[hx]at h;simp at h ⊢;rw[ace false r v f h];omega
  |false=>rw[hx]at h;simp at h ⊢;rw[ace true r v f h];omega
 |false,x::r,v,f,h=>by
  rw[Uj]at h;rw[iN,pN,iJ];cases hx:whB x with
  |true=>rw[hx]at h;simp at h ⊢;rw[ace false r v f h];omega
  |false=>
   rw[hx]at h;simp only[jz]at h ⊢;cases hc:x==45&&r.head?==some 45 with
   |false=>rw[hc]at h;cases h
   |true=>
    rw[hc]at h
    have:(x==45&&(r++v).head?==some 45)=true:=by
     grind
    rw[this,jy,ace true r v f h];omega
def ad4:Str->Bool
 |[]=>true
 |c::t=> !whB c&& !(c==45&&t.head?==some 45)
theorem axg{r:Str}(h:ad4 r=true):pN false r=0:=by
 cases r with
 |nil=>rfl
 |cons c t=>
  grind [ad4,am8]
theorem Jz:∀(co:Bool)(r:Str),∃f,Uj co (r.take (pN co r))=some f/\(f=true->r.drop (pN co r)=[])/\ad4 (r.drop (pN co r))=true
 |co,[]=>⟨co,by cases co<;>rfl,fun _=>by simp,by simp [ad4]⟩
 |true,x::r=>by
  rw[pN];cases hx:x==10 with
  |true=>
   obtain⟨f,h1,h2⟩:=Jz false r
   grind [Uj]
  |false=>
   obtain⟨f,h1,h2⟩:=Jz true r
   grind [Uj]
 |false,x::r=>by
  rw[pN];cases hx:whB x with
  |true=>
   obtain⟨f,h1,h2⟩:=Jz false r
   grind [Uj]
  |false=>
   cases hc:x==45&&r.head?==some 45 with
   |false=>
    refine⟨false,rfl,fun h=>(by cases h),?_⟩
    grind [ad4]
   |true=>
    obtain⟨f,h1,h2⟩:=Jz true r
    have hh:(r.take (pN true r)).head?=r.head?:=by
     cases r with
     |nil=>rfl
     |cons y r=>
      grind [pN]
    grind [Uj]
theorem axh{T aJb:Str->Int×Nat×Int}(s:Str)(h:∀k,k<s.length->T (s.drop k)=aJb (s.drop k)):∀(k a:Nat),Ui T (s.drop k) a=Ui aJb (s.drop k) a:=by
 intro k;induction hd:s.length-k using iV generalizing k with
 |ind d ih=>
  intro a;by_cases mR:k<s.length
  ·have hkk:=h k mR;have hc:=ue mR
   grind [iU,Ui]
  grind [iL,Ui]
theorem aur{r:Str}{more:Str}{a b:List Str}(h:r.take more.length≠more):Cd r 0 (a++more::b)=Cd r 0 (a++b):=by
 have key:∀(a:List Str)(v:Nat),Cd r v (a++more::b)=Cd r v (a++b):=by
  intro a;induction a with
  |nil=>
   grind [Cd]
  |cons y a ih=>grind [Cd]
 exact key a 0
theorem aus(h:((ug lM (c::t)).2.2==0)=false):(ug lM (c::t)).2.1<(c::t).length:=by
 have ala:0<(c::t).length:=by simp
 rw[ug]at h ⊢;cases hb:G6 c with
 |true=>
  grind [ZF]
 |false=>
  rw[hb]at h;simp only[jz]at h ⊢;cases hd:wT c with
  |true=>
   grind [ado,iJ]
  |false=>
   grind [Ug,aiC]
theorem arP{r:Str}{x:Str}(h:ad4 r=true)(hr:r≠[])(hw:(w==45)=false):ad4 (r++w::x)=true:=by
 match r,hr with
 |[c],_=>
  grind [ad4]
 |c::d::t,_=>exact h
theorem arQ(hw:spB lM 10)(x:Str):∀(r:Str)(a:Nat),((Ui (ug lM) r a).2.2==0)=false->ad4 r=true->Ui (ug lM) (r++10::x) a=Ui (ug lM) r a/\(a:Int)<=(Ui (ug lM) r a).2.1/\(Ui (ug lM) r a).2.1<((a+r.length:Nat):Int):=by
 intro r;induction h:r.length using iV generalizing r with
 |ind d ih=>
  intro a he Xg
  match r,h with
  |[],h=>rw[Ui]at he;cases he
  |c::t,h=>
   have aIG:ug lM (c::(t++10::x))=ug lM (c::t):=by
    grind [aCS,jj]
   rw[Ui]at he ⊢;rw[iN,Ui,aIG];cases h0:(ug lM (c::t)).2.2==0 with
   |false=>
    have:=aus h0
    grind
   |true=>
    rw[h0]at he;simp only[jy]at he ⊢;have hp:=aoR (eq_of_beq h0);generalize hn:(ug lM (c::t)).2.1=n at*
    have azG:t.drop (n-1)=(c::t).drop n:=by
     obtain⟨j,rfl⟩:∃j,n=j+1:=⟨n-1,by omega⟩;rfl
    have aE9:(t++10::x).drop (n-1)=t.drop (n-1)++10::x:=iW (by rw[iJ]at hp;omega);rw[aE9];generalize hr2:t.drop (n-1)=r2 at*;have hl2:r2.length=t.length-(n-1):=by rw[<-hr2,iK]
    obtain⟨f,s1,s2,s3⟩:=Jz false r2;have hsk:=LW false r2
    have sA:r2.drop (pN false r2)≠[]:=by
     grind [Ui]
    have hf:f=false:=by
     grind
    subst hf;have aIU:=arP (w:=10) (x:=x) s3 sA rfl
    have aIH:pN false (r2++10::x)=pN false r2:=by
     have e:r2++10::x=r2.take (pN false r2)++(r2.drop (pN false r2)++10::x):=by grind [jq]
     simp_all [ace,axg]
    rw[aIH,iW hsk];rw[iJ]at h hp
    have hz:((Ui (ug lM) (r2.drop (pN false r2)) (a+n+pN false r2)).2.2==0)=false:=by
     grind
    obtain⟨i1,i2,i3⟩:=ih (r2.drop (pN false r2)).length (by rw[iK];omega) _ rfl (a+n+pN false r2) hz s3;rw[i1];generalize Ui (ug lM) (r2.drop (pN false r2)) (a+n+pN false r2)=z at*;rw[hz];rw[iK]at i3;simp only[jz];exact⟨trivial,by omega,by omega⟩
theorem arR(w:UInt8)(h:whB w=true):Sa w=false/\ab2 w=false/\(w==46)=false/\(w==45)=false:=by
 have:=YS (p:=fun w=> !whB w||(!Sa w&&(!ab2 w&&(!(w==46)&& !(w==45))))) (jF) w
 grind
theorem axi(hs:lM.all OT=true)(h:whB w=true):spB lM w:=by
 obtain⟨h1,h2,h3,_⟩:=arR w h;refine⟨h1,h3,fun y hy hm=>?_⟩;have hm':w∈y:=List.mem_of_mem_drop hm;rcases iZ.1 hy with hf|hf
 ·have PX:∀y∈uC,∀b∈y,whB b=false:=by decide
  grind
 ·have hsy:=jl.1 hs y hf
  match y,hsy,hm' with
  |c::t,hsy,hm'=>
   grind [OT]
theorem akR(h:(Ui (ug lM) (c::t) a).2.2=0):
 ∃n sk f,(ug lM (c::t)).2.2=0/\n=(ug lM (c::t)).2.1/\1<=n/\n<=(c::t).length/\sk=pN false ((c::t).drop n)/\Uj false (((c::t).drop n).take sk)=some f/\(f=true->(c::t).drop (n+sk)=[])/\ad4 ((c::t).drop (n+sk))=true/\n+sk<=(c::t).length/\
  (Ui (ug lM) ((c::t).drop (n+sk)) (a+n+sk)).2.2=0/\(Ui (ug lM) (c::t) a).1=⟨(ug lM (c::t)).1,(c::t).take n,(a:Int)⟩::(Ui (ug lM) ((c::t).drop (n+sk)) (a+n+sk)).1:=by
 rw[Ui]at h ⊢;cases h0:(ug lM (c::t)).2.2==0 with
 |false=>
  grind
 |true=>
  rw[h0]at h;simp only[jy]at h ⊢;have hp:=aoR (eq_of_beq h0)
  have azG:t.drop ((ug lM (c::t)).2.1-1)=(c::t).drop (ug lM (c::t)).2.1:=by
   obtain⟨j,hj⟩:∃j,(ug lM (c::t)).2.1=j+1:=⟨(ug lM (c::t)).2.1-1,by omega⟩;rw[hj];rfl
  rw[azG]at h ⊢;have hdd:∀q,((c::t).drop (ug lM (c::t)).2.1).drop q=(c::t).drop ((ug lM (c::t)).2.1+q):=fun q=>iU ..
  obtain⟨f,s1,s2,s3⟩:=Jz false ((c::t).drop (ug lM (c::t)).2.1);have hsk:=LW false ((c::t).drop (ug lM (c::t)).2.1);rw[iK]at hsk;rw[hdd]at s2 s3;rw[hdd]at h ⊢;refine⟨_,_,f,eq_of_beq h0,rfl,hp.1,hp.2,rfl,s1,s2,s3,by omega,?_⟩
  grind
theorem aCT(hs:lM.all OT=true)(h:s.length<=65536):we lM s=Ui (ug lM) (s.drop (pN false s)) (pN false s):=by
 grind [we]
theorem az4(h:(ug lM (c::t)).2.2=0):(ug lM (c::t)).1≠4:=by
 grind [ug,ZF,ado,Ug,aiC]
def avs(s:Str):Prop:=((s.length<=18/\Lib.atoi s=some (aiy s))/\0<=aiy s/\aiy s<=999999)/\s.all wT=true
theorem avt:∀(s:Str)(lN:Nat),s.all wT=true->∃m:Nat,Lib.decFrom lN s=some m/\(m:Int)=s.foldl (fun n c=>10*n+((c.toNat:Int)-48)) (lN:Int)/\m+1<=(lN+1)*10 ^ s.length
 |[],lN,_=>⟨lN,rfl,rfl,by simp⟩
 |c::t,lN,h=>by
  rw[jg,iP]at h;have hd:=h.1;unfold wT at hd;rw[iP,jD,jD]at hd;obtain⟨m,h1,h2,h3⟩:=avt t (lN*10+(c.toNat-48)) h.2;refine⟨m,?_,?_,?_⟩
  ·grind [Lib.decFrom,Lib.digitVal]
  ·grind
  ·rw[iJ,Nat.pow_succ,<-Nat.mul_assoc,Nat.mul_right_comm];exact Nat.le_trans h3 (Nat.mul_le_mul_right _ (by omega))
theorem aCU(p:UInt8->Bool)(r:Str):(r.take (r9 p r)).all p=true:=by
 grind [r9,List.prefix_iff_eq_take,List.takeWhile_prefix,List.all_takeWhile]
theorem aFa{r:Str}(h:r9 wT r<=6)(h1:1<=r9 wT r):avs (r.take (r9 wT r)):=by
 have ha:=aCU wT r;have hl:(r.take (r9 wT r)).length=r9 wT r:=Xe (NP wT r);revert ha hl;generalize hs:r.take (r9 wT r)=s;intro ha hl;obtain⟨m,m1,m2,m3⟩:=avt s 0 ha;have hz:(m:Int)=aiy s:=m2;have h6:10 ^ s.length<=10 ^ 6:=Nat.pow_le_pow_right (by decide) (by omega);refine⟨⟨⟨by omega,?_⟩,by omega,by grind⟩,ha⟩
 match s,hl with
 |[],hl=>rw[jn]at hl;omega
 |c::t,hl=>
  rw[jg,iP]at ha;have hd:=ha.1;unfold wT at hd;rw[iP,jD,jD]at hd
  have e1:(c==45)=false:=by
   rw[beq_eq_false_iff_ne];intro e;simp_all
  have e2:(c==43)=false:=by
   rw[beq_eq_false_iff_ne];intro e;simp_all
  grind [Lib.atoi,Lib.decNat]
theorem aCV(h:(ug lM (c::t)).2.2=0)(hk:(ug lM (c::t)).1=1):avs ((c::t).take (ug lM (c::t)).2.1):=by
 rw[ug]at h hk ⊢
 grind [ZF,uf,ado,aFa,Ug,aiC]
inductive TkL(e:Nat):Nat->List kF->Prop
 |last:TkL e e [⟨4,[],(e:Int)⟩]
 |cons {a b:Nat} {k:Int} {x:Str} {l:List kF}:k≠4->1<=x.length->(k=1->avs x)->a+x.length<=b->TkL e b l->TkL e a (⟨k,x,(a:Int)⟩::l)
theorem aHs:∀{r:Str}{a:Nat},(Ui (ug lM) r a).2.2=0->TkL (a+r.length) a (Ui (ug lM) r a).1:=by
 intro r;induction h:r.length using iV generalizing r with
 |ind d ih=>
  intro a he
  match r,h with
  |[],h=>subst h;rw[Ui];exact .last
  |c::t,h=>
   obtain⟨n,sk,f,h0,hn,hn1,hnl,hsk,s1,s2,s3,hle,hz,heq⟩:=akR he;rw[heq];have hr:((c::t).drop (n+sk)).length=d-(n+sk):=by rw[iK,h]
   have:=ih ((c::t).drop (n+sk)).length (by rw[hr];omega) rfl hz;rw[show a+n+sk+((c::t).drop (n+sk)).length=a+d by rw[hr];omega]at this;refine .cons (az4 h0) (by rw[Xe hnl];exact hn1) (fun hk=>?_) (by grind) this;rw[hn];exact aCV h0 hk
namespace TkL
theorem pos {e:Nat}{l:List kF}(h:TkL e a l):0<l.length:=by cases h<;>simp
theorem le {e:Nat}{l:List kF}(h:TkL e a l):a<=e/\l.length+a<=e+1:=by
 induction h with
 |last=>simp;omega
 |cons h1 h2 h3 h4 _ ih=>rw[iJ];omega
theorem mem {e:Nat}{l:List kF}(h:TkL e a l):∀t∈l,(a:Int)<=t.rB/\t.rB+(t.text.length:Int)<=(e:Int)/\(t.kind=1->avs t.text):=by
 induction h with
 |last=>grind
 |cons h1 h2 h3 h4 h5 ih=>
  have:=h5.le
  grind
theorem next {e:Nat}{l:List kF}(h:TkL e a l):∀(i:Nat)(hi:i+1<l.length),l[i].rB+(l[i].text.length:Int)<=l[i+1].rB/\l[i].rB<l[i+1].rB/\l[i].kind≠4:=by
 induction h with
 |last=>intro i hi;simp at hi
 |cons h1 h2 h3 h4 h5 ih=>
  intro i hi
  match i with
  |0=>
   have:=(h5.mem _ (iM h5.pos)).1
   grind
  |i+1=>
   grind
theorem aII {e:Nat}{l:List kF}(h:TkL e a l):∀(i:Nat)(hi:i<l.length),i+1=l.length->l[i]=⟨4,[],(e:Int)⟩:=by
 induction h with
 |last=>grind
 |cons h1 h2 h3 h4 h5 ih=>
  intro i hi h
  match i with
  |0=>have:=h5.pos;rw[iJ]at h;omega
  |i+1=>
   grind
end TkL
def hdS(lM:List Str)(s:Str)(a:Nat):List kF×Int×Int:=Ui (ug lM) (s.drop (pN false s)) (a+pN false s)
theorem arS(hs:lM.all OT=true)(h:s.length<=65536):we lM s=hdS lM s 0:=by
 grind [we,hdS]
theorem aFb(h:(hdS lM s a).2.2=0):TkL (a+s.length) (a+pN false s) (hdS lM s a).1:=by
 have:=aHs h;have hs:=LW false s;rw[iK,show a+pN false s+(s.length-pN false s)=a+s.length by omega]at this;exact this
theorem TkL.aIJ{Z:Cx}{e:Nat}(h:TkL e a Z.T)(he:e<=70000)(hb:0<=Z.b/\Z.b<=100000):uB Z:=by
 have hl:=h.le;refine⟨h.pos,by omega,hb,fun t ht=>?_,fun t ht hk=>((h.mem t ht).2.2 hk).1⟩;obtain⟨h1,h2,_⟩:=h.mem t ht;omega
theorem aHt{Z:Cx}(hi:i<Z.T.length):Z.S.F i=Z.b+Z.T[i].rB:=by simp [Cx.S,hi]
theorem aHu{Z:Cx}(hi:i<Z.T.length):Z.S.E (i+1)=Z.b+(Z.T[i].rB+(Z.T[i].text.length:Int)):=by simp [Cx.S,hi]
theorem TkL.sok{Z:Cx}{e:Nat}(h:TkL e a Z.T):SOk Z.S where
 last:=fun i hi hk=>by
  have hi:i<Z.T.length:=hi;rw[Rw hi]at hk;show i+1<Z.T.length;rcases jm (i+1) Z.T.length with h1|h1
  ·exact h1
  ·have:=h.aII i hi (by omega)
   grind
 num:=fun i hi hk=>by
  have hi:i<Z.T.length:=hi;rw[Rw hi]at hk ⊢;exact((h.mem _ (iM hi)).2.2 hk).1.2
theorem TkL.aHv{Z:Cx}{e:Nat}(h:TkL e a Z.T):Pos Z.S where
 ef:=fun i hi=>by
  have hi:i<Z.T.length:=hi;rw[aHt hi]
  match i with
  |0=>
   have:=(h.mem _ (iM hi)).1;show Z.b<=_;omega
  |i+1=>
   rw[aHu (by omega)];have:=(h.next i hi).1;omega
 fe:=fun i hi=>by
  have hi:i+1<Z.T.length:=hi;rw[aHt (by omega),aHu (by omega)];omega
def npT(T:List jI)(l:List Syntax):Syntax×Int×Int:= @dite _ (∃o,L7 T (.mW 0 l) o) (Classical.propDecidable _) (fun h=>pP l (Classical.choose h)) fun _=>(agY,0,3)
def Zc(T:List jI)(s:Str):Cx:={T:=(we (tM [] T) s).1,b:=0,tb:=T,sy:=tM [] T,np:=npT T}
structure adp(T:List jI):Prop where
 few:aIF T
 nsm:∀n∈T,Nsm n
namespace adp
variable {T:List jI} (g:adp T)
include g
theorem aHw:T.length<=cap:=by have:=g.few.len;simp [cap];omega
theorem ok:TOk T:=TOk.of g.few.tab
theorem avu:ab6 T<=16*T.length:=by
 have:∀aJb:List jI,(∀n∈aJb,n.parts.length<=16)->ab6 aJb<=16*aJb.length:=by
  intro aJb;induction aJb with
  |nil=>intro _;exact iR _
  |cons n aJb ih=>
   grind [ab7]
 exact this T fun n hn=>g.few.small n hn
theorem arT:(tM [] T).length<=144:=by
 have h1:=ank T [];have h2:=g.avu;have h3:=g.few.len;rw[jn]at h1;omega
theorem aCW:∀y∈tM [] T,y.length<sml:=by
 intro y hy;rcases ag8 hy with h|⟨n,hn,h1,_⟩
 ·cases h
 ·exact aul ((g.nsm n hn).aEY y h1)
theorem avv:Ev (fun f=>Ac f T) (tM [] T):=by
 have h2:=g.avu;have h3:=g.few.len;exact azW T g.aHw g.nsm (by simp [cap];omega)
theorem npR:∃o,L7 T (.mW 0 l) o/\npT T l=pP l o:=by
 obtain⟨o,ho,_⟩:=L7.aHi g.ok l.length 0 l (iR _);have h:∃o,L7 T (.mW 0 l) o:=⟨o,ho⟩
 grind [npT]
theorem aFc(hl:l.length<=200)(ho:L7 T (.mW 0 l) o):Ev (fun n=>wI n T l) (pP l o):=
 aun g.aHw g.nsm (by simp [cap];omega) g.few.tab (by omega) ho
theorem aHx(hl:l.length<=200)(ho:L7 T (.mW 0 l) o):npT T l=pP l o:=by
 obtain⟨o',h1,h2⟩:=g.npR (l:=l);rw[h2];exact(g.aFc hl h1).aCn (g.aFc hl ho)
omit g in
theorem ano(ho:L7 T (.mW 0 l) o)(h:(pP l o).2.2=0):∃x hh,o=.val x hh []/\pP l o=(x,0,0):=by
 rcases Qe ho rfl with⟨q,rfl⟩|⟨x,hh,q,rfl⟩
 ·exact absurd h (by simp [pP])
 ·cases q with
  |nil=>exact⟨x,hh,rfl,rfl⟩
  |cons y q=>exact absurd h (by simp [pP])
theorem aHy(s:Str):aw8 (Zc T s):=by
 intro l _ hl;obtain⟨o,ho,e⟩:=g.npR (l:=l);have e:(Zc T s).np l=pP l o:=e;rw[e];refine⟨g.aFc hl ho,?_⟩;rcases Qe ho rfl with⟨q,rfl⟩|⟨x,hh,q,rfl⟩
 ·exact ja _
 ·cases q with
  |nil=>exact iT _
  |cons y q=>exact ja _
theorem aDr(s:Str):akw (Zc T s).S:=by
 intro l a b _ hc h0;obtain⟨o,ho,e⟩:=g.npR (l:=l);have e:(Zc T s).S.np l=pP l o:=e;rw[e]at h0 ⊢;obtain⟨x,hh,rfl,e2⟩:=ano ho h0;obtain⟨c1,c2,c3,_⟩:=(ho.chn g.ok:CI (.mW 0 l) (.val x hh [])) a b hc;exact⟨c1,c2,c3⟩
theorem aCX(hs:s.length<=65536):Ev (fun n=>Rd n s (tM [] T)) (we (tM [] T) s):=
 aCQ s (by simp [sml];omega) _ (by have:=g.arT;omega) g.aCW
theorem tk(hs:s.length<=65536)(h:(we (tM [] T) s).2.2=0):TkL s.length (pN false s) (Zc T s).T:=by
 rw[arS (aiT g.ok) (by omega)]at h;have:=aFb h;rw[jx,jx]at this;show TkL _ _ (we (tM [] T) s).1;rw[arS (aiT g.ok) (by omega)];exact this
theorem aFd(hs:s.length<=65536)(h:((we (tM [] T) s).2.2==0)=false):0<=(we (tM [] T) s).2.1/\(we (tM [] T) s).2.1<=(s.length:Int):=by
 rw[aCT (aiT g.ok) (by omega)]at h ⊢;obtain⟨f,s1,s2,s3⟩:=Jz false s;obtain⟨_,h1,h2⟩:=arQ (axi (aiT g.ok) (w:=10) rfl) [] _ _ h s3;rw[iK]at h2;omega
end adp
def akS(T:List jI)(s:Str):Syntax×Int×Int:=
 bif (we (tM [] T) s).2.2==0 then(match (Zc T s).S.whole with|.ok x _=>(x,0,0)|.er e a=>(agY,a,e))else(agY,(we (tM [] T) s).2.1,(we (tM [] T) s).2.2)
theorem avw{T:List jI}(g:adp T)(hs:s.length<=65536):Ev (fun n=>Kq n s T) (akS T s):=by
 refine l3.ev ?_;refine l3.fn (fun n=>by simp only[Kq,kA,Vp,EH];exact rfl) ?_;have e0:decide ((65536:Int)<(s.length:Int))=false:=jB (by omega);simp only[e0,jz]
 have hnr:∀sc,we (tM [] T) s=sc->Ev (fun n=>Hw n s 0 (s.length:Int) (tM [] T)) (bif sc.2.2==0 then .ok ((),{Fl:=sc.1,next:=0,base:=0},())else .pn ((),{e:=sc.2.2,rB:=IntKind.i64.wrap (0+sc.2.1)},())):=by
  intro sc hsc;refine Ev.fn (fun n=>by simp only[Hw,kA,Jv,AZ];exact rfl) ?_;have e1:decide ((0:Int)<=0/\(0:Int)<=(s.length:Int)/\(s.length:Int)<=(s.length:Int))=true:=jA ⟨iT _,ja _,iT _⟩;simp only[e1,jy,jc,jj,Int.toNat_zero,iQ];refine Ev.bind (g.aCX hs) ?_
  grind [Ev.pure]
 have hnr:=hnr _ rfl;unfold akS;cases he:(we (tM [] T) s).2.2==0 with
 |false=>
  rw[he,jz]at hnr;have hb:=g.aFd hs he;rw[Int.zero_add,nv (by omega) (by omega)]at hnr
  have hnp:Ev (fun n=>Ad n s 0 (s.length:Int) T) (.pn ((),{e:=(we (tM [] T) s).2.2,rB:=(we (tM [] T) s).2.1},())):=by
   refine Ev.fn (fun n=>by simp only[Ad,kA,Eu,AZ];exact rfl) ?_;exact Ev.bind g.avv (Ev.bind hnr Ev.pure)
  refine Ev.to hnp ?_;simp only[F7,jz];refine Ev.tot (Ev.bind (x:=(((agY,()),((we (tM [] T) s).2.1,()),((we (tM [] T) s).2.2,()),()),())) ?_ Ev.pure) rfl;refine Ev.fn (fun n=>by simp only[ua,kA,D6,mB];exact rfl) ?_;refine Ev.bind (x:=((),{e:=(we (tM [] T) s).2.2,rB:=(we (tM [] T) s).2.1},())) ?_ Ev.pure;refine Ev.fn (fun n=>by simp only[NK,kA,Jd,mC];exact rfl) ?_;exact Ev.pure
 |true=>
  rw[he,jy]at hnr
  have hnp:Ev (fun n=>Ad n s 0 (s.length:Int) T) (.ok ((((Zc T s).st 0 0,()),()),())):=by
   refine Ev.fn (fun n=>by simp only[Ad,kA,Eu,AZ];exact rfl) ?_;exact Ev.bind g.avv (Ev.bind hnr Ev.pure)
  refine Ev.to hnp ?_;simp only[F7,jy];have ht:=g.tk hs (beq_iff_eq.1 he);have hlen:=g.arT;exact axa (ht.aIJ (by omega) ⟨iT _,by show(0:Int)<=100000;decide⟩) ht.sok ht.aHv (g.aDr s) (fun y=>ahM (tM [] T) y (by simp only[cap];omega)) (g.aHy s)
def ZG(r:Rs Syntax):Prop:=∀x j,r=.ok x j->x.kind≠17
theorem ZG.bind{r:Rs O}{f:O->Nat->Rs Syntax}(h:∀x j,r=.ok x j->ZG (f x j)):ZG (r.bind f):=by
 cases r with
 |ok x j=>exact h x j rfl
 |er e a=>intro x j h;cases h
theorem ZG.xI{c:Bool}{r s:Rs Syntax}(h1:c=true->ZG r)(h2:c=false->ZG s):ZG (bif c then r else s):=by
 cases c with
 |true=>exact h1 rfl
 |false=>exact h2 rfl
theorem ZG.ok(h:x.kind≠17):ZG (.ok x j):=fun y k e=>by injection e with e1;rw[<-e1];exact h
theorem ZG.er{e a:Int}:ZG (.er e a):=fun _ _ h=>by cases h
theorem aut{k n f:Int}(hk:k≠17){b:Syntax}(hb:b.kind≠17):∀l:List jS,(oQ.adn k n l b f).kind≠17
 |[]=>hb
 |_::_=>hk
theorem aCY{t:Int}:∀(l:List Syntax)(x:Syntax),x.kind≠17->(oQ.aJC t l x).kind≠17
 |[],_,h=>h
 |_::_,_,_=>show(6:Int)≠17 by decide
section
variable {S:oQ} {ex ta:Nat->Rs Syntax}
theorem az5(hex:∀i,ZG (ex i))(o i:Nat):ZG (S.Nq ex o i):=by
 unfold oQ.Nq;refine .bind fun x j hx=>?_
 have h:=hex i x j hx;exact .xI (fun _=>.ok h) fun _=>.xI (fun _=>.bind fun t k _=>.bind fun _ q _=>.ok (show(13:Int)≠17 by decide)) fun _=>.xI (fun _=>.bind fun l k _=>.bind fun _ q _=>.ok (aCY l x h)) fun _=>.er
theorem aFe(i:Nat):ZG (S.fill ta i):=by
 unfold oQ.fill
 exact .xI (fun _=>.bind fun l j _=>.ok (show(0:Int)≠17 by decide)) fun _=>.xI (fun _=>.bind fun l j _=>.bind fun l k _=>.ok (show(0:Int)≠17 by decide)) fun _=>.xI (fun _=>.ok (show(1:Int)≠17 by decide)) fun _=>
  .xI (fun _=>.bind fun l j _=>.ok (show(12:Int)≠17 by decide)) fun _=>.xI (fun _=>.ok (show(10:Int)≠17 by decide)) fun _=>.xI (fun _=>.bind fun l j _=>.ok (show(11:Int)≠17 by decide)) fun _=>
  .xI (fun _=>.ok (show(16:Int)≠17 by decide)) fun _=>.xI (fun _=>.bind fun l j _=>.ok (show(14:Int)≠17 by decide)) fun _=>.er
theorem aCZ(hex:∀i,ZG (ex i))(i:Nat):ZG (S.ZD ex ta i):=by
 unfold oQ.ZD;exact .xI (fun _=>az5 hex _ _) fun _=>.bind fun x j hx=>.ok (show x.kind≠17 from aFe i x j hx)
theorem avx:∀(m:Nat)(x:Syntax)(i:Nat),x.kind≠17->ZG (S.Ru m x i)
 |0,x,i,h=>.xI (fun _=>.er) fun _=>.ok h
 |m+1,x,i,h=>.xI (fun _=>avx m _ _ (show(bif (S.K i).2==[46,50] then(8:Int)else 7)≠17 by cases (S.K i).2==[46,50]<;>decide)) fun _=>.ok h
theorem aFf(hex:∀i,ZG (ex i))(i:Nat):ZG (S.afU ex ta i):=.bind fun x j hx=>avx 200 x j (aCZ hex i x j hx)
theorem az6:∀(m:Nat)(x:Syntax)(i:Nat),x.kind≠17->ZG (S.afV ex ta m x i)
 |0,x,i,h=>.xI (fun _=>.er) fun _=>.ok h
 |m+1,x,i,h=>.xI (fun _=>.bind fun y j _=>az6 m _ _ (show(2:Int)≠17 by decide)) fun _=>.ok h
theorem aHz(hex:∀i,ZG (ex i))(i:Nat):ZG (S.app ex ta i):=.bind fun x j hx=>az6 199 x j (aFf hex i x j hx)
def arU(S:oQ):Prop:=∀l,(S.np l).2.2=0->(S.np l).1.kind≠17
theorem aFg(hn:arU S)(l:List Syntax)(i:Nat):ZG (S.afW l i):=by
 unfold oQ.afW
 match l with
 |[]=>exact .er
 |x::r=>
  refine .xI (fun hc=>.ok ?_) fun _=>.xI (fun h0=>.ok (hn _ (beq_iff_eq.1 h0))) fun _=>?_
  ·rw[iP,Bool.not_eq_true']at hc;exact beq_eq_false_iff_ne.1 hc.2
  ·split<;>exact .er
theorem aIK(hn:arU S)(i:Nat):ZG (S.op ex ta i):=.bind fun l j _=>aFg hn l j
theorem aHA(hex:∀i,ZG (ex i))(i:Nat):ZG (S.al5 ex i):=.bind fun l j _=>.bind fun _ j _=>.bind fun x k hx=>.ok (aut (by decide) (hex _ x k hx) l)
theorem aHB(i:Nat):ZG (S.aks ex i):=.bind fun s j _=>.bind fun t k _=>.bind fun _ k _=>.bind fun v q _=>.bind fun _ q _=>.bind fun b r _=>.ok (show(9:Int)≠17 by decide)
theorem ag9(hex:∀i,ZG (ex i)){k n:Int}(hk:k≠17)(o:Nat)(l:List jS)(sep:Str)(i:Nat):ZG (S.F6 ex k n o l sep i):=.bind fun _ i _=>.bind fun x j hx=>.ok (aut hk (hex _ x j hx) l)
theorem aC0(hn:arU S)(hex:∀i,ZG (ex i))(i:Nat):ZG (S.ab0 ex ta i):=by
 unfold oQ.ab0;exact .bind fun x j hx=>.xI (fun _=>.bind fun b k hb=>.ok (aut (by decide) (hex _ b k hb) _)) fun _=>.ok (aIK hn i x j hx)
theorem aC1(hn:arU S)(hex:∀i,ZG (ex i))(i:Nat):ZG (S.Rv ex ta i):=by
 unfold oQ.Rv
 exact .xI (fun _=>aHA hex i) fun _=>.xI (fun _=>aHB i) fun _=>.xI (fun _=>.bind fun l j _=>ag9 hex (by decide) _ _ _ _) fun _=>.xI (fun _=>.bind fun l j _=>ag9 hex (by decide) _ _ _ _) fun _=>
  .xI (fun _=>.bind fun l j _=>ag9 hex (by decide) _ _ _ _) fun _=>aC0 hn hex i
theorem avy(hn:arU S):∀(d i:Nat),ZG (S.arf d i)
 |0,i=>.er
 |d+1,i=>aC1 hn (avy hn d) i
end
theorem avz{f t:Int}:∀(l:List Syntax)(o:Syntax),o.kind≠17->(akG o l f t).kind≠17
 |[],_,h=>h
 |_::l,_,_=>avz l _ (show(2:Int)≠17 by decide)
theorem arV{f t:Int}:(ab3 n l f t).kind≠17:=avz l _ (show(0:Int)≠17 by decide)
def K17:Cmd->Out->Prop
 |.first _ r,.val x _ q=>x.kind≠17
 |.mW _ r,.val x _ q=>x.kind≠17
 |.loop _ out _ r,.val x _ q=>out.kind≠17->x.kind≠17
 |_,_=>True
theorem L7.k17{T:List jI}{c:Cmd}(h:L7 T c o):K17 c o:=by
 induction h with
 |Nw hx=>exact hx
 |first hx hb h1 ih=>exact arV
 |stop _=>exact fun h=>h
 | @go m out has r n l e q o hg h1 h2 ih1 ih2=>
   rcases Qe h2 rfl with⟨q',rfl⟩|⟨x,h,q',rfl⟩
   ·trivial
   ·exact fun _=>ih2 arV
 | @mW m r x h q o h1 h2 ih1 ih2=>
   rcases Qe h2 rfl with⟨q',rfl⟩|⟨x',h',q',rfl⟩
   ·trivial
   ·exact ih2 ih1
 |_=>trivial
theorem adp.aIL{T:List jI}(g:adp T)(s:Str):arU (Zc T s).S:=by
 intro l h0;obtain⟨o,ho,e⟩:=g.npR (l:=l);have e:(Zc T s).S.np l=pP l o:=e;rw[e]at h0 ⊢;obtain⟨x,hh,rfl,e2⟩:=adp.ano ho h0;rw[e2];exact(ho.k17:K17 (.mW 0 l) (.val x hh []))
def oQ.mod(S:oQ)(f:Str->Bool)(g:List Syntax->Syntax×Int×Int):oQ:={S with isS:=f,np:=g}
def Its(S:oQ)(l:List Syntax):Prop:=∀x∈l,x.kind=17->∃i,S.OR i=true/\x.text=(S.K i).2
section
variable {S:oQ} {f:Str->Bool} {g:List Syntax->Syntax×Int×Int} {ex ta:Nat->Rs Syntax}
theorem qm(i:Nat):(S.mod f g).nx i=S.nx i:=rfl
theorem qn(k:Int)(s:Str)(i:Nat):(S.mod f g).is k s i=S.is k s i:=rfl
theorem oa(s:Str)(i:Nat):(S.mod f g).yC s i=S.yC s i:=rfl
theorem oe(s:Str)(i:Nat):(S.mod f g).key s i=S.key s i:=rfl
theorem ld(i:Nat):(S.mod f g).simple i=S.simple i:=rfl
theorem lP(i:Nat):(S.mod f g).MP i=S.MP i:=rfl
theorem lg(i:Nat):(S.mod f g).LV i=S.LV i:=rfl
theorem mI(s:Str)(i:Nat):(S.mod f g).take s i=S.take s i:=rfl
theorem oh(i:Nat):(S.mod f g).var i=S.var i:=rfl
theorem lQ(i:Nat):(S.mod f g).abZ i=S.abZ i:=rfl
theorem mJ(i:Nat):(S.mod f g).name i=S.name i:=rfl
theorem ol(i:Nat):(S.mod f g).num i=S.num i:=rfl
theorem mK(i:Nat):(S.mod f g).KL i=S.KL i:=rfl
theorem tT:(S.mod f g).F=S.F:=rfl
theorem tU:(S.mod f g).E=S.E:=rfl
theorem tV:(S.mod f g).K=S.K:=rfl
theorem om:(S.mod f g).len=S.len:=rfl
theorem oo(i:Nat):((S.mod f g).RE i:Rs W)=S.RE i:=rfl
theorem mL(i:Nat):((S.mod f g).adm i:Rs W)=S.adm i:=rfl
theorem lV:∀(m:Nat)(out:List Str)(i:Nat),(S.mod f g).MQ m out i=S.MQ m out i
 |0,out,i=>by
  unfold oQ.MQ;simp only[qm,qn,oa,oe,ld,lP,lg,mI,oh,lQ,mJ,ol,mK,tT,tU,tV,om,oo,mL]
 |m+1,out,i=>by
  unfold oQ.MQ;simp only[qm,qn,oa,oe,ld,lP,lg,mI,oh,lQ,mJ,ol,mK,tT,tU,tV,om,oo,mL,lV m]
theorem mZ(i:Nat):(S.mod f g).vars i=S.vars i:=by
 unfold oQ.vars;simp only[qm,qn,oa,oe,ld,lP,lg,mI,oh,lQ,mJ,ol,mK,tT,tU,tV,om,oo,mL,lV]
theorem lz{W:Type}(one:Nat->Rs (List W)):∀(m:Nat)(out:List W)(i:Nat),(S.mod f g).listed one m out i=S.listed one m out i
 |0,out,i=>rfl
 |m+1,out,i=>by
  unfold oQ.listed;simp only[qm,qn,oa,oe,ld,lP,lg,mI,oh,lQ,mJ,ol,mK,tT,tU,tV,om,oo,mL,lV,mZ,lz one m]
theorem nr(out:List jU)(i:Nat):(S.mod f g).plus out i=S.plus out i:=by
 unfold oQ.plus;simp only[qm,qn,oa,oe,ld,lP,lg,mI,oh,lQ,mJ,ol,mK,tT,tU,tV,om,oo,mL,lV,mZ,lz]
theorem mm:∀(m i:Nat),(S.mod f g).tB m i=S.tB m i
 |0,i=>rfl
 |m+1,i=>by
  unfold oQ.tB;have e:(S.mod f g).tB m=S.tB m:=funext fun i=>mm m i
  have p:(S.mod f g).plus=S.plus:=funext fun o=>funext fun i=>nr o i
  simp only[qm,qn,oa,oe,ld,lP,lg,mI,oh,lQ,mJ,ol,mK,tT,tU,tV,om,oo,mL,lV,mZ,lz,nr,e,p];rfl
theorem mO(i:Nat):(S.mod f g).mW i=S.mW i:=by
 unfold oQ.mW;simp only[qm,qn,oa,oe,ld,lP,lg,mI,oh,lQ,mJ,ol,mK,tT,tU,tV,om,oo,mL,lV,mZ,lz,nr,mm]
theorem p7(i:Nat):(S.mod f g).one i=S.one i:=by
 unfold oQ.one;simp only[qm,qn,oa,oe,ld,lP,lg,mI,oh,lQ,mJ,ol,mK,tT,tU,tV,om,oo,mL,lV,mZ,lz,nr,mm,mO]
theorem mb(i:Nat):(S.mod f g).qN i=S.qN i:=by
 unfold oQ.qN;simp only[qm,qn,oa,oe,ld,lP,lg,mI,oh,lQ,mJ,ol,mK,tT,tU,tV,om,oo,mL,lV,mZ,lz,nr,mm,mO,p7]
theorem s5:∀(m:Nat)(out:List Str)(i:Nat),(S.mod f g).wr m out i=S.wr m out i
 |0,out,i=>by
  unfold oQ.wr;simp only[qm,qn,oa,oe,ld,lP,lg,mI,oh,lQ,mJ,ol,mK,tT,tU,tV,om,oo,mL,lV,mZ,lz,nr,mm,mO,p7,mb]
 |m+1,out,i=>by
  unfold oQ.wr;simp only[qm,qn,oa,oe,ld,lP,lg,mI,oh,lQ,mJ,ol,mK,tT,tU,tV,om,oo,mL,lV,mZ,lz,nr,mm,mO,p7,mb,s5 m]
theorem l6(i:Nat):(S.mod f g).CC i=S.CC i:=by
 unfold oQ.CC;simp only[qm,qn,oa,oe,ld,lP,lg,mI,oh,lQ,mJ,ol,mK,tT,tU,tV,om,oo,mL,lV,mZ,lz,nr,mm,mO,p7,mb,s5]
theorem pO:∀(m:Nat)(x:Syntax)(i:Nat),(S.mod f g).alts ta m x i=S.alts ta m x i
 |0,x,i=>by
  unfold oQ.alts;simp only[qm,qn,oa,oe,ld,lP,lg,mI,oh,lQ,mJ,ol,mK,tT,tU,tV,om,oo,mL,lV,mZ,lz,nr,mm,mO,p7,mb,s5,l6]
 |m+1,x,i=>by
  unfold oQ.alts;simp only[qm,qn,oa,oe,ld,lP,lg,mI,oh,lQ,mJ,ol,mK,tT,tU,tV,om,oo,mL,lV,mZ,lz,nr,mm,mO,p7,mb,s5,l6,pO m]
theorem rZ(i:Nat):(S.mod f g).alt ta i=S.alt ta i:=by
 unfold oQ.alt;simp only[qm,qn,oa,oe,ld,lP,lg,mI,oh,lQ,mJ,ol,mK,tT,tU,tV,om,oo,mL,lV,mZ,lz,nr,mm,mO,p7,mb,s5,l6,pO]
theorem oV:∀(m:Nat)(out:List Syntax)(i:Nat),(S.mod f g).aJB ta m out i=S.aJB ta m out i
 |0,out,i=>by
  unfold oQ.aJB;simp only[qm,qn,oa,oe,ld,lP,lg,mI,oh,lQ,mJ,ol,mK,tT,tU,tV,om,oo,mL,lV,mZ,lz,nr,mm,mO,p7,mb,s5,l6,pO,rZ]
 |m+1,out,i=>by
  unfold oQ.aJB;simp only[qm,qn,oa,oe,ld,lP,lg,mI,oh,lQ,mJ,ol,mK,tT,tU,tV,om,oo,mL,lV,mZ,lz,nr,mm,mO,p7,mb,s5,l6,pO,rZ,oV m]
theorem qP(i:Nat):(S.mod f g).azq ta i=S.azq ta i:=by
 unfold oQ.azq;simp only[qm,qn,oa,oe,ld,lP,lg,mI,oh,lQ,mJ,ol,mK,tT,tU,tV,om,oo,mL,lV,mZ,lz,nr,mm,mO,p7,mb,s5,l6,pO,rZ,oV]
theorem p6(i:Nat):(S.mod f g).block ta i=S.block ta i:=by
 unfold oQ.block;simp only[qm,qn,oa,oe,ld,lP,lg,mI,oh,lQ,mJ,ol,mK,tT,tU,tV,om,oo,mL,lV,mZ,lz,nr,mm,mO,p7,mb,s5,l6,pO,rZ,oV,qP]
theorem rO(i:Nat):(S.mod f g).fill ta i=S.fill ta i:=by
 unfold oQ.fill;simp only[qm,qn,oa,oe,ld,lP,lg,mI,oh,lQ,mJ,ol,mK,tT,tU,tV,om,oo,mL,lV,mZ,lz,nr,mm,mO,p7,mb,s5,l6,pO,rZ,oV,qP,p6]
theorem sx:∀(m:Nat)(out:List Syntax)(i:Nat),(S.mod f g).agZ ex m out i=S.agZ ex m out i
 |0,out,i=>by
  unfold oQ.agZ;simp only[qm,qn,oa,oe,ld,lP,lg,mI,oh,lQ,mJ,ol,mK,tT,tU,tV,om,oo,mL,lV,mZ,lz,nr,mm,mO,p7,mb,s5,l6,pO,rZ,oV,qP,p6,rO]
 |m+1,out,i=>by
  unfold oQ.agZ;simp only[qm,qn,oa,oe,ld,lP,lg,mI,oh,lQ,mJ,ol,mK,tT,tU,tV,om,oo,mL,lV,mZ,lz,nr,mm,mO,p7,mb,s5,l6,pO,rZ,oV,qP,p6,rO,sx m]
theorem qa(o:Nat)(i:Nat):(S.mod f g).Nq ex o i=S.Nq ex o i:=by
 unfold oQ.Nq;simp only[qm,qn,oa,oe,ld,lP,lg,mI,oh,lQ,mJ,ol,mK,tT,tU,tV,om,oo,mL,lV,mZ,lz,nr,mm,mO,p7,mb,s5,l6,pO,rZ,oV,qP,p6,rO,sx]
theorem rQ(i:Nat):(S.mod f g).ZD ex ta i=S.ZD ex ta i:=by
 unfold oQ.ZD;simp only[qm,qn,oa,oe,ld,lP,lg,mI,oh,lQ,mJ,ol,mK,tT,tU,tV,om,oo,mL,lV,mZ,lz,nr,mm,mO,p7,mb,s5,l6,pO,rZ,oV,qP,p6,rO,sx,qa]
theorem sF:∀(m:Nat)(x:Syntax)(i:Nat),(S.mod f g).Ru m x i=S.Ru m x i
 |0,x,i=>by
  unfold oQ.Ru;simp only[qm,qn,oa,oe,ld,lP,lg,mI,oh,lQ,mJ,ol,mK,tT,tU,tV,om,oo,mL,lV,mZ,lz,nr,mm,mO,p7,mb,s5,l6,pO,rZ,oV,qP,p6,rO,sx,qa,rQ]
 |m+1,x,i=>by
  unfold oQ.Ru;simp only[qm,qn,oa,oe,ld,lP,lg,mI,oh,lQ,mJ,ol,mK,tT,tU,tV,om,oo,mL,lV,mZ,lz,nr,mm,mO,p7,mb,s5,l6,pO,rZ,oV,qP,p6,rO,sx,qa,rQ,sF m]
theorem wO(i:Nat):(S.mod f g).afU ex ta i=S.afU ex ta i:=by
 unfold oQ.afU;simp only[qm,qn,oa,oe,ld,lP,lg,mI,oh,lQ,mJ,ol,mK,tT,tU,tV,om,oo,mL,lV,mZ,lz,nr,mm,mO,p7,mb,s5,l6,pO,rZ,oV,qP,p6,rO,sx,qa,rQ,sF]
theorem xq:∀(m:Nat)(x:Syntax)(i:Nat),(S.mod f g).afV ex ta m x i=S.afV ex ta m x i
 |0,x,i=>by
  unfold oQ.afV;simp only[qm,qn,oa,oe,ld,lP,lg,mI,oh,lQ,mJ,ol,mK,tT,tU,tV,om,oo,mL,lV,mZ,lz,nr,mm,mO,p7,mb,s5,l6,pO,rZ,oV,qP,p6,rO,sx,qa,rQ,sF,wO]
 |m+1,x,i=>by
  unfold oQ.afV;simp only[qm,qn,oa,oe,ld,lP,lg,mI,oh,lQ,mJ,ol,mK,tT,tU,tV,om,oo,mL,lV,mZ,lz,nr,mm,mO,p7,mb,s5,l6,pO,rZ,oV,qP,p6,rO,sx,qa,rQ,sF,wO,xq m]
theorem CE(i:Nat):(S.mod f g).app ex ta i=S.app ex ta i:=by
 unfold oQ.app;simp only[qm,qn,oa,oe,ld,lP,lg,mI,oh,lQ,mJ,ol,mK,tT,tU,tV,om,oo,mL,lV,mZ,lz,nr,mm,mO,p7,mb,s5,l6,pO,rZ,oV,qP,p6,rO,sx,qa,rQ,sF,wO,xq]
theorem vk(op:Str)(sh:Str)(i:Nat):(S.mod f g).FG ex op sh i=S.FG ex op sh i:=by
 unfold oQ.FG;simp only[qm,qn,oa,oe,ld,lP,lg,mI,oh,lQ,mJ,ol,mK,tT,tU,tV,om,oo,mL,lV,mZ,lz,nr,mm,mO,p7,mb,s5,l6,pO,rZ,oV,qP,p6,rO,sx,qa,rQ,sF,wO,xq,CE]
theorem uy(k:Int)(n:Int)(o:Nat)(l:List jS)(sep:Str)(i:Nat):(S.mod f g).F6 ex k n o l sep i=S.F6 ex k n o l sep i:=by
 unfold oQ.F6;simp only[qm,qn,oa,oe,ld,lP,lg,mI,oh,lQ,mJ,ol,mK,tT,tU,tV,om,oo,mL,lV,mZ,lz,nr,mm,mO,p7,mb,s5,l6,pO,rZ,oV,qP,p6,rO,sx,qa,rQ,sF,wO,xq,CE,vk]
theorem Ds:∀(m:Nat)(out:List jS)(i:Nat),(S.mod f g).aal ex m out i=S.aal ex m out i
 |0,out,i=>by
  unfold oQ.aal;simp only[qm,qn,oa,oe,ld,lP,lg,mI,oh,lQ,mJ,ol,mK,tT,tU,tV,om,oo,mL,lV,mZ,lz,nr,mm,mO,p7,mb,s5,l6,pO,rZ,oV,qP,p6,rO,sx,qa,rQ,sF,wO,xq,CE,vk,uy]
 |m+1,out,i=>by
  unfold oQ.aal;simp only[qm,qn,oa,oe,ld,lP,lg,mI,oh,lQ,mJ,ol,mK,tT,tU,tV,om,oo,mL,lV,mZ,lz,nr,mm,mO,p7,mb,s5,l6,pO,rZ,oV,qP,p6,rO,sx,qa,rQ,sF,wO,xq,CE,vk,uy,Ds m]
theorem G8(i:Nat):(S.mod f g).al5 ex i=S.al5 ex i:=by
 unfold oQ.al5;simp only[qm,qn,oa,oe,ld,lP,lg,mI,oh,lQ,mJ,ol,mK,tT,tU,tV,om,oo,mL,lV,mZ,lz,nr,mm,mO,p7,mb,s5,l6,pO,rZ,oV,qP,p6,rO,sx,qa,rQ,sF,wO,xq,CE,vk,uy,Ds]
theorem I7(i:Nat):(S.mod f g).aks ex i=S.aks ex i:=by
 unfold oQ.aks;simp only[qm,qn,oa,oe,ld,lP,lg,mI,oh,lQ,mJ,ol,mK,tT,tU,tV,om,oo,mL,lV,mZ,lz,nr,mm,mO,p7,mb,s5,l6,pO,rZ,oV,qP,p6,rO,sx,qa,rQ,sF,wO,xq,CE,vk,uy,Ds,G8]
theorem Hy:∀(m:Nat)(out:List Str)(i:Nat),(S.mod f g).aJD m out i=S.aJD m out i
 |0,out,i=>by
  unfold oQ.aJD;simp only[qm,qn,oa,oe,ld,lP,lg,mI,oh,lQ,mJ,ol,mK,tT,tU,tV,om,oo,mL,lV,mZ,lz,nr,mm,mO,p7,mb,s5,l6,pO,rZ,oV,qP,p6,rO,sx,qa,rQ,sF,wO,xq,CE,vk,uy,Ds,G8,I7]
 |m+1,out,i=>by
  unfold oQ.aJD;simp only[qm,qn,oa,oe,ld,lP,lg,mI,oh,lQ,mJ,ol,mK,tT,tU,tV,om,oo,mL,lV,mZ,lz,nr,mm,mO,p7,mb,s5,l6,pO,rZ,oV,qP,p6,rO,sx,qa,rQ,sF,wO,xq,CE,vk,uy,Ds,G8,I7,Hy m]
theorem NA(w:Str)(i:Nat):(S.mod f g).ad1 ex ta w i=S.ad1 ex ta w i:=by
 unfold oQ.ad1;simp only[qm,qn,oa,oe,ld,lP,lg,mI,oh,lQ,mJ,ol,mK,tT,tU,tV,om,oo,mL,lV,mZ,lz,nr,mm,mO,p7,mb,s5,l6,pO,rZ,oV,qP,p6,rO,sx,qa,rQ,sF,wO,xq,CE,vk,uy,Ds,G8,I7,Hy]
theorem NB(i:Nat):(S.mod f g).aJE ex ta i=S.aJE ex ta i:=by
 unfold oQ.aJE;simp only[qm,qn,oa,oe,ld,lP,lg,mI,oh,lQ,mJ,ol,mK,tT,tU,tV,om,oo,mL,lV,mZ,lz,nr,mm,mO,p7,mb,s5,l6,pO,rZ,oV,qP,p6,rO,sx,qa,rQ,sF,wO,xq,CE,vk,uy,Ds,G8,I7,Hy,NA]
theorem aha(h:∀i,(S.K i).1=2->f (S.K i).2=S.isS (S.K i).2)(i:Nat):(S.mod f g).OR i=S.OR i:=by
 show((S.K i).1==2&&(!((S.K i).2==[95])&&f (S.K i).2))=((S.K i).1==2&&(!((S.K i).2==[95])&&S.isS (S.K i).2));cases hk:(S.K i).1==2 with
 |false=>rfl
 |true=>rw[h i (beq_iff_eq.1 hk)]
theorem az7(h:∀i,(S.K i).1=2->f (S.K i).2=S.isS (S.K i).2)(i:Nat):(S.mod f g).aeD ex ta i=S.aeD ex ta i:=by
 unfold oQ.aeD;simp only[aha h,qm,qn,oa,oe,ld,lP,lg,mI,oh,lQ,mJ,ol,mK,tT,tU,tV,om,oo,mL,lV,mZ,lz,nr,mm,mO,p7,mb,s5,l6,pO,rZ,oV,qP,p6,rO,sx,qa,rQ,sF,wO,xq,CE,vk,uy,Ds,G8,I7,Hy,NA,NB]
theorem akT(h:∀i,(S.K i).1=2->f (S.K i).2=S.isS (S.K i).2):∀(m:Nat)(out:List Syntax)(i:Nat),(S.mod f g).EE ex ta m out i=S.EE ex ta m out i
 |0,out,i=>by
  unfold oQ.EE;simp only[aha h,qm,qn,oa,oe,ld,lP,lg,mI,oh,lQ,mJ,ol,mK,tT,tU,tV,om,oo,mL,lV,mZ,lz,nr,mm,mO,p7,mb,s5,l6,pO,rZ,oV,qP,p6,rO,sx,qa,rQ,sF,wO,xq,CE,vk,uy,Ds,G8,I7,Hy,NA,NB]
 |m+1,out,i=>by
  unfold oQ.EE;simp only[aha h,az7 h,akT h m,qm,qn,oa,oe,ld,lP,lg,mI,oh,lQ,mJ,ol,mK,tT,tU,tV,om,oo,mL,lV,mZ,lz,nr,mm,mO,p7,mb,s5,l6,pO,rZ,oV,qP,p6,rO,sx,qa,rQ,sF,wO,xq,CE,vk,uy,Ds,G8,I7,Hy,NA,NB]
theorem Rs.Xt{r:Rs W}{k:W->Nat->Rs O}{y:O}(h:r.bind k=.ok y q):∃x j,r=.ok x j/\k x j=.ok y q:=by
 cases r with
 |ok x j=>exact⟨x,j,rfl,h⟩
 |er e a=>cases h
theorem az8(hex:∀i,ZG (ex i))(h:S.aeD ex ta i=.ok x j):x.kind=17->∃i,S.OR i=true/\x.text=(S.K i).2:=by
 unfold oQ.aeD at h;intro hk;cases hs:S.OR i with
 |true=>
  rw[hs,jy]at h;injection h with h1 h2
  subst h1;exact⟨i,hs,rfl⟩
 |false=>
  rw[hs,jz]at h;exact absurd hk (aHz hex i x j h)
theorem akU(hex:∀i,ZG (ex i)):∀(m:Nat)(out:List Syntax)(i:Nat),Its S out->out.length+m=200->∀l j,S.EE ex ta m out i=.ok l j->Its S l/\l.length<=200
 |0,out,i,ho,hl,l,j,h=>by
  unfold oQ.EE at h;cases hc:S.OR i||S.LV i with
  |true=>rw[hc]at h;cases h
  |false=>
   rw[hc,jz]at h;injection h with h1 h2
   subst h1;exact⟨ho,by omega⟩
 |m+1,out,i,ho,hl,l,j,h=>by
  unfold oQ.EE at h;cases hc:S.OR i||S.LV i with
  |false=>
   rw[hc,jz]at h;injection h with h1 h2
   subst h1;exact⟨ho,by omega⟩
  |true=>
   rw[hc,jy]at h;obtain⟨x,k,h1,h2⟩:=Rs.Xt h;refine akU hex m _ _ (fun y hy=>?_) (by simp;omega) l j h2;rcases iZ.1 hy with hy|hy
   ·exact ho y hy
   ·rw[iS]at hy;subst hy;exact az8 hex h1
theorem az9(h:g l=S.np l)(i:Nat):(S.mod f g).afW l i=S.afW l i:=by
 match l,h with
 |[],_=>rfl
 |x::r,h=>
  unfold oQ.afW
  show(bif r.isEmpty&& !(x.kind==17)then Rs.ok x i
   else bif (g (x::r)).2.2==0 then .ok (g (x::r)).1 i
   else match (x::r)[(g (x::r)).2.1.toNat]? with
    |some y=>.er (g (x::r)).2.2 y.kM
    |none=>.er (g (x::r)).2.2 (S.F i))=_
  rw[h];rfl
theorem aFh(h:∀i,(S.K i).1=2->f (S.K i).2=S.isS (S.K i).2)(hg:∀l,l.length<=200->Its S l->g l=S.np l)(hex:∀i,ZG (ex i)):(S.mod f g).op ex ta=S.op ex ta:=by
 funext i;unfold oQ.op;rw[akT h];cases hr:S.EE ex ta 200 [] i with
 |er e a=>rfl
 |ok l j=>
  have hi:=akU hex 200 [] i (fun x hx=>by cases hx) rfl l j hr;exact az9 (hg l hi.2 hi.1) j
theorem axj(h:∀i,(S.K i).1=2->f (S.K i).2=S.isS (S.K i).2)(hg:∀l,l.length<=200->Its S l->g l=S.np l)(hex:∀i,ZG (ex i)):(S.mod f g).Rv ex ta=S.Rv ex ta:=by
 have ha:(S.mod f g).ab0 ex ta=S.ab0 ex ta:=by
  funext i;unfold oQ.ab0;simp only[aFh h hg hex,qm,qn,oa,oe,ld,lP,lg,mI,oh,lQ,mJ,ol,mK,tT,tU,tV,om,oo,mL,lV,mZ,lz,nr,mm,mO,p7,mb,s5,l6,pO,rZ,oV,qP,p6,rO,sx,qa,rQ,sF,wO,xq,CE,vk,uy,Ds,G8,I7,Hy,NA,NB]
 funext i;unfold oQ.Rv;simp only[ha,qm,qn,oa,oe,ld,lP,lg,mI,oh,lQ,mJ,ol,mK,tT,tU,tV,om,oo,mL,lV,mZ,lz,nr,mm,mO,p7,mb,s5,l6,pO,rZ,oV,qP,p6,rO,sx,qa,rQ,sF,wO,xq,CE,vk,uy,Ds,G8,I7,Hy,NA,NB]
theorem arW(h:∀i,(S.K i).1=2->f (S.K i).2=S.isS (S.K i).2)(hg:∀l,l.length<=200->Its S l->g l=S.np l)(hn:arU S):∀d,(S.mod f g).both d=S.both d
 |0=>rfl
 |d+1=>by
  show((S.mod f g).Rv ((S.mod f g).both d).1 ((S.mod f g).both d).2,(S.mod f g).aJE ((S.mod f g).both d).1 ((S.mod f g).both d).2)=(S.Rv (S.both d).1 (S.both d).2,S.aJE (S.both d).1 (S.both d).2);rw[arW h hg hn d,show(S.mod f g).Rv (S.both d).1 (S.both d).2=S.Rv (S.both d).1 (S.both d).2 from axj h hg (avy hn d),show(S.mod f g).aJE (S.both d).1 (S.both d).2=S.aJE (S.both d).1 (S.both d).2 from funext fun i=>NB i]
theorem axk(h:∀i,(S.K i).1=2->f (S.K i).2=S.isS (S.K i).2)(hg:∀l,l.length<=200->Its S l->g l=S.np l)(hn:arU S):(S.mod f g).whole=S.whole:=by
 unfold oQ.whole oQ.arf;simp only[arW h hg hn,qm,qn,oa,oe,ld,lP,lg,mI,oh,lQ,mJ,ol,mK,tT,tU,tV,om,oo,mL,lV,mZ,lz,nr,mm,mO,p7,mb,s5,l6,pO,rZ,oV,qP,p6,rO,sx,qa,rQ,sF,wO,xq,CE,vk,uy,Ds,G8,I7,Hy,NA,NB]
end
def Off(s p:Str):Prop:=∀k,(s.drop k).take p.length≠p
theorem aFi {p:Str}(hp:p≠[])(h:Lib.contains s p=false):Off s p:=by
 intro k he;unfold Lib.contains at h;have h:=of_decide_eq_false h;rcases Lib.index_spec s p with⟨_,h2⟩|⟨i,h1,_⟩
 ·rcases jm s.length k with hk|hk
  ·rw[iL (by omega),jh]at he;exact hp he.symm
  ·have:=h2 k hk;unfold Lib.occAt at this;have:p<+:s.drop k:=by rw[<-he];exact List.take_prefix _ _
   rw[<-List.isPrefixOf_iff_prefix]at this
   grind
 ·omega
theorem axl{a:List Str}{more:Str}(r:Str)(h:r.take more.length≠more):ug (a++[more]) r=ug a r:=by
 cases r with
 |nil=>rfl
 |cons c t=>
  have h1:= @aur (c::t) more (uC++a) [] h;rw[List.append_nil,ji]at h1
  have h2:(a++[more]).contains ((c::t).take (nmT (c::t)))=a.contains ((c::t).take (nmT (c::t))):=by
   have:(c::t).take (nmT (c::t))≠more:=by
    intro e;have e2:=congrArg List.length e;rw[Xe (aoJ _)]at e2;exact h (by rw[<-e2];exact e)
   grind
  rw[ug,ug];unfold ZF aiC;rw[h1,h2]
theorem auu{more:Str}(hm:OT more=true)(h:Off s more):we (lM++[more]) s=we lM s:=by
 have:=axh (T:=ug (lM++[more])) (aJb:=ug lM) s fun k _=>axl (s.drop k) (h k)
 unfold we;rw[List.all_append,jg,hm,List.all_nil,jv,jv,this]
theorem akV{s:Str}:∀(ps:List Str)(out:List Str),(∀p∈ps,p=[]\/(OT p=true/\Off s p))->we (RA out ps) s=we out s
 |[],_,_=>rfl
 |p::ps,out,h=>by
  show we (RA (aiB out p) ps) s=_;rw[akV ps _ fun q hq=>h q (jt _ hq)];unfold aiB;cases hc:p==[]||out.contains p with
  |true=>rfl
  |false=>
   rw[jz];rw[Bool.or_eq_false_iff]at hc;rcases h p iO with hp|⟨h1,h2⟩
   ·rw[hp]at hc;exact absurd hc.1 (by decide)
   ·exact auu h1 h2
theorem aeH(T:List jI)(n:jI):tM [] (T++[n])=RA (tM [] T) n.parts:=by
 unfold tM;rw[List.foldl_append];rfl
theorem aFj:∀{r:Str}{a:Nat},(Ui (ug lM) r a).2.2=0->∀t∈(Ui (ug lM) r a).1,t.kind=2->∃k,(r.drop k).take t.text.length=t.text:=by
 intro r;induction h:r.length using iV generalizing r with
 |ind d ih=>
  intro a he
  match r,h with
  |[],h=>
   intro t ht hk;rw[Ui,iS]at ht;subst ht;cases hk
  |c::t,h=>
   obtain⟨n,sk,f,h0,hn,hn1,hnl,hsk,s1,s2,s3,hle,hz,heq⟩:=akR he;have hr:((c::t).drop (n+sk)).length=d-(n+sk):=by rw[iK,h]
   have hi:=ih ((c::t).drop (n+sk)).length (by rw[hr];omega) rfl hz;rw[heq];intro u hu hk;rcases List.mem_cons.1 hu with hu|hu
   ·subst hu;exact⟨0,by rw[iQ,Xe hnl]⟩
   ·obtain⟨k,hk2⟩:=hi u hu hk;exact⟨n+sk+k,by rw[<-iU];exact hk2⟩
theorem aAa(h:(we lM s).2.2=0){t:kF}(ht:t∈(we lM s).1)(hk:t.kind=2):∃k,(s.drop k).take t.text.length=t.text:=by
 unfold we at h ht;cases h1:lM.all OT with
 |false=>rw[h1]at h;cases h
 |true=>
  rw[h1,jy]at h ht;cases h2:decide (65536<s.length)with
  |true=>rw[h2]at h;cases h
  |false=>
   rw[h2,jz]at h ht;obtain⟨k,hk⟩:=aFj h t ht hk;exact⟨pN false s+k,by rw[<-iU];exact hk⟩
def Av(n:jI)(l:List Syntax):Prop:=∀x∈l,x.kind=17->x.text≠qw n
theorem Av.aeG(h:Av n l)(hs:r<:+l):Av n r:=fun x hx=>h x (hs.subset hx)
theorem akW{T:List jI}{c:Bool}(h:s≠qw n):z8 (T++[n]) s c=z8 T s c:=by
 unfold z8;rw[List.find?_append];have:(qw n==s)=false:=beq_eq_false_iff_ne.2 fun e=>h e.symm
 rw[List.find?_cons,this,jp];cases List.find? _ T<;>rfl
theorem ahb{T:List jI}{m:Int}(h:x.text≠qw n):amd (T++[n]) m x=amd T m x:=by
 unfold amd;rw[akW h]
theorem ahc{T:List jI}{m has:Int}(h:Av n r):amc (T++[n]) m has r=amc T m has r:=by
 unfold amc;cases hs:ag2 r with
 |none=>rfl
 |some s=>
  obtain⟨y,r',rfl,hk,rfl⟩:=ag3 hs;simp only[];rw[akW (h y iO hk)]
theorem L7.more{T:List jI}{c:Cmd}(h:L7 T c o):Av n c.rest->L7 (T++[n]) c o:=by
 induction h with
 |Xa=>intro _;exact .Xa
 |af0 _ ih=>exact fun a=>.af0 (ih a)
 |KL h1 h2 ih1 ih2=>exact fun a=>.KL (ih1 a) (ih2 (a.aeG h1.aeG))
 |akH h1 h2=>exact fun _=>.akH h1 h2
 |yC h1 h2 h3 h4 ih=>exact fun a=>.yC h1 h2 h3 (ih (a.aeG (List.suffix_cons _ _)))
 |Xb=>exact fun _=>.Xb
 |Nw h=>exact fun _=>.Nw h
 |Xc h1 h2=>exact fun a=>.Xc h1 (by rw[ahb (a _ iO h1)];exact h2)
 |ab4 h1 h2 h3 ih=>exact fun a=>.ab4 h1 (by rw[ahb (a _ iO h1)];exact h2) (ih a)
 |first h1 h2 h3 ih=>exact fun a=>.first h1 (by rw[ahb (a _ iO h1)];exact h2) (ih a)
 |stop h=>exact fun a=>.stop ((ahc a).trans h)
 |arz h1 h2 ih=>exact fun a=>.arz ((ahc a).trans h1) (ih a)
 |go h1 h2 h3 ih1 ih2=>exact fun a=>.go ((ahc a).trans h1) (ih1 a) (ih2 (a.aeG h2.aeG))
 |Xd h ih=>exact fun a=>.Xd (ih a)
 |mW h1 h2 ih1 ih2=>exact fun a=>.mW (ih1 a) (ih2 (a.aeG h1.aeG))
theorem aAb{T:List jI}(g:adp T)(g':adp (T++[n]))(hl:l.length<=200)(a:Av n l):npT (T++[n]) l=npT T l:=by
 obtain⟨o,h1,h2⟩:=g.npR (l:=l);rw[h2];exact g'.aHx hl (h1.more a)
theorem anp:∀(ps out:List Str)(y:Str),y∈out->y∈RA out ps
 |[],_,_,h=>h
 |p::ps,out,y,h=>anp ps _ y (by
  unfold aiB;cases p==[]||out.contains p with
  |true=>exact h
  |false=>exact List.mem_append_left _ h)
theorem auv{T:List jI}(g:adp T)(g':adp (T++[n]))(h:∀p∈n.parts,p=[]\/Off s p):akS (T++[n]) s=akS T s:=by
 have hn:Ok n:=g'.ok.ok (jr _ (iS.2 rfl))
 have hp:∀p∈n.parts,p=[]\/(OT p=true/\Off s p):=fun p hp=>by
  rcases h p hp with h|h
  ·exact .inl h
  ·rcases anl (g'.ok.chk n (jr _ (iS.2 rfl))) p hp with h2|h2
   ·exact .inl h2
   ·exact .inr ⟨h2,h⟩
 have hs:we (tM [] (T++[n])) s=we (tM [] T) s:=by rw[aeH];exact akV _ _ hp
 unfold akS;rw[hs];cases he:(we (tM [] T) s).2.2==0 with
 |false=>rfl
 |true=>
  have he:=beq_iff_eq.1 he
  have aAo:∀i,((Zc T s).S.K i).1=2->∃k,(s.drop k).take ((Zc T s).S.K i).2.length=((Zc T s).S.K i).2:=by
   intro i;show((match (we (tM [] T) s).1[i]? with|some t=>(t.kind,t.text)|none=>((4:Int),([]:Str))).1=2)->_;show _->∃k,(s.drop k).take (match (we (tM [] T) s).1[i]? with|some t=>(t.kind,t.text)|none=>((4:Int),([]:Str))).2.length=(match (we (tM [] T) s).1[i]? with|some t=>(t.kind,t.text)|none=>((4:Int),([]:Str))).2;cases ht:(we (tM [] T) s).1[i]? with
   |none=>intro hk;cases hk
   |some t=>exact fun hk=>aAa he (List.mem_of_getElem? ht) hk
  have aDt:∀y:Str,(∃k,(s.drop k).take y.length=y)->(tM [] (T++[n])).contains y=(tM [] T).contains y:=by
   intro y ⟨k,hk⟩;cases hc:(tM [] T).contains y with
   |true=>
    rw[aeH,iX];rw[iX]at hc;exact anp _ _ _ hc
   |false=>
    cases hc2:(tM [] (T++[n])).contains y with
    |false=>rfl
    |true=>
     rw[aeH,iX]at hc2;rcases ag7 hc2 with h1|h1
     ·rw[<-iX,hc]at h1;cases h1
     ·rcases h y h1.1 with h2|h2
      ·exact absurd h2 h1.2
      ·exact absurd hk (h2 k)
  have hw:(Zc (T++[n]) s).S.whole=(Zc T s).S.whole:=by
   have e:(Zc (T++[n]) s).S=(Zc T s).S.mod (fun y=>(tM [] (T++[n])).contains y) (npT (T++[n])):=by
    unfold Zc Cx.S oQ.mod;rw[hs]
   rw[e];refine axk (fun i hk=>aDt _ (aAo i hk)) (fun l hl hi=>aAb g g' hl fun x hx hk e=>?_) (g.aIL s);obtain⟨i,h1,h2⟩:=hi x hx hk
   have hk2:((Zc T s).S.K i).1=2:=by
    unfold oQ.OR at h1;rw[iP]at h1;exact beq_iff_eq.1 h1.1
   obtain⟨k,hk3⟩:=aAo i hk2;rw[<-h2,e]at hk3
   have hh:qw n∈n.parts:=by
    cases hl:MT n with
    |true=>rw[akJ hn hl];exact jt _ iO
    |false=>rw[ahK hn hl];exact iO
   rcases h _ hh with h3|h3
   ·exact hn.afZ h3
   ·exact h3 k hk3
  rw[jy,jy,hw]
theorem axm(xs:List jI)(h:xs.length<=cap+1):Ev (fun n=>CX n xs) ((xs,()),()):=by
 simp only[cap]at h;refine⟨1,fun n hn=>?_⟩;obtain⟨k,rfl⟩:∃k,n=k+1:=⟨n-1,by omega⟩;cases xs with
 |nil=>rfl
 |cons x xs=>
  rw[iJ]at h;show(bif decide ((xs.length+1)*56<=17592186044416)then some ((x::xs,()),())else none)=_;rw[jA (by omega)];rfl
theorem axn(xs:List Str)(h:xs.length<=cap+1):Ev (fun n=>uD n xs) ((xs,()),()):=by
 simp only[cap]at h;refine⟨1,fun n hn=>?_⟩;obtain⟨k,rfl⟩:∃k,n=k+1:=⟨n-1,by omega⟩;cases xs with
 |nil=>rfl
 |cons x xs=>
  rw[iJ]at h;show(bif decide ((xs.length+1)*16<=17592186044416)then some ((x::xs,()),())else none)=_;rw[jA (by omega)];rfl
def aFk(T:List jI)(n:jI):List jI×Int:=bif Vq T then(bif Qd T n==0 then(T++[n],0)else([],Qd T n))else([],3)
theorem aC2{T:List jI}(hT:T.length<=cap)(hN:∀n∈T,Nsm n)(hn:Nsm n):Ev (fun f=>Hx f T n) (aFk T n):=by
 obtain⟨ri,hri,evi⟩:=anj hT hN;have hT':=hT;simp only[cap]at hT';have r2:decide ((T.length+1)*56<=17592186044416)=true:=jA (by omega);unfold aFk;rcases hri with⟨ht,sz,B,C,I,rfl,X⟩|⟨ht,rfl⟩
 ·have g:=TOk.of ht;obtain⟨r,hr,evr⟩:=avp g X hn;rw[ht];simp only[jy];refine Ev.fn (fun n=>by simp only[Hx,kA,Lv,EH];exact rfl) ?_;refine Ev.bind evi ?_;simp only[F7];refine Ev.bind evr ?_;rw[hr.1,bne];cases Qd T n==0 with
  |false=>exact Ev.pure
  |true=>
   simp only[ju,jz,jy];refine Ev.bind (axn _ (by have:=hn.len;omega)) (Ev.bind (axm T (by omega)) ?_);rw[r2];exact Ev.pure
 ·rw[ht];refine Ev.fn (fun n=>by simp only[Hx,kA,Lv,EH];exact rfl) ?_;exact Ev.bind evi Ev.pure
theorem auw{T:List jI}(hl:T.length<=cap)(h:∀n∈T,Nsm n):l3 (fun f=>Yw f T) (fun b=>b=true->T.length<=8/\Vq T=true):=by
 have Xf:=hl;simp only[cap]at hl;refine l3.fn (fun n=>by simp only[Yw,kA,Yv,mB];exact rfl) ?_;refine l3.xI (fun h8=>?_) fun _=>l3.pure fun h=>by cases h
 have h8:=jC h8;refine l3.bind (Ev.tot (Q:=(· =Vq T)) (ani Xf h) rfl) fun b hb=>?_
 subst hb;refine l3.xI (fun ht=>?_) fun _=>l3.pure fun h=>by cases h
 refine l3.bind (P:=fun _=>True) ?_ fun _ _=>l3.pure fun _=>⟨by omega,ht⟩
 refine l3.fn (fun n=>by simp only[sr,kA,rE,mB];exact rfl) ?_;refine l3.bind (P:=fun _=>True) ?_ fun _ _=>l3.pure trivial
 refine l3.fn (fun n=>by simp only[tD,kA,sI,mB];exact rfl) ?_
 have key:∀d i:Nat,i+d=T.length->lu (fun f m=>ou f m T (T.length:Int) (i:Int)) (fun _=>True):=by
  intro d;induction d with
  |zero=>
   intro i hi;refine lu.lp (fun n m=>by simp only[vX,ot,mB];exact rfl) ?_;have:decide ((i:Int)<(T.length:Int))=false:=jB (by omega);simp only[this,jz];exact lu.pure trivial
  |succ d ihd=>
   intro i hi;have mR:i<T.length:=by omega
   refine lu.lp (fun n m=>by simp only[vX,ot,mB];exact rfl) ?_;have:decide ((i:Int)<(T.length:Int))=true:=jA (by omega);simp only[this,jy,q6 mR,iH];refine lu.nL (P:=fun _=>True) ?_ fun b _=>?_
   ·refine l3.fn (fun n=>by simp only[XN,kA,QF,mB];exact rfl) ?_;exact l3.xI (fun _=>l3.pure trivial) fun _=>l3.pure trivial
   ·refine lu.xI (fun _=>lu.pure trivial) fun _=>?_
    rw[kX (by omega)];exact ihd (i+1) (by omega)
 exact l3.Il (F:=fun f m=>ou f m T (T.length:Int) 0) (key T.length 0 (by omega))
theorem aFl(s p:Str)(h:s.length<4294967281):Ev (fun n=>strings_Contains n s p) (Lib.contains s p):=by
 refine⟨1,fun n hn=>?_⟩;obtain⟨k,rfl⟩:∃k,n=k+1:=⟨n-1,by omega⟩;show(bif decide (s.length<4294967281)then some (Lib.contains s p)else none)=_;rw[jA h];rfl
theorem axo(s:Str)(hs:s.length<=200)(ps:List Str)(hp:ps.length<=cap):l3 (fun n=>n4 n ps s) (fun r=>r.1=((s,()),())/\(r.2.1=false->∀p∈ps,p=[]\/Off s p)):=by
 simp only[cap]at hp;refine l3.fn (fun n=>by simp only[n4,kA,pT,mC];exact rfl) ?_;refine l3.bind (P:=fun r=>r.1=((s,()),())/\(r.2.1<0->∀p∈ps,p=[]\/Off s p)) ?_ fun r hr=>l3.pure ⟨by rw[hr.1],fun h=>hr.2 (by have:=of_decide_eq_false h;omega)⟩
 refine l3.fn (fun n=>by simp only[qJ,kA,ql,mC];exact rfl) ?_
 have key:∀d i:Nat,i+d=ps.length->lu (fun f m=>my f m ps (ps.length:Int) (i:Int) s) (fun r=>r.1=((s,()),())/\(r.2.1<0->∀p∈ps.drop i,p=[]\/Off s p)):=by
  intro d;induction d with
  |zero=>
   intro i hi;refine lu.lp (fun n m=>by simp only[sS,mw,mB];exact rfl) ?_;have:decide ((i:Int)<(ps.length:Int))=false:=jB (by omega);simp only[this,jz];refine lu.pure ⟨rfl,fun _ p hp=>?_⟩;rw[iL (by omega)]at hp;cases hp
  |succ d ihd=>
   intro i hi;have mR:i<ps.length:=by omega
   refine lu.lp (fun n m=>by simp only[sS,mw,mB];exact rfl) ?_;have:decide ((i:Int)<(ps.length:Int))=true:=jA (by omega);simp only[this,jy,q6 mR,iH];refine lu.nL (P:=fun r=>r.1=(s,())/\(r.2.1=false->ps[i]=[]\/Off s ps[i])) ?_ fun r hr=>?_
   ·refine l3.fn (fun n=>by simp only[CY,kA,A4,mB];exact rfl) ?_;refine l3.xI (fun h0=>l3.pure ⟨rfl,fun _=>.inl (beq_iff_eq.1 h0)⟩) fun h0=>?_
    exact l3.bind (Ev.tot (Q:=(· =Lib.contains s ps[i])) (aFl s ps[i] (by omega)) rfl) fun b hb=>l3.pure ⟨rfl,fun h=>.inr (aFi (beq_eq_false_iff_ne.1 h0) (hb ▸ h))⟩
   ·obtain⟨e1,e2⟩:=hr;rw[e1];refine lu.xI (fun _=>lu.pure ⟨rfl,fun h=>absurd h (by show ¬ ((i:Int)<0);omega)⟩) fun hb=>?_
    rw[kX (by omega)];refine(ihd (i+1) (by omega)).imp fun r hr=>⟨hr.1,fun h p hp=>?_⟩
    rw[iI mR,List.mem_cons]at hp;rcases hp with rfl|hp
    ·exact e2 hb
    ·exact hr.2 h p hp
 exact l3.Il (F:=fun f m=>my f m ps (ps.length:Int) 0 s) (key ps.length 0 (by omega))
theorem akX{n:jI}:∀(r pre:List jI),aJI pre (r++[n])=(aJI pre r&&Qd (pre++r) n==0)
 |[],pre=>by simp [aJI]
 |m::r,pre=>by
  rw[iN,aJI,aJI,akX r (pre++[m]),ji,List.singleton_append,Bool.and_assoc]
theorem adp.aoF{T:List jI}(h8:T.length<=8)(ht:Vq T=true)(hN:∀n∈T,Nsm n)(hn:Nsm n)(ha:Qd T n=0):adp T/\adp (T++[n]):=by
 have g:=TOk.of ht
 have p16:∀m:jI,Bc m=0->m.parts.length<=16:=fun m h=>by
  unfold Bc at h
  grind
 have h1:∀m∈T,m.parts.length<=16:=fun m hm=>p16 m (g.chk m hm)
 refine⟨⟨⟨by omega,h1,ht⟩,hN⟩,⟨⟨by simp;omega,fun m hm=>?_,?_⟩,fun m hm=>?_⟩⟩
 ·rcases iZ.1 hm with hm|hm
  ·exact h1 m hm
  ·rw[iS]at hm;subst hm;exact p16 m (ana ha).1
 ·unfold Vq at ht ⊢;rw[akX,ht,List.nil_append,ha];rfl
 ·rcases iZ.1 hm with hm|hm
  ·exact hN m hm
  ·rw[iS]at hm;subst hm;exact hn
set_option maxRecDepth 100000
theorem aC3(k:Nat):Fh (k+300)=some true:=jF
theorem aAc:Ev (fun n=>Fh n) true:=by
 refine⟨300,fun n hn=>?_⟩;obtain⟨k,rfl⟩:∃k,n=k+300:=⟨n-300,by omega⟩;exact aC3 k
theorem axp:Ev (fun n=>(Fh n).bind fun x=>some x) true:=Ev.bind aAc Ev.pure
theorem arX{F:Nat->Option Bool}(h:Ev F true):∃n,F n=some true:=by
 obtain⟨N,hN⟩:=h;exact⟨N,hN N (iR _)⟩
theorem avA:Rg agY:=.akv (by decide) (iT _)
theorem aAd{T:List jI}(g:adp T)(hs:s.length<=65536):Rg (akS T s).1:=by
 unfold akS;cases he:(we (tM [] T) s).2.2==0 with
 |false=>exact avA
 |true=>
  rw[jy];have ht:=g.tk hs (beq_iff_eq.1 he);have hp:=ht.pos;have hw:=ht.sok.whole ht.aHv (g.aDr s) (by show(Zc T s).T.length<=100000;have:=ht.le;omega) ht.pos;cases hq:(Zc T s).S.whole with
  |er e a=>exact avA
  |ok x j=>
   rw[hq]at hw;exact hw.1
theorem aFm(f:Nat)(X:List jN->List jN->Int->Option Bool)(l:List jN)(i:Nat)(mR:i<l.length)(hl:l.length<=1048640)(hX:X l l ((i+1:Nat):Int)=some true)(ha:l[i].tB.length<=1048640):
 ∀d j:Nat,j+d=l[i].tB.length->∀k,d<k->Cr f X k l l (i:Int) (j:Int)=some true:=by
 intro d;induction d with
 |zero=>
  intro j hj k hk;obtain⟨k,rfl⟩:∃k',k=k'+1:=⟨k-1,by omega⟩;simp only[Mg,yU,q6 mR,iH,mB];rw[jB (show ¬ (j:Int)<(l[i].tB.length:Int) by omega),jz,kX (by omega)];exact hX
 |succ d ih=>
  intro j hj k hk;obtain⟨k,rfl⟩:∃k',k=k'+1:=⟨k-1,by omega⟩;have hjl:j<l[i].tB.length:=by omega
  simp only[Mg,yU,q6 mR,iH,q6 hjl,beq_self_eq_true,Bool.and_self,mB];rw[jA (show(j:Int)<(l[i].tB.length:Int) by omega),jy,jy,kX (by omega)];exact ih (j+1) (by omega) k (by omega)
theorem aFn(l:List jN)(hl:l.length<=1000000)(ha:∀x∈l,x.tB.length<=1000000):Ev (fun f=>Hr f l l) true:=by
 refine Ev.fn (fun n=>by simp only[Hr,kA,Jr,mB];exact rfl) ?_;simp only[bne_self_eq_false,jz]
 have key:∀d i:Nat,i+d=l.length->li (fun f m=>yW f m l l (i:Int)) true:=by
  intro d;induction d with
  |zero=>
   intro i hi;refine li.lp (fun n m=>by simp only[Mh,yV];exact rfl) ?_;have:decide ((i:Int)<(l.length:Int))=false:=jB (by omega);simp only[this,jz];exact li.pure
  |succ d ih=>
   intro i hi;have mR:i<l.length:=by omega
   refine li.lp (fun n m=>by simp only[Mh,yV];exact rfl) ?_;have:decide ((i:Int)<(l.length:Int))=true:=jA (by omega);simp only[this,jy,q6 mR,iH,beq_self_eq_true,bne_self_eq_false,jz];have hal:=ha _ (iM mR);obtain⟨N,hN⟩:=ih (i+1) (by omega);refine⟨max N (l[i].tB.length+1),fun f m hf hm=>?_⟩;exact aFm f _ l i mR (by omega) (hN f m (by omega) (by omega)) (by omega) l[i].tB.length 0 (by omega) f (by omega)
 exact Ev.Il (F:=fun f m=>yW f m l l 0) (key l.length 0 (by omega))
theorem axq{a:Syntax}(h:Rg a):Ev (fun f=>vq f a a true) true:=by
 induction h with
 | @mk k s n ns ls ks f t h1 h2 h3 h4 h5 h6 h7 h8 ih=>
   have hl:∀x∈ls,x.tB.length<=1000000:=fun x hx=>Nat.le_trans (h3 x hx) (by decide)
   refine Ev.fn (fun n=>by simp only[vq,kA,UY,mB];exact rfl) ?_;simp only[bne_self_eq_false,jz,beq_self_eq_true,jy];refine Ev.bind (aFn ls h2 hl) ?_;simp only[jy]
   have wi:li (fun g m=>Da (vq g) g m true 0 (.mk k s n ns ls ks f t) (.mk k s n ns ls ks f t)) true:=by
    have key:∀d i:Nat,i+d=ks.length->li (fun g m=>Da (vq g) g m true (i:Int) (.mk k s n ns ls ks f t) (.mk k s n ns ls ks f t)) true:=by
     intro d;induction d with
     |zero=>
      intro i hi;refine li.lp (fun n m=>by simp only[We,GA,mB];exact rfl) ?_;have:decide ((i:Int)<(ks.length:Int))=false:=jB (by omega);simp only[Syntax.prj,this,jz];exact li.pure
     |succ d ihd=>
      intro i hi;have mR:i<ks.length:=by omega
      refine li.lp (fun n m=>by simp only[We,GA,mB];exact rfl) ?_;have:decide ((i:Int)<(ks.length:Int))=true:=jA (by omega);simp only[Syntax.prj,this,jy,q6 mR,iH];refine li.nL (ih _ (iM mR)) ?_;simp only[jy];rw[kX (by omega)];exact ihd (i+1) (by omega)
    exact key ks.length 0 (by omega)
   have lR:li (fun g m=>Db (vq g) g m true 0 (.mk k s n ns ls ks f t) (.mk k s n ns ls ks f t)) true:=by
    have key:∀d i:Nat,i+d=ns.length->li (fun g m=>Db (vq g) g m true (i:Int) (.mk k s n ns ls ks f t) (.mk k s n ns ls ks f t)) true:=by
     intro d;induction d with
     |zero=>
      intro i hi;refine li.lp (fun n m=>by simp only[Wf,GB,mB];exact rfl) ?_;have:decide ((i:Int)<(ns.length:Int))=false:=jB (by omega);simp only[Syntax.prj,this,jz];exact li.of1 (Ev.Il (F:=fun g m=>Da (vq g) g m true 0 (.mk k s n ns ls ks f t) (.mk k s n ns ls ks f t)) wi)
     |succ d ihd=>
      intro i hi;have mR:i<ns.length:=by omega
      refine li.lp (fun n m=>by simp only[Wf,GB,mB];exact rfl) ?_;have:decide ((i:Int)<(ns.length:Int))=true:=jA (by omega);simp only[Syntax.prj,this,jy,q6 mR,iH,beq_self_eq_true];rw[kX (by omega)];exact ihd (i+1) (by omega)
    exact key ns.length 0 (by omega)
   exact Ev.Il (F:=fun g m=>Db (vq g) g m true 0 (.mk k s n ns ls ks f t) (.mk k s n ns ls ks f t)) lR
theorem akY{Q:Bool->Prop}(q:Q true):l3 (fun n=>(Fh n).bind fun x=>some x) Q:=Ev.tot axp q
theorem aiU(x0:Str)(x1:List jI)(x2:jI)(h:(x0.length+1)+(adl jI.ard x1+x2.ard)<=1048576)(_:True)(_:∀y∈x1,y.wf)(_:x2.wf):∃n,FF n x0 x1 x2=some true:=by
 have hT:x1.length<=cap/\∀n∈x1,Nsm n:=by
  have:adl jI.ard x1<=1048576:=by omega
  grind [akM,jI.ard,Nsm.of,akL]
 have hn:Nsm x2:=Nsm.of (by simp only[cap];omega);refine arX (l3.ev ?_);refine l3.fn (fun n=>by simp only[FF,kA,Dp,mB];exact rfl) ?_;refine l3.xI (fun _=>akY rfl) fun hl=>?_
 have hl:x0.length<=200:=by have:=of_decide_eq_false hl;omega
 refine l3.bind (auw hT.1 hT.2) fun b hb=>?_
 cases b with
 |false=>exact akY rfl
 |true=>
  obtain⟨h8,ht⟩:=hb rfl;simp only[jy];refine Ev.to (aC2 hT.1 hT.2 hn) ?_;unfold aFk;rw[ht,jy];cases ha:Qd x1 x2==0 with
  |false=>
   simp only[jz,bne,ha,jb,jy];exact akY rfl
  |true=>
   obtain⟨g,g'⟩:=adp.aoF h8 ht hT.2 hn (beq_iff_eq.1 ha);simp only[jy,bne_self_eq_false,jz];refine l3.bind (axo x0 hl x2.parts hn.len) fun r hr=>?_
   obtain⟨e1,e2⟩:=hr;refine l3.xI (fun _=>akY rfl) fun hc=>?_
   have aDu:=e2 hc;rw[e1];have h6:x0.length<=65536:=by omega
   refine Ev.to (avw g h6) (Ev.to (avw g' h6) ?_);rw[auv g g' aDu];simp only[beq_self_eq_true,jy];refine Ev.to (axq (aAd g (by omega))) ?_;simp only[jy];exact akY rfl
end Go.Abs
end
