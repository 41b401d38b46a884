/- A part of the proof: plain facts. -/
import Derived.Test.YtdkeelhebopgkaaGreatDoorLawA
import Derived.Test.YtdkeelhebopgkaaGreatDoorReadA
set_option linter.all false
open List renaming length_cons → iB,length_append → iD,drop_eq_getElem_cons → iE,length_nil → iF,getElem_mem → iI,length_drop → iJ,cons_append → iK,drop_eq_nil_of_le → iL,mem_append → iN,contains_iff_mem → iP,mem_singleton → iQ,nil_append → iR,drop_append_of_le_length → iU,drop_zero → iV,all_eq_true → iW,drop_length → iX,length_map → jb,append_assoc → jc,take_of_length_le → ji,take_succ_cons → jj,drop_drop → jl,all_cons → jm,map_cons → jn,take_length → jp,contains_eq_any_beq → jq,getElem_map → jt,drop_of_length_le → jv,take_zero → jw,take_append_drop → jx,mem_append_left → jy,take_nil → jB
open Option renaming bind_some → iC
open Int renaming reduceBEq → iG,ofNat_lt → iT,le_refl → iY,natCast_nonneg → jf,toNat_natCast → jh,lt_irrefl → jz
open Bool renaming and_eq_true → iH,true_and → ja,and_false → jd,not_false → jk,not_eq_true' → jo,or_eq_true → ju,or_false → jA
open Nat renaming zero_le → iM,strongRecOn → iO,le_refl → iS,lt_or_ge → je,lt_of_le_of_lt → jg,zero_add → jr
open UInt8 renaming ofNat → iZ
noncomputable section
namespace Go.Abs
variable {f:Int}{ld out:List Str}{ops xs:List Syntax}{a n q:Nat}{o:Out}{r s t v:Str}{p:Str->Prop}{x y:Syntax}{c:UInt8}
abbrev StP:=((List Syntax)×(Int×Unit))×((Int×Unit)×((List (Str×jY))×((List (Str×jY))×((List (Str×Bool))×Unit))))
def pos(L r:List Syntax):Int:=((L.length-r.length:Nat):Int)
theorem pos_at{L t r:List Syntax}(h:L=t++r):pos L r=(t.length:Int):=by
 grind [pos]
theorem ai4(L:List Syntax):pos L []=(L.length:Int):=rfl
theorem axi(L:List Syntax):pos L L=0:=by unfold pos;rw[Nat.sub_self];rfl
theorem WT{L:List Syntax}{r:List Syntax}(h:y::r<:+L):decide ((L.length:Int)<=pos L (y::r))=false/\wq L (pos L (y::r))=some y:=by
 obtain⟨t,rfl⟩:=h
 grind [pos_at,qi]
theorem alW{L:List Syntax}{r:List Syntax}(h:y::r<:+L)(hL:L.length<=cap):IntKind.i64.wrap (pos L (y::r)+1)=pos L r:=by
 obtain⟨t,rfl⟩:=h;simp only[cap] at hL;rw[iD] at hL;rw[pos_at rfl,pos_at (t:=t++[y]) (by simp),kO (by omega),iD,List.length_singleton]
theorem ark{L:List Syntax}{r:List Syntax}(h:y::r<:+L):r<:+L:=(List.suffix_cons y r).trans h
section prog
variable (L:List Syntax) (sz:Int) (B C:List (Str×jY)) (I:List (Str×Bool))
def psP(r:List Syntax):StP:=((L,pos L r,()),(sz,()),B,C,I,())
def agz:Out->PR (StP×(Syntax×(Int×Unit))) (StP×(Unit×Unit))
 | .bad q=> .pn (psP L sz B C I q,(),())
 | .val x h q=> .ok (psP L sz B C I q,x,h,())
 | .ops _ _ q=> .pn (psP L sz B C I q,(),())
def at3(n:jY)(start:Int):Out->PR (StP×(Syntax×Unit)) (StP×(Unit×Unit))
 | .bad q=> .pn (psP L sz B C I q,(),())
 | .val _ _ q=> .pn (psP L sz B C I q,(),())
 | .ops l e q=> .ok (psP L sz B C I q,WP n l start e,())
theorem Sz{r:List Syntax}(h:r<:+L):Ev (fun f=>tR f L (pos L r) sz B C I) (psP L sz B C I r,match adp r with|none=>([],false,())|some s=>(s,true,())):=by
 refine Ev.fn (fun n=>by simp only[tR,kG,zj,mC];exact rfl) ?_
 match r,h with
 |[],h=>
  rw[ai4,jO (iY _)];exact Ev.pure
 |y::r,h=>
  obtain⟨h1,h2⟩:=WT h;rw[h1,h2];simp only[jN,iC];rw[show adp (y::r)=bif y.kind==17 then some y.text else none from rfl,bne];cases y.kind==17<;>exact Ev.pure
theorem axj(n:jY)(ops:List Syntax)(hl:ops.length<=cap)(f t:Int)(r:List Syntax): ∀(d i:Nat)(k:Int)(s:Str)(kids:List Syntax)(a b:Int),i+d=ops.length->
 kR (fun g m=>sZ (kB g) g m f t (ops.length:Int) (i:Int) L (pos L r) sz B C I ops k s kids a b) (.ok (psP L sz B C I r,afn (Syntax.mk k s 0 [] [] kids a b) (ops.drop i) f t,())):=by
 simp only[cap] at hl;intro d;induction d with
 |zero=>
  intro i k s kids a b hi;refine kR.lp (fun n m=>by simp only[D9,sY,kK,Cv];exact rfl) ?_;have:decide ((i:Int)<(ops.length:Int))=false:=jP (by omega);simp only[this,jN,iL (show ops.length<=i by omega)];exact kR.pure
 |succ d ih=>
  intro i k s kids a b hi;have hlt:i<ops.length:=by omega
  refine kR.lp (fun n m=>by simp only[D9,sY,kK,Cv];exact rfl) ?_;have:decide ((i:Int)<(ops.length:Int))=true:=jO (by omega);simp only[this,jM];refine kR.idx hlt ?_;rw[kO (by omega),iE hlt];exact ih (i+1) 2 [] _ f t (by omega)
theorem axk(n:jY)(ops:List Syntax)(hl:ops.length<=cap)(f t:Int)(r:List Syntax): ∀(d i:Nat)(k:Int)(s:Str)(kids:List Syntax)(a b:Int),i+d=ops.length->
 kR (fun g m=>s5 (kB g) g m f t ops (ops.length:Int) (i:Int) L (pos L r) sz B C I k s kids a b) (.ok (psP L sz B C I r,afn (Syntax.mk k s 0 [] [] kids a b) (ops.drop i) f t,())):=by
 simp only[cap] at hl;intro d;induction d with
 |zero=>
  intro i k s kids a b hi;refine kR.lp (fun n m=>by simp only[Ea,s4,kK,Cv];exact rfl) ?_;have:decide ((i:Int)<(ops.length:Int))=false:=jP (by omega);simp only[this,jN,iL (show ops.length<=i by omega)];exact kR.pure
 |succ d ih=>
  intro i k s kids a b hi;have hlt:i<ops.length:=by omega
  refine kR.lp (fun n m=>by simp only[Ea,s4,kK,Cv];exact rfl) ?_;have:decide ((i:Int)<(ops.length:Int))=true:=jO (by omega);simp only[this,jM];refine kR.idx hlt ?_;rw[kO (by omega),iE hlt];exact ih (i+1) 2 [] _ f t (by omega)
def PG:Cmd->Out->Prop
 | .level m r,o=>Ev (fun f=>mG f m L (pos L r) sz B C I) (agz L sz B C I o)
 | .first m r,o=>Ev (fun f=>lN f m L (pos L r) sz B C I) (agz L sz B C I o)
 | .loop m out has r,o=>kR (fun f k=>oW (kB f) f k m has L (pos L r) sz B C I out) (agz L sz B C I o)
 | .parts n ps i ops e r,o=>Ok n-> ∀(from_ j:Nat)(start:Int),i=from_+j->from_+j<=n.parts.length->ps=n.parts.drop i->ops.length<=i->
     kR (fun f k=>vV (kB f) f k (from_:Int) start e (n.parts.drop from_) ((n.parts.drop from_).length:Int) (j:Int) L (pos L r) sz B C I n ops) (at3 L sz B C I n start o)/\
     kR (fun f k=>s6 (kB f) f k (from_:Int) ops start e (n.parts.drop from_) ((n.parts.drop from_).length:Int) (j:Int) L (pos L r) sz B C I n) (at3 L sz B C I n start o)
variable {L} {sz} {B} {C} {I} {T:List jY}
theorem at4(h:ops.length<17):decide ((ops.length+1)*120<=17592186044416)=true:=jO (by omega)
theorem Jq{n:jY}(k:Ok n){from_:Nat}(hf:from_<=n.parts.length)(ho:ops.length<=from_){r:List Syntax}(h:PG L sz B C I (.parts n (n.parts.drop from_) from_ ops 0 r) o)(start:Int):
 Ev (fun f=>nI f n (from_:Int) ops start L (pos L r) sz B C I) (at3 L sz B C I n start o):=by
 refine Ev.fn (fun n=>by simp only[RV,wX,kK,yD];exact rfl) ?_;rw[jO (show(0:Int)<=(from_:Int)/\(from_:Int)<=(n.parts.length:Int)/\(n.parts.length:Int)<=(n.parts.length:Int) by omega)];simp only[jM,jh,jp];exact Ev.zH (F:=fun f k=>s6 (kB f) f k (from_:Int) ops start 0 (n.parts.drop from_) ((n.parts.drop from_).length:Int) 0 L (pos L r) sz B C I n) (h k from_ 0 start (by omega) (by omega) rfl ho).2
theorem adD{n:jY}{ps:List Str}{i from_ j:Nat}(hps:s::ps=n.parts.drop i)(hi:i=from_+j):
 ((j:Int)<((n.parts.drop from_).length:Int))/\wq (n.parts.drop from_) (j:Int)=some s/\ps=n.parts.drop (i+1)/\i<n.parts.length:=by
 grind [iB,iE,qi]
theorem aa4{i from_ j:Nat}{n:jY}(hi:i=from_+j)(k:Ok n)(hle:from_+j<=n.parts.length):IntKind.i64.wrap ((from_:Int)+(j:Int))=((from_+j:Nat):Int):=by
 have:=k.few
 grind [wrap_small]
theorem Kk.prog(g:ZA T)(X:Idx T sz B C I)(hL:L.length<=cap){c:Cmd}(h:Kk T c o):c.rest<:+L->PG L sz B C I c o:=by
 induction h with
 | @WQ n i ops e r=>
   intro hr k from_ j start hi hle hps ho
   have hj:from_+j=n.parts.length:=by
    grind [iF]
   have he:decide ((j:Int)<((n.parts.drop from_).length:Int))=false:=jP (by rw[iJ];omega);have hoc:ops.length<=cap:=by have:=k.X6;omega
   constructor
   ·refine kR.lp (fun n m=>by simp only[rL,oX,kK,Cv];exact rfl) ?_;simp only[he,jN];have:=axj L sz B C I n ops hoc start e r ops.length 0 0 n.target [] start e (by omega);exact kR.Xr (Ev.zH (F:=fun f m=>sZ (kB f) f m start e (ops.length:Int) 0 L (pos L r) sz B C I ops 0 n.target [] start e) this)
   ·refine kR.lp (fun n m=>by simp only[rM,oY,kK,Cv];exact rfl) ?_;simp only[he,jN];have:=axk L sz B C I n ops hoc start e r ops.length 0 0 n.target [] start e (by omega);exact kR.Xr (Ev.zH (F:=fun f m=>s5 (kB f) f m start e ops (ops.length:Int) 0 L (pos L r) sz B C I 0 n.target [] start e) this)
 | @ai1 n ps i ops e r q h1 ih=>
   intro hr k from_ j start hi hle hps ho;obtain⟨hlt,hx,hd,hil⟩:=adD hps hi;constructor
   ·refine kR.lp (fun n m=>by simp only[rL,oX,kK,Cv];exact rfl) ?_;rw[jO hlt];simp only[jM,hx,iC,beq_self_eq_true];rw[aa4 hi k hle,<-hi];refine kR.lQ (Sx k (i:=i) (by omega)) (kR.lQ (ih hr) ?_);exact kR.pure
   ·refine kR.lp (fun n m=>by simp only[rM,oY,kK,Cv];exact rfl) ?_;rw[jO hlt];simp only[jM,hx,iC,beq_self_eq_true];rw[aa4 hi k hle,<-hi];refine kR.lQ (Sx k (i:=i) (by omega)) (kR.lQ (ih hr) ?_);exact kR.pure
 | @hole n ps i ops e r x h q o h1 h2 ih1 ih2=>
   intro hr k from_ j start hi hle hps ho;obtain⟨hlt,hx,hd,hil⟩:=adD hps hi;have hq:q<:+L:=(h1.suff (o:= .val x h q)).trans hr;have next:=(ih2 hq k from_ (j+1) start (by omega) (by omega) hd (by grind)).1
   have hw:IntKind.i64.wrap ((j:Int)+1)=((j+1:Nat):Int):=kO (by have:=k.few;omega);constructor
   ·refine kR.lp (fun n m=>by simp only[rL,oX,kK,Cv];exact rfl) ?_;rw[jO hlt];simp only[jM,hx,iC,beq_self_eq_true];rw[aa4 hi k hle,<-hi];refine kR.lQ (Sx k (i:=i) (by omega)) (kR.lQ (ih1 hr) ?_);simp only[agz,CJ,psP];rw[at4 (by have:=k.few;omega),hw];exact next
   ·refine kR.lp (fun n m=>by simp only[rM,oY,kK,Cv];exact rfl) ?_;rw[jO hlt];simp only[jM,hx,iC,beq_self_eq_true];rw[aa4 hi k hle,<-hi];refine kR.lQ (Sx k (i:=i) (by omega)) (kR.lQ (ih1 hr) ?_);simp only[agz,CJ,psP];rw[at4 (by have:=k.few;omega),hw];exact next
 | @aor n s ps i ops e r hs hq=>
   intro hr k from_ j start hi hle hps ho;obtain⟨hlt,hx,hd,hil⟩:=adD hps hi;have hs':(s==[])=false:=jT.2 hs;constructor
   ·refine kR.lp (fun n m=>by simp only[rL,oX,kK,Cv];exact rfl) ?_;rw[jO hlt];simp only[jM,hx,iC,hs',jN];refine kR.lQ (Sz L sz B C I hr) ?_;cases hy:adp r with
    |none=>exact kR.pure
    |some t=>
     have:(t==s)=false:=jT.2 fun e=>hq (by rw[hy,e])
     simp only[jM,this,jN];exact kR.pure
   ·refine kR.lp (fun n m=>by simp only[rM,oY,kK,Cv];exact rfl) ?_;rw[jO hlt];simp only[jM,hx,iC,hs',jN];refine kR.lQ (Sz L sz B C I hr) ?_;cases hy:adp r with
    |none=>exact kR.pure
    |some t=>
     have:(t==s)=false:=jT.2 fun e=>hq (by rw[hy,e])
     simp only[jM,this,jN];exact kR.pure
 | @sym n s ps i ops e y r o hs hk ht h2 ih=>
   intro hr k from_ j start hi hle hps ho;obtain⟨hlt,hx,hd,hil⟩:=adD hps hi;have hs':(s==[])=false:=jT.2 hs;simp only[Cmd.rest] at hr ih;obtain⟨aDt,aDu⟩:=ih (ark hr) k from_ (j+1) start (by omega) (by omega) hd (by omega);have hw:IntKind.i64.wrap ((j:Int)+1)=((j+1:Nat):Int):=kO (by have:=k.few;omega);have hp:=alW hr hL;constructor
   ·refine kR.lp (fun n m=>by simp only[rL,oX,kK,Cv];exact rfl) ?_;rw[jO hlt];simp only[jM,hx,iC,hs',jN];refine kR.lQ (Sz L sz B C I hr) ?_
    simp_all [apr,psP,WT]
   ·refine kR.lp (fun n m=>by simp only[rM,oY,kK,Cv];exact rfl) ?_;rw[jO hlt];simp only[jM,hx,iC,hs',jN];refine kR.lQ (Sz L sz B C I hr) ?_
    simp_all [apr,psP,WT]
 | @aa0 m=>
   intro hr;show Ev (fun f=>lN f m L (pos L []) sz B C I) _;refine Ev.fn (fun n=>by simp only[rN,n9,kK,yD];exact rfl) ?_;rw[ai4,jO (iY _)];exact Ev.pure
 | @QN m x r hx=>
   intro hr;show Ev (fun f=>lN f m L (pos L (x::r)) sz B C I) _;refine Ev.fn (fun n=>by simp only[rN,n9,kK,yD];exact rfl) ?_;obtain⟨h1,h2⟩:=WT hr;rw[h1,h2,alW hr hL];have:(x.kind !=17)=true:=by grind
   simp only[jN,iC,this,jM];exact Ev.pure
 | @abV m x r hx hb=>
   intro hr;show Ev (fun f=>lN f m L (pos L (x::r)) sz B C I) _;refine Ev.fn (fun n=>by simp only[rN,n9,kK,yD];exact rfl) ?_;obtain⟨h1,h2⟩:=WT hr;rw[h1,h2];have:(x.kind !=17)=false:=by rw[bne,jS.2 hx];rfl
   simp only[jN,iC,this,X.b];unfold aoq at hb;cases hf:y9 T x.text false with
   |none=>exact Ev.pure
   |some n=>
    rw[hf] at hb;have kn:=g.ok (Ja hf).1;simp only[oel];cases hc:rgt n&&decide (n.level<m) with
    |false=>simp only[hc] at hb;cases hb
    |true=>
     rw[iH] at hc;refine Ev.bind (E8 kn.pos kn.X6).1 ?_;rw[hc.1,hc.2];exact Ev.pure
 | @afo m x r n q hx hb h1 ih=>
   intro hr;show Ev (fun f=>lN f m L (pos L (x::r)) sz B C I) _;refine Ev.fn (fun n=>by simp only[rN,n9,kK,yD];exact rfl) ?_;obtain⟨e1,e2⟩:=WT hr;rw[e1,e2];have:(x.kind !=17)=false:=by rw[bne,jS.2 hx];rfl
   obtain⟨hn,hl,hh,azJ⟩:=QO hb;have kn:=g.ok hn;have hf:y9 T x.text false=some n:=by grind [Xo]
   simp only[jN,iC,this,X.b,hf,oel];have rE:=Jq kn (iM _) (iS 0) (ops:=[]) (ih hr) x.from_;refine Ev.bind (E8 kn.pos kn.X6).1 ?_;cases hrg:rgt n with
   |true=>
    have:decide (n.level<m)=false:=jP (by have:=azJ hrg;omega);simp only[jM,this,jN];refine Ev.bind (E8 kn.pos kn.X6).1 ?_;rw[hrg];exact Ev.bind rE Ev.pure
   |false=>
    simp only[jN];refine Ev.bind (E8 kn.pos kn.X6).1 ?_;rw[hrg];exact Ev.bind rE Ev.pure
 | @first m x r n l e q hx hb h1 ih=>
   intro hr;show Ev (fun f=>lN f m L (pos L (x::r)) sz B C I) _;refine Ev.fn (fun n=>by simp only[rN,n9,kK,yD];exact rfl) ?_;obtain⟨e1,e2⟩:=WT hr;rw[e1,e2];have:(x.kind !=17)=false:=by rw[bne,jS.2 hx];rfl
   obtain⟨hn,hl,hh,azJ⟩:=QO hb;have kn:=g.ok hn;have hf:y9 T x.text false=some n:=by grind [Xo]
   simp only[jN,iC,this,X.b,hf,oel];have rE:=Jq kn (iM _) (iS 0) (ops:=[]) (ih hr) x.from_;refine Ev.bind (E8 kn.pos kn.X6).1 ?_;have ho:atU n=bif rgt n then n.level else 101:=rfl
   cases hrg:rgt n with
   |true=>
    rw[hrg] at ho;have:decide (n.level<m)=false:=jP (by have:=azJ hrg;omega);simp only[jM,this,jN];refine Ev.bind (E8 kn.pos kn.X6).1 ?_;rw[hrg];refine Ev.bind rE ?_
    grind [at3,agz,CJ,Ev.pure]
   |false=>
    rw[hrg] at ho;simp only[jN];refine Ev.bind (E8 kn.pos kn.X6).1 ?_;rw[hrg];refine Ev.bind rE ?_
    grind [at3,agz,CJ,Ev.pure]
 | @stop m out has r hg=>
   intro hr;show kR (fun f k=>oW (kB f) f k m has L (pos L r) sz B C I out) _;refine kR.lp (fun n m=>by simp only[yq,qL,kK,Cv];exact rfl) ?_;refine kR.lQ (Sz L sz B C I hr) ?_;unfold aop at hg;cases hs:adp r with
   |none=>exact kR.pure
   |some s=>
    rw[hs] at hg;simp only at hg;simp only[jM,psP,X.c];cases hf:y9 T s true with
    |none=>exact kR.pure
    |some n=>
     rw[hf] at hg;have kn:=g.ok (Ja hf).1;simp only[oel];cases h1:decide (n.level<m) with
     |true=>exact kR.pure
     |false=>
      simp only[jN];refine kR.lQ (Sx kn (i:=0) kn.pos) ?_;cases h2:decide (has<YP n 0) with
      |true=>exact kR.pure
      |false=>simp [h1,h2] at hg
 | @atV m out has r n q hg h1 ih=>
   intro hr;show kR (fun f k=>oW (kB f) f k m has L (pos L r) sz B C I out) _;refine kR.lp (fun n m=>by simp only[yq,qL,kK,Cv];exact rfl) ?_;refine kR.lQ (Sz L sz B C I hr) ?_;obtain⟨hn,hl,hs,hm,hh⟩:=QP hg;have kn:=g.ok hn;have hf:y9 T (pS n) true=some n:=by rw[<-hl];exact Xo g hn
   have rE:=Jq kn kn.pos (iS 1) (ops:=[out]) (ih hr) out.from_;rw[hs];simp only[jM,psP,X.c,hf,oel];rw[jP (show ¬ n.level<m by omega)];simp only[jN];refine kR.lQ (Sx kn (i:=0) kn.pos) ?_;rw[jP (show ¬ has<YP n 0 by omega)];exact kR.lQ rE kR.pure
 | @go m out has r n l e q o hg h1 h2 ih1 ih2=>
   intro hr;show kR (fun f k=>oW (kB f) f k m has L (pos L r) sz B C I out) _;refine kR.lp (fun n m=>by simp only[yq,qL,kK,Cv];exact rfl) ?_;refine kR.lQ (Sz L sz B C I hr) ?_;obtain⟨hn,hl,hs,hm,hh⟩:=QP hg;have kn:=g.ok hn;have hf:y9 T (pS n) true=some n:=by rw[<-hl];exact Xo g hn
   have rE:=Jq kn kn.pos (iS 1) (ops:=[out]) (ih1 hr) out.from_;rw[hs];simp only[jM,psP,X.c,hf,oel];rw[jP (show ¬ n.level<m by omega)];simp only[jN];refine kR.lQ (Sx kn (i:=0) kn.pos) ?_;rw[jP (show ¬ has<YP n 0 by omega)];refine kR.lQ rE ?_;exact ih2 ((h1.suff (o:= .ops l e q)).trans hr)
 | @aa1 m r q h1 ih=>
   intro hr;show Ev (fun f=>mG f m L (pos L r) sz B C I) _;refine Ev.fn (fun n=>by simp only[Hy,tX,kK,yD];exact rfl) ?_;exact Ev.bind (ih hr) Ev.pure
 | @level m r x h q o h1 h2 ih1 ih2=>
   intro hr;show Ev (fun f=>mG f m L (pos L r) sz B C I) _;refine Ev.fn (fun n=>by simp only[Hy,tX,kK,yD];exact rfl) ?_;refine Ev.bind (ih1 hr) ?_;exact Ev.zH (F:=fun f k=>oW (kB f) f k m h L (pos L q) sz B C I x) (ih2 ((h1.suff (o:= .val x h q)).trans hr))
end prog
section ref
variable (T:List jY) (L:List Syntax)
variable {T} {L}
theorem Ev.aDe{S R:Type}{F:Nat->Option S}{x:S}{G:Nat->S->Option R}{Q:R->Prop}(h:Ev F x)(hg:lI (fun n=>G n x) Q):lI (fun n=>(F n).bind (G n)) Q:=
 lI.bind (h.tot (Q:=(· =x)) rfl) fun y hy=>by subst hy;exact hg
end ref
def at5(T:List jY)(b:Bool)(r:PR (Unit×Unit) (((Int×Unit)×((List (Str×jY))×((List (Str×jY))×((List (Str×Bool))×Unit))))×Unit)):Prop:=
 (b=true/\ ∃sz B C I,r= .pn (((sz,()),B,C,I,()),())/\Idx T sz B C I)\/(b=false/\r= .ok ((),()))
theorem arl{T:List jY}(hl:T.length<=cap)(h: ∀n∈T,Nsm n):
 lI (fun f=>DW f T) (at5 T (abU T)):=by
 refine lI.fn (fun n=>by simp only[DW,kG,FD,mC];exact rfl) ?_;simp only[cap] at hl
 have azh:Ev (fun f=>CA f) (((0,()),[],[],[],()),()):=by
  refine Ev.fn (fun n=>by simp only[CA,kG,En,mC];exact rfl) ?_;exact Ev.pure
 refine azh.aDe ?_
 have key: ∀(d i:Nat)(sz:Int)(B C:List (Str×jY))(I:List (Str×Bool)),i+d=T.length->ZA (T.take i)->Idx (T.take i) sz B C I->
  lg (fun f m=>wI f m T (T.length:Int) (i:Int) sz B C I) (at5 T (acz (T.take i) (T.drop i))):=by
  intro d;induction d with
  |zero=>
   intro i sz B C I hi g X;refine lg.lp (fun n m=>by simp only[ID,wH,mB];exact rfl) ?_;have:decide ((i:Int)<(T.length:Int))=false:=jP (by omega);simp only[this,jN,iL (show T.length<=i by omega)];rw[ji (by omega)] at X;exact lg.pure (.inl ⟨by first|rfl|trivial,sz,B,C,I,rfl,X⟩)
  |succ d ih=>
   intro i sz B C I hi g X;have hlt:i<T.length:=by omega
   refine lg.lp (fun n m=>by simp only[ID,wH,mB];exact rfl) ?_;have:decide ((i:Int)<(T.length:Int))=true:=jO (by omega);simp only[this,jM];refine lg.idx hlt ?_;refine lg.lQ (axg g X (h _ (iI hlt))) fun r hr=> ?_
   obtain⟨h1,h2⟩:=hr;rw[h1,iE hlt,acz];cases ha:UU (T.take i) T[i]==0 with
   |false=>simp only[bne,ha,jk,jM,Bool.false_and];exact lg.pure (.inr ⟨rfl,rfl⟩)
   |true=>
    simp only[bne,ha,Bool.not_true,jN,ja];have h0:=jS.1 ha;have g':=g.snoc h0;have X':=h2 h0;have e:T.take i++[T[i]]=T.take (i+1):=by simp_all
    grind [kO]
 have:=key T.length 0 0 [] [] [] (by omega) (by rw[jw];exact ZA.nil) (by rw[jw];exact Idx.nil);rw[jw,iV] at this;exact lI.zH (F:=fun f m=>wI f m T (T.length:Int) 0 0 [] [] []) this
def zS:Syntax:= .mk 0 [] 0 [] [] [] 0 0
def oz(L:List Syntax):Out->Syntax×Int×Int
 | .bad q=>(zS,pos L q,4)
 | .val x _ q=>bif q.isEmpty then(x,0,0) else(zS,pos L q,4)
 | .ops _ _ _=>(zS,0,0)
theorem aot{T:List jY}{L:List Syntax}(hl:T.length<=cap)(h: ∀n∈T,Nsm n)(hL:L.length<=cap)(ht:abU T=true)(hb: ¬ 4096<L.length)(ho:Kk T (.level 0 L) o):
 Ev (fun f=>uc f T L) (oz L o):=by
 obtain⟨ri,hri,evi⟩:=arl hl h;have evt:=ahC hl h;have aBQ:decide ((4096:Int)<(L.length:Int))=decide (4096<L.length):=decide_eq_decide.2 (by omega);have g:=ZA.of ht;rcases hri with⟨_,sz,B,C,I,rfl,X⟩|⟨ht',rfl⟩
 ·rw[ht] at evt;refine Ev.fn (fun n=>by simp only[uc,kG,I4,Cv];exact rfl) ?_;refine Ev.bind evi ?_;simp only[CJ,aBQ,jP hb,jN];have hp:Ev (fun f=>mG f 0 L (pos L L) sz B C I) (agz L sz B C I o):=Kk.prog g X hL ho (List.suffix_refl _);rw[axi] at hp;refine Ev.bind hp ?_
  have qp: ∀(x:Syntax)(q:List Syntax),Ev (fun f=>(ui f () x 0 0 L (pos L q) sz B C I).bind fun x=>some (x.fst.snd.fst.fst,x.fst.snd.snd.fst.fst,x.fst.snd.snd.snd.fst.fst)) (zS,pos L q,4):=by
   intro x q;refine Ev.bind (x:=(((),(zS,()),(pos L q,()),(4,()),(L,pos L q,()),(sz,()),B,C,I,()),())) ?_ Ev.pure;refine Ev.fn (fun n=>by simp only[ui,kG,Ch,mB];exact rfl) ?_;exact Ev.pure
  rcases Lx ho rfl with⟨q,rfl⟩|⟨x,hh,q,rfl⟩
  ·simp only[agz,CJ,psP];exact qp _ _
  ·simp only[agz,CJ,psP];have hs:q<:+L:=ho.suff (o:= .val x hh q)
   match q,hs with
   |[],hs=>
    rw[ai4,jP (jz _)];simp only[jN];refine Ev.bind (x:=(((),(x,()),(0,()),(0,()),(L,(L.length:Int),()),(sz,()),B,C,I,()),())) ?_ Ev.pure;refine Ev.fn (fun n=>by simp only[wB,kG,Cg,mB];exact rfl) ?_;exact Ev.pure
   |y::q,hs=>
    have:=(WT hs).1;rw[jO (show pos L (y::q)<(L.length:Int) by grind)];exact qp _ _
 ·rw[ht] at ht';cases ht'
theorem Syntax.at6(e:Syntax):e.vI=1+((e.text.length+1)+(1+(E7 (fun m:Str=>m.length+1) e.names+(E7 j7.vI e.levels+(E7 Syntax.vI e.kids+(1+(1+1))))))):=by
 cases e;simp [Syntax.vI,Syntax.text,Syntax.names,Syntax.levels,Syntax.kids,Syntax.afb]
section
variable {Z:Cx}
variable {ex ta:Nat->Rs Syntax} {d:Int}
def acD(to:Int):List Syntax->Syntax->Syntax
 |[],o=>o
 |x::l,o=> .mk 6 [] 0 [] [] [x,acD to l o] x.from_ to
theorem afr(to:Int): ∀(l:List Syntax)(x:Syntax)(h:(x::l)≠[]),Src.pairs to l x=acD to (x::l).dropLast ((x::l).getLast h)
 |[],x,_=>rfl
 |y::l,x,_=>by
  show Syntax.mk 6 [] 0 [] [] [x,Src.pairs to l y] x.from_ to=Syntax.mk 6 [] 0 [] [] [x,acD to (y::l).dropLast ((y::l).getLast (by simp))] x.from_ to;rw[afr to l y (by simp)]
theorem afs(to:Int): ∀(l:List Syntax)(x o:Syntax),acD to (l++[x]) o=acD to l (.mk 6 [] 0 [] [] [x,o] x.from_ to)
 |[],_,_=>rfl
 |y::l,x,o=>by rw[iK,acD,afs to l x o,acD]
theorem azK(h:rU Z)(hq:q<Z.T.length)(a0:Syntax)(l:List Syntax)(hl:l.length<=100000): ∀(k:Nat),k<=l.length-> ∀o:Syntax,
 kR (fun n m=>qN (j6 n) n m ((k:Int)-1) (Z.st q d) a0 l o) (.ok (((Z.st q d,()),()),Src.Su (acD (Z.S.E q) (l.take k) o) a0.from_,())):=by
 intro k;induction k with
 |zero=>
  intro hk o;refine kR.lp (fun n m=>by simp only[Ef,tu,ky,Cv];exact rfl) ?_;rw[jP (by omega)];exact kR.pure
 |succ k ih=>
  intro hk o;have hkl:k<l.length:=by omega
  refine kR.lp (fun n m=>by simp only[Ef,tu,ky,Cv];exact rfl) ?_;rw[show((k+1:Nat):Int)-1=(k:Int) by omega,jO (jf k)];simp only[jM,qi hkl,iC];refine kR.lQ (Sv h hq) ?_;rw[wrap_small (by omega) (by omega)]
  grind [afs,List.take_append_getElem]
theorem azL(h:rU Z)(hex:Nx Z d kD ex)(a0 x:Syntax): ∀(m:Nat)(out:List Syntax)(i:Nat),i<Z.T.length->m+out.length=199->
 lg (fun n q=>tw (j6 n) n q (Z.st i d) a0 (x::out)) (RP Z d ((Z.S.adm ex m out i).bind fun l k=>(Z.S.take [41] k).bind fun _ q=> .ok (Src.Su (Src.pairs (Z.S.E q) l x) a0.from_) q)):=by
 intro m
 have fin: ∀(out:List Syntax)(i:Nat),i<Z.T.length->out.length<=199->lg (fun n _=>(lZ n [41] (Z.st i d)).bind fun y=>CJ y (fun y=>(wq (x::out) (IntKind.i64.wrap (((x::out).length:Int)-1))).bind fun x_1=>qN (j6 n) n n (IntKind.i64.wrap (((x::out).length:Int)-2)) y.fst.fst.fst a0 (x::out) x_1) fun y=>some (PR.pn (((y.fst.fst.fst,()),()),y.snd.fst,())))
  (RP Z d ((Z.S.take [41] i).bind fun _ q=> .ok (Src.Su (Src.pairs (Z.S.E q) out x) a0.from_) q)):=by
  intro out i hi ho;refine lg.Xr ?_;refine RU.step (uO h hi [41]) fun q _ hq=> ?_
  have hlen:(x::out).length=out.length+1:=rfl;have e1:IntKind.i64.wrap (((x::out).length:Int)-1)=(out.length:Int):=by grind [wrap_small]
  have e2:IntKind.i64.wrap (((x::out).length:Int)-2)=((out.length:Nat):Int)-1:=by grind [wrap_small]
  have hlt:out.length<(x::out).length:=by omega
  rw[e1,e2,qi hlt];simp only[iC];refine Ev.tot (Ev.zH (F:=fun n m=>qN (j6 n) n m ((out.length:Int)-1) (Z.st q d) a0 (x::out) (x::out)[out.length]) (azK h hq a0 (x::out) (by omega) out.length (by omega) _)) ⟨hq,?_⟩
  grind [afr,List.dropLast_eq_take]
 induction m with
 |zero=>
  intro out i hi hm;refine lg.lp (fun n m=>by simp only[Eg,tv,ky,Cv];exact rfl) ?_;refine Ev.DC (qP h hi [44]) ?_;unfold Src.adm;cases hs:Z.S.sym [44] i with
  |true=>
   refine Ev.DC (yZ h (rk hi) (k:=((x::out).length:Int)) (by rw[iB];omega)) ?_;exact lg.pure ⟨_,rfl⟩
  |false=>exact fin out i hi (by omega)
 |succ m ih=>
  intro out i hi hm;refine lg.lp (fun n m=>by simp only[Eg,tv,ky,Cv];exact rfl) ?_;refine Ev.DC (qP h hi [44]) ?_;unfold Src.adm;cases hs:Z.S.sym [44] i with
  |true=>
   simp only[jM];refine Ev.DC (Ab (rk hi) (k:=((x::out).length:Int)) (by rw[iB];omega)) ?_;rw[Rs.bind_assoc];refine RP.step2 (hex _ (rk hi)) (fun y j _ hj=> ?_)
   grind
  |false=>exact fin out i hi (by omega)
theorem aou(h:rU Z)(k:Zy Z.S)(hex:Nx Z d kD ex)(o i:Nat)(hi:i<Z.T.length):lI (fun n=>oH n (.mk 0 [] 0 [] [] [] (Z.S.F o) 0) (Z.st i d)) (RP Z d (Z.S.HZ ex o i)):=by
 refine lI.fn (fun n=>by simp only[Sp,xf,ky,yD];exact rfl) ?_;unfold Src.HZ;refine RP.step (hex i hi) fun x j _ hj=> ?_
 refine Ev.to (qP h hj [41]) ?_;cases h1:Z.S.sym [41] j with
 |true=>exact lI.pure ⟨rk hj,rfl⟩
 |false=>
  simp only[jN];refine Ev.to (qP h hj [58]) ?_;cases h2:Z.S.sym [58] j with
  |true=>
   simp only[jM];refine RP.step (hex _ (rk hj)) fun t k _ hk=> ?_
   refine RU.step (uO h hk [41]) fun q _ hq=> ?_
   exact Ev.to (Sv h hq) (lI.pure ⟨hq,rfl⟩)
  |false=>
   simp only[jN];refine Ev.to (Ew hj [44]) ?_;refine lI.bind (DD h hj _) fun r hr=> ?_
   cases h3:Z.S.sym [44] j with
   |true=>
    rw[h3] at hr;obtain⟨_,rfl⟩:=hr;exact lI.zH (F:=fun n q=>tw (j6 n) n q (Z.st j d) (.mk 0 [] 0 [] [] [] (Z.S.F o) 0) [x]) (azL h hex _ x 199 [] j hj rfl)
   |false=>
    rw[h3] at hr;obtain⟨p,rfl⟩:=hr;exact lI.pure ⟨_,rfl⟩
def arm(Z:Cx):Prop:= ∀l:List Syntax,l≠[]->l.length<=200->Ev (fun n=>uc n Z.tb l) (Z.np l)/\0<=(Z.np l).2.1
theorem alX (h:rU Z) (hn:arm Z) {i:Nat} (hi:i<Z.T.length) (l:List Syntax) (hl:l.length<=200):
 lI (fun n=>(lW n (decide (0<(l.length:Int))) (Z.st i d)).bind fun x=>CJ x (fun x=>
  bif (l.length:Int)==1 then(wq l 0).bind fun x_1=>bif x_1.kind !=17 then(wq l 0).bind fun x_2=>some (PR.ok (((x.fst.fst.fst,()),()),x_2,()))
   else(uc n x.fst.fst.fst.table l).bind fun x_2=>bif x_2.snd.snd !=0 then bif decide (x_2.snd.fst<(l.length:Int)) then(wq l x_2.snd.fst).bind fun x_3=>some (PR.pn (((x.fst.fst.fst,()),()),{e:=x_2.snd.snd,at_:=x_3.from_},()))
    else bif x_2.snd.snd !=0 then(me n x_2.snd.snd x.fst.fst.fst).bind fun x=>CJ x (fun x=>some (PR.ok (((x.fst.fst.fst,()),()),x_2.fst,()))) fun y=>some (PR.pn (((y.fst.fst.fst,()),()),y.snd.fst,()))
    else some (PR.ok (((x.fst.fst.fst,()),()),x_2.fst,()))
    else bif x_2.snd.snd !=0 then(me n x_2.snd.snd x.fst.fst.fst).bind fun x=>CJ x (fun x=>some (PR.ok (((x.fst.fst.fst,()),()),x_2.fst,()))) fun y=>some (PR.pn (((y.fst.fst.fst,()),()),y.snd.fst,()))
    else some (PR.ok (((x.fst.fst.fst,()),()),x_2.fst,()))
  else (uc n x.fst.fst.fst.table l).bind fun x_1=>bif x_1.snd.snd !=0 then bif decide (x_1.snd.fst<(l.length:Int)) then (wq l x_1.snd.fst).bind fun x_2=>some (PR.pn (((x.fst.fst.fst,()),()),{e:=x_1.snd.snd,at_:=x_2.from_},()))
        else bif x_1.snd.snd !=0 then(me n x_1.snd.snd x.fst.fst.fst).bind fun x=>CJ x (fun x=>some (PR.ok (((x.fst.fst.fst,()),()),x_1.fst,()))) fun y=>some (PR.pn (((y.fst.fst.fst,()),()),y.snd.fst,()))
        else some (PR.ok (((x.fst.fst.fst,()),()),x_1.fst,()))
   else bif x_1.snd.snd !=0 then(me n x_1.snd.snd x.fst.fst.fst).bind fun x=>CJ x (fun x=>some (PR.ok (((x.fst.fst.fst,()),()),x_1.fst,()))) fun y=>some (PR.pn (((y.fst.fst.fst,()),()),y.snd.fst,()))
   else some (PR.ok (((x.fst.fst.fst,()),()),x_1.fst,()))) fun y=>some (PR.pn (((y.fst.fst.fst,()),()),y.snd.fst,()))) (RP Z d (Z.S.afd l i)):=by
 match l,hl with
 |[],_=>exact lI.bind (DD h hi _) fun r hr=>by obtain⟨p,rfl⟩:=hr;exact lI.pure ⟨_,rfl⟩
 |x::r,hl=>
  obtain⟨Q1,hpos⟩:=hn (x::r) (by simp) hl;have e0:decide (0<((x::r).length:Int))=true:=jO (by rw[iB];omega);rw[e0];refine lI.bind (DD h hi true) fun r' hr=> ?_
  obtain⟨_,rfl⟩:=hr;simp only[CJ];unfold Src.afd
  have np:lI (fun n=>(uc n (Z.st i d).table (x::r)).bind fun x_1=>bif x_1.snd.snd !=0 then bif decide (x_1.snd.fst<((x::r).length:Int)) then(wq (x::r) x_1.snd.fst).bind fun x_2=>some (PR.pn (((Z.st i d,()),()),{e:=x_1.snd.snd,at_:=x_2.from_},()))
         else bif x_1.snd.snd !=0 then(me n x_1.snd.snd (Z.st i d)).bind fun x=>CJ x (fun x=>some (PR.ok (((x.fst.fst.fst,()),()),x_1.fst,()))) fun y=>some (PR.pn (((y.fst.fst.fst,()),()),y.snd.fst,()))
         else some (PR.ok (((Z.st i d,()),()),x_1.fst,()))
        else bif x_1.snd.snd !=0 then(me n x_1.snd.snd (Z.st i d)).bind fun x=>CJ x (fun x=>some (PR.ok (((x.fst.fst.fst,()),()),x_1.fst,()))) fun y=>some (PR.pn (((y.fst.fst.fst,()),()),y.snd.fst,()))
        else some (PR.ok (((Z.st i d,()),()),x_1.fst,()))) (RP Z d (bif (Z.S.np (x::r)).2.2==0 then .ok (Z.S.np (x::r)).1 i else match (x::r)[(Z.S.np (x::r)).2.1.toNat]? with|some y=> .er (Z.S.np (x::r)).2.2 y.from_|none=> .er (Z.S.np (x::r)).2.2 (Z.S.F i))):=by
   refine Ev.to Q1 ?_;show lI _ (RP Z d (bif (Z.np (x::r)).2.2==0 then .ok (Z.np (x::r)).1 i else match (x::r)[(Z.np (x::r)).2.1.toNat]? with|some y=> .er (Z.np (x::r)).2.2 y.from_|none=> .er (Z.np (x::r)).2.2 (Z.S.F i)));revert hpos;generalize Z.np (x::r)=p;intro hpos;obtain⟨y,at_,e⟩:=p;simp only at hpos ⊢;obtain⟨k,rfl⟩: ∃k:Nat,at_=(k:Int):=⟨at_.toNat,by omega⟩;cases he:e==0 with
   |true=>
    simp only[bne,he,Bool.not_true,jN,jM];exact lI.pure ⟨hi,rfl⟩
   |false=>
    simp only[bne,he,jk,jN,jM,jh];by_cases hk:k<(x::r).length
    ·rw[jO (show(k:Int)<((x::r).length:Int) by omega),qi hk,List.getElem?_eq_getElem hk];exact lI.pure ⟨_,rfl⟩
    ·rw[jP (show ¬ (k:Int)<((x::r).length:Int) by omega),List.getElem?_eq_none (by omega)];exact Ev.to (MN h hi e) (lI.pure ⟨_,rfl⟩)
  cases r with
  |cons y r=>
   have e1:(((x::y::r).length:Int)==1)=false:=by grind
   rw[e1];exact np
  |nil=>
   have e1:((([x]:List Syntax).length:Int)==1)=true:=rfl;have e2:wq [x] 0=some x:=rfl;rw[e1,e2];simp only[jM,iC,List.isEmpty_nil,ja,bne];cases x.kind==17 with
   |true=>exact np
   |false=>exact lI.pure ⟨hi,rfl⟩
theorem aov(h:rU Z)(hc: ∀s,Ev (fun n=>mR n Z.sy s) (Z.sy.contains s))(hn:arm Z)(ha:Nx Z d n7 (Z.S.item ex ta)): ∀(m:Nat)(out:List Syntax)(i:Nat),i<Z.T.length->m+out.length=200->
 lg (fun n q=>uq (j6 n) n q (Z.st i d) out) (RP Z d ((Z.S.zC ex ta m out i).bind Z.S.afd)):=by
 intro m;induction m with
 |zero=>
  intro out i hi hm;have rm:lg (fun n (_:Nat)=>(lj n (out.length:Int) (Z.st i d))) (· = .pn (((Z.st i d,()),()),{e:=7,at_:=Z.S.F i},())):=lg.Xr (Ev.tot (yZ h hi (by omega)) rfl);refine lg.lp (fun n m=>by simp only[IE,wJ,ky,Cv];exact rfl) ?_;refine Ev.DC (afh hc hi) ?_;unfold Src.zC;cases hs:Z.S.II i with
  |true=>exact Ev.DC (yZ h hi (k:=(out.length:Int)) (by omega)) (lg.pure ⟨_,rfl⟩)
  |false=>
   simp only[jN,Bool.false_or];refine Ev.DC (Xl hi) ?_;cases hb:Z.S.DA i with
   |true=>exact Ev.DC (yZ h hi (k:=(out.length:Int)) (by omega)) (lg.pure ⟨_,rfl⟩)
   |false=>exact lg.Xr (alX h hn hi out (by omega))
 |succ m ih=>
  intro out i hi hm
  have go:lg (fun n q=>(lj n (out.length:Int) (Z.st i d)).bind fun x=>CJ x (fun x=>(n7 n x.fst.fst.fst).bind fun x=>CJ x (fun x=>bif decide ((out.length+1)*120<=17592186044416) then uq (j6 n) n q x.fst.fst.fst (out++[x.snd.fst]) else none)
   fun y=>some (PR.pn (((y.fst.fst.fst,()),()),y.snd.fst,()))) fun y=>some (PR.pn (((y.fst.fst.fst,()),()),y.snd.fst,()))) (RP Z d (((Z.S.item ex ta i).bind fun x j=>Z.S.zC ex ta m (out++[x]) j).bind Z.S.afd)):=by
   refine Ev.DC (Ab hi (k:=(out.length:Int)) (by omega)) ?_;rw[Rs.bind_assoc];refine RP.step2 (ha i hi) fun x j _ hj=> ?_
   grind
  refine lg.lp (fun n m=>by simp only[IE,wJ,ky,Cv];exact rfl) ?_;refine Ev.DC (afh hc hi) ?_;unfold Src.zC;cases hs:Z.S.II i with
  |true=>exact go
  |false=>
   simp only[jN,Bool.false_or];refine Ev.DC (Xl hi) ?_;cases hb:Z.S.DA i with
   |true=>exact go
   |false=>exact lg.Xr (alX h hn hi out (by omega))
theorem azM(h:rU Z)(hc: ∀s,Ev (fun n=>mR n Z.sy s) (Z.sy.contains s))(hn:arm Z)(ha:Nx Z d n7 (Z.S.item ex ta)):Nx Z d pW (Z.S.op ex ta):=by
 intro i hi;refine lI.fn (fun n=>by simp only[Zt,BH,ky,yD];exact rfl) ?_;exact lI.zH (F:=fun n q=>uq (j6 n) n q (Z.st i d) []) (aov h hc hn ha 200 [] i hi rfl)
end
section
variable {Z:Cx}
variable {ex ta:Nat->Rs Syntax} {d:Int}
def aBR(S:Src)(ex:Nat->Rs Syntax)(sh:Str)(l:List Str)(i:Nat):Rs (List kg):=(S.take [58] i).bind fun _ i=>(ex i).bind fun t i=>(S.take sh i).bind fun _ i=> .ok (Src.typed l t) i
theorem Rg.fin(h:Rg x):atB x:=by
 induction h with
 |mk h1 h2 h3 h4 h5 h6 h7 h8 ih=>exact .mk h1 h2 h3 h4 ih
theorem adE(h:rU Z)(hx:I7 Z.S ex)(hex:Nx Z d kD ex)(sh:Str){l:List Str}(hl:l.length<=200){i:Nat}(hi:i<Z.T.length):
 lI (fun n=>(lZ n [58] (Z.st i d)).bind fun x=>CJ x (fun x=>(kD n x.fst.fst.fst).bind fun x=>CJ x (fun x=>(lZ n sh x.fst.fst.fst).bind fun x_1=>CJ x_1 (fun x_2=>(DS n l x.snd.fst).bind fun x=>some (PR.ok (((x_2.fst.fst.fst,()),()),x,())))
    fun y=>some (PR.pn (((y.fst.fst.fst,()),()),y.snd.fst,()))) fun y=>some (PR.pn (((y.fst.fst.fst,()),()),y.snd.fst,()))) fun y=>some (PR.pn (((y.fst.fst.fst,()),()),y.snd.fst,()))) (RP Z d (aBR Z.S ex sh l i)):=by
 refine RU.step (uO h hi [58]) fun j _ hj=> ?_
 refine RP.step (hex j hj) fun t k hq hk=> ?_
 have ht:=hx j hj;rw[hq] at ht;refine RU.step (uO h hk sh) fun q _ hq=> ?_
 exact Ev.to (alu l (by omega) ht.2.2.1.fin) (lI.pure ⟨hq,rfl⟩)
theorem axl(h:rU Z)(hx:I7 Z.S ex)(hex:Nx Z d kD ex){op:Str}(ho:(op==[91])=false)(sh:Str): ∀(m:Nat)(out:List Str)(i:Nat),i<Z.T.length->m+out.length=200->
 lg (fun n q=>wh (j6 n) n q op sh (Z.st i d) out) (RP Z d ((Z.S.Gx m out i).bind fun l i=>aBR Z.S ex sh l i)):=by
 intro m;induction m with
 |zero=>
  intro out i hi hm;refine lg.lp (fun n m=>by simp only[Ee,tg,ky];exact rfl) ?_;simp only[ho,jN];refine Ev.DC (MO h hi) ?_;unfold Src.Gx;cases hs:Z.S.isVar i with
  |true=>exact Ev.DC (yZ h hi (k:=(out.length:Int)) (by omega)) (lg.pure ⟨_,rfl⟩)
  |false=>exact lg.Xr (adE h hx hex sh (by omega) hi)
 |succ m ih=>
  intro out i hi hm;refine lg.lp (fun n m=>by simp only[Ee,tg,ky];exact rfl) ?_;simp only[ho,jN];refine Ev.DC (MO h hi) ?_;unfold Src.Gx;cases hs:Z.S.isVar i with
  |true=>
   simp only[jM];refine Ev.DC (Ab hi (k:=(out.length:Int)) (by omega)) ?_;refine Ev.DC (ve h hi) ?_
   grind [rk]
  |false=>exact lg.Xr (adE h hx hex sh (by omega) hi)
theorem aft(h:rU Z)(hx:I7 Z.S ex)(hex:Nx Z d kD ex)(op sh:Str){i:Nat}(hi:i<Z.T.length):lI (fun n=>mV n op sh (Z.st i d)) (RP Z d (Z.S.binder ex op sh i)):=by
 refine lI.fn (fun n=>by simp only[So,xe,ky];exact rfl) ?_;unfold Src.binder;refine RU.step (uO h hi op) fun j _ hj=> ?_
 cases ho:op==[91] with
 |true=>
  simp only[jM];rw[Rs.bind_assoc];refine RP.step (Xk h hj) fun s k _ hk=> ?_
  refine lI.zH (F:=fun n q=>th (j6 n) n q op sh [s] (Z.st k d)) ?_;refine lg.lp (fun n m=>by simp only[th,vc,ky];exact rfl) ?_;simp only[ho,jM];exact lg.Xr (adE h hx hex sh (show [s].length<=200 by simp) hk)
 |false=>
  simp only[jN];unfold Src.vars;rw[Rs.bind_assoc];refine RP.step (Xk h hj) fun s k _ hk=> ?_
  refine lI.zH (F:=fun n q=>th (j6 n) n q op sh [s] (Z.st k d)) ?_;refine lg.lp (fun n m=>by simp only[th,vc,ky];exact rfl) ?_;simp only[ho,jN];refine Ev.DC (MO h hk) ?_;unfold Src.Gx;cases hs:Z.S.isVar k with
  |true=>
   simp only[jM];refine Ev.DC (Ab hk (k:=1) (by omega)) ?_;refine Ev.DC (ve h hk) ?_;exact axl h hx hex ho sh 198 _ _ (rk hk) rfl
  |false=>exact lg.Xr (adE h hx hex sh (show [s].length<=200 by simp) hk)
theorem alY(h:rU Z)(hex:Nx Z d kD ex)(k n:Int)(o:Nat){l:List kg}(hl:l.length<=1000000)(sep:Str){i:Nat}(hi:i<Z.T.length):
 lI (fun f=>n5 f (.mk k [] n [] [] [] (Z.S.F o) 0) l sep (Z.st i d)) (RP Z d (Z.S.product ex k n o l sep i)):=by
 refine lI.fn (fun n=>by simp only[QJ,wj,ky,yD];exact rfl) ?_;unfold Src.product;refine RU.step (uO h hi sep) fun j _ hj=> ?_
 refine RP.step (hex j hj) fun x q _ hq=> ?_
 exact Ev.to (aiT _ l hl x) (lI.pure ⟨hq,rfl⟩)
def azN(S:Src)(ex:Nat->Rs Syntax)(f:Int)(l:List kg)(j:Nat):Rs Syntax:=(S.take [61,62] j).bind fun _ j=>(ex j).bind fun x k=> .ok (Src.X5 3 0 l x f) k
theorem al0(h:rU Z)(hex:Nx Z d kD ex)(f:Int){l:List kg}(hl:l.length<=1000000){i:Nat}(hi:i<Z.T.length):
 lI (fun n=>(lZ n [61,62] (Z.st i d)).bind fun x=>CJ x (fun x=>(kD n x.fst.fst.fst).bind fun x=>CJ x (fun x=>(AX n (Syntax.mk 3 [] 0 [] [] [] f 0) l x.snd.fst).bind fun x_1=>some (PR.ok (((x.fst.fst.fst,()),()),x_1,())))
    fun y=>some (PR.pn (((y.fst.fst.fst,()),()),y.snd.fst,()))) fun y=>some (PR.pn (((y.fst.fst.fst,()),()),y.snd.fst,()))) (RP Z d (azN Z.S ex f l i)):=by
 refine RU.step (uO h hi _) fun j _ hj=> ?_
 refine RP.step (hex j hj) fun x q _ hq=> ?_
 exact Ev.to (aiT _ l hl x) (lI.pure ⟨hq,rfl⟩)
theorem at7 (h:rU Z) (k:Zy Z.S) (p:Pos Z.S) (hx:I7 Z.S ex) (hex:Nx Z d kD ex) (f:Int): ∀ (m:Nat) (out:List kg) (i:Nat),i<Z.T.length->m<=200->(out=[]↔m=200)->out.length<=200*(200-m)->
 lg (fun n q=>q8 (j6 n) n q f ((200-m:Nat):Int) (Z.st i d) out) (RP Z d ((Z.S.Pl ex m out i).bind (azN Z.S ex f))):=by
 intro m;induction m with
 |zero=>
  intro out i hi _ ho hl;refine lg.lp (fun n m=>by simp only[HQ,vF,ky,Cv];exact rfl) ?_;rw[show(((200-0:Nat):Int)==0)=false by decide];simp only[jN];refine Ev.DC (Ew hi [61,62]) ?_;unfold Src.Pl;cases hs:Z.S.sym [61,62] i with
  |true=>exact lg.Xr (al0 h hex f (by omega) hi)
  |false=>exact Ev.DC (yZ h hi (k:=((200-0:Nat):Int)) (by decide)) (lg.pure ⟨_,rfl⟩)
 |succ m ih=>
  intro out i hi hm ho hl
  have go:lg (fun n q=>(lj n ((200-(m+1):Nat):Int) (Z.st i d)).bind fun x=>CJ x (fun x=>(mF n x.fst.fst.fst [40]).bind fun x_1=>bif x_1 then
        (mV n [40] [41] x.fst.fst.fst).bind fun x=>CJ x (fun x=>bif decide ((out.length+x.snd.fst.length)*136<=17592186044416) then q8 (j6 n) n q f (IntKind.i64.wrap (((200-(m+1):Nat):Int)+1)) x.fst.fst.fst (out++x.snd.fst) else none) fun y=>some (PR.pn (((y.fst.fst.fst,()),()),y.snd.fst,()))
   else(oo n x.fst.fst.fst).bind fun x=>CJ x (fun x=>(uU n x.fst.fst.fst).bind fun x_2=>bif decide ((out.length+1)*136<=17592186044416) then q8 (j6 n) n q f (IntKind.i64.wrap (((200-(m+1):Nat):Int)+1)) x_2.fst.fst (out++[{name:=x.snd.fst,t:=x_2.snd.fst}]) else none)
    fun y=>some (PR.pn (((y.fst.fst.fst,()),()),y.snd.fst,()))) fun y=>some (PR.pn (((y.fst.fst.fst,()),()),y.snd.fst,())))
   (RP Z d ((bif Z.S.sym [40] i then(Z.S.binder ex [40] [41] i).bind fun l j=>Z.S.Pl ex m (out++l) j else(Z.S.var i).bind fun s j=>Z.S.Pl ex m (out++[{name:=s,t:=Z.S.hole j}]) j).bind (azN Z.S ex f))):=by
   refine Ev.DC (Ab hi (k:=((200-(m+1):Nat):Int)) (by omega)) ?_;refine Ev.DC (Ew hi [40]) ?_;rw[show IntKind.i64.wrap (((200-(m+1):Nat):Int)+1)=((200-m:Nat):Int) by grind [wrap_small]];cases hs:Z.S.sym [40] i with
   |true=>
    simp only[jM];rw[Rs.bind_assoc];refine RP.step2 (aft h hx hex [40] [41] hi) fun l j hq hj=> ?_
    have hb:=k.binder p hx (op:=[40]) (sh:=[41]) (i:=i) hi;rw[hq] at hb;obtain⟨b1,b2,_⟩:=hb;simp only[jO (show(out.length+l.length)*136<=17592186044416 by omega),jM];refine ih _ _ hj (by omega) ⟨fun e=> ?_,fun e=>by omega⟩ (by rw[iD];omega)
    simp_all
   |false=>
    simp only[jN];rw[Rs.bind_assoc];refine RP.step2 (Xk h hi) fun s j hq hj=> ?_
    refine Ev.DC (atA h hj) ?_;simp only[jO (show(out.length+1)*136<=17592186044416 by omega),jM];exact ih _ _ hj (by omega) ⟨fun e=>by simp at e,fun e=>by omega⟩ (by grind)
  refine lg.lp (fun n m=>by simp only[HQ,vF,ky,Cv];exact rfl) ?_;unfold Src.Pl;by_cases h0:m+1=200
  ·grind
  ·have e1:(((200-(m+1):Nat):Int)==0)=false:=by rw[jT];omega
   have e2:out.isEmpty=false:=by
    grind
   rw[e1,e2];simp only[jN,jk,Bool.and_true];refine Ev.DC (Ew hi [61,62]) ?_;cases hs:Z.S.sym [61,62] i with
   |true=>exact lg.Xr (al0 h hex f (by omega) hi)
   |false=>exact go
theorem axm(h:rU Z)(k:Zy Z.S)(p:Pos Z.S)(hx:I7 Z.S ex)(hex:Nx Z d kD ex){i:Nat}(hi:i<Z.T.length):lI (fun n=>qF n (Z.S.F i) (Z.st i d)) (RP Z d (Z.S.agt ex i)):=by
 refine lI.fn (fun n=>by simp only[XW,z6,ky,yD];exact rfl) ?_;refine Ev.to (ve h hi) ?_;exact lI.zH (F:=fun n q=>q8 (j6 n) n q (Z.S.F i) 0 (Z.st (Z.S.nx i) d) []) (at7 h k p hx hex (Z.S.F i) 200 [] _ (rk hi) (iS _) ⟨fun _=>rfl,fun _=>rfl⟩ (iM _))
theorem axn(h:rU Z)(hex:Nx Z d kD ex){i:Nat}(hi:i<Z.T.length):lI (fun n=>qG n (Z.S.F i) (Z.st i d)) (RP Z d (Z.S.Ni ex i)):=by
 refine lI.fn (fun n=>by simp only[XX,z8,ky,yD];exact rfl) ?_;unfold Src.Ni;refine Ev.to (ve h hi) ?_;refine RP.step (Xk h (rk hi)) fun s j _ hj=> ?_
 refine Ev.to (atA h hj) ?_;refine Ev.to (qP h hj [58]) ?_;cases hs:Z.S.sym [58] j with
 |true=>
  simp only[jM];refine RP.step (hex _ (rk hj)) fun t k _ hk=> ?_
  refine RU.step (uO h hk _) fun a _ ha=> ?_
  refine RP.step (hex _ ha) fun v b _ hb=> ?_
  refine RU.step (uO h hb _) fun c _ hc=> ?_
  exact RP.step (hex _ hc) fun y r _ hr=>lI.pure ⟨hr,rfl⟩
 |false=>
  simp only[jN,Rs.aiR];refine RU.step (uO h hj _) fun a _ ha=> ?_
  refine RP.step (hex _ ha) fun v b _ hb=> ?_
  refine RU.step (uO h hb _) fun c _ hc=> ?_
  exact RP.step (hex _ hc) fun y r _ hr=>lI.pure ⟨hr,rfl⟩
end
section
variable {Z:Cx}
variable {ex ta:Nat->Rs Syntax} {d:Int}
theorem aua{S:Src}: ∀(f:Nat)(out:List Str)(i:Nat),(S.wr f out i).length<=out.length+f
 |0,out,i=>iM _
 |f+1,out,i=>by
  unfold Src.wr;cases S.sym [58] i with
  |true=>exact Nat.le_add_right _ _
  |false=>
   cases S.isVar i with
   |false=>exact iM _
   |true=>
    have:=aua (S:=S) f (out++[(S.K i).2]) (i+1)
    grind
theorem al1{S:Src}(i:Nat):(S.written i).length<=S.len:=by
 grind [Src.written,aua]
theorem arn(h:rU Z)(k:Zy Z.S)(p:Pos Z.S)(q:afg Z.S)(hx:I7 Z.S ex)(ht:I7 Z.S ta)(hex:Nx Z d kD ex)(ho:Nx Z d pW (Z.S.op ex ta)){i:Nat}(hi:i<Z.T.length):
 lI (fun n=>pT n (Z.S.F i) (Z.st i d)) (RP Z d (Z.S.Oa ex ta i)):=by
 have hlen:=h.len;refine lI.fn (fun n=>by simp only[UJ,x8,ky,yD];exact rfl) ?_;unfold Src.Oa;refine RP.step (ho i hi) fun x j hq hj=> ?_
 have hall:=k.op p q hlen hx ht i hi;rw[hq] at hall;obtain⟨_,_,hr,_,_⟩:=hall;refine Ev.to (qP h hj [45,62]) ?_;cases hs:Z.S.sym [45,62] j with
 |false=>exact lI.pure ⟨hj,rfl⟩
 |true=>
  simp only[jM];have hj':=rk (Z:=Z) hj;refine Ev.to (aod h hi hj') ?_
  have fin: ∀l:List kg,l.length<=1000000->lI (fun n=>(kD n (Z.st (Z.S.nx j) d)).bind fun x_3=>CJ x_3 (fun x_4=>(AX n (Syntax.mk 4 [] 0 [] [] [] x.from_ 0) l x_4.snd.fst).bind fun x=>some (PR.ok (((x_4.fst.fst.fst,()),()),x,()))) fun y=>some (PR.pn (((y.fst.fst.fst,()),()),y.snd.fst,())))
   (RP Z d ((ex (Z.S.nx j)).bind fun b k=> .ok (Src.X5 4 0 l b x.from_) k)):=fun l hl=>
   RP.step (hex _ hj') fun b q _ hq=>Ev.to (aiT _ l hl b) (lI.pure ⟨hq,rfl⟩)
  have hw:=al1 (S:=Z.S) i;have hwl:Z.S.len=Z.T.length:=rfl
  have e0:decide (0<((Z.S.written i).length:Int))= !(Z.S.written i).isEmpty:=by
   cases Z.S.written i with
   |nil=>rfl
   |cons a b=>grind
  cases h13:x.kind==13 with
  |false=>simp_all
  |true=>
   cases hf:x.from_==Z.S.F i with
   |false=>simp_all
   |true=>
    simp only[jM,ja,e0];cases hn:(Z.S.written i).isEmpty with
    |true=>simp_all
    |false=>
     have h2:=hr.Ob (jS.1 h13);have hl1:1<x.kids.length:=by omega
     have e1:wq x.kids 1=some x.kids[1]:=qi (i:=1) hl1;have e2:x.kids.getD 1 X1=x.kids[1]:=by grind
     simp only[jk,jM,e1,iC,e2];refine Ev.to (alu _ (by omega) (hr.kids _ (iI hl1)).1.fin) ?_;exact fin _ (by rw[abR];omega)
theorem aow(p:jX):Ev (fun n=>nf n p) (((),({so:=p.so,table:=p.table,xO:=p.xO,depth:=IntKind.i64.wrap (p.depth-1)},()),()),()):=by
 refine Ev.fn (fun n=>by simp only[nf,kG,yn,mB];exact rfl) ?_;exact Ev.pure
theorem apu(hd:0<=d/\d<200){r:Rs Syntax}{F:Nat->Option (PR (((jX×Unit)×Unit)×(Syntax×Unit)) (((jX×Unit)×Unit)×(kr×Unit)))}(hF:lI F (RP Z (d+1) r)):
 lI (fun n=>(F n).bind fun x=>CJ x (fun x=>(nf n x.fst.fst.fst).bind fun x_3=>some (PR.ok (((x_3.fst.snd.fst.fst,()),()),x.snd.fst,()))) fun y=>(nf n y.fst.fst.fst).bind fun x=>some (PR.pn (((x.fst.snd.fst.fst,()),()),y.snd.fst,()))) (RP Z d r):=by
 refine lI.bind hF fun x hx=> ?_
 cases r with
 |ok v j=>
  obtain⟨hj,rfl⟩:=hx;refine Ev.to (aow _) ?_;rw[stU hd];exact lI.pure ⟨hj,rfl⟩
 |er e a=>
  obtain⟨p,rfl⟩:=hx;exact Ev.to (aow _) (lI.pure ⟨_,rfl⟩)
theorem aub(h:rU Z)(k:Zy Z.S)(p:Pos Z.S)(q:afg Z.S)(hd:0<=d/\d<200)(hx:I7 Z.S ex)(ht:I7 Z.S ta)(hex:Nx Z (d+1) kD ex)(ho:Nx Z (d+1) pW (Z.S.op ex ta)):Nx Z d kD (Z.S.ye ex ta):=by
 intro i hi;refine lI.fn (fun n=>by simp only[Kg,vE,ky,yD];exact rfl) ?_;refine Ev.to (Ab hi (k:=d) hd.2) ?_;simp only[CJ,stD hd];refine Ev.to (Xj h hi) ?_;refine Ev.to (aaX hi 3 [102,117,110]) ?_;unfold Src.ye Src.key
 have prod: ∀(o:Nat)(a b s:Str)(kd n:Int),o<Z.T.length->lI (fun f=>(mV f a b (Z.st o (d+1))).bind fun x=>CJ x (fun x=>(n5 f (Syntax.mk kd [] n [] [] [] (Z.S.F i) 0) x.snd.fst s x.fst.fst.fst).bind fun x=>CJ x (fun x=>(nf f x.fst.fst.fst).bind fun x_5=>some (PR.ok (((x_5.fst.snd.fst.fst,()),()),x.snd.fst,())))
       fun y=>(nf f y.fst.fst.fst).bind fun x=>some (PR.pn (((x.fst.snd.fst.fst,()),()),y.snd.fst,()))) fun y=>(nf f y.fst.fst.fst).bind fun x=>some (PR.pn (((x.fst.snd.fst.fst,()),()),y.snd.fst,()))) (RP Z d ((Z.S.binder ex a b o).bind fun l j=>Z.S.product ex kd n i l s j)):=by
  intro o a b s kd n hlt;refine RP.step (aft h hx hex a b hlt) (fun l j hq hj=> ?_) fun p e a _=>Ev.to (aow _) (lI.pure ⟨_,rfl⟩)
  have hb:=k.binder p hx (op:=a) (sh:=b) (i:=o) hlt;rw[hq] at hb;have hl:l.length<=1000000:=by have:=hb.2.1;omega
  simp_all [apu,alY]
 cases h1:Z.S.is 3 [102,117,110] i with
 |true=>exact apu hd (axm h k p hx hex hi)
 |false=>
  simp only[jN];refine Ev.to (aaX hi 3 [108,101,116]) ?_;cases h2:Z.S.is 3 [108,101,116] i with
  |true=>exact apu hd (axn h hex hi)
  |false=>
   simp only[jN];refine Ev.to (aaX hi 3 [83,105,103,109,97]) ?_;cases h3:Z.S.is 3 [83,105,103,109,97] i with
   |true=>exact Ev.to (ve h hi) (prod _ _ _ _ 5 0 (rk hi))
   |false=>
    simp only[jN];refine Ev.to (Ew hi [123]) ?_;cases h4:Z.S.sym [123] i with
    |true=>exact prod _ _ _ _ 4 1 hi
    |false=>
     simp only[jN];refine Ev.to (Ew hi [91]) ?_;cases h5:Z.S.sym [91] i with
     |true=>exact prod _ _ _ _ 4 2 hi
     |false=>exact apu hd (arn h k p q hx ht hex ho hi)
theorem aBS(h:rU Z):Nx Z 200 kD (fun i=>Z.S.deep i):=by
 intro i hi;refine lI.fn (fun n=>by simp only[Kg,vE,ky,yD];exact rfl) ?_;exact Ev.to (yZ h hi (k:=200) (by omega)) (lI.pure ⟨_,rfl⟩)
theorem al2(h:rU Z)(k:Zy Z.S)(p:Pos Z.S)(q:afg Z.S)(hc: ∀s,Ev (fun n=>mR n Z.sy s) (Z.sy.contains s))(hn:arm Z): ∀(m:Nat)(d:Int),d+(m:Int)=200->0<=d->Nx Z d kD (Z.S.u0 m)/\Nx Z d k9 (Z.S.DB m)
 |0,d,hd,_=>by
  obtain rfl:d=200:=by omega
  exact⟨aBS h,aBH h⟩
 |m+1,d,hd,h0=>by
  obtain⟨h1,h2⟩:=al2 h k p q hc hn m (d+1) (by omega) (by omega);have hb:=k.both p q h.len m;have hd:0<=d/\d<200:=⟨h0,by omega⟩;exact⟨aub h k p q hd hb.1 hb.2 h1 (azM h hc hn (atG h hc (aw5 h (atE h (aq3 h k h2 (aou h k h1)))))),aof h hd h1 h2⟩
theorem aro(h:rU Z)(k:Zy Z.S)(p:Pos Z.S)(q:afg Z.S)(hc: ∀s,Ev (fun n=>mR n Z.sy s) (Z.sy.contains s))(hn:arm Z):lI (fun n=>(kD n (Z.st 0 0)).bind fun x=>CJ x (fun x=>(vC n x.fst.fst.fst).bind fun x_1=>CJ x_1 (fun x_2=>(uS n x.snd.fst 0 0).bind fun x=>some (x.fst.fst.fst,x.fst.snd.fst.fst,x.fst.snd.snd.fst.fst))
 fun y=>(rA n y.snd.fst x.snd.fst 0 0).bind fun x=>some (x.fst.fst.fst,x.fst.snd.fst.fst,x.fst.snd.snd.fst.fst)) fun y=>(rA n y.snd.fst (Syntax.mk 0 [] 0 [] [] [] 0 0) 0 0).bind fun x=>some (x.fst.fst.fst,x.fst.snd.fst.fst,x.fst.snd.snd.fst.fst))
 (· =match Z.S.whole with| .ok x _=>(x,0,0)| .er e a=>(X1,a,e)):=by
 have qp: ∀(e a:Int)(x:Syntax),Ev (fun n=>(rA n {e:=e,at_:=a} x 0 0).bind fun x=>some (x.fst.fst.fst,x.fst.snd.fst.fst,x.fst.snd.snd.fst.fst)) (X1,a,e):=by
  intro e a x;refine Ev.bind (x:=(((X1,()),(a,()),(e,()),()),())) ?_ Ev.pure;refine Ev.fn (fun n=>by simp only[rA,kG,Bf,mB];exact rfl) ?_;refine Ev.bind (x:=((),{e:=e,at_:=a},())) ?_ Ev.pure;refine Ev.fn (fun n=>by simp only[Jj,kG,Fg,mC];exact rfl) ?_;exact Ev.pure
 have qr: ∀x:Syntax,Ev (fun n=>(uS n x 0 0).bind fun x=>some (x.fst.fst.fst,x.fst.snd.fst.fst,x.fst.snd.snd.fst.fst)) (x,0,0):=by
  intro x;refine Ev.bind (x:=(((x,()),(0,()),(0,()),()),())) ?_ Ev.pure;refine Ev.fn (fun n=>by simp only[uS,kG,Fw,mB];exact rfl) ?_;exact Ev.pure
 refine RP.step (Q:=fun s r=>r=match s with| .ok x _=>(x,0,0)| .er e a=>(X1,a,e)) ((al2 h k p q hc hn 200 0 (by omega) (by omega)).1 0 h.pos) (fun x j _ hj=> ?_) (fun p e a _=>Ev.tot (r:=(X1,a,e)) ?_ rfl)
 rotate_left
 ·exact qp e a _
 refine lI.bind (aoc h hj) fun r hr=> ?_
 cases hk:(Z.S.K j).1==4 with
 |true=>
  rw[hk] at hr;obtain⟨_,rfl⟩:=hr;exact Ev.tot (qr x) rfl
 |false=>
  rw[hk] at hr;obtain⟨p,rfl⟩:=hr;exact Ev.tot (qp _ _ _) rfl
end
def ai5(out:List Str)(s:Str):List Str:=bif s==[]||out.contains s then out else out++[s]
def WU(out:List Str)(ps:List Str):List Str:=ps.foldl ai5 out
def tz(out:List Str)(T:List jY):List Str:=T.foldl (fun out n=>WU out n.parts) out
def WV(T:List jY):Nat:=(T.map fun n=>n.parts.length).sum
theorem abY: ∀(ps:List Str)(out:List Str),(WU out ps).length<=out.length+ps.length
 |[],out=>iS _
 |s::ps,out=>by
  have h1:=abY ps (ai5 out s)
  grind [WU,ai5]
theorem WW(n:jY)(T:List jY):WV (n::T)=n.parts.length+WV T:=by grind [WV]
def Met(m:List (Str×Bool))(out:List Str):Prop:= ∀s,(mW s m).getD false=(s==[]||out.contains s)
theorem Met.ins{m:List (Str×Bool)}(h:Met m out)(hs:(mW s m).getD false=false):Met (yA s true m) (out++[s]):=by
 intro t;rw[Jc,jq,List.any_append,<-jq,List.any_cons,List.any_nil,jA];cases hts:t==s with
 |true=>simp
 |false=>rw[jN,h t,jA]
theorem axo(f:Nat)(X:List jY->Int->Int->List (Str×Bool)->List Str->Option (List Str))(T:List jY)(tl:Int)(i:Nat)(parts:List Str)(hl:parts.length<=1048640)(hi:i<=1048641)(R:Option (List Str)):
 ∀d j:Nat,∀(m:List (Str×Bool))(out:List Str),j+d=parts.length->out.length+d<=4000000->Met m out->(∀m',Met m' (WU out (parts.drop j))->X T tl ((i+1:Nat):Int) m' (WU out (parts.drop j))=R)-> ∀k,d<k->
  zN f X k T tl (i:Int) parts (parts.length:Int) (j:Int) m out=R:=by
 intro d;induction d with
 |zero=>
  intro j m out hj ho hm hX k hk;obtain⟨k,rfl⟩: ∃k',k=k'+1:=⟨k-1,by omega⟩;simp only[Ie,wz,mB];rw[jP (show ¬ (j:Int)<(parts.length:Int) by omega),jN,kO (by omega)];rw[iL (by omega)] at hX;exact hX m hm
 |succ d ih=>
  intro j m out hj ho hm hX k hk;obtain⟨k,rfl⟩: ∃k',k=k'+1:=⟨k-1,by omega⟩;have hjl:j<parts.length:=by omega
  simp only[Ie,wz,qi hjl,iC,mB];rw[jO (show(j:Int)<(parts.length:Int) by omega),jM,kO (by omega)];rw[iE hjl] at hX;have hX: ∀m',Met m' (WU (ai5 out parts[j]) (parts.drop (j+1)))->X T tl ((i+1:Nat):Int) m' (WU (ai5 out parts[j]) (parts.drop (j+1)))=R:=hX;unfold ai5 at hX;rw[hm];cases hq:parts[j]==[]||out.contains parts[j] with
  |true=>
   rw[hq] at hX;rw[jM];exact ih (j+1) m out (by omega) (by omega) hm hX k (by omega)
  |false=>
   rw[hq] at hX;rw[jN,jO (show(out.length+1)*16<=17592186044416 by omega),jM];exact ih (j+1) _ _ (by omega) (by grind) (hm.ins (by rw[hm];exact hq)) hX k (by omega)
theorem auc(T:List jY)(hT:T.length<=cap)(hN: ∀n∈T,Nsm n)(hp:WV T<=cap):Ev (fun f=>Am f T) (tz [] T):=by
 simp only[cap] at hT hp;refine Ev.fn (fun n=>by simp only[Am,kG,Fy,mB];exact rfl) ?_
 have key: ∀(d i:Nat)(out:List Str),i+d=T.length->out.length+WV (T.drop i)<=2000000-> ∃N,∀f m,N<=f->N<=m-> ∀mt,Met mt out->zO f m T (T.length:Int) (i:Int) mt out=some (tz out (T.drop i)):=by
  intro d;induction d with
  |zero=>
   intro i out hi ho;refine⟨1,fun f m hf hm mt hmt=> ?_⟩;obtain⟨m,rfl⟩: ∃m',m=m'+1:=⟨m-1,by omega⟩;simp only[If,wA];rw[jP (show ¬ (i:Int)<(T.length:Int) by omega),jN,iL (by omega)];rfl
  |succ d ih=>
   intro i out hi ho;have hlt:i<T.length:=by omega
   have hs:=(hN _ (iI hlt)).len;simp only[cap] at hs;rw[iE hlt,WW] at ho;have hlen:=abY T[i].parts out;obtain⟨N,hN'⟩:=ih (i+1) (WU out T[i].parts) (by omega) (by omega);refine⟨max (N+1) 6000000,fun f m hf hm mt hmt=> ?_⟩;obtain⟨m,rfl⟩: ∃m',m=m'+1:=⟨m-1,by omega⟩;simp only[If,wA,qi hlt,iC];rw[jO (show(i:Int)<(T.length:Int) by omega),jM,iE hlt];refine axo f _ T _ i T[i].parts hs (by omega) _ T[i].parts.length 0 mt out (by omega) (by omega) hmt (fun m' hm'=> ?_) f (by omega);rw[iV] at hm' ⊢;exact hN' f m (by omega) (by omega) m' hm'
 obtain⟨N,hN'⟩:=key T.length 0 [] (by omega) (by grind);rw[iV] at hN';refine⟨N,fun n hn=>hN' n n hn hn _ fun s=> ?_⟩;rw[Jc];cases s==[]<;>rfl
theorem ahD: ∀(T:List jY)(out:List Str),(tz out T).length<=out.length+WV T
 |[],out=>iS _
 |n::T,out=>by
  have h1:=ahD T (WU out n.parts)
  grind [abY,tz,WW]
theorem aud {x:Str}(h:x∈ai5 out s):x∈out\/(x=s/\s≠[]):=by
 grind [ai5]
theorem ahE: ∀{ps out:List Str}{x:Str},x∈WU out ps->x∈out\/(x∈ps/\x≠[])
 |[],out,x,h=> .inl h
 |s::ps,out,x,h=>by
  rcases ahE (ps:=ps) (out:=ai5 out s) h with h|⟨h,h2⟩
  all_goals grind [aud]
theorem abZ: ∀{T:List jY}{out:List Str}{x:Str},x∈tz out T->x∈out\/ ∃n∈T,x∈n.parts/\x≠[]
 |[],out,x,h=> .inl h
 |n::T,out,x,h=>by
  rcases abZ (T:=T) (out:=WU out n.parts) h with h|⟨m,hm,h⟩
  all_goals grind [ahE]
theorem arp{n:jY}(h:xN n=0): ∀s∈n.parts,s=[]\/I8 s=true:=by
 grind [xN]
theorem adF{T:List jY}(g:ZA T):(tz [] T).all I8=true:=by
 rw[iW];intro x hx;rcases abZ hx with h|⟨n,hn,h1,h2⟩
 ·cases h
 ·exact(arp (g.chk n hn) x h1).resolve_left h2
set_option maxRecDepth 100000
theorem axp(k:Nat):xl (k+300)=some true:=jV
theorem QQ:Ev (fun n=>xl n) true:=by
 refine⟨300,fun n hn=> ?_⟩;obtain⟨k,rfl⟩: ∃k,n=k+300:=⟨n-300,by omega⟩;exact axp k
theorem ahF:Ev (fun n=>(xl n).bind fun x=>some x) true:=Ev.bind QQ Ev.pure
theorem acE{F:Nat->Option Bool}(h:Ev F true): ∃n,F n=some true:=by
 obtain⟨N,hN⟩:=h;exact⟨N,hN N (iS _)⟩
theorem lg.big{R:Type}{F G:Nat->Nat->Option R}{Q:R->Prop}(N:Nat)(h: ∀n m,N<=n->F n m=G n m)(hg:lg G Q):lg F Q:=by
 obtain⟨r,hr,M,hM⟩:=hg;exact⟨r,hr,max N M,fun n m h1 h2=>by grind⟩
structure axq(T:List jY):Prop where
 len:T.length<=8
 small: ∀n∈T,n.parts.length<=8/\n.target.length<=80/\ ∀s∈n.parts,s.length<=20
 tab:abU T=true
theorem azO(n:Nat)(X:List jY->Int->Option Bool)(T:List jY)(i:Nat)(hi:i<T.length)(hl:i<100)(hp:T[i].parts.length<=8): ∀d k p:Nat,k+d=T[i].parts.length->d<p->
 Lu n X p T (i:Int) (k:Int)=bif (T[i].parts.drop k).any (fun s=>decide (20<s.length)) then some false else X T ((i+1:Nat):Int):=by
 intro d;induction d with
 |zero=>
  intro k p hk hp';obtain⟨p,rfl⟩: ∃q,p=q+1:=⟨p-1,by omega⟩;simp only[Wq,HL,qi hi,iC,mB]
  grind [kO]
 |succ d ih=>
  intro k p hk hp';obtain⟨p,rfl⟩: ∃q,p=q+1:=⟨p-1,by omega⟩;have hkl:k<T[i].parts.length:=by omega
  simp only[Wq,HL,qi hi,iC,qi hkl,mB];rw[jO (show(k:Int)<(T[i].parts.length:Int) by omega),jM,kO (by omega),iE hkl,List.any_cons];have e:decide ((20:Int)<(T[i].parts[k].length:Int))=decide (20<T[i].parts[k].length):=decide_eq_decide.2 (by omega);rw[e];cases decide (20<T[i].parts[k].length) with
  |true=>rfl
  |false=>grind
theorem axr{T:List jY}(hl:T.length<=cap)(h: ∀n∈T,Nsm n):lI (fun f=>Xi f T) (fun b=>b=true->axq T):=by
 have QT:=hl;simp only[cap] at hl
 have fin: ∀i,(i=T.length\/i=10)->(∀j (hj:j<T.length),j<i->T[j].parts.length<=8/\T[j].target.length<=80/\ ∀s∈T[j].parts,s.length<=20)->
  lg (fun f _=>bif decide ((T.length:Int)<=8) then(J8 f T).bind fun x=>some x else some false) (fun b=>b=true->axq T):=by
  intro i hi hs;refine lg.p9 (fun h8=> ?_) fun _=>lg.pure fun h=>by cases h
  have h8:=jQ h8;refine lg.lQ (Ev.tot (Q:=(· =abU T)) (ahC QT h) rfl) fun b hb=>lg.pure fun hb2=> ?_
  subst hb;refine⟨by omega,fun n hn=> ?_,hb2⟩
  grind [List.getElem_of_mem]
 have key: ∀d i:Nat,i+d=10->i<=T.length->(∀j (hj:j<T.length),j<i->T[j].parts.length<=8/\T[j].target.length<=80/\ ∀s∈T[j].parts,s.length<=20)->
  lg (fun f m=>DV f m T (i:Int)) (fun b=>b=true->axq T):=by
  intro d;induction d with
  |zero=>
   intro i hi hle hs;refine lg.lp (fun n m=>by simp only[Wr,HM];exact rfl) ?_;have e:decide ((i:Int)<10)=false:=jP (by omega);simp only[e,jN];cases decide ((i:Int)<(T.length:Int)) with
   |true=>exact fin i (.inr (by omega)) hs
   |false=>exact fin i (.inr (by omega)) hs
  |succ d ih=>
   intro i hi hle hs;refine lg.lp (fun n m=>by simp only[Wr,HM];exact rfl) ?_;by_cases hlt:i<T.length
   ·have e1:decide ((i:Int)<(T.length:Int))=true:=jO (by omega);have e2:decide ((i:Int)<10)=true:=jO (by omega);simp only[e1,e2,jM,qi hlt,iC];refine lg.p9 (fun _=>lg.pure fun h=>by cases h) fun h8=>lg.p9 (fun _=>lg.pure fun h=>by cases h) fun h80=> ?_
    have h8:=of_decide_eq_false h8;have h80:=of_decide_eq_false h80;refine lg.big (G:=fun f m=>bif (T[i].parts.drop 0).any (fun s=>decide (20<s.length)) then some false else DV f m T ((i+1:Nat):Int)) 20 (fun n m hn=>azO n _ T i hlt (by omega) (by omega) T[i].parts.length 0 n (by omega) (by omega)) ?_;refine lg.p9 (fun _=>lg.pure fun h=>by cases h) fun h20=>ih (i+1) (by omega) (by omega) fun j hj hji=> ?_
    grind
   ·have e1:decide ((i:Int)<(T.length:Int))=false:=jP (by omega);simp only[e1,jN];exact fin i (.inl (by omega)) hs
 refine lI.fn (fun n=>by simp only[Xi,kG,Ws,mB];exact rfl) ?_;exact lI.zH (F:=fun f m=>DV f m T 0) (key 10 0 rfl (iM _) fun j _ hj=>by omega)
theorem al3{f t:Int}(hft:f<=t): ∀(l:List Syntax)(o:Syntax),Rg o->o.from_=f->o.to=t->(∀x∈l,Rg x/\f<=x.from_/\x.to<=t)->Rg (afn o l f t)
 |[],o,h,_,_,_=>h
 |x::l,o,h,h1,h2,hl=>by
  obtain⟨k1,k2,k3⟩:=hl x (by simp);exact al3 hft l (azF o x f t) (.two h k1 (by omega) (by omega) k2 k3) rfl rfl fun y hy=>hl y (by simp [hy])
theorem ahG{n:jY}{l:List Syntax}{t:Int}(hft:f<=t)(hl: ∀x∈l,Rg x/\f<=x.from_/\x.to<=t):Rg (WP n l f t):=
 al3 hft l _ (.aho (by decide) hft) rfl rfl hl
def CI:Cmd->Out->Prop
 | .parts n ps i ops e r,.ops l e' q=> ∀lo m hi,lo<=m->m<=hi->Uc m hi r->(∀x∈ops,Rg x/\lo<=x.from_/\x.to<=m)->(ps=[]->e=m)->(∀x∈l,Rg x/\lo<=x.from_/\x.to<=e')/\lo<=e'/\e'<=hi/\Uc e' hi q
 | .first _ r,.val x _ q=> ∀a hi,Uc a hi r->Rg x/\a<=x.from_/\x.to<=hi/\Uc x.to hi q
 | .level _ r,.val x _ q=> ∀a hi,Uc a hi r->Rg x/\a<=x.from_/\x.to<=hi/\Uc x.to hi q
 | .loop _ out _ r,.val x _ q=> ∀a hi,Rg out->a<=out.from_->out.to<=hi->Uc out.to hi r->Rg x/\a<=x.from_/\x.to<=hi/\Uc x.to hi q
 |_,_=>True
theorem Kk.chn{T:List jY}(g:ZA T){c:Cmd}(h:Kk T c o):CI c o:=by
 induction h with
 |WQ=>intro lo m hi h1 h2 h3 h4 h5;grind
 | @hole n ps i ops e r x h q o h1 h2 ih1 ih2=>
   rcases LG h2 with⟨q',rfl⟩|⟨l,e',q',rfl⟩
   ·trivial
   ·intro lo m hi k1 k2 k3 k4 _;obtain⟨a1,a2,a3,a4⟩:=ih1 m hi k3;have:=a1.le;refine ih2 lo x.to hi (by omega) a3 a4 (fun y hy=> ?_) fun _=>rfl
    grind
 | @sym n s ps i ops e y r o hs h1 h2 h3 ih=>
   rcases LG h3 with⟨q',rfl⟩|⟨l,e',q',rfl⟩
   ·trivial
   ·intro lo m hi k1 k2 k3 k4 _;cases k3 with
    |cons a1 a2 a3 a4=>
     have:=a2.le;exact ih lo y.to hi (by omega) a3 a4 (fun z hz=>by grind) fun _=>rfl
 |QN hx=>
  intro a hi k;cases k with
  |cons a1 a2 a3 a4=>exact⟨a2,a1,a3,a4⟩
 | @first m x r n l e q hx hb h1 ih=>
   intro a hi k;cases k with
   |cons a1 a2 a3 a4=>
    have hle:=a2.le
    obtain⟨c1,c2,c3,c4⟩:=ih x.from_ x.from_ hi (iY _) (by omega) (.cons (iY _) a2 a3 a4) (fun y hy=>by cases hy) fun e=>by
     have:=(g.ok (QO hb).1).pos
     grind
    grind [ahG,YQ]
 |stop _=>intro a hi h1 h2 h3 h4;exact⟨h1,h2,h3,h4⟩
 | @go m out has r n l e q o hg h1 h2 ih1 ih2=>
   rcases Lx h2 rfl with⟨q',rfl⟩|⟨x,h,q',rfl⟩
   ·trivial
   ·intro a hi k1 k2 k3 k4;obtain⟨hn,hl,_⟩:=QP hg;have hle:=k1.le;obtain⟨c1,c2,c3,c4⟩:=ih1 out.from_ out.to hi hle k3 k4 (fun y hy=>by grind) fun e=>absurd e (atY g hn hl)
    refine ih2 a hi (ahG c2 c1) ?_ ?_ ?_
    all_goals grind [YQ]
 | @level m r x h q o h1 h2 ih1 ih2=>
   rcases Lx h2 rfl with⟨q',rfl⟩|⟨x',h',q',rfl⟩
   ·trivial
   ·intro a hi k;obtain⟨c1,c2,c3,c4⟩:=ih1 a hi k;exact ih2 a hi c1 c2 c3 c4
 |_=>trivial
def QR(ld:List Str)(r:Str):Int×Nat×Int:=
 bif decide (64<Kj r) then(0,0,5)
 else bif r.take (Kj r)==[95] then(2,Kj r,0)
 else bif ld.contains (r.take (Kj r)) then(2,Kj r,0)
 else bif kws.contains (r.take (Kj r)) then(3,Kj r,0)
 else(0,Kj r,0)
def ZB(ld:List Str)(r:Str):Int×Nat×Int:=bif y8 r 0 (pL++ld)==0 then(0,0,4) else(2,y8 r 0 (pL++ld),0)
def qn(ld:List Str):Str->Int×Nat×Int
 |[]=>(0,0,4)
 |c::t=>bif uX c then QR ld (c::t) else bif qH c then UT (c::t) else bif c==34 then MQ (c::t) else ZB ld (c::t)
theorem WX{k:Nat}(n:Nat):(s.take (k+n)).drop k=(s.drop k).take n:=by grind [List.drop_take]
theorem WY(h:n<=r.length):(r.take n).length=n:=by rw[List.length_take];omega
theorem aue(s:Str)(k:Nat)(hk:k<=s.length)(r2:List (Str×Bool))(ld:List Str)(h2: ∀y,(mW y r2).getD false=ld.contains y):
 ahs s k DE r2 (k+Kj (s.drop k))=alz k (QR ld (s.drop k)):=by
 unfold ahs QR;have hn:=abS (s.drop k);have hl:((s.drop k).take (Kj (s.drop k))).length=Kj (s.drop k):=WY hn;have hkw: ∀y,(mW y DE).getD false=kws.contains y:=fun y=>Zz y kws
 rw[WX,hl,h2,hkw];have e:decide ((64:Int)<((Kj (s.drop k):Nat):Int))=decide (64<Kj (s.drop k)):=decide_eq_decide.2 (by omega);rw[e];cases decide (64<Kj (s.drop k))<;>cases (s.drop k).take (Kj (s.drop k))==[95]<;>cases ld.contains ((s.drop k).take (Kj (s.drop k)))<;>cases kws.contains ((s.drop k).take (Kj (s.drop k)))<;>rfl
theorem apv(h:(UT r).2.2=0):(UT r).2.1=runT qH r:=by
 grind [UT]
theorem ai6(h:(qn ld (c::t)).2.2=0):1<=(qn ld (c::t)).2.1/\(qn ld (c::t)).2.1<=(c::t).length:=by
 rw[qn] at h ⊢;cases hb:uX c with
 |true=>
  grind [abS,AO,sC,pK,Cr,QR]
 |false=>
  cases hd:qH c with
  |true=>
   grind [Jp,pK,apv]
  |false=>
   cases hq:c==34 with
   |true=>
    grind [MQ,iB]
   |false=>
    grind [ZB,alG]
def H7(T:Str->Int×Nat×Int):Str->Nat->List kI×Int×Int
 |[],a=>([⟨4,[],(a:Int)⟩],0,0)
 |c::t,a=>
  bif (T (c::t)).2.2==0 then
   let r:=t.drop ((T (c::t)).2.1-1)
   let z:=H7 T (r.drop (nQ false r)) (a+(T (c::t)).2.1+nQ false r)
   bif z.2.2==0 then(⟨(T (c::t)).1,(c::t).take (T (c::t)).2.1,(a:Int)⟩::z.1,0,0) else([],z.2.1,z.2.2)
  else([],((a+(T (c::t)).2.1:Nat):Int),(T (c::t)).2.2)
termination_by r=>r.length
decreasing_by grind
def al4(out:List kI)(z:List kI×Int×Int):List kI×Int×Int:=bif z.2.2==0 then(out++z.1,0,0) else([],z.2.1,z.2.2)
theorem auf(out:List kI)(x:kI)(z:List kI×Int×Int):al4 (out++[x]) z=al4 out (bif z.2.2==0 then(x::z.1,0,0) else([],z.2.1,z.2.2)):=by
 grind [al4]
theorem arq(T:Str->Int×Nat×Int)(s:Str)(k:Nat)(hk:k<s.length)(h0:(T (s.drop k)).2.2=0)(h1:1<=(T (s.drop k)).2.1)(h2:k+(T (s.drop k)).2.1<=s.length):
 H7 T (s.drop k) k=let e:=k+(T (s.drop k)).2.1
  let j:=e+nQ false (s.drop e)
  let z:=H7 T (s.drop j) j
  bif z.2.2==0 then(⟨(T (s.drop k)).1,(s.drop k).take (T (s.drop k)).2.1,(k:Int)⟩::z.1,0,0) else([],z.2.1,z.2.2):=by
 have hd:=drop_cons hk
 have e:(s.drop (k+1)).drop ((T (s.drop k)).2.1-1)=s.drop (k+(T (s.drop k)).2.1):=by
  rw[jl];congr 1;omega
 grind [H7,jl]
theorem aug(T:Str->Int×Nat×Int)(s:Str)(k:Nat)(hk:k<s.length)(h0:((T (s.drop k)).2.2==0)=false):H7 T (s.drop k) k=([],((k+(T (s.drop k)).2.1:Nat):Int),(T (s.drop k)).2.2):=by
 grind [drop_cons,H7]
theorem auh(T:Str->Int×Nat×Int)(s:Str):H7 T (s.drop s.length) s.length=([⟨4,[],(s.length:Int)⟩],0,0):=by
 rw[iX,H7]
def wk(ld:List Str)(s:Str):List kI×Int×Int:=
 bif ld.all I8 then
  bif decide (65536<s.length) then([],0,5) else H7 (qn ld) (s.drop (nQ false s)) (nQ false s)
 else([],0,1)
theorem acF{α:Type}(x s:Str)(v:α): ∀es:List (Str×α),mW x (yA s v es)=bif x==s then some v else mW x es
 |[]=>by grind [yA,mW]
 |(k,u)::es=>by
  simp [yA];cases hk:s==k with
  |true=>
   grind [mW]
  |false=>
   simp [mW,acF x s v es]
   grind
def BJ(l:List Str)(r:List (Str×Bool)):List (Str×Bool):=l.foldl (fun r y=>yA y true r) r
theorem WZ(y:Str): ∀(l:List Str)(r:List (Str×Bool)),(mW y (BJ l r)).getD false=(l.contains y||(mW y r).getD false)
 |[],r=>rfl
 |x::l,r=>by
  show(mW y (BJ l (yA x true r))).getD false=_;rw[WZ y l,acF,List.contains_cons];cases y==x<;>simp
theorem ars(azP:ld.all I8=true)(hr:r=c::t)(hb:uX c=false): ∀y∈pL++ld,r.take y.length=y->y.length<=8:=by
 intro y hy he;rcases iN.1 hy with h|h
 ·have: ∀y∈pL,y.length<=8:=by decide
  exact this y h
 ·have hs:=iW.1 azP y h
  match y,hs,he with
  |d::u,hs,he=>
   grind [I8]
theorem art(s:Str)(hs:s.length<X6)(ld:List Str)(azP:ld.all I8=true)(r1 r2:List (Str×Bool))(h1: ∀y,(mW y r1).getD false=ld.contains y)(h2: ∀y,(mW y r2).getD false=(pL++ld).contains y):
 ∀(k:Nat)(out:List kI),k<=s.length->out.length<=k->kR (fun n m=>zx n m s DE r1 r2 s (k:Int) out) (al4 out (H7 (qn ld) (s.drop k) k)):=by
 intro k;have hs':s.length<4294967281:=hs;induction h:s.length-k using iO generalizing k with
 |ind d ih=>
  intro out hk hout;have hroom:decide ((out.length+1)*32<=17592186044416)=true:=jO (by omega);refine kR.lp (fun n m=>by simp only[adi,Jn,mB];exact rfl) ?_;by_cases hlt:k<s.length
  ·have e1:decide ((k:Int)<(s.length:Int))=true:=jO (by omega);simp only[e1,jM];refine kR.idx hlt ?_;refine kR.lQ (MP _) ?_;have hd:=drop_cons hlt
   have agA:qn ld (s.drop k)=bif uX s[k] then QR ld (s.drop k) else bif qH s[k] then UT (s.drop k) else bif s[k]==34 then MQ (s.drop k) else ZB ld (s.drop k):=by
    rw[hd];rfl
   have tail: ∀xx,xx=pk (scn s k DE r1 r2) (alz k (qn ld (s.drop k)))->kR (fun n m=>
    bif xx.snd.snd.snd.fst !=0 then some ([],xx.snd.snd.fst,xx.snd.snd.snd.fst)
    else
     bif decide (0<=xx.fst.fst.snd.fst/\xx.fst.fst.snd.fst<=xx.snd.snd.fst/\xx.snd.snd.fst<=(s.length:Int)) then
      bif decide ((out.length+1)*32<=17592186044416) then
       (uW n xx.fst.fst.fst xx.snd.snd.fst xx.fst.snd.fst xx.fst.snd.snd.fst xx.fst.snd.snd.snd.fst).bind fun x_1=>
         zx n m s x_1.fst.snd.fst x_1.fst.snd.snd.fst x_1.fst.snd.snd.snd.fst x_1.fst.fst.fst x_1.fst.fst.snd.fst
          (out++[{kind:=xx.snd.fst,text:=List.drop xx.fst.fst.snd.fst.toNat (List.take xx.snd.snd.fst.toNat s),at_:=xx.fst.fst.snd.fst}])
      else none
     else none) (al4 out (H7 (qn ld) (s.drop k) k)):=by
    intro xx hxx;subst hxx;simp only[pk,scn,alz];cases h0:(qn ld (s.drop k)).2.2==0 with
    |false=>
     grind [aug,al4,kR.pure]
    |true=>
     have hb:((qn ld (s.drop k)).2.2 !=0)=false:=by rw[bne,h0];rfl
     simp only[hb,jN];have hp:=ai6 (ld:=ld) (c:=s[k]) (t:=s.drop (k+1)) (by rw[<-hd];exact eq_of_beq h0);rw[<-hd,iJ] at hp;obtain⟨n,hn⟩: ∃n,(qn ld (s.drop k)).2.1=n:=⟨_,rfl⟩;rw[hn] at hp;simp only[hn];have e2:decide ((0:Int)<=(k:Int)/\(k:Int)<=((k+n:Nat):Int)/\((k+n:Nat):Int)<=(s.length:Int))=true:=jO (by omega);simp only[e2,hroom,jM,jh];rw[WX];refine kR.lQ (alE s hs DE r1 r2 (k+n) (by omega)) ?_;have hsk:=H6 false (s.drop (k+n));rw[iJ] at hsk;rw[arq _ s k hlt (eq_of_beq h0) (by rw[hn];omega) (by rw[hn];omega)];simp only[hn,scn];have:=ih (s.length-(k+n+nQ false (s.drop (k+n)))) (by omega) _ rfl (out++[⟨(qn ld (s.drop k)).1,(s.drop k).take n,(k:Int)⟩]) (by omega) (by grind)
     grind [auf]
   cases hb:uX s[k] with
   |true=>
    have c0:(AN s[k]==0)=false:=by unfold AN;rw[hb];rfl
    have c1:(AN s[k]==1)=true:=by rw[QL,hb]
    simp only[c0,c1,jN,jM];have hw:=aw7 s (by simp only[big];omega) k DE r1 r2 hk;rw[aue s k hk r1 ld h1] at hw;rw[hb,jM] at agA;rw[<-agA] at hw;exact kR.lQ hw (tail _ rfl)
   |false=>
    rw[hb,jN] at agA;have c1:(AN s[k]==1)=false:=by rw[QL,hb]
    cases hdg:qH s[k] with
    |true=>
     have c0:(AN s[k]==0)=false:=by unfold AN;rw[hb,hdg];rfl
     have c2:(AN s[k]==2)=true:=by rw[QM,hdg]
     simp only[c0,c1,c2,jN,jM];rw[hdg,jM] at agA;have hw:=ara s (by simp only[big];omega) k DE r1 r2 hlt;rw[<-agA] at hw;exact kR.lQ hw (tail _ rfl)
    |false=>
     rw[hdg,jN] at agA;have c2:(AN s[k]==2)=false:=by rw[QM,hdg]
     cases hq:s[k]==34 with
     |true=>
      have c0:(AN s[k]==0)=false:=by grind [AN]
      have c3:(AN s[k]==3)=true:=by grind [AN]
      simp only[c0,c1,c2,c3,jN,jM];rw[hq,jM] at agA;have hw:=arf s hs k hlt DE r1 r2;rw[<-agA] at hw;exact kR.lQ hw (tail _ rfl)
     |false=>
      have c0:(AN s[k]==0)=true:=by grind [AN]
      simp only[c0,jM];rw[hq,jN] at agA;have hw:=are s hs k hk DE r1 r2 (pL++ld) h2 (ars azP hd hb)
      have e:(bif y8 (s.drop k) 0 (pL++ld)==0 then((0:Int),(k:Int),(4:Int)) else(2,((k+y8 (s.drop k) 0 (pL++ld):Nat):Int),0))=alz k (ZB ld (s.drop k)):=by
       unfold ZB;generalize y8 (s.drop k) 0 (pL++ld)=q;cases q==0<;>rfl
      rw[e,<-agA] at hw;exact kR.lQ hw (tail _ rfl)
  ·have e1:decide ((k:Int)<(s.length:Int))=false:=jP (by omega);obtain rfl:k=s.length:=by omega
   rw[auh];simp only[e1,jN,hroom,jM];exact kR.pure
theorem aui{T:Str->Int×Nat×Int}:al4 [] (H7 T r a)=H7 T r a:=by
 unfold al4
 match r with
 |[]=>rw[H7];rfl
 |c::t=>
  grind [H7]
theorem axs(s:Str)(hs:s.length<X6)(ld:List Str)(hl:ld.length<1000)(hy: ∀y∈ld,y.length<X6):Ev (fun n=>My n s ld) (wk ld s):=by
 refine Ev.fn (fun n=>by simp only[My,kG,Sa,mB];exact rfl) ?_;have hs':s.length<4294967281:=hs;refine Ev.bind acv ?_
 have l2: ∀(l:List Str)(hll:l.length<1000)(j:Int)(r1:List (Str×Bool))(L:List (List Str))(b:Int)(X:Nat->Nat->List (Str×Bool)->Option (List kI×Int×Int))(res:List kI×Int×Int),
  ∀d k:Nat,k+d=l.length-> ∀r2,kR (fun n m=>tK n m s L b (IntKind.i64.wrap (j+1)) DE r1 (BJ (l.drop k) r2) s) res->
  Oc (fun n m p=>xk n (tK n m) p s L b j l ((l.length:Nat):Int) (k:Int) DE r1 r2 s) res:=by
  intro l hll j r1 L b X res d;induction d with
  |zero=>
   intro k hk r2 hres;refine Oc.lp (fun n m p=>by simp only[Ua,EV,mB];exact rfl) ?_;have:decide ((k:Int)<(l.length:Int))=false:=jP (by omega);simp only[this,jN];rw[iL (show l.length<=k by omega)] at hres;exact Oc.zH hres
  |succ d ih=>
   intro k hk r2 hres;have hlt:k<l.length:=by omega
   refine Oc.lp (fun n m p=>by simp only[Ua,EV,mB];exact rfl) ?_;have:decide ((k:Int)<(l.length:Int))=true:=jO (by omega);simp only[this,jM];refine Oc.idx hlt ?_;rw[kO (by omega)];refine ih (k+1) (by omega) _ ?_;rw[iE hlt] at hres;exact hres
 have key: ∀d k:Nat,k+d=ld.length-> ∀r1,(∀y,(mW y (BJ (ld.drop k) r1)).getD false=ld.contains y)->((ld.take k).all I8=true)->
  kR (fun n m=>EX n m s ld ld ((ld.length:Nat):Int) (k:Int) DE r1 [] s) (bif (ld.drop k).all I8 then(bif decide (65536<s.length) then([],0,5) else H7 (qn ld) (s.drop (nQ false s)) (nQ false s)) else([],0,1)):=by
  intro d;induction d with
  |zero=>
   intro k hk r1 hr1 hall;refine kR.lp (fun n m=>by simp only[Ub,EW,mB];exact rfl) ?_;have:decide ((k:Int)<(ld.length:Int))=false:=jP (by omega);simp only[this,jN];rw[iL (show ld.length<=k by omega)] at hr1 ⊢;rw[ji (by omega)] at hall;simp only[List.all_nil,jM];refine kR.lQ ahr ?_;refine kR.Xr (Ev.zH (F:=fun n m=>tK n m s [pL,ld] 2 0 DE r1 [] s) ?_);refine kR.lp (G:=fun n m=>xk n (tK n m) n s [pL,ld] 2 0 pL ((pL.length:Nat):Int) 0 DE r1 [] s) (fun n m=>by simp only[KF,B7];exact rfl) ?_;refine Oc.DC (F:=fun n m p=>xk n (tK n m) p s [pL,ld] 2 0 pL ((pL.length:Nat):Int) ((0:Nat):Int) DE r1 [] s) ?_;refine l2 pL (by decide) 0 r1 _ 2 (fun _ _ _=>none) _ pL.length 0 (by omega) [] ?_;refine kR.lp (G:=fun n m=>xk n (tK n m) n s [pL,ld] 2 1 ld ((ld.length:Nat):Int) 0 DE r1 (BJ pL []) s) (fun n m=>by simp only[KF,B7];exact rfl) ?_;refine Oc.DC (F:=fun n m p=>xk n (tK n m) p s [pL,ld] 2 1 ld ((ld.length:Nat):Int) ((0:Nat):Int) DE r1 (BJ pL []) s) ?_;refine l2 ld hl 1 r1 _ 2 (fun _ _ _=>none) _ ld.length 0 (by omega) (BJ pL []) ?_;rw[iV]
   refine kR.lp (G:=fun n m=>bif decide ((65536:Int)<(s.length:Int)) then some ([],0,5) else(uW n s 0 DE r1 (BJ ld (BJ pL []))).bind fun x=>
    zx n n s x.fst.snd.fst x.fst.snd.snd.fst x.fst.snd.snd.snd.fst x.fst.fst.fst x.fst.fst.snd.fst []) (fun n m=>by simp only[KF,B7];exact rfl) ?_
   have e:decide ((65536:Int)<(s.length:Int))=decide (65536<s.length):=decide_eq_decide.2 (by omega);rw[e];cases decide (65536<s.length) with
   |true=>exact kR.pure
   |false=>
    simp only[jN];have hk0:=alE s hs DE r1 (BJ ld (BJ pL [])) 0 (iM _);rw[iV,jr] at hk0;refine kR.lQ hk0 ?_;have hsk:=H6 false s
    have:=art s hs ld hall r1 (BJ ld (BJ pL [])) hr1 (fun y=>by
     grind [WZ,mW]) (nQ false s) [] hsk (iM _)
    rw[aui] at this;exact kR.Xr (Ev.zH (F:=fun n m=>zx n m s DE r1 (BJ ld (BJ pL [])) s ((nQ false s:Nat):Int) []) this)
  |succ d ih=>
   intro k hk r1 hr1 hall;have hlt:k<ld.length:=by omega
   refine kR.lp (fun n m=>by simp only[Ub,EW,mB];exact rfl) ?_;have:decide ((k:Int)<(ld.length:Int))=true:=jO (by omega);simp only[this,jM];refine kR.idx hlt (kR.lQ (ahu _ (hy _ (iI hlt))) ?_);rw[iE hlt,jm];cases hsy:I8 ld[k] with
   |false=>exact kR.pure
   |true=>
    simp only[jM,ja];rw[kO (by omega)];refine ih (k+1) (by omega) _ ?_ ?_
    ·rw[iE hlt] at hr1;exact hr1
    grind [List.take_succ_eq_append_getElem]
 exact Ev.zH (F:=fun n m=>EX n m s ld ld ((ld.length:Nat):Int) 0 DE [] [] s) (key ld.length 0 (by omega) [] (fun y=>by grind [WZ,mW]) rfl)
def KH(t:kI):Int×Str:=(t.kind,t.text)
theorem take_cons{m:Nat}(h:1<=m):(c::t).take m=c::t.take (m-1):=by
 obtain⟨m,rfl⟩: ∃j,m=j+1:=⟨m-1,by omega⟩;rfl
theorem W0{p:UInt8->Bool}{w:UInt8}(hw:p w=false)(x:Str): ∀(r:Str)(m:Nat),runT p r<=m->runT p (r.take m++w::x)=runT p r
 |[],m,_=>by rw[jB,iR,pK,hw];rfl
 |c::r,0,h=>by
  grind [pK]
 |c::r,m+1,h=>by
  rw[jj,iK,pK,pK];cases hc:p c with
  |false=>rfl
  |true=>
   rw[pK,hc] at h;simp at h ⊢;rw[W0 hw x r m (by omega)]
theorem afu {m:Nat}{y:Str}(h:q<=m)(hm:m<=r.length):(r.take m++y).drop q=(r.drop q).take (m-q)++y:=by
 grind [List.drop_take]
theorem ahH{w:UInt8}(h:Cr w=false):uX w=false/\qH w=false/\(w==39)=false:=by
 grind [Cr]
theorem ai7{w:UInt8}(hw:Cr w=false)(h46:(w==46)=false)(x:Str): ∀(r:Str)(m:Nat),Kj r<=m->m<=r.length->Kj (r.take m++w::x)=Kj r:=by
 intro r;induction h:r.length using iO generalizing r with
 |ind d ih=>
  intro m hm hml;have hb:=(ahH hw).1;have he:=AO r;have hc:sC (r.take m++w::x)=sC r:=W0 hw x r m (by unfold sC at he;omega);rw[AO (r.take m++w::x),hc,afu (by omega) (by omega),he];congr 1;have hl1:(r.drop (sC r)).length=r.length-sC r:=iJ ..
  have ht:tlT (r.drop (sC r))<=m-sC r:=by omega
  have hlt:sC r+2<=r.length->(r.drop (sC r+1)).length<d:=by rw[iJ];omega
  have hdd:(r.drop (sC r)).drop 1=r.drop (sC r+1):=jl ..
  have hm1:m-sC r<=(r.drop (sC r)).length:=by omega
  generalize hq:m-sC r=q at ht hm1 ⊢
  match hr1:r.drop (sC r) with
  |[]=>
   rw[jB];cases x with
   |nil=>rfl
   |cons c t=>show(bif w==46&&uX c then _ else 0)=0;rw[h46];rfl
  |[e]=>
   cases q with
   |zero=>
    cases x with
    |nil=>rfl
    |cons c t=>show(bif w==46&&uX c then _ else 0)=0;rw[h46];rfl
   |succ q=>
    rw[jj,jB,iK];show(bif e==46&&uX w then _ else 0)=0;rw[hb,jd];rfl
  |e::c::t=>
   rw[hr1] at ht hm1 hl1 hdd;cases hec:e==46&&uX c with
   |true=>
    have ht':tlT (e::c::t)=1+Kj (c::t):=by show(bif e==46&&uX c then _ else 0)=_;rw[hec];rfl
    have hn1:1<=Kj (c::t):=by
     rw[AO]
     grind [sC,pK,Cr]
    obtain⟨j,rfl⟩: ∃j,q=j+2:=⟨q-2,by omega⟩;have hih:=ih (c::t).length (by grind) (c::t) rfl (j+1) (by omega) (by grind);show(bif e==46&&uX c then 1+Kj (c::(t.take j++w::x)) else 0)=_
    grind
   |false=>
    have ht':tlT (e::c::t)=0:=by show(bif e==46&&uX c then _ else 0)=_;rw[hec];rfl
    rw[ht']
    match q with
    |0=>
     cases x with
     |nil=>rfl
     |cons c t=>show(bif w==46&&uX c then _ else 0)=0;rw[h46];rfl
    |1=>
     show(bif e==46&&uX w then _ else 0)=0;rw[hb,jd];rfl
    |q+2=>
     show(bif e==46&&uX c then _ else 0)=0;rw[hec];rfl
def spB(ld:List Str)(w:UInt8):Prop:=Cr w=false/\(w==46)=false/\ ∀y∈pL++ld,w ∉ y.drop 1
theorem aru{l:List Str}{w:UInt8}(hw: ∀y∈l,w ∉ y.drop 1)(x:Str)(r:Str)(m:Nat)(h1:1<=m)(hm:y8 r 0 l<=m)(hml:m<=r.length):y8 (r.take m++w::x) 0 l=y8 r 0 l:=by
 obtain⟨a1,_,a3⟩:=BI r l 0;obtain⟨b1,_,b3⟩:=BI (r.take m++w::x) l 0;refine Nat.le_antisymm ?_ ?_
 ·rcases b1 with b1|⟨_,b4,b5⟩
  ·omega
  ·generalize y8 (r.take m++w::x) 0 l=v at*;rcases je m v with hv|hv
   ·exfalso;refine hw _ b5 ?_;obtain⟨j,rfl⟩: ∃j,v=m+(j+1):=⟨v-m-1,by omega⟩
    simp_all [List.take_append,iU]
   grind
 grind
theorem azQ:qb 10=false:=rfl
theorem auj{w:UInt8}(hw:Cr w=false)(x:Str)(c:UInt8)(t:Str)(m:Nat)(h1:1<=m)(hm:runT qH (c::t)<=m)(hml:m<=(c::t).length)(he:m=(c::t).length\/(UT (c::t)).2.2=0):UT ((c::t).take m++w::x)=UT (c::t):=by
 obtain⟨wb,wd,w39⟩:=ahH hw;have hrun:runT qH ((c::t).take m++w::x)=runT qH (c::t):=W0 wd x _ m hm;have hhd:((c::t).take m++w::x).head?=(c::t).head?:=by rw[take_cons h1];rfl
 unfold UT at he ⊢;rw[hrun,hhd,afu hm hml];generalize hq:runT qH (c::t)=q at*;revert he;cases decide (6<q) with
 |true=>intro _;rfl
 |false=>
  cases decide (1<q)&&(c::t).head?==some 48 with
  |true=>intro _;rfl
  |false=>
   have hl:((c::t).drop q).length=(c::t).length-q:=iJ ..
   generalize (c::t).drop q=u at*;cases u with
   |nil=>
    grind
   |cons d u=>
    rcases je q m with hlt|hge
    ·grind [take_cons]
    ·have:m-q=0:=by omega
     grind
theorem arv{w:UInt8}(x:Str)(c:UInt8)(t:Str)(m:Nat)(h1:1<=m)(hml:m<=(c::t).length)(he:((MQ (c::t)).2.2=0/\(MQ (c::t)).2.1<=m)\/(m=(c::t).length/\w=10)):MQ ((c::t).take m++w::x)=MQ (c::t):=by
 rw[take_cons h1];unfold MQ at he ⊢;simp [iV] at he ⊢;have hr:=Jp qb t;simp at hml he;rcases he with⟨he,hm⟩|⟨he,rfl⟩
 ·match hu:t.drop (runT qb t) with
  |[]=>rw[hu] at he;cases he
  |d::u=>
   rw[hu] at he hm;cases hd:d==34 with
   |false=>grind
   |true=>
    simp [hd] at hm
    have hrun:runT qb (t.take (m-1)++w::x)=runT qb t:=by
     have ht:t=t.take (runT qb t)++d::u:=by rw[<-hu,jx]
     have hlen:(t.take (runT qb t)).length=runT qb t:=WY hr;have hqd:qb d=false:=by rw[eq_of_beq hd];rfl
     have e1:t.take (m-1)++w::x=t.take (runT qb t)++d::(u.take (m-1-runT qb t-1)++w::x):=by
      conv=>lhs;rw[ht]
      rw[List.take_append,hlen,ji (by omega),take_cons (by omega),jc,iK]
     grind [W0]
    grind [afu,take_cons]
 ·have hrun:runT qb (t.take (m-1)++10::x)=runT qb t:=W0 azQ x t (m-1) (by omega)
  grind
theorem axt{w:UInt8}(hw:spB ld w)(x:Str)(c:UInt8)(t:Str)(m:Nat)(h1:1<=m)(hml:m<=(c::t).length)
 (he:((qn ld (c::t)).2.2=0/\(qn ld (c::t)).2.1<=m)\/(m=(c::t).length/\w=10)):qn ld ((c::t).take m++w::x)=qn ld (c::t):=by
 obtain⟨w1,w2,w3⟩:=hw;have aBT:(c::t).take m++w::x=c::(t.take (m-1)++w::x):=by rw[take_cons h1,iK]
 have he': ∀r,r=(c::t).take m++w::x->qn ld r=bif uX c then QR ld r else bif qH c then UT r else bif c==34 then MQ r else ZB ld r:=by
  intro r hr;rw[aBT] at hr;subst hr;rfl
 rw[he' _ rfl];rw[qn] at he ⊢;cases hb:uX c with
 |true=>
  have hn:Kj (c::t)<=m:=by
   grind [QR,abS]
  unfold QR
  grind [ai7]
 |false=>
  cases hd:qH c with
  |true=>
   grind [auj,apv,Jp]
  |false=>
   cases hq:c==34 with
   |true=>
    grind [arv]
   |false=>
    simp at he ⊢
    have hn:y8 (c::t) 0 (pL++ld)<=m:=by
     grind [ZB,alG]
    unfold ZB;rw[aru w3 x _ m h1 hn hml]
def Oe:Bool->Str->Option Bool
 |co,[]=>some co
 |true,x::r=>bif x==10 then Oe false r else Oe true r
 |false,x::r=>bif whB x then Oe false r else bif x==45&&r.head?==some 45 then Oe true r else none
theorem W1: ∀(co:Bool)(u v:Str)(f:Bool),Oe co u=some f->nQ co (u++v)=u.length+nQ f v
 |co,[],v,f,h=>by
  grind [Oe]
 |true,x::r,v,f,h=>by
  rw[Oe] at h;rw[iK,nQ,iB];cases hx:x==10 with
  |true=>rw[hx] at h;simp at h ⊢;rw[W1 false r v f h];omega
  |false=>rw[hx] at h;simp at h ⊢;rw[W1 true r v f h];omega
 |false,x::r,v,f,h=>by
  rw[Oe] at h;rw[iK,nQ,iB];cases hx:whB x with
  |true=>rw[hx] at h;simp at h ⊢;rw[W1 false r v f h];omega
  |false=>
   rw[hx] at h;simp only[jN] at h ⊢;cases hc:x==45&&r.head?==some 45 with
   |false=>rw[hc] at h;cases h
   |true=>
    rw[hc] at h
    have:(x==45&&(r++v).head?==some 45)=true:=by
     grind
    rw[this,jM,W1 true r v f h];omega
def H8:Str->Bool
 |[]=>true
 |c::t=> !whB c&& !(c==45&&t.head?==some 45)
theorem ahI(h:H8 r=true):nQ false r=0:=by
 cases r with
 |nil=>rfl
 |cons c t=>
  grind [H8,skip_none]
theorem FH: ∀(co:Bool)(r:Str),∃f,Oe co (r.take (nQ co r))=some f/\(f=true->r.drop (nQ co r)=[])/\H8 (r.drop (nQ co r))=true
 |co,[]=>⟨co,by cases co<;>rfl,fun _=>by simp,by simp [H8]⟩
 |true,x::r=>by
  rw[nQ];cases hx:x==10 with
  |true=>
   obtain⟨f,h1,h2⟩:=FH false r
   grind [Oe]
  |false=>
   obtain⟨f,h1,h2⟩:=FH true r
   grind [Oe]
 |false,x::r=>by
  rw[nQ];cases hx:whB x with
  |true=>
   obtain⟨f,h1,h2⟩:=FH false r
   grind [Oe]
  |false=>
   cases hc:x==45&&r.head?==some 45 with
   |false=>
    refine⟨false,rfl,fun h=>(by cases h),?_⟩
    grind [H8]
   |true=>
    obtain⟨f,h1,h2⟩:=FH true r
    have hh:(r.take (nQ true r)).head?=r.head?:=by
     cases r with
     |nil=>rfl
     |cons y r=>
      grind [nQ]
    grind [Oe]
theorem arw(T:Str->Int×Nat×Int): ∀(r:Str)(a b:Nat),(H7 T r a).1.map KH=(H7 T r b).1.map KH/\(H7 T r a).2.2=(H7 T r b).2.2:=by
 intro r;induction h:r.length using iO generalizing r with
 |ind d ih=>
  intro a b
  match r,h with
  |[],h=>rw[H7,H7];exact⟨rfl,rfl⟩
  |c::t,h=>
   rw[H7,H7];cases (T (c::t)).2.2==0 with
   |false=>exact⟨rfl,rfl⟩
   |true=>
    simp only[jM];have:=ih (((t.drop ((T (c::t)).2.1-1)).drop (nQ false (t.drop ((T (c::t)).2.1-1)))).length) (by grind) _ rfl (a+(T (c::t)).2.1+nQ false (t.drop ((T (c::t)).2.1-1))) (b+(T (c::t)).2.1+nQ false (t.drop ((T (c::t)).2.1-1)));generalize H7 T _ (b+_+_)=z' at this ⊢;rw[this.2];cases z'.2.2==0 with
    |false=>exact⟨rfl,rfl⟩
    |true=>
     simp only[jM,jn];rw[this.1];exact⟨rfl,trivial⟩
theorem aox(h:((qn ld (c::t)).2.2==0)=false):(qn ld (c::t)).2.1<(c::t).length:=by
 have hpos:0<(c::t).length:=by simp
 rw[qn] at h ⊢;cases hb:uX c with
 |true=>
  grind [QR]
 |false=>
  rw[hb] at h;simp only[jN] at h ⊢;cases hd:qH c with
  |true=>
   grind [UT,iB]
  |false=>
   grind [MQ,ZB]
theorem al5{w:UInt8}{x:Str}(h:H8 r=true)(hr:r≠[])(hw:(w==45)=false):H8 (r++w::x)=true:=by
 match r,hr with
 |[c],_=>
  grind [H8]
 |c::d::t,_=>exact h
theorem al6(hw:spB ld 10)(x:Str): ∀(r:Str)(a:Nat),((H7 (qn ld) r a).2.2==0)=false->H8 r=true->H7 (qn ld) (r++10::x) a=H7 (qn ld) r a/\(a:Int)<=(H7 (qn ld) r a).2.1/\(H7 (qn ld) r a).2.1<((a+r.length:Nat):Int):=by
 intro r;induction h:r.length using iO generalizing r with
 |ind d ih=>
  intro a he hst
  match r,h with
  |[],h=>rw[H7] at he;cases he
  |c::t,h=>
   have aDf:qn ld (c::(t++10::x))=qn ld (c::t):=by
    grind [axt,jp]
   rw[H7] at he ⊢;rw[iK,H7,aDf];cases h0:(qn ld (c::t)).2.2==0 with
   |false=>
    have:=aox h0
    grind
   |true=>
    rw[h0] at he;simp only[jM] at he ⊢;have hp:=ai6 (eq_of_beq h0);generalize hn:(qn ld (c::t)).2.1=n at*
    have atP:t.drop (n-1)=(c::t).drop n:=by
     obtain⟨j,rfl⟩: ∃j,n=j+1:=⟨n-1,by omega⟩;rfl
    have azR:(t++10::x).drop (n-1)=t.drop (n-1)++10::x:=iU (by rw[iB] at hp;omega);rw[azR];generalize hr2:t.drop (n-1)=r2 at*;have hl2:r2.length=t.length-(n-1):=by rw[<-hr2,iJ]
    obtain⟨f,s1,s2,s3⟩:=FH false r2;have hsk:=H6 false r2
    have hne:r2.drop (nQ false r2)≠[]:=by
     grind [H7]
    have hf:f=false:=by
     grind
    subst hf;have hstop:=al5 (w:=10) (x:=x) s3 hne rfl
    have aDg:nQ false (r2++10::x)=nQ false r2:=by
     have e:r2++10::x=r2.take (nQ false r2)++(r2.drop (nQ false r2)++10::x):=by grind [jx]
     simp_all [W1,ahI]
    rw[aDg,iU hsk];rw[iB] at h hp
    have hz:((H7 (qn ld) (r2.drop (nQ false r2)) (a+n+nQ false r2)).2.2==0)=false:=by
     grind
    obtain⟨i1,i2,i3⟩:=ih (r2.drop (nQ false r2)).length (by rw[iJ];omega) _ rfl (a+n+nQ false r2) hz s3;rw[i1];generalize H7 (qn ld) (r2.drop (nQ false r2)) (a+n+nQ false r2)=z at*;rw[hz];rw[iJ] at i3;simp only[jN];exact⟨trivial,by omega,by omega⟩
theorem acG(w:UInt8)(h:whB w=true):Cr w=false/\Ud w=false/\(w==46)=false/\(w==45)=false:=by
 have:=Sw (p:=fun w=> !whB w||(!Cr w&&(!Ud w&&(!(w==46)&& !(w==45))))) (jV) w
 grind
theorem ahJ(hs:ld.all I8=true){w:UInt8}(h:whB w=true):spB ld w:=by
 obtain⟨h1,h2,h3,_⟩:=acG w h;refine⟨h1,h3,fun y hy hm=> ?_⟩;have hm':w∈y:=List.mem_of_mem_drop hm;rcases iN.1 hy with hf|hf
 ·have hall: ∀y∈pL,∀b∈y,whB b=false:=by decide
  grind
 ·have hsy:=iW.1 hs y hf
  match y,hsy,hm' with
  |c::t,hsy,hm'=>
   grind [I8]
theorem aoy(h:(H7 (qn ld) (c::t) a).2.2=0):
 ∃n sk f,(qn ld (c::t)).2.2=0/\n=(qn ld (c::t)).2.1/\1<=n/\n<=(c::t).length/\sk=nQ false ((c::t).drop n)/\Oe false (((c::t).drop n).take sk)=some f/\(f=true->(c::t).drop (n+sk)=[])/\H8 ((c::t).drop (n+sk))=true/\n+sk<=(c::t).length/\
  (H7 (qn ld) ((c::t).drop (n+sk)) (a+n+sk)).2.2=0/\(H7 (qn ld) (c::t) a).1=⟨(qn ld (c::t)).1,(c::t).take n,(a:Int)⟩::(H7 (qn ld) ((c::t).drop (n+sk)) (a+n+sk)).1:=by
 rw[H7] at h ⊢;cases h0:(qn ld (c::t)).2.2==0 with
 |false=>
  grind
 |true=>
  rw[h0] at h;simp only[jM] at h ⊢;have hp:=ai6 (eq_of_beq h0)
  have atP:t.drop ((qn ld (c::t)).2.1-1)=(c::t).drop (qn ld (c::t)).2.1:=by
   obtain⟨j,hj⟩: ∃j,(qn ld (c::t)).2.1=j+1:=⟨(qn ld (c::t)).2.1-1,by omega⟩;rw[hj];rfl
  rw[atP] at h ⊢;have hdd: ∀q,((c::t).drop (qn ld (c::t)).2.1).drop q=(c::t).drop ((qn ld (c::t)).2.1+q):=fun q=>jl ..
  obtain⟨f,s1,s2,s3⟩:=FH false ((c::t).drop (qn ld (c::t)).2.1);have hsk:=H6 false ((c::t).drop (qn ld (c::t)).2.1);rw[iJ] at hsk;rw[hdd] at s2 s3;rw[hdd] at h ⊢;refine⟨_,_,f,eq_of_beq h0,rfl,hp.1,hp.2,rfl,s1,s2,s3,by omega,?_⟩
  grind
theorem axu(hs:ld.all I8=true)(h:s.length<=65536):wk ld s=H7 (qn ld) (s.drop (nQ false s)) (nQ false s):=by
 grind [wk]
theorem auk(h:(qn ld (c::t)).2.2=0):(qn ld (c::t)).1≠4:=by
 grind [qn,QR,UT,MQ,ZB]
def apw(s:Str):Prop:=((s.length<=18/\Lib.atoi s=some (X4 s))/\0<=X4 s/\X4 s<=999999)/\s.all qH=true
theorem apx: ∀(s:Str)(acc:Nat),s.all qH=true-> ∃m:Nat,Lib.decFrom acc s=some m/\(m:Int)=s.foldl (fun n c=>10*n+((c.toNat:Int)-48)) (acc:Int)/\m+1<=(acc+1)*10 ^ s.length
 |[],acc,_=>⟨acc,rfl,rfl,by simp⟩
 |c::t,acc,h=>by
  rw[jm,iH] at h;have hd:=h.1;unfold qH at hd;rw[iH,jR,jR] at hd;obtain⟨m,h1,h2,h3⟩:=apx t (acc*10+(c.toNat-48)) h.2;refine⟨m,?_,?_,?_⟩
  ·grind [Lib.decFrom,Lib.digitVal]
  ·grind
  ·rw[iB,Nat.pow_succ,<-Nat.mul_assoc,Nat.mul_right_comm];exact Nat.le_trans h3 (Nat.mul_le_mul_right _ (by omega))
theorem axv(p:UInt8->Bool)(r:Str):(r.take (runT p r)).all p=true:=by
 grind [runT,List.prefix_iff_eq_take,List.takeWhile_prefix,List.all_takeWhile]
theorem azS(h:runT qH r<=6)(h1:1<=runT qH r):apw (r.take (runT qH r)):=by
 have ha:=axv qH r;have hl:(r.take (runT qH r)).length=runT qH r:=WY (Jp qH r);revert ha hl;generalize hs:r.take (runT qH r)=s;intro ha hl;obtain⟨m,m1,m2,m3⟩:=apx s 0 ha;have hz:(m:Int)=X4 s:=m2;have h6:10 ^ s.length<=10 ^ 6:=Nat.pow_le_pow_right (by decide) (by omega);refine⟨⟨⟨by omega,?_⟩,by omega,by grind⟩,ha⟩
 match s,hl with
 |[],hl=>rw[iF] at hl;omega
 |c::t,hl=>
  rw[jm,iH] at ha;have hd:=ha.1;unfold qH at hd;rw[iH,jR,jR] at hd
  have e1:(c==45)=false:=by
   rw[jT];intro e;simp_all
  have e2:(c==43)=false:=by
   rw[jT];intro e;simp_all
  grind [Lib.atoi,Lib.decNat]
theorem axw(h:(qn ld (c::t)).2.2=0)(hk:(qn ld (c::t)).1=1):apw ((c::t).take (qn ld (c::t)).2.1):=by
 rw[qn] at h hk ⊢
 grind [QR,pK,UT,azS,MQ,ZB]
inductive TkL(e:Nat):Nat->List kI->Prop
 |last:TkL e e [⟨4,[],(e:Int)⟩]
 |cons {a b:Nat} {k:Int} {x:Str} {l:List kI}:k≠4->1<=x.length->(k=1->apw x)->a+x.length<=b->TkL e b l->TkL e a (⟨k,x,(a:Int)⟩::l)
theorem aBU: ∀{r:Str}{a:Nat},(H7 (qn ld) r a).2.2=0->TkL (a+r.length) a (H7 (qn ld) r a).1:=by
 intro r;induction h:r.length using iO generalizing r with
 |ind d ih=>
  intro a he
  match r,h with
  |[],h=>subst h;rw[H7];exact .last
  |c::t,h=>
   obtain⟨n,sk,f,h0,hn,hn1,hnl,hsk,s1,s2,s3,hle,hz,heq⟩:=aoy he;rw[heq];have hr:((c::t).drop (n+sk)).length=d-(n+sk):=by rw[iJ,h]
   have:=ih ((c::t).drop (n+sk)).length (by rw[hr];omega) rfl hz;rw[show a+n+sk+((c::t).drop (n+sk)).length=a+d by rw[hr];omega] at this;refine .cons (auk h0) (by rw[WY hnl];exact hn1) (fun hk=> ?_) (by grind) this;rw[hn];exact axw h0 hk
namespace TkL
theorem pos {e:Nat}{l:List kI}(h:TkL e a l):0<l.length:=by cases h<;>simp
theorem le {e:Nat}{l:List kI}(h:TkL e a l):a<=e/\l.length+a<=e+1:=by
 induction h with
 |last=>simp;omega
 |cons h1 h2 h3 h4 _ ih=>rw[iB];omega
theorem mem {e:Nat}{l:List kI}(h:TkL e a l): ∀t∈l,(a:Int)<=t.at_/\t.at_+(t.text.length:Int)<=(e:Int)/\(t.kind=1->apw t.text):=by
 induction h with
 |last=>grind
 |cons h1 h2 h3 h4 h5 ih=>
  have:=h5.le
  grind
theorem next {e:Nat}{l:List kI}(h:TkL e a l): ∀(i:Nat)(hi:i+1<l.length),l[i].at_+(l[i].text.length:Int)<=l[i+1].at_/\l[i].at_<l[i+1].at_/\l[i].kind≠4:=by
 induction h with
 |last=>intro i hi;simp at hi
 |cons h1 h2 h3 h4 h5 ih=>
  intro i hi
  match i with
  |0=>
   have:=(h5.mem _ (iI h5.pos)).1
   grind
  |i+1=>
   grind
theorem aDh {e:Nat}{l:List kI}(h:TkL e a l): ∀(i:Nat)(hi:i<l.length),i+1=l.length->l[i]=⟨4,[],(e:Int)⟩:=by
 induction h with
 |last=>grind
 |cons h1 h2 h3 h4 h5 ih=>
  intro i hi h
  match i with
  |0=>have:=h5.pos;rw[iB] at h;omega
  |i+1=>
   grind
end TkL
def ZF(ld:List Str)(s:Str)(a:Nat):List kI×Int×Int:=H7 (qn ld) (s.drop (nQ false s)) (a+nQ false s)
theorem afv(hs:ld.all I8=true)(h:s.length<=65536):wk ld s=ZF ld s 0:=by
 grind [wk,ZF]
theorem ahK{w:UInt8}(hw:whB w=true)(s:Str)(a:Nat):ZF ld (w::s) a=ZF ld s (a+1):=by
 grind [ZF,nQ]
theorem afw(h:H8 r=true)(a:Nat):ZF ld r a=H7 (qn ld) r a:=by
 unfold ZF;rw[ahI h];rfl
theorem axx(a:Nat):ZF ld [] a=([⟨4,[],(a:Int)⟩],0,0):=by
 grind [ZF,aht,H7]
theorem axy(hs:ld.all I8=true)(hc:uX c=false/\qH c=false/\(c==34)=false/\Ud c=false)(h1:[c]∈pL)(h2: ∀y∈pL,y.head?=some c->y=[c]\/t.take 1≠y.drop 1)(h3: ∀y∈pL,y.head?=some c->y.length<=2):qn ld (c::t)=(2,1,0):=by
 obtain⟨c1,c2,c3,c4⟩:=hc
 have hv:y8 (c::t) 0 (pL++ld)=1:=by
  obtain⟨a1,_,a3⟩:=BI (c::t) (pL++ld) 0;have hge:1<=y8 (c::t) 0 (pL++ld):=a3 [c] (jy _ h1) rfl;rcases a1 with a1|⟨_,b2,b3⟩
  ·omega
  ·revert hge b2 b3;generalize y8 (c::t) 0 (pL++ld)=v;intro hge b2 b3;obtain⟨v,rfl⟩: ∃k,v=k+1:=⟨v-1,by omega⟩;rw[jj] at b3;rcases iN.1 b3 with b3|b3
   ·have k3:=h3 _ b3 rfl;rcases h2 _ b3 rfl with k|k
    ·grind
    ·rw[iB] at b2;rw[iB,List.length_take,Nat.min_eq_left (by omega)] at k3;obtain rfl|rfl:v=0\/v=1:=by omega
     all_goals grind
   grind [I8]
 grind [qn,ZB]
theorem axz{L:List kI}(hst:H8 (c::t)=true)(h:qn ld (c::t)=(2,1,0))(hL:ZF ld t (a+1)=(L,0,0)):ZF ld (c::t) a=(⟨2,[c],(a:Int)⟩::L,0,0):=by
 rw[afw hst,H7,h]
 grind [ZF]
theorem aul(hs:ld.all I8=true){L:List kI}(ht:t.head?≠some 41)(hL:ZF ld t (a+1)=(L,0,0)):ZF ld (40::t) a=(⟨2,[40],(a:Int)⟩::L,0,0):=by
 refine axz rfl (axy hs (by decide) (by decide) (fun y hy h=> ?_) (by decide)) hL;have:y=[40]\/y=[40,41]:=by revert y;decide
 rcases this with rfl|rfl
 ·exact .inl rfl
 ·refine .inr fun e=>ht ?_
  cases t with
  |nil=>simp at e
  |cons d t=>simpa using e
theorem arx(s:Str)(a b:Nat):(ZF ld s a).1.map KH=(ZF ld s b).1.map KH/\(ZF ld s a).2.2=(ZF ld s b).2.2:=arw _ _ _ _
theorem azT(h:(ZF ld s a).2.2=0):TkL (a+s.length) (a+nQ false s) (ZF ld s a).1:=by
 have:=aBU h;have hs:=H6 false s;rw[iJ,show a+nQ false s+(s.length-nQ false s)=a+s.length by omega] at this;exact this
theorem TkL.aDi{Z:Cx}{e:Nat}(h:TkL e a Z.T)(he:e<=70000)(hb:0<=Z.b/\Z.b<=100000):rU Z:=by
 have hl:=h.le;refine⟨h.pos,by omega,hb,fun t ht=> ?_,fun t ht hk=>((h.mem t ht).2.2 hk).1⟩;obtain⟨h1,h2,_⟩:=h.mem t ht;omega
theorem aBV{Z:Cx}{i:Nat}(hi:i<Z.T.length):Z.S.F i=Z.b+Z.T[i].at_:=by simp [Cx.S,hi]
theorem aBW{Z:Cx}{i:Nat}(hi:i<Z.T.length):Z.S.E (i+1)=Z.b+(Z.T[i].at_+(Z.T[i].text.length:Int)):=by simp [Cx.S,hi]
theorem TkL.sok{Z:Cx}{e:Nat}(h:TkL e a Z.T):Zy Z.S where
 last:=fun i hi hk=>by
  have hi:i<Z.T.length:=hi;rw[MM hi] at hk;show i+1<Z.T.length;rcases je (i+1) Z.T.length with h1|h1
  ·exact h1
  ·have:=h.aDh i hi (by omega)
   grind
 num:=fun i hi hk=>by
  have hi:i<Z.T.length:=hi;rw[MM hi] at hk ⊢;exact((h.mem _ (iI hi)).2.2 hk).1.2
theorem TkL.aBX{Z:Cx}{e:Nat}(h:TkL e a Z.T):Pos Z.S where
 ef:=fun i hi=>by
  have hi:i<Z.T.length:=hi;rw[aBV hi]
  match i with
  |0=>
   have:=(h.mem _ (iI hi)).1;show Z.b<=_;omega
  |i+1=>
   rw[aBW (by omega)];have:=(h.next i hi).1;omega
 fe:=fun i hi=>by
  have hi:i+1<Z.T.length:=hi;rw[aBV (by omega),aBW (by omega)];omega
def npT(T:List jY)(l:List Syntax):Syntax×Int×Int:= @dite _ (∃o,Kk T (.level 0 l) o) (Classical.propDecidable _) (fun h=>oz l (Classical.choose h)) fun _=>(X1,0,3)
def Zc(T:List jY)(s:Str):Cx:={T:=(wk (tz [] T) s).1,b:=0,tb:=T,sy:=tz [] T,np:=npT T}
structure ab0(T:List jY):Prop where
 few:axq T
 nsm: ∀n∈T,Nsm n
namespace ab0
variable {T:List jY} (g:ab0 T)
include g
theorem aBY:T.length<=cap:=by have:=g.few.len;simp [cap];omega
theorem ok:ZA T:=ZA.of g.few.tab
theorem apy:WV T<=8*T.length:=by
 have: ∀U:List jY,(∀n∈U,n.parts.length<=8)->WV U<=8*U.length:=by
  intro U;induction U with
  |nil=>intro _;exact iS _
  |cons n U ih=>
   grind [WW]
 exact this T fun n hn=>(g.few.small n hn).1
theorem al7:(tz [] T).length<=64:=by
 have h1:=ahD T [];have h2:=g.apy;have h3:=g.few.len;rw[iF] at h1;omega
theorem axA: ∀y∈tz [] T,y.length<=20:=by
 intro y hy;rcases abZ hy with h|⟨n,hn,h1,_⟩
 ·cases h
 ·exact(g.few.small n hn).2.2 y h1
theorem apz:Ev (fun f=>Am f T) (tz [] T):=by
 have h2:=g.apy;have h3:=g.few.len;exact auc T g.aBY g.nsm (by simp [cap];omega)
theorem npR{l:List Syntax}: ∃o,Kk T (.level 0 l) o/\npT T l=oz l o:=by
 obtain⟨o,ho,_⟩:=Kk.total g.ok l.length 0 l (iS _);have h: ∃o,Kk T (.level 0 l) o:=⟨o,ho⟩
 grind [npT]
theorem aDj{l:List Syntax}(hl:l.length<=200)(ho:Kk T (.level 0 l) o):Ev (fun n=>uc n T l) (oz l o):=
 aot g.aBY g.nsm (by simp [cap];omega) g.few.tab (by omega) ho
omit g in
theorem ahL{l:List Syntax}(ho:Kk T (.level 0 l) o)(h:(oz l o).2.2=0): ∃x hh,o= .val x hh []/\oz l o=(x,0,0):=by
 rcases Lx ho rfl with⟨q,rfl⟩|⟨x,hh,q,rfl⟩
 ·exact absurd h (by simp [oz])
 ·cases q with
  |nil=>exact⟨x,hh,rfl,rfl⟩
  |cons y q=>exact absurd h (by simp [oz])
theorem aBZ(s:Str):arm (Zc T s):=by
 intro l _ hl;obtain⟨o,ho,e⟩:=g.npR (l:=l);have e:(Zc T s).np l=oz l o:=e;rw[e];refine⟨g.aDj hl ho,?_⟩;rcases Lx ho rfl with⟨q,rfl⟩|⟨x,hh,q,rfl⟩
 ·exact jf _
 ·cases q with
  |nil=>exact iY _
  |cons y q=>exact jf _
theorem ax8(s:Str):afg (Zc T s).S:=by
 intro l a b _ hc h0;obtain⟨o,ho,e⟩:=g.npR (l:=l);have e:(Zc T s).S.np l=oz l o:=e;rw[e] at h0 ⊢;obtain⟨x,hh,rfl,e2⟩:=ahL ho h0;obtain⟨c1,c2,c3,_⟩:=(ho.chn g.ok:CI (.level 0 l) (.val x hh [])) a b hc;exact⟨c1,c2,c3⟩
theorem axB(hs:s.length<=65536):Ev (fun n=>My n s (tz [] T)) (wk (tz [] T) s):=
 axs s (by simp [X6];omega) _ (by have:=g.al7;omega) fun y hy=>by have:=g.axA y hy;simp [X6];omega
theorem tk(hs:s.length<=65536)(h:(wk (tz [] T) s).2.2=0):TkL s.length (nQ false s) (Zc T s).T:=by
 rw[afv (adF g.ok) (by omega)] at h;have:=azT h;rw[jr,jr] at this;show TkL _ _ (wk (tz [] T) s).1;rw[afv (adF g.ok) (by omega)];exact this
theorem azU(hs:s.length<=65536)(h:((wk (tz [] T) s).2.2==0)=false):0<=(wk (tz [] T) s).2.1/\(wk (tz [] T) s).2.1<=(s.length:Int):=by
 rw[axu (adF g.ok) (by omega)] at h ⊢;obtain⟨f,s1,s2,s3⟩:=FH false s;obtain⟨_,h1,h2⟩:=al6 (ahJ (adF g.ok) (w:=10) rfl) [] _ _ h s3;rw[iJ] at h2;omega
end ab0
def IL(T:List jY)(s:Str):Syntax×Int×Int:=
 bif (wk (tz [] T) s).2.2==0 then(match (Zc T s).S.whole with| .ok x _=>(x,0,0)| .er e a=>(X1,a,e)) else(X1,(wk (tz [] T) s).2.1,(wk (tz [] T) s).2.2)
theorem apA{T:List jY}(g:ab0 T)(hs:s.length<=65536):Ev (fun n=>Dz n s T) (IL T s):=by
 refine lI.ev ?_;refine lI.fn (fun n=>by simp only[Dz,kG,Jo,Cv];exact rfl) ?_;have e0:decide ((65536:Int)<(s.length:Int))=false:=jP (by omega);simp only[e0,jN]
 have hnr: ∀sc,wk (tz [] T) s=sc->Ev (fun n=>DU n s 0 (s.length:Int) (tz [] T)) (bif sc.2.2==0 then .ok ((),{tokens:=sc.1,next:=0,base:=0},()) else .pn ((),{e:=sc.2.2,at_:=IntKind.i64.wrap (0+sc.2.1)},())):=by
  intro sc hsc;refine Ev.fn (fun n=>by simp only[DU,kG,FC,yD];exact rfl) ?_;have e1:decide ((0:Int)<=0/\(0:Int)<=(s.length:Int)/\(s.length:Int)<=(s.length:Int))=true:=jO ⟨iY _,jf _,iY _⟩;simp only[e1,jM,jh,jp,Int.toNat_zero,iV];refine Ev.bind (g.axB hs) ?_
  grind [Ev.pure]
 have hnr:=hnr _ rfl;unfold IL;cases he:(wk (tz [] T) s).2.2==0 with
 |false=>
  rw[he,jN] at hnr;have hb:=g.azU hs he;rw[Int.zero_add,wrap_small (by omega) (by omega)] at hnr
  have hnp:Ev (fun n=>xn n s 0 (s.length:Int) T) (.pn ((),{e:=(wk (tz [] T) s).2.2,at_:=(wk (tz [] T) s).2.1},())):=by
   refine Ev.fn (fun n=>by simp only[xn,kG,BD,yD];exact rfl) ?_;exact Ev.bind g.apz (Ev.bind hnr Ev.pure)
  refine Ev.to hnp ?_;simp only[CJ,jN];refine Ev.tot (Ev.bind (x:=(((X1,()),((wk (tz [] T) s).2.1,()),((wk (tz [] T) s).2.2,()),()),())) ?_ Ev.pure) rfl;refine Ev.fn (fun n=>by simp only[rA,kG,Bf,mB];exact rfl) ?_;refine Ev.bind (x:=((),{e:=(wk (tz [] T) s).2.2,at_:=(wk (tz [] T) s).2.1},())) ?_ Ev.pure;refine Ev.fn (fun n=>by simp only[Jj,kG,Fg,mC];exact rfl) ?_;exact Ev.pure
 |true=>
  rw[he,jM] at hnr
  have hnp:Ev (fun n=>xn n s 0 (s.length:Int) T) (.ok ((((Zc T s).st 0 0,()),()),())):=by
   refine Ev.fn (fun n=>by simp only[xn,kG,BD,yD];exact rfl) ?_;exact Ev.bind g.apz (Ev.bind hnr Ev.pure)
  refine Ev.to hnp ?_;simp only[CJ,jM];have ht:=g.tk hs (jS.1 he);have hlen:=g.al7;exact aro (ht.aDi (by omega) ⟨iY _,by show(0:Int)<=100000;decide⟩) ht.sok ht.aBX (g.ax8 s) (fun y=>acC (tz [] T) y (by simp only[cap];omega)) (g.aBZ s)
section
variable {S:Src} {ex ta:Nat->Rs Syntax}
end
abbrev Tk:=Int×Str
variable {l:List Tk}
def Wd(s:Str):Prop:=Kj s=s.length/\s.length<=64/\ ∃c t,s=c::t/\uX c=true
def Nk(s:Str):Prop:=s≠[95]/\kws.contains s=false
def Nm(s:Str):Prop:=Wd s/\Nk s
def Vb(s:Str):Prop:=s=[95]\/(Nm s/\an9 s=false)
def vtk(s:Str):Tk:=(bif s==[95] then 2 else 0,s)
def MS(n:Nat):Str:=if h:n<10 then [iZ (48+n)] else MS (n / 10)++[iZ (48+n % 10)]
termination_by n
decreasing_by omega
def W2:List Str->Str
 |[]=>[]
 |[s]=>s
 |s::l=>s++44::32::W2 l
def al8:List (List Tk)->List Tk
 |[]=>[]
 |[s]=>s
 |s::l=>s++(2,[44])::al8 l
def adq(a:kf):Prop:=(0<=a.plus/\a.plus<=999999)/\(a.name=[]\/(Nm a.name/\an9 a.name=false))
def ZC(a:kf):Str:=bif a.name==[] then MS a.plus.toNat else bif a.plus==0 then a.name else a.name++32::43::32::MS a.plus.toNat
def atK(a:kf):List Tk:=bif a.name==[] then [(1,MS a.plus.toNat)] else bif a.plus==0 then [(0,a.name)] else [(0,a.name),(2,[43]),(1,MS a.plus.toNat)]
def W3(l:j7):Prop:=(l.hole=true/\l.lz=[])\/(l.hole=false/\l.lz≠[]/\ ∀a∈l.lz,adq a)
def lvS(l:j7):Str:=bif l.hole then [95] else bif l.lz.length==1 then W2 (l.lz.map ZC) else 109::97::120::40::(W2 (l.lz.map ZC)++[41])
def lvK(l:j7):List Tk:=bif l.hole then [(2,[95])] else bif l.lz.length==1 then al8 (l.lz.map atK) else(0,[109,97,120])::(2,[40])::(al8 (l.lz.map atK)++[(2,[41])])
def lsS(l:List j7):Str:=bif l.isEmpty then [] else 46::123::(W2 (l.map lvS)++[125])
def lsK(l:List j7):List Tk:=bif l.isEmpty then [] else(2,[46,123])::(al8 (l.map lvK)++[(2,[125])])
def exW:List Str:=[[101,120,97,99,116],[97,112,112,108,121],[99,104,97,110,103,101],[114,101,119,114,105,116,101],[114,101,119,114,105,116,101,66,97,99,107]]
def noW:List Str:=[[97,115,115,117,109,112,116,105,111,110],[99,111,110,103,114,117,101,110,99,101],[108,105,110,97,114,105,116,104],[115,107,105,112]]
def snW:List Str:=[[114,101,118,101,114,116],[105,110,100,117,99,116,105,111,110],[99,97,115,101,115],[105,110,106,101,99,116,105,111,110]]
def aum(w:Str)(ns:List Str):Prop:=
 (noW.contains w=true/\ns=[])\/(w=[105,110,116,114,111]/\ ∃v,ns=[v]/\Vb v)\/(w=[105,110,116,114,111,115]/\ns≠[]/\ ∀v∈ns,Vb v)\/
 (snW.contains w=true/\ ∃v,ns=[v]/\Nm v/\an9 v=false)\/(w=[115,105,109,112,108,105,102,121]/\ns≠[]/\ ∀v∈ns,Nm v)
def opn(n:Int):UInt8:=bif n==1 then 123 else bif n==2 then 91 else 40
def shu(n:Int):UInt8:=bif n==1 then 125 else bif n==2 then 93 else 41
inductive Sh(p:Str->Prop):Nat->List Syntax->Str->List Tk->Prop
 |nm {s:Str} {n f t:Int} {ls:List j7} (h:Wd s) (hp:p s) (hn:n=0\/n=1) (hl: ∀l∈ls,W3 l):
   Sh p 0 [.mk 0 s n [] ls [] f t] ((bif n==1 then [64] else [])++(s++lsS ls)) ((bif n==1 then [(2,[64])] else [])++(0,s)::lsK ls)
 |hole {f t:Int}:Sh p 0 [.mk 1 [] 0 [] [] [] f t] [95] [(2,[95])]
 |app {x y:Syntax} {a b:Str} {k l:List Tk} {f t:Int} (hx:Sh p 0 [x] a k) (hy:Sh p 0 [y] b l):
   Sh p 0 [.mk 2 [] 0 [] [] [x,y] f t] (40::(a++41::32::40::(b++[41]))) ((2,[40])::(k++(2,[41])::(2,[40])::(l++[(2,[41])])))
 |agB {v b:Str} {y:Syntax} {l:List Tk} {f t g:Int} (hv:Vb v) (hy:Sh p 0 [y] b l):
   Sh p 0 [.mk 3 v 0 [] [] [.mk 1 [] 0 [] [] [] g g,y] f t] (102::117::110::32::(v++32::61::62::32::b)) ((3,[102,117,110])::vtk v::(2,[61,62])::l)
 |lam {v a b:Str} {x y:Syntax} {k l:List Tk} {f t:Int} (hv:Vb v) (hx:Sh p 0 [x] a k) (hh: ¬ (x.kind=1/\x.from_=x.to)) (hy:Sh p 0 [y] b l):
   Sh p 0 [.mk 3 v 0 [] [] [x,y] f t] (102::117::110::32::40::(v++32::58::32::(a++41::32::61::62::32::b))) ((3,[102,117,110])::(2,[40])::vtk v::(2,[58])::(k++(2,[41])::(2,[61,62])::l))
 |pi0 {a b:Str} {x y:Syntax} {k l:List Tk} {f t:Int} (hx:Sh p 0 [x] a k) (hy:Sh p 0 [y] b l):
   Sh p 0 [.mk 4 [] 0 [] [] [x,y] f t] (40::40::(a++41::41::32::45::62::32::b)) ((2,[40])::(2,[40])::(k++(2,[41])::(2,[41])::(2,[45,62])::l))
 |pi {v a b:Str} {x y:Syntax} {k l:List Tk} {n f t:Int} (hv:Vb v) (hn:n=0\/n=1\/n=2) (hx:Sh p 0 [x] a k) (hy:Sh p 0 [y] b l):
   Sh p 0 [.mk 4 v n [] [] [x,y] f t] (opn n::(v++32::58::32::(a++shu n::32::45::62::32::b))) ((2,[opn n])::vtk v::(2,[58])::(k++(2,[shu n])::(2,[45,62])::l))
 |YR {v a b:Str} {x y:Syntax} {k l:List Tk} {f t:Int} (hv:Vb v) (hx:Sh p 0 [x] a k) (hy:Sh p 0 [y] b l):
   Sh p 0 [.mk 5 v 0 [] [] [x,y] f t] (83::105::103::109::97::32::40::(v++32::58::32::(a++41::44::32::b))) ((3,[83,105,103,109,97])::(2,[40])::vtk v::(2,[58])::(k++(2,[41])::(2,[44])::l))
 |pair {a b:Str} {x y:Syntax} {k l:List Tk} {f t:Int} (hx:Sh p 0 [x] a k) (hy:Sh p 0 [y] b l):
   Sh p 0 [.mk 6 [] 0 [] [] [x,y] f t] (40::(a++44::32::(b++[41]))) ((2,[40])::(k++(2,[44])::(l++[(2,[41])])))
 |ww {a:Str} {x:Syntax} {k:List Tk} {n f t:Int} (hn:n=7\/n=8) (hx:Sh p 0 [x] a k):
   Sh p 0 [.mk n [] 0 [] [] [x] f t] (40::(a++41::46::(bif n==7 then 49 else 50)::[])) ((2,[40])::(k++(2,[41])::(2,46::(bif n==7 then 49 else 50)::[])::[]))
 |agC {v b c:Str} {y z:Syntax} {l m:List Tk} {f t g:Int} (hv:Vb v) (hy:Sh p 0 [y] b l) (hz:Sh p 0 [z] c m):
   Sh p 0 [.mk 9 v 0 [] [] [.mk 1 [] 0 [] [] [] g g,y,z] f t] (108::101::116::32::(v++32::58::61::32::(b++32::105::110::32::c))) ((3,[108,101,116])::vtk v::(2,[58,61])::(l++(3,[105,110])::m))
 |Ni {v a b c:Str} {x y z:Syntax} {k l m:List Tk} {f t:Int} (hv:Vb v) (hx:Sh p 0 [x] a k) (hh: ¬ (x.kind=1/\x.from_=x.to)) (hy:Sh p 0 [y] b l) (hz:Sh p 0 [z] c m):
   Sh p 0 [.mk 9 v 0 [] [] [x,y,z] f t] (108::101::116::32::(v++32::58::32::(a++32::58::61::32::(b++32::105::110::32::c)))) ((3,[108,101,116])::vtk v::(2,[58])::(k++(2,[58,61])::(l++(3,[105,110])::m)))
 |agD {f t:Int}:Sh p 0 [.mk 10 [] 0 [] [] [] f t] [80,114,111,112] [(3,[80,114,111,112])]
 |sort {l:j7} {f t:Int} (hl:W3 l):Sh p 0 [.mk 11 [] 0 [] [l] [] f t] (84::121::112::101::32::40::(lvS l++[41])) ((3,[84,121,112,101])::(2,[40])::(lvK l++[(2,[41])]))
 |num {n f t:Int} (hn:0<=n/\n<=999999):Sh p 0 [.mk 12 [] n [] [] [] f t] (MS n.toNat) [(1,MS n.toNat)]
 |Ob {a b:Str} {x y:Syntax} {k l:List Tk} {f t:Int} (hx:Sh p 0 [x] a k) (hy:Sh p 0 [y] b l):
   Sh p 0 [.mk 13 [] 0 [] [] [x,y] f t] (40::(a++32::58::32::(b++[41]))) ((2,[40])::(k++(2,[58])::(l++[(2,[41])])))
 |by_ {a:Str} {ks:List Syntax} {k:List Tk} {f t:Int} (hk:Sh p 3 ks a k):Sh p 0 [.mk 14 [] 0 [] [] ks f t] (98::121::32::123::32::(a++[125])) ((3,[98,121])::(2,[123])::(k++[(2,[125])]))
 |agE {f t:Int}:Sh p 0 [.mk 16 [] 0 [] [] [] f t] [40,41] [(2,[40,41])]
 |ex {w a:Str} {x:Syntax} {k:List Tk} {f t:Int} (hw:exW.contains w=true) (hx:Sh p 0 [x] a k):Sh p 1 [.mk 15 w 0 [] [] [x] f t] (w++32::a) ((0,w)::k)
 |nms {w:Str} {ns:List Str} {f t:Int} (hw:aum w ns):Sh p 1 [.mk 15 w 0 ns [] [] f t] (w++ns.flatMap (32:: ·)) ((0,w)::ns.map vtk)
 |No {w a:Str} {x:Syntax} {k:List Tk} {f t:Int} (hw:w=[114,101,112,101,97,116]\/w=[97,108,108]) (hx:Sh p 1 [x] a k):Sh p 1 [.mk 15 w 0 [] [] [x] f t] (w++32::a) ((0,w)::k)
 |blk {a:Str} {ks:List Syntax} {k:List Tk} {f t:Int} (hk:Sh p 3 ks a k):Sh p 1 [.mk 15 [123] 0 [] [] ks f t] (123::32::(a++[125])) ((2,[123])::(k++[(2,[125])]))
 |foc {a:Str} {ks:List Syntax} {k:List Tk} {f t:Int} (hk:Sh p 3 ks a k):Sh p 1 [.mk 15 [102,111,99,117,115] 0 [] [] ks f t] (102::111::99::117::115::32::123::32::(a++[125])) ((0,[102,111,99,117,115])::(2,[123])::(k++[(2,[125])]))
 |up {x:Syntax} {a:Str} {k:List Tk} (hx:Sh p 1 [x] a k):Sh p 2 [x] a k
 |alt {x y:Syntax} {a b:Str} {k l:List Tk} {f t:Int} (hx:Sh p 2 [x] a k) (hy:Sh p 1 [y] b l):
   Sh p 2 [.mk 15 [60,124,62] 0 [] [] [x,y] f t] (a++32::60::124::62::32::b) (k++(2,[60,124,62])::l)
 |nil:Sh p 3 [] [] []
 |cons {x:Syntax} {xs:List Syntax} {a b:Str} {k l:List Tk} (hx:Sh p 2 [x] a k) (hy:Sh p 3 xs b l):Sh p 3 (x::xs) (a++59::32::b) (k++(2,[59])::l)
def Shx(p:Str->Prop)(n:Nat)(l:List Syntax):Prop:= ∃s k,Sh p n l s k
def CG(x:Syntax):Prop:=Shx (fun _=>True) 0 [x]
def ShT(n:Nat)(x:Syntax):Prop:=Shx (fun _=>True) n [x]
def DF{α:Type}(P:α->Prop)(r:Rs α):Prop:= ∀x j,r= .ok x j->P x
namespace DF
variable {α β:Type} {P:α->Prop} {Q:β->Prop}
theorem ok{x:α}{j:Nat}(h:P x):DF P (.ok x j):=fun y k e=>by grind
theorem er{e a:Int}:DF P (.er e a:Rs α):=fun _ _ h=>by cases h
theorem bind{r:Rs α}{f:α->Nat->Rs β}(h:DF P r)(hf: ∀x j,P x->DF Q (f x j)):DF Q (r.bind f):=by
 cases r with
 |ok x j=>exact hf x j (h x j rfl)
 |er e a=>intro x j h;cases h
theorem p9{c:Bool}{r s:Rs α}(h1:c=true->DF P r)(h2:c=false->DF P s):DF P (bif c then r else s):=by
 grind
theorem any{r:Rs α}:DF (fun _=>True) r:=fun _ _ _=>trivial
end DF
structure Src.Tkn(S:Src):Prop where
 nm: ∀i,(S.K i).1=0->Nm (S.K i).2
 num: ∀i,(S.K i).1=1->0<=X4 (S.K i).2/\X4 (S.K i).2<=999999
 np: ∀l,(∀x∈l,CG x\/x.kind=17)->(S.np l).2.2=0->CG (S.np l).1
section
variable {S:Src} (w:S.Tkn)
include w
theorem afx(i:Nat):DF Vb (S.var i):=by
 refine .p9 (fun h=> .ok ?_) fun _=> .er
 unfold Src.isVar Src.simple Src.sym Src.is at h;simp at h;exact h.elim (fun h=> .inr ⟨w.nm i h.1,h.2⟩) fun h=> .inl h.2
theorem apB: ∀(m:Nat)(out:List Str)(i:Nat),(out≠[]/\ ∀v∈out,Vb v)->DF (fun l:List Str=>l≠[]/\ ∀v∈l,Vb v) (S.Gx m out i)
 |0,out,i,h=> .p9 (fun _=> .er) fun _=> .ok h
 |m+1,out,i,h=>by
  refine .p9 (fun hc=>apB m _ _ ⟨by simp,fun v hv=> ?_⟩) fun _=> .ok h
  rcases iN.1 hv with hv|hv
  ·exact h.2 v hv
  ·rw[iQ.1 hv];exact afx w i _ (S.nx i) (by unfold Src.var;rw[hc];rfl)
theorem aun(i:Nat):DF (fun l:List Str=>l≠[]/\ ∀v∈l,Vb v) (S.vars i):=
 (afx w i).bind fun s j h=>apB w 199 [s] j ⟨by simp,fun v hv=>by grind⟩
theorem ai8(i:Nat):DF (fun s=>Nm s/\an9 s=false) (S.ML i):=by
 refine .p9 (fun h=> .ok ?_) fun _=> .er
 unfold Src.simple at h;simp at h;exact⟨w.nm i h.1,h.2⟩
theorem auo(i:Nat):DF Nm (S.name i):= .p9 (fun h=> .ok (w.nm i (jS.1 h))) fun _=> .er
theorem apC(i:Nat):DF (fun n:Int=>0<=n/\n<=999999) (S.num i):= .p9 (fun h=> .ok (w.num i (jS.1 h))) fun _=> .er
omit w in
theorem afy{α:Type}{P:α->Prop}{one:Nat->Rs (List α)}(h1: ∀i,DF (fun l:List α=>l≠[]/\ ∀x∈l,P x) (one i)): ∀(m:Nat)(out:List α)(i:Nat),(∀x∈out,P x)->DF (fun l:List α=>l≠[]/\ ∀x∈l,P x) (S.listed one m out i)
 |0,_,_,_=> .er
 |m+1,out,i,ho=>by
  refine(h1 i).bind fun l j hl=> ?_
  have ha: ∀x∈out++l,P x:=fun x hx=>(iN.1 hx).elim (ho x) (hl.2 x)
  exact .p9 (fun _=>afy h1 m _ _ ha) fun _=> .ok ⟨by simp [hl.1],ha⟩
theorem azV{out:List kf}(i:Nat)(h:out≠[]/\ ∀a∈out,adq a):DF (fun l:List kf=>l≠[]/\ ∀a∈l,adq a) (S.plus out i):=by
 refine .p9 (fun _=>(apC w _).bind fun n j hn=> .p9 (fun hc=> .ok ⟨by simp [h.1],fun a ha=> ?_⟩) fun _=> .er) fun _=> .ok h
 obtain⟨b,hb,rfl⟩:=List.mem_map.1 ha;have h1:=jQ (iW.1 hc b hb);have h2:=h.2 b hb;exact⟨⟨by have:=h2.1.1;grind,h1⟩,h2.2⟩
theorem apD: ∀(f i:Nat),DF (fun l:List kf=>l≠[]/\ ∀a∈l,adq a) (S.lz f i)
 |0,_=> .er
 |f+1,i=>by
  refine DF.bind (P:=fun l:List kf=>l≠[]/\ ∀a∈l,adq a) ?_ fun l j h=>azV w j h
  refine .p9 (fun _=>(apC w i).bind fun n j hn=> .ok ⟨by simp,fun a ha=> ?_⟩) fun _=> .p9 (fun _=>(afy (fun i=>apD f i) 200 [] _ (by simp)).bind fun l j h=>DF.any.bind fun _ k _=> .ok h) fun _=>(ai8 w i).bind fun s j hs=> .ok ⟨by simp,fun a ha=> ?_⟩
  ·rw[iQ.1 ha];exact⟨hn,.inl rfl⟩
  ·rw[iQ.1 ha];exact⟨⟨iY _,(show(0:Int)<=999999 by decide)⟩,.inr hs⟩
theorem apE(i:Nat):DF W3 (S.level i):= .p9 (fun _=> .ok (.inl ⟨rfl,rfl⟩)) fun _=>(apD w _ i).bind fun l j h=> .ok (.inr ⟨rfl,h⟩)
theorem aB0(i:Nat):DF W3 (S.one i):=by
 refine .p9 (fun _=>(apC w i).bind fun n j hn=> .ok (.inr ⟨rfl,by simp,fun a ha=> ?_⟩)) fun _=> .p9 (fun hc=> .ok (.inr ⟨rfl,by simp,fun a ha=> ?_⟩)) fun _=> .p9 (fun _=>(apE w _).bind fun l j h=>DF.any.bind fun _ k _=> .ok h) fun _=> .ok (.inl ⟨rfl,rfl⟩)
 ·rw[iQ.1 ha];exact⟨hn,.inl rfl⟩
 ·rw[iQ.1 ha];exact⟨⟨iY _,(show(0:Int)<=999999 by decide)⟩,.inr (ai8 w i _ (S.nx i) (by unfold Src.ML;rw[hc];rfl))⟩
theorem aup(i:Nat):DF (fun l:List j7=> ∀x∈l,W3 x) (S.levels i):=by
 refine .p9 (fun _=>(afy (fun i=> ?_) 200 [] _ (by simp)).bind fun l j h=>DF.any.bind fun _ k _=> .ok h.2) fun _=> .ok (by simp)
 exact(apE w i).bind fun l j h=> .ok ⟨by simp,fun x hx=>by grind⟩
end
theorem auq{Q:Bool->Prop}(q:Q true):lI (fun n=>(xl n).bind fun x=>some x) Q:=Ev.tot ahF q
theorem aB1{x0:Str}{x1:List jY}(h:(x0.length+1)+E7 jY.vI x1<=1048576):x1.length<=cap/\ ∀n∈x1,Nsm n:=by
 grind [WS,jY.vI,Nsm.of,WR]
section
variable (S S':Src) (δ:Nat)
def AtF(f f':Int):Prop:= ∃a,a+1<S.len/\f=S.F a/\f'=S'.F (a+δ)
def AtE(t t':Int):Prop:= ∃b,0<b/\b<S.len/\t=S.E b/\t'=S'.E (b+δ)
inductive Sm:Syntax->Syntax->Prop
 |mk {k:Int} {s:Str} {n:Int} {ns:List Str} {ls:List j7} {ks ks':List Syntax} {f f' t t':Int} (hl:ks.length=ks'.length) (hk: ∀(i:Nat)(h1:i<ks.length)(h2:i<ks'.length),Sm ks[i] ks'[i])
   (hf:AtF S S' δ f f'\/AtE S S' δ f f') (ht:AtE S S' δ t t') (h13:k=13->ks.length=2/\AtF S S' δ f f'):Sm (.mk k s n ns ls ks f t) (.mk k s n ns ls ks' f' t')
structure Win:Prop where
 pos:0<S.len
 K: ∀i,i+1<S.len->S'.K (i+δ)=S.K i
 aDG: ∀i,i+1=S.len->(S.K i).1=4
 stop: ∀i,i+1=S.len->(S'.K (i+δ)).1=4\/S'.K (i+δ)=(2,[41])
 len:S.len+δ<=S'.len
 isS:S'.isS=S.isS
 par:S.isS [41]=false
 inj: ∀i j,i<S.len->j<S.len->(S.F i=S.F j↔S'.F (i+δ)=S'.F (j+δ))
 np: ∀l l':List Syntax,l≠[]->l.length<=200->l.length=l'.length->(∀(i:Nat)(h1:i<l.length)(h2:i<l'.length),Sm S S' δ l[i] l'[i]/\AtF S S' δ l[i].from_ l'[i].from_)->(S.np l).2.2=0->
  (S'.np l').2.2=0/\Sm S S' δ (S.np l).1 (S'.np l').1/\AtF S S' δ (S.np l).1.from_ (S'.np l').1.from_
end
section
variable {S S':Src} {δ:Nat} {dp:Bool}
namespace Win
variable (w:Win S S' δ)
include w
end Win
end
section
variable {S S':Src} {δ:Nat} {dp:Bool}
namespace Win
variable (w:Win S S' δ) {ex ta ex' ta':Nat->Rs Syntax}
include w
end Win
end
section
variable {S S':Src} {δ:Nat} {dp:Bool}
namespace Win
variable (w:Win S S' δ) {ex ta ex' ta':Nat->Rs Syntax}
include w
end Win
end
section
variable {S S':Src} {δ:Nat}
end
abbrev Yes{R:Type}:R->Prop:=fun _=>True
def ZG:Nat:=9223372036854775807
theorem Syntax.afz {k:Syntax}(h:k∈x.kids):k.vI<x.vI:=by
 grind [WR,Syntax.at6]
theorem Syntax.lens(x:Syntax):x.kids.length<x.vI/\x.levels.length<x.vI/\x.names.length<x.vI/\ ∀l∈x.levels,l.lz.length<x.vI:=by
 have h3:=WS (bk:=fun m:Str=>m.length+1) (fun _=>Nat.le_add_left _ _) x.names
 grind [Syntax.at6,WR,j7.vI,WS,kf.vI]
def mz(x:Syntax):Syntax:=Syntax.mk x.kind x.text x.num x.names x.levels (x.kids.attach.map fun k=>mz k.1) 0 0
termination_by x.vI
decreasing_by exact Syntax.afz k.2
theorem QS(x:Syntax):mz x=Syntax.mk x.kind x.text x.num x.names x.levels (x.kids.map mz) 0 0:=by
 grind [mz,List.attach_map_val]
theorem ab1(a b:Syntax):UR (mz a) (mz b)=(a.kind==b.kind&&(a.text==b.text&&(a.num==b.num&&(UR a.names b.names&&(UR a.levels b.levels&&UR (a.kids.map mz) (b.kids.map mz)))))):=by
 grind [QS,N9]
theorem YS(a b:kf):UR a b=(a.name==b.name&&a.plus==b.plus):=by
 rw[Bool.eq_iff_iff,N9,iH];cases a;cases b;simp
theorem Ue(a b:j7):UR a b=(a.hole==b.hole&&UR a.lz b.lz):=by
 rw[Bool.eq_iff_iff,N9,iH,N9];cases a;cases b;simp
theorem MT{α β:Type}(xs:List α)(ys:List β):((xs.length:Int) !=(ys.length:Int))=(xs.length !=ys.length):=by
 grind
theorem H9(a b:List Str)(hk:a.length<ZG):Ev (fun n=>zU n a b) (UR a b):=by
 refine Ev.fn (fun n=>by simp only[zU,kG,Cj,mB];exact rfl) ?_;by_cases hl:a.length=b.length
 ·have e:((a.length:Int) !=(b.length:Int))=false:=by rw[MT,hl];simp
  simp only[e,jN];refine Ev.zH (F:=fun n m=>tT n m a b a.length 0) ?_;refine kR.same (L:=fun n m i=>tT n m a b a.length i) a b hl ?_ ?_
  ·intro i hi hj r hr;refine kR.lp (fun n m=>by simp only[EJ,tS,mB];exact rfl) ?_;simp only[hi,iT,decide_true,jM];rw[kO (by unfold ZG at hk;omega),apm];exact kR.idx hi (kR.idx hj (kR.andThen hr))
  ·refine kR.lp (fun n m=>by simp only[EJ,tS,mB];exact rfl) ?_
   grind [kR.pure]
 grind [Lw,Ev.pure]
theorem ZD(a b:List Str)(hk:a.length<ZG):Ev (fun n=>Fh n a b) (UR a b):=by
 refine Ev.fn (fun n=>by simp only[Fh,kG,Hg,mB];exact rfl) ?_;by_cases hl:a.length=b.length
 ·have e:((a.length:Int) !=(b.length:Int))=false:=by rw[MT,hl];simp
  simp only[e,jN];refine Ev.zH (F:=fun n m=>xD n m a b 0) ?_;refine kR.same (L:=fun n m i=>xD n m a b i) a b hl ?_ ?_
  ·intro i hi hj r hr;refine kR.lp (fun n m=>by simp only[JP,xC,mB];exact rfl) ?_;simp only[hi,iT,decide_true,jM];rw[kO (by unfold ZG at hk;omega),apm];exact kR.idx hi (kR.idx hj (kR.andThen hr))
  ·refine kR.lp (fun n m=>by simp only[JP,xC,mB];exact rfl) ?_
   grind [kR.pure]
 grind [Lw,Ev.pure]
theorem Nj(a b:List kf)(hk:a.length<ZG):Ev (fun n=>wT n a b) (UR a b):=by
 refine Ev.fn (fun n=>by simp only[wT,kG,zl,mB];exact rfl) ?_;by_cases hl:a.length=b.length
 ·have e:((a.length:Int) !=(b.length:Int))=false:=by rw[MT,hl];simp
  simp only[e,jN];refine Ev.zH (F:=fun n m=>rK n m a b a.length 0) ?_;refine kR.same (L:=fun n m i=>rK n m a b a.length i) a b hl ?_ ?_
  ·intro i hi hj r hr;refine kR.lp (fun n m=>by simp only[CB,rJ,mB];exact rfl) ?_;simp only[hi,iT,decide_true,jM];rw[kO (by unfold ZG at hk;omega),YS];exact kR.idx hi (kR.idx hj (kR.andThen hr))
  ·refine kR.lp (fun n m=>by simp only[CB,rJ,mB];exact rfl) ?_
   grind [kR.pure]
 grind [Lw,Ev.pure]
theorem afA(a b:j7)(hk:a.lz.length<ZG):Ev (fun n=>NP n a b) (UR a b):=by
 refine Ev.fn (fun n=>by simp only[NP,kG,OW,mB];exact rfl) ?_
 grind [Ue,Nj,Ev.pure]
theorem tF(a b:List j7)(hk:a.length<ZG)(ha: ∀l∈a,l.lz.length<ZG):Ev (fun n=>oR n a b ()) (UR a b):=by
 refine Ev.fn (fun n=>by simp only[oR,kG,qc,mB];exact rfl) ?_;by_cases hl:a.length=b.length
 ·have e:((a.length:Int) !=(b.length:Int))=false:=by rw[MT,hl];simp
  simp only[e,jN];refine Ev.zH (F:=fun n m=>mK n m b a a.length 0) ?_;refine kR.same (L:=fun n m i=>mK n m b a a.length i) a b hl ?_ ?_
  ·intro i hi hj r hr;refine kR.lp (fun n m=>by simp only[sH,mJ,mB];exact rfl) ?_;simp only[hi,iT,decide_true,jM];rw[kO (by unfold ZG at hk;omega)];exact kR.idx hi (kR.idx hj (kR.lQ (afA _ _ (ha _ (iI hi))) (kR.andThen hr)))
  ·refine kR.lp (fun n m=>by simp only[sH,mJ,mB];exact rfl) ?_
   grind [kR.pure]
 grind [Lw,Ev.pure]
theorem Fm{F:Nat->Option Bool}{c r:Bool}(h:c=true->Ev F r):Ev (fun n=>bif c then F n else some false) (c&&r):=by
 cases c with
 |true=>exact h rfl
 |false=>exact Ev.pure
theorem al9{F:Nat->Option Bool}{c r:Bool}(h:c=true->Ev F r):Ev (fun n=>bif !c then some false else F n) (c&&r):=by
 cases c with
 |true=>exact h rfl
 |false=>exact Ev.pure
theorem apF: ∀(a b:Syntax),a.vI<ZG->Ev (fun n=>s7 n a b) (UR (mz a) (mz b)):=by
 intro a;induction h:a.vI using iO generalizing a with
 |ind k ih=>
  intro b hk;obtain⟨l1,l2,l3,l4⟩:=a.lens
  have kids:Ev (fun n=>lm n a.kids b.kids ()) (UR (a.kids.map mz) (b.kids.map mz)):=by
   refine Ev.fn (fun n=>by simp only[vX,nW,vA,mB];exact rfl) ?_;by_cases hl:a.kids.length=b.kids.length
   ·have e:((a.kids.length:Int) !=(b.kids.length:Int))=false:=by rw[MT,hl];simp
    simp only[e,jN];refine Ev.zH (F:=fun n m=>lY (oa n) n m b.kids a.kids a.kids.length 0) ?_;refine kR.same (L:=fun n m i=>lY (oa n) n m b.kids a.kids a.kids.length i) (a.kids.map mz) (b.kids.map mz) (by simpa using hl) ?_ ?_
    ·intro i hi hj r hr;rw[jb] at hi hj;refine kR.lp (fun n m=>by simp only[oS,lX,vA,mB];exact rfl) ?_;simp only[hi,iT,decide_true,jM,jt];rw[kO (by unfold ZG at hk;omega)];have hm:=Syntax.afz (iI hi);exact kR.idx hi (kR.idx hj (kR.lQ (ih _ (by omega) _ rfl _ (by omega)) (kR.andThen hr)))
    ·rw[jb];refine kR.lp (fun n m=>by simp only[oS,lX,vA,mB];exact rfl) ?_
     grind [kR.pure]
   grind [Lw,Ev.pure]
  refine Ev.fn (fun n=>by simp only[Yy,ET,vA,mB];exact rfl) ?_;rw[ab1];refine Fm fun _=>Fm fun _=>Fm fun _=>Ev.bind (H9 _ _ (by omega)) (Fm fun _=>Ev.bind (tF _ _ (by omega) (fun l hl=>by have:=l4 l hl;omega)) (Fm fun _=>Ev.bind kids Ev.pure))
theorem aur: ∀(a b:Syntax),a.vI<ZG->Ev (fun n=>qZ n a b true) (UR (mz a) (mz b)):=by
 intro a;induction h:a.vI using iO generalizing a with
 |ind k ih=>
  intro b hk;obtain⟨l1,l2,l3,l4⟩:=a.lens
  have kids:a.kids.length=b.kids.length->Ev (fun n=>AE (qZ n) n n true 0 a b) (UR (a.kids.map mz) (b.kids.map mz)):=by
   intro hl;refine Ev.zH (F:=fun n m=>AE (qZ n) n m true 0 a b) ?_;refine kR.same (L:=fun n m i=>AE (qZ n) n m true i a b) (a.kids.map mz) (b.kids.map mz) (by simpa using hl) ?_ ?_
   ·intro i hi hj r hr;rw[jb] at hi hj;refine kR.lp (fun n m=>by simp only[P5,Dd,mB];exact rfl) ?_;simp only[hi,iT,decide_true,jM,jt];rw[kO (by unfold ZG at hk;omega)];have hm:=Syntax.afz (iI hi);exact kR.idx hi (kR.idx hj (kR.lQ (ih _ (by omega) _ rfl _ (by omega)) (kR.andThen hr)))
   ·rw[jb];refine kR.lp (fun n m=>by simp only[P5,Dd,mB];exact rfl) ?_
    grind [kR.pure]
  have lz: ∀(x y:j7)(hxy:x.lz.length=y.lz.length)(hx:x.lz.length<ZG)(i:Nat)(hi:i<ZG)(r:Bool),kR (fun n m=>vo (qZ n) n m true ((i+1:Nat):Int) a b) r->
   ∀(d j:Nat),d+j=x.lz.length-> ∃N,∀n m q,N<=n->N<=m->N<=q->Hu (qZ n) n (vo (qZ n) n m) q true i j a b x y=some (UR (x.lz.drop j) (y.lz.drop j)&&r):=by
   intro x y hxy hx i hi r hr d;have hw:IntKind.i64.wrap ((i:Int)+1)=((i+1:Nat):Int):=kO (by unfold ZG at hi;omega);induction d with
   |zero=>
    intro j hj;obtain rfl:j=x.lz.length:=by omega
    obtain⟨N,hN⟩:=hr;refine⟨N+1,fun n m q hn hm hq=> ?_⟩;obtain⟨q,rfl⟩: ∃z,q=z+1:=⟨q-1,by omega⟩;rw[iX,hxy,iX,WL,ja,<-hxy];simp only[P6,De,jz,decide_false,jN,hw,mB];exact hN n m (by omega) (by omega)
   |succ d ih2=>
    intro j hj;have h1:j<x.lz.length:=by omega
    have h2:j<y.lz.length:=by omega
    have hwj:IntKind.i64.wrap ((j:Int)+1)=((j+1:Nat):Int):=kO (by unfold ZG at hx;omega);obtain⟨N,hN⟩:=ih2 (j+1) (by omega);rw[iE h1,iE h2,afc,YS];refine⟨N+1,fun n m q hn hm hq=> ?_⟩;obtain⟨q,rfl⟩: ∃z,q=z+1:=⟨q-1,by omega⟩;have:=hN n m q (by omega) (by omega) (by omega);simp only[P6,De,h1,iT,decide_true,jM,qi h1,qi h2,iC,hwj,this,mB]
    grind
  have levels:a.kids.length=b.kids.length->a.levels.length=b.levels.length->Ev (fun n=>vo (qZ n) n n true 0 a b) (UR a.levels b.levels&&UR (a.kids.map mz) (b.kids.map mz)):=by
   intro hlk hl;refine Ev.zH (F:=fun n m=>vo (qZ n) n m true 0 a b) ?_
   have key: ∀(d i:Nat),d+i=a.levels.length->kR (fun n m=>vo (qZ n) n m true (i:Int) a b) (UR (a.levels.drop i) (b.levels.drop i)&&UR (a.kids.map mz) (b.kids.map mz)):=by
    intro d;induction d with
    |zero=>
     intro i hi;obtain rfl:i=a.levels.length:=by omega
     rw[iX,hl,iX,WL,ja,<-hl];refine kR.lp (fun n m=>by simp only[P7,Df];exact rfl) ?_
     grind [kR.Xr]
    |succ d ih2=>
     intro i hi;have h1:i<a.levels.length:=by omega
     have h2:i<b.levels.length:=by omega
     have hx:=l4 _ (iI h1);rw[iE h1,iE h2,afc,Ue];refine kR.lp (fun n m=>by simp only[P7,Df];exact rfl) ?_;simp only[h1,iT,decide_true,jM];refine kR.idx h1 (kR.idx h2 ?_);cases a.levels[i].hole==b.levels[i].hole with
     |false=>grind [kR.pure]
     |true=>
      simp only[jM,ja];by_cases hat:a.levels[i].lz.length=b.levels[i].lz.length
      ·have e:((a.levels[i].lz.length:Int) !=(b.levels[i].lz.length:Int))=false:=by rw[MT,hat];simp
       simp only[e,jN];obtain⟨N,hN⟩:=lz _ _ hat (by omega) i (by omega) _ (ih2 (i+1) (by omega)) a.levels[i].lz.length 0 (by omega);refine⟨N,fun n m hn hm=> ?_⟩
       grind
      ·have e:((a.levels[i].lz.length:Int) !=(b.levels[i].lz.length:Int))=true:=by rw[MT];simpa using hat
       simp only[e,jM];rw[Lw hat]
       grind [kR.pure]
   have:=key a.levels.length 0 (by omega)
   grind
  refine Ev.fn (fun n=>by simp only[qZ,kG,OX,mB];exact rfl) ?_;rw[ab1];refine al9 fun _=>Fm fun _=>al9 fun _=>Ev.bind (ZD _ _ (by omega)) (Fm fun _=> ?_)
  by_cases hl:a.levels.length=b.levels.length
  ·have e:((a.levels.length:Int) !=(b.levels.length:Int))=false:=by rw[MT,hl];simp
   simp only[e,jN];by_cases hk2:a.kids.length=b.kids.length
   ·grind
   ·have e2:((a.kids.length:Int) !=(b.kids.length:Int))=true:=by rw[MT];simpa using hk2
    grind [Lw,Ev.pure]
  ·have e:((a.levels.length:Int) !=(b.levels.length:Int))=true:=by rw[MT];simpa using hl
   grind [Lw,Ev.pure]
theorem ahM: ∀(a:Syntax)(k:Int),a.vI<ZG->lI (fun n=>qX n a k) Yes:=by
 intro a;induction h:a.vI using iO generalizing a with
 |ind q ih=>
  intro k hk;obtain⟨l1,l2,l3,l4⟩:=a.lens;refine lI.fn (fun n=>by simp only[qX,kG,Jk,mB];exact rfl) ?_;refine lI.zH (F:=fun n m=>xB (qX n) n m (IntKind.i64.wrap (k-1)) 0 a) ?_;refine lg.up (S:=Int) (L:=fun n m i s=>xB (qX n) n m s i a) a.kids.length (fun _ _=>True) Yes ?_ ?_ 0 _ (by omega) trivial
  ·intro i s hi _ next
   refine lg.lp (fun n m=>by simp only[DP,xA,mB];exact rfl) ?_;simp only[hi,iT,decide_true,jM];refine lg.p9 (fun _=> ?_) (fun _=>lg.pure trivial);refine lg.idx hi ?_;have hm:=Syntax.afz (iI hi);refine lg.lQ (ih _ (by omega) _ rfl _ (by omega)) fun x _=> ?_
   rw[kO (by unfold ZG at hk;omega)];exact next _ trivial
  ·intro s _;refine lg.lp (fun n m=>by simp only[DP,xA,mB];exact rfl) ?_;simp only[jz,decide_false,jN];exact lg.pure trivial
theorem Rg.ind{P:Syntax->Prop}(h: ∀x,Rg x->(∀y∈x.kids,P y)->P x)(hx:Rg x):P x:=by
 induction hx with
 |mk h1 h2 h3 h4 h5 h6 h7 h8 ih=>exact h _ (.mk h1 h2 h3 h4 h5 h6 h7 h8) ih
theorem Rg.lens(h:Rg x):x.kids.length<ZG/\x.levels.length<ZG/\x.names.length<ZG/\ ∀l∈x.levels,l.lz.length<ZG:=by
 cases h;rename_i h1 h2 h3 h4 h5 h6 h7 h8;have e:ZG=9223372036854775807:=rfl;refine⟨jg h4 (by decide),jg h2 (by decide),jg h1 (by decide),fun l hl=> ?_⟩;exact jg (h3 l hl) (by decide)
theorem aus{a:Syntax}(h:Rg a): ∀b:Syntax,Ev (fun n=>s7 n a b) (UR (mz a) (mz b)):=by
 refine Rg.ind (P:=fun a=> ∀b:Syntax,Ev (fun n=>s7 n a b) (UR (mz a) (mz b))) ?_ h;intro a ha ih b;obtain⟨l1,l2,l3,l4⟩:=ha.lens
 have kids:Ev (fun n=>lm n a.kids b.kids ()) (UR (a.kids.map mz) (b.kids.map mz)):=by
  refine Ev.fn (fun n=>by simp only[vX,nW,vA,mB];exact rfl) ?_;by_cases hl:a.kids.length=b.kids.length
  ·have e:((a.kids.length:Int) !=(b.kids.length:Int))=false:=by rw[MT,hl];simp
   simp only[e,jN];refine Ev.zH (F:=fun n m=>lY (oa n) n m b.kids a.kids a.kids.length 0) ?_;refine kR.same (L:=fun n m i=>lY (oa n) n m b.kids a.kids a.kids.length i) (a.kids.map mz) (b.kids.map mz) (by simpa using hl) ?_ ?_
   ·intro i hi hj r hr;rw[jb] at hi hj;refine kR.lp (fun n m=>by simp only[oS,lX,vA,mB];exact rfl) ?_;simp only[hi,iT,decide_true,jM,jt];rw[kO (by unfold ZG at l1;omega)];exact kR.idx hi (kR.idx hj (kR.lQ (ih _ (iI hi) _) (kR.andThen hr)))
   ·rw[jb];refine kR.lp (fun n m=>by simp only[oS,lX,vA,mB];exact rfl) ?_
    grind [kR.pure]
  grind [Lw,Ev.pure]
 refine Ev.fn (fun n=>by simp only[Yy,ET,vA,mB];exact rfl) ?_;rw[ab1];refine Fm fun _=>Fm fun _=>Fm fun _=>Ev.bind (H9 _ _ l3) (Fm fun _=>Ev.bind (tF _ _ l2 l4) (Fm fun _=>Ev.bind kids Ev.pure))
section
variable {T:List jY} (g:ab0 T)
include g
end
section
variable {T:List jY} (g:ab0 T)
include g
theorem ary(hs:s.length<=65536)(h:(IL T s).2.2=0): ∃x j,(wk (tz [] T) s).2.2=0/\(Zc T s).S.u0 200 0= .ok x j/\j<(Zc T s).T.length/\((Zc T s).S.K j).1=4/\IL T s=(x,0,0)/\Rg x:=by
 unfold IL at h ⊢;cases he:(wk (tz [] T) s).2.2==0 with
 |false=>
  grind
 |true=>
  rw[he] at h;have h0:=jS.1 he;have ht:=g.tk hs h0;have hw:=ht.sok.whole ht.aBX (g.ax8 s) (by show(Zc T s).T.length<=100000;have:=ht.le;omega) ht.pos;unfold Src.whole at hw h ⊢;cases hq:(Zc T s).S.u0 200 0 with
  |er e a=>
   rw[hq] at hw h;exact absurd h hw.1
  |ok x j=>
   rw[hq] at hw h;simp only[Rs.bind] at hw h ⊢;cases h4:((Zc T s).S.K j).1==4 with
   |false=>
    rw[h4] at hw h;exact absurd h hw.1
   |true=>
    rw[h4] at hw;obtain⟨k1,_,_,k4⟩:=hw;exact⟨x,j,h0,rfl,k4,jS.1 h4,rfl,k1⟩
omit g in
theorem aut{j:Nat}(h0:(wk (tz [] T) s).2.2=0)(hx:(Zc T s).S.u0 200 0= .ok x j)(h4:((Zc T s).S.K j).1=4):IL T s=(x,0,0):=by
 unfold IL;rw[show((wk (tz [] T) s).2.2==0)=true from jS.2 h0,jM];unfold Src.whole;rw[hx];simp only[Rs.bind,h4,beq_self_eq_true,jM]
omit g in
end
section
variable {S:Src} {ex ta:Nat->Rs Syntax}
structure Stop(S:Src)(q:Nat):Prop where
 s1:S.sym [46,49] q=false
 s2:S.sym [46,50] q=false
 b:S.DA q=false
 s:S.II q=false
theorem Stop.sym{q:Nat}{y:Str}(h:S.K q=(2,y))(hy:([46,49]::[46,50]::[40]::[40,41]::[95]::[64]::[]:List Str).contains y=false)(hs:S.isS y=false):Stop S q:=by
 simp only[List.contains_cons,List.contains_nil,jA,Bool.or_eq_false_iff,jT,ne_eq] at hy;obtain⟨h1,h2,h3,h4,h5,h6⟩:=hy;constructor<;>simp [Src.DA,Src.II,Src.sym,Src.key,Src.is,h,hs,h1,h2,h3,h4,h5,h6]
theorem Stop.Gy(h:Stop S q)(x:Syntax): ∀m,S.Gy m x q= .ok x q
 |0=>by unfold Src.Gy;rw[h.s1,h.s2];rfl
 |m+1=>by unfold Src.Gy;rw[h.s1,h.s2];rfl
theorem Stop.US(h:Stop S q)(x:Syntax): ∀m,S.US ex ta m x q= .ok x q
 |0=>by unfold Src.US;rw[h.b];rfl
 |m+1=>by unfold Src.US;rw[h.b];rfl
theorem Stop.zC(h:Stop S q)(l:List Syntax): ∀m,S.zC ex ta m l q= .ok l q
 |0=>by unfold Src.zC;rw[h.b,h.s];rfl
 |m+1=>by unfold Src.zC;rw[h.b,h.s];rfl
theorem aoz{i:Nat}{y z:Str}(h:S.K i=(2,y)):S.sym z i=(y==z):=by simp [Src.sym,Src.is,h]
theorem auu{i:Nat}{e a:Int}(h:S.op ex ta i= .er e a):S.Oa ex ta i= .er e a:=by
 unfold Src.Oa;rw[h];rfl
end
section
variable {T:List jY} (g:ab0 T)
include g
end
section
variable {T:List jY} (g:ab0 T)
include g
omit g in
theorem auv{e a:Int}(h0:(wk (tz [] T) s).2.2=0)(hx:(Zc T s).S.u0 200 0= .er e a):IL T s=(X1,a,e):=by
 unfold IL;rw[show((wk (tz [] T) s).2.2==0)=true from jS.2 h0,jM];unfold Src.whole;rw[hx];rfl
end
theorem auw{T:Str->Int×Nat×Int}: ∀(r:Str)(a:Nat),(H7 T r a).2.2=0->H7 T r a=((H7 T r a).1,0,0)
 |[],a,_=>by rw[H7]
 |c::t,a,h=>by
  grind [H7]
theorem arz(hs:ld.all I8=true)(t:Str):qn ld (45::62::32::t)=(2,2,0):=by
 have hv:y8 (45::62::32::t) 0 (pL++ld)=2:=by
  obtain⟨a1,_,a3⟩:=BI (45::62::32::t) (pL++ld) 0;have hge:2<=y8 (45::62::32::t) 0 (pL++ld):=a3 [45,62] (jy _ (by decide)) rfl;rcases a1 with a1|⟨_,b2,b3⟩
  ·omega
  ·revert hge b2 b3;generalize y8 (45::62::32::t) 0 (pL++ld)=v;intro hge b2 b3;rcases je v 3 with h|h
   ·omega
   ·obtain⟨v,rfl⟩: ∃k,v=k+3:=⟨v-3,by omega⟩;have:=(ahJ hs (w:=32) rfl).2.2 _ b3
    grind
 rw[qn,show uX 45=false from rfl,show qH 45=false from rfl]
 grind [ZB]
theorem arA(hs:ld.all I8=true){L:List kI}(hL:ZF ld t (a+3)=(L,0,0)):ZF ld (45::62::32::t) a=(⟨2,[45,62],(a:Int)⟩::L,0,0):=by
 have h2:ZF ld (32::t) (a+2)=(L,0,0):=by rw[ahK rfl];exact hL
 unfold ZF at h2;rw[afw rfl,H7,arz hs]
 grind
section
variable {S:Src} {ex ta:Nat->Rs Syntax}
theorem arB{i j k:Nat}(h:S.op ex ta i= .ok x j)(hj:S.K j=(2,[45,62]))(hn:S.nx j=j+1)(hy:ex (j+1)= .ok y k)(h1:S.K (i+1)=(2,[40])):S.Oa ex ta i= .ok (.mk 4 [] 0 [] [] [x,y] x.from_ y.to) k:=by
 have hw:(S.written i).isEmpty=true:=by
  unfold Src.written;cases S.sym [40] i with
  |false=>rfl
  |true=>
   cases S.len-(i+1) with
   |zero=>rfl
   |succ m=>
    grind [Src.isVar,Src.simple,Src.wr,aoz]
 unfold Src.Oa;rw[h];simp [Rs.bind,aoz hj,hn,hy,hw];rfl
theorem auy{i j:Nat}{e a:Int}(h:S.op ex ta i= .ok x j)(hj:S.K j=(2,[45,62]))(hn:S.nx j=j+1)(hy:ex (j+1)= .er e a):S.Oa ex ta i= .er e a:=by
 grind [Src.Oa,Rs.bind,aoz]
end
section
variable {T:List jY} (g:ab0 T)
include g
end
def GB(r:Str)(l:List Tk):Prop:=(ZF [] r 0).2.2=0/\(ZF [] r 0).1.map KH=l
theorem GB.nil:GB [] [(4,[])]:=by unfold GB;rw[axx];exact⟨rfl,rfl⟩
theorem GB.at_(h:GB r l)(a:Nat): ∃L,ZF [] r a=(L,0,0)/\L.map KH=l:=by
 have h1:=arx (ld:=[]) r a 0;exact⟨_,auw _ _ (h1.2.trans h.1),h1.1.trans h.2⟩
theorem GB.of{L:List kI}(h:ZF [] r 0=(L,0,0))(hl:L.map KH=l):GB r l:=by grind [GB]
theorem GB.p8(h:GB r l):GB (32::r) l:=by
 obtain⟨L,h1,h2⟩:=h.at_ 1;exact .of (by rw[ahK rfl];exact h1) h2
theorem GB.tok{k:Int}(hs:s≠[])(hst:H8 (s++r)=true)(ht:qn [] (s++r)=(k,s.length,0))(h:GB r l):GB (s++r) ((k,s)::l):=by
 match s,hs with
 |c::t,_=>
  obtain⟨L,h1,h2⟩:=h.at_ (0+(t.length+1));unfold ZF at h1;refine .of (L:=⟨k,c::t,0⟩::L) ?_ (by rw[jn,h2];rfl)
  simp_all [afw,H7]
theorem axC(h:(uX c=false/\qH c=false)/\(c==34)=false)(h1:c::t∈pL)(h2: ∀y∈pL,(c::(t++r)).take y.length=y->y.length<=t.length+1):qn [] (c::(t++r))=(2,t.length+1,0):=by
 have hv:y8 (c::(t++r)) 0 (pL++[])=t.length+1:=by
  obtain⟨a1,_,a3⟩:=BI (c::(t++r)) pL 0;have hge:=a3 (c::t) h1 (by grind);rcases a1 with a1|⟨_,b2,b3⟩
  all_goals grind
 grind [qn,ZB]
theorem GB.sy(h:(uX c=false/\qH c=false)/\(c==34)=false)(h1:c::t∈pL)(hst:H8 (c::(t++r))=true)(h2: ∀y∈pL,(c::(t++r)).take y.length=y->y.length<=t.length+1)(hr:GB r l):GB (c::(t++r)) ((2,c::t)::l):=
 GB.tok (s:=c::t) (by simp) hst (axC h h1 h2) hr
def mxB(s:Str):Bool:=match s with
 |[]=>false
 |c::t=>(!uX c&&(!qH c&&(!(c==34)&&(!whB c&& !(c==45)))))&&(pL.contains (c::t)&&pL.all fun y=> !(y.head?==some c)||decide (y.length<=t.length+1))
theorem GB.mx(h:mxB s=true)(hr:GB r l):GB (s++r) ((2,s)::l):=by
 match s,h with
 |c::t,h=>
  simp only[mxB,iH,jo,iP] at h;obtain⟨⟨h1,h2,h3,h4,h5⟩,h6,h7⟩:=h;refine GB.sy ⟨⟨h1,h2⟩,h3⟩ h6 (by simp [H8,h4,h5]) (fun y hy he=> ?_) hr
  match y,he with
  |[],_=>exact iM _
  |d::u,he=>
   grind
theorem GB.fx {d:UInt8}(h:((((uX c=false/\qH c=false)/\(c==34)=false)/\whB c=false)/\(c==45)=false)/\c::t∈pL)(h2:(pL.all fun y=> !(y.take (t.length+2)==c::(t++[d])))=true)(hr:GB (d::r) l):GB (c::(t++d::r)) ((2,c::t)::l):=by
 obtain⟨⟨⟨h0,h3⟩,h4⟩,h1⟩:=h;refine GB.sy h0 h1 (by simp [H8,h3,h4]) (fun y hy he=> ?_) hr
 grind
theorem GB.opn(h:r.head?≠some 41)(hr:GB r l):GB (40::r) ((2,[40])::l):=by
 obtain⟨L,h1,h2⟩:=hr.at_ (0+1);exact .of (aul (ld:=[]) rfl h h1) (by rw[jn,h2];rfl)
theorem GB.arr(hr:GB r l):GB (45::62::32::r) ((2,[45,62])::l):=by
 obtain⟨L,h1,h2⟩:=hr.at_ (0+3);exact .of (arA (ld:=[]) rfl h1) (by rw[jn,h2];rfl)
def Fo(r:Str):Prop:= ∀c t,r=c::t->Cr c=false/\(c=46->t.head?=some 123)
theorem Fo.nil:Fo []:=fun _ _ h=>by cases h
theorem Fo.cons{c:UInt8}{t:Str}(h:Cr c=false)(h2:(c==46)=false):Fo (c::t):=fun d u e=>by
 grind
theorem W4{p:UInt8->Bool}{r:Str}(hr: ∀c t,r=c::t->p c=false): ∀s:Str,runT p (s++r)=runT p s
 |[]=>by
  match r,hr with
  |[],_=>rfl
  |c::t,hr=>rw[iR,pK,hr c t rfl];rfl
 |x::s=>by rw[iK,pK,pK,W4 hr s]
theorem axD(hr:Fo r): ∀(n:Nat)(s:Str),s.length<=n->Kj s=s.length->Kj (s++r)=s.length:=by
 intro n;induction n with
 |zero=>
  intro s hs h;obtain rfl:s=[]:=List.eq_nil_of_length_eq_zero (by omega);rw[iR,AO]
  have hc:sC r=0:=by
   have:=W4 (p:=Cr) (fun c t e=>(hr c t e).1) [];exact this
  rw[hc,iV];unfold tlT;split
  ·rename_i d c t;cases hd:d==46 with
   |false=>rfl
   |true=>
    have:=(hr d (c::t) rfl).2 (jS.1 hd);obtain rfl:c=123:=by simpa using this
    rfl
  ·rfl
 |succ n ih=>
  intro s hs h;have hle:=aaY s;rw[AO] at h;rw[AO,show sC (s++r)=sC s from W4 (fun c t e=>(hr c t e).1) s,iU hle];rcases je (sC s) s.length with hlt|hge
  ·revert h;generalize hd:s.drop (sC s)=u;have hl:=congrArg List.length hd;rw[iJ] at hl;intro h
   match u,hl,h with
   |[],hl,h=>rw[iF] at hl;omega
   |[d],hl,h=>exact absurd h (by show ¬ sC s+0=_;omega)
   |d::c::t,hl,h=>
    show sC s+tlT (d::c::(t++r))=_;rw[tlT] at h ⊢;cases hb:d==46&&uX c with
    |false=>grind
    |true=>
     rw[hb,jM] at h;rw[iB] at hl;have h3:=ih (c::t) (by omega) (by omega)
     grind
  ·have hc:sC s=s.length:=by omega
   have:=ih [] (iM _) (by rw[AO];rfl);rw[iR,AO,show sC r=0 from W4 (p:=Cr) (fun c t e=>(hr c t e).1) []] at this
   grind
theorem GB.word{k:Int}(h:Wd s)(hr:Fo r)(hk:k=bif s==[95] then 2 else bif kws.contains s then 3 else 0)(hl:GB r l):GB (s++r) ((k,s)::l):=by
 obtain⟨h1,h2,c,t,rfl,hc⟩:=h;have hn:=axD hr _ (c::t) (iS _) h1;rw[iK] at hn
 have hst:H8 (c::t++r)=true:=by
  have: ∀c:UInt8,uX c=true->whB c=false/\(c==45)=false:=by
   intro c h;constructor
   ·cases hw:whB c with
    |false=>rfl
    |true=>have:=(acG c hw).1;grind [Cr]
   ·cases h4:c==45 with
    |false=>rfl
    |true=>rw[jS.1 h4] at h;cases h
  grind [H8]
 refine GB.tok (by simp) hst ?_ hl;have et:(c::(t++r)).take (Kj (c::(t++r)))=c::t:=by grind
 rw[iK,qn,hc];unfold QR;rw[et,hn,jP (by omega),hk];cases c::t==[95]<;>cases kws.contains (c::t)<;>rfl
theorem GB.nm{s r:Str}{l:List Tk}(h:Nm s)(hr:Fo r)(hl:GB r l):GB (s++r) ((0,s)::l):= .word h.1 hr (by rw[h.2.2,jT.2 h.2.1];rfl) hl
theorem Wd.ud:Wd [95]:=⟨by rw[AO];rfl,by decide,_,_,rfl,rfl⟩
theorem GB.vb(h:Vb s)(hr:Fo r)(hl:GB r l):GB (s++r) (vtk s::l):=by
 rcases h with rfl|⟨h,_⟩
 all_goals grind [word,Wd.ud,GB.nm,vtk]
theorem GB.key(h:(s.all Cr&&decide (s.length<=64)&&(uX (s.headD 0)&&kws.contains s))=true)(hr:Fo r)(hl:GB r l):GB (s++r) ((3,s)::l):=by
 simp only[iH,jR] at h;obtain⟨⟨h1,h2⟩,h3,h4⟩:=h
 have h95:(s==[95])=false:=by
  cases h:s==[95] with
  |false=>rfl
  |true=>rw[jS.1 h] at h4;cases h4
 match s,h3 with
 |c::t,h3=>
  have hc:sC (c::t)=(c::t).length:=by
   have:=WO Cr (c::t);rw[h1] at this;exact jS.1 this
  exact .word ⟨by rw[AO,hc,iX];rfl,h2,_,_,rfl,h3⟩ hr (by rw[h95,h4];rfl) hl
theorem adG(h:n<10):(iZ (48+n)).toNat=48+n:=by
 rw[UInt8.toNat_ofNat'];omega
theorem Jd: ∀n:Nat,(MS n).all qH=true/\X4 (MS n)=(n:Int)/\(∀k,n<10 ^ (k+1)->(MS n).length<=k+1)/\ ∃c t,MS n=c::t/\(c=48->n=0/\t=[]):=by
 intro n;induction n using iO with
 |ind n ih=>
  have dg: ∀{m:Nat},m<10->qH (iZ (48+m))=true:=fun h=>by
   grind [qH,adG]
  rcases je n 10 with h|h
  ·have e:MS n=[iZ (48+n)]:=by rw[MS,dif_pos h]
   rw[e];refine⟨by rw[jm,dg h];rfl,?_,fun k _=>by simp,_,_,rfl,fun e=>⟨?_,rfl⟩⟩
   ·show 10*(0:Int)+(((iZ (48+n)).toNat:Int)-48)=n;rw[adG h];omega
   ·have:=congrArg UInt8.toNat e
    grind [adG]
  ·have e:MS n=MS (n / 10)++[iZ (48+n % 10)]:=by rw[MS,dif_neg (by omega)]
   obtain⟨h1,h2,h3,c,t,h4,h5⟩:=ih (n / 10) (by omega);rw[e];refine⟨by grind,?_,fun k hk=> ?_,c,t++[iZ (48+n % 10)],by rw[h4];rfl,fun e=> ?_⟩
   ·grind [X4,adG]
   ·match k with
    |0=>omega
    |k+1=>
     have:=h3 k (by omega)
     grind
   ·have:=(h5 e).1;omega
theorem GB.num{n:Nat}{r:Str}{l:List Tk}(hn:n<=999999)(hr:Fo r)(hl:GB r l):GB (MS n++r) ((1,MS n)::l):=by
 obtain⟨h1,_,h3,c,t,h4,h5⟩:=Jd n;have h6:=h3 5 (by omega);revert h1 h6;rw[h4];intro h1 h6;have hd:qH c=true:=by grind
 have hc: ∀c:UInt8,qH c=true->uX c=false/\(whB c=false/\(c==45)=false):=by
  intro c h;unfold qH at h;rw[iH,jR,jR] at h
  have hne: ∀d:UInt8,(d.toNat<48\/57<d.toNat)->(c==d)=false:=fun d hd=>by
   grind
  refine⟨?_,?_,hne 45 (.inl (by decide))⟩
  ·unfold uX aq6;rw[hne 95 (.inr (by decide)),jP (by omega),jP (p:=65<=c.toNat) (by omega)];rfl
  simp_all [whB]
 obtain⟨b1,b2,b3⟩:=hc c hd;refine GB.tok (by simp) (by simp [H8,b2,b3]) ?_ hl
 have hrun:runT qH (c::(t++r))=(c::t).length:=by
  have e:=W4 (p:=qH) (r:=r) (fun c t e=>by
   have:=(hr c t e).1
   grind [Cr]) (c::t)
  grind [WO]
 rw[iK,qn,b1,hd];unfold UT;rw[hrun,jP (by omega)]
 have e1:(decide (1<(c::t).length)&&(c::(t++r)).head?==some 48)=false:=by
  grind
 have e2:(c::(t++r)).drop (c::t).length=r:=by grind
 rw[e1,e2]
 match r,hr with
 |[],_=>rfl
 |d::u,hr=>
  have h:=(hr d u rfl).1
  grind [Cr]
def TF(s:Str)(k:List Tk):Prop:= ∀r l,Fo r->GB r l->GB (s++r) (k++l)
theorem TF.at_{a:kf}(h:adq a):TF (ZC a) (atK a):=by
 intro r l hr hl;obtain⟨⟨h1,h2⟩,h3⟩:=h;have hn:a.plus.toNat<=999999:=by omega
 unfold ZC atK;cases h0:a.name==[] with
 |true=>exact .num hn hr hl
 |false=>
  have h3:=h3.resolve_left (jT.1 h0);cases a.plus==0 with
  |true=>exact .nm h3.1 hr hl
  |false=>
   simp;exact .nm h3.1 (.cons rfl rfl) (.p8 (.mx (s:=[43]) rfl (.p8 (.num hn hr hl))))
theorem TF.sep{α:Type}{f:α->Str}{g:α->List Tk}: ∀{xs:List α},xs≠[]->(∀x∈xs,TF (f x) (g x))->TF (W2 (xs.map f)) (al8 (xs.map g))
 |[x],_,h=>h x (by simp)
 |x::y::xs,_,h=>by
  intro r l hr hl;have ih:=TF.sep (xs:=y::xs) (by simp) (fun z hz=>h z (by simp [hz])) _ _ hr hl;show GB ((f x++44::32::W2 ((y::xs).map f))++r) ((g x++(2,[44])::al8 ((y::xs).map g))++l);simp;exact h x (by simp) _ _ (.cons rfl rfl) (.mx (s:=[44]) rfl (.p8 ih))
theorem Wd.hd(h:Wd s)(r:Str):(s++r).head?≠some 41:=by
 obtain⟨_,_,c,t,rfl,hc⟩:=h;intro e;rw[Option.some.inj e] at hc;cases hc
theorem auz(n:Nat)(r:Str):(MS n++r).head?≠some 41:=by
 obtain⟨k1,_,_,c,t,k4,_⟩:=Jd n;rw[k4] at k1 ⊢;intro e;rw[Option.some.inj e] at k1;cases k1
theorem ax9{a:kf}(h:adq a)(r:Str):(ZC a++r).head?≠some 41:=by
 unfold ZC;cases h0:a.name==[] with
 |true=>exact auz _ _
 |false=>
  have h3:=(h.2.resolve_left (jT.1 h0)).1.1;cases a.plus==0 with
  |true=>exact h3.hd _
  |false=>simp only[jN,jc];exact h3.hd _
theorem auA: ∀{xs:List kf},xs≠[]->(∀x∈xs,adq x)-> ∀r,(W2 (xs.map ZC)++r).head?≠some 41
 |[x],_,h,r=>ax9 (h x (by simp)) r
 |x::y::xs,_,h,r=>by
  show((ZC x++_)++r).head?≠_
  grind [ax9]
theorem aB2{a:j7}(h:W3 a)(r:Str):(lvS a++r).head?≠some 41:=by
 unfold lvS;rcases h with⟨h,_⟩|⟨h,h1,h2⟩
 all_goals grind [auA]
theorem TF.lv{a:j7}(h:W3 a):TF (lvS a) (lvK a):=by
 intro r l hr hl;unfold lvS lvK;rcases h with⟨h,_⟩|⟨h,h1,h2⟩
 ·rw[h];exact .vb (.inl rfl) hr hl
 ·rw[h];have hs:=TF.sep h1 fun x hx=>TF.at_ (h2 x hx)
  cases a.lz.length==1 with
  |true=>exact hs _ _ hr hl
  |false=>
   simp;have:TF [109,97,120] [(0,[109,97,120])]:=fun _ _ hr hl=> .nm (by refine⟨⟨?_,by decide,_,_,rfl,rfl⟩,by decide,rfl⟩;rw[AO];rfl) hr hl
   exact this _ _ (.cons rfl rfl) (.opn (auA h1 h2 _) (hs _ _ (.cons rfl rfl) (.mx (s:=[41]) rfl hl)))
theorem TF.ls{a:List j7}(h: ∀x∈a,W3 x):TF (lsS a) (lsK a):=by
 intro r l hr hl;unfold lsS lsK;cases a with
 |nil=>exact hl
 |cons x xs=>
  simp;exact .mx (s:=[46,123]) rfl (TF.sep (by simp) (fun x hx=>TF.lv (h x hx)) _ _ (.cons rfl rfl) (.mx (s:=[125]) rfl hl))
theorem Fo.ls{a:List j7}(hr:Fo r):Fo (lsS a++r):=by
 cases a with
 |nil=>exact hr
 |cons x xs=>
  intro c t e;injection e with e1 e2
  subst e1 e2;exact⟨rfl,fun _=>rfl⟩
theorem Vb.hd(h:Vb s)(r:Str):(s++r).head?≠some 41:=h.elim (fun e=>by rw[e];simp) fun h=>h.1.1.hd r
theorem Sh.hd{k:List Tk}(h:Sh p 0 xs s k)(r:Str):(s++r).head?≠some 41:=by
 cases h with
 |nm h _ hn _=>
  rcases hn with rfl|rfl
  ·rw[show((bif (0:Int)==1 then [64] else []):Str)=[] from rfl,iR,jc];exact h.hd _
  ·simp
 |pi _ hn _ _=>rcases hn with rfl|rfl|rfl<;>simp [opn]
 |num hn=>exact auz _ _
 |_=>simp
def nmB(s:Str):Bool:=s.all Cr&&(decide (s.length<=64)&&(uX (s.headD 0)&&(!(s==[95])&& !kws.contains s)))
theorem Nm.of(h:nmB s=true):Nm s:=by
 simp only[nmB,iH,jR,jo,jT] at h;obtain⟨h1,h2,h3,h4,h5⟩:=h
 match s,h3 with
 |c::t,h3=>
  have hc:sC (c::t)=(c::t).length:=by
   have:=WO Cr (c::t);rw[h1] at this;exact jS.1 this
  exact⟨⟨by rw[AO,hc,iX];rfl,h2,_,_,rfl,h3⟩,h4,h5⟩
theorem aum.ok{w:Str}{ns:List Str}(h:aum w ns):nmB w=true/\ ∀v∈ns,v=[95]\/Nm v:=by
 have vb: ∀{v},Vb v->v=[95]\/Nm v:=fun h=>h.imp id fun h=>h.1
 rcases h with⟨hw,rfl⟩|⟨rfl,v,rfl,hv⟩|⟨rfl,_,hv⟩|⟨hw,v,rfl,hv,_⟩|⟨rfl,_,hv⟩
 ·exact⟨iW.1 (show noW.all nmB=true by decide) w (iP.1 hw),by simp⟩
 ·exact⟨by decide,fun u hu=>by grind⟩
 ·exact⟨by decide,fun u hu=>vb (hv u hu)⟩
 ·exact⟨iW.1 (show snW.all nmB=true by decide) w (iP.1 hw),fun u hu=>by grind⟩
 ·exact⟨by decide,fun u hu=> .inr (hv u hu)⟩
theorem GB.vn(h:s=[95]\/Nm s)(hr:Fo r)(hl:GB r l):GB (s++r) (vtk s::l):=by
 grind [word,Wd.ud,GB.nm,vtk]
theorem TF.ns: ∀{ns:List Str},(∀v∈ns,v=[95]\/Nm v)->TF (ns.flatMap (32:: ·)) (ns.map vtk)
 |[],_=>fun _ _ hr hl=>hl
 |v::ns,h=>by
  intro r l hr hl;have ih:=TF.ns (ns:=ns) (fun u hu=>h u (by simp [hu])) _ _ hr hl;simp;refine .p8 (.vn (h v (by simp)) ?_ ih);cases ns with
  |nil=>exact hr
  |cons u ns=>exact .cons rfl rfl
theorem Sh.tks{k:List Tk}(h:Sh Nk n xs s k): ∀{r l},(n≠3->Fo r)->GB r l->GB (s++r) (k++l):=by
 induction h with
 |nm h hp hn hl=>
  intro r l hr ht;have hr:=hr (by decide);rcases hn with rfl|rfl
  ·rw[show((bif (0:Int)==1 then [64] else []):Str)=[] from rfl,show((bif (0:Int)==1 then [(2,[64])] else []):List Tk)=[] from rfl,iR,iR,jc];exact .nm ⟨h,hp⟩ hr.ls (TF.ls hl _ _ hr ht)
  ·simp;exact .mx (s:=[64]) rfl (.nm ⟨h,hp⟩ hr.ls (TF.ls hl _ _ hr ht))
 |hole=>exact fun hr ht=> .vb (.inl rfl) (hr (by decide)) ht
 |app hx hy ih1 ih2=>
  intro r l hr ht;simp;exact .opn (hx.hd _) (ih1 (fun _=> .cons rfl rfl) (.mx (s:=[41]) rfl (.p8 (.opn (hy.hd _) (ih2 (fun _=> .cons rfl rfl) (.mx (s:=[41]) rfl ht))))))
 |agB hv hy ih=>
  intro r l hr ht;simp;exact .key (s:=[102,117,110]) (by decide) (.cons rfl rfl) (.p8 (.vb hv (.cons rfl rfl) (.p8 (.mx (s:=[61,62]) rfl (.p8 (ih hr ht))))))
 |lam hv hx _ hy ih1 ih2=>
  intro r l hr ht;simp;exact .key (s:=[102,117,110]) (by decide) (.cons rfl rfl) (.p8 (.opn (hv.hd _) (.vb hv (.cons rfl rfl) (.p8 (.fx (c:=58) (t:=[]) (by decide) (by decide) (.p8 (ih1 (fun _=> .cons rfl rfl) (.mx (s:=[41]) rfl (.p8 (.mx (s:=[61,62]) rfl (.p8 (ih2 hr ht))))))))))))
 |pi0 hx hy ih1 ih2=>
  intro r l hr ht;simp;exact .opn (by simp) (.opn (hx.hd _) (ih1 (fun _=> .cons rfl rfl) (.mx (s:=[41]) rfl (.mx (s:=[41]) rfl (.p8 (.arr (ih2 hr ht)))))))
 |pi hv hn hx hy ih1 ih2=>
  intro r l hr ht;simp;have h2:=GB.arr (ih2 hr ht);rcases hn with rfl|rfl|rfl
  ·exact .opn (hv.hd _) (.vb hv (.cons rfl rfl) (.p8 (.fx (c:=58) (t:=[]) (by decide) (by decide) (.p8 (ih1 (fun _=> .cons rfl rfl) (.mx (s:=[41]) rfl (.p8 h2)))))))
  ·exact .mx (s:=[123]) rfl (.vb hv (.cons rfl rfl) (.p8 (.fx (c:=58) (t:=[]) (by decide) (by decide) (.p8 (ih1 (fun _=> .cons rfl rfl) (.mx (s:=[125]) rfl (.p8 h2)))))))
  ·exact .mx (s:=[91]) rfl (.vb hv (.cons rfl rfl) (.p8 (.fx (c:=58) (t:=[]) (by decide) (by decide) (.p8 (ih1 (fun _=> .cons rfl rfl) (.mx (s:=[93]) rfl (.p8 h2)))))))
 |YR hv hx hy ih1 ih2=>
  intro r l hr ht;simp;exact .key (s:=[83,105,103,109,97]) (by decide) (.cons rfl rfl) (.p8 (.opn (hv.hd _) (.vb hv (.cons rfl rfl) (.p8 (.fx (c:=58) (t:=[]) (by decide) (by decide) (.p8 (ih1 (fun _=> .cons rfl rfl) (.mx (s:=[41]) rfl (.mx (s:=[44]) rfl (.p8 (ih2 hr ht)))))))))))
 |pair hx hy ih1 ih2=>
  intro r l hr ht;simp;exact .opn (hx.hd _) (ih1 (fun _=> .cons rfl rfl) (.mx (s:=[44]) rfl (.p8 (ih2 (fun _=> .cons rfl rfl) (.mx (s:=[41]) rfl ht)))))
 |ww hn hx ih=>
  intro r l hr ht;simp;refine .opn (hx.hd _) (ih (fun _=> .cons rfl rfl) (.mx (s:=[41]) rfl ?_));rcases hn with rfl|rfl
  ·exact .mx (s:=[46,49]) rfl ht
  ·exact .mx (s:=[46,50]) rfl ht
 |agC hv hy hz ih2 ih3=>
  intro r l hr ht;simp;exact .key (s:=[108,101,116]) (by decide) (.cons rfl rfl) (.p8 (.vb hv (.cons rfl rfl) (.p8 (.mx (s:=[58,61]) rfl (.p8 (ih2 (fun _=> .cons rfl rfl) (.p8 (.key (s:=[105,110]) (by decide) (.cons rfl rfl) (.p8 (ih3 hr ht))))))))))
 |Ni hv hx _ hy hz ih1 ih2 ih3=>
  intro r l hr ht;simp;exact .key (s:=[108,101,116]) (by decide) (.cons rfl rfl) (.p8 (.vb hv (.cons rfl rfl) (.p8 (.fx (c:=58) (t:=[]) (by decide) (by decide) (.p8 (ih1 (fun _=> .cons rfl rfl) (.p8 (.mx (s:=[58,61]) rfl (.p8 (ih2 (fun _=> .cons rfl rfl) (.p8 (.key (s:=[105,110]) (by decide) (.cons rfl rfl) (.p8 (ih3 hr ht))))))))))))))
 |agD=>exact fun hr ht=> .key (s:=[80,114,111,112]) (by decide) (hr (by decide)) ht
 |sort hl=>
  intro r l hr ht;simp;exact .key (s:=[84,121,112,101]) (by decide) (.cons rfl rfl) (.p8 (.opn (aB2 hl _) (TF.lv hl _ _ (.cons rfl rfl) (.mx (s:=[41]) rfl ht))))
 |num hn=>exact fun hr ht=> .num (by omega) (hr (by decide)) ht
 |Ob hx hy ih1 ih2=>
  intro r l hr ht;simp;exact .opn (hx.hd _) (ih1 (fun _=> .cons rfl rfl) (.p8 (.fx (c:=58) (t:=[]) (by decide) (by decide) (.p8 (ih2 (fun _=> .cons rfl rfl) (.mx (s:=[41]) rfl ht))))))
 |by_ hk ih=>
  intro r l hr ht;simp;exact .key (s:=[98,121]) (by decide) (.cons rfl rfl) (.p8 (.mx (s:=[123]) rfl (.p8 (ih (fun h=>absurd rfl h) (.mx (s:=[125]) rfl ht)))))
 |agE=>exact fun hr ht=> .mx (s:=[40,41]) rfl ht
 |ex hw hx ih=>
  intro r l hr ht;simp;exact .nm (.of (iW.1 (show exW.all nmB=true by decide) _ (iP.1 hw))) (.cons rfl rfl) (.p8 (ih (fun _=>hr (by decide)) ht))
 |nms hw=>
  intro r l hr ht;have hr:=hr (by decide);rename_i w ns f t _;simp
  have hf:Fo (ns.flatMap (32:: ·)++r):=by
   cases ns with
   |nil=>exact hr
   |cons u ns=>exact .cons rfl rfl
  exact .nm (.of hw.ok.1) hf (TF.ns hw.ok.2 _ _ hr ht)
 |No hw hx ih=>
  intro r l hr ht;simp;exact .nm (.of (by rcases hw with rfl|rfl<;>decide)) (.cons rfl rfl) (.p8 (ih (fun _=>hr (by decide)) ht))
 |blk hk ih=>
  intro r l hr ht;simp;exact .mx (s:=[123]) rfl (.p8 (ih (fun h=>absurd rfl h) (.mx (s:=[125]) rfl ht)))
 |foc hk ih=>
  intro r l hr ht;simp;exact .nm (s:=[102,111,99,117,115]) (.of (by decide)) (.cons rfl rfl) (.p8 (.mx (s:=[123]) rfl (.p8 (ih (fun h=>absurd rfl h) (.mx (s:=[125]) rfl ht)))))
 |up _ ih=>grind
 |alt hx hy ih1 ih2=>
  intro r l hr ht;simp;exact ih1 (fun _=> .cons rfl rfl) (.p8 (.mx (s:=[60,124,62]) rfl (.p8 (ih2 (fun _=>hr (by decide)) ht))))
 |nil=>exact fun _ ht=>ht
 |cons hx hy ih1 ih2=>
  intro r l hr ht;simp;exact ih1 (fun _=> .cons rfl rfl) (.mx (s:=[59]) rfl (.p8 (ih2 (fun h=>absurd rfl h) ht)))
section
variable {S R:Type}
theorem Ev.dc{p:Prop}[Decidable p]{F:Nat->Option R}{r:R}(h:p)(hf:Ev F r):Ev (fun n=>bif decide p then F n else none) r:=by rw[jO h];exact hf
theorem kR.dc{p:Prop}[Decidable p]{F:Nat->Nat->Option R}{r:R}(h:p)(hf:kR F r):kR (fun n m=>bif decide p then F n m else none) r:=by rw[jO h];exact hf
theorem Ev.eq{a r:R}(h:a=r):Ev (fun _=>some a) r:=by rw[h];exact Ev.pure
theorem kR.eq{a r:R}(h:a=r):kR (fun _ _=>some a) r:=by rw[h];exact kR.pure
end
theorem aoA: ∀k:Nat,k<=999999->Ev (fun n=>xh n (k:Int)) (MS k):=by
 intro k;induction k using iO with
 |ind k ih=>
  intro hk;refine Ev.fn (fun n=>by simp only[xh,kG,Ky,mB];exact rfl) ?_;rcases je k 10 with h|h
  ·rw[jO (show(k:Int)<10 by omega),kO (by omega)];simp only[jM];refine .dc (by omega) (.eq ?_);rw[MS,dif_pos h]
   have: ∀k:Nat,k<10->List.drop ((k:Int)).toNat (List.take (((k+1:Nat):Int)).toNat [48,49,50,51,52,53,54,55,56,57])=[iZ (48+k)]:=by
    intro k hk;obtain rfl|rfl|rfl|rfl|rfl|rfl|rfl|rfl|rfl|rfl:k=0\/k=1\/k=2\/k=3\/k=4\/k=5\/k=6\/k=7\/k=8\/k=9:=by omega
    all_goals rfl
   exact this k h
  ·rw[jP (show ¬ (k:Int)<10 by omega)];have e1:(k:Int).tdiv 10=((k / 10:Nat):Int):=rfl;have e2:(k:Int).tmod 10=((k % 10:Nat):Int):=rfl;simp only[jN];rw[e1,e2,wrap_small (by omega) (by omega)];have hm:=Nat.mod_lt k (show 0<10 by decide);have l1:=(Jd (k / 10)).2.2.1 5 (by omega);have l2:=(Jd (k % 10)).2.2.1 5 (by omega);refine Ev.bind (ih (k / 10) (by omega) (by omega)) (Ev.bind (ih (k % 10) (by omega) (by omega)) (.dc (by omega) (.eq ?_)))
   grind [MS.eq_1]
def tlS(l:List Str):Str:=l.flatMap fun s=>44::32::s
theorem ab2: ∀(s:Str)(l:List Str),W2 (s::l)=s++tlS l
 |s,[]=>by simp [W2,tlS]
 |s,t::l=>by
  show s++44::32::W2 (t::l)=_;rw[ab2 t l];simp [tlS]
theorem at_len{a:kf}(h:adq a):(ZC a).length<=80:=by
 have l1:=(Jd a.plus.toNat).2.2.1 5 (by have:=h.1;omega);unfold ZC;cases h0:a.name==[] with
 |true=>simp;omega
 |false=>
  have:=(h.2.resolve_left (jT.1 h0)).1.1.2.1
  grind
theorem axE{a:j7}(h: ∀x∈a.lz,adq x)(hm:a.lz.length<=1000000000000): ∀(d i:Nat)(acc:Str),i+d=a.lz.length->0<i->acc.length+(tlS ((a.lz.drop i).map ZC)).length<=1000000000000->
 kR (fun n m=>xE n m acc (i:Int) a) (bif a.lz.length==1 then acc++tlS ((a.lz.drop i).map ZC) else 109::97::120::40::(acc++tlS ((a.lz.drop i).map ZC)++[41])):=by
 intro d;induction d with
 |zero=>
  intro i acc hi h0 hl;refine kR.lp (fun n m=>by simp only[Dc,uV,mB];exact rfl) ?_;have e:tlS ((a.lz.drop i).map ZC)=[]:=by rw[jv (by omega)];rfl
  grind [kR.pure]
 |succ d ih=>
  intro i acc hi h0 hl;have hlt:i<a.lz.length:=by omega
  have ha:=h _ (iI hlt)
  have e:tlS ((a.lz.drop i).map ZC)=44::32::(ZC a.lz[i]++tlS ((a.lz.drop (i+1)).map ZC)):=by
   rw[iE hlt];rfl
  have l8:=at_len ha;rw[e] at hl ⊢;simp only[iB,iD] at hl;have next:=ih (i+1) (acc++44::32::ZC a.lz[i]) (by omega) (by omega) (by grind)
  rw[show acc++44::32::(ZC a.lz[i]++tlS ((a.lz.drop (i+1)).map ZC))=acc++44::32::ZC a.lz[i]++tlS ((a.lz.drop (i+1)).map ZC) by simp];refine kR.lp (fun n m=>by simp only[Dc,uV,mB];exact rfl) ?_;rw[jO (show(i:Int)<(a.lz.length:Int) by omega),jO (show(0:Int)<(i:Int) by omega),kO (by omega)];simp only[jM];refine kR.idx hlt (.dc (by omega) ?_);revert next l8 hl
  unfold ZC;obtain⟨⟨p1,p2⟩,h3⟩:=ha;have hd:=aoA a.lz[i].plus.toNat (by omega);rw[show((a.lz[i].plus.toNat:Nat):Int)=a.lz[i].plus by omega] at hd;cases h4:a.lz[i].name==[] with
  |true=>
   simp only[jM];intro hl l8 next
   refine kR.lQ hd (.dc (by omega) ?_);simpa using next
  |false=>
   simp only[jN];cases a.lz[i].plus==0 with
   |true=>
    simp only[jM];intro hl l8 next
    refine .dc (by omega) ?_;simpa using next
   |false=>
    simp only[jN,iD,iB];intro hl l8 next
    refine .dc (by omega) (kR.lQ hd (.dc (by omega) (.dc (by omega) ?_)));simpa using next
theorem aB3{a:j7}(h:W3 a)(hm:(lvS a).length<=1000000000000)(hk:a.lz.length<=1000000000000):Ev (fun n=>BQ n a) (lvS a):=by
 refine Ev.fn (fun n=>by simp only[BQ,kG,Ht,mB];exact rfl) ?_;unfold lvS at hm ⊢;rcases h with⟨h,h1⟩|⟨h,h1,h2⟩
 ·rw[h];exact Ev.pure
 ·rw[h] at hm ⊢;simp only[jN] at hm ⊢;refine Ev.zH (F:=fun n m=>xE n m [] 0 a) ?_
  obtain⟨x,xs,hx⟩: ∃x xs,a.lz=x::xs:=by
   match a.lz,h1 with
   |x::xs,_=>exact⟨x,xs,rfl⟩
  have ha:=h2 x (by rw[hx];simp)
  have hs:(W2 (a.lz.map ZC)).length<=1000000000000:=by
   grind
  have e:W2 (a.lz.map ZC)=ZC x++tlS ((a.lz.drop 1).map ZC):=by grind [ab2]
  rw[e] at hs ⊢;have next:=axE h2 hk (a.lz.length-1) 1 (ZC x) (by rw[hx,iB];omega) (by decide) (by grind)
  rw[iD] at hs;have hlt:0<a.lz.length:=by rw[hx];simp
  have hx0:a.lz[0]=x:=by simp [hx]
  refine kR.lp (fun n m=>by simp only[Dc,uV,mB];exact rfl) ?_;rw[jO (show(0:Int)<(a.lz.length:Int) by omega),show IntKind.i64.wrap ((0:Int)+1)=((1:Nat):Int) from rfl];simp only[jM];refine kR.idx (i:=0) hlt ?_;rw[hx0,show decide ((0:Int)<0)=false from rfl];simp only[jN];revert next hs
  unfold ZC;obtain⟨⟨p1,p2⟩,h3⟩:=ha;have hd:=aoA x.plus.toNat (by omega);rw[show((x.plus.toNat:Nat):Int)=x.plus by omega] at hd;cases h4:x.name==[] with
  |true=>
   simp only[jM,iF];intro hl next
   refine kR.lQ hd (.dc (by omega) ?_);simpa using next
  |false=>
   simp only[jN,iF];cases x.plus==0 with
   |true=>
    grind
   |false=>
    simp only[jN,iD,iB];intro hl next
    refine .dc (by omega) (kR.lQ hd (.dc (by omega) (.dc (by omega) ?_)));simpa using next
theorem ix0{S:Type}{x:S}{l:List S}:wq (x::l) 0=some x:=rfl
theorem ix1{S:Type}{x y:S}{l:List S}:wq (x::y::l) 1=some y:=rfl
theorem ix2{S:Type}{x y z:S}{l:List S}:wq (x::y::z::l) 2=some z:=rfl
theorem afB: ∀l:List Str,l.length<=(W2 l).length+1
 |[]=>by simp
 |[s]=>by simp
 |s::t::l=>by
  have:=afB (t::l)
  grind [W2]
theorem auB{a:j7}(h:W3 a):a.lz.length<=(lvS a).length+1:=by
 have:=afB (a.lz.map ZC);unfold lvS;rcases h with⟨h,h1⟩|⟨h,_⟩
 all_goals grind
theorem lvE{a:j7}(h:W3 a)(hm:(lvS a).length<=900000000000):Ev (fun n=>BQ n a) (lvS a):=aB3 h (by omega) (by have:=auB h;omega)
theorem axF(h: ∀l∈x.levels,W3 l)(hk:x.levels.length<=1000000000000)(h0:0<x.levels.length): ∀(d i:Nat)(acc:Str),i+d=x.levels.length->0<i->acc.length+(tlS ((x.levels.drop i).map lvS)).length<=900000000000->
 kR (fun n m=>zt (lO n) n m acc (i:Int) x) (acc++(tlS ((x.levels.drop i).map lvS)++[125])):=by
 intro d;induction d with
 |zero=>
  intro i acc hi h1 hl;refine kR.lp (fun n m=>by simp only[Fj,zr,kV,mB];exact rfl) ?_;have e:tlS ((x.levels.drop i).map lvS)=[]:=by rw[jv (by omega)];rfl
  rw[e] at hl ⊢;rw[jP (show ¬ (i:Int)<(x.levels.length:Int) by omega),jO (show(0:Int)<(x.levels.length:Int) by omega)];simp only[jN,jM];exact .dc (by omega) (.eq rfl)
 |succ d ih=>
  intro i acc hi h1 hl;have hlt:i<x.levels.length:=by omega
  have e:tlS ((x.levels.drop i).map lvS)=44::32::(lvS x.levels[i]++tlS ((x.levels.drop (i+1)).map lvS)):=by
   rw[iE hlt];rfl
  rw[e] at hl ⊢;simp only[iB,iD] at hl;have next:=ih (i+1) (acc++44::32::lvS x.levels[i]) (by omega) (by omega) (by grind)
  refine kR.lp (fun n m=>by simp only[Fj,zr,kV,mB];exact rfl) ?_;rw[jO (show(i:Int)<(x.levels.length:Int) by omega),show((i:Int)==0)=false by rw[jT];omega,kO (by omega)];simp only[jM,jN];refine .dc (by omega) (kR.idx hlt (kR.lQ (lvE (h _ (iI hlt)) (by omega)) (.dc (by omega) ?_)));simpa using next
theorem azW: ∀ls:List j7,ls.length<=(lsS ls).length+1
 |[]=>iM _
 |y::ys=>by
  grind [afB,lsS,iB]
theorem aya{acc:Str}(h: ∀l∈x.levels,W3 l)(hl:acc.length+(lsS x.levels).length<=900000000000):kR (fun n m=>zt (lO n) n m acc 0 x) (acc++lsS x.levels):=by
 have hk:x.levels.length<=(lsS x.levels).length+1:=azW x.levels;cases hx:x.levels with
 |nil=>
  refine kR.lp (fun n m=>by simp only[Fj,zr,kV,mB];exact rfl) ?_;rw[hx];exact .eq (by simp [lsS])
 |cons y ys=>
  have hlt:0<x.levels.length:=by rw[hx];simp
  have e:lsS x.levels=46::123::(lvS y++(tlS ((x.levels.drop 1).map lvS)++[125])):=by grind [lsS,ab2]
  have hy:x.levels[0]=y:=by simp [hx]
  have ho:=h y (by rw[hx];simp);rw[<-hx];rw[e] at hl hk ⊢;simp only[iB,iD,iF] at hl hk;have next:=axF h (by omega) hlt (x.levels.length-1) 1 (acc++46::123::lvS y) (by omega) (by decide) (by grind)
  refine kR.lp (fun n m=>by simp only[Fj,zr,kV,mB];exact rfl) ?_;rw[jO (show(0:Int)<(x.levels.length:Int) by omega),show IntKind.i64.wrap ((0:Int)+1)=((1:Nat):Int) from rfl];simp only[jM,beq_self_eq_true];refine .dc (by omega) (kR.idx (i:=0) hlt ?_);rw[hy];refine kR.lQ (lvE ho (by omega)) (.dc (by omega) ?_);simpa using next
theorem axG(hk:x.names.length<=900000000000)(h1: ∀acc:Str,acc.length+s.length<=900000000000->kR (fun n m=>uk (lO n) n n acc 0 x) (acc++s)): ∀(d i:Nat)(acc:Str),i+d=x.names.length->acc.length+(((x.names.drop i).flatMap (32:: ·)).length+s.length)<=900000000000->
 kR (fun n m=>um (lO n) n m acc (i:Int) x) (acc++((x.names.drop i).flatMap (32:: ·)++s)):=by
 intro d;induction d with
 |zero=>
  intro i acc hi hl;refine kR.lp (fun n m=>by simp only[Cl,ul,kV,mB];exact rfl) ?_
  simp_all
 |succ d ih=>
  intro i acc hi hl;have hlt:i<x.names.length:=by omega
  rw[iE hlt,List.flatMap_cons] at hl ⊢;simp only[iB,iD] at hl;have next:=ih (i+1) (acc++32::x.names[i]) (by omega) (by grind)
  refine kR.lp (fun n m=>by simp only[Cl,ul,kV,mB];exact rfl) ?_;rw[jO (show(i:Int)<(x.names.length:Int) by omega),kO (by omega)];simp only[jM];refine kR.idx hlt (.dc (by omega) (.dc (by omega) ?_));simpa using next
def PB:Nat->List Syntax->Str->Prop
 |0,[x],s=>s.length<=900000000000->Ev (fun n=>tY n x) s
 |1,[x],s=>s.length<=900000000000->Ev (fun n=>oJ n x) s
 |2,[x],s=>s.length<=900000000000->Ev (fun n=>oJ n x) s
 |3,xs,s=> ∀(x:Syntax)(i:Nat)(acc:Str),x.kids.drop i=xs->i<=x.kids.length->x.kids.length<=900000000000->acc.length+s.length<=900000000000->
    kR (fun n m=>ES (lO n) n m acc (i:Int) x) (acc++(s++[125]))/\kR (fun n m=>uo (lO n) n m acc (i:Int) x) (acc++(s++[125]))
 |_,_,_=>True
theorem Vb.ne(h:Vb v):(v==[])=false:=by
 rcases h with rfl|⟨⟨⟨_,_,c,t,rfl,_⟩,_⟩,_⟩<;>rfl
theorem Sh.azX{k:List Tk}(h:Sh p n xs s k):n=3->xs.length<=s.length:=by
 induction h with
 |nil=>simp
 |cons _ _ _ ih=>grind
 |_=>intro h;cases h
theorem auC{w a:Str}{t:Int}(hw:((w==[60,124,62])=false/\(w==[102,111,99,117,115])=false)/\(w==[123])=false)(hb:w.length+(a.length+1)<=900000000000)(h:kR (fun n m=>uk (lO n) n m w 0 (.mk 15 w 0 [] [] [y] f t)) (w++32::a)):Ev (fun n=>oJ n (.mk 15 w 0 [] [] [y] f t)) (w++32::a):=by
 obtain⟨⟨h1,h2⟩,h3⟩:=hw;refine Ev.fn (fun n=>by simp only[xI,q6,kV,mB];exact rfl) ?_;simp only[Syntax.ww,h1,h2,h3,jN];refine Ev.zH (F:=fun n m=>um (lO n) n m w 0 (.mk 15 w 0 [] [] [y] f t)) ?_;refine kR.lp (fun n m=>by simp only[Cl,ul,kV,mB];exact rfl) ?_;exact kR.Xr (Ev.zH h)
theorem Sh.ev{k:List Tk}(h:Sh Nk n xs s k):PB n xs s:=by
 induction h with
 | @nm s n f t ls h hp hn hl=>
   intro hb;refine Ev.fn (fun n=>by simp only[om,nh,kV,mB];exact rfl) ?_;rcases hn with rfl|rfl
   ·simp only[Syntax.ww,iG,jM,jN,iR,iD] at hb ⊢;exact Ev.zH (F:=fun n m=>zt (lO n) n m s 0 (.mk 0 s 0 [] ls [] f t)) (aya (x:= .mk 0 s 0 [] ls [] f t) hl hb)
   ·simp only[Syntax.ww,iG,jM,jN,iK,iR,iB,iD] at hb ⊢;exact .dc (by omega) (Ev.zH (F:=fun n m=>zt (lO n) n m (64::s) 0 (.mk 0 s 1 [] ls [] f t)) (aya (x:= .mk 0 s 1 [] ls [] f t) (acc:=64::s) hl (by simp only[iB];show s.length+1+(lsS ls).length<=_;omega)))
 |hole=>
  intro hb;refine Ev.fn (fun n=>by simp only[om,nh,kV,mB];exact rfl) ?_;simp only[Syntax.ww,iG,jM,jN];exact Ev.pure
 |app hx hy ih1 ih2=>
  intro hb;simp only[iB,iD,iF] at hb;refine Ev.fn (fun n=>by simp only[om,nh,kV,mB];exact rfl) ?_;simp only[Syntax.ww,iG,jM,jN,ix0,ix1,iC];exact Ev.bind (ih1 (by omega)) (.dc (by omega) (.dc (by omega) (Ev.bind (ih2 (by omega)) (.dc (by omega) (.dc (by omega) (.eq (by simp)))))))
 |agB hv hy ih=>
  intro hb;simp only[iB,iD,iF] at hb;refine Ev.fn (fun n=>by simp only[om,nh,kV,mB];exact rfl) ?_;simp only[Syntax.ww,iG,jM,jN,ix0,ix1,iC,beq_self_eq_true];exact .dc (by omega) (.dc (by omega) (Ev.bind (ih (by omega)) (.dc (by omega) (.eq (by simp)))))
 | @lam v a b x y k l f t hv hx hh hy ih1 ih2=>
   intro hb;simp only[iB,iD,iF] at hb;refine Ev.fn (fun n=>by simp only[om,nh,kV,mB];exact rfl) ?_;simp only[Syntax.ww,iG,jM,jN,ix0,ix1,iC];have go:=Ev.bind (G:=fun n s=>bif decide (v.length+3+1+1+1+1+1+s.length<=9223372036854775807) then bif decide (v.length+3+s.length<=9223372036854775797) then(tY n y).bind fun z=>bif decide (v.length+3+s.length+5+1+1+1+1+1+z.length<=9223372036854775807) then some (102::117::110::32::40::(v++[32,58,32]++s++[41,32,61,62,32]++z)) else none else none else none) (ih1 (by omega)) (.dc (by omega) (.dc (by omega) (Ev.bind (ih2 (by omega)) (.dc (by omega) (Ev.eq (r:=102::117::110::32::40::(v++32::58::32::(a++41::32::61::62::32::b))) (by simp))))))
   grind
 |pi0 hx hy ih1 ih2=>
  intro hb;simp only[iB,iD,iF] at hb;refine Ev.fn (fun n=>by simp only[om,nh,kV,mB];exact rfl) ?_;simp only[Syntax.ww,iG,jM,jN,ix0,ix1,iC,beq_self_eq_true];exact Ev.bind (ih1 (by omega)) (.dc (by omega) (.dc (by omega) (Ev.bind (ih2 (by omega)) (.dc (by omega) (.eq (by simp))))))
 |pi hv hn hx hy ih1 ih2=>
  intro hb;simp only[iB,iD,iF] at hb;refine Ev.fn (fun n=>by simp only[om,nh,kV,mB];exact rfl) ?_;rcases hn with rfl|rfl|rfl
  all_goals
   simp only[Syntax.ww,iG,jM,jN,ix0,ix1,iC,hv.ne];exact .dc (by omega) (.dc (by omega) (Ev.bind (ih1 (by omega)) (.dc (by omega) (.dc (by omega) (Ev.bind (ih2 (by omega)) (.dc (by omega) (.eq (by simp [opn,shu]))))))))
 |YR hv hx hy ih1 ih2=>
  intro hb;simp only[iB,iD,iF] at hb;refine Ev.fn (fun n=>by simp only[om,nh,kV,mB];exact rfl) ?_;simp only[Syntax.ww,iG,jM,jN,ix0,ix1,iC];exact .dc (by omega) (.dc (by omega) (Ev.bind (ih1 (by omega)) (.dc (by omega) (.dc (by omega) (Ev.bind (ih2 (by omega)) (.dc (by omega) (.eq (by simp))))))))
 |pair hx hy ih1 ih2=>
  intro hb;simp only[iB,iD,iF] at hb;refine Ev.fn (fun n=>by simp only[om,nh,kV,mB];exact rfl) ?_;simp only[Syntax.ww,iG,jM,jN,ix0,ix1,iC];exact Ev.bind (ih1 (by omega)) (.dc (by omega) (.dc (by omega) (Ev.bind (ih2 (by omega)) (.dc (by omega) (.dc (by omega) (.eq (by simp)))))))
 |ww hn hx ih=>
  intro hb;simp only[iB,iD,iF] at hb;refine Ev.fn (fun n=>by simp only[om,nh,kV,mB];exact rfl) ?_;rcases hn with rfl|rfl
  all_goals
   simp only[Syntax.ww,iG,jM,jN,ix0,iC];exact Ev.bind (ih (by omega)) (.dc (by omega) (.dc (by omega) (.eq (by simp))))
 |agC hv hy hz ih2 ih3=>
  intro hb;simp only[iB,iD,iF] at hb;refine Ev.fn (fun n=>by simp only[om,nh,kV,mB];exact rfl) ?_;simp only[Syntax.ww,iG,jM,jN,ix0,ix1,ix2,iC,beq_self_eq_true]
  have hh: ∀g:Int,Ev (fun n=>tY n (.mk 1 [] 0 [] [] [] g g)) [95]:=fun g=>by
   refine Ev.fn (fun n=>by simp only[om,nh,kV,mB];exact rfl) ?_;simp only[Syntax.ww,iG,jM,jN];exact Ev.pure
  exact Ev.bind (hh _) (.dc (by decide) (.dc (by omega) (.dc (by omega) (.dc (by omega) (Ev.bind (ih2 (by omega)) (.dc (by omega) (.dc (by omega) (Ev.bind (ih3 (by omega)) (.dc (by omega) (.eq (by simp)))))))))))
 | @Ni v a b c x y z k l m f t hv hx hh hy hz ih1 ih2 ih3=>
   intro hb;simp only[iB,iD,iF] at hb;refine Ev.fn (fun n=>by simp only[om,nh,kV,mB];exact rfl) ?_;simp only[Syntax.ww,iG,jM,jN,ix0,ix1,ix2,iC];refine Ev.bind (ih1 (by omega)) (.dc (by omega) ?_);cases h1:x.kind==1 with
   |false=>
    simp only[jN];exact .dc (by omega) (.dc (by omega) (.dc (by omega) (Ev.bind (ih2 (by omega)) (.dc (by omega) (.dc (by omega) (Ev.bind (ih3 (by omega)) (.dc (by omega) (.eq (by simp)))))))))
   |true=>
    have:(x.from_==x.to)=false:=jT.2 fun e=>hh ⟨jS.1 h1,e⟩
    simp only[this,jM,jN];exact .dc (by omega) (.dc (by omega) (.dc (by omega) (Ev.bind (ih2 (by omega)) (.dc (by omega) (.dc (by omega) (Ev.bind (ih3 (by omega)) (.dc (by omega) (.eq (by simp)))))))))
 |agD=>
  intro hb;refine Ev.fn (fun n=>by simp only[om,nh,kV,mB];exact rfl) ?_;simp only[Syntax.ww,iG,jM,jN];exact Ev.pure
 |sort hl=>
  intro hb;simp only[iB,iD,iF] at hb;refine Ev.fn (fun n=>by simp only[om,nh,kV,mB];exact rfl) ?_;simp only[Syntax.ww,iG,jM,jN,ix0,iC];exact Ev.bind (lvE hl (by omega)) (.dc (by omega) (.dc (by omega) (.eq (by simp))))
 |num hn=>
  intro hb;rename_i n f t;refine Ev.fn (fun n=>by simp only[om,nh,kV,mB];exact rfl) ?_;simp only[Syntax.ww,iG,jM,jN]
  grind [aoA]
 |Ob hx hy ih1 ih2=>
  intro hb;simp only[iB,iD,iF] at hb;refine Ev.fn (fun n=>by simp only[om,nh,kV,mB];exact rfl) ?_;simp only[Syntax.ww,iG,jM,jN,ix0,ix1,iC];exact Ev.bind (ih1 (by omega)) (.dc (by omega) (.dc (by omega) (Ev.bind (ih2 (by omega)) (.dc (by omega) (.dc (by omega) (.eq (by simp)))))))
 | @by_ a ks k f t hk ih=>
   intro hb;have hl:=hk.azX rfl;simp only[iB,iD,iF] at hb;refine Ev.fn (fun n=>by simp only[om,nh,kV,mB];exact rfl) ?_;simp only[Syntax.ww,iG,jM,jN];exact Ev.zH (F:=fun n m=>ES (lO n) n m [98,121,32,123,32] 0 (.mk 14 [] 0 [] [] ks f t)) (ih (.mk 14 [] 0 [] [] ks f t) 0 [98,121,32,123,32] rfl (iM _) (show ks.length<=_ by omega) (by grind [iF])).1
 |agE=>
  intro hb;refine Ev.fn (fun n=>by simp only[om,nh,kV,mB];exact rfl) ?_;simp only[Syntax.ww,iG,jM,jN];exact Ev.pure
 | @ex w a x k f t hw hx ih=>
   intro hb;simp only[iB,iD] at hb
   have h15:(x.kind==15)=false:=by
    rw[jT];cases hx with
    |ww a _=>simp only[Syntax.ww];omega
    |_=>simp [Syntax.ww]
   refine auC (by grind [exW]) (by omega) ?_;refine kR.lp (fun n m=>by simp only[uH,qu,kV,mB];exact rfl) ?_;simp only[Syntax.ww,iB,iF,ix0,iC,h15,jN];refine kR.lQ (ih (by omega)) (.dc (by omega) (.dc (by omega) ?_));refine kR.lp (fun n m=>by simp only[uH,qu,kV,mB];exact rfl) ?_;exact kR.pure
 | @nms w ns f t hw=>
   intro hb
   have hk:ns.length<=(ns.flatMap (32:: ·)).length:=by
    clear hw hb;induction ns with
    |nil=>simp
    |cons v ns ih=>grind
   simp only[iD] at hb
   have hwn:((w==[60,124,62])=false/\(w==[102,111,99,117,115])=false)/\(w==[123])=false:=by
    rcases hw with⟨hw,_⟩|⟨rfl,_⟩|⟨rfl,_⟩|⟨hw,_⟩|⟨rfl,_⟩
    ·simp only[noW,iP,List.mem_cons,List.not_mem_nil,or_false] at hw;rcases hw with rfl|rfl|rfl|rfl<;>decide
    ·decide
    ·decide
    ·simp only[snW,iP,List.mem_cons,List.not_mem_nil,or_false] at hw;rcases hw with rfl|rfl|rfl|rfl<;>decide
    ·decide
   obtain⟨⟨h1,h2⟩,h3⟩:=hwn;refine Ev.fn (fun n=>by simp only[xI,q6,kV,mB];exact rfl) ?_;simp only[Syntax.ww,h1,h2,h3,jN]
   have:=axG (x:= .mk 15 w 0 ns [] [] f t) (s:=[]) (show ns.length<=_ by omega) (fun acc _=>by
    refine kR.Xr (Ev.zH (F:=fun n m=>uk (lO n) n m acc 0 (.mk 15 w 0 ns [] [] f t)) ?_);refine kR.lp (fun n m=>by simp only[uH,qu,kV,mB];exact rfl) ?_;rw[List.append_nil];exact kR.pure) ns.length 0 w (jr _) (by show w.length+((ns.flatMap (32:: ·)).length+0)<=_;omega)
   rw[List.append_nil] at this;exact Ev.zH (F:=fun n m=>um (lO n) n m w 0 (.mk 15 w 0 ns [] [] f t)) this
 | @No w a x k f t hw hx ih=>
   intro hb;simp only[iB,iD] at hb;have h15:(x.kind==15)=true:=by cases hx<;>rfl
   refine auC (by rcases hw with rfl|rfl<;>decide) (by omega) ?_;refine kR.lp (fun n m=>by simp only[uH,qu,kV,mB];exact rfl) ?_;simp only[Syntax.ww,iB,iF,ix0,iC,h15,jM];refine kR.lQ (ih (by omega)) (.dc (by omega) (.dc (by omega) ?_));refine kR.lp (fun n m=>by simp only[uH,qu,kV,mB];exact rfl) ?_;exact kR.pure
 | @blk a ks k f t hk ih=>
   intro hb;have hl:=hk.azX rfl;simp only[iB,iD,iF] at hb;refine Ev.fn (fun n=>by simp only[xI,q6,kV,mB];exact rfl) ?_;exact Ev.zH (F:=fun n m=>uo (lO n) n m [123,32] 0 (.mk 15 [123] 0 [] [] ks f t)) (ih (.mk 15 [123] 0 [] [] ks f t) 0 [123,32] rfl (iM _) (show ks.length<=_ by omega) (by grind)).2
 | @foc a ks k f t hk ih=>
   intro hb;have hl:=hk.azX rfl;simp only[iB,iD,iF] at hb;refine Ev.fn (fun n=>by simp only[xI,q6,kV,mB];exact rfl) ?_;exact Ev.zH (F:=fun n m=>uo (lO n) n m [102,111,99,117,115,32,123,32] 0 (.mk 15 [102,111,99,117,115] 0 [] [] ks f t)) (ih (.mk 15 [102,111,99,117,115] 0 [] [] ks f t) 0 [102,111,99,117,115,32,123,32] rfl (iM _) (show ks.length<=_ by omega) (by grind [iB])).2
 |up _ ih=>exact ih
 |alt hx hy ih1 ih2=>
  intro hb;simp only[iB,iD,iF] at hb;refine Ev.fn (fun n=>by simp only[xI,q6,kV,mB];exact rfl) ?_;simp only[Syntax.ww,jM,ix0,ix1,iC,beq_self_eq_true];exact Ev.bind (ih1 (by omega)) (.dc (by omega) (Ev.bind (ih2 (by omega)) (.dc (by omega) (.eq (by simp)))))
 |nil=>
  intro x i acc hd hi hk hl;have he:i=x.kids.length:=by grind [iF]
  constructor
  ·refine kR.lp (fun n m=>by simp only[SV,ER,kV,mB];exact rfl) ?_;rw[jP (show ¬ (i:Int)<(x.kids.length:Int) by omega)];exact .dc (by omega) (.eq rfl)
  ·refine kR.lp (fun n m=>by simp only[Io,wF,kV,mB];exact rfl) ?_;rw[jP (show ¬ (i:Int)<(x.kids.length:Int) by omega)];exact .dc (by omega) (.eq rfl)
 | @cons y ys a b k l hx hy ih1 ih2=>
   intro x i acc hd hi hk hl;simp only[iB,iD] at hl;have hlt:i<x.kids.length:=by grind
   rw[iE hlt] at hd;injection hd with e1 e2
   obtain⟨n1,n2⟩:=ih2 x (i+1) (acc++(a++[59,32])) e2 (by omega) hk (by grind);have es:acc++((a++59::32::b)++[125])=acc++(a++[59,32])++(b++[125]):=by simp
   rw[es];constructor
   ·refine kR.lp (fun n m=>by simp only[SV,ER,kV,mB];exact rfl) ?_;rw[jO (show(i:Int)<(x.kids.length:Int) by omega),kO (by omega)];simp only[jM];refine kR.idx hlt ?_;rw[e1];exact kR.lQ (ih1 (by omega)) (.dc (by omega) (.dc (by omega) n1))
   ·refine kR.lp (fun n m=>by simp only[Io,wF,kV,mB];exact rfl) ?_;rw[jO (show(i:Int)<(x.kids.length:Int) by omega),kO (by omega)];simp only[jM];refine kR.idx hlt ?_;rw[e1];exact kR.lQ (ih1 (by omega)) (.dc (by omega) (.dc (by omega) n2))
theorem CG.set(h:CG x)(f t:Int):CG (.mk x.kind x.text x.num x.names x.levels x.kids f t):=by
 obtain⟨a,k,h⟩:=h;cases h with
 |nm a b c d=>exact⟨_,_,.nm a b c d⟩
 |hole=>exact⟨_,_,.hole⟩
 |app a b=>exact⟨_,_,.app a b⟩
 |agB a b=>exact⟨_,_,.agB a b⟩
 |lam a b c d=>exact⟨_,_,.lam a b c d⟩
 |pi0 a b=>exact⟨_,_,.pi0 a b⟩
 |pi a b c d=>exact⟨_,_,.pi a b c d⟩
 |YR a b c=>exact⟨_,_,.YR a b c⟩
 |pair a b=>exact⟨_,_,.pair a b⟩
 |ww a b=>exact⟨_,_,.ww a b⟩
 |agC a b c=>exact⟨_,_,.agC a b c⟩
 |Ni a b c d e=>exact⟨_,_,.Ni a b c d e⟩
 |agD=>exact⟨_,_,.agD⟩
 |sort a=>exact⟨_,_,.sort a⟩
 |num a=>exact⟨_,_,.num a⟩
 |Ob a b=>exact⟨_,_,.Ob a b⟩
 |by_ a=>exact⟨_,_,.by_ a⟩
 |agE=>exact⟨_,_,.agE⟩
theorem ShL.of: ∀{l:List Syntax},(∀x∈l,ShT 2 x)->Shx (fun _=>True) 3 l
 |[],_=>⟨_,_,.nil⟩
 |x::l,h=>by
  obtain⟨_,_,h1⟩:=h x (by simp);obtain⟨_,_,h2⟩:=ShL.of (l:=l) fun y hy=>h y (by simp [hy])
  exact⟨_,_,.cons h1 h2⟩
theorem CG.ayb(h:CG x)(h1:x.kind=1)(h2:x.from_=x.to): ∃g,x= .mk 1 [] 0 [] [] [] g g:=by
 obtain⟨a,k,h⟩:=h;cases h with
 |hole=>
  simp [Syntax.ww] at h2;exact⟨_,by rw[h2]⟩
 |ww a b=>simp [Syntax.ww] at h1;omega
 |_=>simp [Syntax.ww] at h1
theorem aB4(f t:Int)(hv:Vb v)(hx:CG x)(hy:CG y):CG (.mk 3 v 0 [] [] [x,y] f t):=by
 by_cases hh:x.kind=1/\x.from_=x.to
 ·obtain⟨g,rfl⟩:=hx.ayb hh.1 hh.2;obtain⟨_,_,h2⟩:=hy;exact⟨_,_,.agB hv h2⟩
 ·obtain⟨_,_,h1⟩:=hx;obtain⟨_,_,h2⟩:=hy;exact⟨_,_,.lam hv h1 hh h2⟩
theorem aB5 {z:Syntax}(f t:Int)(hv:Vb v)(hx:CG x)(hy:CG y)(hz:CG z):CG (.mk 9 v 0 [] [] [x,y,z] f t):=by
 obtain⟨_,_,h2⟩:=hy;obtain⟨_,_,h3⟩:=hz;by_cases hh:x.kind=1/\x.from_=x.to
 ·obtain⟨g,rfl⟩:=hx.ayb hh.1 hh.2;exact⟨_,_,.agC hv h2 h3⟩
 ·obtain⟨_,_,h1⟩:=hx;exact⟨_,_,.Ni hv h1 hh h2 h3⟩
theorem CG.two {z:Syntax}(hx:CG x)(hy:CG y)(h: ∀{a b k l},Sh (fun _=>True) 0 [x] a k->Sh (fun _=>True) 0 [y] b l-> ∃s q,Sh (fun _=>True) 0 [z] s q):CG z:=by
 obtain⟨_,_,h1⟩:=hx;obtain⟨_,_,h2⟩:=hy;exact h h1 h2
def Bd(b:kg):Prop:=Vb b.name/\CG b.t
theorem ai9{k n:Int}{f:Int}(hm: ∀(v:Str)(x y:Syntax)(f t:Int),Vb v->CG x->CG y->CG (.mk k v n [] [] [x,y] f t)){y:Syntax}(hy:CG y): ∀l:List kg,(∀b∈l,Bd b)->CG (Src.X5 k n l y f)
 |[],_=>hy
 |b::l,h=>hm _ _ _ _ _ (h b (by simp)).1 (h b (by simp)).2 (ai9 hm hy l fun c hc=>h c (by simp [hc]))
theorem azY{n:Int}(hn:n=0\/n=1\/n=2)(v:Str)(x y:Syntax)(f t:Int)(hv:Vb v)(hx:CG x)(hy:CG y):CG (.mk 4 v n [] [] [x,y] f t):=hx.two hy fun h1 h2=>⟨_,_,.pi hv hn h1 h2⟩
theorem aB6(v:Str)(x y:Syntax)(f t:Int)(hv:Vb v)(hx:CG x)(hy:CG y):CG (.mk 5 v 0 [] [] [x,y] f t):=hx.two hy fun h1 h2=>⟨_,_,.YR hv h1 h2⟩
theorem apG{l:List Str}{t:Syntax}(hl: ∀v∈l,Vb v)(ht:CG t): ∀b∈Src.typed l t,Bd b:=fun b hb=>by
 obtain⟨v,hv,rfl⟩:=List.mem_map.1 hb;exact⟨hl v hv,ht⟩
theorem apH{to:Int}: ∀{l:List Syntax}{x:Syntax},CG x->(∀y∈l,CG y)->CG (Src.pairs to l x)
 |[],x,h,_=>h
 |y::l,x,h,hl=>h.two (apH (l:=l) (hl y (by simp)) fun z hz=>hl z (by simp [hz])) fun h1 h2=>⟨_,_,.pair h1 h2⟩
theorem adH{P:Syntax->Prop}{l:List Syntax}(h: ∀y∈l,P y)(hx:P x): ∀y∈l++[x],P y:=fun y hy=>(iN.1 hy).elim (h y) fun hy=>by grind
section
variable {S:Src} (w:S.Tkn) {ex ta:Nat->Rs Syntax} (hex:∀i,DF CG (ex i)) (Ac:∀i,DF (ShT 1) (ta i))
include Ac
theorem auD: ∀(m:Nat)(x:Syntax)(i:Nat),ShT 2 x->DF (ShT 2) (S.alts ta m x i)
 |0,x,i,h=> .p9 (fun _=> .er) fun _=> .ok h
 |m+1,x,i,h=> .p9 (fun _=>(Ac _).bind fun y j hy=>auD m _ _ (by
   obtain⟨_,_,h1⟩:=h;obtain⟨_,_,h2⟩:=hy;exact⟨_,_,.alt h1 h2⟩)) fun _=> .ok h
theorem aB7(i:Nat):DF (ShT 2) (S.alt ta i):=(Ac i).bind fun x j h=>auD Ac 199 x j (by
 obtain⟨_,_,h1⟩:=h;exact⟨_,_,.up h1⟩)
theorem apI: ∀(m:Nat)(out:List Syntax)(i:Nat),(∀x∈out,ShT 2 x)->DF (fun l:List Syntax=> ∀x∈l,ShT 2 x) (S.Ll ta m out i)
 |0,out,i,h=> .p9 (fun _=> .ok h) fun _=> .er
 |m+1,out,i,h=> .p9 (fun _=> .ok h) fun _=>(aB7 Ac i).bind fun x j hx=> .p9 (fun _=>apI m _ _ (adH h hx)) fun _=> .ok (adH h hx)
theorem aja(i:Nat):DF (Shx (fun _=>True) 3) (S.block ta i):=DF.any.bind fun _ j _=>(apI Ac 200 [] j (by simp)).bind fun l k h=>DF.any.bind fun _ q _=> .ok (ShL.of h)
include w
theorem azZ(i:Nat):DF CG (S.fill ta i):=by
 have nm: ∀{i:Nat}{n:Int}{s:Str},Nm s->(n=0\/n=1)-> ∀g,DF CG ((S.levels i).bind fun l j=> .ok (.mk 0 s n [] l [] g 0) j):=fun hs hn g=>(aup w _).bind fun l j hl=> .ok ⟨_,_,.nm hs.1 trivial hn hl⟩
 refine .p9 (fun h=>nm (w.nm i (jS.1 h)) (.inl rfl) _) fun _=> .p9 (fun _=>(auo w _).bind fun s j hs=>nm hs (.inr rfl) _) fun _=> .p9 (fun _=> .ok ⟨_,_,.hole⟩) fun _=>
  .p9 (fun _=>(apC w i).bind fun n j hn=> .ok ⟨_,_,.num hn⟩) fun _=> .p9 (fun _=> .ok ⟨_,_,.agD⟩) fun _=> .p9 (fun _=>(aB0 w _).bind fun l j hl=> .ok ⟨_,_,.sort hl⟩) fun _=>
  .p9 (fun _=> .ok ⟨_,_,.agE⟩) fun _=> .p9 (fun _=>(aja Ac _).bind fun l j hl=> .ok ?_) fun _=> .er
 obtain⟨_,_,h1⟩:=hl;exact⟨_,_,.by_ h1⟩
include hex
omit Ac w in
theorem auE: ∀(m:Nat)(out:List Syntax)(i:Nat),(∀x∈out,CG x)->DF (fun l:List Syntax=> ∀x∈l,CG x) (S.adm ex m out i)
 |0,out,i,h=> .p9 (fun _=> .er) fun _=> .ok h
 |m+1,out,i,h=> .p9 (fun _=>(hex _).bind fun x j hx=>auE m _ _ (adH h hx)) fun _=> .ok h
omit Ac w in
theorem auF(o i:Nat):DF CG (S.HZ ex o i):=by
 unfold Src.HZ
 refine(hex i).bind fun x j h=> .p9 (fun _=> .ok h) fun _=> .p9 (fun _=>(hex _).bind fun t k ht=>DF.any.bind fun _ q _=> .ok (h.two ht fun h1 h2=>⟨_,_,.Ob h1 h2⟩)) fun _=>
  .p9 (fun _=>(auE hex 199 [] j (by simp)).bind fun l k hl=>DF.any.bind fun _ q _=> .ok ((apH h hl).set _ _)) fun _=> .er
theorem axH(i:Nat):DF CG (S.basic ex ta i):=by
 exact .p9 (fun _=>auF hex _ _) fun _=>(azZ w Ac i).bind fun x j h=> .ok (h.set _ _)
omit Ac w hex in
theorem apJ: ∀(m:Nat)(x:Syntax)(i:Nat),CG x->DF CG (S.Gy m x i)
 |0,x,i,h=> .p9 (fun _=> .er) fun _=> .ok h
 |m+1,x,i,h=> .p9 (fun _=>apJ m _ _ (by
   obtain⟨_,_,h1⟩:=h;exact⟨_,_,.ww (by cases (S.K i).2==[46,50]<;>simp) h1⟩)) fun _=> .ok h
theorem auG(i:Nat):DF CG (S.Zx ex ta i):=(axH w hex Ac i).bind fun x j h=>apJ 200 x j h
theorem auH: ∀(m:Nat)(x:Syntax)(i:Nat),CG x->DF CG (S.US ex ta m x i)
 |0,x,i,h=> .p9 (fun _=> .er) fun _=> .ok h
 |m+1,x,i,h=> .p9 (fun _=>(auG w hex Ac i).bind fun y j hy=>auH m _ _ (h.two hy fun h1 h2=>⟨_,_,.app h1 h2⟩)) fun _=> .ok h
theorem az0(i:Nat):DF (fun x=>CG x\/x.kind=17) (S.item ex ta i):=by
 exact .p9 (fun _=> .ok (.inr rfl)) fun _=>fun x j h=> .inl (((auG w hex Ac i).bind fun x j h=>auH w hex Ac 199 x j h) x j h)
theorem ama: ∀(m:Nat)(out:List Syntax)(i:Nat),(∀x∈out,CG x\/x.kind=17)->DF (fun l:List Syntax=> ∀x∈l,CG x\/x.kind=17) (S.zC ex ta m out i)
 |0,out,i,h=> .p9 (fun _=> .er) fun _=> .ok h
 |m+1,out,i,h=> .p9 (fun _=>(az0 w hex Ac i).bind fun x j hx=>ama m _ _ (adH h hx)) fun _=> .ok h
theorem aDk(i:Nat):DF CG (S.op ex ta i):=by
 refine(ama w hex Ac 200 [] i (by simp)).bind fun l j hl=> ?_
 match l,hl with
 |[],_=>exact .er
 |x::r,hl=>
  refine .p9 (fun hc=> .ok ?_) fun _=> .p9 (fun h0=> .ok (w.np _ hl (jS.1 h0))) fun _=> ?_
  ·grind
  ·split<;>exact .er
omit Ac
theorem aa5(o s:Str)(i:Nat):DF (fun l:List kg=> ∀b∈l,Bd b) (S.binder ex o s i):=by
 refine DF.any.bind fun _ i _=>DF.bind (P:=fun l:List Str=> ∀v∈l,Vb v) (.p9 (fun _=>(afx w _).bind fun s j hs=> .ok fun v hv=>by grind) fun _=>fun l j h=>(aun w i l j h).2) fun l i hl=>
  DF.any.bind fun _ i _=>(hex i).bind fun t i ht=>DF.any.bind fun _ i _=> .ok (apG hl ht)
omit w in
theorem ab3{k n:Int}(hm: ∀(v:Str)(x y:Syntax)(f t:Int),Vb v->CG x->CG y->CG (.mk k v n [] [] [x,y] f t))(o:Nat){l:List kg}(hl: ∀b∈l,Bd b)(sep:Str)(i:Nat):DF CG (S.product ex k n o l sep i):=
 DF.any.bind fun _ i _=>(hex i).bind fun x j hx=> .ok (ai9 hm hx l hl)
theorem aoB: ∀(m:Nat)(out:List kg)(i:Nat),(∀b∈out,Bd b)->DF (fun l:List kg=> ∀b∈l,Bd b) (S.Pl ex m out i)
 |0,out,i,h=> .p9 (fun _=> .ok h) fun _=> .er
 |m+1,out,i,h=> .p9 (fun _=> .ok h) fun _=> .p9 (fun _=>(aa5 w hex _ _ _).bind fun l j hl=>aoB m _ _ fun b hb=>(iN.1 hb).elim (h b) (hl b)) fun _=>(afx w i).bind fun s j hs=>aoB m _ _ fun b hb=>
   (iN.1 hb).elim (h b) fun hb=>by rw[iQ.1 hb];exact⟨hs,_,_,.hole⟩
theorem aB8(i:Nat):DF CG (S.agt ex i):=(aoB w hex 200 [] _ (by simp)).bind fun l j hl=>DF.any.bind fun _ j _=>(hex j).bind fun x k hx=> .ok (ai9 (fun v x y f t=>aB4 f t) hx l hl)
theorem aB9(i:Nat):DF CG (S.Ni ex i):=(afx w _).bind fun s j hs=>DF.bind (P:=CG) (.p9 (fun _=>hex _) fun _=> .ok ⟨_,_,.hole⟩) fun t k ht=>DF.any.bind fun _ k _=>(hex k).bind fun v q hv=>DF.any.bind fun _ q _=>(hex q).bind fun b r hb=> .ok (aB5 _ _ hs ht hv hb)
include Ac
omit hex Ac in
theorem aCa: ∀(m:Nat)(out:List Str)(i:Nat),(∀v∈out,Vb v)-> ∀v∈S.wr m out i,Vb v
 |0,_,_,_=>by intro v hv;cases hv
 |m+1,out,i,h=>by
  unfold Src.wr;cases S.sym [58] i with
  |true=>exact h
  |false=>
   cases hc:S.isVar i with
   |false=>intro v hv;cases hv
   |true=>
    refine aCa m _ _ fun v hv=>(iN.1 hv).elim (h v) fun hv=> ?_
    rw[iQ.1 hv];exact afx w i _ (S.nx i) (by unfold Src.var;rw[hc];rfl)
theorem axI(i:Nat):DF CG (S.Oa ex ta i):=by
 refine(aDk w hex Ac i).bind fun x j hx=> .p9 (fun _=>(hex _).bind fun b k hb=> .ok ?_) fun _=> .ok hx
 cases hc:x.kind==13&&(x.from_==S.F i&& !(S.written i).isEmpty) with
 |false=>exact hx.two hb fun h1 h2=>⟨_,_,.pi0 h1 h2⟩
 |true=>
  rw[iH,jS] at hc;refine ai9 (azY (.inl rfl)) hb _ (apG ?_ ?_)
  ·grind [Src.written,aCa]
  ·obtain⟨_,_,h⟩:=hx;cases h with
   |Ob _ h2=>exact⟨_,_,h2⟩
   |ww a b=>have:=hc.1;simp [Syntax.ww] at this;omega
   |_=>have:=hc.1;simp [Syntax.ww] at this
theorem axJ(i:Nat):DF CG (S.ye ex ta i):=by
 exact .p9 (fun _=>aB8 w hex i) fun _=> .p9 (fun _=>aB9 w hex i) fun _=> .p9 (fun _=>(aa5 w hex _ _ _).bind fun l j hl=>ab3 hex aB6 _ hl _ _) fun _=>
  .p9 (fun _=>(aa5 w hex _ _ _).bind fun l j hl=>ab3 hex (azY (.inr (.inl rfl))) _ hl _ _) fun _=> .p9 (fun _=>(aa5 w hex _ _ _).bind fun l j hl=>ab3 hex (azY (.inr (.inr rfl))) _ hl _ _) fun _=>axI w hex Ac i
omit hex Ac in
theorem apK: ∀(m:Nat)(out:List Str)(i:Nat),(out≠[]/\ ∀v∈out,Nm v)->DF (fun l:List Str=>l≠[]/\ ∀v∈l,Nm v) (S.Lm m out i)
 |0,out,i,h=> .p9 (fun _=> .er) fun _=> .ok h
 |m+1,out,i,h=> .p9 (fun hc=>apK m _ _ ⟨by simp,fun v hv=>(iN.1 hv).elim (h.2 v) fun hv=>by rw[iQ.1 hv];exact w.nm i (jS.1 hc)⟩) fun _=> .ok h
def KOk(v:Str)(p:List Str×List Syntax):Prop:= ∀f t,ShT 1 (.mk 15 v 0 p.1 [] p.2 f t)
theorem axK(v:Str)(i:Nat):DF (KOk v) (S.known ex ta v i):=by
 have nms: ∀{ns:List Str},aum v ns->KOk v (ns,[]):=fun h f t=>⟨_,_,.nms h⟩
 refine .p9 (fun hw=>(aja Ac _).bind fun l j hl=> .ok fun f t=> ?_) fun _=> .p9 (fun hw=>(hex _).bind fun x j hx=> .ok fun f t=> ?_) fun _=> .p9 (fun hw=> .ok (nms (.inl ⟨hw,rfl⟩))) fun _=>
  .p9 (fun hw=>(afx w _).bind fun s j hs=> .ok (nms (.inr (.inl ⟨jS.1 hw,s,rfl,hs⟩)))) fun _=> .p9 (fun hw=>(aun w _).bind fun l j hl=> .ok (nms (.inr (.inr (.inl ⟨jS.1 hw,hl⟩))))) fun _=>
  .p9 (fun hw=>(ai8 w _).bind fun s j hs=> .ok (nms (.inr (.inr (.inr (.inl ⟨hw,s,rfl,hs⟩)))))) fun _=> .p9 (fun hw=>(auo w _).bind fun s j hs=>(apK w 199 [s] j ⟨by simp,fun v hv=>by grind⟩).bind fun l k hl=> .ok (nms (.inr (.inr (.inr (.inr ⟨jS.1 hw,hl⟩)))))) fun _=>
  .p9 (fun hw=>(Ac _).bind fun x j hx=> .ok fun f t=> ?_) fun _=> .er
 ·obtain⟨_,_,h1⟩:=hl;rw[jS.1 hw];exact⟨_,_,.foc h1⟩
 ·obtain⟨_,_,h1⟩:=hx;exact⟨_,_,.ex hw h1⟩
 ·obtain⟨_,_,h1⟩:=hx;rw[ju,jS,jS] at hw;exact⟨_,_,.No hw h1⟩
theorem axL(i:Nat):DF (ShT 1) (S.WM ex ta i):=by
 refine DF.bind (P:=KOk (S.K i).2) (.p9 (fun hc=>(aja Ac i).bind fun l j hl=> .ok fun f t=> ?_) fun _=> .p9 (fun _=>axK w hex Ac _ i) fun _=> .er) fun p j hp=> .ok (hp _ _)
 obtain⟨_,_,h1⟩:=hl;unfold Src.sym Src.is at hc;rw[iH,jS,jS] at hc;rw[hc.2];exact⟨_,_,.blk h1⟩
end
theorem afC{S:Src}(w:S.Tkn): ∀d:Nat,(∀i,DF CG (S.u0 d i))/\ ∀i,DF (ShT 1) (S.DB d i)
 |0=>⟨fun _=> .er,fun _=> .er⟩
 |d+1=>⟨axJ w (afC w d).1 (afC w d).2,axL w (afC w d).1 (afC w d).2⟩
def Is(S:Src):Nat->List Tk->Nat->Prop
 |i,[],j=>i=j
 |i,t::l,j=>S.K i=t/\i+1<S.len/\Is S (i+1) l j
theorem Is.app{S:Src}{j:Nat}{m:List Tk}: ∀{l:List Tk}{i:Nat},Is S i (l++m) j-> ∃k,Is S i l k/\Is S k m j
 |[],i,h=>⟨i,rfl,h⟩
 |t::l,i,h=>by
  obtain⟨k,h1,h2⟩:=Is.app (l:=l) h.2.2;exact⟨k,⟨h.1,h.2.1,h1⟩,h2⟩
def Rq{α:Type}(P:α->Prop)(j:Nat)(r:Rs α):Prop:=(∃a,r= .er 7 a)\/ ∃x,r= .ok x j/\P x
namespace Rq
variable {α β:Type} {P:α->Prop} {Q:β->Prop} {j k:Nat}
theorem ok{x:α}(h:P x):Rq P j (.ok x j):= .inr ⟨x,rfl,h⟩
theorem deep{a:Int}:Rq P j (.er 7 a):= .inl ⟨a,rfl⟩
theorem bind{r:Rs α}{f:α->Nat->Rs β}(h:Rq P j r)(hf: ∀x,P x->Rq Q k (f x j)):Rq Q k (r.bind f):=by
 rcases h with⟨a,rfl⟩|⟨x,rfl,hx⟩
 ·exact .inl ⟨a,rfl⟩
 ·exact hf x hx
theorem imp{P':α->Prop}{r:Rs α}(h:Rq P j r)(hp: ∀x,P x->P' x):Rq P' j r:=Or.imp id (fun ⟨x,e,hx⟩=>⟨x,e,hp x hx⟩) h
end Rq
section
variable {S:Src}
theorem Jr{i:Nat}(h:i+1<S.len):S.nx i=i+1:=if_pos h
theorem auI{i:Nat}{t:Tk}(h:S.K i=t)(k:Int)(s:Str):S.is k s i=(t.1==k&&t.2==s):=by unfold Src.is;rw[h]
theorem mT{i:Nat}{t:Tk}(h:S.K i=t)(s:Str):S.sym s i=(t.1==2&&t.2==s):=auI h 2 s
theorem Of{i:Nat}{t:Tk}(h:S.K i=t)(s:Str):S.key s i=(t.1==3&&t.2==s):=auI h 3 s
theorem ajb{i:Nat}{t:Tk}(h:S.K i=t)(hi:i+1<S.len)(ht:(t.1==2||t.1==3)=true):S.take t.2 i= .ok () (i+1):=by
 grind [Src.take,mT,Of,Jr]
theorem Kl{i:Nat}(h:S.K i=(2,s))(hi:i+1<S.len):S.take s i= .ok () (i+1):=ajb h hi rfl
theorem aoC{i:Nat}(h:S.K i=(1,MS n))(hi:i+1<S.len):S.num i= .ok (n:Int) (i+1):=by
 grind [Src.num,Jr,Jd]
def Nxx(S:Src)(j:Nat):Prop:=S.sym [43] j=false/\S.sym [40] j=false
theorem Nxx.of{j:Nat}(h:S.K j=(2,s))(hs:(!(s==[43])&& !(s==[40]))=true):Nxx S j:=by
 simp only[iH,jo] at hs;exact⟨by rw[mT h];exact hs.1,by rw[mT h];exact hs.2⟩
theorem amb{a:kf}(h:adq a){i j:Nat}(hi:Is S i (atK a) j)(hj:Nxx S j)(f:Nat):S.lz (f+1) i= .ok [a] j:=by
 obtain⟨⟨p1,p2⟩,h3⟩:=h;have hp:((a.plus.toNat:Nat):Int)=a.plus:=by omega
 have no: ∀out:List kf,S.plus out j= .ok out j:=fun out=>by unfold Src.plus;rw[hj.1];rfl
 unfold atK at hi;unfold Src.lz;cases h0:a.name==[] with
 |true=>
  rw[h0] at hi;obtain⟨k1,k2,rfl⟩:=hi;rw[show((S.K i).1==1)=true by rw[k1];rfl,aoC k1 k2];simp only[jM,Rs.bind];rw[no,hp,<-jS.1 h0]
 |false=>
  rw[h0] at hi
  have sn:S.K i=(0,a.name)->S.ML i= .ok a.name (S.nx i):=fun e=>by
   grind [Src.ML,Src.simple]
  cases h1:a.plus==0 with
  |true=>
   rw[h1] at hi;obtain⟨k1,k2,rfl⟩:=hi;rw[show((S.K i).1==1)=false by rw[k1];rfl,hj.2,jd,jd,sn k1,Jr k2];simp [Rs.bind];rw[no,<-jS.1 h1]
  |false=>
   rw[h1] at hi;obtain⟨k1,k2,k3,k4,k5,k6,rfl⟩:=hi;rw[show((S.K i).1==1)=false by rw[k1];rfl,show S.sym [40] (i+1)=false by rw[mT k3];rfl,jd,jd,sn k1,Jr k2];simp [Rs.bind];unfold Src.plus;rw[mT k3,Jr k4,aoC k5 k6];simp [Rs.bind]
   simp_all
theorem SA{α β:Type}{one:Nat->Rs (List α)}{g:β->List Tk}{v:β->List α}: ∀{bs:List β},bs≠[]->(∀b∈bs,∀i j,Is S i (g b) j->Nxx S j->Rq (· =v b) j (one i))->
 ∀(m:Nat)(out:List α)(i j:Nat),Is S i (al8 (bs.map g)) j->Nxx S j->S.sym [44] j=false->Rq (· =out++bs.flatMap v) j (S.listed one m out i)
 |[b],_,h,0,_,_,_,_,_,_=> .deep
 |[b],_,h,m+1,out,i,j,hi,hj,hc=>by
  refine(h b (by simp) i j hi hj).bind fun l hl=> ?_
  rw[hc,hl];exact .ok (by simp)
 |b::c::bs,_,h,0,_,_,_,_,_,_=> .deep
 |b::c::bs,_,h,m+1,out,i,j,hi,hj,hc=>by
  obtain⟨k,h1,h2,h3,h4⟩:=Is.app (l:=g b) (m:=(2,[44])::al8 ((c::bs).map g)) hi;refine(h b (by simp) i k h1 (.of h2 rfl)).bind fun l hl=> ?_
  rw[mT h2,Jr h3,hl];refine(SA (bs:=c::bs) (by simp) (fun d hd=>h d (by simp [hd])) m (out++v b) (k+1) j h4 hj hc).imp fun x e=> ?_
  rw[e,jc];rfl
theorem amc{a:j7}(h:W3 a){i j:Nat}(hi:Is S i (lvK a) j)(hj:Nxx S j):Rq (· =a) j (S.level i):=by
 unfold lvK at hi;unfold Src.level;rcases h with⟨h,h1⟩|⟨h,h1,h2⟩
 ·rw[h] at hi;obtain⟨k1,k2,rfl⟩:=hi;rw[mT k1,Jr k2];exact .ok (by rw[<-h,<-h1])
 ·rw[h] at hi
  have ns:S.sym [95] i=false/\ ∃f,S.len=f+2:=by
   have key: ∀{t:Tk}{k:List Tk},Is S i (t::k) j->(t.1==2&&t.2==[95])=false->S.sym [95] i=false/\ ∃f,S.len=f+2:=fun h ht=>⟨by rw[mT h.1];exact ht,S.len-2,by have:=h.2.1;omega⟩
   have atk: ∀{a:kf},adq a-> ∃t k,atK a=t::k/\(t.1==2&&t.2==[95])=false:=fun{a} _=>by
    unfold atK;cases a.name==[] with
    |true=>exact⟨_,_,rfl,rfl⟩
    |false=>cases a.plus==0<;>exact⟨_,_,rfl,rfl⟩
   revert hi;cases a.lz.length==1 with
   |false=>exact fun hi=>key hi rfl
   |true=>
    match a.lz,h1,h2 with
    |x::xs,_,h2=>
     obtain⟨t,k,e,ht⟩:=atk (h2 x (by simp));intro hi;cases xs with
     |nil=>
      have hi:Is S i (atK x) j:=hi;rw[e] at hi;exact key hi ht
     |cons y ys=>
      have hi:Is S i (atK x++_) j:=hi;rw[e] at hi;exact key hi ht
  obtain⟨hs,f,hf⟩:=ns;rw[hs,hf];have fin: ∀{l:List kf},l=a.lz->Rq (· =a) j (.ok {hole:=false,lz:=l} j):=fun e=> .ok (by rw[e,<-h])
  cases h3:a.lz.length==1 with
  |true=>
   match hl:a.lz,h1,h2,h3 with
   |[x],_,h2,_=>
    rw[hl] at hi;rw[amb (h2 x (by simp)) hi hj];exact fin hl.symm
  |false=>
   rw[h3] at hi;obtain⟨k1,k2,k3,k4,k5⟩:=hi;obtain⟨k,m1,m2,m3,rfl⟩:=k5.app;refine Rq.bind (P:=(· =a.lz)) ?_ fun l hl=>fin hl
   unfold Src.lz;rw[show((S.K i).1==1)=false by rw[k1];rfl,auI k1,mT k3,jO k2,Jr k2,Jr k4];refine Rq.bind (P:=(· =a.lz)) (j:=k+1) (Rq.bind (P:=(· =a.lz)) (j:=k) ?_ fun l hl=> ?_) fun l hl=> ?_
   ·refine(SA (v:=fun x=>[x]) h1 (fun b hb i j hi hj=> ?_) 200 [] _ k m1 (.of m2 rfl) (by rw[mT m2];rfl)).imp fun x e=>by rw[e];simp
    rw[amb (h2 b hb) hi hj];exact .ok rfl
   ·rw[Kl m2 m3];exact .ok hl
   ·unfold Src.plus;rw[hj.1];exact .ok hl
theorem afD{a:List j7}(h: ∀x∈a,W3 x){i j:Nat}(hi:Is S i (lsK a) j)(hj:S.sym [46,123] j=false):Rq (· =a) j (S.levels i):=by
 unfold Src.levels;cases a with
 |nil=>
  obtain rfl:i=j:=hi;rw[hj];exact .ok rfl
 |cons x xs=>
  obtain⟨k1,k2,k3⟩:=hi;obtain⟨k,m1,m2,m3,rfl⟩:=k3.app;rw[mT k1,Jr k2];refine(SA (v:=fun x=>[x]) (bs:=x::xs) (by simp) (fun b hb i j hi hj=> ?_) 200 [] _ k m1 (.of m2 rfl) (by rw[mT m2];rfl)).bind fun l hl=> ?_
  ·exact(amc (h b hb) hi hj).bind fun y hy=> .ok (by rw[hy])
  ·rw[Kl m2 m3];exact .ok (by rw[hl];simp)
end
def bdL:List Tk:=[(2,[46,49]),(2,[46,50]),(2,[40]),(2,[40,41]),(2,[95]),(2,[64]),(2,[45,62]),(2,[46,123]),(3,[80,114,111,112]),(3,[84,121,112,101]),(3,[98,121])]
def edB(t:Tk):Bool:=(!(t.1==0)&& !(t.1==1))&& !bdL.contains t
def Ed(S:Src)(j:Nat):Prop:=edB (S.K j)=true
def bgL:List Tk:=[(2,[40]),(2,[40,41]),(2,[95]),(2,[64]),(3,[80,114,111,112]),(3,[84,121,112,101]),(3,[98,121])]
def bgB(t:Tk):Bool:=t.1==0||(t.1==1||bgL.contains t)
theorem stL {k n t f' t':Int}{ns:List Str}{ls:List j7}{ks ks':List Syntax}(h:ks'.map mz=ks.map mz):mz (.mk k s n ns ls ks' f' t')=mz (.mk k s n ns ls ks f t):=by
 rw[QS,QS];simp [Syntax.ww,h]
theorem st1 {x':Syntax}(h:mz x'=mz x):[x'].map mz=[x].map mz:=by simp [h]
theorem st2 {x' y':Syntax}(h:mz x'=mz x)(h2:mz y'=mz y):[x',y'].map mz=[x,y].map mz:=by simp [h,h2]
theorem afE(x:Syntax):(mz x).kind=x.kind:=by rw[QS];simp [Syntax.ww]
def Re(x:Syntax)(j:Nat)(r:Rs Syntax):Prop:=Rq (fun y=>mz y=mz x) j r
section
variable {S:Src} {ex ta:Nat->Rs Syntax}
theorem Ed.of{j:Nat}{t:Tk}(h:S.K j=t)(ht:edB t=true):Ed S j:=by unfold Ed;rw[h];exact ht
namespace Ed
variable {j:Nat} (h:Ed S j)
include h
theorem ne{t:Tk}(ht:bdL.contains t=true):S.K j≠t:=fun e=>by
 grind [Ed,edB]
theorem k01:((S.K j).1==0)=false/\((S.K j).1==1)=false:=by
 grind [Ed,edB]
theorem is{k:Int}(ht:bdL.contains (k,s)=true):S.is k s j=false:=by
 cases hc:S.is k s j with
 |false=>rfl
 |true=>
  unfold Src.is at hc;rw[iH,jS,jS] at hc;exact absurd (Prod.ext hc.1 hc.2) (h.ne ht)
theorem sy(ht:bdL.contains (2,s)=true):S.sym s j=false:=h.is ht
theorem var:S.isVar j=false:=by
 unfold Src.isVar Src.simple;rw[h.k01.1,h.sy rfl];rfl
theorem stop(hS: ∀y,S.isS y=false):Stop S j where
 s1:=h.sy rfl
 s2:=h.sy rfl
 b:=by
  unfold Src.DA;rw[h.k01.1,h.k01.2,h.sy rfl,h.sy rfl,h.sy rfl,h.sy rfl,show S.key [80,114,111,112] j=false from h.is rfl,show S.key [84,121,112,101] j=false from h.is rfl,show S.key [98,121] j=false from h.is rfl];rfl
 s:=by grind [Src.II]
end Ed
theorem bg{i:Nat}(h:bgB (S.K i)=true):S.DA i=true/\S.ye ex ta i=S.Oa ex ta i:=by
 have:S.DA i=true/\((S.key [102,117,110] i=false/\S.key [108,101,116] i=false)/\S.key [83,105,103,109,97] i=false)/\S.sym [123] i=false/\S.sym [91] i=false:=by
  unfold Src.DA Src.key Src.sym Src.is;revert h;generalize S.K i=t;intro h;unfold bgB at h;rw[ju,ju,iP] at h;obtain⟨a,b⟩:=t;rcases h with h|h|h
  ·grind
  ·grind
  ·revert h;generalize (a,b)=t;revert t;decide
 grind [Src.ye]
theorem opE(hS: ∀y,S.isS y=false){i j:Nat}(h:Re x j (S.app ex ta i))(hb:bgB (S.K i)=true)(hj:Stop S j)(h17:x.kind≠17):Re x j (S.op ex ta i):=by
 have hs: ∀i,S.II i=false:=fun i=>by grind [Src.II]
 unfold Src.op Src.zC Src.item;rw[hs,(bg (ex:=ex) (ta:=ta) hb).1];rcases h with⟨a,h⟩|⟨y,h,hy⟩
 ·rw[h];exact .deep
 ·simp;rw[h];simp [Rs.bind];rw[hj.zC];have:(y.kind==17)=false:=by grind [afE]
  unfold Src.afd;simp [this];exact .ok hy
theorem exE(hS: ∀y,S.isS y=false){i j:Nat}(h:Re x j (S.app ex ta i))(hb:bgB (S.K i)=true)(hj:Ed S j)(h17:x.kind≠17):Re x j (S.ye ex ta i):=by
 rw[(bg hb).2];refine(opE hS h hb (hj.stop hS) h17).bind fun y hy=> ?_
 rw[hj.sy rfl];exact .ok hy
theorem auJ{P:Syntax->Prop}{i j:Nat}(h40:S.K i=(2,[40]))(hi:i+1<S.len)(h:Rq P j (ex (i+1)))(h41:S.K j=(2,[41]))(hj:j+1<S.len):Rq P (j+1) (S.basic ex ta i):=by
 unfold Src.basic Src.HZ;rw[mT h40,Jr hi];refine h.bind fun x hx=> ?_
 rw[mT h41,Jr hj];exact .ok hx
theorem acH{P:Syntax->Prop}{i j:Nat}(h:Rq P j (S.basic ex ta i))(h1:S.sym [46,49] j=false)(h2:S.sym [46,50] j=false):Rq P j (S.Zx ex ta i):=h.bind fun x hx=>by
 unfold Src.Gy;rw[h1,h2];exact .ok hx
theorem aoD{P:Syntax->Prop}{i j:Nat}(h:Rq P j (S.Zx ex ta i))(h1:S.DA j=false):Rq P j (S.app ex ta i):=h.bind fun x hx=>by
 unfold Src.US;rw[h1];exact .ok hx
theorem ajc(hS: ∀y,S.isS y=false){i j:Nat}(h:Re x j (S.fill ta i))(hp:S.sym [40] i=false)(hb:bgB (S.K i)=true)(hj:Ed S j)(h17:x.kind≠17):Re x j (S.ye ex ta i):=by
 refine exE hS (aoD (acH ?_ (hj.sy rfl) (hj.sy rfl)) (hj.stop hS).b) hb hj h17;unfold Src.basic;rw[hp];exact h.bind fun y hy=> .ok (by rw[<-hy,QS,QS y];rfl)
theorem vk(h:Vb v):(vtk v=(2,[95])/\v=[95])\/(vtk v=(0,v)/\an9 v=false):=by
 rcases h with rfl|⟨h,h2⟩
 all_goals grind [vtk]
theorem apL(h:Vb v){i:Nat}(hk:S.K i=vtk v)(hs:([95]==s)=false):S.sym s i=false:=by
 grind [mT,vk]
theorem auK(h:Vb v){i:Nat}(hk:S.K i=vtk v):S.isVar i=true/\(S.K i).2=v:=by
 grind [Src.isVar,Src.simple,mT,vk]
theorem aoE(h:Vb v){i:Nat}(hk:S.K i=vtk v)(hi:i+1<S.len):S.var i= .ok v (i+1):=by
 grind [Src.var,auK,Jr]
theorem auL: ∀{vs:List Str}(m:Nat)(out:List Str)(i j:Nat),(∀v∈vs,Vb v)->Is S i (vs.map vtk) j->S.isVar j=false->Rq (· =out++vs) j (S.Gx m out i)
 |[],0,out,i,j,_,hi,hj=>by
  obtain rfl:i=j:=hi;unfold Src.Gx;rw[hj];exact .ok (by simp)
 |[],m+1,out,i,j,_,hi,hj=>by
  obtain rfl:i=j:=hi;unfold Src.Gx;rw[hj];exact .ok (by simp)
 |v::vs,0,out,i,j,h,hi,hj=>by
  unfold Src.Gx;rw[(auK (h v (by simp)) hi.1).1];exact .deep
 |v::vs,m+1,out,i,j,h,hi,hj=>by
  unfold Src.Gx;rw[(auK (h v (by simp)) hi.1).1,(auK (h v (by simp)) hi.1).2,Jr hi.2.1];exact(auL m _ _ j (fun u hu=>h u (by simp [hu])) hi.2.2 hj).imp fun x e=>by rw[e];simp
theorem axM {o c:Str}{k:List Tk}{i j:Nat}(hv:Vb v)(hi:Is S i ((2,o)::vtk v::(2,[58])::(k++(2,c)::l)) j)(hex: ∀p q,Is S p k q->S.K q=(2,c)->Re x q (ex p)):
 ∃q,Is S q l j/\(∃p,q=p+1/\S.K p=(2,c))/\Rq (fun b=> ∃t,mz t=mz x/\b=[{name:=v,t:=t}]) q (S.binder ex o c i):=by
 obtain⟨k0,n0,k1,n1,k2,n2,hi⟩:=hi;obtain⟨q,a1,k3,n3,hi⟩:=hi.app;refine⟨q+1,hi,⟨q,rfl,k3⟩,?_⟩;unfold Src.binder;rw[Kl k0 n0];refine Rq.bind (P:=(· =[v])) (j:=i+2) ?_ fun l hl=> ?_
 ·cases o==[91] with
  |true=>rw[aoE hv k1 n1];exact .ok rfl
  |false=>
   unfold Src.vars;rw[aoE hv k1 n1];exact auL (vs:=[]) 199 [v] (i+2) (i+2) (by simp) rfl (by grind [Src.isVar,Src.simple,mT])
 ·rw[Kl k2 n2];refine(hex _ _ a1 k3).bind fun t ht=> ?_
  rw[Kl k3 n3,hl];exact .ok ⟨t,ht,rfl⟩
theorem az1(hS: ∀y,S.isS y=false)(h:Vb v){i:Nat}(hk:S.K i=vtk v)(hi:i+1<S.len)(hj:Ed S (i+1)): ∀d,Rq (fun y=>y.kind=0\/y.kind=1) (i+1) (S.u0 d i)
 |0=> .deep
 |d+1=>by
  have go: ∀x:Syntax,(x.kind=0\/x.kind=1)->Re x (i+1) (S.fill (S.DB d) i)->Rq (fun y=>y.kind=0\/y.kind=1) (i+1) (S.u0 (d+1) i):=fun x hx h1=>by
   refine Rq.imp (P:=fun y=>mz y=mz x) (ajc hS h1 (apL h hk rfl) ?_ hj (by omega)) fun y hy=>by grind [afE]
   rw[hk];rcases vk h with⟨e,_⟩|⟨e,_⟩<;>rw[e]<;>rfl
  unfold Src.fill at go;rcases vk h with⟨e,_⟩|⟨e,_⟩
  ·refine go (.mk 1 [] 0 [] [] [] 0 0) (.inr rfl) ?_;rw[hk.trans e,mT (hk.trans e),mT (hk.trans e),Jr hi];exact .ok (stL rfl)
  ·refine go (.mk 0 v 0 [] [] [] 0 0) (.inl rfl) ?_;rw[hk.trans e,Jr hi];refine(afD (a:=[]) (by simp) (i:=i+1) (j:=i+1) rfl (hj.sy rfl)).bind fun l hl=> ?_
   rw[hl];exact .ok (stL rfl)
theorem aCb(h:Vb v){i:Nat}(k0:S.K i=(2,[40]))(k1:S.K (i+1)=vtk v)(k2:S.K (i+2)=(2,[58]))(hi:i+2+1<S.len):S.written i=[v]:=by
 unfold Src.written;obtain⟨f,hf⟩: ∃f,S.len-(i+1)=f+2:=⟨S.len-(i+1)-2,by omega⟩
 grind [mT,Src.wr,apL,auK]
theorem afF {k:List Tk}{i j:Nat}(hi:Is S i ((2,[123])::(k++(2,[125])::l)) j)(h: ∀p q,Is S p k q->S.sym [125] q=true->Rq (fun l:List Syntax=>l.map mz=xs.map mz) q (S.Ll ta 200 [] p)):
 ∃q,Is S q l j/\Rq (fun l:List Syntax=>l.map mz=xs.map mz) q (S.block ta i):=by
 obtain⟨k0,n0,hi⟩:=hi;obtain⟨q,a1,k1,n1,hi⟩:=hi.app;refine⟨q+1,hi,?_⟩;unfold Src.block;rw[Kl k0 n0];refine(h _ _ a1 (by rw[mT k1];rfl)).bind fun l hl=> ?_
 rw[Kl k1 n1];exact .ok hl
end
end Go.Abs
end
