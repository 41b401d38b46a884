/- A part of the proof: plain facts. -/
import Derived.Test.YtdkeelhebopgkaaGreatDoorLawA
import Derived.Test.YtdkeelhebopgkaaGreatDoorReadA
set_option linter.all false
open Bool renaming true_and→iH,and_eq_true→iI,false_and→iM,not_false→iQ,and_false→iT,not_true→iU,false_or→jf,and_true→jm
open Int renaming le_refl→iJ,toNat_natCast→iW,natCast_nonneg→je
open Nat renaming zero_le→iK,le_refl→iN,strongRecOn→jd,lt_succ_self→jg,le_succ→jk,le_of_lt→jn,zero_add→jp,pow_le_pow_right→jv
open Option renaming bind_some→iL
open List renaming length_drop→iO,getElem_mem→iP,length_cons→iR,drop_eq_getElem_cons→iS,cons_append→iV,take_append_getElem→iX,mem_singleton→iY,mem_append→iZ,contains_cons→ja,drop_eq_nil_of_le→jb,drop_append_of_le_length→jc,length_nil→jh,drop_drop→ji,drop_zero→jj,all_cons→jl,getElem?_eq_getElem→jo,take_of_length_le→jq,take_append_drop→jr,dropLast_eq_take→jt,getElem?_eq_none→ju,take_nil→jw,take_succ_cons→jx
noncomputable section
namespace Go.Abs
variable {k:Int}{lH:List Str}{l:List kg}{j m o q:Nat}{r s t:Str}{x:Syntax}{c w:UInt8}
namespace OY
variable {S:nS} (h:OY S) (p:Pos S) {ex ta:Nat->Rs Syntax}
include h p
theorem alts(EW:L7 S ta){o:Nat}:∀(m:Nat)(x:Syntax)(i:Nat),Ex S o x i->(S.alts ta m x i).M1 S (Ex S o)
 |0,x,i,hx=>.C4 (fun hc=>by obtain⟨e,hl⟩:=h.Kj hx.2.1 hc;rw[e];exact .er hl) fun _=>hx
 |m+1,x,i,hx=>by
  obtain⟨h1,h2,h3,h4,h5⟩:=hx;refine .C4 (fun hc=>?_) fun _=>⟨h1,h2,h3,h4,h5⟩
  obtain⟨e,hl⟩:=h.Kj h2 hc;rw[e];refine(EW _ hl).bind fun y j ⟨k1,k2,k3,k4,k5⟩=>alts EW m _ j ?_
  have a2:=p.ef i h2;have a3:=p.ff (show i<=i+1 by omega) hl;have a4:=k3.le;have a5:=h3.le;exact⟨by omega,k2,.two h3 k3 (iJ _) (by omega) (by omega) (iJ _),h4,k5⟩
theorem alt(EW:L7 S ta):L7 S (S.alt ta):=fun i hi=>(EW i hi).bind fun x j hx=>h.alts p EW 199 x j hx
theorem aaf(EW:L7 S ta){o:Nat}:∀(m:Nat)(out:List Syntax)(i:Nat),o<=i->i<S.len->Chn (S.F o) (S.E i) out->out.length+m=200->(S.aaf ta m out i).M1 S fun l j=>i<=j/\j<S.len/\Chn (S.F o) (S.E j) l/\l.length<=200
 |0,out,i,ho,hi,hc,hm=>.C4 (fun _=>⟨iN _,hi,hc,by omega⟩) fun _=>.er hi
 |m+1,out,i,ho,hi,hc,hm=>by
  refine .C4 (fun _=>⟨iN _,hi,hc,by omega⟩) fun _=>(h.alt p EW i hi).bind fun x j ⟨k1,k2,k3,k4,k5⟩=>?_
  have a1:=p.ff ho hi;have a2:=p.ef i hi;have hs:=hc.axb k3 (by omega) (by omega) k5;refine .C4 (fun hc=>?_) fun _=>⟨by omega,k2,hs,by grind⟩
  obtain⟨e,hl⟩:=h.Kj k2 hc;rw[e];exact(aaf EW m _ _ (by omega) hl (hs.right (p.ee (by omega) hl)) (by grind)).imp fun l j ⟨q1,q2,q3,q4⟩=>⟨by omega,q2,q3,q4⟩
theorem block(EW:L7 S ta){i:Nat}(hi:i<S.len):(S.block ta i).M1 S fun l j=>i<j/\j<S.len/\Chn (S.F i) (S.E j) l/\l.length<=200:=by
 refine(h.take hi _).bind fun _ k ⟨e,hk⟩=>?_
 subst e;refine(h.aaf p EW 200 [] (o:=i) _ (jk i) hk .nil rfl).bind fun l j ⟨q1,q2,q3,q4⟩=>?_
 exact(h.take q2 _).bind fun _ r ⟨e,hr⟩=>⟨by omega,hr,q3.right (p.ee (by omega) hr),q4⟩
theorem fill(hl:S.len<=100000)(EW:L7 S ta){i:Nat}(hi:i<S.len):(S.fill ta i).M1 S fun x j=>i<j/\j<S.len/\x.k9=S.F i/\Rg (nS.ayy x (S.E j)):=by
 have z:∀{j:Nat},i<j->j<S.len->S.F i<=S.E j:=fun a b=>p.fl a b
 have lev:∀{j:Nat}(s:Str)(n:Int),i<j->j<S.len->((S.sW j).bind fun l k=>Rs.ok (Syntax.mk 0 s n [] l [] (S.F i) 0) k).M1 S fun x j=>i<j/\j<S.len/\x.k9=S.F i/\Rg (nS.ayy x (S.E j)):=fun s n a b=>
  (h.sW hl b).bind fun l k ⟨q1,q2,q3,q4⟩=>by
    have:Rg (.mk 0 s n [] l [] (S.F i) (S.E k)):=.leaf (by decide) (z (by omega) q2) (iK _) (by omega) q4;exact⟨by omega,q2,rfl,this⟩
 have fix:∀{s:Str}{n k:Int},k≠13->S.nx i=i+1->i+1<S.len->(Rs.ok (Syntax.mk k s n [] [] [] (S.F i) 0) (S.nx i)).M1 S fun x j=>i<j/\j<S.len/\x.k9=S.F i/\Rg (nS.ayy x (S.E j)):=fun a e b=>by
  rw[e];exact⟨by omega,b,rfl,.anz a (z (by omega) b)⟩
 refine .C4 (fun hc=>?_) fun _=>.C4 (fun hc=>?_) fun _=>.C4 (fun hc=>?_) fun _=>.C4 (fun hc=>?_) fun _=>.C4 (fun hc=>?_) fun _=>.C4 (fun hc=>?_) fun _=>.C4 (fun hc=>?_) fun _=>.C4 (fun hc=>?_) fun _=>.er hi
 ·obtain⟨e,hj⟩:=h.nx hi (by rw[beq_iff_eq.1 hc];decide);rw[e];exact lev _ _ (by omega) hj
 ·obtain⟨e,hj⟩:=h.Kj hi hc;rw[e];refine(h.name hj).bind fun s k ⟨e,hk⟩=>?_
  exact lev _ _ (by omega) hk
 ·obtain⟨e,hj⟩:=h.Kj hi hc;exact fix (by decide) e hj
 ·exact(h.number hi).bind fun n j ⟨_,e,hj⟩=>⟨by omega,hj,rfl,.anz (show(12:Int)≠13 by decide) (z (by omega) hj)⟩
 ·obtain⟨e,hj⟩:=h.axj hi hc;exact fix (by decide) e hj
 ·obtain⟨e,hj⟩:=h.axj hi hc;rw[e];exact(h.one hl hj).bind fun l k ⟨q1,q2,q3⟩=>⟨by omega,q2,rfl,.leaf (show(11:Int)≠13 by decide) (z (by omega) q2) (iK _) (by decide:1<=1000000) fun x hx=>by rw[iY.1 hx];exact q3⟩
 ·obtain⟨e,hj⟩:=h.Kj hi hc;exact fix (by decide) e hj
 ·obtain⟨e,hj⟩:=h.axj hi hc;rw[e];refine(h.block p EW hj).bind fun l k ⟨q1,q2,q3,q4⟩=>⟨by omega,q2,rfl,?_⟩
  have:Rg (.mk 14 [] 0 [] [] l (S.F i) (S.E k)):=.aJW (by decide) q3 (by omega) (z (by omega) q2) (p.ff (show i<=i+1 by omega) hj) (iJ _) (iK _) (iK _) fun l hl=>by cases hl
  exact this
theorem ald(hex:L7 S ex){a:Int}:∀(m:Nat)(out:List Syntax)(i:Nat),i<S.len->a<=S.E i->Chn a (S.E i) out->(S.ald ex m out i).M1 S fun l j=>i<=j/\j<S.len/\Chn a (S.E j) l
 |0,out,i,hi,ha,hc=>.C4 (fun hs=>by obtain⟨e,hl⟩:=h.Kj hi hs;rw[e];exact .er hl) fun _=>⟨iN _,hi,hc⟩
 |m+1,out,i,hi,ha,hc=>by
  refine .C4 (fun hs=>?_) fun _=>⟨iN _,hi,hc⟩
  obtain⟨e,hl⟩:=h.Kj hi hs;rw[e];refine(hex _ hl).bind fun x j ⟨k1,k2,k3,k4,k5⟩=>?_
  have a1:=p.ef _ hl;have a2:=p.ee (show i<=i+1 by omega) hl;have a3:=p.ee (show i<=j by omega) k2;exact(ald hex m _ j k2 (by omega) (hc.axb k3 (by omega) (by omega) k5)).imp fun l j' ⟨q1,q2,q3⟩=>⟨by omega,q2,q3⟩
theorem VM(hex:L7 S ex){i:Nat}(ho:o<i)(hi:i<S.len):(S.VM ex o i).M1 S (Ex S o):=by
 refine(hex i hi).bind fun x j hx=>?_
 have hb:=hx.ahf p (jn ho);obtain⟨h1,h2,h3,h4,h5⟩:=hx;have b4:=hb.2.2.2.1;refine .C4 (fun hc=>?_) fun _=>.C4 (fun hc=>?_) fun _=>.C4 (fun hc=>?_) fun _=>.er h2
 ·obtain⟨e,hl⟩:=h.Kj h2 hc;rw[e];exact hb.on p (jk j) hl
 ·obtain⟨e,hl⟩:=h.Kj h2 hc;rw[e];refine(hex _ hl).bind fun t k ⟨k1,k2,k3,k4,k5⟩=>(h.take k2 _).bind fun _ q ⟨e,hq⟩=>?_
  have a1:=p.ee (show j<=q by omega) hq;have a2:=p.ee (show k<=q by omega) hq;have a3:=p.ff (show o<=j+1 by omega) hl;exact⟨by omega,hq,.two h3 k3 b4 (by omega) (by omega) (by omega),iJ _,iJ _⟩
 ·refine(h.ald p hex 199 [] j h2 (a:=x.to) h5 .nil).bind fun l k ⟨k1,k2,k3⟩=>(h.take k2 _).bind fun _ q ⟨e,hq⟩=>?_
  have a1:=p.ee (show j<=q by omega) hq;have a2:=p.ee (show k<=q by omega) hq;obtain⟨q1,q2,q3⟩:=Chn.RT (b:=S.E q) l (a:=x.k9) (x:=x) (.cons (iJ _) h3 (by omega) (k3.right a2));exact⟨by omega,hq,q1.NS (by rw[q2];exact b4),iJ _,q3⟩
theorem afY(hl:S.len<=100000)(hex:L7 S ex)(EW:L7 S ta):L7 S (S.afY ex ta):=by
 intro i hi;refine .C4 (fun hc=>?_) fun _=>?_
 ·obtain⟨e,hj⟩:=h.Kj hi hc;rw[e];exact h.VM p hex (jg i) hj
 ·refine(h.fill p hl EW hi).bind fun x j ⟨k1,k2,k3,k4⟩=>⟨k1,k2,k4,?_,iJ _⟩
  show S.F i<=x.k9;rw[k3];exact iJ _
theorem Uw{o:Nat}:∀(m:Nat)(x:Syntax)(i:Nat),Ex S o x i->(S.Uw m x i).M1 S (Ex S o)
 |0,x,i,hx=>.C4 (fun _=>.er hx.2.1) fun _=>hx
 |m+1,x,i,hx=>by
  obtain⟨h1,h2,h3,h4,h5⟩:=hx;refine .C4 (fun hc=>?_) fun _=>⟨h1,h2,h3,h4,h5⟩
  have⟨e,hl⟩:S.nx i=i+1/\i+1<S.len:=by
   rw[Bool.or_eq_true]at hc;rcases hc with hc|hc<;>exact h.Kj h2 hc
  rw[e];refine Uw m _ _ ⟨by omega,hl,.one ?_ h3 (iJ _) (Int.le_trans h5 (p.ee (jk i) hl)),h4,iJ _⟩
  grind
theorem aiB(hl:S.len<=100000)(hex:L7 S ex)(EW:L7 S ta):L7 S (S.aiB ex ta):=fun i hi=>(h.afY p hl hex EW i hi).bind fun x j hx=>h.Uw p 200 x j hx
theorem ale(ha:L7 S (S.aiB ex ta)){o:Nat}:∀(m:Nat)(x:Syntax)(i:Nat),Ex S o x i->(S.ale ex ta m x i).M1 S (Ex S o)
 |0,x,i,hx=>.C4 (fun _=>.er hx.2.1) fun _=>hx
 |m+1,x,i,hx=>by
  obtain⟨h1,h2,h3,h4,h5⟩:=hx;refine .C4 (fun hc=>?_) fun _=>⟨h1,h2,h3,h4,h5⟩
  refine(ha i h2).bind fun y j ⟨k1,k2,k3,k4,k5⟩=>ale ha m _ j ?_
  have a2:=p.ef i h2;have a4:=k3.le;have a5:=h3.le;exact⟨by omega,k2,.two h3 k3 (iJ _) (by omega) (by omega) (iJ _),h4,k5⟩
theorem app(hl:S.len<=100000)(hex:L7 S ex)(EW:L7 S ta):L7 S (S.app ex ta):=fun i hi=>(h.aiB p hl hex EW i hi).bind fun x j hx=>h.ale p (h.aiB p hl hex EW) 199 x j hx
theorem alf(hl:S.len<=100000)(hex:L7 S ex)(EW:L7 S ta):L7 S (S.alf ex ta):=by
 intro i hi;refine .C4 (fun hc=>?_) fun _=>h.app p hl hex EW i hi
 unfold nS.adA at hc;rw[iI]at hc;obtain⟨e,hj⟩:=h.nx hi (by rw[beq_iff_eq.1 hc.1];decide);rw[e];exact⟨by omega,hj,.anz (by decide) (p.fl (jg i) hj),iJ _,iJ _⟩
theorem Jc(hit:L7 S (S.alf ex ta)){o:Nat}:∀(m:Nat)(out:List Syntax)(i:Nat),o<=i->i<S.len->(out≠[]->o<i)->Chn (S.F o) (S.E i) out->out.length+m=200->(S.Jc ex ta m out i).M1 S fun l j=>i<=j/\j<S.len/\(l≠[]->o<j)/\Chn (S.F o) (S.E j) l/\l.length<=200
 |0,out,i,ho,hi,hn,hc,hm=>.C4 (fun _=>.er hi) fun _=>⟨iN _,hi,hn,hc,by omega⟩
 |m+1,out,i,ho,hi,hn,hc,hm=>by
  refine .C4 (fun _=>(hit i hi).bind fun x j ⟨k1,k2,k3,k4,k5⟩=>?_) fun _=>⟨iN _,hi,hn,hc,by omega⟩
  have a1:=p.ff ho hi;have a2:=p.ef i hi;exact(Jc hit m _ j (by omega) k2 (fun _=>by omega) (hc.axb k3 (by omega) (by omega) k5) (by grind)).imp fun l j' ⟨q1,q2,q3,q4,q5⟩=>⟨by omega,q2,q3,q4,q5⟩
theorem aJX(hl:S.len<=100000)(hex:L7 S ex)(EW:L7 S ta){i:Nat}(hi:i<S.len):(S.Jc ex ta 200 [] i).M1 S fun l j=>i<=j/\j<S.len/\(l≠[]->i<j)/\Chn (S.F i) (S.E j) l/\l.length<=200:=
 h.Jc p (h.alf p hl hex EW) 200 [] i (iN _) hi (fun e=>absurd rfl e) .nil rfl
omit h in
theorem aiC(q:aiF S){i:Nat}{l:List Syntax}(hj:j<S.len)(hn:l≠[]->i<j)(hc:Chn (S.F i) (S.E j) l):(S.aiC l j).M1 S (Ex S i):=by
 unfold nS.aiC
 match l with
 |[]=>exact .er hj
 |x::r=>
  have hij:=hn (by simp);refine .C4 (fun _=>?_) fun _=>.C4 (fun h0=>?_) fun hz=>?_
  ·obtain⟨k1,k2,k3⟩:=hc.mem x (by simp);exact⟨hij,hj,k1,k2,k3⟩
  ·obtain⟨k1,k2,k3⟩:=q _ _ _ (by simp) hc (beq_iff_eq.1 h0);exact⟨hij,hj,k1,k2,k3⟩
  ·have he:=beq_eq_false_iff_ne.1 hz;split
   ·rename_i y hy;obtain⟨k1,k2,k3⟩:=hc.mem y (List.mem_of_getElem? hy);exact⟨he,i,j,by omega,hj,k2,by have:=k1.le;have:=p.ef j hj;omega⟩
   ·exact .er hj he
theorem op(q:aiF S)(hl:S.len<=100000)(hex:L7 S ex)(EW:L7 S ta):L7 S (S.op ex ta):=fun i hi=>
 (h.aJX p hl hex EW hi).bind fun l j ⟨k1,k2,k3,k4,k5⟩=>aiC p q k2 k3 k4
end OY
def Bs(S:nS)(i:Nat)(l:List kg)(j:Nat):Prop:=i<j/\j<S.len/\∀b∈l,Rg b.t/\S.F i<=b.t.k9/\b.t.to<=S.E j
namespace OY
variable {S:nS} (h:OY S) (p:Pos S) {ex ta:Nat->Rs Syntax}
include h p
theorem nested {n:Int}{i:Nat}(hl:Bs S o l i)(hx:Ex S i x j):Ex S o (nS.XA k n l x (S.F o)) j:=by
 obtain⟨h1,h2,h3⟩:=hl;obtain⟨k1,k2,k3,k4,k5⟩:=hx;have a1:=p.ef i h2;have a2:=p.ff (jn h1) h2;have a3:=k3.le
 obtain⟨q1,q2,q3⟩:=arM (k:=k) (n:=n) k3 (f:=S.F o) (by omega) l fun b hb=>by
  grind
 exact⟨by omega,k2,q1,q2,by omega⟩
omit h in
theorem aFC {i:Nat}(hl:Bs S o l i)(hij:i<=j)(hj:j<S.len):Bs S o l j:=by
 obtain⟨h1,h2,h3⟩:=hl;have:=p.ee hij hj;exact⟨by omega,hj,fun b hb=>by obtain⟨r1,r2,r3⟩:=h3 b hb;exact⟨r1,r2,by omega⟩⟩
theorem BB(hex:L7 S ex){op sh:Str}{i:Nat}(hi:i<S.len):(S.BB ex op sh i).M1 S fun l j=>1<=l.length/\l.length<=200/\Bs S i l j:=by
 refine(h.take hi _).bind fun _ k ⟨e,hk⟩=>?_
 refine Rs.M1.bind (P:=fun l j=>(1<=l.length/\l.length<=200)/\i<j/\j<S.len) ?_ fun l j ⟨l1,j1,j2⟩=>(h.take j2 _).bind fun _ a ⟨e1,ha⟩=>(hex a ha).bind fun t b ⟨k1,k2,k3,k4,k5⟩=>(h.take k2 _).bind fun _ c ⟨e2,hc⟩=>?_
 ·refine .C4 (fun _=>?_) fun _=>?_
  ·exact(h.var hk).bind fun s j ⟨e,hj⟩=>⟨⟨iN 1,(by decide:1<=200)⟩,by omega,hj⟩
  ·exact(h.vars hk).imp fun l j ⟨q1,q2,q3,q4⟩=>⟨⟨q1,q2⟩,by omega,q4⟩
 ·refine⟨by rw[ajF];exact l1.1,by rw[ajF];exact l1.2,by omega,hc,fun b' hb=>?_⟩;rw[apT hb];have a1:=p.ff (show i<=a by omega) ha;have a2:=p.ee (show b<=c by omega) hc;exact⟨k3,by omega,by omega⟩
theorem IG(hex:L7 S ex){n:Int}{i:Nat}{sep:Str}(hl:Bs S o l i):(S.IG ex k n o l sep i).M1 S (Ex S o):=by
 refine(h.take hl.2.1 _).bind fun _ a ⟨e,ha⟩=>(hex a ha).bind fun x j hx=>?_
 exact h.nested p (aFC p hl (by omega) ha) hx
theorem ZA(hex:L7 S ex){o:Nat}:∀(m:Nat)(out:List kg)(i:Nat),Bs S o out i->out.length<=200*(200-m)->m<=200->(S.ZA ex m out i).M1 S fun l j=>i<=j/\Bs S o l j/\l.length<=40000
 |0,out,i,hb,ho,_=>.C4 (fun _=>⟨iN _,hb,by omega⟩) fun _=>.er hb.2.1
 |m+1,out,i,hb,ho,hm=>by
  refine .C4 (fun _=>⟨iN _,hb,by omega⟩) fun _=>.C4 (fun _=>?_) fun _=>?_
  ·refine(h.BB p hex hb.2.1).bind fun l j ⟨_,l1,j1,j2,j3⟩=>?_
   obtain⟨b1,b2,b3⟩:=aFC p hb (jn j1) j2;refine(ZA hex m _ j ⟨b1,b2,fun b Gs=>?_⟩ (by rw[List.length_append];omega) (by omega)).imp fun l j' ⟨q1,q2⟩=>⟨by omega,q2⟩
   rcases iZ.1 Gs with Gs|Gs
   ·exact b3 b Gs
   ·obtain⟨r1,r2,r3⟩:=j3 b Gs;have:=p.ff (jn hb.1) hb.2.1;exact⟨r1,by omega,r3⟩
  ·refine(h.var hb.2.1).bind fun s j ⟨e,hj⟩=>?_
   obtain⟨b1,b2,b3⟩:=aFC p hb (show i<=j by omega) hj;refine(ZA hex m _ j ⟨b1,b2,fun b Gs=>?_⟩ (by grind) (by omega)).imp fun l j' ⟨q1,q2⟩=>⟨by omega,q2⟩
   rcases iZ.1 Gs with Gs|Gs
   ·exact b3 b Gs
   ·rw[iY.1 Gs];exact⟨.anz (by decide) (iJ _),p.fl b1 b2,iJ _⟩
theorem aLi(hex:L7 S ex){i:Nat}(hi:i<S.len)(hk:S.nx i=i+1/\i+1<S.len):(S.ZA ex 200 [] (i+1)).M1 S fun l j=>i<j/\Bs S i l j/\l.length<=40000:=
 (h.ZA p hex (o:=i) 200 [] (i+1) ⟨jg i,hk.2,fun b hb=>by cases hb⟩ (iK _) (iN _)).imp fun l j ⟨q1,q2⟩=>⟨by omega,q2⟩
theorem axi(hex:L7 S ex){i:Nat}(hi:i<S.len)(hk:S.nx i=i+1/\i+1<S.len):(S.axi ex i).M1 S (Ex S i):=by
 unfold nS.axi;rw[hk.1];refine(h.aLi p hex hi hk).bind fun l j ⟨_,hb,_⟩=>(h.take hb.2.1 _).bind fun _ a ⟨e,ha⟩=>(hex a ha).bind fun x k hx=>?_
 exact h.nested p (aFC p hb (by omega) ha) hx
theorem arH(hex:L7 S ex){i:Nat}(hi:i<S.len)(hk:S.nx i=i+1/\i+1<S.len):(S.arH ex i).M1 S (Ex S i):=by
 unfold nS.arH;rw[hk.1];refine(h.var hk.2).bind fun s j ⟨e,hj⟩=>?_
 refine Rs.M1.bind (P:=Ex S i) ?_ fun t k ⟨t1,t2,t3,t4,t5⟩=>(h.take t2 _).bind fun _ a ⟨e1,ha⟩=>(hex a ha).bind fun v b ⟨v1,v2,v3,v4,v5⟩=>(h.take v2 _).bind fun _ c ⟨e2,hc⟩=>(hex c hc).bind fun y r ⟨y1,y2,y3,y4,y5⟩=>?_
 ·refine .C4 (fun hs=>?_) fun _=>?_
  ·obtain⟨e2,hl⟩:=h.Kj hj hs;rw[e2];exact(hex _ hl).imp fun t k ht=>ht.ahf p (by omega)
  ·exact⟨by omega,hj,.anz (by decide) (iJ _),p.fl (by omega) hj,iJ _⟩
 ·have a1:=p.ee (show k<=c by omega) hc;have a2:=p.ee (show b<=c by omega) hc;have a3:=p.ef c hc;have a4:=y3.le;have a6:=p.ff (show i<=a by omega) ha;have a7:=t3.le;refine⟨by omega,y2,.mk (iK _) (iK _) (fun l hl=>by cases hl) (by decide:3<=1000000) (fun e=>by cases e) (by omega) (fun z hz=>?_) (fun z hz=>?_),iJ _,y5⟩<;>
  ·grind
def aCK(S:nS)(x:Syntax)(i:Nat):List kg:=bif x.kind==13&&(x.k9==S.F i&& !(S.zi i).isEmpty)then nS.L6 (S.zi i) (x.vE.getD 1 Zz)else [{name:=[],t:=x}]
omit h p in
theorem aHU(hx:Rg x)(i:Nat):∀b∈aCK S x i,Rg b.t/\x.k9<=b.t.k9/\b.t.to<=x.to:=by
 unfold aCK;cases hc:x.kind==13&&(x.k9==S.F i&& !(S.zi i).isEmpty)with
 |false=>intro b hb;rw[iY.1 hb];exact⟨hx,iJ _,iJ _⟩
 |true=>
  rw[iI,beq_iff_eq]at hc;have h2:=hx.aCJ hc.1;intro b hb;rw[apT hb];exact hx.vE _ (by rw[List.getD_eq_getElem?_getD,jo (by omega)];exact iP _)
theorem anv(q:aiF S)(hl:S.len<=100000)(hex:L7 S ex)(EW:L7 S ta):L7 S (S.anv ex ta):=by
 intro i hi;refine(h.op p q hl hex EW i hi).bind fun x j hx=>.C4 (fun hs=>?_) fun _=>hx
 obtain⟨h1,h2,h3,h4,h5⟩:=hx;obtain⟨e,hj⟩:=h.Kj h2 hs;rw[e];refine(hex _ hj).bind fun b k ⟨k1,k2,k3,k4,k5⟩=>?_
 have a1:=p.ee (show j<=j+1 by omega) hj;have a2:=p.ef _ hj;have a3:=k3.le;have a4:=h3.le
 obtain⟨q1,q2,q3⟩:=arM (k:=4) (n:=0) k3 (f:=x.k9) (by omega) (aCK S x i) fun b hb=>by
  obtain⟨r1,r2,r3⟩:=aHU h3 i b hb;exact⟨r1,r2,by omega⟩
 exact⟨by omega,k2,q1,by unfold aCK at q2;omega,by unfold aCK at q3;omega⟩
theorem afZ(q:aiF S)(hl:S.len<=100000)(hex:L7 S ex)(EW:L7 S ta):L7 S (S.afZ ex ta):=by
 intro i hi
 have prod:∀{o:Nat}{op sh sep:Str}{k n:Int},i<=o->o<S.len->((S.BB ex op sh o).bind fun l j=>S.IG ex k n i l sep j).M1 S (Ex S i):=fun a b=>
  (h.BB p hex b).bind fun l j ⟨_,_,j1,j2,j3⟩=>h.IG p hex ⟨by omega,j2,fun b' hb=>by
    obtain⟨r1,r2,r3⟩:=j3 b' hb;have:=p.ff a b;exact⟨r1,by omega,r3⟩⟩
 refine .C4 (fun hc=>h.axi p hex hi (h.axj hi hc)) fun _=>.C4 (fun hc=>h.arH p hex hi (h.axj hi hc)) fun _=>.C4 (fun hc=>?_) fun _=>.C4 (fun hc=>prod (iN _) hi) fun _=>.C4 (fun hc=>prod (iN _) hi) fun _=>h.anv p q hl hex EW i hi
 obtain⟨e,hj⟩:=h.axj hi hc
 simp_all
theorem XB:∀(m:Nat)(out:List Str)(i:Nat),i<S.len->out.length+m=200->(S.XB m out i).M1 S fun l j=>i<=j/\j<S.len/\l.length<=200
 |0,out,i,hi,hm=>.C4 (fun _=>.er hi) fun _=>⟨iN _,hi,by omega⟩
 |m+1,out,i,hi,hm=>by
  refine .C4 (fun hc=>?_) fun _=>⟨iN _,hi,by omega⟩
  obtain⟨e,hl⟩:=h.nx hi (by rw[beq_iff_eq.1 hc];decide);rw[e];exact(XB m _ _ hl (by grind)).imp fun l j ⟨q1,q2,q3⟩=>⟨by omega,q2,q3⟩
def Kn(S:nS)(i:Nat)(r:List Str×List Syntax)(j:Nat):Prop:=i<j/\j<S.len/\Chn (S.F i) (S.E j) r.2/\r.2.length<=200/\r.1.length<=200
omit h in
theorem kn1 {i a:Nat}(ha:i<=a)(h:Ex S a x j):Kn S i ([],[x]) j:=by
 obtain⟨k1,k2,k3,k4,k5⟩:=h;have:=p.ff ha (by omega);exact⟨by omega,k2,.cons (by omega) k3 k5 .nil,(by decide:1<=200),iK _⟩
theorem akj(hex:L7 S ex)(EW:L7 S ta){w:Str}{i:Nat}(hi:i<S.len)(hk:(S.K i).1=0):(S.akj ex ta w i).M1 S (Kn S i):=by
 obtain⟨e,hj⟩:=h.nx hi (by rw[hk];decide);have nm:∀{l:List Str}{j:Nat},i<j->j<S.len->l.length<=200->Kn S i (l,[]) j:=fun a b c=>⟨a,b,.nil,iK _,c⟩
 unfold nS.akj;rw[e];refine .C4 (fun _=>?_) fun _=>.C4 (fun _=>?_) fun _=>.C4 (fun _=>?_) fun _=>.C4 (fun _=>?_) fun _=>.C4 (fun _=>?_) fun _=>.C4 (fun _=>?_) fun _=>.C4 (fun _=>?_) fun _=>.C4 (fun _=>?_) fun _=>.er hi
 ·exact(h.block p EW hj).bind fun l j ⟨q1,q2,q3,q4⟩=>⟨by omega,q2,q3.left (p.ff (show i<=i+1 by omega) hj),q4,iK _⟩
 ·exact(hex _ hj).bind fun x j hx=>kn1 p (jk i) hx
 ·exact nm (jg i) hj (by decide)
 ·exact(h.var hj).bind fun s j ⟨e,hj⟩=>nm (by omega) hj (by simp)
 ·exact(h.vars hj).bind fun l j ⟨q1,q2,q3,q4⟩=>nm (by omega) q4 q2
 ·exact(h.RS hj).bind fun s j ⟨e,hj⟩=>nm (by omega) hj (by simp)
 ·exact(h.name hj).bind fun s j ⟨e,hj⟩=>(h.XB p 199 [s] j hj rfl).bind fun l k ⟨q1,q2,q3⟩=>nm (by omega) q2 q3
 ·exact(EW _ hj).bind fun x j hx=>kn1 p (jk i) hx
theorem akk(hex:L7 S ex)(EW:L7 S ta):L7 S (S.akk ex ta):=by
 intro i hi;refine Rs.M1.bind (P:=Kn S i) ?_ fun r j ⟨j1,j2,j3,j4,j5⟩=>?_
 ·refine .C4 (fun _=>?_) fun _=>.C4 (fun hc=>h.akj p hex EW hi (beq_iff_eq.1 hc)) fun _=>.er hi
  exact(h.block p EW hi).bind fun l j ⟨q1,q2,q3,q4⟩=>⟨q1,q2,q3,q4,iK _⟩
 ·exact⟨j1,j2,.aJW (by decide) j3 (by omega) (p.fl j1 j2) (iJ _) (iJ _) (by omega) (iK _) fun l hl=>(by cases hl),iJ _,iJ _⟩
theorem both(q:aiF S)(hl:S.len<=100000):∀d:Nat,L7 S (S.ayz d)/\L7 S (S.aHS d)
 |0=>⟨fun _ hi=>.er hi,fun _ hi=>.er hi⟩
 |d+1=>⟨h.afZ p q hl (both q hl d).1 (both q hl d).2,h.akk p (both q hl d).1 (both q hl d).2⟩
theorem whole(q:aiF S)(hl:S.len<=100000)(h0:0<S.len):S.whole.M1 S fun x j=>Rg x/\S.F 0<=x.k9/\x.to<=S.E j/\j<S.len:=by
 exact((h.both p q hl 200).1 0 h0).bind fun x j ⟨k1,k2,k3,k4,k5⟩=>.C4 (fun _=>⟨k3,k4,k5,k2⟩) fun _=>.er k2
end OY
section
variable {Z:Cx}
theorem RP.G8{W O:Type}{d:Int}{rs:Rs O}{f:O->Nat->Rs W}{F:Nat->Option (PR (((jU×Unit)×Unit)×(O×Unit)) (((jU×Unit)×Unit)×(kq×Unit)))}{R:Type}{A:Nat->Nat->(((jU×Unit)×Unit)×(O×Unit))->Option R}{B:Nat->Nat->(((jU×Unit)×Unit)×(kq×Unit))->Option R}{Q:Rs W->R->Prop}
 (h:k8 F (RP Z d rs)) (L9:∀x j,rs=.ok x j->j<Z.T.length->kF (fun n m=>A n m (((Z.st j d,()),()),x,())) (Q (f x j))) (hpn:∀p e a,rs=.er e a->kF (fun n m=>B n m (((p,()),()),{e:=e,nE:=a},())) (Q (.er e a)):=by intros;exact kF.pure ⟨_,rfl⟩):
 kF (fun n m=>(F n).bind fun x=>EZ x (A n m) (B n m)) (Q (rs.bind f)):=by
 refine kF.lQ h fun r hr=>?_
 cases rs with
 |ok x j=>obtain⟨hj,rfl⟩:=hr;exact L9 x j rfl hj
 |er e a=>obtain⟨p,rfl⟩:=hr;exact hpn p e a rfl
theorem anA(hc:∀s,Ev (fun n=>nZ n Z.sy s) (Z.sy.contains s)){i:Nat}{d:Int}(hi:i<Z.T.length):Ev (fun n=>vS n (Z.st i d)) (Z.S.adA i):=by
 refine Ev.fn (fun n=>by simp only[vS,kD,Bq,mB];exact rfl) ?_;refine Ev.bind (EV hi) ?_;unfold nS.adA;rw[Gp hi];cases Z.T[i].kind==2 with
 |false=>exact Ev.pure
 |true=>
  simp only[jK,iH];cases Z.T[i].text==[95]with
  |true=>exact Ev.pure
  |false=>
   simp only[jL,iQ,iH];exact Ev.bind (hc _) Ev.pure
def Nx(Z:Cx)(d:Int)(F:Nat->jU->Option (PR (((jU×Unit)×Unit)×(Syntax×Unit)) (((jU×Unit)×Unit)×(kq×Unit))))(r:Nat->Rs Syntax):Prop:=
 ∀i,i<Z.T.length->k8 (fun n=>F n (Z.st i d)) (RP Z d (r i))
variable {ta:Nat->Rs Syntax} {d:Int}
theorem azY(h:ny Z)(EW:Nx Z d lF ta):∀(m:Nat)(x:Syntax)(i:Nat),i<Z.T.length->m<=199->
 kF (fun n q=>rQ (jY n) n q ((200-m:Nat):Int) (Z.st i d) x) (RP Z d (Z.S.alts ta m x i)):=by
 intro m;induction m with
 |zero=>
  intro x i hi _;refine kF.lp (fun n m=>by simp only[BG,rP,kA,yp];exact rfl) ?_;refine Ev.sn (tf h hi [60,124,62]) ?_;unfold nS.alts;cases hs:Z.S.tX [60,124,62] i with
  |false=>exact kF.pure ⟨hi,rfl⟩
  |true=>
   simp only[jK];refine Ev.sn (Bd h (mS hi) (k:=((200-0:Nat):Int)) (by omega)) ?_;exact kF.pure ⟨_,rfl⟩
 |succ m ih=>
  intro x i hi hm;refine kF.lp (fun n m=>by simp only[BG,rP,kA,yp];exact rfl) ?_;refine Ev.sn (tf h hi [60,124,62]) ?_;unfold nS.alts;cases hs:Z.S.tX [60,124,62] i with
  |false=>exact kF.pure ⟨hi,rfl⟩
  |true=>
   simp only[jK];refine Ev.sn (B5 (mS hi) (k:=((200-(m+1):Nat):Int)) (by omega)) ?_;refine RP.G8 (EW _ (mS hi)) (fun y j _ hj=>?_)
   grind [lj]
end
section
variable {Z:Cx}
variable {ta:Nat->Rs Syntax} {d:Int}
theorem aFD(h:ny Z)(EW:Nx Z d lF ta):Nx Z d n5 (Z.S.alt ta):=by
 intro i hi;refine k8.fn (fun n=>by simp only[Pj,uD,kA,Al];exact rfl) ?_;exact RP.step (EW i hi) (fun x j _ hj=>k8.yn (F:=fun n q=>rQ (jY n) n q 1 (Z.st j d) x) (azY h EW 199 x j hj (iN _)))
theorem azZ(h:ny Z)(EW:Nx Z d lF ta):∀(m:Nat)(out:List Syntax)(i:Nat),i<Z.T.length->m+out.length=200->
 kF (fun n q=>uz (jY n) n q (Z.st i d) out) (RP Z d (Z.S.aaf ta m out i)):=by
 intro m;induction m with
 |zero=>
  intro out i hi hm;refine kF.lp (fun n m=>by simp only[Gk,uy,kA,yp];exact rfl) ?_;refine Ev.sn (Hy hi [125]) ?_;unfold nS.aaf;cases hs:Z.S.tX [125] i with
  |true=>exact kF.pure ⟨hi,rfl⟩
  |false=>
   simp only[jL];refine Ev.sn (Bd h hi (k:=(out.length:Int)) (by omega)) ?_;exact kF.pure ⟨_,rfl⟩
 |succ m ih=>
  intro out i hi hm;refine kF.lp (fun n m=>by simp only[Gk,uy,kA,yp];exact rfl) ?_;refine Ev.sn (Hy hi [125]) ?_;unfold nS.aaf;cases hs:Z.S.tX [125] i with
  |true=>exact kF.pure ⟨hi,rfl⟩
  |false=>
   simp only[jL];refine Ev.sn (B5 hi (k:=(out.length:Int)) (by omega)) ?_;refine RP.G8 (aFD h EW i hi) (fun x j _ hj=>?_);simp only[jM (show(out.length+1)*120<=17592186044416 by omega),jK];refine Ev.sn (tf h hj [59]) ?_;cases hq:Z.S.tX [59] j with
   |true=>grind [mS]
   |false=>exact kF.pure ⟨hj,rfl⟩
theorem auO(h:ny Z)(EW:Nx Z d lF ta){i:Nat}(hi:i<Z.T.length):k8 (fun n=>pI n (Z.st i d)) (RP Z d (Z.S.aHR ta i)):=by
 refine k8.fn (fun n=>by simp only[Xo,yd,kA,Al];exact rfl) ?_;exact k8.yn (F:=fun n q=>uz (jY n) n q (Z.st i d) []) (azZ h EW 200 [] i hi rfl)
end
section
variable {Z:Cx}
variable {ta:Nat->Rs Syntax} {d:Int}
def RF(Z:Cx)(d:Int):Rs Syntax->PR (((jU×Unit)×((Syntax×Unit)×Unit))×Unit) (((jU×Unit)×((Syntax×Unit)×Unit))×(kq×Unit))->Prop
 |.ok x j,r=>j<Z.T.length/\r=.ok (((Z.st j d,()),(x,()),()),())
 |.er e a,r=>∃p x,r=.pn (((p,()),(x,()),()),{e:=e,nE:=a},())
theorem apU(h:ny Z)(EW:Nx Z d lF ta){i:Nat}(hi:i<Z.T.length)(x:Syntax):
 k8 (fun n=>qy n (Z.st i d) x) (RF Z d ((Z.S.block ta i).bind fun l j=>.ok (.mk x.kind x.text x.num x.oe x.sW l x.k9 x.to) j)):=by
 refine k8.fn (fun n=>by simp only[aa8,Ah,kA,Al];exact rfl) ?_;unfold nS.block;rw[Rs.bind_assoc];refine RU.step (xa h hi [123]) (fun j _ hj=>?_);rw[Rs.bind_assoc];refine RP.step (auO h EW hj) (fun l k _ hk=>?_);rw[Rs.bind_assoc];exact RU.step (xa h hk [125]) (fun q _ hq=>k8.pure ⟨hq,rfl⟩)
theorem aCL (h:ny Z) (k:OY Z.S) (EW:Nx Z d lF ta) {i:Nat} (hi:i<Z.T.length):
 k8 (fun n=>r9 n (Z.st i d) (.mk 0 [] 0 [] [] [] (Z.S.F i) 0)) (RF Z d (Z.S.fill ta i)):=by
 refine k8.fn (fun n=>by simp only[adn,Bb,kA,Al];exact rfl) ?_;refine Ev.to (EV hi) ?_;unfold nS.fill;rw[show(Z.S.K i).1=Z.T[i].kind by rw[Gp hi]];cases h0:Z.T[i].kind==0 with
 |true=>
  simp only[jK];refine Ev.to (xA h hi) ?_;exact RP.step (anx h k (mS hi)) (fun l j _ hj=>k8.pure ⟨hj,rfl⟩)
 |false=>
  simp only[jL];refine Ev.to (tf h hi [64]) ?_;cases h1:Z.S.tX [64] i with
  |true=>
   simp only[jK];refine RP.step (auH h (mS hi)) (fun s j _ hj=>?_);exact RP.step (anx h k hj) (fun l q _ hq=>k8.pure ⟨hq,rfl⟩)
  |false=>
   simp only[jL];refine Ev.to (tf h hi [95]) ?_;cases h2:Z.S.tX [95] i with
   |true=>exact k8.pure ⟨mS hi,rfl⟩
   |false=>
    simp only[jL];refine Ev.to (EV hi) ?_;cases h3:Z.T[i].kind==1 with
    |true=>
     simp only[jK];exact RP.step (alx h hi) (fun l q _ hq=>k8.pure ⟨hq,rfl⟩)
    |false=>
     simp only[jL];refine Ev.to (aiD hi 3 [80,114,111,112]) ?_;unfold nS.key;cases h4:Z.S.is 3 [80,114,111,112] i with
     |true=>
      simp only[jK];refine Ev.to (xA h hi) ?_;exact k8.pure ⟨mS hi,rfl⟩
     |false=>
      simp only[jL];refine Ev.to (aiD hi 3 [84,121,112,101]) ?_;cases h5:Z.S.is 3 [84,121,112,101] i with
      |true=>
       simp only[jK];refine Ev.to (xA h hi) ?_;exact RP.step (aFA h k (mS hi)) (fun l q _ hq=>k8.pure ⟨hq,rfl⟩)
      |false=>
       simp only[jL];refine Ev.to (tf h hi [40,41]) ?_;cases h6:Z.S.tX [40,41] i with
       |true=>exact k8.pure ⟨mS hi,rfl⟩
       |false=>
        simp only[jL];refine Ev.to (aiD hi 3 [98,121]) ?_;cases h7:Z.S.is 3 [98,121] i with
        |true=>
         simp only[jK];refine Ev.to (xA h hi) ?_;unfold nS.block;rw[Rs.bind_assoc];refine RU.step (xa h (mS hi) [123]) (fun j _ hj=>?_);rw[Rs.bind_assoc];refine RP.step (auO h EW hj) (fun l k _ hk=>?_);rw[Rs.bind_assoc];exact RU.step (xa h hk [125]) (fun q _ hq=>k8.pure ⟨hq,rfl⟩)
        |false=>
         simp only[jL];refine Ev.to (RV h hi 4) ?_;exact k8.pure ⟨_,_,rfl⟩
end
section
variable {Z:Cx}
variable {ex ta:Nat->Rs Syntax} {d:Int}
theorem az0(h:ny Z):∀(m:Nat)(x:Syntax)(i:Nat),i<Z.T.length->m<=200->
 kF (fun n q=>sL (jY n) n q ((200-m:Nat):Int) (Z.st i d) x) (RP Z d (Z.S.Uw m x i)):=by
 intro m;induction m with
 |zero=>
  intro x i hi _;refine kF.lp (fun n m=>by simp only[asN,w8,kA,yp];exact rfl) ?_;refine Ev.sn (Hy hi [46,49]) ?_;unfold nS.Uw;cases h1:Z.S.tX [46,49] i with
  |true=>
   refine Ev.sn (Bd h hi (k:=((200-0:Nat):Int)) (by omega)) ?_;exact kF.pure ⟨_,rfl⟩
  |false=>
   simp only[jL,jf];refine Ev.sn (Hy hi [46,50]) ?_;cases h2:Z.S.tX [46,50] i with
   |true=>
    refine Ev.sn (Bd h hi (k:=((200-0:Nat):Int)) (by omega)) ?_;exact kF.pure ⟨_,rfl⟩
   |false=>exact kF.pure ⟨hi,rfl⟩
 |succ m ih=>
  intro x i hi hm
  have go:kF (fun n q=>(lN n ((200-(m+1):Nat):Int) (Z.st i d)).bind fun x_1=>EZ x_1 (fun x_2=>(lr n x_2.fst.fst.fst).bind fun x_3=>
   bif x_3.snd.fst==[46,50] then(py n x_3.fst.fst).bind fun x_4=>sL (jY n) n q (IntKind.i64.wrap (((200-(m+1):Nat):Int)+1)) x_3.fst.fst (Syntax.mk 8 [] 0 [] [] [x] x.k9 x_4)
   else(py n x_3.fst.fst).bind fun x_4=>sL (jY n) n q (IntKind.i64.wrap (((200-(m+1):Nat):Int)+1)) x_3.fst.fst (Syntax.mk 7 [] 0 [] [] [x] x.k9 x_4)) fun y=>some (PR.pn (((y.fst.fst.fst,()),()),y.snd.fst,())))
   (RP Z d (Z.S.Uw m (.mk (bif (Z.S.K i).2==[46,50] then 8 else 7) [] 0 [] [] [x] x.k9 (Z.S.E (Z.S.nx i))) (Z.S.nx i))):=by
   refine Ev.sn (B5 hi (k:=((200-(m+1):Nat):Int)) (by omega)) ?_;refine Ev.sn (xA h hi) ?_;rw[show IntKind.i64.wrap (((200-(m+1):Nat):Int)+1)=((200-m:Nat):Int) by grind [lj]];cases (Z.S.K i).2==[46,50]with
   |true=>
    refine Ev.sn (ZB h (mS hi)) ?_;exact ih _ _ (mS hi) (by omega)
   |false=>
    refine Ev.sn (ZB h (mS hi)) ?_;exact ih _ _ (mS hi) (by omega)
  refine kF.lp (fun n m=>by simp only[asN,w8,kA,yp];exact rfl) ?_;refine Ev.sn (Hy hi [46,49]) ?_;unfold nS.Uw;cases h1:Z.S.tX [46,49] i with
  |true=>exact go
  |false=>
   simp only[jL,jf];refine Ev.sn (Hy hi [46,50]) ?_;cases h2:Z.S.tX [46,50] i with
   |true=>exact go
   |false=>exact kF.pure ⟨hi,rfl⟩
theorem aCM(h:ny Z)(hb:Nx Z d qx (Z.S.afY ex ta)):Nx Z d qh (Z.S.aiB ex ta):=by
 intro i hi;refine k8.fn (fun n=>by simp only[adm,Ba,kA,Al];exact rfl) ?_;exact RP.step (hb i hi) (fun x j _ hj=>k8.yn (F:=fun n q=>sL (jY n) n q 0 (Z.st j d) x) (az0 h 200 x j hj (iN _)))
theorem aCN(h:ny Z)(ha:Nx Z d qh (Z.S.aiB ex ta)):∀(m:Nat)(x:Syntax)(i:Nat),i<Z.T.length->m<=199->
 kF (fun n q=>xO (jY n) n q ((200-m:Nat):Int) (Z.st i d) x) (RP Z d (Z.S.ale ex ta m x i)):=by
 intro m;induction m with
 |zero=>
  intro x i hi _;refine kF.lp (fun n m=>by simp only[LX,xN,kA,yp];exact rfl) ?_;refine Ev.sn (ad6 hi) ?_;unfold nS.ale;cases hs:Z.S.Pn i with
  |false=>exact kF.pure ⟨hi,rfl⟩
  |true=>
   simp only[jK];refine Ev.sn (Bd h hi (k:=((200-0:Nat):Int)) (by omega)) ?_;exact kF.pure ⟨_,rfl⟩
 |succ m ih=>
  intro x i hi hm;refine kF.lp (fun n m=>by simp only[LX,xN,kA,yp];exact rfl) ?_;refine Ev.sn (ad6 hi) ?_;unfold nS.ale;cases hs:Z.S.Pn i with
  |false=>exact kF.pure ⟨hi,rfl⟩
  |true=>
   simp only[jK];refine Ev.sn (B5 hi (k:=((200-(m+1):Nat):Int)) (by omega)) ?_;refine RP.G8 (ha _ hi) (fun y j _ hj=>?_)
   grind [lj]
theorem aFE(h:ny Z)(ha:Nx Z d qh (Z.S.aiB ex ta)):Nx Z d rH (Z.S.app ex ta):=by
 intro i hi;refine k8.fn (fun n=>by simp only[aeY,B4,kA,Al];exact rfl) ?_;exact RP.step (ha i hi) (fun x j _ hj=>k8.yn (F:=fun n q=>xO (jY n) n q 1 (Z.st j d) x) (aCN h ha 199 x j hj (iN _)))
theorem aCO(h:ny Z)(hc:∀s,Ev (fun n=>nZ n Z.sy s) (Z.sy.contains s))(ha:Nx Z d rH (Z.S.app ex ta)):Nx Z d pN (Z.S.alf ex ta):=by
 intro i hi;refine k8.fn (fun n=>by simp only[adl,A8,kA,Al];exact rfl) ?_;refine Ev.to (anA hc hi) ?_;unfold nS.alf;cases hs:Z.S.adA i with
 |true=>
  simp only[jK];refine Ev.to (ad4 h hi) ?_;refine Ev.to (xA h hi) ?_;refine Ev.to (ZB h (mS hi)) ?_;exact k8.pure ⟨mS hi,rfl⟩
 |false=>
  simp only[jL];refine k8.bind (ha i hi) fun r hr=>?_
  cases hq:Z.S.app ex ta i with
  |ok x j=>rw[hq]at hr;obtain⟨hj,rfl⟩:=hr;exact k8.pure ⟨hj,rfl⟩
  |er e a=>rw[hq]at hr;obtain⟨p,rfl⟩:=hr;exact k8.pure ⟨p,rfl⟩
end
section
variable {Z:Cx}
variable {ex ta:Nat->Rs Syntax} {d:Int}
theorem az1(h:ny Z)(k:OY Z.S)(EW:Nx Z d lF ta)
 (hp:∀o i,i<Z.T.length->k8 (fun n=>p9 n (.mk 0 [] 0 [] [] [] (Z.S.F o) 0) (Z.st i d)) (RP Z d (Z.S.VM ex o i))):Nx Z d qx (Z.S.afY ex ta):=by
 intro i hi;refine k8.fn (fun n=>by simp only[aa7,Ag,kA,Al];exact rfl) ?_;refine Ev.to (ad4 h hi) ?_;refine Ev.to (tf h hi [40]) ?_;unfold nS.afY;cases hs:Z.S.tX [40] i with
 |true=>
  simp only[jK];refine k8.bind (hp i _ (mS hi)) fun r hr=>?_
  cases hq:Z.S.VM ex i (Z.S.nx i)with
  |ok x j=>rw[hq]at hr;obtain⟨hj,rfl⟩:=hr;exact k8.pure ⟨hj,rfl⟩
  |er e a=>rw[hq]at hr;obtain⟨p,rfl⟩:=hr;exact k8.pure ⟨p,rfl⟩
 |false=>
  simp only[jL];refine k8.bind (aCL h k EW hi) fun r hr=>?_
  cases hq:Z.S.fill ta i with
  |ok x j=>
   rw[hq]at hr;obtain⟨hj,rfl⟩:=hr;exact k8.bind (Ev.Uu (ZB h hj) rfl) fun r hr=>by subst hr;exact k8.pure ⟨hj,rfl⟩
  |er e a=>rw[hq]at hr;obtain⟨p,x,rfl⟩:=hr;exact k8.pure ⟨p,rfl⟩
end
theorem bor{W:Type}(a b:Bool)(x y:W):(bif a||b then x else y)=bif a then x else bif b then x else y:=by cases a<;>rfl
theorem k8.ite{W R:Type}{c:Bool}{A B:Nat->Option R}{Q:W->R->Prop}{x y:W}(h1:c=true->k8 A (Q x))(h2:c=false->k8 B (Q y)):k8 (fun n=>bif c then A n else B n) (Q (bif c then x else y)):=by
 cases c with
 |true=>exact h1 rfl
 |false=>exact h2 rfl
section
variable {Z:Cx}
variable {ex ta:Nat->Rs Syntax} {d:Int}
theorem aCP(h:ny Z){i:Nat}{d:Int}(hi:i<Z.T.length):Ev (fun n=>zW n (Z.st i d)) (((Z.st (Z.S.nx i) d,()),()),(Z.S.K i).2,()):=by
 refine Ev.fn (fun n=>by simp only[zW,kD,CC,mC];exact rfl) ?_;refine Ev.bind (EV hi) ?_;rw[Gp hi];have hl:=h.len;have e:IntKind.i64.wrap ((i:Int)+1)=((i+1:Nat):Int):=kM (by omega);have e2:decide ((((i+1:Nat):Int))<(Z.T.length:Int))=decide (i+1<Z.T.length):=decide_eq_decide.2 (by omega);simp only[Cx.st,e,e2];have hlen:Z.S.len=Z.T.length:=rfl
 grind [nS.nx,Ev.pure]
def kT(w:Str)(f:Int)(r:List Str×List Syntax)(j:Nat):Rs Syntax:=.ok (.mk 15 w 0 r.1 [] r.2 f 0) j
theorem az2(h:ny Z)(w:Str)(f:Int):∀(m:Nat)(out:List Str)(i:Nat),i<Z.T.length->m+out.length=200->
 kF (fun n q=>wo (jY n) n q (Z.st i d) 15 w 0 [] [] f 0 out) (RF Z d ((Z.S.XB m out i).bind fun l j=>kT w f (l,[]) j)):=by
 intro m;induction m with
 |zero=>
  intro out i hi hm;refine kF.lp (fun n m=>by simp only[Ir,wm,kA,yp];exact rfl) ?_;refine Ev.sn (EV hi) ?_;unfold nS.XB;rw[show(Z.S.K i).1=Z.T[i].kind by rw[Gp hi]];cases hs:Z.T[i].kind==0 with
  |false=>exact kF.pure ⟨hi,rfl⟩
  |true=>
   refine Ev.sn (Bd h hi (k:=(out.length:Int)) (by omega)) ?_;exact kF.pure ⟨_,_,rfl⟩
 |succ m ih=>
  intro out i hi hm;refine kF.lp (fun n m=>by simp only[Ir,wm,kA,yp];exact rfl) ?_;refine Ev.sn (EV hi) ?_;unfold nS.XB;rw[show(Z.S.K i).1=Z.T[i].kind by rw[Gp hi]];cases hs:Z.T[i].kind==0 with
  |false=>exact kF.pure ⟨hi,rfl⟩
  |true=>
   refine Ev.sn (B5 hi (k:=(out.length:Int)) (by omega)) ?_;refine Ev.sn (aCP h hi) ?_
   grind [mS]
theorem az3(h:ny Z)(hex:Nx Z d kL ex)(EW:Nx Z d lF ta){i:Nat}(hi:i<Z.T.length)(w:Str)(f:Int):
 k8 (fun n=>rq n (Z.st i d) (.mk 15 w 0 [] [] [] f 0)) (RF Z d ((Z.S.akj ex ta w i).bind (kT w f))):=by
 have hj:=mS hi;have sk:=xA (d:=d) h hi;refine k8.fn (fun n=>by simp only[aa9,Ai,kA,Al];exact rfl) ?_;unfold nS.akj;simp only[ja,List.contains_nil,Bool.or_false,bor,Syntax.prj]
 have hE:k8 (fun n=>(lr n (Z.st i d)).bind fun x=>(kL n x.fst.fst).bind fun x=>EZ x (fun x=>some (PR.ok (((x.fst.fst.fst,()),(Syntax.mk 15 w 0 [] [] [x.snd.fst] f 0,()),()),()))) fun y=>some (PR.pn (((y.fst.fst.fst,()),(Syntax.mk 15 w 0 [] [] [] f 0,()),()),y.snd.fst,())))
  (RF Z d (((ex (Z.S.nx i)).bind fun x j=>Rs.ok (([],[x]):List Str×List Syntax) j).bind (kT w f))):=by
  refine Ev.to sk ?_;rw[Rs.bind_assoc];exact RP.step (hex _ hj) fun x j _ hj=>k8.pure ⟨hj,rfl⟩
 have hT:k8 (fun n=>(lr n (Z.st i d)).bind fun x=>(lF n x.fst.fst).bind fun x=>EZ x (fun x=>some (PR.ok (((x.fst.fst.fst,()),(Syntax.mk 15 w 0 [] [] [x.snd.fst] f 0,()),()),()))) fun y=>some (PR.pn (((y.fst.fst.fst,()),(Syntax.mk 15 w 0 [] [] [] f 0,()),()),y.snd.fst,())))
  (RF Z d (((ta (Z.S.nx i)).bind fun x j=>Rs.ok (([],[x]):List Str×List Syntax) j).bind (kT w f))):=by
  refine Ev.to sk ?_;rw[Rs.bind_assoc];exact RP.step (EW _ hj) fun x j _ hj=>k8.pure ⟨hj,rfl⟩
 have hS:k8 (fun n=>(lr n (Z.st i d)).bind fun x=>some (PR.ok (((x.fst.fst,()),(Syntax.mk 15 w 0 [] [] [] f 0,()),()),())))
  (RF Z d ((Rs.ok (([],[]):List Str×List Syntax) (Z.S.nx i)).bind (kT w f))):=by
  refine Ev.to sk ?_;exact k8.pure ⟨hj,rfl⟩
 have hN:k8 (fun n=>(lr n (Z.st i d)).bind fun x=>(qS n x.fst.fst).bind fun x=>EZ x (fun x=>some (PR.ok (((x.fst.fst.fst,()),(Syntax.mk 15 w 0 [x.snd.fst] [] [] f 0,()),()),()))) fun y=>some (PR.pn (((y.fst.fst.fst,()),(Syntax.mk 15 w 0 [] [] [] f 0,()),()),y.snd.fst,())))
  (RF Z d (((Z.S.RS (Z.S.nx i)).bind fun x j=>Rs.ok (([x],[]):List Str×List Syntax) j).bind (kT w f))):=by
  refine Ev.to sk ?_;rw[Rs.bind_assoc];exact RP.step (apQ h hj) fun x j _ hj=>k8.pure ⟨hj,rfl⟩
 refine k8.ite (Q:=fun s=>RF Z d (Rs.bind s (kT w f))) (fun _=>?_) fun _=>?_
 ·refine Ev.to sk ?_;refine k8.bind (apU h EW hj _) fun r hr=>?_
  cases hq:Z.S.block ta (Z.S.nx i)with
  |ok l j=>rw[hq]at hr;obtain⟨hj,rfl⟩:=hr;exact k8.pure ⟨hj,rfl⟩
  |er e a=>rw[hq]at hr;obtain⟨p,x,rfl⟩:=hr;exact k8.pure ⟨_,_,rfl⟩
 iterate 5 refine k8.ite (Q:=fun s=>RF Z d (Rs.bind s (kT w f))) (fun _=>hE) fun _=>?_
 iterate 4 refine k8.ite (Q:=fun s=>RF Z d (Rs.bind s (kT w f))) (fun _=>hS) fun _=>?_
 refine k8.ite (Q:=fun s=>RF Z d (Rs.bind s (kT w f))) (fun _=>?_) fun _=>?_
 ·refine Ev.to sk ?_;rw[Rs.bind_assoc];exact RP.step (ad5 h hj) fun x j _ hj=>k8.pure ⟨hj,rfl⟩
 refine k8.ite (Q:=fun s=>RF Z d (Rs.bind s (kT w f))) (fun _=>?_) fun _=>?_
 ·refine Ev.to sk ?_;rw[Rs.bind_assoc];exact RP.step (aCG h hj) fun x j _ hj=>k8.pure ⟨hj,rfl⟩
 iterate 4 refine k8.ite (Q:=fun s=>RF Z d (Rs.bind s (kT w f))) (fun _=>hN) fun _=>?_
 refine k8.ite (Q:=fun s=>RF Z d (Rs.bind s (kT w f))) (fun _=>?_) fun _=>?_
 ·refine Ev.to sk ?_;rw[Rs.bind_assoc];refine RP.step (auH h hj) fun s j _ hj=>?_
  rw[Rs.bind_assoc];exact k8.yn (F:=fun n q=>wo (jY n) n q (Z.st j d) 15 w 0 [] [] f 0 [s]) (az2 h w f 199 [s] j hj rfl)
 iterate 2 refine k8.ite (Q:=fun s=>RF Z d (Rs.bind s (kT w f))) (fun _=>hT) fun _=>?_
 exact Ev.to (RV h hi 4) (k8.pure ⟨_,_,rfl⟩)
theorem stD{i:Nat}(hd:0<=d/\d<200):({ul:=(Z.st i d).ul,rF:=(Z.st i d).rF,oN:=(Z.st i d).oN,depth:=IntKind.i64.wrap ((Z.st i d).depth+1)}:jU)=Z.st i (d+1):=by
 show({ul:=_,rF:=_,oN:=_,depth:=IntKind.i64.wrap (d+1)}:jU)=_;rw[lj (by omega) (by omega)];rfl
theorem axo(p:jU):Ev (fun n=>qG n p) (((),({ul:=p.ul,rF:=p.rF,oN:=p.oN,depth:=IntKind.i64.wrap (p.depth-1)},()),()),()):=by
 refine Ev.fn (fun n=>by simp only[qG,kD,yQ,mB];exact rfl) ?_;exact Ev.pure
theorem stU{i:Nat}(hd:0<=d/\d<200):({ul:=(Z.st i (d+1)).ul,rF:=(Z.st i (d+1)).rF,oN:=(Z.st i (d+1)).oN,depth:=IntKind.i64.wrap ((Z.st i (d+1)).depth-1)}:jU)=Z.st i d:=by
 show({ul:=_,rF:=_,oN:=_,depth:=IntKind.i64.wrap (d+1-1)}:jU)=_;rw[lj (by omega) (by omega),show d+1-1=d by omega];rfl
theorem axp(h:ny Z)(hd:0<=d/\d<200)(hex:Nx Z (d+1) kL ex)(EW:Nx Z (d+1) lF ta):Nx Z d lF (Z.S.akk ex ta):=by
 intro i hi;refine k8.fn (fun n=>by simp only[L2,wk,kA,Al];exact rfl) ?_;refine Ev.to (B5 hi (k:=d) hd.2) ?_;simp only[EZ,stD hd];refine Ev.to (EV hi) ?_;refine Ev.to (ad4 h hi) ?_;refine Ev.to (Hy hi [123]) ?_;unfold nS.akk;rw[show(Z.S.K i).1=Z.T[i].kind by rw[Gp hi],show(Z.S.K i).2=Z.T[i].text by rw[Gp hi]]
 have uA:∀(s:Rs (List Str×List Syntax))(F:Nat->Option (PR (((jU×Unit)×((Syntax×Unit)×Unit))×Unit) (((jU×Unit)×((Syntax×Unit)×Unit))×(kq×Unit)))),k8 F (RF Z (d+1) (s.bind (kT Z.T[i].text (Z.S.F i))))->
  k8 (fun n=>(F n).bind fun x=>EZ x (fun x=>(py n x.fst.fst.fst).bind fun x_4=>(qG n x.fst.fst.fst).bind fun x_5=>some (PR.ok (((x_5.fst.snd.fst.fst,()),()),Syntax.mk x.fst.snd.fst.fst.kind x.fst.snd.fst.fst.text x.fst.snd.fst.fst.num x.fst.snd.fst.fst.oe x.fst.snd.fst.fst.sW x.fst.snd.fst.fst.vE x.fst.snd.fst.fst.k9 x_4,())))
   fun y=>(qG n y.fst.fst.fst).bind fun x=>some (PR.pn (((x.fst.snd.fst.fst,()),()),y.snd.fst,()))) (RP Z d (s.bind fun p j=>.ok (.mk 15 Z.T[i].text 0 p.1 [] p.2 (Z.S.F i) (Z.S.E j)) j)):=by
  intro s F hF;refine k8.bind hF fun r hr=>?_
  cases s with
  |ok p j=>
   obtain⟨hj,rfl⟩:=hr;refine Ev.to (ZB h hj) (Ev.to (axo _) ?_);rw[stU hd];exact k8.pure ⟨hj,rfl⟩
  |er e a=>
   obtain⟨p,x,rfl⟩:=hr;exact Ev.to (axo _) (k8.pure ⟨_,rfl⟩)
 cases hs:Z.S.tX [123] i with
 |true=>
  refine uA ((Z.S.block ta i).bind fun l j=>.ok ([],l) j) _ ?_;have:=apU h EW hi (.mk 15 Z.T[i].text 0 [] [] [] (Z.S.F i) 0);rw[Rs.bind_assoc];exact this
 |false=>
  simp only[jL];refine Ev.to (EV hi) ?_;refine k8.bind (Gq h hi _) fun r hr=>?_
  cases hk:Z.T[i].kind==0 with
  |false=>
   rw[hk]at hr;obtain⟨p,rfl⟩:=hr;exact Ev.to (axo _) (k8.pure ⟨_,rfl⟩)
  |true=>
   rw[hk]at hr;obtain⟨_,rfl⟩:=hr;exact uA _ _ (az3 h hex EW hi _ _)
theorem aJY(h:ny Z):Nx Z 200 lF (fun i=>Z.S.abf i):=by
 intro i hi;refine k8.fn (fun n=>by simp only[L2,wk,kA,Al];exact rfl) ?_;exact Ev.to (Bd h hi (k:=200) (by omega)) (k8.pure ⟨_,rfl⟩)
end
def lz{W:Type}(e a:Int)(r:Rs W):Rs W:=bif e==0 then r else .er e a
theorem nL{W O:Type}(e a:Int)(r:Rs W)(f:W->Nat->Rs O):lz e a (r.bind f)=(lz e a r).bind f:=by
 unfold lz;cases e==0<;>rfl
theorem C0{W:Type}(e a:Int)(c:Bool)(x y:Rs W):lz e a (bif c then x else y)=bif e==0&&c then lz e a x else lz e a y:=by
 grind [lz]
theorem aCQ{W:Type}{e a:Int}{r:Rs W}{x:W}(h:lz e a r=.ok x j):e=0/\r=.ok x j:=by
 grind [lz]
theorem ae3{W:Type}(a:Int)(r:Rs W):lz 0 a r=r:=rfl
theorem vp{W:Type}{e:Int}(h:(e==0)=false)(a:Int)(r:Rs W):lz e a r=.er e a:=by grind [lz]
theorem kF.ite{W R:Type}{c:Bool}{A B:Nat->Nat->Option R}{Q:W->R->Prop}{x y:W}(h1:c=true->kF A (Q x))(h2:c=false->kF B (Q y)):kF (fun n m=>bif c then A n m else B n m) (Q (bif c then x else y)):=by
 cases c with
 |true=>exact h1 rfl
 |false=>exact h2 rfl
def aCR:kH:={kind:=4,text:=[],nE:=0}
section
variable {Z:Cx}
def Cx.rd(Z:Cx)(i:Nat)(d e a:Int):jT:={HJ:=Z.T,i:=(i:Int),base:=Z.b,rF:=Z.tb,oN:=Z.sy,depth:=d,e:=e,nE:=a}
def Cx.tk(Z:Cx)(i:Nat)(e:Int):kH:=bif e==0 then(Z.T[i]?).getD aCR else aCR
theorem az4{i:Nat}(h:i<Z.T.length):Z.tk i 0=Z.T[i]:=by simp [Cx.tk,h]
theorem ayA{i:Nat}{e:Int}(h:(e==0)=false):Z.tk i e=aCR:=by simp [Cx.tk,h]
theorem B6{i:Nat}{e:Int}(h:i<Z.T.length)(hk:((4:Int)==k)=false):((Z.tk i e).kind==k)=(e==0&&(Z.S.K i).1==k):=by
 cases he:e==0 with
 |true=>grind [az4,Gp]
 |false=>rw[ayA he];exact hk
theorem II{i:Nat}(h:i<Z.T.length):(Z.tk i 0).text=(Z.S.K i).2:=by rw[az4 h,Gp h]
theorem aCS{i:Nat}{e:Int}(h:i<Z.T.length)(hk:((4:Int)==k)=false)(s:Str):((Z.tk i e).kind==k&&(Z.tk i e).text==s)=(e==0&&Z.S.is k s i):=by
 rw[B6 h hk];cases he:e==0 with
 |true=>rw[beq_iff_eq.1 he,II h];rfl
 |false=>rfl
def RQ(Z:Cx)(d:Int){W:Type}(r:Rs W)(z:(jT×Unit)×(W×Unit)):Prop:=∃j e a x,j<Z.T.length/\z=((Z.rd j d e a,()),x,())/\r=lz e a (.ok x j)
def RN(Z:Cx)(d:Int)(r:Rs Unit)(z:(jT×Unit)×Unit):Prop:=∃j e a,j<Z.T.length/\z=((Z.rd j d e a,()),())/\r=lz e a (.ok () j)
theorem RQ.pure{W:Type}{d e a:Int}{i:Nat}{x y:W}(hi:i<Z.T.length)(h:e=0->x=y):RQ Z d (lz e a (.ok y i)) ((Z.rd i d e a,()),x,()):=by
 refine⟨i,e,a,x,hi,rfl,?_⟩
 grind [vp]
theorem RQ.no{W:Type}{d e a:Int}{i:Nat}{x:W}(hi:i<Z.T.length)(he:(e==0)=false){r:Rs W}(hr:r=.er e a):RQ Z d r ((Z.rd i d e a,()),x,()):=
 ⟨i,e,a,x,hi,rfl,by rw[vp he,hr]⟩
theorem RN.pure{d e a:Int}{i:Nat}(hi:i<Z.T.length):RN Z d (lz e a (.ok () i)) ((Z.rd i d e a,()),()):=⟨i,e,a,hi,rfl,rfl⟩
section
variable {W O R:Type} {d:Int}
theorem IJ{O W:Type}{e a:Int}{x:O}{f:O->Nat->Rs W}:(lz e a (.ok x j)).bind f=lz e a (f x j):=by
 unfold lz;cases e==0<;>rfl
theorem RQ.step{r:Rs O}{f:O->Nat->Rs W}{F:Nat->Option ((jT×Unit)×(O×Unit))}{G:Nat->((jT×Unit)×(O×Unit))->Option R}{Q:Rs W->R->Prop}(h:k8 F (RQ Z d r))
 (hg:∀x j e a,j<Z.T.length->(e=0->r=.ok x j)->k8 (fun n=>G n ((Z.rd j d e a,()),x,())) (Q (lz e a (f x j)))):k8 (fun n=>(F n).bind (G n)) (Q (r.bind f)):=by
 refine k8.bind h fun z ⟨j,e,a,x,hj,hz,hr⟩=>?_
 subst hz hr;rw[IJ];exact hg x j e a hj fun he=>by rw[he];rfl
theorem RQ.G8{r:Rs O}{f:O->Nat->Rs W}{F:Nat->Option ((jT×Unit)×(O×Unit))}{G:Nat->Nat->((jT×Unit)×(O×Unit))->Option R}{Q:Rs W->R->Prop}(h:k8 F (RQ Z d r))
 (hg:∀x j e a,j<Z.T.length->(e=0->r=.ok x j)->kF (fun n m=>G n m ((Z.rd j d e a,()),x,())) (Q (lz e a (f x j)))):kF (fun n m=>(F n).bind (G n m)) (Q (r.bind f)):=by
 refine kF.lQ h fun z ⟨j,e,a,x,hj,hz,hr⟩=>?_
 subst hz hr;rw[IJ];exact hg x j e a hj fun he=>by rw[he];rfl
theorem RN.step{r:Rs Unit}{f:Unit->Nat->Rs W}{F:Nat->Option ((jT×Unit)×Unit)}{G:Nat->((jT×Unit)×Unit)->Option R}{Q:Rs W->R->Prop}(h:k8 F (RN Z d r))
 (hg:∀j e a,j<Z.T.length->(e=0->r=.ok () j)->k8 (fun n=>G n ((Z.rd j d e a,()),())) (Q (lz e a (f () j)))):k8 (fun n=>(F n).bind (G n)) (Q (r.bind f)):=by
 refine k8.bind h fun z ⟨j,e,a,hj,hz,hr⟩=>?_
 subst hz hr;rw[IJ];exact hg j e a hj fun he=>by rw[he];rfl
theorem RN.G8{r:Rs Unit}{f:Unit->Nat->Rs W}{F:Nat->Option ((jT×Unit)×Unit)}{G:Nat->Nat->((jT×Unit)×Unit)->Option R}{Q:Rs W->R->Prop}(h:k8 F (RN Z d r))
 (hg:∀j e a,j<Z.T.length->(e=0->r=.ok () j)->kF (fun n m=>G n m ((Z.rd j d e a,()),())) (Q (lz e a (f () j)))):kF (fun n m=>(F n).bind (G n m)) (Q (r.bind f)):=by
 refine kF.lQ h fun z ⟨j,e,a,hj,hz,hr⟩=>?_
 subst hz hr;rw[IJ];exact hg j e a hj fun he=>by rw[he];rfl
end
end
section
variable {Z:Cx} {i:Nat} {d e a:Int}
theorem ua(hi:i<Z.T.length):Ev (fun n=>mi n (Z.rd i d e a)) (Z.tk i e):=by
 refine Ev.fn (fun n=>by simp only[mi,kD,IY,mB];exact rfl) ?_;have h2:sQ (Z.rd i d e a).HJ (Z.rd i d e a).i=some Z.T[i]:=nA hi;rw[h2,show(Z.rd i d e a).e=e from rfl];cases he:e==0 with
 |true=>grind [az4,Ev.pure]
 |false=>rw[ayA he,bne,he];exact Ev.pure
def Cx.fr(Z:Cx)(i:Nat)(e:Int):Int:=bif e==0 then Z.S.F i else Z.b
theorem C1(h:ny Z)(hi:i<Z.T.length):Ev (fun n=>l3 n (Z.rd i d e a)) (Z.fr i e):=by
 refine Ev.fn (fun n=>by simp only[l3,kD,Hr,mB];exact rfl) ?_;refine Ev.bind (ua hi) ?_;have h1:=h.nE Z.T[i] (iP hi);have h2:=h.base;have h3:(Z.rd i d e a).base=Z.b:=rfl
 grind [Cx.S,az4,lj,Ev.pure,Cx.fr,aCR,ayA]
theorem B7(h:ny Z)(hi:i<Z.T.length):Ev (fun n=>mI n (Z.rd i d e a)) (Z.S.E i):=by
 refine Ev.fn (fun n=>by simp only[mI,kD,IZ,mB];exact rfl) ?_;have h3:(Z.rd i d e a).base=Z.b:=rfl;have h4:(Z.rd i d e a).i=(i:Int):=rfl;rw[h3,h4];cases i with
 |zero=>exact Ev.pure
 |succ k=>
  have hk:k<Z.T.length:=by omega
  have h1:=h.nE Z.T[k] (iP hk);have h2:=h.base;have hl:=h.len;have e1:(((k+1:Nat):Int)==0)=false:=by grind
  have e2:IntKind.i64.wrap (((k+1:Nat):Int)-1)=(k:Int):=by grind [lj]
  have e3:sQ (Z.rd (k+1) d e a).HJ (k:Int)=some Z.T[k]:=nA hk
  grind [lj,Cx.S,Ev.pure]
theorem RY(c p:Int):Ev (fun n=>nK n (Z.rd i d e a) c p) ((Z.rd i d (bif e==0 then c else e) (bif e==0 then p else a),()),()):=by
 refine Ev.fn (fun n=>by simp only[nK,kD,Hj,mB];exact rfl) ?_;rw[show(Z.rd i d e a).e=e from rfl];cases e==0<;>exact Ev.pure
theorem auP(h:ny Z)(hi:i<Z.T.length):Ev (fun n=>kW n (Z.rd i d e a)) ((Z.rd (bif e==0 then Z.S.nx i else i) d e a,()),()):=by
 refine Ev.fn (fun n=>by simp only[kW,kD,Ho,mB];exact rfl) ?_;have hl:=h.len;have e1:IntKind.i64.wrap ((i:Int)+1)=((i+1:Nat):Int):=kM (by omega);have e2:decide ((((i+1:Nat):Int))<(Z.T.length:Int))=decide (i+1<Z.T.length):=decide_eq_decide.2 (by omega);simp only[Cx.rd,e1,e2];have hlen:Z.S.len=Z.T.length:=rfl
 grind [nS.nx,Ev.pure]
theorem mK(h:ny Z)(hi:i<Z.T.length):Ev (fun n=>kW n (Z.rd i d 0 a)) ((Z.rd (Z.S.nx i) d 0 a,()),()):=auP h hi
theorem mF(hi:i<Z.T.length)(s:Str):Ev (fun n=>lM n (Z.rd i d e a) s) (e==0&&Z.S.tX s i):=by
 refine Ev.fn (fun n=>by simp only[lM,kD,I2,mB];exact rfl) ?_;refine Ev.bind (ua hi) ?_;rw[show(e==0&&Z.S.tX s i)=_ from(aCS hi rfl s).symm];cases (Z.tk i e).kind==2 with
 |true=>exact Ev.bind (ua hi) Ev.pure
 |false=>exact Ev.pure
theorem D2(hi:i<Z.T.length)(s:Str):Ev (fun n=>xf n (Z.rd i d e a) s) (e==0&&Z.S.key s i):=by
 refine Ev.fn (fun n=>by simp only[xf,kD,I3,mB];exact rfl) ?_;refine Ev.bind (ua hi) ?_;rw[show(e==0&&Z.S.key s i)=_ from(aCS hi rfl s).symm];cases (Z.tk i e).kind==3 with
 |true=>exact Ev.bind (ua hi) Ev.pure
 |false=>exact Ev.pure
theorem auQ(hi:i<Z.T.length)(s:Str):Ev (fun n=>E8 n (Z.rd i d e a) s) (e==0&&Z.S.is 0 s i):=by
 refine Ev.fn (fun n=>by simp only[E8,kD,Hs,mB];exact rfl) ?_;refine Ev.bind (ua hi) ?_;rw[<-aCS hi rfl s];cases (Z.tk i e).kind==0 with
 |true=>exact Ev.bind (ua hi) Ev.pure
 |false=>exact Ev.pure
theorem IK(h:ny Z)(hi:i<Z.T.length):Ev (fun n=>oH n (Z.rd i d e a)) ((Z.rd i d (bif e==0 then 4 else e) (bif e==0 then Z.fr i e else a),()),()):=by
 refine Ev.fn (fun n=>by simp only[oH,kD,I6,mB];exact rfl) ?_;exact Ev.bind (C1 h hi) (Ev.bind (RY 4 _) Ev.pure)
theorem apV{W O:Type}(x:W)(j:Nat)(c:Int)(hc:(c==0)=false):lz e a (.er c (Z.S.F i):Rs W)=lz (bif e==0 then c else e) (bif e==0 then Z.fr i e else a) (.ok x j):=by
 unfold Cx.fr;cases he:e==0 with
 |true=>rw[beq_iff_eq.1 he];simp only[jK];rw[vp hc];rfl
 |false=>grind [vp]
theorem RN.D5(hi:i<Z.T.length):RN Z d (lz e a (Z.S.D5 i)) ((Z.rd i d (bif e==0 then 4 else e) (bif e==0 then Z.fr i e else a),()),()):=⟨i,_,_,hi,rfl,apV (O:=Unit) () i 4 rfl⟩
theorem RQ.D5{W:Type}{x:W}(hi:i<Z.T.length):RQ Z d (lz e a (Z.S.D5 i)) ((Z.rd i d (bif e==0 then 4 else e) (bif e==0 then Z.fr i e else a),()),x,()):=⟨i,_,_,x,hi,rfl,apV (O:=Unit) x i 4 rfl⟩
theorem C2(h:ny Z)(hi:i<Z.T.length)(hk:200<=k):Ev (fun n=>lX n (Z.rd i d 0 a) k) ((Z.rd i d 7 (Z.S.F i),()),()):=by
 refine Ev.fn (fun n=>by simp only[lX,kD,AS,mB];exact rfl) ?_;rw[jM hk];exact Ev.bind (C1 h hi) (Ev.bind (RY 7 _) Ev.pure)
theorem zt(hi:i<Z.T.length)(hk:k<200):Ev (fun n=>lX n (Z.rd i d e a) k) ((Z.rd i d e a,()),()):=by
 refine Ev.fn (fun n=>by simp only[lX,kD,AS,mB];exact rfl) ?_
 grind [Ev.pure]
theorem rE(h:ny Z)(hi:i<Z.T.length)(s:Str):k8 (fun n=>lP n (Z.rd i d e a) s) (RN Z d (lz e a (Z.S.take s i))):=by
 refine k8.fn (fun n=>by simp only[lP,kD,Hv,mB];exact rfl) ?_;refine Ev.to (mF hi s) ?_;unfold nS.take;rw[C0];cases he:e==0 with
 |false=>
  simp only[iM,jL];refine Ev.to (D2 hi s) ?_;rw[he];simp only[iM,jL];have:=Ev.to (Q:=RN Z d (lz e a (Z.S.D5 i))) (IK (d:=d) (e:=e) (a:=a) h hi) (k8.pure (RN.D5 hi):k8 (fun _=>some ((Z.rd i d (bif e==0 then 4 else e) (bif e==0 then Z.fr i e else a),()),())) _)
  grind
 |true=>
  obtain rfl:=beq_iff_eq.1 he;simp only[iH];cases hs:Z.S.tX s i with
  |true=>exact Ev.to (mK h hi) (k8.pure (RN.pure (mS hi)))
  |false=>
   simp only[jL,jf];refine Ev.to (D2 hi s) ?_;simp only[beq_self_eq_true,iH];cases Z.S.key s i with
   |true=>exact Ev.to (mK h hi) (k8.pure (RN.pure (mS hi)))
   |false=>exact Ev.to (IK h hi) (k8.pure (RN.D5 hi))
theorem ZC(s:Str)(hl:s.length<=100000):Ev (fun n=>Dq n s) (!axh s):=by
 refine Ev.fn (fun n=>by simp only[Dq,kD,QS,mB];exact rfl) ?_
 have key:∀q p:Nat,p+q=s.length->kZ (fun n m=>Ea n m s (p:Int)) (!(s.drop p).contains 46):=by
  intro q;induction q with
  |zero=>
   intro p hp;refine kZ.lp (fun n m=>by simp only[S7,D9,mB];exact rfl) ?_
   grind [kZ.pure]
  |succ q ih=>
   intro p hp;have me:p<s.length:=by omega
   refine kZ.lp (fun n m=>by simp only[S7,D9,mB];exact rfl) ?_;rw[jM (by omega)];simp only[jK,nA me,iL];have:=ih (p+1) (by omega);rw[iS me,ja,kM (by omega)]
   have e1:((s[p].toNat:Int)==46)=((46:UInt8)==s[p]):=by
    rw[Bool.eq_iff_iff,beq_iff_eq,beq_iff_eq];constructor
    ·intro h;exact UInt8.toNat.inj (by grind)
    ·intro h;rw[<-h];rfl
   rw[e1];cases (46:UInt8)==s[p]with
   |true=>exact kZ.pure
   |false=>exact this
 exact Ev.yn (F:=fun n m=>Ea n m s 0) (key s.length 0 (by omega))
theorem ad7(h:ny Z)(hi:i<Z.T.length):Ev (fun n=>u6 n (Z.rd i d e a)) (e==0&&Z.S.G7 i):=by
 refine Ev.fn (fun n=>by simp only[u6,kD,Au,mB];exact rfl) ?_;refine Ev.bind (ua hi) ?_;rw[B6 hi rfl];unfold nS.G7 nS.simple;have hs:=mF (Z:=Z) (d:=d) (e:=e) (a:=a) hi [95];cases he:e==0 with
 |false=>grind
 |true=>
  obtain rfl:=beq_iff_eq.1 he;simp only[beq_self_eq_true,iH]at hs ⊢;cases (Z.S.K i).1==0 with
  |false=>grind
  |true=>
   simp only[jK,iH];rw[II hi];refine Ev.bind (ZC _ (by rw[Gp hi];exact(h.nE _ (iP hi)).2.2)) ?_
   grind [Ev.pure]
theorem RZ(h:ny Z)(hi:i<Z.T.length):k8 (fun n=>oB n (Z.rd i d e a)) (RQ Z d (lz e a (Z.S.var i))):=by
 refine k8.fn (fun n=>by simp only[oB,kD,xZ,mB];exact rfl) ?_;refine Ev.to (ad7 h hi) ?_;unfold nS.var;rw[C0];refine k8.ite (Q:=RQ Z d) (fun hc=>?_) fun _=>Ev.to (IK h hi) (k8.pure (RQ.D5 hi))
 rw[iI]at hc;obtain rfl:=beq_iff_eq.1 hc.1;exact Ev.to (ua hi) (Ev.to (mK h hi) (k8.pure (RQ.pure (mS hi) fun _=>II hi)))
end
def XC(lH:List Str)(r:Str):Int×Nat×Int:=
 bif decide (64<Xt r)then(0,0,5)
 else bif r.take (Xt r)==[95] then(2,Xt r,0)
 else bif lH.contains (r.take (Xt r))then(2,Xt r,0)
 else bif kws.contains (r.take (Xt r))then(3,Xt r,0)
 else(0,Xt r,0)
def aiG(lH:List Str)(r:Str):Int×Nat×Int:=bif Bc r 0 (sX++lH)==0 then(0,0,4)else(2,Bc r 0 (sX++lH),0)
def tO(lH:List Str):Str->Int×Nat×Int
 |[]=>(0,0,4)
 |c::t=>bif C5 c then XC lH (c::t)else bif rD c then Xu (c::t)else bif c==34 then OW (c::t)else aiG lH (c::t)
theorem L8{k:Nat}(n:Nat):(s.take (k+n)).drop k=(s.drop k).take n:=by grind [List.drop_take]
theorem aiH{n:Nat}(h:n<=r.length):(r.take n).length=n:=by rw[List.length_take];omega
theorem aCT(s:Str)(k:Nat)(hk:k<=s.length)(r2:List (Str×Bool))(lH:List Str)(h2:∀y,(oa y r2).getD false=lH.contains y):
 apC s k Gl r2 (k+Xt (s.drop k))=ae2 k (XC lH (s.drop k)):=by
 unfold apC XC;have hn:=art (s.drop k);have hl:((s.drop k).take (Xt (s.drop k))).length=Xt (s.drop k):=aiH hn;have hkw:∀y,(oa y Gl).getD false=kws.contains y:=fun y=>agP y kws
 rw[L8,hl,h2,hkw];have e:decide ((64:Int)<((Xt (s.drop k):Nat):Int))=decide (64<Xt (s.drop k)):=decide_eq_decide.2 (by omega);rw[e];cases decide (64<Xt (s.drop k))<;>cases (s.drop k).take (Xt (s.drop k))==[95]<;>cases lH.contains ((s.drop k).take (Xt (s.drop k)))<;>cases kws.contains ((s.drop k).take (Xt (s.drop k)))<;>rfl
theorem az5(s:Str)(hs:s.length<Nq)(k:Nat)(hk:k<s.length)(lH:List Str)(hl:lH.length<1000)(hy:∀y∈lH,y.length<Nq):
 Ev (fun n=>adU n s (k:Int) lH) (ae2 k (tO lH (s.drop k))):=by
 refine Ev.fn (fun n=>by simp only[adU,kD,acM,mB];exact rfl) ?_;have hs':s.length<4294967281:=hs;simp only[nA hk,iL];refine Ev.bind (adZ _) ?_;have hd:=oo hk
 have alg:tO lH (s.drop k)=bif C5 s[k] then XC lH (s.drop k)else bif rD s[k] then Xu (s.drop k)else bif s[k]==34 then OW (s.drop k)else aiG lH (s.drop k):=by
  rw[hd];rfl
 rw[alg];cases C5 s[k]with
 |true=>
  simp only[jK];have hn:=art (s.drop k);rw[iO]at hn;refine Ev.bind (aw4 s (by simp only[big];omega) k (by omega)) ?_;have e1:decide ((0:Int)<=(k:Int)/\(k:Int)<=((k+Xt (s.drop k):Nat):Int)/\((k+Xt (s.drop k):Nat):Int)<=(s.length:Int))=true:=jM (by omega);simp only[e1,jK,iW];rw[L8,anf (by omega) (by simp only[big];omega),Nat.add_sub_cancel_left];unfold XC;have e:decide ((64:Int)<((Xt (s.drop k):Nat):Int))=decide (64<Xt (s.drop k)):=decide_eq_decide.2 (by omega);rw[e];cases decide (64<Xt (s.drop k))with
  |true=>exact Ev.pure
  |false=>
   simp only[jL];cases (s.drop k).take (Xt (s.drop k))==[95]with
   |true=>exact Ev.pure
   |false=>
    simp only[jL];refine Ev.bind (aHJ lH _ (by omega)) ?_;cases lH.contains ((s.drop k).take (Xt (s.drop k)))with
    |true=>exact Ev.pure
    |false=>
     simp only[jL];refine Ev.bind (afW _) ?_;cases kws.contains ((s.drop k).take (Xt (s.drop k)))with
     |true=>exact Ev.pure
     |false=>exact Ev.pure
 |false=>
  simp only[jL];refine Ev.bind (ads _) ?_;cases rD s[k]with
  |true=>
   simp only[jK];exact Ev.yn (F:=fun n m=>GG n m s (k:Int) (s[k].toNat:Int) (k:Int)) (arv s (by simp only[big];omega) k lH hk)
  |false=>
   simp only[jL];rw[show((s[k].toNat:Int)==34)=(s[k]==34)from wq _ 34 (by decide)];cases s[k]==34 with
   |true=>
    grind [kM,Ev.yn,arz]
   |false=>
    simp only[jL];refine Ev.bind aum ?_;have hfl:sX.length=21:=rfl
    have aLF:Ev (fun n=>(HP n s (k:Int) (sX++lH)).bind fun x=>bif x==0 then some ((0:Int),(k:Int),(4:Int))else some ((2:Int),IntKind.i64.wrap ((k:Int)+x),(0:Int))) (ae2 k (aiG lH (s.drop k))):=by
     refine Ev.bind (aw5 s hs k (by omega) (sX++lH) (by grind) ?_) ?_
     ·intro y hy';rcases iZ.1 hy' with h|h
      ·have:∀y∈sX,y.length<4294967281:=by decide
       exact this y h
      ·exact hy y h
     ·have hle:=anj (s.drop k) (sX++lH);rw[iO]at hle;unfold aiG
      have e:(((Bc (s.drop k) 0 (sX++lH):Nat):Int)==0)=(Bc (s.drop k) 0 (sX++lH)==0):=by
       grind
      rw[e,lj (by omega) (by omega),<-Int.natCast_add];generalize Bc (s.drop k) 0 (sX++lH)=q;cases q==0 with
      |true=>exact Ev.pure
      |false=>exact Ev.pure
    grind [List.length_eq_zero_iff]
theorem ayB(h:(Xu r).2.2=0):(Xu r).2.1=pe rD r:=by
 grind [Xu]
theorem aly(h:(tO lH (c::t)).2.2=0):1<=(tO lH (c::t)).2.1/\(tO lH (c::t)).2.1<=(c::t).length:=by
 rw[tO]at h ⊢;cases hb:C5 c with
 |true=>
  grind [art,Zu,yJ,tN,Sw,XC]
 |false=>
  cases hd:rD c with
  |true=>
   grind [GM,tN,ayB]
  |false=>
   cases hq:c==34 with
   |true=>
    grind [OW,iR]
   |false=>
    grind [aiG,anj]
def ZD(T:Str->Int×Nat×Int):Str->Nat->List kH×Int×Int
 |[],a=>([⟨4,[],(a:Int)⟩],0,0)
 |c::t,a=>
  bif (T (c::t)).2.2==0 then
   let r:=t.drop ((T (c::t)).2.1-1)
   let z:=ZD T (r.drop (n7 false r)) (a+(T (c::t)).2.1+n7 false r)
   bif z.2.2==0 then(⟨(T (c::t)).1,(c::t).take (T (c::t)).2.1,(a:Int)⟩::z.1,0,0)else([],z.2.1,z.2.2)
  else([],((a+(T (c::t)).2.1:Nat):Int),(T (c::t)).2.2)
termination_by r=>r.length
decreasing_by grind
def aoR(out:List kH)(z:List kH×Int×Int):List kH×Int×Int:=bif z.2.2==0 then(out++z.1,0,0)else([],z.2.1,z.2.2)
theorem auR(out:List kH)(x:kH)(z:List kH×Int×Int):aoR (out++[x]) z=aoR out (bif z.2.2==0 then(x::z.1,0,0)else([],z.2.1,z.2.2)):=by
 grind [aoR]
theorem apW(T:Str->Int×Nat×Int)(s:Str)(k:Nat)(hk:k<s.length)(h0:(T (s.drop k)).2.2=0)(h1:1<=(T (s.drop k)).2.1)(h2:k+(T (s.drop k)).2.1<=s.length):
 ZD T (s.drop k) k=let e:=k+(T (s.drop k)).2.1
  let j:=e+n7 false (s.drop e)
  let z:=ZD T (s.drop j) j
  bif z.2.2==0 then(⟨(T (s.drop k)).1,(s.drop k).take (T (s.drop k)).2.1,(k:Int)⟩::z.1,0,0)else([],z.2.1,z.2.2):=by
 have hd:=oo hk
 have e:(s.drop (k+1)).drop ((T (s.drop k)).2.1-1)=s.drop (k+(T (s.drop k)).2.1):=by
  rw[ji];congr 1;omega
 grind [ZD,ji]
theorem auS(T:Str->Int×Nat×Int)(s:Str)(k:Nat)(hk:k<s.length)(h0:((T (s.drop k)).2.2==0)=false):ZD T (s.drop k) k=([],((k+(T (s.drop k)).2.1:Nat):Int),(T (s.drop k)).2.2):=by
 grind [oo,ZD]
theorem auT(T:Str->Int×Nat×Int)(s:Str):ZD T (s.drop s.length) s.length=([⟨4,[],(s.length:Int)⟩],0,0):=by
 rw[List.drop_length,ZD]
def BH(lH:List Str)(s:Str):List kH×Int×Int:=
 bif lH.all RO then
  bif decide (65536<s.length)then([],0,5)else ZD (tO lH) (s.drop (n7 false s)) (n7 false s)
 else([],0,1)
theorem akl{W:Type}(x s:Str)(v:W):∀es:List (Str×W),oa x (AF s v es)=bif x==s then some v else oa x es
 |[]=>by grind [AF,oa]
 |(k,u)::es=>by
  simp [AF];cases hk:s==k with
  |true=>
   grind [oa]
  |false=>
   simp [oa,akl x s v es]
   grind
def D3(l:List Str)(r:List (Str×Bool)):List (Str×Bool):=l.foldl (fun r y=>AF y true r) r
theorem adC(y:Str):∀(l:List Str)(r:List (Str×Bool)),(oa y (D3 l r)).getD false=(l.contains y||(oa y r).getD false)
 |[],r=>rfl
 |x::l,r=>by
  show(oa y (D3 l (AF x true r))).getD false=_;rw[adC y l,akl,ja];cases y==x<;>simp
theorem az6(aHV:lH.all RO=true)(hr:r=c::t)(hb:C5 c=false):∀y∈sX++lH,r.take y.length=y->y.length<=8:=by
 intro y hy he;rcases iZ.1 hy with h|h
 ·have:∀y∈sX,y.length<=8:=by decide
  exact this y h
 ·have hs:=List.all_eq_true.1 aHV y h
  match y,hs,he with
  |d::u,hs,he=>
   grind [RO]
theorem az7(s:Str)(hs:s.length<Nq)(lH:List Str)(aHV:lH.all RO=true)(r1 r2:List (Str×Bool))(h1:∀y,(oa y r1).getD false=lH.contains y)(h2:∀y,(oa y r2).getD false=(sX++lH).contains y):
 ∀(k:Nat)(out:List kH),k<=s.length->out.length<=k->kZ (fun n m=>Bv n m s Gl r1 r2 s (k:Int) out) (aoR out (ZD (tO lH) (s.drop k) k)):=by
 intro k;have hs':s.length<4294967281:=hs;induction h:s.length-k using jd generalizing k with
 |ind d ih=>
  intro out hk ai4;have Kp:decide ((out.length+1)*32<=17592186044416)=true:=jM (by omega);refine kZ.lp (fun n m=>by simp only[ak6,NO,mB];exact rfl) ?_;by_cases me:k<s.length
  ·have e1:decide ((k:Int)<(s.length:Int))=true:=jM (by omega);simp only[e1,jK];refine kZ.Eu me ?_;refine kZ.lQ (RM _) ?_;have hd:=oo me
   have alg:tO lH (s.drop k)=bif C5 s[k] then XC lH (s.drop k)else bif rD s[k] then Xu (s.drop k)else bif s[k]==34 then OW (s.drop k)else aiG lH (s.drop k):=by
    rw[hd];rfl
   have tail:∀xx,xx=pk (scn s k Gl r1 r2) (ae2 k (tO lH (s.drop k)))->kZ (fun n m=>
    bif xx.snd.snd.snd.fst !=0 then some ([],xx.snd.snd.fst,xx.snd.snd.snd.fst)
    else
     bif decide (0<=xx.fst.fst.snd.fst/\xx.fst.fst.snd.fst<=xx.snd.snd.fst/\xx.snd.snd.fst<=(s.length:Int)) then
      bif decide ((out.length+1)*32<=17592186044416) then
       (xg n xx.fst.fst.fst xx.snd.snd.fst xx.fst.snd.fst xx.fst.snd.snd.fst xx.fst.snd.snd.snd.fst).bind fun x_1=>
         Bv n m s x_1.fst.snd.fst x_1.fst.snd.snd.fst x_1.fst.snd.snd.snd.fst x_1.fst.fst.fst x_1.fst.fst.snd.fst
          (out++[{kind:=xx.snd.fst,text:=List.drop xx.fst.fst.snd.fst.toNat (List.take xx.snd.snd.fst.toNat s),nE:=xx.fst.fst.snd.fst}])
      else none
     else none) (aoR out (ZD (tO lH) (s.drop k) k)):=by
    intro xx hxx;subst hxx;simp only[pk,scn,ae2];cases h0:(tO lH (s.drop k)).2.2==0 with
    |false=>
     grind [auS,aoR,kZ.pure]
    |true=>
     have hb:((tO lH (s.drop k)).2.2 !=0)=false:=by rw[bne,h0];rfl
     simp only[hb,jL];have hp:=aly (lH:=lH) (c:=s[k]) (t:=s.drop (k+1)) (by rw[<-hd];exact eq_of_beq h0);rw[<-hd,iO]at hp;obtain⟨n,hn⟩:∃n,(tO lH (s.drop k)).2.1=n:=⟨_,rfl⟩;rw[hn]at hp;simp only[hn];have e2:decide ((0:Int)<=(k:Int)/\(k:Int)<=((k+n:Nat):Int)/\((k+n:Nat):Int)<=(s.length:Int))=true:=jM (by omega);simp only[e2,Kp,jK,iW];rw[L8];refine kZ.lQ (aup s hs Gl r1 r2 (k+n) (by omega)) ?_;have hsk:=Gm false (s.drop (k+n));rw[iO]at hsk;rw[apW _ s k me (eq_of_beq h0) (by rw[hn];omega) (by rw[hn];omega)];simp only[hn,scn];have:=ih (s.length-(k+n+n7 false (s.drop (k+n)))) (by omega) _ rfl (out++[⟨(tO lH (s.drop k)).1,(s.drop k).take n,(k:Int)⟩]) (by omega) (by grind)
     grind [auR]
   cases hb:C5 s[k]with
   |true=>
    have c0:(CX s[k]==0)=false:=by unfold CX;rw[hb];rfl
    have c1:(CX s[k]==1)=true:=by rw[Xr,hb]
    simp only[c0,c1,jL,jK];have hw:=aFl s (by simp only[big];omega) k Gl r1 r2 hk;rw[aCT s k hk r1 lH h1]at hw;rw[hb,jK]at alg;rw[<-alg]at hw;exact kZ.lQ hw (tail _ rfl)
   |false=>
    rw[hb,jL]at alg;have c1:(CX s[k]==1)=false:=by rw[Xr,hb]
    cases hdg:rD s[k]with
    |true=>
     have c0:(CX s[k]==0)=false:=by unfold CX;rw[hb,hdg];rfl
     have c2:(CX s[k]==2)=true:=by rw[Xs,hdg]
     simp only[c0,c1,c2,jL,jK];rw[hdg,jK]at alg;have hw:=azK s (by simp only[big];omega) k Gl r1 r2 me;rw[<-alg]at hw;exact kZ.lQ hw (tail _ rfl)
    |false=>
     rw[hdg,jL]at alg;have c2:(CX s[k]==2)=false:=by rw[Xs,hdg]
     cases hq:s[k]==34 with
     |true=>
      have c0:(CX s[k]==0)=false:=by grind [CX]
      have c3:(CX s[k]==3)=true:=by grind [CX]
      simp only[c0,c1,c2,c3,jL,jK];rw[hq,jK]at alg;have hw:=azO s hs k me Gl r1 r2;rw[<-alg]at hw;exact kZ.lQ hw (tail _ rfl)
     |false=>
      have c0:(CX s[k]==0)=true:=by grind [CX]
      simp only[c0,jK];rw[hq,jL]at alg;have hw:=azN s hs k hk Gl r1 r2 (sX++lH) h2 (az6 aHV hd hb)
      have e:(bif Bc (s.drop k) 0 (sX++lH)==0 then((0:Int),(k:Int),(4:Int))else(2,((k+Bc (s.drop k) 0 (sX++lH):Nat):Int),0))=ae2 k (aiG lH (s.drop k)):=by
       unfold aiG;generalize Bc (s.drop k) 0 (sX++lH)=q;cases q==0<;>rfl
      rw[e,<-alg]at hw;exact kZ.lQ hw (tail _ rfl)
  ·have e1:decide ((k:Int)<(s.length:Int))=false:=jN (by omega);obtain rfl:k=s.length:=by omega
   rw[auT];simp only[e1,jL,Kp,jK];exact kZ.pure
theorem arN(s:Str)(hs:s.length<Nq)(lH:List Str)(hl:lH.length<1000)(hy:∀y∈lH,y.length<Nq):
 ∀(k:Nat)(out:List kH),k<=s.length->out.length<=k->kZ (fun n m=>Ig n m s lH (k:Int) out) (aoR out (ZD (tO lH) (s.drop k) k)):=by
 intro k;have hs':s.length<4294967281:=hs;induction h:s.length-k using jd generalizing k with
 |ind d ih=>
  intro out hk ai4;have Kp:decide ((out.length+1)*32<=17592186044416)=true:=jM (by omega);refine kZ.lp (fun n m=>by simp only[ak7,NP,mB];exact rfl) ?_;by_cases me:k<s.length
  ·have e1:decide ((k:Int)<(s.length:Int))=true:=jM (by omega);simp only[e1,jK];refine kZ.lQ (az5 s hs k me lH hl hy) ?_;have hd:=oo me;simp only[ae2];cases h0:(tO lH (s.drop k)).2.2==0 with
   |false=>
    grind [auS,aoR,kZ.pure]
   |true=>
    have hb:((tO lH (s.drop k)).2.2 !=0)=false:=by rw[bne,h0];rfl
    simp only[hb,jL];have hp:=aly (lH:=lH) (c:=s[k]) (t:=s.drop (k+1)) (by rw[<-hd];exact eq_of_beq h0);rw[<-hd,iO]at hp;obtain⟨n,hn⟩:∃n,(tO lH (s.drop k)).2.1=n:=⟨_,rfl⟩;rw[hn]at hp;simp only[hn];have e2:decide ((0:Int)<=(k:Int)/\(k:Int)<=((k+n:Nat):Int)/\((k+n:Nat):Int)<=(s.length:Int))=true:=jM (by omega);simp only[e2,Kp,jK,iW];rw[L8];refine kZ.lQ (anh s (by simp only[big];omega) (k+n) (by omega)) ?_;have hsk:=Gm false (s.drop (k+n));rw[iO]at hsk;rw[apW _ s k me (eq_of_beq h0) (by rw[hn];omega) (by rw[hn];omega)];simp only[hn];have:=ih (s.length-(k+n+n7 false (s.drop (k+n)))) (by omega) _ rfl (out++[⟨(tO lH (s.drop k)).1,(s.drop k).take n,(k:Int)⟩]) (by omega) (by grind)
    grind [auR]
  ·have e1:decide ((k:Int)<(s.length:Int))=false:=jN (by omega);obtain rfl:k=s.length:=by omega
   rw[auT];simp only[e1,jL,Kp,jK];exact kZ.pure
theorem auU{T:Str->Int×Nat×Int}{a:Nat}:aoR [] (ZD T r a)=ZD T r a:=by
 unfold aoR
 match r with
 |[]=>rw[ZD];rfl
 |c::t=>
  grind [ZD]
theorem axq(s:Str)(hs:s.length<Nq)(lH:List Str)(hl:lH.length<1000)(hy:∀y∈lH,y.length<Nq):Ev (fun n=>YX n s lH) (BH lH s):=by
 refine Ev.fn (fun n=>by simp only[YX,kD,YW,mB];exact rfl) ?_;have hs':s.length<4294967281:=hs
 have key:∀d k:Nat,k+d=lH.length->kZ (fun n m=>Ii n m s lH (k:Int)) (bif (lH.drop k).all RO then(bif decide (65536<s.length)then([],0,5)else ZD (tO lH) (s.drop (n7 false s)) (n7 false s))else([],0,1)):=by
  intro d;induction d with
  |zero=>
   intro k hk;refine kZ.lp (fun n m=>by simp only[aae,Ih,mB];exact rfl) ?_;have:decide ((k:Int)<(lH.length:Int))=false:=jN (by omega);simp only[this,jL];rw[jb (show lH.length<=k by omega)];simp only[List.all_nil,jK];have e:decide ((65536:Int)<(s.length:Int))=decide (65536<s.length):=decide_eq_decide.2 (by omega);rw[e];cases decide (65536<s.length)with
   |true=>exact kZ.pure
   |false=>
    simp only[jL];have hk0:=anh s (by simp only[big];omega) 0 (iK _);rw[jj,jp]at hk0;refine kZ.lQ hk0 ?_;have hsk:=Gm false s;have:=arN s hs lH hl hy (n7 false s) [] hsk (iK _);rw[auU]at this;exact kZ.P9 (Ev.yn (F:=fun n m=>Ig n m s lH ((n7 false s:Nat):Int) []) this)
  |succ d ih=>
   intro k hk;have me:k<lH.length:=by omega
   refine kZ.lp (fun n m=>by simp only[aae,Ih,mB];exact rfl) ?_;have:decide ((k:Int)<(lH.length:Int))=true:=jM (by omega);simp only[this,jK];refine kZ.Eu me (kZ.lQ (ait _ (hy _ (iP me))) ?_);rw[iS me,jl]
   grind [kZ.pure,kM]
 exact Ev.yn (F:=fun n m=>Ii n m s lH 0) (key lH.length 0 (by omega))
theorem aFF(s:Str)(hs:s.length<Nq)(lH:List Str)(hl:lH.length<1000)(hy:∀y∈lH,y.length<Nq):Ev (fun n=>Rp n s lH) (BH lH s):=by
 refine Ev.fn (fun n=>by simp only[Rp,kD,YU,mB];exact rfl) ?_;have hs':s.length<4294967281:=hs;refine Ev.bind akc ?_
 have l2:∀(l:List Str)(hll:l.length<1000)(j:Int)(r1:List (Str×Bool))(L:List (List Str))(b:Int)(X:Nat->Nat->List (Str×Bool)->Option (List kH×Int×Int))(res:List kH×Int×Int),
  ∀d k:Nat,k+d=l.length->∀r2,kZ (fun n m=>vG n m s L b (IntKind.i64.wrap (j+1)) Gl r1 (D3 (l.drop k) r2) s) res->
  Pk (fun n m p=>zl n (vG n m) p s L b j l ((l.length:Nat):Int) (k:Int) Gl r1 r2 s) res:=by
  intro l hll j r1 L b X res d;induction d with
  |zero=>
   intro k hk r2 auk;refine Pk.lp (fun n m p=>by simp only[aac,Ic,mB];exact rfl) ?_;have:decide ((k:Int)<(l.length:Int))=false:=jN (by omega);simp only[this,jL];rw[jb (show l.length<=k by omega)]at auk;exact Pk.yn auk
  |succ d ih=>
   intro k hk r2 auk;have me:k<l.length:=by omega
   refine Pk.lp (fun n m p=>by simp only[aac,Ic,mB];exact rfl) ?_;have:decide ((k:Int)<(l.length:Int))=true:=jM (by omega);simp only[this,jK];refine Pk.Eu me ?_;rw[kM (by omega)];refine ih (k+1) (by omega) _ ?_;rw[iS me]at auk;exact auk
 have key:∀d k:Nat,k+d=lH.length->∀r1,(∀y,(oa y (D3 (lH.drop k) r1)).getD false=lH.contains y)->((lH.take k).all RO=true)->
  kZ (fun n m=>If n m s lH lH ((lH.length:Nat):Int) (k:Int) Gl r1 [] s) (bif (lH.drop k).all RO then(bif decide (65536<s.length)then([],0,5)else ZD (tO lH) (s.drop (n7 false s)) (n7 false s))else([],0,1)):=by
  intro d;induction d with
  |zero=>
   intro k hk r1 hr1 Fq;refine kZ.lp (fun n m=>by simp only[aad,Ie,mB];exact rfl) ?_;have:decide ((k:Int)<(lH.length:Int))=false:=jN (by omega);simp only[this,jL];rw[jb (show lH.length<=k by omega)]at hr1 ⊢;rw[jq (by omega)]at Fq;simp only[List.all_nil,jK];refine kZ.lQ apA ?_;refine kZ.P9 (Ev.yn (F:=fun n m=>vG n m s [sX,lH] 2 0 Gl r1 [] s) ?_);refine kZ.lp (G:=fun n m=>zl n (vG n m) n s [sX,lH] 2 0 sX ((sX.length:Nat):Int) 0 Gl r1 [] s) (fun n m=>by simp only[Ph,Et];exact rfl) ?_;refine Pk.sn (F:=fun n m p=>zl n (vG n m) p s [sX,lH] 2 0 sX ((sX.length:Nat):Int) ((0:Nat):Int) Gl r1 [] s) ?_;refine l2 sX (by decide) 0 r1 _ 2 (fun _ _ _=>none) _ sX.length 0 (by omega) [] ?_;refine kZ.lp (G:=fun n m=>zl n (vG n m) n s [sX,lH] 2 1 lH ((lH.length:Nat):Int) 0 Gl r1 (D3 sX []) s) (fun n m=>by simp only[Ph,Et];exact rfl) ?_;refine Pk.sn (F:=fun n m p=>zl n (vG n m) p s [sX,lH] 2 1 lH ((lH.length:Nat):Int) ((0:Nat):Int) Gl r1 (D3 sX []) s) ?_;refine l2 lH hl 1 r1 _ 2 (fun _ _ _=>none) _ lH.length 0 (by omega) (D3 sX []) ?_;rw[jj]
   refine kZ.lp (G:=fun n m=>bif decide ((65536:Int)<(s.length:Int))then some ([],0,5)else(xg n s 0 Gl r1 (D3 lH (D3 sX []))).bind fun x=>
    Bv n n s x.fst.snd.fst x.fst.snd.snd.fst x.fst.snd.snd.snd.fst x.fst.fst.fst x.fst.fst.snd.fst []) (fun n m=>by simp only[Ph,Et];exact rfl) ?_
   have e:decide ((65536:Int)<(s.length:Int))=decide (65536<s.length):=decide_eq_decide.2 (by omega);rw[e];cases decide (65536<s.length)with
   |true=>exact kZ.pure
   |false=>
    simp only[jL];have hk0:=aup s hs Gl r1 (D3 lH (D3 sX [])) 0 (iK _);rw[jj,jp]at hk0;refine kZ.lQ hk0 ?_;have hsk:=Gm false s
    have:=az7 s hs lH Fq r1 (D3 lH (D3 sX [])) hr1 (fun y=>by
     grind [adC,oa]) (n7 false s) [] hsk (iK _)
    rw[auU]at this;exact kZ.P9 (Ev.yn (F:=fun n m=>Bv n m s Gl r1 (D3 lH (D3 sX [])) s ((n7 false s:Nat):Int) []) this)
  |succ d ih=>
   intro k hk r1 hr1 Fq;have me:k<lH.length:=by omega
   refine kZ.lp (fun n m=>by simp only[aad,Ie,mB];exact rfl) ?_;have:decide ((k:Int)<(lH.length:Int))=true:=jM (by omega);simp only[this,jK];refine kZ.Eu me (kZ.lQ (apF _ (hy _ (iP me))) ?_);rw[iS me,jl];cases hsy:RO lH[k]with
   |false=>exact kZ.pure
   |true=>
    simp only[jK,iH];rw[kM (by omega)];refine ih (k+1) (by omega) _ ?_ ?_
    ·rw[iS me]at hr1;exact hr1
    grind [List.take_succ_eq_append_getElem]
 exact Ev.yn (F:=fun n m=>If n m s lH lH ((lH.length:Nat):Int) 0 Gl [] [] s) (key lH.length 0 (by omega) [] (fun y=>by grind [adC,oa]) rfl)
theorem Qu(h:1<=m):(c::t).take m=c::t.take (m-1):=by
 obtain⟨m,rfl⟩:∃j,m=j+1:=⟨m-1,by omega⟩;rfl
theorem adD{p:UInt8->Bool}{w:UInt8}(hw:p w=false)(x:Str):∀(r:Str)(m:Nat),pe p r<=m->pe p (r.take m++w::x)=pe p r
 |[],m,_=>by rw[jw,List.nil_append,tN,hw];rfl
 |c::r,0,h=>by
  grind [tN]
 |c::r,m+1,h=>by
  rw[jx,iV,tN,tN];cases hc:p c with
  |false=>rfl
  |true=>
   rw[tN,hc]at h;simp at h ⊢;rw[adD hw x r m (by omega)]
theorem anB{y:Str}(h:q<=m)(hm:m<=r.length):(r.take m++y).drop q=(r.drop q).take (m-q)++y:=by
 grind [List.drop_take]
theorem apX(h:Sw w=false):C5 w=false/\rD w=false/\(w==39)=false:=by
 grind [Sw]
theorem aFG(hw:Sw w=false)(h46:(w==46)=false)(x:Str):∀(r:Str)(m:Nat),Xt r<=m->m<=r.length->Xt (r.take m++w::x)=Xt r:=by
 intro r;induction h:r.length using jd generalizing r with
 |ind d ih=>
  intro m hm hml;have hb:=(apX hw).1;have he:=Zu r;have hc:yJ (r.take m++w::x)=yJ r:=adD hw x r m (by unfold yJ at he;omega);rw[Zu (r.take m++w::x),hc,anB (by omega) (by omega),he];congr 1;have hl1:(r.drop (yJ r)).length=r.length-yJ r:=iO ..
  have ht:tlT (r.drop (yJ r))<=m-yJ r:=by omega
  have me:yJ r+2<=r.length->(r.drop (yJ r+1)).length<d:=by rw[iO];omega
  have hdd:(r.drop (yJ r)).drop 1=r.drop (yJ r+1):=ji ..
  have hm1:m-yJ r<=(r.drop (yJ r)).length:=by omega
  generalize hq:m-yJ r=q at ht hm1 ⊢
  match hr1:r.drop (yJ r)with
  |[]=>
   rw[jw];cases x with
   |nil=>rfl
   |cons c t=>show(bif w==46&&C5 c then _ else 0)=0;rw[h46];rfl
  |[e]=>
   cases q with
   |zero=>
    cases x with
    |nil=>rfl
    |cons c t=>show(bif w==46&&C5 c then _ else 0)=0;rw[h46];rfl
   |succ q=>
    rw[jx,jw,iV];show(bif e==46&&C5 w then _ else 0)=0;rw[hb,iT];rfl
  |e::c::t=>
   rw[hr1]at ht hm1 hl1 hdd;cases hec:e==46&&C5 c with
   |true=>
    have ht':tlT (e::c::t)=1+Xt (c::t):=by show(bif e==46&&C5 c then _ else 0)=_;rw[hec];rfl
    have hn1:1<=Xt (c::t):=by
     rw[Zu]
     grind [yJ,tN,Sw]
    obtain⟨j,rfl⟩:∃j,q=j+2:=⟨q-2,by omega⟩;have hih:=ih (c::t).length (by grind) (c::t) rfl (j+1) (by omega) (by grind);show(bif e==46&&C5 c then 1+Xt (c::(t.take j++w::x))else 0)=_
    grind
   |false=>
    have ht':tlT (e::c::t)=0:=by show(bif e==46&&C5 c then _ else 0)=_;rw[hec];rfl
    rw[ht']
    match q with
    |0=>
     cases x with
     |nil=>rfl
     |cons c t=>show(bif w==46&&C5 c then _ else 0)=0;rw[h46];rfl
    |1=>
     show(bif e==46&&C5 w then _ else 0)=0;rw[hb,iT];rfl
    |q+2=>
     show(bif e==46&&C5 c then _ else 0)=0;rw[hec];rfl
def spB(lH:List Str)(w:UInt8):Prop:=Sw w=false/\(w==46)=false/\∀y∈sX++lH,w ∉ y.drop 1
theorem az8{l:List Str}(hw:∀y∈l,w ∉ y.drop 1)(x:Str)(r:Str)(m:Nat)(h1:1<=m)(hm:Bc r 0 l<=m)(hml:m<=r.length):Bc (r.take m++w::x) 0 l=Bc r 0 l:=by
 obtain⟨a1,_,a3⟩:=Nr r l 0;obtain⟨b1,_,b3⟩:=Nr (r.take m++w::x) l 0;refine Nat.le_antisymm ?_ ?_
 ·rcases b1 with b1|⟨_,b4,b5⟩
  ·omega
  ·generalize Bc (r.take m++w::x) 0 l=v at*;rcases Nat.lt_or_ge m v with hv|hv
   ·exfalso;refine hw _ b5 ?_;obtain⟨j,rfl⟩:∃j,v=m+(j+1):=⟨v-m-1,by omega⟩
    simp_all [List.take_append,jc]
   grind
 grind
theorem aHW:qb 10=false:=rfl
theorem aCU(hw:Sw w=false)(x:Str)(c:UInt8)(t:Str)(m:Nat)(h1:1<=m)(hm:pe rD (c::t)<=m)(hml:m<=(c::t).length)(he:m=(c::t).length\/(Xu (c::t)).2.2=0):Xu ((c::t).take m++w::x)=Xu (c::t):=by
 obtain⟨wb,wd,w39⟩:=apX hw;have ub:pe rD ((c::t).take m++w::x)=pe rD (c::t):=adD wd x _ m hm;have hhd:((c::t).take m++w::x).head?=(c::t).head?:=by rw[Qu h1];rfl
 unfold Xu at he ⊢;rw[ub,hhd,anB hm hml];generalize hq:pe rD (c::t)=q at*;revert he;cases decide (6<q)with
 |true=>intro _;rfl
 |false=>
  cases decide (1<q)&&(c::t).head?==some 48 with
  |true=>intro _;rfl
  |false=>
   have hl:((c::t).drop q).length=(c::t).length-q:=iO ..
   generalize (c::t).drop q=u at*;cases u with
   |nil=>
    grind
   |cons d u=>
    rcases Nat.lt_or_ge q m with me|hge
    ·grind [Qu]
    ·have:m-q=0:=by omega
     grind
theorem az9(x:Str)(c:UInt8)(t:Str)(m:Nat)(h1:1<=m)(hml:m<=(c::t).length)(he:((OW (c::t)).2.2=0/\(OW (c::t)).2.1<=m)\/(m=(c::t).length/\w=10)):OW ((c::t).take m++w::x)=OW (c::t):=by
 rw[Qu h1];unfold OW at he ⊢;simp [jj]at he ⊢;have hr:=GM qb t;simp at hml he;rcases he with⟨he,hm⟩|⟨he,rfl⟩
 ·match hu:t.drop (pe qb t)with
  |[]=>rw[hu]at he;cases he
  |d::u=>
   rw[hu]at he hm;cases hd:d==34 with
   |false=>grind
   |true=>
    simp [hd]at hm
    have ub:pe qb (t.take (m-1)++w::x)=pe qb t:=by
     have ht:t=t.take (pe qb t)++d::u:=by rw[<-hu,jr]
     have hlen:(t.take (pe qb t)).length=pe qb t:=aiH hr;have hqd:qb d=false:=by rw[eq_of_beq hd];rfl
     have e1:t.take (m-1)++w::x=t.take (pe qb t)++d::(u.take (m-1-pe qb t-1)++w::x):=by
      conv=>lhs;rw[ht]
      rw[List.take_append,hlen,jq (by omega),Qu (by omega),List.append_assoc,iV]
     grind [adD]
    grind [anB,Qu]
 ·have ub:pe qb (t.take (m-1)++10::x)=pe qb t:=adD aHW x t (m-1) (by omega)
  grind
theorem aFH(hw:spB lH w)(x:Str)(c:UInt8)(t:Str)(m:Nat)(h1:1<=m)(hml:m<=(c::t).length)
 (he:((tO lH (c::t)).2.2=0/\(tO lH (c::t)).2.1<=m)\/(m=(c::t).length/\w=10)):tO lH ((c::t).take m++w::x)=tO lH (c::t):=by
 obtain⟨w1,w2,w3⟩:=hw;have aJZ:(c::t).take m++w::x=c::(t.take (m-1)++w::x):=by rw[Qu h1,iV]
 have he':∀r,r=(c::t).take m++w::x->tO lH r=bif C5 c then XC lH r else bif rD c then Xu r else bif c==34 then OW r else aiG lH r:=by
  intro r hr;rw[aJZ]at hr;subst hr;rfl
 rw[he' _ rfl];rw[tO]at he ⊢;cases hb:C5 c with
 |true=>
  have hn:Xt (c::t)<=m:=by
   grind [XC,art]
  unfold XC
  grind [aFG]
 |false=>
  cases hd:rD c with
  |true=>
   grind [aCU,ayB,GM]
  |false=>
   cases hq:c==34 with
   |true=>
    grind [az9]
   |false=>
    simp at he ⊢
    have hn:Bc (c::t) 0 (sX++lH)<=m:=by
     grind [aiG,anj]
    unfold aiG;rw[az8 w3 x _ m h1 hn hml]
def Ux:Bool->Str->Option Bool
 |co,[]=>some co
 |true,x::r=>bif x==10 then Ux false r else Ux true r
 |false,x::r=>bif whB x then Ux false r else bif x==45&&r.head?==some 45 then Ux true r else none
theorem adE:∀(co:Bool)(u v:Str)(f:Bool),Ux co u=some f->n7 co (u++v)=u.length+n7 f v
 |co,[],v,f,h=>by
  grind [Ux]
 |true,x::r,v,f,h=>by
  rw[Ux]at h;rw[iV,n7,iR];cases hx:x==10 with
  |true=>rw[hx]at h;simp at h ⊢;rw[adE false r v f h];omega
  |false=>rw[hx]at h;simp at h ⊢;rw[adE true r v f h];omega
 |false,x::r,v,f,h=>by
  rw[Ux]at h;rw[iV,n7,iR];cases hx:whB x with
  |true=>rw[hx]at h;simp at h ⊢;rw[adE false r v f h];omega
  |false=>
   rw[hx]at h;simp only[jL]at h ⊢;cases hc:x==45&&r.head?==some 45 with
   |false=>rw[hc]at h;cases h
   |true=>
    rw[hc]at h
    have:(x==45&&(r++v).head?==some 45)=true:=by
     grind
    rw[this,jK,adE true r v f h];omega
def af0:Str->Bool
 |[]=>true
 |c::t=> !whB c&& !(c==45&&t.head?==some 45)
theorem aAa(h:af0 r=true):n7 false r=0:=by
 cases r with
 |nil=>rfl
 |cons c t=>
  grind [af0,Xw]
theorem Jd:∀(co:Bool)(r:Str),∃f,Ux co (r.take (n7 co r))=some f/\(f=true->r.drop (n7 co r)=[])/\af0 (r.drop (n7 co r))=true
 |co,[]=>⟨co,by cases co<;>rfl,fun _=>by simp,by simp [af0]⟩
 |true,x::r=>by
  rw[n7];cases hx:x==10 with
  |true=>
   obtain⟨f,h1,h2⟩:=Jd false r
   grind [Ux]
  |false=>
   obtain⟨f,h1,h2⟩:=Jd true r
   grind [Ux]
 |false,x::r=>by
  rw[n7];cases hx:whB x with
  |true=>
   obtain⟨f,h1,h2⟩:=Jd false r
   grind [Ux]
  |false=>
   cases hc:x==45&&r.head?==some 45 with
   |false=>
    refine⟨false,rfl,fun h=>(by cases h),?_⟩
    grind [af0]
   |true=>
    obtain⟨f,h1,h2⟩:=Jd true r
    have hh:(r.take (n7 true r)).head?=r.head?:=by
     cases r with
     |nil=>rfl
     |cons y r=>
      grind [n7]
    grind [Ux]
theorem axr(h:((tO lH (c::t)).2.2==0)=false):(tO lH (c::t)).2.1<(c::t).length:=by
 have anW:0<(c::t).length:=by simp
 rw[tO]at h ⊢;cases hb:C5 c with
 |true=>
  grind [XC]
 |false=>
  rw[hb]at h;simp only[jL]at h ⊢;cases hd:rD c with
  |true=>
   grind [Xu,iR]
  |false=>
   grind [OW,aiG]
theorem auV{x:Str}(h:af0 r=true)(hr:r≠[])(hw:(w==45)=false):af0 (r++w::x)=true:=by
 match r,hr with
 |[c],_=>
  grind [af0]
 |c::d::t,_=>exact h
theorem auW(hw:spB lH 10)(x:Str):∀(r:Str)(a:Nat),((ZD (tO lH) r a).2.2==0)=false->af0 r=true->ZD (tO lH) (r++10::x) a=ZD (tO lH) r a/\(a:Int)<=(ZD (tO lH) r a).2.1/\(ZD (tO lH) r a).2.1<((a+r.length:Nat):Int):=by
 intro r;induction h:r.length using jd generalizing r with
 |ind d ih=>
  intro a he VT
  match r,h with
  |[],h=>rw[ZD]at he;cases he
  |c::t,h=>
   have aLj:tO lH (c::(t++10::x))=tO lH (c::t):=by
    grind [aFH,List.take_length]
   rw[ZD]at he ⊢;rw[iV,ZD,aLj];cases h0:(tO lH (c::t)).2.2==0 with
   |false=>
    have:=axr h0
    grind
   |true=>
    rw[h0]at he;simp only[jK]at he ⊢;have hp:=aly (eq_of_beq h0);generalize hn:(tO lH (c::t)).2.1=n at*
    have aCs:t.drop (n-1)=(c::t).drop n:=by
     obtain⟨j,rfl⟩:∃j,n=j+1:=⟨n-1,by omega⟩;rfl
    have aHX:(t++10::x).drop (n-1)=t.drop (n-1)++10::x:=jc (by rw[iR]at hp;omega);rw[aHX];generalize hr2:t.drop (n-1)=r2 at*;have hl2:r2.length=t.length-(n-1):=by rw[<-hr2,iO]
    obtain⟨f,s1,s2,s3⟩:=Jd false r2;have hsk:=Gm false r2
    have wN:r2.drop (n7 false r2)≠[]:=by
     grind [ZD]
    have hf:f=false:=by
     grind
    subst hf;have aLu:=auV (w:=10) (x:=x) s3 wN rfl
    have aLk:n7 false (r2++10::x)=n7 false r2:=by
     have e:r2++10::x=r2.take (n7 false r2)++(r2.drop (n7 false r2)++10::x):=by grind [jr]
     simp_all [adE,aAa]
    rw[aLk,jc hsk];rw[iR]at h hp
    have hz:((ZD (tO lH) (r2.drop (n7 false r2)) (a+n+n7 false r2)).2.2==0)=false:=by
     grind
    obtain⟨i1,i2,i3⟩:=ih (r2.drop (n7 false r2)).length (by rw[iO];omega) _ rfl (a+n+n7 false r2) hz s3;rw[i1];generalize ZD (tO lH) (r2.drop (n7 false r2)) (a+n+n7 false r2)=z at*;rw[hz];rw[iO]at i3;simp only[jL];exact⟨trivial,by omega,by omega⟩
theorem auX(w:UInt8)(h:whB w=true):Sw w=false/\adu w=false/\(w==46)=false/\(w==45)=false:=by
 have:=Zs (p:=fun w=> !whB w||(!Sw w&&(!adu w&&(!(w==46)&& !(w==45))))) (jR) w
 grind
theorem aAb(hs:lH.all RO=true)(h:whB w=true):spB lH w:=by
 obtain⟨h1,h2,h3,_⟩:=auX w h;refine⟨h1,h3,fun y hy hm=>?_⟩;have hm':w∈y:=List.mem_of_mem_drop hm;rcases iZ.1 hy with hf|hf
 ·have Fq:∀y∈sX,∀b∈y,whB b=false:=by decide
  grind
 ·have hsy:=List.all_eq_true.1 hs y hf
  match y,hsy,hm' with
  |c::t,hsy,hm'=>
   grind [RO]
theorem axs{a:Nat}(h:(ZD (tO lH) (c::t) a).2.2=0):
 ∃n sk f,(tO lH (c::t)).2.2=0/\n=(tO lH (c::t)).2.1/\1<=n/\n<=(c::t).length/\sk=n7 false ((c::t).drop n)/\Ux false (((c::t).drop n).take sk)=some f/\(f=true->(c::t).drop (n+sk)=[])/\af0 ((c::t).drop (n+sk))=true/\n+sk<=(c::t).length/\
  (ZD (tO lH) ((c::t).drop (n+sk)) (a+n+sk)).2.2=0/\(ZD (tO lH) (c::t) a).1=⟨(tO lH (c::t)).1,(c::t).take n,(a:Int)⟩::(ZD (tO lH) ((c::t).drop (n+sk)) (a+n+sk)).1:=by
 rw[ZD]at h ⊢;cases h0:(tO lH (c::t)).2.2==0 with
 |false=>
  grind
 |true=>
  rw[h0]at h;simp only[jK]at h ⊢;have hp:=aly (eq_of_beq h0)
  have aCs:t.drop ((tO lH (c::t)).2.1-1)=(c::t).drop (tO lH (c::t)).2.1:=by
   obtain⟨j,hj⟩:∃j,(tO lH (c::t)).2.1=j+1:=⟨(tO lH (c::t)).2.1-1,by omega⟩;rw[hj];rfl
  rw[aCs]at h ⊢;have hdd:∀q,((c::t).drop (tO lH (c::t)).2.1).drop q=(c::t).drop ((tO lH (c::t)).2.1+q):=fun q=>ji ..
  obtain⟨f,s1,s2,s3⟩:=Jd false ((c::t).drop (tO lH (c::t)).2.1);have hsk:=Gm false ((c::t).drop (tO lH (c::t)).2.1);rw[iO]at hsk;rw[hdd]at s2 s3;rw[hdd]at h ⊢;refine⟨_,_,f,eq_of_beq h0,rfl,hp.1,hp.2,rfl,s1,s2,s3,by omega,?_⟩
  grind
theorem aFI(hs:lH.all RO=true)(h:s.length<=65536):BH lH s=ZD (tO lH) (s.drop (n7 false s)) (n7 false s):=by
 grind [BH]
theorem aCV(h:(tO lH (c::t)).2.2=0):(tO lH (c::t)).1≠4:=by
 grind [tO,XC,Xu,OW,aiG]
def ayC(s:Str):Prop:=((s.length<=18/\Lib.atoi s=some (VK s))/\0<=VK s/\VK s<=999999)/\s.all rD=true
theorem arO:∀(s:Str)(mE:Nat),s.all rD=true->∃m:Nat,Lib.decFrom mE s=some m/\(m:Int)=s.foldl (fun n c=>10*n+((c.toNat:Int)-48)) (mE:Int)/\m+1<=(mE+1)*10 ^ s.length
 |[],mE,_=>⟨mE,rfl,rfl,by simp⟩
 |c::t,mE,h=>by
  rw[jl,iI]at h;have hd:=h.1;unfold rD at hd;rw[iI,jP,jP]at hd;obtain⟨m,h1,h2,h3⟩:=arO t (mE*10+(c.toNat-48)) h.2;refine⟨m,?_,?_,?_⟩
  ·grind [Lib.decFrom,Lib.digitVal]
  ·grind
  ·rw[iR,Nat.pow_succ,<-Nat.mul_assoc,Nat.mul_right_comm];exact Nat.le_trans h3 (Nat.mul_le_mul_right _ (by omega))
theorem aFJ(p:UInt8->Bool)(r:Str):(r.take (pe p r)).all p=true:=by
 grind [pe,List.prefix_iff_eq_take,List.takeWhile_prefix,List.all_takeWhile]
theorem aHY(h:pe rD r<=6)(h1:1<=pe rD r):ayC (r.take (pe rD r)):=by
 have ha:=aFJ rD r;have hl:(r.take (pe rD r)).length=pe rD r:=aiH (GM rD r);revert ha hl;generalize hs:r.take (pe rD r)=s;intro ha hl;obtain⟨m,m1,m2,m3⟩:=arO s 0 ha;have hz:(m:Int)=VK s:=m2;have h6:10 ^ s.length<=10 ^ 6:=jv (by decide) (by omega);refine⟨⟨⟨by omega,?_⟩,by omega,by grind⟩,ha⟩
 match s,hl with
 |[],hl=>rw[jh]at hl;omega
 |c::t,hl=>
  rw[jl,iI]at ha;have hd:=ha.1;unfold rD at hd;rw[iI,jP,jP]at hd
  have e1:(c==45)=false:=by
   rw[beq_eq_false_iff_ne];intro e;simp_all
  have e2:(c==43)=false:=by
   rw[beq_eq_false_iff_ne];intro e;simp_all
  grind [Lib.atoi,Lib.decNat]
theorem aFK(h:(tO lH (c::t)).2.2=0)(hk:(tO lH (c::t)).1=1):ayC ((c::t).take (tO lH (c::t)).2.1):=by
 rw[tO]at h hk ⊢
 grind [XC,tN,Xu,aHY,OW,aiG]
inductive TkL(e:Nat):Nat->List kH->Prop
 |last:TkL e e [⟨4,[],(e:Int)⟩]
 |cons {a b:Nat} {k:Int} {x:Str} {l:List kH}:k≠4->1<=x.length->(k=1->ayC x)->a+x.length<=b->TkL e b l->TkL e a (⟨k,x,(a:Int)⟩::l)
theorem aJ0:∀{r:Str}{a:Nat},(ZD (tO lH) r a).2.2=0->TkL (a+r.length) a (ZD (tO lH) r a).1:=by
 intro r;induction h:r.length using jd generalizing r with
 |ind d ih=>
  intro a he
  match r,h with
  |[],h=>subst h;rw[ZD];exact .last
  |c::t,h=>
   obtain⟨n,sk,f,h0,hn,hn1,hnl,hsk,s1,s2,s3,hle,hz,heq⟩:=axs he;rw[heq];have hr:((c::t).drop (n+sk)).length=d-(n+sk):=by rw[iO,h]
   have:=ih ((c::t).drop (n+sk)).length (by rw[hr];omega) rfl hz;rw[show a+n+sk+((c::t).drop (n+sk)).length=a+d by rw[hr];omega]at this;refine .cons (aCV h0) (by rw[aiH hnl];exact hn1) (fun hk=>?_) (by grind) this;rw[hn];exact aFK h0 hk
namespace TkL
theorem pos{e a:Nat}{l:List kH}(h:TkL e a l):0<l.length:=by cases h<;>simp
theorem le{e a:Nat}{l:List kH}(h:TkL e a l):a<=e/\l.length+a<=e+1:=by
 induction h with
 |last=>simp;omega
 |cons h1 h2 h3 h4 _ ih=>rw[iR];omega
theorem mem{e a:Nat}{l:List kH}(h:TkL e a l):∀t∈l,(a:Int)<=t.nE/\t.nE+(t.text.length:Int)<=(e:Int)/\(t.kind=1->ayC t.text):=by
 induction h with
 |last=>grind
 |cons h1 h2 h3 h4 h5 ih=>
  have:=h5.le
  grind
theorem next{e a:Nat}{l:List kH}(h:TkL e a l):∀(i:Nat)(hi:i+1<l.length),l[i].nE+(l[i].text.length:Int)<=l[i+1].nE/\l[i].nE<l[i+1].nE/\l[i].kind≠4:=by
 induction h with
 |last=>intro i hi;simp at hi
 |cons h1 h2 h3 h4 h5 ih=>
  intro i hi
  match i with
  |0=>
   have:=(h5.mem _ (iP h5.pos)).1
   grind
  |i+1=>
   grind
theorem aLl{e a:Nat}{l:List kH}(h:TkL e a l):∀(i:Nat)(hi:i<l.length),i+1=l.length->l[i]=⟨4,[],(e:Int)⟩:=by
 induction h with
 |last=>grind
 |cons h1 h2 h3 h4 h5 ih=>
  intro i hi h
  match i with
  |0=>have:=h5.pos;rw[iR]at h;omega
  |i+1=>
   grind
end TkL
def Dig(Z:Cx):Prop:=∀t∈Z.T,t.kind=1->t.text.all rD=true
section
variable {Z:Cx} {i:Nat} {d e a:Int}
def RX(Z:Cx)(d:Int){W:Type}(r:Rs W)(z:((jT×Unit)×Unit)×(W×Unit)):Prop:=∃j e a x,j<Z.T.length/\z=(((Z.rd j d e a,()),()),x,())/\r=lz e a (.ok x j)
theorem RX.pure{W:Type}{x y:W}(hi:i<Z.T.length)(h:e=0->x=y):RX Z d (lz e a (.ok y i)) (((Z.rd i d e a,()),()),x,()):=by
 obtain⟨j,e',a',x',h1,h2,h3⟩:=RQ.pure (d:=d) (a:=a) hi h;cases h2;exact⟨_,_,_,_,h1,rfl,h3⟩
theorem RX.D5{W:Type}{x:W}(hi:i<Z.T.length):RX Z d (lz e a (Z.S.D5 i)) (((Z.rd i d (bif e==0 then 4 else e) (bif e==0 then Z.fr i e else a),()),()),x,()):=⟨i,_,_,x,hi,rfl,apV (O:=Unit) x i 4 rfl⟩
theorem RQ.sU{W:Type}{r:Rs W}{z:(jT×Unit)×(W×Unit)}(h:RQ Z d r z)(hr:r=.er e a):(e==0)=false/\∃j x,j<Z.T.length/\z=((Z.rd j d e a,()),x,()):=by
 obtain⟨j,e',a',x,hj,hz,h2⟩:=h
 grind [lz]
theorem RX.sU{W:Type}{r:Rs W}{z:((jT×Unit)×Unit)×(W×Unit)}(h:RX Z d r z)(hr:r=.er e a):(e==0)=false/\∃j x,j<Z.T.length/\z=(((Z.rd j d e a,()),()),x,()):=by
 obtain⟨j,e',a',x,hj,hz,h2⟩:=h
 grind [lz]
theorem RX.step{W O R:Type}{r:Rs O}{f:O->Nat->Rs W}{F:Nat->Option (((jT×Unit)×Unit)×(O×Unit))}{G:Nat->(((jT×Unit)×Unit)×(O×Unit))->Option R}{Q:Rs W->R->Prop}(h:k8 F (RX Z d r))
 (hg:∀x j e a,j<Z.T.length->(e=0->r=.ok x j)->k8 (fun n=>G n (((Z.rd j d e a,()),()),x,())) (Q (lz e a (f x j)))):k8 (fun n=>(F n).bind (G n)) (Q (r.bind f)):=by
 refine k8.bind h fun z ⟨j,e,a,x,hj,hz,hr⟩=>?_
 subst hz hr;rw[IJ];exact hg x j e a hj fun he=>by rw[he];rfl
theorem RX.G8{W O R:Type}{r:Rs O}{f:O->Nat->Rs W}{F:Nat->Option (((jT×Unit)×Unit)×(O×Unit))}{G:Nat->Nat->(((jT×Unit)×Unit)×(O×Unit))->Option R}{Q:Rs W->R->Prop}(h:k8 F (RX Z d r))
 (hg:∀x j e a,j<Z.T.length->(e=0->r=.ok x j)->kF (fun n m=>G n m (((Z.rd j d e a,()),()),x,())) (Q (lz e a (f x j)))):kF (fun n m=>(F n).bind (G n m)) (Q (r.bind f)):=by
 refine kF.lQ h fun z ⟨j,e,a,x,hj,hz,hr⟩=>?_
 subst hz hr;rw[IJ];exact hg x j e a hj fun he=>by rw[he];rfl
theorem ajG{W R:Type}(h:ny Z)(hi:i<Z.T.length)(hk:((4:Int)==k)=false){x:Rs W}{Q:Rs W->R->Prop}{A:Nat->Option R}{B:Nat->(jT×Unit)×Unit->Option R}
 (hb:k8 (fun n=>B n ((Z.rd i d (bif e==0 then 4 else e) (bif e==0 then Z.fr i e else a),()),())) (Q (lz e a (Z.S.D5 i)))) (ha:e=0->((Z.S.K i).1==k)=true->k8 A (Q x)):
 k8 (fun n=>bif (Z.tk i e).kind !=k then(oH n (Z.rd i d e a)).bind (B n)else A n) (Q (lz e a (bif (Z.S.K i).1==k then x else Z.S.D5 i))):=by
 rw[bne,B6 hi hk,C0];cases hc:e==0&&(Z.S.K i).1==k with
 |false=>exact Ev.to (IK h hi) hb
 |true=>
  rw[iI]at hc;obtain rfl:=beq_iff_eq.1 hc.1;exact ha rfl hc.2
theorem ajH(h:ny Z)(hi:i<Z.T.length):k8 (fun n=>vU n (Z.rd i d e a)) (RX Z d (lz e a (Z.S.name i))):=by
 refine k8.fn (fun n=>by simp only[vU,kD,BU,mC];exact rfl) ?_;refine Ev.to (ua hi) (ajG h hi rfl (k8.pure (RX.D5 hi)) fun he _=>?_);subst he;exact Ev.to (mK h hi) (k8.pure (RX.pure (e:=0) (a:=a) (mS hi) fun _=>II hi))
theorem agT(h:ny Z)(hi:i<Z.T.length):k8 (fun n=>rA n (Z.rd i d e a)) (RQ Z d (lz e a (Z.S.RS i))):=by
 refine k8.fn (fun n=>by simp only[rA,kD,Av,mB];exact rfl) ?_;unfold nS.RS nS.simple;rw[show(bif (Z.S.K i).1==0&& !axh (Z.S.K i).2 then(Rs.ok (Z.S.K i).2 (Z.S.nx i))else Z.S.D5 i)=bif (Z.S.K i).1==0 then(bif !axh (Z.S.K i).2 then(Rs.ok (Z.S.K i).2 (Z.S.nx i))else Z.S.D5 i)else Z.S.D5 i by grind];refine Ev.to (ua hi) (ajG h hi rfl (k8.pure (RQ.D5 hi)) fun he _=>?_);subst he;rw[II hi];refine Ev.to (ZC _ (by rw[Gp hi];exact(h.nE _ (iP hi)).2.2)) ?_;cases axh (Z.S.K i).2 with
 |true=>exact Ev.to (IK h hi) (k8.pure (RQ.D5 (e:=0) hi))
 |false=>exact Ev.to (mK h hi) (k8.pure (RQ.pure (e:=0) (a:=a) (mS hi) fun _=>rfl))
theorem Uy(h:ny Z)(g:Dig Z)(hi:i<Z.T.length):k8 (fun n=>qv n (Z.rd i d e a)) (RQ Z d (lz e a (Z.S.num i))):=by
 refine k8.fn (fun n=>by simp only[qv,kD,EK,mB];exact rfl) ?_;refine Ev.to (ua hi) (ajG h hi rfl (k8.pure (RQ.D5 hi)) fun he hk=>?_);subst he;refine Ev.to (mK h hi) ?_;rw[Gp hi]at hk;have hk:=beq_iff_eq.1 hk;have hd:=g _ (iP hi) hk;obtain⟨⟨hl,_⟩,h0,h9⟩:=h.num _ (iP hi) hk;rw[az4 hi,show(Z.S.K i).2=Z.T[i].text by rw[Gp hi]];revert hd hl h0 h9;generalize Z.T[i]=t;intro hd hl h0 h9
 have key:∀(r p:Str),p++r=t.text->kZ (fun n m=>vW n m (VK p) (p.length:Int) (Z.rd (Z.S.nx i) d 0 a) t) ((Z.rd (Z.S.nx i) d 0 a,()),VK t.text,()):=by
  intro r;induction r with
  |nil=>
   intro p hp;rw[List.append_nil]at hp;subst hp;refine kZ.lp (fun n m=>by simp only[Ia,vV,mB];exact rfl) ?_
   grind [kZ.pure]
  |cons c r ih=>
   intro p hp;have hlen:p.length<t.text.length:=by grind
   have hc:t.text[p.length]? =some c:=by grind
   have Fq:rD c=true:=by
    grind
   unfold rD at Fq;rw[iI,jP,jP]at Fq;refine kZ.lp (fun n m=>by simp only[Ia,vV,mB];exact rfl) ?_;rw[jM (by omega)];have hx:sQ t.text (p.length:Int)=some c:=by simp [sQ,hc]
   simp only[jK,hx,iL];have hz:VK (p++[c])=10*VK p+((c.toNat:Int)-48):=by simp [VK]
   have hp0:0<=VK p/\VK p<=100000000000000000:=by
    obtain⟨m,_,m2,m3⟩:=arO p 0 (by grind);have m2:(m:Int)=VK p:=m2;have:=jv (n:=10) (by decide) (show p.length<=17 by omega);omega
   have hc1:IntKind.u8.wrap ((c.toNat:Int)-48)=(c.toNat:Int)-48:=by grind [IntKind.wrap,IntKind.bits]
   rw[hc1,lj (n:=10*VK p) (by omega) (by omega),lj (n:=(c.toNat:Int)-48) (by omega) (by omega),lj (by omega) (by omega),<-hz,kM (by omega)];have:=ih (p++[c]) (by grind)
   grind
 have:=Ev.yn (F:=fun n m=>vW n m 0 0 (Z.rd (Z.S.nx i) d 0 a) t) (key t.text [] rfl);exact Ev.Uu this (RQ.pure (e:=0) (a:=a) (mS hi) fun _=>rfl)
end
theorem aJ1{W:Type}(x a:Bool)(M H:W):(bif x then bif a then M else H else M)=bif x&& !a then H else M:=by grind
section
variable {Z:Cx} {i:Nat} {d e a:Int}
theorem aFL(h:ny Z)(hi:i<Z.T.length)(hv:Z.S.G7 i=true):Ev (fun n=>oB n (Z.rd i d 0 a)) ((Z.rd (Z.S.nx i) d 0 a,()),(Z.S.K i).2,()):=by
 refine Ev.fn (fun n=>by simp only[oB,kD,xZ,mB];exact rfl) ?_;refine Ev.bind (ad7 h hi) ?_;rw[hv,<-II hi];exact Ev.bind (ua hi) (Ev.bind (mK h hi) Ev.pure)
theorem agU(he:(e==0)=false)(out:List Str):kZ (fun n q=>rR n q (Z.rd i d e a) out) ((Z.rd i d e a,()),out,()):=by
 refine kZ.lp (fun n m=>by simp only[vu,qH,mB];exact rfl) ?_;rw[show(Z.rd i d e a).e=e from rfl,he];exact kZ.pure
theorem axt(h:ny Z):∀(m:Nat)(out:List Str)(i:Nat)(e a:Int),i<Z.T.length->m+out.length=200->out≠[]->
 kF (fun n q=>rR n q (Z.rd i d e a) out) (fun z=>RQ Z d (lz e a (Z.S.OX m out i)) z/\z.2.1.length<=201):=by
 intro m out i e a hi hm ho;cases he:e==0 with
 |false=>exact kZ.Uu (agU he out) ⟨RQ.no hi he (vp he _ _),by grind⟩
 |true=>
  obtain rfl:=beq_iff_eq.1 he;clear he;induction m generalizing out i with
  |zero=>
   refine kF.lp (fun n m=>by simp only[vu,qH,mB];exact rfl) ?_;have e1:((out.length:Int)==0)=false:=by grind
   rw[show(Z.rd i d 0 a).e=0 from rfl,e1];simp only[beq_self_eq_true,jK,jL];refine Ev.sn (ad7 h hi) ?_;unfold nS.OX;simp only[beq_self_eq_true,iH];cases Z.S.G7 i with
   |false=>exact kF.pure ⟨RQ.pure (e:=0) hi fun _=>rfl,by grind⟩
   |true=>
    simp only[jK];refine Ev.sn (C2 h hi (by omega)) (kF.lQ (RZ (e:=7) h hi) fun z hz=>?_);obtain⟨_,j,x,hj,rfl⟩:=hz.sU (vp rfl _ _);simp only[jM (show(out.length+1)*16<=17592186044416 by omega),jK];exact kZ.Uu (agU rfl _) ⟨RQ.no hj rfl rfl,by grind⟩
  |succ m ih=>
   refine kF.lp (fun n m=>by simp only[vu,qH,mB];exact rfl) ?_
   have e1:((out.length:Int)==0)=false:=by
    simp_all
   rw[show(Z.rd i d 0 a).e=0 from rfl,e1];simp only[beq_self_eq_true,jK,jL];refine Ev.sn (ad7 h hi) ?_;unfold nS.OX;simp only[beq_self_eq_true,iH];cases hv:Z.S.G7 i with
   |false=>exact kF.pure ⟨RQ.pure (e:=0) hi fun _=>rfl,by grind⟩
   |true=>
    simp only[jK];refine Ev.sn (zt hi (by omega)) (Ev.sn (aFL h hi hv) ?_);simp only[jM (show(out.length+1)*16<=17592186044416 by omega),jK];exact ih (out++[(Z.S.K i).2]) (Z.S.nx i) (mS hi) (by grind) (by simp)
theorem ajI(h:ny Z)(hi:i<Z.T.length):k8 (fun n=>rV n (Z.rd i d e a)) (fun z=>RQ Z d (lz e a (Z.S.vars i)) z/\z.2.1.length<=201):=by
 refine k8.fn (fun n=>by simp only[rV,kD,Bu,mB];exact rfl) ?_;refine k8.yn (F:=fun n q=>rR n q (Z.rd i d e a) []) ?_;cases he:e==0 with
 |false=>exact kZ.Uu (agU he _) ⟨RQ.no hi he (vp he _ _),iK _⟩
 |true=>
  obtain rfl:=beq_iff_eq.1 he;refine kF.lp (fun n m=>by simp only[vu,qH,mB];exact rfl) ?_;simp only[show(Z.rd i d 0 a).e=0 from rfl,beq_self_eq_true,jK,jh,Int.natCast_zero,jp];refine Ev.sn (zt hi (by omega)) ?_;unfold nS.vars;rw[nL];refine RQ.G8 (Q:=fun r (z:(jT×Unit)×(List Str×Unit))=>RQ Z d r z/\z.2.1.length<=201) (RZ h hi) fun x j e a hj _=>?_
  simp only[show decide (1*16<=17592186044416)=true from rfl,jK];exact axt h 199 [x] j e a hj rfl (by simp)
theorem axu(p k:Int)(hj:j<Z.T.length):∀(r pre:List ko)(e a:Int),pre.length+r.length<=100000000000->(e=0->(0<=k/\k<=999999)/\∀x∈r,0<=x.plus/\x.plus<=999999)->
 kF (fun n q=>qm (lO n) n q p k (pre.length:Int) (Z.rd j d e a) (pre++r)) (fun z=>∃l,z=(((Z.rd j d (bif e==0&& !r.all (aiE k)then 5 else e) (bif e==0&& !r.all (aiE k)then p else a),()),()),{Cj:=false,nU:=l},())/\l.length=pre.length+r.length/\((e==0&&r.all (aiE k))=true->l=pre++r.map (auI k))):=by
 intro r;induction r with
 |nil=>
  intro pre e a _ _;refine kF.lp (fun n m=>by simp only[JN,wV,yp];exact rfl) ?_;rw[jN (by simp)];refine kF.pure ⟨pre++[],?_,by simp,fun _=>by simp⟩;simp
 |cons x r ih=>
  intro pre e a hl hx;have hlen:(x::r).length=r.length+1:=rfl;have me:pre.length<(pre++x::r).length:=by simp
  have e2:sQ (pre++x::r) (pre.length:Int)=some x:=by rw[nA me];simp
  have e3:(pre++x::r)[pre.length]? =some x:=by simp
  refine kF.lp (fun n m=>by simp only[JN,wV,yp];exact rfl) ?_;rw[jM (show(pre.length:Int)<((pre++x::r).length:Int) by omega)];simp only[jK,e2,e3,iL,iW,jM me,jM (je pre.length),Bool.and_self];rw[kM (by omega)];have aDw:∀v,(pre++x::r).set pre.length v=(pre++[v])++r:=fun v=>by simp
  have hpl:∀v:ko,(pre++[v]).length=pre.length+1:=fun v=>by simp
  rw[aDw];have Fq:(x::r).all (aiE k)=(aiE k x&&r.all (aiE k)):=rfl;have go:=fun e a=>ih (pre++[{name:=x.name,plus:=IntKind.i64.wrap (x.plus+k)}]) e a (by grind)
  simp only[hpl]at go;cases he:e==0 with
  |true=>
   obtain rfl:=beq_iff_eq.1 he;obtain⟨hk,hb⟩:=hx rfl;have hx1:=hb x (by simp);have hw:IntKind.i64.wrap (x.plus+k)=x.plus+k:=lj (by omega) (by omega);rw[hw]at go ⊢
   have hf:aiE k x= !decide (999999<x.plus+k):=by
    grind [aiE]
   rw[Fq,hf];cases decide (999999<x.plus+k)with
   |true=>
    refine Ev.sn (RY 5 p) ?_;obtain⟨z,⟨l,h1,h0,h2⟩,h3⟩:=go 5 p (fun h=>by cases h);exact⟨z,⟨l,by rw[h1];rfl,by omega,fun h=>by cases h⟩,h3⟩
   |false=>
    obtain⟨z,⟨l,h1,h0,h2⟩,h3⟩:=go 0 a (fun _=>⟨hk,fun y hy=>hb y (by simp [hy])⟩);refine⟨z,⟨l,by rw[h1];rfl,by omega,fun h=>?_⟩,h3⟩
    grind [auI]
  |false=>
   have sU:=go e a (fun h=>by grind);simp only[he,iM]at sU ⊢;have sU:=sU.imp (Q:=fun z=>∃l,z=(((Z.rd j d (bif false then 5 else e) (bif false then p else a),()),()),({Cj:=false,nU:=l}:j7),())/\l.length=pre.length+(x::r).length/\(false=true->l=pre++List.map (auI k) (x::r))) fun z ⟨l,h1,h0,_⟩=>⟨l,h1,by omega,fun h=>by cases h⟩
   cases decide (999999<IntKind.i64.wrap (x.plus+k))with
   |true=>
    refine Ev.sn (RY 5 p) ?_
    grind
   |false=>exact sU
def okL(l:List ko)(j:Nat):Rs j7:=.ok {Cj:=false,nU:=l} j
theorem ajJ(h:ny Z)(k:OY Z.S)(g:Dig Z)(hj:j<Z.T.length){l:List ko}(hl:l.length<=100000000000)(hb:e=0->∀x∈l,OY.SmA x):
 k8 (fun n=>(lM n (Z.rd j d e a) [43]).bind fun x=>bif x then(kW n (Z.rd j d e a)).bind fun x=>(l3 n x.fst.fst).bind fun x_2=>(qv n x.fst.fst).bind fun x=>qm (lO n) n n x_2 x.snd.fst 0 x.fst.fst l else some (((Z.rd j d e a,()),()),{Cj:=false,nU:=l},()))
  (fun z=>RX Z d (lz e a ((Z.S.plus l j).bind okL)) z/\z.2.1.nU.length=l.length):=by
 refine Ev.to (mF hj [43]) ?_;unfold nS.plus;rw[nL,C0];cases hc:e==0&&Z.S.tX [43] j with
 |false=>
  simp only[jL];rw[<-nL];exact k8.pure ⟨RX.pure hj fun _=>rfl,rfl⟩
 |true=>
  rw[iI]at hc;obtain rfl:=beq_iff_eq.1 hc.1;have hn:=mS (Z:=Z) hj;simp only[jK];refine Ev.to (mK h hj) (Ev.to (C1 h hn) ?_);rw[ae3,Rs.bind_assoc];have aCW:=k.number (i:=Z.S.nx j) hn;refine k8.bind (Uy (e:=0) (a:=a) h g hn) fun z ⟨q,e',a',x,hq,hz,hr⟩=>?_
  subst hz;rw[ae3]at hr;rw[hr]at aCW ⊢;rw[IJ];have:=axu (d:=d) (Z.S.F (Z.S.nx j)) x hq l [] e' a' (by simp;omega) (fun he=>by subst he;exact⟨aCW.1,hb rfl⟩);refine(k8.yn (F:=fun n m=>qm (lO n) n m (Z.fr (Z.S.nx j) 0) x 0 (Z.rd q d e' a') l) this).imp fun z ⟨l',h1,h0,h2⟩=>?_
  subst h1;refine⟨⟨q,_,_,_,hq,rfl,?_⟩,by grind⟩;show lz e' a' ((bif l.all (aiE x)then Rs.ok (l.map (auI x)) q else .er 5 (Z.S.F (Z.S.nx j))).bind _)=_;cases he:e'==0 with
  |false=>grind [vp]
  |true=>
   obtain rfl:=beq_iff_eq.1 he;simp only[beq_self_eq_true,iH]at h2 ⊢;cases hf:l.all (aiE x)with
   |true=>rw[h2 hf];rfl
   |false=>rfl
end
section
variable {Z:Cx} {i:Nat} {d e a:Int}
theorem apY(h:ny Z)(k:OY Z.S)(g:Dig Z)(hj:j<Z.T.length){l:List ko}(hl:l.length<=100000000000)(hb:e=0->∀x∈l,OY.SmA x):
 k8 (fun n=>(lP n (Z.rd j d e a) [41]).bind fun x=>(lM n x.fst.fst [43]).bind fun x_1=>bif x_1 then(kW n x.fst.fst).bind fun x=>(l3 n x.fst.fst).bind fun x_2=>(qv n x.fst.fst).bind fun x=>qm (lO n) n n x_2 x.snd.fst 0 x.fst.fst l else some (((x.fst.fst,()),()),{Cj:=false,nU:=l},()))
  (fun z=>RX Z d (lz e a ((Z.S.take [41] j).bind fun _ k=>(Z.S.plus l k).bind okL)) z/\z.2.1.nU.length=l.length):=by
 rw[nL];refine RN.step (Q:=fun r (z:((jT×Unit)×Unit)×(j7×Unit))=>RX Z d r z/\z.2.1.nU.length=l.length) (rE h hj [41]) fun q e' a' hq he=>?_
 exact ajJ h k g hq hl fun he'=>by
  grind [aCQ]
theorem axv(h:ny Z)(k:OY Z.S)(g:Dig Z){f:Nat}(hf:f<=100000)(ih:∀i a,i<Z.T.length->Z.T.length-i<=f->k8 (fun n=>lO n true (Z.rd i d 0 a)) (fun z=>RX Z d ((Z.S.nU f i).bind okL) z/\z.2.1.nU.length<=100001*f))
 (hd:∀i e a,(e==0)=false->i<Z.T.length->k8 (fun n=>lO n true (Z.rd i d e a)) (fun z=>RX Z d (.er e a:Rs j7) z/\z.2.1.nU.length<=1)):
 ∀ (m:Nat) (out:List ko) (i:Nat) (a:Int),i<Z.T.length->Z.T.length-i<=f->m<=200->out.length<=i->(∀x∈out,OY.SmA x)->
   kF (fun n q=>wX (lO n) n q ((200-m:Nat):Int) (Z.rd i d 0 a) out) (fun z=>RX Z d ((Z.S.listed (Z.S.nU f) m out i).bind fun l j=>(Z.S.take [41] j).bind fun _ k=>(Z.S.plus l k).bind okL) z/\z.2.1.nU.length<=100001*(f+1)):=by
 have hlen:=h.len
 have sU:∀(j:Nat)(e a:Int)(l:List ko)(r:Rs j7),j<Z.T.length->(e==0)=false->r=.er e a->l.length<=100001*(f+1)->k8 (fun n=>(lP n (Z.rd j d e a) [41]).bind fun x=>(lM n x.fst.fst [43]).bind fun x_1=>bif x_1 then(kW n x.fst.fst).bind fun x=>(l3 n x.fst.fst).bind fun x_2=>(qv n x.fst.fst).bind fun x=>qm (lO n) n n x_2 x.snd.fst 0 x.fst.fst l else some (((x.fst.fst,()),()),{Cj:=false,nU:=l},()))
  (fun z=>RX Z d r z/\z.2.1.nU.length<=100001*(f+1)):=by
  intro j e a l r hj he hr hl;refine(apY h k g hj (e:=e) (a:=a) (l:=l) (by omega) fun h0=>by grind).imp fun z ⟨h1,h2⟩=>?_
  grind [vp]
 intro m;induction m with
 |zero=>
  intro out i a hi hfi _ ho hb;refine kF.lp (fun n m=>by simp only[JO,wW,yp];exact rfl) ?_;rw[show(Z.rd i d 0 a).e=0 from rfl];simp only[beq_self_eq_true,jK];refine Ev.sn (C2 h hi (by omega)) (kF.lQ (hd i 7 _ rfl hi) fun z ⟨hz,hx⟩=>?_);obtain⟨_,j,x,hj,rfl⟩:=hz.sU rfl;have hx:x.nU.length<=1:=hx;simp only[jM (show(out.length+x.nU.length)*24<=17592186044416 by omega),jK];refine Ev.sn (mF hj [44]) ?_;exact kF.P9 (sU j _ _ _ _ hj rfl rfl (by grind))
 |succ m ihm=>
  intro out i a hi hfi hm ho hb;refine kF.lp (fun n m=>by simp only[JO,wW,yp];exact rfl) ?_;rw[show(Z.rd i d 0 a).e=0 from rfl];simp only[beq_self_eq_true,jK];refine Ev.sn (zt hi (by omega)) ?_;have Fq:=k.nU f i hi;refine kF.lQ (ih i a hi hfi) fun z ⟨⟨j,e',a',x,hj,hz,hr⟩,hx⟩=>?_
  subst hz;have hx:x.nU.length<=100001*f:=hx;simp only[jM (show(out.length+x.nU.length)*24<=17592186044416 by omega),jK];refine Ev.sn (mF hj [44]) ?_;unfold nS.listed;rw[Rs.bind_assoc];cases hq:Z.S.nU f i with
  |er c p=>
   rw[hq]at hr;have hr:Rs.er c p=lz e' a' (.ok x j):=hr
   have he:(e'==0)=false:=by
    cases he:e'==0 with
    |false=>rfl
    |true=>rw[beq_iff_eq.1 he]at hr;cases hr
   rw[vp he]at hr;cases hr;simp only[he,iM,jL];exact kF.P9 (sU j _ _ _ _ hj he rfl (by grind))
  |ok l j'=>
   rw[hq]at hr Fq;obtain⟨rfl,hr⟩:=aCQ hr.symm;cases hr;obtain⟨q1,q2,q3,q4⟩:=Fq;have hb2:∀x∈out++l,OY.SmA x:=fun x hx=>(iZ.1 hx).elim (hb x) (q4 x)
   simp only[beq_self_eq_true,iH,Rs.yf];cases hs:Z.S.tX [44] j with
   |true=>
    obtain⟨e1,hl⟩:=k.Kj hj hs;simp only[jK];refine Ev.sn (mK h hj) ?_;rw[show IntKind.i64.wrap (((200-(m+1):Nat):Int)+1)=((200-m:Nat):Int) by grind [lj]];exact ihm (out++l) _ a' (mS hj) (by rw[e1];omega) (by omega) (by grind) hb2
   |false=>
    simp only[jL,Rs.yf];refine kF.P9 ((apY h k g (e:=0) (a:=a') hj (l:=out++l) (by grind) fun _=>hb2).imp fun z ⟨h1,h2⟩=>⟨h1,?_⟩)
    grind
end
section
variable {Z:Cx} {i:Nat} {d e a:Int}
theorem anC(h:ny Z)(k:OY Z.S)(g:Dig Z)(hi:i<Z.T.length):
 k8 (fun n=>(rA n (Z.rd i d e a)).bind fun x=>(lM n x.fst.fst [43]).bind fun x_1=>bif x_1 then(kW n x.fst.fst).bind fun x_2=>(l3 n x_2.fst.fst).bind fun x_3=>(qv n x_2.fst.fst).bind fun x_4=>qm (lO n) n n x_3 x_4.snd.fst 0 x_4.fst.fst [{name:=x.snd.fst,plus:=0}] else some (((x.fst.fst,()),()),{Cj:=false,nU:=[{name:=x.snd.fst,plus:=0}]},()))
  (fun z=>RX Z d (lz e a ((((Z.S.RS i).bind fun s j=>.ok [{name:=s,plus:=0}] j).bind Z.S.plus).bind okL)) z/\z.2.1.nU.length<=1):=by
 rw[Rs.bind_assoc,Rs.bind_assoc,nL];refine RQ.step (Q:=fun r (z:((jT×Unit)×Unit)×(j7×Unit))=>RX Z d r z/\z.2.1.nU.length<=1) (agT h hi) fun s j e' a' hj _=>?_
 exact(ajJ h k g hj (l:=[{name:=s,plus:=0}]) (by simp) fun _ x hx=>by rw[iY.1 hx];exact⟨iJ 0,(by decide:(0:Int)<=999999)⟩).imp fun z ⟨h1,h2⟩=>⟨h1,by grind⟩
theorem apZ(h:ny Z)(k:OY Z.S)(g:Dig Z)(b:Bool)(he:(e==0)=false)(hi:i<Z.T.length):k8 (fun n=>lO n b (Z.rd i d e a)) (fun z=>RX Z d (.er e a:Rs j7) z/\z.2.1.nU.length<=1):=by
 have hn:=anC (d:=d) (e:=e) (a:=a) h k g hi;rw[vp he]at hn;refine k8.fn (fun n=>by simp only[lO,kD,A1,Al];exact rfl) ?_;simp only[aJ1];refine Ev.to (mF hi [95]) ?_;simp only[he,iM,jL];refine Ev.to (ua hi) ?_;rw[B6 hi rfl,he];simp only[iM,jL];refine Ev.to (auQ hi _) ?_
 grind
theorem auY(h:ny Z)(k:OY Z.S)(g:Dig Z){f:Nat}(hf:f<=100000)(ih:∀i a,i<Z.T.length->Z.T.length-i<=f->k8 (fun n=>lO n true (Z.rd i d 0 a)) (fun z=>RX Z d ((Z.S.nU f i).bind okL) z/\z.2.1.nU.length<=100001*f))(b:Bool)(hi:i<Z.T.length)(hfi:Z.T.length-i<=f+1):
 k8 (fun n=>lO n b (Z.rd i d 0 a)) (fun z=>RX Z d (bif Z.S.tX [95] i&& !b then .ok {Cj:=true,nU:=[]} (Z.S.nx i)else(Z.S.nU (f+1) i).bind okL) z/\z.2.1.nU.length<=100001*(f+1)):=by
 have hlen:=h.len;have hn:=(anC (d:=d) (e:=0) (a:=a) h k g hi).imp (Q:=fun(z:((jT×Unit)×Unit)×(j7×Unit))=>RX Z d ((((Z.S.RS i).bind fun s j=>.ok [({name:=s,plus:=0}:ko)] j).bind Z.S.plus).bind okL) z/\z.2.1.nU.length<=100001*(f+1)) fun z ⟨h1,h2⟩=>⟨h1,by omega⟩
 refine k8.fn (fun n=>by simp only[lO,kD,A1,Al];exact rfl) ?_;simp only[aJ1];refine Ev.to (mF hi [95]) ?_;simp only[beq_self_eq_true,iH];cases Z.S.tX [95] i&& !b with
 |true=>exact Ev.to (mK h hi) (k8.pure ⟨RX.pure (e:=0) (a:=a) (mS hi) fun _=>rfl,iK _⟩)
 |false=>
  simp only[jL];refine Ev.to (ua hi) ?_;rw[B6 hi rfl];unfold nS.nU;simp only[beq_self_eq_true,iH];cases hk1:(Z.S.K i).1==1 with
  |true=>
   simp only[jK];rw[Rs.bind_assoc,Rs.bind_assoc];have aCW:=k.number (i:=i) hi;refine RQ.step (Q:=fun r (z:((jT×Unit)×Unit)×(j7×Unit))=>RX Z d r z/\z.2.1.nU.length<=100001*(f+1)) (Uy (e:=0) (a:=a) h g hi) fun s j e' a' hj hq=>?_
   refine(ajJ h k g hj (l:=[{name:=[],plus:=s}]) (by simp) fun he x hx=>?_).imp fun z ⟨h1,h2⟩=>⟨h1,by grind⟩
   have hq:=hq he;rw[hq]at aCW;rw[iY.1 hx];exact aCW.1
  |false=>
   simp only[jL];refine Ev.to (auQ hi _) ?_;simp only[beq_self_eq_true,iH];cases hmx:Z.S.is 0 [109,97,120] i with
   |false=>grind
   |true=>
    have hmi:=k.isN hi hmx (by decide);have hi1:i+1<Z.T.length:=hmi.2;have e1:IntKind.i64.wrap ((Z.rd i d 0 a).i+1)=((i+1:Nat):Int):=kM (by omega);have e2:decide (((i+1:Nat):Int)<((Z.rd i d 0 a).HJ.length:Int))=true:=jM (show((i+1:Nat):Int)<(Z.T.length:Int) by omega);have e3:decide (i+1<Z.S.len)=true:=jM hi1;have e5:sQ (Z.rd i d 0 a).HJ ((i+1:Nat):Int)=some Z.T[i+1]:=nA hi1;simp only[jK,e1,e2,e3,e5,iL,iH];have e4:Z.S.tX [40] (i+1)=((Z.T[i+1].kind==2)&&(Z.T[i+1].text==[40])):=by unfold nS.tX nS.is;rw[Gp hi1]
    cases hk2:Z.T[i+1].kind==2 with
    |false=>
     grind
    |true=>
     cases ht2:Z.T[i+1].text==[40]with
     |false=>
      grind
     |true=>
      rw[hk2,ht2]at e4;have e4:Z.S.tX [40] (i+1)=true:=e4;rw[e4];simp only[jK];have hs1:=k.Kj hi1 e4;refine Ev.to (mK h hi) (Ev.to (mK h (mS hi)) ?_);rw[hmi.1,hs1.1];rw[Rs.bind_assoc,Rs.bind_assoc];have:=axv h k g hf ih (fun i e a he hi=>apZ h k g true he hi) 200 [] (i+1+1) a hs1.2 (by omega) (iN _) (iK _) (by simp);refine(k8.yn (F:=fun n q=>wX (lO n) n q 0 (Z.rd (i+1+1) d 0 a) []) this).imp fun z ⟨h1,h2⟩=>⟨?_,h2⟩
      grind [Rs.bind_assoc,Rs.yf]
theorem ap0(h:ny Z)(k:OY Z.S)(g:Dig Z):∀(f i:Nat)(a:Int),f<=100000->i<Z.T.length->Z.T.length-i<=f->k8 (fun n=>lO n true (Z.rd i d 0 a)) (fun z=>RX Z d ((Z.S.nU f i).bind okL) z/\z.2.1.nU.length<=100001*f)
 |0,i,a,_,hi,hf=>by omega
 |f+1,i,a,hl,hi,hf=>by
  have:=auY (a:=a) h k g (f:=f) (by omega) (fun i a hi hf=>ap0 h k g f i a (by omega) hi hf) true hi hf
  grind
theorem agV(h:ny Z)(k:OY Z.S)(g:Dig Z)(hi:i<Z.T.length):k8 (fun n=>lO n false (Z.rd i d e a)) (RX Z d (lz e a (Z.S.mY i))):=by
 cases he:e==0 with
 |false=>exact(apZ h k g false he hi).imp fun z hz=>by grind [vp]
 |true=>
  obtain rfl:=beq_iff_eq.1 he;have hlen:=h.len;have hp:=h.pos;obtain⟨f,hf⟩:∃f,Z.T.length=f+1:=⟨Z.T.length-1,by omega⟩;have:=auY (d:=d) (a:=a) h k g (f:=f) (by omega) (fun i a hi hf=>ap0 h k g f i a (by omega) hi hf) false hi (by omega);refine this.imp fun z hz=>?_
  have hz:=hz.1;rw[ae3];unfold nS.mY;rw[show Z.S.len=f+1 from hf];simp only[iQ,jm]at hz;exact hz
theorem arP{S:nS}{i:Nat}(h:S.tX s i=true)(VT:(s==t)=false):S.tX t i=false:=by
 grind [nS.tX,nS.is]
theorem aCX(h:ny Z)(k:OY Z.S)(g:Dig Z)(hi:i<Z.T.length):k8 (fun n=>GI n (Z.rd i d e a)) (RQ Z d (lz e a (Z.S.one i))):=by
 have rest:k8 (fun n=>(lM n (Z.rd i d e a) [95]).bind fun x=>bif x then(kW n (Z.rd i d e a)).bind fun x=>some ((x.fst.fst,()),{Cj:=true,nU:=[]},())
  else(lM n (Z.rd i d e a) [40]).bind fun x=>bif x then(kW n (Z.rd i d e a)).bind fun x=>(lO n false x.fst.fst).bind fun x=>(lP n x.fst.fst.fst [41]).bind fun x_1=>some ((x_1.fst.fst,()),x.snd.fst,())else some ((Z.rd i d e a,()),{Cj:=true,nU:=[]},()))
  (RQ Z d (lz e a (bif Z.S.tX [40] i then(Z.S.mY (Z.S.nx i)).bind fun l j=>(Z.S.take [41] j).bind fun _ k=>.ok l k else .ok {Cj:=true,nU:=[]} (bif Z.S.tX [95] i then Z.S.nx i else i)))):=by
  refine Ev.to (mF hi [95]) ?_;cases he:e==0 with
  |false=>
   simp only[iM,jL];refine Ev.to (mF hi [40]) ?_;simp only[he,iM,jL];exact k8.pure (RQ.no hi he (vp he _ _))
  |true=>
   obtain rfl:=beq_iff_eq.1 he;simp only[iH];cases hs:Z.S.tX [95] i with
   |true=>
    rw[arP (t:=[40]) hs rfl];exact Ev.to (mK h hi) (k8.pure (RQ.pure (e:=0) (a:=a) (mS hi) fun _=>rfl))
   |false=>
    simp only[jL];refine Ev.to (mF hi [40]) ?_;simp only[beq_self_eq_true,iH];cases Z.S.tX [40] i with
    |false=>exact k8.pure (RQ.pure (e:=0) hi fun _=>rfl)
    |true=>
     simp only[jK];refine Ev.to (mK h hi) ?_;rw[nL];refine RX.step (Q:=RQ Z d) (agV h k g (mS hi)) fun l j e' a' hj _=>?_
     rw[nL];exact RN.step (Q:=RQ Z d) (rE h hj [41]) fun q e2 a2 hq _=>k8.pure (RQ.pure hq fun _=>rfl)
 refine k8.fn (fun n=>by simp only[GI,kD,I7,mB];exact rfl) ?_;refine Ev.to (ua hi) ?_;unfold nS.one;rw[B6 hi rfl,B6 hi rfl,C0];cases he:e==0 with
 |false=>
  grind [vp]
 |true=>
  obtain rfl:=beq_iff_eq.1 he;simp only[beq_self_eq_true,iH];cases (Z.S.K i).1==1 with
  |true=>
   simp only[jK];rw[nL];exact RQ.step (Q:=RQ Z d) (Uy h g hi) fun s j e' a' hj _=>k8.pure (RQ.pure hj fun _=>rfl)
  |false=>
   simp only[jL];unfold nS.simple;cases hk:(Z.S.K i).1==0 with
   |false=>exact rest
   |true=>
    simp only[jK,iH];rw[II hi];refine Ev.to (ZC _ (by rw[Gp hi];exact(h.nE _ (iP hi)).2.2)) ?_;cases hd:axh (Z.S.K i).2 with
    |true=>exact rest
    |false=>
     simp only[iQ,jK];have hs:Z.S.RS i=.ok (Z.S.K i).2 (Z.S.nx i):=by grind [nS.RS,nS.simple]
     have:=RQ.step (Q:=RQ Z d) (f:=fun s j=>.ok {Cj:=false,nU:=[{name:=s,plus:=0}]} j) (G:=fun n x=>some ((x.fst.fst,()),({Cj:=false,nU:=[{name:=x.snd.fst,plus:=0}]}:j7),())) (agT (e:=0) (a:=a) h hi) fun s j e' a' hj _=>k8.pure (RQ.pure hj fun _=>rfl)
     rw[hs]at this;exact this
theorem arQ(h:ny Z)(k:OY Z.S)(g:Dig Z):∀(m:Nat)(out:List j7)(i:Nat)(a:Int),i<Z.T.length->m+out.length=200->
 kF (fun n q=>we n q (Z.rd i d 0 a) out) (RQ Z d ((Z.S.listed (fun i=>(Z.S.mY i).bind fun l j=>.ok [l] j) m out i).bind fun l j=>(Z.S.take [125] j).bind fun _ k=>.ok l k)):=by
 have sU:∀(j:Nat)(e a:Int)(l:List j7)(r:Rs (List j7)),j<Z.T.length->(e==0)=false->r=.er e a->k8 (fun n=>(lP n (Z.rd j d e a) [125]).bind fun x_2=>some ((x_2.fst.fst,()),l,())) (RQ Z d r):=by
  intro j e a l r hj he hr;have:=RN.step (Q:=RQ Z d) (f:=fun _ k=>.ok l k) (G:=fun n x=>some ((x.fst.fst,()),l,())) (rE (d:=d) (e:=e) (a:=a) h hj [125]) fun q e2 a2 hq _=>k8.pure (RQ.pure hq fun _=>rfl)
  rw[vp he]at this;rw[hr];exact this
 intro m;induction m with
 |zero=>
  intro out i a hi hm;refine kF.lp (fun n m=>by simp only[Ij,vZ,mB];exact rfl) ?_;rw[show(Z.rd i d 0 a).e=0 from rfl];simp only[beq_self_eq_true,jK];refine Ev.sn (C2 h hi (by omega)) (kF.lQ (agV (e:=7) h k g hi) fun z hz=>?_);obtain⟨_,j,x,hj,rfl⟩:=hz.sU (vp rfl _ _);simp only[jM (show(out.length+1)*32<=17592186044416 by omega),jK];refine Ev.sn (mF hj [44]) ?_;exact kF.P9 (sU j _ _ _ _ hj rfl rfl)
 |succ m ihm=>
  intro out i a hi hm;refine kF.lp (fun n m=>by simp only[Ij,vZ,mB];exact rfl) ?_;rw[show(Z.rd i d 0 a).e=0 from rfl];simp only[beq_self_eq_true,jK];refine Ev.sn (zt hi (by omega)) ?_;unfold nS.listed;rw[Rs.bind_assoc,Rs.bind_assoc];refine RX.G8 (Q:=RQ Z d) (agV (e:=0) (a:=a) h k g hi) fun x j e' a' hj _=>?_
  simp only[jM (show(out.length+1)*32<=17592186044416 by omega),jK,Rs.yf];refine Ev.sn (mF hj [44]) ?_;cases he:e'==0 with
  |false=>
   simp_all [kF.P9,vp]
  |true=>
   obtain rfl:=beq_iff_eq.1 he;simp only[iH];cases hs:Z.S.tX [44] j with
   |true=>
    simp only[jK];refine Ev.sn (mK h hj) ?_;exact ihm (out++[x]) _ a' (mS hj) (by grind)
   |false=>
    simp only[jL,Rs.yf];rw[nL];exact kF.P9 (RN.step (Q:=RQ Z d) (rE h hj [125]) fun q e2 a2 hq _=>k8.pure (RQ.pure hq fun _=>rfl))
theorem akm(h:ny Z)(k:OY Z.S)(g:Dig Z)(hi:i<Z.T.length):k8 (fun n=>BV n (Z.rd i d e a)) (RQ Z d (lz e a (Z.S.sW i))):=by
 refine k8.fn (fun n=>by simp only[BV,kD,EN,mB];exact rfl) ?_;refine Ev.to (mF hi [46,123]) ?_;unfold nS.sW;rw[C0];refine k8.ite (Q:=RQ Z d) (fun hc=>?_) fun _=>k8.pure (RQ.pure hi fun _=>rfl)
 rw[iI]at hc;obtain rfl:=beq_iff_eq.1 hc.1;refine Ev.to (mK h hi) ?_;exact k8.yn (F:=fun n q=>we n q (Z.rd (Z.S.nx i) d 0 a) []) (arQ h k g 200 [] _ a (mS hi) rfl)
end
section
variable {Z:Cx} {i:Nat} {d e a:Int} {ex ta:Nat->Rs Syntax}
def NQ(Z:Cx)(d:Int)(F:Nat->jT->Option ((jT×Unit)×(Syntax×Unit)))(r:Nat->Rs Syntax):Prop:=∀i e a,i<Z.T.length->k8 (fun n=>F n (Z.rd i d e a)) (RQ Z d (lz e a (r i)))
def NX(Z:Cx)(d:Int)(F:Nat->jT->Option (((jT×Unit)×Unit)×(Syntax×Unit)))(r:Nat->Rs Syntax):Prop:=∀i e a,i<Z.T.length->k8 (fun n=>F n (Z.rd i d e a)) (RX Z d (lz e a (r i)))
theorem aAc(he:(e==0)=false)(hi:i<Z.T.length)(v:Int)(x:Syntax):kZ (fun n q=>wC (jZ n) n q v (Z.rd i d e a) x) ((Z.rd i d e a,()),x,()):=by
 refine kZ.lp (fun n m=>by simp only[EU,wB,kC,mB];exact rfl) ?_;refine kZ.lQ (mF hi _) ?_;rw[he];exact kZ.pure
theorem aAd(h:ny Z)(EW:NQ Z d l7 ta):∀(m:Nat)(x:Syntax)(i:Nat)(e a:Int),i<Z.T.length->m<=199->
 kF (fun n q=>wC (jZ n) n q ((200-m:Nat):Int) (Z.rd i d e a) x) (RQ Z d (lz e a (Z.S.alts ta m x i))):=by
 intro m x i e a hi hm;induction m generalizing x i e a with
 |zero=>
  refine kF.lp (fun n m=>by simp only[EU,wB,kC,mB];exact rfl) ?_;refine Ev.sn (mF hi _) ?_;unfold nS.alts;rw[C0];cases hc:e==0&&Z.S.tX [60,124,62] i with
  |false=>exact kF.pure (RQ.pure hi fun _=>rfl)
  |true=>
   obtain rfl:=beq_iff_eq.1 (iI _ _ ▸ hc).1;simp only[jK];refine Ev.sn (mK h hi) (Ev.sn (C2 h (mS hi) (by omega)) (kF.lQ (EW _ 7 _ (mS hi)) fun z hz=>?_));obtain⟨_,j,y,hj,rfl⟩:=hz.sU (vp rfl _ _);exact kZ.Uu (aAc rfl hj _ _) (RQ.no hj rfl rfl)
 |succ m ih=>
  refine kF.lp (fun n m=>by simp only[EU,wB,kC,mB];exact rfl) ?_;refine Ev.sn (mF hi _) ?_;unfold nS.alts;rw[C0];cases hc:e==0&&Z.S.tX [60,124,62] i with
  |false=>exact kF.pure (RQ.pure hi fun _=>rfl)
  |true=>
   obtain rfl:=beq_iff_eq.1 (iI _ _ ▸ hc).1;simp only[jK];refine Ev.sn (mK h hi) (Ev.sn (zt (mS hi) (by omega)) ?_);rw[nL];refine RQ.G8 (Q:=RQ Z d) (EW _ 0 a (mS hi)) fun y j e a hj _=>?_
   grind [lj]
theorem auZ(h:ny Z)(EW:NQ Z d l7 ta):NQ Z d tJ (Z.S.alt ta):=by
 intro i e a hi;refine k8.fn (fun n=>by simp only[agM,DZ,kC,mB];exact rfl) ?_;unfold nS.alt;rw[nL];exact RQ.step (Q:=RQ Z d) (EW i e a hi) fun x j e a hj _=>k8.yn (F:=fun n q=>wC (jZ n) n q 1 (Z.rd j d e a) x) (aAd h EW 199 x j e a hj (iN _))
theorem anD(he:(e==0)=false)(l:List Syntax):kZ (fun n q=>s7 (jZ n) n q (Z.rd i d e a) l) ((Z.rd i d e a,()),l,()):=by
 refine kZ.lp (fun n m=>by simp only[Az,s6,kC,mB];exact rfl) ?_;rw[show(Z.rd i d e a).e=e from rfl,he];exact kZ.pure
theorem axw(h:ny Z)(EW:NQ Z d l7 ta):∀(m:Nat)(out:List Syntax)(i:Nat)(e a:Int),i<Z.T.length->m+out.length=200->
 kF (fun n q=>s7 (jZ n) n q (Z.rd i d e a) out) (RQ Z d (lz e a (Z.S.aaf ta m out i))):=by
 intro m out i e a hi hm;induction m generalizing out i e a with
 |zero=>
  cases he:e==0 with
  |false=>exact kZ.Uu (anD he _) (RQ.no hi he (vp he _ _))
  |true=>
   obtain rfl:=beq_iff_eq.1 he;refine kF.lp (fun n m=>by simp only[Az,s6,kC,mB];exact rfl) ?_;simp only[show(Z.rd i d 0 a).e=0 from rfl,beq_self_eq_true,jK];refine Ev.sn (mF hi _) ?_;unfold nS.aaf;rw[C0];refine kF.ite (Q:=RQ Z d) (fun _=>kF.pure (RQ.pure (e:=0) hi fun _=>rfl)) fun _=>?_
   refine Ev.sn (C2 h hi (by omega)) (kF.lQ (auZ h EW i 7 _ hi) fun z hz=>?_);obtain⟨_,j,y,hj,rfl⟩:=hz.sU (vp rfl _ _);simp only[jM (show(out.length+1)*120<=17592186044416 by omega),jK];exact Ev.sn (mF hj _) (kF.pure (RQ.no hj rfl rfl))
 |succ m ih=>
  cases he:e==0 with
  |false=>exact kZ.Uu (anD he _) (RQ.no hi he (vp he _ _))
  |true=>
   obtain rfl:=beq_iff_eq.1 he;refine kF.lp (fun n m=>by simp only[Az,s6,kC,mB];exact rfl) ?_;simp only[show(Z.rd i d 0 a).e=0 from rfl,beq_self_eq_true,jK];refine Ev.sn (mF hi _) ?_;unfold nS.aaf;rw[C0];refine kF.ite (Q:=RQ Z d) (fun _=>kF.pure (RQ.pure (e:=0) hi fun _=>rfl)) fun _=>?_
   refine Ev.sn (zt hi (by omega)) ?_;rw[nL];refine RQ.G8 (Q:=RQ Z d) (auZ h EW i 0 a hi) fun y j e a hj _=>?_
   simp only[jM (show(out.length+1)*120<=17592186044416 by omega),jK];refine Ev.sn (mF hj _) ?_;rw[C0];refine kF.ite (Q:=RQ Z d) (fun hc=>?_) fun _=>kF.pure (RQ.pure hj fun _=>rfl)
   obtain rfl:=beq_iff_eq.1 (iI _ _ ▸ hc).1;refine Ev.sn (mK h hj) ?_
   grind [mS]
theorem ap1(h:ny Z)(EW:NQ Z d l7 ta)(hi:i<Z.T.length):k8 (fun n=>oW n (Z.rd i d e a)) (RQ Z d (lz e a (Z.S.aHR ta i))):=by
 refine k8.fn (fun n=>by simp only[aL4,zb,kC,mB];exact rfl) ?_;exact k8.yn (F:=fun n q=>s7 (jZ n) n q (Z.rd i d e a) []) (axw h EW 200 [] i e a hi rfl)
end
theorem Rs.C3{W O:Type}(c:Bool)(x y:Rs W)(f:W->Nat->Rs O):(bif c then x else y).bind f=bif c then x.bind f else y.bind f:=by grind
def aCY(to:Int)(y mE:Syntax):Syntax:=.mk 6 [] 0 [] [] [y,mE] y.k9 to
theorem akn(to:Int):∀(l:List Syntax)(x:Syntax),((x::l).dropLast).foldr (aCY to) ((x::l).getLast (by simp))=nS.RT to l x
 |[],x=>rfl
 |y::l,x=>by
  have:=akn to l y;simp only[List.dropLast_cons₂,List.foldr_cons,List.getLast_cons_cons,this];rfl
section
variable {Z:Cx} {i:Nat} {d e a:Int} {ex ta:Nat->Rs Syntax}
theorem au0(h:ny Z)(hj:j<Z.T.length)(o:Syntax)(r:List Syntax)(hr:r.length<=1000):∀(k:Nat),k<=r.length->∀x:Syntax,
 kZ (fun n q=>tK (jZ n) n q ((k:Int)-1) (Z.rd j d e a) o r x) ((Z.rd j d e a,()),nS.NS ((r.take k).foldr (aCY (Z.S.E j)) x) o.k9,()):=by
 intro k;induction k with
 |zero=>
  intro hk x;refine kZ.lp (fun n m=>by simp only[Il,wh,kC,yp];exact rfl) ?_;rw[jN (by omega)];exact kZ.pure
 |succ k ih=>
  intro hk x;have hkl:k<r.length:=by omega
  refine kZ.lp (fun n m=>by simp only[Il,wh,kC,yp];exact rfl) ?_;rw[show((k+1:Nat):Int)-1=(k:Int) by omega,jM (je k)];simp only[jK,nA hkl,iL];refine kZ.lQ (B7 h hj) ?_;rw[lj (by omega) (by omega)];have:=ih (by omega) (aCY (Z.S.E j) r[k] x);rw[show r.take (k+1)=r.take k++[r[k]] by simp_all,List.foldr_append];exact this
theorem agW(h:ny Z)(o x:Syntax)(l:List Syntax)(hl:l.length<=500)(hi:i<Z.T.length):
 k8 (fun n=>(lP n (Z.rd i d e a) [41]).bind fun y=>(sQ (x::l) (IntKind.i64.wrap (((x::l).length:Int)-1))).bind fun x_1=>tK (jZ n) n n (IntKind.i64.wrap (((x::l).length:Int)-2)) y.fst.fst o (x::l) x_1)
  (RQ Z d (lz e a ((Z.S.take [41] i).bind fun _ q=>.ok (nS.NS (nS.RT (Z.S.E q) l x) o.k9) q))):=by
 rw[nL];refine RN.step (Q:=RQ Z d) (rE h hi [41]) fun j e' a' hj _=>?_
 have hlen:(x::l).length=l.length+1:=rfl;have e1:IntKind.i64.wrap (((x::l).length:Int)-1)=(l.length:Int):=by grind [lj]
 have e2:IntKind.i64.wrap (((x::l).length:Int)-2)=(l.length:Int)-1:=by grind [lj]
 have me:l.length<(x::l).length:=by omega
 have e3:(x::l)[l.length]=(x::l).getLast (by simp):=by grind
 rw[e1,e2,nA me,e3];have:=Ev.yn (F:=fun n q=>tK (jZ n) n q ((l.length:Int)-1) (Z.rd j d e' a') o (x::l) ((x::l).getLast (by simp))) (au0 (d:=d) (e:=e') (a:=a') h hj o (x::l) (by omega) l.length (by omega) _);rw[show(x::l).take l.length=(x::l).dropLast by rw[jt];rfl,akn]at this;exact Ev.Uu this (RQ.pure hj fun _=>rfl)
theorem ap3(h:ny Z)(o x:Syntax)(l:List Syntax)(hl:l.length<=500)(hi:i<Z.T.length)(he:(e==0)=false):
 kF (fun n q=>r7 (jZ n) n q (Z.rd i d e a) o (x::l)) (RQ Z d (.er e a:Rs Syntax)):=by
 refine kF.lp (fun n m=>by simp only[By,tL,kC,yp];exact rfl) ?_;refine Ev.sn (mF hi _) ?_;simp only[he,iM,jL];have:=agW (d:=d) (e:=e) (a:=a) h o x l hl hi
 grind [vp,kF.P9]
theorem aAe(h:ny Z)(hex:NX Z d kX ex)(o x:Syntax):∀(m:Nat)(out:List Syntax)(i:Nat)(e a:Int),i<Z.T.length->m+out.length=199->
 kF (fun n q=>r7 (jZ n) n q (Z.rd i d e a) o (x::out)) (RQ Z d (lz e a ((Z.S.ald ex m out i).bind fun l k=>(Z.S.take [41] k).bind fun _ q=>.ok (nS.NS (nS.RT (Z.S.E q) l x) o.k9) q))):=by
 intro m out i e a hi hm;have room:∀y:Syntax,decide (((x::out).length+1)*120<=17592186044416)=true:=fun _=>jM (by grind)
 have hL:((x::out).length:Int)=((out.length+1:Nat):Int):=rfl;induction m generalizing out i e a with
 |zero=>
  refine kF.lp (fun n m=>by simp only[By,tL,kC,yp];exact rfl) ?_;refine Ev.sn (mF hi _) ?_;unfold nS.ald;rw[Rs.C3,C0];refine kF.ite (Q:=RQ Z d) (fun hc=>?_) fun _=>kF.P9 (agW h o x out (by omega) hi)
  obtain rfl:=beq_iff_eq.1 (iI _ _ ▸ hc).1;refine Ev.sn (mK h hi) (Ev.sn (C2 h (mS hi) (by omega)) (kF.lQ (hex _ 7 _ (mS hi)) fun z hz=>?_));obtain⟨_,j,y,hj,rfl⟩:=hz.sU (vp rfl _ _);simp only[room y,jK];exact ap3 h o x (out++[y]) (by grind) hj rfl
 |succ m ih=>
  refine kF.lp (fun n m=>by simp only[By,tL,kC,yp];exact rfl) ?_;refine Ev.sn (mF hi _) ?_;unfold nS.ald;rw[Rs.C3,C0];refine kF.ite (Q:=RQ Z d) (fun hc=>?_) fun _=>kF.P9 (agW h o x out (by omega) hi)
  obtain rfl:=beq_iff_eq.1 (iI _ _ ▸ hc).1;refine Ev.sn (mK h hi) (Ev.sn (zt (mS hi) (by omega)) ?_);rw[Rs.bind_assoc,nL];refine RX.G8 (Q:=RQ Z d) (hex _ 0 a (mS hi)) fun y j e a hj _=>?_
  simp only[room y,jK];exact ih (out++[y]) j e a hj (by grind) (fun _=>jM (by grind)) rfl
theorem au1(h:ny Z)(hex:NX Z d kX ex)(o:Nat)(hi:i<Z.T.length):
 k8 (fun n=>rk n (Z.rd i d e a) (.mk 0 [] 0 [] [] [] (Z.S.F o) 0)) (RQ Z d (lz e a (Z.S.VM ex o i))):=by
 refine k8.fn (fun n=>by simp only[aaV,Ae,kC,yp];exact rfl) ?_;unfold nS.VM;rw[nL];refine RX.step (Q:=RQ Z d) (hex i e a hi) fun x j e a hj _=>?_
 refine Ev.to (mF hj [41]) ?_;rw[C0];refine k8.ite (Q:=RQ Z d) (fun hc=>?_) fun _=>?_
 ·obtain rfl:=beq_iff_eq.1 (iI _ _ ▸ hc).1;exact Ev.to (mK h hj) (k8.pure (RQ.pure (e:=0) (a:=a) (mS hj) fun _=>rfl))
 refine Ev.to (mF hj [58]) ?_;rw[C0];refine k8.ite (Q:=RQ Z d) (fun hc=>?_) fun _=>?_
 ·obtain rfl:=beq_iff_eq.1 (iI _ _ ▸ hc).1;refine Ev.to (mK h hj) ?_;rw[nL];refine RX.step (Q:=RQ Z d) (hex _ 0 a (mS hj)) fun t k e a hk _=>?_
  rw[nL];exact RN.step (Q:=RQ Z d) (rE h hk [41]) fun q e a hq _=>Ev.to (B7 h hq) (k8.pure (RQ.pure hq fun _=>rfl))
 refine Ev.to (mF hj [44]) ?_;rw[C0];refine k8.ite (Q:=RQ Z d) (fun hc=>?_) fun _=>?_
 ·exact k8.yn (F:=fun n q=>r7 (jZ n) n q (Z.rd j d e a) (.mk 0 [] 0 [] [] [] (Z.S.F o) 0) [x]) (aAe h hex (.mk 0 [] 0 [] [] [] (Z.S.F o) 0) x 199 [] j e a hj rfl)
 refine Ev.to (IK h hj) ?_;have he:((bif e==0 then 4 else e)==0)=false:=by grind
 rw[show lz e a (Z.S.D5 j:Rs Syntax)=.er (bif e==0 then 4 else e) (bif e==0 then Z.fr j e else a)from(apV (O:=Unit) Zz j 4 rfl).trans (vp he _ _)];exact k8.yn (F:=fun n q=>r7 (jZ n) n q (Z.rd j d _ _) (.mk 0 [] 0 [] [] [] (Z.S.F o) 0) [x]) (ap3 h _ x [] (iK _) hj he)
theorem au2(h:ny Z)(hi:i<Z.T.length)(hk:((Z.S.K i).1==0)=true):Ev (fun n=>vU n (Z.rd i d 0 a)) (((Z.rd (Z.S.nx i) d 0 a,()),()),(Z.S.K i).2,()):=by
 refine Ev.fn (fun n=>by simp only[vU,kD,BU,mC];exact rfl) ?_;refine Ev.bind (ua hi) ?_;rw[bne,B6 hi rfl,hk,II hi];exact Ev.bind (mK h hi) Ev.pure
theorem aAf(h:ny Z)(k:OY Z.S)(g:Dig Z)(hex:NX Z d kX ex)(EW:NQ Z d l7 ta):NQ Z d rG (Z.S.afY ex ta):=by
 intro i e a hi
 have uA:∀(j:Nat)(e a:Int)(x:Int->Syntax)(y:Syntax),j<Z.T.length->(e=0->x (Z.S.E j)=y)->k8 (fun n=>(mI n (Z.rd j d e a)).bind fun t=>some ((Z.rd j d e a,()),x t,())) (RQ Z d (lz e a (.ok y j))):=
  fun j e a x y hj hxy=>Ev.to (B7 h hj) (k8.pure (RQ.pure hj hxy))
 refine k8.fn (fun n=>by simp only[aeO,BZ,kC,mB];exact rfl) ?_;refine Ev.to (C1 h hi) (Ev.to (ua hi) ?_);rw[B6 hi rfl,B6 hi rfl];cases he:e==0 with
 |false=>
  simp only[iM,jL]
  iterate 2 (refine Ev.to (mF hi _) ?_;simp only[he,iM,jL])
  iterate 2 (refine Ev.to (D2 hi _) ?_;simp only[he,iM,jL])
  refine Ev.to (mF hi _) ?_;simp only[he,iM,jL];refine Ev.to (D2 hi _) ?_;simp only[he,iM,jL];refine Ev.to (mF hi _) ?_;simp only[he,iM,jL];refine Ev.to (IK h hi) ?_;simp only[he,jL];exact Ev.to (B7 h hi) (k8.pure (RQ.no hi he (vp he _ _)))
 |true=>
  obtain rfl:=beq_iff_eq.1 he;rw[ae3];unfold nS.afY;simp only[iH,show Z.fr i 0=Z.S.F i from rfl];cases hs:Z.S.tX [40] i with
  |true=>
   have hK:(Z.S.K i).1=2:=by
    grind [nS.tX,nS.is]
   have aJ2:∀s,Z.S.key s i=false:=fun s=>by grind [nS.key,nS.is]
   simp only[hK,show((2:Int)==0)=false from rfl,show((2:Int)==1)=false from rfl,jL,jK];refine Ev.to (mF hi _) ?_;simp only[arP (t:=[64]) hs rfl,iT,jL];refine Ev.to (mF hi _) ?_;simp only[arP (t:=[95]) hs rfl,iT,jL]
   iterate 2 (refine Ev.to (D2 hi _) ?_;simp only[aJ2,iT,jL])
   refine Ev.to (mF hi _) ?_;simp only[arP (t:=[40,41]) hs rfl,iT,jL];refine Ev.to (D2 hi _) ?_;simp only[aJ2,iT,jL];refine Ev.to (mF hi _) ?_;simp only[hs,jm,beq_self_eq_true,jK];refine Ev.to (mK h hi) (k8.bind (au1 (e:=0) (a:=a) h hex i (mS hi)) fun z hz=>?_);obtain⟨j,e,a',x,hj,rfl,hr⟩:=hz;exact k8.pure ⟨j,e,a',x,hj,rfl,hr⟩
  |false=>
   simp only[jL];unfold nS.fill;simp only[Rs.C3,Rs.bind_assoc,Rs.yf];refine k8.ite (Q:=RQ Z d) (fun hc=>?_) fun _=>?_
   ·refine Ev.to (au2 h hi hc) ?_;exact RQ.step (Q:=RQ Z d) (akm (e:=0) (a:=a) h k g (mS hi)) fun l j e a hj _=>uA j e a _ _ hj fun _=>rfl
   refine Ev.to (mF hi _) ?_;simp only[beq_self_eq_true,iH];refine k8.ite (Q:=RQ Z d) (fun hc=>?_) fun _=>?_
   ·refine Ev.to (mK h hi) ?_;refine RX.step (Q:=RQ Z d) (ajH (e:=0) (a:=a) h (mS hi)) fun s j e a hj _=>?_
    rw[nL];exact RQ.step (Q:=RQ Z d) (akm h k g hj) fun l j e a hj _=>uA j e a _ _ hj fun _=>rfl
   refine Ev.to (mF hi _) ?_;simp only[beq_self_eq_true,iH];refine k8.ite (Q:=RQ Z d) (fun hc=>Ev.to (mK h hi) (uA _ 0 a _ _ (mS hi) fun _=>rfl)) fun _=>?_
   refine k8.ite (Q:=RQ Z d) (fun hc=>RQ.step (Q:=RQ Z d) (Uy (e:=0) (a:=a) h g hi) fun l j e a hj _=>uA j e a _ _ hj fun _=>rfl) fun _=>?_
   refine Ev.to (D2 hi _) ?_;simp only[beq_self_eq_true,iH];refine k8.ite (Q:=RQ Z d) (fun hc=>Ev.to (mK h hi) (uA _ 0 a _ _ (mS hi) fun _=>rfl)) fun _=>?_
   refine Ev.to (D2 hi _) ?_;simp only[beq_self_eq_true,iH];refine k8.ite (Q:=RQ Z d) (fun hc=>Ev.to (mK h hi) (RQ.step (Q:=RQ Z d) (aCX (e:=0) (a:=a) h k g (mS hi)) fun l j e a hj _=>uA j e a _ _ hj fun _=>rfl)) fun _=>?_
   refine Ev.to (mF hi _) ?_;simp only[beq_self_eq_true,iH];refine k8.ite (Q:=RQ Z d) (fun hc=>Ev.to (mK h hi) (uA _ 0 a _ _ (mS hi) fun _=>rfl)) fun _=>?_
   refine Ev.to (D2 hi _) ?_;simp only[beq_self_eq_true,iH];refine k8.ite (Q:=RQ Z d) (fun hc=>?_) fun _=>?_
   ·refine Ev.to (mK h hi) ?_;unfold nS.block;simp only[Rs.bind_assoc,Rs.yf];refine RN.step (Q:=RQ Z d) (rE (e:=0) (a:=a) h (mS hi) _) fun j e a hj _=>?_
    rw[nL];refine RQ.step (Q:=RQ Z d) (ap1 h EW hj) fun l j e a hj _=>?_
    rw[nL];exact RN.step (Q:=RQ Z d) (rE h hj _) fun j e a hj _=>uA j e a _ _ hj fun _=>rfl
   refine Ev.to (mF hi _) ?_;simp only[hs,iT,jL];refine Ev.to (IK h hi) (Ev.to (B7 h hi) (k8.pure (RQ.D5 (e:=0) (a:=a) hi)))
end
section
variable {Z:Cx} {i:Nat} {d e a:Int} {ex ta:Nat->Rs Syntax}
theorem agX(he:(e==0)=false)(hi:i<Z.T.length)(v:Int)(x:Syntax):kZ (fun n q=>p8 (jZ n) n q v (Z.rd i d e a) x) ((Z.rd i d e a,()),x,()):=by
 refine kZ.lp (fun n m=>by simp only[DX,vf,kC,yp];exact rfl) ?_;refine kZ.lQ (mF hi _) ?_;rw[he];refine kZ.lQ (mF hi _) ?_;rw[he];exact kZ.pure
theorem axx(h:ny Z):∀(m:Nat)(x:Syntax)(i:Nat)(e a:Int),i<Z.T.length->m<=200->
 kF (fun n q=>p8 (jZ n) n q ((200-m:Nat):Int) (Z.rd i d e a) x) (RQ Z d (lz e a (Z.S.Uw m x i))):=by
 intro m;induction m with
 |zero=>
  intro x i e a hi hm;cases he:e==0 with
  |false=>exact kZ.Uu (agX he hi _ _) (RQ.no hi he (vp he _ _))
  |true=>
   obtain rfl:=beq_iff_eq.1 he
   have go:kF (fun n q=>(lX n (Z.rd i d 0 a) ((200-0:Nat):Int)).bind fun z=>(lM n z.fst.fst [46,50]).bind fun x_1=>bif x_1 then(kW n z.fst.fst).bind fun z=>(mI n z.fst.fst).bind fun x_2=>p8 (jZ n) n q (IntKind.i64.wrap (((200-0:Nat):Int)+1)) z.fst.fst (Syntax.mk 8 [] 0 [] [] [x] x.k9 x_2)
    else(kW n z.fst.fst).bind fun z=>(mI n z.fst.fst).bind fun x_2=>p8 (jZ n) n q (IntKind.i64.wrap (((200-0:Nat):Int)+1)) z.fst.fst (Syntax.mk 7 [] 0 [] [] [x] x.k9 x_2)) (RQ Z d (Z.S.abf i)):=by
    refine Ev.sn (C2 h hi (by omega)) (Ev.sn (mF hi _) ?_);simp only[show((7:Int)==0)=false from rfl,iM,jL];refine Ev.sn (auP h hi) (Ev.sn (B7 h hi) ?_);exact kZ.Uu (agX rfl hi _ _) (RQ.no hi rfl rfl)
   refine kF.lp (fun n m=>by simp only[DX,vf,kC,yp];exact rfl) ?_;rw[ae3];unfold nS.Uw;refine Ev.sn (mF hi _) ?_;simp only[beq_self_eq_true,iH,bor];refine kF.ite (Q:=RQ Z d) (fun _=>go) fun _=>?_
   refine Ev.sn (mF hi _) ?_;simp only[beq_self_eq_true,iH];exact kF.ite (Q:=RQ Z d) (fun _=>go) fun _=>kF.pure (RQ.pure (e:=0) (a:=a) hi fun _=>rfl)
 |succ m ih=>
  intro x i e a hi hm;cases he:e==0 with
  |false=>exact kZ.Uu (agX he hi _ _) (RQ.no hi he (vp he _ _))
  |true=>
   obtain rfl:=beq_iff_eq.1 he
   have go:(Z.S.K i).1=2->kF (fun n q=>(lX n (Z.rd i d 0 a) ((200-(m+1):Nat):Int)).bind fun z=>(lM n z.fst.fst [46,50]).bind fun x_1=>bif x_1 then(kW n z.fst.fst).bind fun z=>(mI n z.fst.fst).bind fun x_2=>p8 (jZ n) n q (IntKind.i64.wrap (((200-(m+1):Nat):Int)+1)) z.fst.fst (Syntax.mk 8 [] 0 [] [] [x] x.k9 x_2)
    else(kW n z.fst.fst).bind fun z=>(mI n z.fst.fst).bind fun x_2=>p8 (jZ n) n q (IntKind.i64.wrap (((200-(m+1):Nat):Int)+1)) z.fst.fst (Syntax.mk 7 [] 0 [] [] [x] x.k9 x_2))
    (RQ Z d (Z.S.Uw m (.mk (bif (Z.S.K i).2==[46,50] then 8 else 7) [] 0 [] [] [x] x.k9 (Z.S.E (Z.S.nx i))) (Z.S.nx i))):=by
    intro hK;refine Ev.sn (zt hi (by omega)) (Ev.sn (mF hi _) ?_);rw[show IntKind.i64.wrap (((200-(m+1):Nat):Int)+1)=((200-m:Nat):Int) by grind [lj]];rw[show(((0:Int)==0)&&Z.S.tX [46,50] i)=((Z.S.K i).2==[46,50]) by grind [nS.tX,nS.is]];cases (Z.S.K i).2==[46,50]with
    |true=>exact Ev.sn (mK h hi) (Ev.sn (B7 h (mS hi)) (ih _ _ 0 a (mS hi) (by omega)))
    |false=>exact Ev.sn (mK h hi) (Ev.sn (B7 h (mS hi)) (ih _ _ 0 a (mS hi) (by omega)))
   have hK:∀s,Z.S.tX s i=true->(Z.S.K i).1=2:=fun s hs=>by
    grind [nS.tX,nS.is]
   refine kF.lp (fun n m=>by simp only[DX,vf,kC,yp];exact rfl) ?_;rw[ae3];unfold nS.Uw;refine Ev.sn (mF hi _) ?_;simp only[beq_self_eq_true,iH,bor];refine kF.ite (Q:=RQ Z d) (fun hs=>go (hK _ hs)) fun _=>?_
   refine Ev.sn (mF hi _) ?_;simp only[beq_self_eq_true,iH];exact kF.ite (Q:=RQ Z d) (fun hs=>go (hK _ hs)) fun _=>kF.pure (RQ.pure (e:=0) (a:=a) hi fun _=>rfl)
theorem aAg(h:ny Z)(hb:NQ Z d rG (Z.S.afY ex ta)):NQ Z d qO (Z.S.aiB ex ta):=by
 intro i e a hi;refine k8.fn (fun n=>by simp only[aeN,BY,kC,yp];exact rfl) ?_;unfold nS.aiB;rw[nL];exact RQ.step (Q:=RQ Z d) (hb i e a hi) fun x j e a hj _=>k8.yn (F:=fun n q=>p8 (jZ n) n q 0 (Z.rd j d e a) x) (axx h 200 x j e a hj (iN _))
theorem R0(hi:i<Z.T.length):Ev (fun n=>yB n (Z.rd i d e a)) (e==0&&Z.S.Pn i):=by
 refine Ev.fn (fun n=>by simp only[yB,kD,EI,mB];exact rfl) ?_;refine Ev.bind (ua hi) ?_;rw[B6 hi rfl,B6 hi rfl]
 have step:∀{F:Nat->Option Bool}{G:Nat->Option Bool}{b r:Bool},Ev F (e==0&&b)->Ev G (e==0&&r)->Ev (fun n=>(F n).bind fun x=>bif x then some true else G n) (e==0&&(b||r)):=by
  intro F G b r hF hG;refine Ev.bind hF ?_;cases hb:e==0&&b with
  |true=>
   grind [Ev.pure]
  |false=>
   rw[show(e==0&&(b||r))=(e==0&&r) by grind];exact hG
 have one:∀{c r:Bool}{G:Nat->Option Bool},Ev G (e==0&&r)->Ev (fun n=>bif e==0&&c then some true else G n) (e==0&&(c||r)):=by
  intro c r G hG;cases hb:e==0&&c with
  |true=>
   simp_all [Ev.pure]
  |false=>
   rw[show(e==0&&(c||r))=(e==0&&r) by cases he:e==0<;>simp_all];exact hG
 unfold nS.Pn;simp only[Bool.or_assoc];refine one (one (step (mF hi _) (step (mF hi _) (step (mF hi _) (step (mF hi _) (step (D2 hi _) (step (D2 hi _) ?_)))))));exact Ev.bind (D2 hi _) Ev.pure
theorem aAh(he:(e==0)=false)(hi:i<Z.T.length)(v:Int)(x:Syntax):kZ (fun n q=>wA (jZ n) n q v (Z.rd i d e a) x) ((Z.rd i d e a,()),x,()):=by
 refine kZ.lp (fun n m=>by simp only[ET,wz,kC,mB];exact rfl) ?_;refine kZ.lQ (R0 hi) ?_;rw[he];exact kZ.pure
theorem aAi(h:ny Z)(ha:NQ Z d qO (Z.S.aiB ex ta)):∀(m:Nat)(x:Syntax)(i:Nat)(e a:Int),i<Z.T.length->m<=199->
 kF (fun n q=>wA (jZ n) n q ((200-m:Nat):Int) (Z.rd i d e a) x) (RQ Z d (lz e a (Z.S.ale ex ta m x i))):=by
 intro m x i e a hi hm;induction m generalizing x i e a with
 |zero=>
  refine kF.lp (fun n m=>by simp only[ET,wz,kC,mB];exact rfl) ?_;refine Ev.sn (R0 hi) ?_;unfold nS.ale;rw[C0];refine kF.ite (Q:=RQ Z d) (fun hc=>?_) fun _=>kF.pure (RQ.pure hi fun _=>rfl)
  obtain rfl:=beq_iff_eq.1 (iI _ _ ▸ hc).1;refine Ev.sn (C2 h hi (by omega)) (kF.lQ (ha _ 7 _ hi) fun z hz=>?_);obtain⟨_,j,y,hj,rfl⟩:=hz.sU (vp rfl _ _);exact kZ.Uu (aAh rfl hj _ _) (RQ.no hj rfl rfl)
 |succ m ih=>
  refine kF.lp (fun n m=>by simp only[ET,wz,kC,mB];exact rfl) ?_;refine Ev.sn (R0 hi) ?_;unfold nS.ale;rw[C0];refine kF.ite (Q:=RQ Z d) (fun hc=>?_) fun _=>kF.pure (RQ.pure hi fun _=>rfl)
  obtain rfl:=beq_iff_eq.1 (iI _ _ ▸ hc).1;refine Ev.sn (zt hi (by omega)) ?_;rw[nL];refine RQ.G8 (Q:=RQ Z d) (ha _ 0 a hi) fun y j e a hj _=>?_
  grind [lj]
theorem aCZ(h:ny Z)(ha:NQ Z d qO (Z.S.aiB ex ta)):NQ Z d qa (Z.S.app ex ta):=by
 intro i e a hi;refine k8.fn (fun n=>by simp only[agL,DW,kC,mB];exact rfl) ?_;unfold nS.app;rw[nL];exact RQ.step (Q:=RQ Z d) (ha i e a hi) fun x j e a hj _=>k8.yn (F:=fun n q=>wA (jZ n) n q 1 (Z.rd j d e a) x) (aAi h ha 199 x j e a hj (iN _))
theorem ad8(hi:i<Z.T.length)(hs:Z.sy.length<=100000):Ev (fun n=>ud n (Z.rd i d e a)) (e==0&&Z.S.adA i):=by
 refine Ev.fn (fun n=>by simp only[ud,kD,CL,mB];exact rfl) ?_;refine Ev.bind (ua hi) ?_;rw[bne,B6 hi rfl];unfold nS.adA;cases he:e==0 with
 |false=>exact Ev.pure
 |true=>
  obtain rfl:=beq_iff_eq.1 he;simp only[iH];cases (Z.S.K i).1==2 with
  |false=>exact Ev.pure
  |true=>
   simp only[iU,jL,iH];rw[II hi];cases (Z.S.K i).2==[95]with
   |true=>exact Ev.pure
   |false=>
    simp only[jL,iQ,iH]
    have key:∀q p:Nat,p+q=Z.sy.length->kZ (fun n m=>ut n m (Z.rd i d 0 a) (p:Int) (Z.tk i 0)) ((Z.sy.drop p).contains (Z.S.K i).2):=by
     intro q;induction q with
     |zero=>
      intro p hp;refine kZ.lp (fun n m=>by simp only[FS,ur,mB];exact rfl) ?_;rw[jN (show ¬ (p:Int)<((Z.rd i d 0 a).oN.length:Int) by show ¬ (p:Int)<(Z.sy.length:Int);omega),jb (by omega)];exact kZ.pure
     |succ q ih=>
      intro p hp;have me:p<Z.sy.length:=by omega
      refine kZ.lp (fun n m=>by simp only[FS,ur,mB];exact rfl) ?_;have hx:sQ (Z.rd i d 0 a).oN (p:Int)=some Z.sy[p]:=nA me;rw[jM (show(p:Int)<((Z.rd i d 0 a).oN.length:Int) by show(p:Int)<(Z.sy.length:Int);omega),hx];simp only[jK,iL];rw[II hi,iS me,ja,kM (by omega),show(Z.sy[p]==(Z.S.K i).2)=((Z.S.K i).2==Z.sy[p])from BEq.comm];cases (Z.S.K i).2==Z.sy[p]with
      |true=>exact kZ.pure
      |false=>grind
    exact Ev.yn (F:=fun n m=>ut n m (Z.rd i d 0 a) 0 (Z.tk i 0)) (key Z.sy.length 0 (by omega))
end
def NpR(Z:Cx):Prop:=∀l:List Syntax,l≠[]->l.length<=200->Ev (fun n=>Dc n Z.tb l) (Z.np l)/\0<=(Z.np l).2.1
section
variable {Z:Cx} {i:Nat} {d e a:Int} {ex ta:Nat->Rs Syntax}
theorem anE(he:(e==0)=false)(l:List Syntax):kZ (fun n q=>qT (jZ n) n q (Z.rd i d e a) l) ((Z.rd i d e a,()),Zz,()):=by
 refine kZ.lp (fun n m=>by simp only[Gi,xh,kC,mB];exact rfl) ?_;rw[show(Z.rd i d e a).e=e from rfl,bne,he];exact kZ.pure
theorem anF(h:ny Z)(hn:NpR Z)(hi:i<Z.T.length)(x:Syntax)(r:List Syntax)(hl:(x::r).length<=200):
 k8 (fun n=>(Dc n (Z.rd i d 0 a).rF (x::r)).bind fun x_1=>bif x_1.snd.snd !=0 then (l3 n (Z.rd i d 0 a)).bind fun x_2=>bif decide (x_1.snd.fst<((x::r).length:Int)) then (sQ (x::r) x_1.snd.fst).bind fun x_3=>(nK n (Z.rd i d 0 a) x_1.snd.snd x_3.k9).bind fun x_4=>some ((x_4.fst.fst,()),x_1.fst,()) else (nK n (Z.rd i d 0 a) x_1.snd.snd x_2).bind fun x_3=>some ((x_3.fst.fst,()),x_1.fst,()) else some ((Z.rd i d 0 a,()),x_1.fst,()))
  (RQ Z d (bif (Z.S.np (x::r)).2.2==0 then .ok (Z.S.np (x::r)).1 i
    else match (x::r)[(Z.S.np (x::r)).2.1.toNat]? with
     |some y=>.er (Z.S.np (x::r)).2.2 y.k9
     |none=>.er (Z.S.np (x::r)).2.2 (Z.S.F i))):=by
 obtain⟨h1,h2⟩:=hn (x::r) (by simp) hl;refine Ev.to h1 ?_;have hS:Z.S.np=Z.np:=rfl;rw[hS];cases he:(Z.np (x::r)).2.2==0 with
 |true=>simp only[bne,he,iU,jL,jK];exact k8.pure (RQ.pure (e:=0) (a:=a) hi fun _=>rfl)
 |false=>
  simp only[bne,he,iQ,jK,jL];refine Ev.to (C1 h hi) ?_;obtain⟨q,hq⟩:∃q:Nat,(Z.np (x::r)).2.1=q:=⟨(Z.np (x::r)).2.1.toNat,by omega⟩;rw[hq,iW]
  have err:∀p:Int,k8 (fun n=>(nK n (Z.rd i d 0 a) (Z.np (x::r)).2.2 p).bind fun x_4=>some ((x_4.fst.fst,()),(Z.np (x::r)).1,())) (RQ Z d (.er (Z.np (x::r)).2.2 p)):=fun p=>
   Ev.to (RY _ p) (k8.pure (RQ.no hi he rfl))
  by_cases me:q<(x::r).length
  ·grind [nA]
  ·rw[jN (show ¬ (q:Int)<((x::r).length:Int) by omega),ju (by omega)];exact err _
theorem aC0(h:ny Z)(hn:NpR Z)(hs:Z.sy.length<=100000)(ha:NQ Z d qa (Z.S.app ex ta)):∀(m:Nat)(out:List Syntax)(i:Nat)(e a:Int),i<Z.T.length->m+out.length=200->
 kF (fun n q=>qT (jZ n) n q (Z.rd i d e a) out) (RQ Z d (lz e a ((Z.S.Jc ex ta m out i).bind Z.S.aiC))):=by
 intro m out i e a hi hm
 have ends:∀(out:List Syntax)(i:Nat)(a:Int),i<Z.T.length->out.length<=200->k8 (fun n=>bif ((out.length:Int)==0)then(oH n (Z.rd i d 0 a)).bind fun x=>some ((x.fst.fst,()),Syntax.mk 0 [] 0 [] [] [] 0 0,())
  else bif ((out.length:Int)==1)then(sQ out 0).bind fun x=>bif x.kind !=17 then(sQ out 0).bind fun x=>some ((Z.rd i d 0 a,()),x,())
   else(Dc n (Z.rd i d 0 a).rF out).bind fun x_1=>bif x_1.snd.snd !=0 then(l3 n (Z.rd i d 0 a)).bind fun x_2=>bif decide (x_1.snd.fst<(out.length:Int))then(sQ out x_1.snd.fst).bind fun x_3=>(nK n (Z.rd i d 0 a) x_1.snd.snd x_3.k9).bind fun x_4=>some ((x_4.fst.fst,()),x_1.fst,())else(nK n (Z.rd i d 0 a) x_1.snd.snd x_2).bind fun x_3=>some ((x_3.fst.fst,()),x_1.fst,())else some ((Z.rd i d 0 a,()),x_1.fst,())
   else(Dc n (Z.rd i d 0 a).rF out).bind fun x_1=>bif x_1.snd.snd !=0 then(l3 n (Z.rd i d 0 a)).bind fun x_2=>bif decide (x_1.snd.fst<(out.length:Int))then(sQ out x_1.snd.fst).bind fun x_3=>(nK n (Z.rd i d 0 a) x_1.snd.snd x_3.k9).bind fun x_4=>some ((x_4.fst.fst,()),x_1.fst,())else(nK n (Z.rd i d 0 a) x_1.snd.snd x_2).bind fun x_3=>some ((x_3.fst.fst,()),x_1.fst,())else some ((Z.rd i d 0 a,()),x_1.fst,())) (RQ Z d (Z.S.aiC out i)):=by
  intro out i a hi hl
  match out,hl with
  |[],_=>exact Ev.to (IK h hi) (k8.pure (RQ.D5 (e:=0) (a:=a) hi))
  |[x],hl=>
   have hp:=anF (d:=d) (a:=a) h hn hi x [] hl;unfold nS.aiC;simp only[List.isEmpty_nil,iH];rw[show((([x]:List Syntax).length:Int)==0)=false from rfl,show((([x]:List Syntax).length:Int)==1)=true from rfl];simp only[jL,jK,show sQ [x] 0=some x from rfl,iL];cases hk:x.kind==17 with
   |true=>grind
   |false=>rw[show(x.kind !=17)=true by grind];exact k8.pure (RQ.pure (e:=0) (a:=a) hi fun _=>rfl)
  |x::y::r,hl=>
   have hp:=anF (d:=d) (a:=a) h hn hi x (y::r) hl;have e0:(((x::y::r).length:Int)==0)=false:=by grind
   have e1:(((x::y::r).length:Int)==1)=false:=by grind
   rw[e0,e1];exact hp
 induction m generalizing out i e a with
 |zero=>
  cases he:e==0 with
  |false=>exact kZ.Uu (anE he _) (RQ.no hi he (vp he _ _))
  |true=>
   obtain rfl:=beq_iff_eq.1 he
   have go:kF (fun n q=>(lX n (Z.rd i d 0 a) (out.length:Int)).bind fun x=>(ud n x.fst.fst).bind fun x_1=>bif x_1 then(mi n x.fst.fst).bind fun x_2=>(l3 n x.fst.fst).bind fun x_3=>(kW n x.fst.fst).bind fun x=>(mI n x.fst.fst).bind fun x_4=>bif decide ((out.length+1)*120<=17592186044416)then qT (jZ n) n q x.fst.fst (out++[Syntax.mk 17 x_2.text 0 [] [] [] x_3 x_4])else none
    else(qa n x.fst.fst).bind fun x=>bif decide ((out.length+1)*120<=17592186044416)then qT (jZ n) n q x.fst.fst (out++[x.snd.fst])else none) (RQ Z d ((Z.S.abf i:Rs (List Syntax)).bind Z.S.aiC)):=by
    refine Ev.sn (C2 h hi (by omega)) (Ev.sn (ad8 hi hs) ?_);simp only[show((7:Int)==0)=false from rfl,iM,jL];refine kF.lQ (ha i 7 _ hi) fun z hz=>?_
    obtain⟨_,j,y,hj,rfl⟩:=hz.sU (vp rfl _ _);simp only[jM (show(out.length+1)*120<=17592186044416 by omega),jK];exact kZ.Uu (anE rfl _) (RQ.no hj rfl rfl)
   refine kF.lp (fun n m=>by simp only[Gi,xh,kC,mB];exact rfl) ?_;rw[ae3];unfold nS.Jc;simp only[show(Z.rd i d 0 a).e=0 from rfl,beq_self_eq_true,jK,bne,iU,jL,Rs.C3,bor,Rs.yf];refine Ev.sn (ad8 hi hs) ?_;simp only[beq_self_eq_true,iH];refine kF.ite (Q:=RQ Z d) (fun _=>go) fun _=>?_
   refine Ev.sn (R0 hi) ?_;simp only[beq_self_eq_true,iH];exact kF.ite (Q:=RQ Z d) (fun _=>go) fun _=>kF.P9 (ends out i a hi (by omega))
 |succ m ih=>
  cases he:e==0 with
  |false=>exact kZ.Uu (anE he _) (RQ.no hi he (vp he _ _))
  |true=>
   obtain rfl:=beq_iff_eq.1 he
   have go:kF (fun n q=>(lX n (Z.rd i d 0 a) (out.length:Int)).bind fun x=>(ud n x.fst.fst).bind fun x_1=>bif x_1 then(mi n x.fst.fst).bind fun x_2=>(l3 n x.fst.fst).bind fun x_3=>(kW n x.fst.fst).bind fun x=>(mI n x.fst.fst).bind fun x_4=>bif decide ((out.length+1)*120<=17592186044416)then qT (jZ n) n q x.fst.fst (out++[Syntax.mk 17 x_2.text 0 [] [] [] x_3 x_4])else none
    else(qa n x.fst.fst).bind fun x=>bif decide ((out.length+1)*120<=17592186044416)then qT (jZ n) n q x.fst.fst (out++[x.snd.fst])else none) (RQ Z d ((Z.S.alf ex ta i).bind fun x j=>(Z.S.Jc ex ta m (out++[x]) j).bind Z.S.aiC)):=by
    have hlen:∀x:Syntax,m+(out++[x]).length=200:=fun x=>by grind
    have Kp:decide ((out.length+1)*120<=17592186044416)=true:=jM (by omega);refine Ev.sn (zt hi (by omega)) (Ev.sn (ad8 hi hs) ?_);unfold nS.alf;simp only[beq_self_eq_true,iH,Rs.C3,Rs.yf,Kp,jK];refine kF.ite (Q:=RQ Z d) (fun _=>?_) fun _=>?_
    ·refine Ev.sn (ua hi) (Ev.sn (C1 h hi) (Ev.sn (mK h hi) (Ev.sn (B7 h (mS hi)) ?_)));rw[II hi];exact ih _ _ 0 a (mS hi) (hlen _)
    ·refine RQ.G8 (Q:=RQ Z d) (ha i 0 a hi) fun x j e a hj _=>?_
     grind
   refine kF.lp (fun n m=>by simp only[Gi,xh,kC,mB];exact rfl) ?_;rw[ae3];unfold nS.Jc;simp only[show(Z.rd i d 0 a).e=0 from rfl,beq_self_eq_true,jK,bne,iU,jL,Rs.C3,bor,Rs.yf,Rs.bind_assoc];refine Ev.sn (ad8 hi hs) ?_;simp only[beq_self_eq_true,iH];refine kF.ite (Q:=RQ Z d) (fun _=>go) fun _=>?_
   refine Ev.sn (R0 hi) ?_;simp only[beq_self_eq_true,iH];exact kF.ite (Q:=RQ Z d) (fun _=>go) fun _=>kF.P9 (ends out i a hi (by omega))
theorem aFM(h:ny Z)(hn:NpR Z)(hs:Z.sy.length<=100000)(ha:NQ Z d qa (Z.S.app ex ta)):NQ Z d su (Z.S.op ex ta):=by
 intro i e a hi;refine k8.fn (fun n=>by simp only[aio,Fc,kC,mB];exact rfl) ?_;exact k8.yn (F:=fun n q=>qT (jZ n) n q (Z.rd i d e a) []) (aC0 h hn hs ha 200 [] i e a hi rfl)
end
def ae4(l:List Str)(t:List Syntax):List kg:=List.zipWith (fun s t=>{name:=s,t}) l t
theorem anG(l:List Str)(t:Syntax):ae4 l (l.map fun _=>t)=nS.L6 l t:=by
 induction l with
 |nil=>rfl
 |cons x l ih=>simp only[ae4,List.map_cons,List.zipWith_cons_cons]at ih ⊢;rw[ih];rfl
theorem anH{l l':List Str}{t t':List Syntax}(h:l.length=t.length):ae4 (l++l') (t++t')=ae4 l t++ae4 l' t':=by
 grind [ae4]
theorem arR(l:List Str)(hl:l.length<=1000000)(t:Syntax):Ev (fun n=>vP n l t) (l.map fun _=>t):=by
 refine Ev.fn (fun n=>by simp only[vP,kD,Nh,mB];exact rfl) ?_
 have key:∀(q p:Nat),p+q=l.length->kZ (fun n m=>AK n m l (p:Int) t ((l.take p).map fun _=>t)) (l.map fun _=>t):=by
  intro q;induction q with
  |zero=>
   intro p hp;refine kZ.lp (fun n m=>by simp only[PC,AJ,mB];exact rfl) ?_
   grind [kZ.pure]
  |succ q ih=>
   intro p hp;have me:p<l.length:=by omega
   refine kZ.lp (fun n m=>by simp only[PC,AJ,mB];exact rfl) ?_;have hle:((l.take p).map fun _=>t).length=p:=by grind
   rw[jM (by omega)];simp only[jK,hle,jM (show(p+1)*120<=17592186044416 by omega)];rw[kM (by omega),show((l.take p).map fun _=>t)++[t]=(l.take (p+1)).map fun _=>t by grind [iX]];exact ih (p+1) (by omega)
 exact Ev.yn (F:=fun n m=>AK n m l 0 t []) (key l.length 0 (by omega))
theorem anI(kind num:Int)(l:List Str)(t:List Syntax)(h:l.length=t.length)(hl:l.length<=1000000)(body:Syntax)(p:Int):Ev (fun n=>Dr n kind num l t body p) (nS.XA kind num (ae4 l t) body p):=by
 refine Ev.fn (fun n=>by simp only[Dr,kD,Yn,mB];exact rfl) ?_
 have key:∀k,k<=l.length->∀body:Syntax,kZ (fun n m=>NH n m kind num l t p ((k:Int)-1) body) (nS.XA kind num (ae4 (l.take k) (t.take k)) body p):=by
  intro k;induction k with
  |zero=>
   intro hk body;refine kZ.lp (fun n m=>by simp only[ZR,HQ,mB];exact rfl) ?_;rw[jN (by omega)];exact kZ.pure
  |succ k ih=>
   intro hk body;have h1:k<l.length:=by omega
   have h2:k<t.length:=by omega
   refine kZ.lp (fun n m=>by simp only[ZR,HQ,mB];exact rfl) ?_;rw[show((k+1:Nat):Int)-1=(k:Int) by omega,jM (je k)];simp only[jK,nA h1,nA h2,iL];rw[lj (by omega) (by omega)];rw[<-iX h1,<-iX h2,anH (by grind)];show kZ _ (nS.XA kind num (ae4 (l.take k) (t.take k)++[{name:=l[k],t:=t[k]}]) body p)
   grind [apS]
 grind [Ev.yn,List.take_length,lj]
section
variable {Z:Cx}
theorem au3(h:ny Z){d e a:Int}:∀(f q:Nat)(out:List Str),q+f=Z.T.length->out.length<=q->
 kZ (fun n m=>wR n m (q:Int) (Z.rd j d e a) out) ((Z.rd j d e a,()),Z.S.wr f out q,()):=by
 intro f;induction f with
 |zero=>
  intro q out hq ho;refine kZ.lp (fun n m=>by simp only[Ju,wQ,mB];exact rfl) ?_;rw[jN (show ¬ (q:Int)<((Z.rd j d e a).HJ.length:Int) by show ¬ (q:Int)<(Z.T.length:Int);omega)];exact kZ.pure
 |succ f ih=>
  intro q out hq ho;have hlen:=h.len;have hql:q<Z.T.length:=by omega
  have hx:sQ (Z.rd j d e a).HJ (q:Int)=some Z.T[q]:=nA hql;refine kZ.lp (fun n m=>by simp only[Ju,wQ,mB];exact rfl) ?_;rw[jM (show(q:Int)<((Z.rd j d e a).HJ.length:Int) by show(q:Int)<(Z.T.length:Int);omega),hx];simp only[jK,iL,jM (show(out.length+1)*16<=17592186044416 by omega)];unfold nS.wr;have aCI:∀s,Z.S.tX s q=(Z.T[q].kind==2&&Z.T[q].text==s):=fun s=>by unfold nS.tX nS.is;rw[Gp hql]
  have aJV:=ih (q+1) (out++[Z.T[q].text]) (by omega) (by grind);rw[kM (by omega)];unfold nS.G7 nS.simple;rw[aCI,aCI,Gp hql];have aLm:=ZC _ (h.nE _ (iP hql)).2.2;cases h2:Z.T[q].kind==2 with
  |true=>
   grind [kZ.pure]
  |false=>
   simp only[iM,jL,Bool.or_false];cases Z.T[q].kind==0 with
   |false=>exact kZ.pure
   |true=>
    simp only[jK,iH];refine kZ.lQ aLm ?_
    grind [kZ.pure]
theorem aAj(h:ny Z){i:Nat}{d e a:Int}(hi:i<Z.T.length):Ev (fun n=>Dz n (Z.rd j d e a) (i:Int)) ((Z.rd j d e a,()),Z.S.zi i,()):=by
 refine Ev.fn (fun n=>by simp only[Dz,kD,FU,mB];exact rfl) ?_;have hlen:=h.len;have hx:sQ (Z.rd j d e a).HJ (i:Int)=some Z.T[i]:=nA hi;rw[hx];simp only[iL,bne];unfold nS.zi;rw[show Z.S.tX [40] i=(Z.T[i].kind==2&&Z.T[i].text==[40]) by unfold nS.tX nS.is;rw[Gp hi]];cases Z.T[i].kind==2 with
 |false=>exact Ev.pure
 |true=>
  simp only[iU,jL,iH];cases Z.T[i].text==[40]with
  |false=>exact Ev.pure
  |true=>
   simp only[jK];rw[kM (by omega)];exact Ev.yn (F:=fun n m=>wR n m ((i+1:Nat):Int) (Z.rd j d e a) []) (au3 h (Z.T.length-(i+1)) (i+1) [] (by omega) (iK _))
end
section
variable {Z:Cx}
variable {ex ta:Nat->Rs Syntax} {d:Int}
def ako(to:Int):List Syntax->Syntax->Syntax
 |[],o=>o
 |x::l,o=>.mk 6 [] 0 [] [] [x,ako to l o] x.k9 to
theorem anJ(to:Int):∀(l:List Syntax)(x:Syntax)(h:(x::l)≠[]),nS.RT to l x=ako to (x::l).dropLast ((x::l).getLast h)
 |[],x,_=>rfl
 |y::l,x,_=>by
  show Syntax.mk 6 [] 0 [] [] [x,nS.RT to l y] x.k9 to=Syntax.mk 6 [] 0 [] [] [x,ako to (y::l).dropLast ((y::l).getLast (by simp))] x.k9 to;rw[anJ to l y (by simp)]
theorem anK(to:Int):∀(l:List Syntax)(x o:Syntax),ako to (l++[x]) o=ako to l (.mk 6 [] 0 [] [] [x,o] x.k9 to)
 |[],_,_=>rfl
 |y::l,x,o=>by rw[iV,ako,anK to l x o,ako]
theorem aHZ(h:ny Z)(hq:q<Z.T.length)(a0:Syntax)(l:List Syntax)(hl:l.length<=100000):∀(k:Nat),k<=l.length->∀o:Syntax,
 kZ (fun n m=>s9 (jY n) n m ((k:Int)-1) (Z.st q d) a0 l o) (.ok (((Z.st q d,()),()),nS.NS (ako (Z.S.E q) (l.take k) o) a0.k9,())):=by
 intro k;induction k with
 |zero=>
  intro hk o;refine kZ.lp (fun n m=>by simp only[G5,vl,kA,yp];exact rfl) ?_;rw[jN (by omega)];exact kZ.pure
 |succ k ih=>
  intro hk o;have hkl:k<l.length:=by omega
  refine kZ.lp (fun n m=>by simp only[G5,vl,kA,yp];exact rfl) ?_;rw[show((k+1:Nat):Int)-1=(k:Int) by omega,jM (je k)];simp only[jK,nA hkl,iL];refine kZ.lQ (ZB h hq) ?_;rw[lj (by omega) (by omega)]
  grind [anK,iX]
theorem aH0(h:ny Z)(hex:Nx Z d kL ex)(a0 x:Syntax):∀(m:Nat)(out:List Syntax)(i:Nat),i<Z.T.length->m+out.length=199->
 kF (fun n q=>vn (jY n) n q (Z.st i d) a0 (x::out)) (RP Z d ((Z.S.ald ex m out i).bind fun l k=>(Z.S.take [41] k).bind fun _ q=>.ok (nS.NS (nS.RT (Z.S.E q) l x) a0.k9) q)):=by
 intro m
 have uA:∀(out:List Syntax)(i:Nat),i<Z.T.length->out.length<=199->kF (fun n _=>(mQ n [41] (Z.st i d)).bind fun y=>EZ y (fun y=>(sQ (x::out) (IntKind.i64.wrap (((x::out).length:Int)-1))).bind fun x_1=>s9 (jY n) n n (IntKind.i64.wrap (((x::out).length:Int)-2)) y.fst.fst.fst a0 (x::out) x_1) fun y=>some (PR.pn (((y.fst.fst.fst,()),()),y.snd.fst,())))
  (RP Z d ((Z.S.take [41] i).bind fun _ q=>.ok (nS.NS (nS.RT (Z.S.E q) out x) a0.k9) q)):=by
  intro out i hi ho;refine kF.P9 ?_;refine RU.step (xa h hi [41]) fun q _ hq=>?_
  have hlen:(x::out).length=out.length+1:=rfl;have e1:IntKind.i64.wrap (((x::out).length:Int)-1)=(out.length:Int):=by grind [lj]
  have e2:IntKind.i64.wrap (((x::out).length:Int)-2)=((out.length:Nat):Int)-1:=by grind [lj]
  have me:out.length<(x::out).length:=by omega
  rw[e1,e2,nA me];simp only[iL];refine Ev.Uu (Ev.yn (F:=fun n m=>s9 (jY n) n m ((out.length:Int)-1) (Z.st q d) a0 (x::out) (x::out)[out.length]) (aHZ h hq a0 (x::out) (by omega) out.length (by omega) _)) ⟨hq,?_⟩
  grind [anJ,jt]
 induction m with
 |zero=>
  intro out i hi hm;refine kF.lp (fun n m=>by simp only[G6,vm,kA,yp];exact rfl) ?_;refine Ev.sn (tf h hi [44]) ?_;unfold nS.ald;cases hs:Z.S.tX [44] i with
  |true=>
   refine Ev.sn (Bd h (mS hi) (k:=((x::out).length:Int)) (by rw[iR];omega)) ?_;exact kF.pure ⟨_,rfl⟩
  |false=>exact uA out i hi (by omega)
 |succ m ih=>
  intro out i hi hm;refine kF.lp (fun n m=>by simp only[G6,vm,kA,yp];exact rfl) ?_;refine Ev.sn (tf h hi [44]) ?_;unfold nS.ald;cases hs:Z.S.tX [44] i with
  |true=>
   simp only[jK];refine Ev.sn (B5 (mS hi) (k:=((x::out).length:Int)) (by rw[iR];omega)) ?_;rw[Rs.bind_assoc];refine RP.G8 (hex _ (mS hi)) (fun y j _ hj=>?_)
   grind
  |false=>exact uA out i hi (by omega)
theorem axy(h:ny Z)(k:OY Z.S)(hex:Nx Z d kL ex)(o i:Nat)(hi:i<Z.T.length):k8 (fun n=>p9 n (.mk 0 [] 0 [] [] [] (Z.S.F o) 0) (Z.st i d)) (RP Z d (Z.S.VM ex o i)):=by
 refine k8.fn (fun n=>by simp only[Zo,zh,kA,Al];exact rfl) ?_;unfold nS.VM;refine RP.step (hex i hi) fun x j _ hj=>?_
 refine Ev.to (tf h hj [41]) ?_;cases h1:Z.S.tX [41] j with
 |true=>exact k8.pure ⟨mS hj,rfl⟩
 |false=>
  simp only[jL];refine Ev.to (tf h hj [58]) ?_;cases h2:Z.S.tX [58] j with
  |true=>
   simp only[jK];refine RP.step (hex _ (mS hj)) fun t k _ hk=>?_
   refine RU.step (xa h hk [41]) fun q _ hq=>?_
   exact Ev.to (ZB h hq) (k8.pure ⟨hq,rfl⟩)
  |false=>
   simp only[jL];refine Ev.to (Hy hj [44]) ?_;refine k8.bind (Gq h hj _) fun r hr=>?_
   cases h3:Z.S.tX [44] j with
   |true=>
    rw[h3]at hr;obtain⟨_,rfl⟩:=hr;exact k8.yn (F:=fun n q=>vn (jY n) n q (Z.st j d) (.mk 0 [] 0 [] [] [] (Z.S.F o) 0) [x]) (aH0 h hex _ x 199 [] j hj rfl)
   |false=>
    rw[h3]at hr;obtain⟨p,rfl⟩:=hr;exact k8.pure ⟨_,rfl⟩
def aAk(Z:Cx):Prop:=∀l:List Syntax,l≠[]->l.length<=200->Ev (fun n=>wi n Z.tb l) (Z.np l)/\0<=(Z.np l).2.1
theorem au4 (h:ny Z) (hn:aAk Z) {i:Nat} (hi:i<Z.T.length) (l:List Syntax) (hl:l.length<=200):
 k8 (fun n=>(mP n (decide (0<(l.length:Int))) (Z.st i d)).bind fun x=>EZ x (fun x=>
  bif (l.length:Int)==1 then(sQ l 0).bind fun x_1=>bif x_1.kind !=17 then(sQ l 0).bind fun x_2=>some (PR.ok (((x.fst.fst.fst,()),()),x_2,()))
   else(wi n x.fst.fst.fst.rF l).bind fun x_2=>bif x_2.snd.snd !=0 then bif decide (x_2.snd.fst<(l.length:Int))then(sQ l x_2.snd.fst).bind fun x_3=>some (PR.pn (((x.fst.fst.fst,()),()),{e:=x_2.snd.snd,nE:=x_3.k9},()))
    else bif x_2.snd.snd !=0 then(nq n x_2.snd.snd x.fst.fst.fst).bind fun x=>EZ x (fun x=>some (PR.ok (((x.fst.fst.fst,()),()),x_2.fst,()))) fun y=>some (PR.pn (((y.fst.fst.fst,()),()),y.snd.fst,()))
    else some (PR.ok (((x.fst.fst.fst,()),()),x_2.fst,()))
    else bif x_2.snd.snd !=0 then(nq n x_2.snd.snd x.fst.fst.fst).bind fun x=>EZ x (fun x=>some (PR.ok (((x.fst.fst.fst,()),()),x_2.fst,()))) fun y=>some (PR.pn (((y.fst.fst.fst,()),()),y.snd.fst,()))
    else some (PR.ok (((x.fst.fst.fst,()),()),x_2.fst,()))
  else (wi n x.fst.fst.fst.rF l).bind fun x_1=>bif x_1.snd.snd !=0 then bif decide (x_1.snd.fst<(l.length:Int)) then (sQ l x_1.snd.fst).bind fun x_2=>some (PR.pn (((x.fst.fst.fst,()),()),{e:=x_1.snd.snd,nE:=x_2.k9},()))
        else bif x_1.snd.snd !=0 then(nq n x_1.snd.snd x.fst.fst.fst).bind fun x=>EZ x (fun x=>some (PR.ok (((x.fst.fst.fst,()),()),x_1.fst,()))) fun y=>some (PR.pn (((y.fst.fst.fst,()),()),y.snd.fst,()))
        else some (PR.ok (((x.fst.fst.fst,()),()),x_1.fst,()))
   else bif x_1.snd.snd !=0 then(nq n x_1.snd.snd x.fst.fst.fst).bind fun x=>EZ x (fun x=>some (PR.ok (((x.fst.fst.fst,()),()),x_1.fst,()))) fun y=>some (PR.pn (((y.fst.fst.fst,()),()),y.snd.fst,()))
   else some (PR.ok (((x.fst.fst.fst,()),()),x_1.fst,()))) fun y=>some (PR.pn (((y.fst.fst.fst,()),()),y.snd.fst,()))) (RP Z d (Z.S.aiC l i)):=by
 match l,hl with
 |[],_=>exact k8.bind (Gq h hi _) fun r hr=>by obtain⟨p,rfl⟩:=hr;exact k8.pure ⟨_,rfl⟩
 |x::r,hl=>
  obtain⟨XN,anW⟩:=hn (x::r) (by simp) hl;have e0:decide (0<((x::r).length:Int))=true:=jM (by rw[iR];omega);rw[e0];refine k8.bind (Gq h hi true) fun r' hr=>?_
  obtain⟨_,rfl⟩:=hr;simp only[EZ];unfold nS.aiC
  have np:k8 (fun n=>(wi n (Z.st i d).rF (x::r)).bind fun x_1=>bif x_1.snd.snd !=0 then bif decide (x_1.snd.fst<((x::r).length:Int))then(sQ (x::r) x_1.snd.fst).bind fun x_2=>some (PR.pn (((Z.st i d,()),()),{e:=x_1.snd.snd,nE:=x_2.k9},()))
         else bif x_1.snd.snd !=0 then(nq n x_1.snd.snd (Z.st i d)).bind fun x=>EZ x (fun x=>some (PR.ok (((x.fst.fst.fst,()),()),x_1.fst,()))) fun y=>some (PR.pn (((y.fst.fst.fst,()),()),y.snd.fst,()))
         else some (PR.ok (((Z.st i d,()),()),x_1.fst,()))
        else bif x_1.snd.snd !=0 then(nq n x_1.snd.snd (Z.st i d)).bind fun x=>EZ x (fun x=>some (PR.ok (((x.fst.fst.fst,()),()),x_1.fst,()))) fun y=>some (PR.pn (((y.fst.fst.fst,()),()),y.snd.fst,()))
        else some (PR.ok (((Z.st i d,()),()),x_1.fst,()))) (RP Z d (bif (Z.S.np (x::r)).2.2==0 then .ok (Z.S.np (x::r)).1 i else match (x::r)[(Z.S.np (x::r)).2.1.toNat]? with|some y=>.er (Z.S.np (x::r)).2.2 y.k9|none=>.er (Z.S.np (x::r)).2.2 (Z.S.F i))):=by
   refine Ev.to XN ?_;show k8 _ (RP Z d (bif (Z.np (x::r)).2.2==0 then .ok (Z.np (x::r)).1 i else match (x::r)[(Z.np (x::r)).2.1.toNat]? with|some y=>.er (Z.np (x::r)).2.2 y.k9|none=>.er (Z.np (x::r)).2.2 (Z.S.F i)));revert anW;generalize Z.np (x::r)=p;intro anW;obtain⟨y,nE,e⟩:=p;simp only at anW ⊢;obtain⟨k,rfl⟩:∃k:Nat,nE=(k:Int):=⟨nE.toNat,by omega⟩;cases he:e==0 with
   |true=>
    simp only[bne,he,iU,jL,jK];exact k8.pure ⟨hi,rfl⟩
   |false=>
    simp only[bne,he,iQ,jL,jK,iW];by_cases hk:k<(x::r).length
    ·rw[jM (show(k:Int)<((x::r).length:Int) by omega),nA hk,jo hk];exact k8.pure ⟨_,rfl⟩
    ·rw[jN (show ¬ (k:Int)<((x::r).length:Int) by omega),ju (by omega)];exact Ev.to (RV h hi e) (k8.pure ⟨_,rfl⟩)
  cases r with
  |cons y r=>
   have e1:(((x::y::r).length:Int)==1)=false:=by grind
   rw[e1];exact np
  |nil=>
   have e1:((([x]:List Syntax).length:Int)==1)=true:=rfl;have e2:sQ [x] 0=some x:=rfl;rw[e1,e2];simp only[jK,iL,List.isEmpty_nil,iH,bne];cases x.kind==17 with
   |true=>exact np
   |false=>exact k8.pure ⟨hi,rfl⟩
theorem axz(h:ny Z)(hc:∀s,Ev (fun n=>nZ n Z.sy s) (Z.sy.contains s))(hn:aAk Z)(ha:Nx Z d pN (Z.S.alf ex ta)):∀(m:Nat)(out:List Syntax)(i:Nat),i<Z.T.length->m+out.length=200->
 kF (fun n q=>wD (jY n) n q (Z.st i d) out) (RP Z d ((Z.S.Jc ex ta m out i).bind Z.S.aiC)):=by
 intro m;induction m with
 |zero=>
  intro out i hi hm;have rm:kF (fun n (_:Nat)=>(lN n (out.length:Int) (Z.st i d))) (· =.pn (((Z.st i d,()),()),{e:=7,nE:=Z.S.F i},())):=kF.P9 (Ev.Uu (Bd h hi (by omega)) rfl);refine kF.lp (fun n m=>by simp only[MW,yI,kA,yp];exact rfl) ?_;refine Ev.sn (anA hc hi) ?_;unfold nS.Jc;cases hs:Z.S.adA i with
  |true=>exact Ev.sn (Bd h hi (k:=(out.length:Int)) (by omega)) (kF.pure ⟨_,rfl⟩)
  |false=>
   simp only[jL,jf];refine Ev.sn (ad6 hi) ?_;cases hb:Z.S.Pn i with
   |true=>exact Ev.sn (Bd h hi (k:=(out.length:Int)) (by omega)) (kF.pure ⟨_,rfl⟩)
   |false=>exact kF.P9 (au4 h hn hi out (by omega))
 |succ m ih=>
  intro out i hi hm
  have go:kF (fun n q=>(lN n (out.length:Int) (Z.st i d)).bind fun x=>EZ x (fun x=>(pN n x.fst.fst.fst).bind fun x=>EZ x (fun x=>bif decide ((out.length+1)*120<=17592186044416)then wD (jY n) n q x.fst.fst.fst (out++[x.snd.fst])else none)
   fun y=>some (PR.pn (((y.fst.fst.fst,()),()),y.snd.fst,()))) fun y=>some (PR.pn (((y.fst.fst.fst,()),()),y.snd.fst,()))) (RP Z d (((Z.S.alf ex ta i).bind fun x j=>Z.S.Jc ex ta m (out++[x]) j).bind Z.S.aiC)):=by
   refine Ev.sn (B5 hi (k:=(out.length:Int)) (by omega)) ?_;rw[Rs.bind_assoc];refine RP.G8 (ha i hi) fun x j _ hj=>?_
   grind
  refine kF.lp (fun n m=>by simp only[MW,yI,kA,yp];exact rfl) ?_;refine Ev.sn (anA hc hi) ?_;unfold nS.Jc;cases hs:Z.S.adA i with
  |true=>exact go
  |false=>
   simp only[jL,jf];refine Ev.sn (ad6 hi) ?_;cases hb:Z.S.Pn i with
   |true=>exact go
   |false=>exact kF.P9 (au4 h hn hi out (by omega))
theorem aH1(h:ny Z)(hc:∀s,Ev (fun n=>nZ n Z.sy s) (Z.sy.contains s))(hn:aAk Z)(ha:Nx Z d pN (Z.S.alf ex ta)):Nx Z d rC (Z.S.op ex ta):=by
 intro i hi;refine k8.fn (fun n=>by simp only[agO,D1,kA,Al];exact rfl) ?_;exact k8.yn (F:=fun n q=>wD (jY n) n q (Z.st i d) []) (axz h hc hn ha 200 [] i hi rfl)
end
section
variable {Z:Cx}
variable {ex ta:Nat->Rs Syntax} {d:Int}
def aJ3(S:nS)(ex:Nat->Rs Syntax)(sh:Str)(l:List Str)(i:Nat):Rs (List kg):=(S.take [58] i).bind fun _ i=>(ex i).bind fun t i=>(S.take sh i).bind fun _ i=>.ok (nS.L6 l t) i
theorem Rg.uA(h:Rg x):auJ x:=by
 induction h with
 |mk h1 h2 h3 h4 h5 h6 h7 h8 ih=>exact .mk h1 h2 h3 h4 ih
theorem alz(h:ny Z)(hx:L7 Z.S ex)(hex:Nx Z d kL ex)(sh:Str){l:List Str}(hl:l.length<=200){i:Nat}(hi:i<Z.T.length):
 k8 (fun n=>(mQ n [58] (Z.st i d)).bind fun x=>EZ x (fun x=>(kL n x.fst.fst.fst).bind fun x=>EZ x (fun x=>(mQ n sh x.fst.fst.fst).bind fun x_1=>EZ x_1 (fun x_2=>(GF n l x.snd.fst).bind fun x=>some (PR.ok (((x_2.fst.fst.fst,()),()),x,())))
    fun y=>some (PR.pn (((y.fst.fst.fst,()),()),y.snd.fst,()))) fun y=>some (PR.pn (((y.fst.fst.fst,()),()),y.snd.fst,()))) fun y=>some (PR.pn (((y.fst.fst.fst,()),()),y.snd.fst,()))) (RP Z d (aJ3 Z.S ex sh l i)):=by
 refine RU.step (xa h hi [58]) fun j _ hj=>?_
 refine RP.step (hex j hj) fun t k hq hk=>?_
 have ht:=hx j hj;rw[hq]at ht;refine RU.step (xa h hk sh) fun q _ hq=>?_
 exact Ev.to (auN l (by omega) ht.2.2.1.uA) (k8.pure ⟨hq,rfl⟩)
theorem aFN(h:ny Z)(hx:L7 Z.S ex)(hex:Nx Z d kL ex){op:Str}(ho:(op==[91])=false)(sh:Str):∀(m:Nat)(out:List Str)(i:Nat),i<Z.T.length->m+out.length=200->
 kF (fun n q=>yc (jY n) n q op sh (Z.st i d) out) (RP Z d ((Z.S.OX m out i).bind fun l i=>aJ3 Z.S ex sh l i)):=by
 intro m;induction m with
 |zero=>
  intro out i hi hm;refine kF.lp (fun n m=>by simp only[G4,vh,kA];exact rfl) ?_;simp only[ho,jL];refine Ev.sn (RW h hi) ?_;unfold nS.OX;cases hs:Z.S.G7 i with
  |true=>exact Ev.sn (Bd h hi (k:=(out.length:Int)) (by omega)) (kF.pure ⟨_,rfl⟩)
  |false=>exact kF.P9 (alz h hx hex sh (by omega) hi)
 |succ m ih=>
  intro out i hi hm;refine kF.lp (fun n m=>by simp only[G4,vh,kA];exact rfl) ?_;simp only[ho,jL];refine Ev.sn (RW h hi) ?_;unfold nS.OX;cases hs:Z.S.G7 i with
  |true=>
   simp only[jK];refine Ev.sn (B5 hi (k:=(out.length:Int)) (by omega)) ?_;refine Ev.sn (xA h hi) ?_
   grind [mS]
  |false=>exact kF.P9 (alz h hx hex sh (by omega) hi)
theorem anL(h:ny Z)(hx:L7 Z.S ex)(hex:Nx Z d kL ex)(op sh:Str){i:Nat}(hi:i<Z.T.length):k8 (fun n=>n9 n op sh (Z.st i d)) (RP Z d (Z.S.BB ex op sh i)):=by
 refine k8.fn (fun n=>by simp only[Zn,zg,kA];exact rfl) ?_;unfold nS.BB;refine RU.step (xa h hi op) fun j _ hj=>?_
 cases ho:op==[91]with
 |true=>
  simp only[jK];rw[Rs.bind_assoc];refine RP.step (ad5 h hj) fun s k _ hk=>?_
  refine k8.yn (F:=fun n q=>vi (jY n) n q op sh [s] (Z.st k d)) ?_;refine kF.lp (fun n m=>by simp only[vi,xz,kA];exact rfl) ?_;simp only[ho,jK];exact kF.P9 (alz h hx hex sh (show [s].length<=200 by simp) hk)
 |false=>
  simp only[jL];unfold nS.vars;rw[Rs.bind_assoc];refine RP.step (ad5 h hj) fun s k _ hk=>?_
  refine k8.yn (F:=fun n q=>vi (jY n) n q op sh [s] (Z.st k d)) ?_;refine kF.lp (fun n m=>by simp only[vi,xz,kA];exact rfl) ?_;simp only[ho,jL];refine Ev.sn (RW h hk) ?_;unfold nS.OX;cases hs:Z.S.G7 k with
  |true=>
   simp only[jK];refine Ev.sn (B5 hk (k:=1) (by omega)) ?_;refine Ev.sn (xA h hk) ?_;exact aFN h hx hex ho sh 198 _ _ (mS hk) rfl
  |false=>exact kF.P9 (alz h hx hex sh (show [s].length<=200 by simp) hk)
theorem au5(h:ny Z)(hex:Nx Z d kL ex)(k n:Int)(o:Nat)(hl:l.length<=1000000)(sep:Str){i:Nat}(hi:i<Z.T.length):
 k8 (fun f=>pJ f (.mk k [] n [] [] [] (Z.S.F o) 0) l sep (Z.st i d)) (RP Z d (Z.S.IG ex k n o l sep i)):=by
 refine k8.fn (fun n=>by simp only[Xp,ye,kA,Al];exact rfl) ?_;unfold nS.IG;refine RU.step (xa h hi sep) fun j _ hj=>?_
 refine RP.step (hex j hj) fun x q _ hq=>?_
 exact Ev.to (arK _ l hl x) (k8.pure ⟨hq,rfl⟩)
def aH2(S:nS)(ex:Nat->Rs Syntax)(f:Int)(l:List kg)(j:Nat):Rs Syntax:=(S.take [61,62] j).bind fun _ j=>(ex j).bind fun x k=>.ok (nS.XA 3 0 l x f) k
theorem au6(h:ny Z)(hex:Nx Z d kL ex)(f:Int)(hl:l.length<=1000000){i:Nat}(hi:i<Z.T.length):
 k8 (fun n=>(mQ n [61,62] (Z.st i d)).bind fun x=>EZ x (fun x=>(kL n x.fst.fst.fst).bind fun x=>EZ x (fun x=>(Da n (Syntax.mk 3 [] 0 [] [] [] f 0) l x.snd.fst).bind fun x_1=>some (PR.ok (((x.fst.fst.fst,()),()),x_1,())))
    fun y=>some (PR.pn (((y.fst.fst.fst,()),()),y.snd.fst,()))) fun y=>some (PR.pn (((y.fst.fst.fst,()),()),y.snd.fst,()))) (RP Z d (aH2 Z.S ex f l i)):=by
 refine RU.step (xa h hi _) fun j _ hj=>?_
 refine RP.step (hex j hj) fun x q _ hq=>?_
 exact Ev.to (arK _ l hl x) (k8.pure ⟨hq,rfl⟩)
theorem aC1 (h:ny Z) (k:OY Z.S) (p:Pos Z.S) (hx:L7 Z.S ex) (hex:Nx Z d kL ex) (f:Int): ∀ (m:Nat) (out:List kg) (i:Nat),i<Z.T.length->m<=200->(out=[]↔m=200)->out.length<=200*(200-m)->
 kF (fun n q=>tz (jY n) n q f ((200-m:Nat):Int) (Z.st i d) out) (RP Z d ((Z.S.ZA ex m out i).bind (aH2 Z.S ex f))):=by
 intro m;induction m with
 |zero=>
  intro out i hi _ ho hl;refine kF.lp (fun n m=>by simp only[LW,xM,kA,yp];exact rfl) ?_;rw[show(((200-0:Nat):Int)==0)=false by decide];simp only[jL];refine Ev.sn (Hy hi [61,62]) ?_;unfold nS.ZA;cases hs:Z.S.tX [61,62] i with
  |true=>exact kF.P9 (au6 h hex f (by omega) hi)
  |false=>exact Ev.sn (Bd h hi (k:=((200-0:Nat):Int)) (by decide)) (kF.pure ⟨_,rfl⟩)
 |succ m ih=>
  intro out i hi hm ho hl
  have go:kF (fun n q=>(lN n ((200-(m+1):Nat):Int) (Z.st i d)).bind fun x=>EZ x (fun x=>(nP n x.fst.fst.fst [40]).bind fun x_1=>bif x_1 then
        (n9 n [40] [41] x.fst.fst.fst).bind fun x=>EZ x (fun x=>bif decide ((out.length+x.snd.fst.length)*136<=17592186044416)then tz (jY n) n q f (IntKind.i64.wrap (((200-(m+1):Nat):Int)+1)) x.fst.fst.fst (out++x.snd.fst)else none) fun y=>some (PR.pn (((y.fst.fst.fst,()),()),y.snd.fst,()))
   else(pV n x.fst.fst.fst).bind fun x=>EZ x (fun x=>(xe n x.fst.fst.fst).bind fun x_2=>bif decide ((out.length+1)*136<=17592186044416)then tz (jY n) n q f (IntKind.i64.wrap (((200-(m+1):Nat):Int)+1)) x_2.fst.fst (out++[{name:=x.snd.fst,t:=x_2.snd.fst}])else none)
    fun y=>some (PR.pn (((y.fst.fst.fst,()),()),y.snd.fst,()))) fun y=>some (PR.pn (((y.fst.fst.fst,()),()),y.snd.fst,())))
   (RP Z d ((bif Z.S.tX [40] i then(Z.S.BB ex [40] [41] i).bind fun l j=>Z.S.ZA ex m (out++l) j else(Z.S.var i).bind fun s j=>Z.S.ZA ex m (out++[{name:=s,t:=Z.S.Cj j}]) j).bind (aH2 Z.S ex f))):=by
   refine Ev.sn (B5 hi (k:=((200-(m+1):Nat):Int)) (by omega)) ?_;refine Ev.sn (Hy hi [40]) ?_;rw[show IntKind.i64.wrap (((200-(m+1):Nat):Int)+1)=((200-m:Nat):Int) by grind [lj]];cases hs:Z.S.tX [40] i with
   |true=>
    simp only[jK];rw[Rs.bind_assoc];refine RP.G8 (anL h hx hex [40] [41] hi) fun l j hq hj=>?_
    have hb:=k.BB p hx (op:=[40]) (sh:=[41]) (i:=i) hi;rw[hq]at hb;obtain⟨b1,b2,_⟩:=hb;simp only[jM (show(out.length+l.length)*136<=17592186044416 by omega),jK];refine ih _ _ hj (by omega) ⟨fun e=>?_,fun e=>by omega⟩ (by rw[List.length_append];omega)
    simp_all
   |false=>
    simp only[jL];rw[Rs.bind_assoc];refine RP.G8 (ad5 h hi) fun s j hq hj=>?_
    refine Ev.sn (aCH h hj) ?_;simp only[jM (show(out.length+1)*136<=17592186044416 by omega),jK];exact ih _ _ hj (by omega) ⟨fun e=>by simp at e,fun e=>by omega⟩ (by grind)
  refine kF.lp (fun n m=>by simp only[LW,xM,kA,yp];exact rfl) ?_;unfold nS.ZA;by_cases h0:m+1=200
  ·grind
  ·have e1:(((200-(m+1):Nat):Int)==0)=false:=by rw[beq_eq_false_iff_ne];omega
   have e2:out.isEmpty=false:=by
    grind
   rw[e1,e2];simp only[jL,iQ,jm];refine Ev.sn (Hy hi [61,62]) ?_;cases hs:Z.S.tX [61,62] i with
   |true=>exact kF.P9 (au6 h hex f (by omega) hi)
   |false=>exact go
theorem aFO(h:ny Z)(k:OY Z.S)(p:Pos Z.S)(hx:L7 Z.S ex)(hex:Nx Z d kL ex){i:Nat}(hi:i<Z.T.length):k8 (fun n=>sR n (Z.S.F i) (Z.st i d)) (RP Z d (Z.S.axi ex i)):=by
 refine k8.fn (fun n=>by simp only[aeW,B1,kA,Al];exact rfl) ?_;refine Ev.to (xA h hi) ?_;exact k8.yn (F:=fun n q=>tz (jY n) n q (Z.S.F i) 0 (Z.st (Z.S.nx i) d) []) (aC1 h k p hx hex (Z.S.F i) 200 [] _ (mS hi) (iN _) ⟨fun _=>rfl,fun _=>rfl⟩ (iK _))
theorem aFP(h:ny Z)(hex:Nx Z d kL ex){i:Nat}(hi:i<Z.T.length):k8 (fun n=>sS n (Z.S.F i) (Z.st i d)) (RP Z d (Z.S.arH ex i)):=by
 refine k8.fn (fun n=>by simp only[aeX,B3,kA,Al];exact rfl) ?_;unfold nS.arH;refine Ev.to (xA h hi) ?_;refine RP.step (ad5 h (mS hi)) fun s j _ hj=>?_
 refine Ev.to (aCH h hj) ?_;refine Ev.to (tf h hj [58]) ?_;cases hs:Z.S.tX [58] j with
 |true=>
  simp only[jK];refine RP.step (hex _ (mS hj)) fun t k _ hk=>?_
  refine RU.step (xa h hk _) fun a _ ha=>?_
  refine RP.step (hex _ ha) fun v b _ hb=>?_
  refine RU.step (xa h hb _) fun c _ hc=>?_
  exact RP.step (hex _ hc) fun y r _ hr=>k8.pure ⟨hr,rfl⟩
 |false=>
  simp only[jL,Rs.yf];refine RU.step (xa h hj _) fun a _ ha=>?_
  refine RP.step (hex _ ha) fun v b _ hb=>?_
  refine RU.step (xa h hb _) fun c _ hc=>?_
  exact RP.step (hex _ hc) fun y r _ hr=>k8.pure ⟨hr,rfl⟩
end
section
variable {Z:Cx}
variable {ex ta:Nat->Rs Syntax} {d:Int}
theorem aC2{S:nS}:∀(f:Nat)(out:List Str)(i:Nat),(S.wr f out i).length<=out.length+f
 |0,out,i=>iK _
 |f+1,out,i=>by
  unfold nS.wr;cases S.tX [58] i with
  |true=>exact Nat.le_add_right _ _
  |false=>
   cases S.G7 i with
   |false=>exact iK _
   |true=>
    have:=aC2 (S:=S) f (out++[(S.K i).2]) (i+1)
    grind
theorem akp{S:nS}(i:Nat):(S.zi i).length<=S.len:=by
 grind [nS.zi,aC2]
theorem aAl(h:ny Z)(k:OY Z.S)(p:Pos Z.S)(q:aiF Z.S)(hx:L7 Z.S ex)(ht:L7 Z.S ta)(hex:Nx Z d kL ex)(ho:Nx Z d rC (Z.S.op ex ta)){i:Nat}(hi:i<Z.T.length):
 k8 (fun n=>rn n (Z.S.F i) (Z.st i d)) (RP Z d (Z.S.anv ex ta i)):=by
 have hlen:=h.len;refine k8.fn (fun n=>by simp only[aa6,Af,kA,Al];exact rfl) ?_;unfold nS.anv;refine RP.step (ho i hi) fun x j hq hj=>?_
 have Fq:=k.op p q hlen hx ht i hi;rw[hq]at Fq;obtain⟨_,_,hr,_,_⟩:=Fq;refine Ev.to (tf h hj [45,62]) ?_;cases hs:Z.S.tX [45,62] j with
 |false=>exact k8.pure ⟨hj,rfl⟩
 |true=>
  simp only[jK];have hj':=mS (Z:=Z) hj;refine Ev.to (axm h hi hj') ?_
  have uA:∀l:List kg,l.length<=1000000->k8 (fun n=>(kL n (Z.st (Z.S.nx j) d)).bind fun x_3=>EZ x_3 (fun x_4=>(Da n (Syntax.mk 4 [] 0 [] [] [] x.k9 0) l x_4.snd.fst).bind fun x=>some (PR.ok (((x_4.fst.fst.fst,()),()),x,()))) fun y=>some (PR.pn (((y.fst.fst.fst,()),()),y.snd.fst,())))
   (RP Z d ((ex (Z.S.nx j)).bind fun b k=>.ok (nS.XA 4 0 l b x.k9) k)):=fun l hl=>
   RP.step (hex _ hj') fun b q _ hq=>Ev.to (arK _ l hl b) (k8.pure ⟨hq,rfl⟩)
  have hw:=akp (S:=Z.S) i;have hwl:Z.S.len=Z.T.length:=rfl
  have e0:decide (0<((Z.S.zi i).length:Int))= !(Z.S.zi i).isEmpty:=by
   cases Z.S.zi i with
   |nil=>rfl
   |cons a b=>grind
  cases h13:x.kind==13 with
  |false=>simp_all
  |true=>
   cases hf:x.k9==Z.S.F i with
   |false=>simp_all
   |true=>
    simp only[jK,iH,e0];cases hn:(Z.S.zi i).isEmpty with
    |true=>simp_all
    |false=>
     have h2:=hr.aCJ (beq_iff_eq.1 h13);have hl1:1<x.vE.length:=by omega
     have e1:sQ x.vE 1=some x.vE[1]:=nA (i:=1) hl1;have e2:x.vE.getD 1 Zz=x.vE[1]:=by grind
     simp only[iQ,jK,e1,iL,e2];refine Ev.to (auN _ (by omega) (hr.vE _ (iP hl1)).1.uA) ?_;exact uA _ (by rw[ajF];omega)
theorem axA(p:jU):Ev (fun n=>ol n p) (((),({ul:=p.ul,rF:=p.rF,oN:=p.oN,depth:=IntKind.i64.wrap (p.depth-1)},()),()),()):=by
 refine Ev.fn (fun n=>by simp only[ol,kD,Aq,mB];exact rfl) ?_;exact Ev.pure
theorem ayD(hd:0<=d/\d<200){r:Rs Syntax}{F:Nat->Option (PR (((jU×Unit)×Unit)×(Syntax×Unit)) (((jU×Unit)×Unit)×(kq×Unit)))}(hF:k8 F (RP Z (d+1) r)):
 k8 (fun n=>(F n).bind fun x=>EZ x (fun x=>(ol n x.fst.fst.fst).bind fun x_3=>some (PR.ok (((x_3.fst.snd.fst.fst,()),()),x.snd.fst,()))) fun y=>(ol n y.fst.fst.fst).bind fun x=>some (PR.pn (((x.fst.snd.fst.fst,()),()),y.snd.fst,()))) (RP Z d r):=by
 refine k8.bind hF fun x hx=>?_
 cases r with
 |ok v j=>
  obtain⟨hj,rfl⟩:=hx;refine Ev.to (axA _) ?_;rw[stU hd];exact k8.pure ⟨hj,rfl⟩
 |er e a=>
  obtain⟨p,rfl⟩:=hx;exact Ev.to (axA _) (k8.pure ⟨_,rfl⟩)
theorem aC3(h:ny Z)(k:OY Z.S)(p:Pos Z.S)(q:aiF Z.S)(hd:0<=d/\d<200)(hx:L7 Z.S ex)(ht:L7 Z.S ta)(hex:Nx Z (d+1) kL ex)(ho:Nx Z (d+1) rC (Z.S.op ex ta)):Nx Z d kL (Z.S.afZ ex ta):=by
 intro i hi;refine k8.fn (fun n=>by simp only[OT,xL,kA,Al];exact rfl) ?_;refine Ev.to (B5 hi (k:=d) hd.2) ?_;simp only[EZ,stD hd];refine Ev.to (ad4 h hi) ?_;refine Ev.to (aiD hi 3 [102,117,110]) ?_;unfold nS.afZ nS.key
 have prod:∀(o:Nat)(a b s:Str)(kd n:Int),o<Z.T.length->k8 (fun f=>(n9 f a b (Z.st o (d+1))).bind fun x=>EZ x (fun x=>(pJ f (Syntax.mk kd [] n [] [] [] (Z.S.F i) 0) x.snd.fst s x.fst.fst.fst).bind fun x=>EZ x (fun x=>(ol f x.fst.fst.fst).bind fun x_5=>some (PR.ok (((x_5.fst.snd.fst.fst,()),()),x.snd.fst,())))
       fun y=>(ol f y.fst.fst.fst).bind fun x=>some (PR.pn (((x.fst.snd.fst.fst,()),()),y.snd.fst,()))) fun y=>(ol f y.fst.fst.fst).bind fun x=>some (PR.pn (((x.fst.snd.fst.fst,()),()),y.snd.fst,()))) (RP Z d ((Z.S.BB ex a b o).bind fun l j=>Z.S.IG ex kd n i l s j)):=by
  intro o a b s kd n me;refine RP.step (anL h hx hex a b me) (fun l j hq hj=>?_) fun p e a _=>Ev.to (axA _) (k8.pure ⟨_,rfl⟩)
  have hb:=k.BB p hx (op:=a) (sh:=b) (i:=o) me;rw[hq]at hb;have hl:l.length<=1000000:=by have:=hb.2.1;omega
  simp_all [ayD,au5]
 cases h1:Z.S.is 3 [102,117,110] i with
 |true=>exact ayD hd (aFO h k p hx hex hi)
 |false=>
  simp only[jL];refine Ev.to (aiD hi 3 [108,101,116]) ?_;cases h2:Z.S.is 3 [108,101,116] i with
  |true=>exact ayD hd (aFP h hex hi)
  |false=>
   simp only[jL];refine Ev.to (aiD hi 3 [83,105,103,109,97]) ?_;cases h3:Z.S.is 3 [83,105,103,109,97] i with
   |true=>exact Ev.to (xA h hi) (prod _ _ _ _ 5 0 (mS hi))
   |false=>
    simp only[jL];refine Ev.to (Hy hi [123]) ?_;cases h4:Z.S.tX [123] i with
    |true=>exact prod _ _ _ _ 4 1 hi
    |false=>
     simp only[jL];refine Ev.to (Hy hi [91]) ?_;cases h5:Z.S.tX [91] i with
     |true=>exact prod _ _ _ _ 4 2 hi
     |false=>exact ayD hd (aAl h k p q hx ht hex ho hi)
theorem aJ4(h:ny Z):Nx Z 200 kL (fun i=>Z.S.abf i):=by
 intro i hi;refine k8.fn (fun n=>by simp only[OT,xL,kA,Al];exact rfl) ?_;exact Ev.to (Bd h hi (k:=200) (by omega)) (k8.pure ⟨_,rfl⟩)
theorem au7(h:ny Z)(k:OY Z.S)(p:Pos Z.S)(q:aiF Z.S)(hc:∀s,Ev (fun n=>nZ n Z.sy s) (Z.sy.contains s))(hn:aAk Z):∀(m:Nat)(d:Int),d+(m:Int)=200->0<=d->Nx Z d kL (Z.S.ayz m)/\Nx Z d lF (Z.S.aHS m)
 |0,d,hd,_=>by
  obtain rfl:d=200:=by omega
  exact⟨aJ4 h,aJY h⟩
 |m+1,d,hd,h0=>by
  obtain⟨h1,h2⟩:=au7 h k p q hc hn m (d+1) (by omega) (by omega);have hb:=k.both p q h.len m;have hd:0<=d/\d<200:=⟨h0,by omega⟩;exact⟨aC3 h k p q hd hb.1 hb.2 h1 (aH1 h hc hn (aCO h hc (aFE h (aCM h (az1 h k h2 (axy h k h1)))))),axp h hd h1 h2⟩
theorem aAm(h:ny Z)(k:OY Z.S)(p:Pos Z.S)(q:aiF Z.S)(hc:∀s,Ev (fun n=>nZ n Z.sy s) (Z.sy.contains s))(hn:aAk Z):k8 (fun n=>(kL n (Z.st 0 0)).bind fun x=>EZ x (fun x=>(xI n x.fst.fst.fst).bind fun x_1=>EZ x_1 (fun x_2=>(xc n x.snd.fst 0 0).bind fun x=>some (x.fst.fst.fst,x.fst.snd.fst.fst,x.fst.snd.snd.fst.fst))
 fun y=>(tE n y.snd.fst x.snd.fst 0 0).bind fun x=>some (x.fst.fst.fst,x.fst.snd.fst.fst,x.fst.snd.snd.fst.fst)) fun y=>(tE n y.snd.fst (Syntax.mk 0 [] 0 [] [] [] 0 0) 0 0).bind fun x=>some (x.fst.fst.fst,x.fst.snd.fst.fst,x.fst.snd.snd.fst.fst))
 (· =match Z.S.whole with|.ok x _=>(x,0,0)|.er e a=>(Zz,a,e)):=by
 have qp:∀(e a:Int)(x:Syntax),Ev (fun n=>(tE n {e:=e,nE:=a} x 0 0).bind fun x=>some (x.fst.fst.fst,x.fst.snd.fst.fst,x.fst.snd.snd.fst.fst)) (Zz,a,e):=by
  intro e a x;refine Ev.bind (x:=(((Zz,()),(a,()),(e,()),()),())) ?_ Ev.pure;refine Ev.fn (fun n=>by simp only[tE,kD,Dt,mB];exact rfl) ?_;refine Ev.bind (x:=((),{e:=e,nE:=a},())) ?_ Ev.pure;refine Ev.fn (fun n=>by simp only[NE,kD,Iy,mC];exact rfl) ?_;exact Ev.pure
 have qr:∀x:Syntax,Ev (fun n=>(xc n x 0 0).bind fun x=>some (x.fst.fst.fst,x.fst.snd.fst.fst,x.fst.snd.snd.fst.fst)) (x,0,0):=by
  intro x;refine Ev.bind (x:=(((x,()),(0,()),(0,()),()),())) ?_ Ev.pure;refine Ev.fn (fun n=>by simp only[xc,kD,IU,mB];exact rfl) ?_;exact Ev.pure
 refine RP.step (Q:=fun s r=>r=match s with|.ok x _=>(x,0,0)|.er e a=>(Zz,a,e)) ((au7 h k p q hc hn 200 0 (by omega) (by omega)).1 0 h.pos) (fun x j _ hj=>?_) (fun p e a _=>Ev.Uu (r:=(Zz,a,e)) ?_ rfl)
 rotate_left
 ·exact qp e a _
 refine k8.bind (axl h hj) fun r hr=>?_
 cases hk:(Z.S.K j).1==4 with
 |true=>
  rw[hk]at hr;obtain⟨_,rfl⟩:=hr;exact Ev.Uu (qr x) rfl
 |false=>
  rw[hk]at hr;obtain⟨p,rfl⟩:=hr;exact Ev.Uu (qp _ _ _) rfl
end
section
variable {Z:Cx} {i:Nat} {d e a:Int} {ex ta:Nat->Rs Syntax}
def RB(Z:Cx)(d:Int)(r:Rs (List kg))(z:(jT×Unit)×(List Str×(Syntax×Unit))):Prop:=∃j e a l t,j<Z.T.length/\z=((Z.rd j d e a,()),l,t,())/\l.length<=201/\r=lz e a (.ok (nS.L6 l t) j)
theorem au8(h:ny Z)(hex:NX Z d kX ex)(op sh:Str)(hi:i<Z.T.length):k8 (fun n=>qw n (Z.rd i d e a) op sh) (RB Z d (lz e a (Z.S.BB ex op sh i))):=by
 refine k8.fn (fun n=>by simp only[aaU,Ad,kC,mB];exact rfl) ?_;unfold nS.BB;rw[nL];refine RN.step (Q:=RB Z d) (rE h hi op) fun j e a hj _=>?_
 cases op==[91]with
 |true=>
  simp only[jK];rw[Rs.bind_assoc,nL];refine RQ.step (Q:=RB Z d) (RZ h hj) fun s j e a hj _=>?_
  rw[Rs.yf,nL];refine RN.step (Q:=RB Z d) (rE h hj _) fun j e a hj _=>?_
  rw[nL];refine RX.step (Q:=RB Z d) (hex j e a hj) fun t j e a hj _=>?_
  rw[nL];exact RN.step (Q:=RB Z d) (rE h hj _) fun j e a hj _=>k8.pure ⟨j,e,a,[s],t,hj,rfl,by simp,rfl⟩
 |false=>
  simp only[jL];rw[nL];refine k8.bind (ajI h hj) fun z ⟨⟨j,e,a,l,hj,hz,hr⟩,hl⟩=>?_
  subst hz;rw[hr,IJ,nL];refine RN.step (Q:=RB Z d) (rE h hj _) fun j e a hj _=>?_
  rw[nL];refine RX.step (Q:=RB Z d) (hex j e a hj) fun t j e a hj _=>?_
  rw[nL];exact RN.step (Q:=RB Z d) (rE h hj _) fun j e a hj _=>k8.pure ⟨j,e,a,l,t,hj,rfl,hl,rfl⟩
def aC4(S:nS)(ex:Nat->Rs Syntax)(f:Int)(l:List kg)(j:Nat):Rs Syntax:=(S.take [61,62] j).bind fun _ j=>(ex j).bind fun x k=>.ok (nS.XA 3 0 l x f) k
theorem ajK(h:ny Z)(hex:NX Z d kX ex)(f:Int){l:List Str}{t:List Syntax}(me:l.length=t.length)(hl:l.length<=1000000)(hi:i<Z.T.length):
 k8 (fun n=>(lP n (Z.rd i d e a) [61,62]).bind fun x=>(kX n x.fst.fst).bind fun x=>(Dr n 3 0 l t x.snd.fst f).bind fun x_1=>some ((x.fst.fst.fst,()),x_1,())) (RQ Z d (lz e a (aC4 Z.S ex f (ae4 l t) i))):=by
 unfold aC4;rw[nL];refine RN.step (Q:=RQ Z d) (rE h hi _) fun j e a hj _=>?_
 rw[nL];exact RX.step (Q:=RQ Z d) (hex j e a hj) fun x j e a hj _=>Ev.to (anI 3 0 l t me hl x f) (k8.pure (RQ.pure hj fun _=>rfl))
theorem ajL(h:ny Z)(hex:NX Z d kX ex)(f v:Int){l:List Str}{t:List Syntax}(me:l.length=t.length)(hl:l.length<=1000000)(hi:i<Z.T.length)(he:(e==0)=false):
 kF (fun n q=>sE (jZ n) n q f v (Z.rd i d e a) l t) (RQ Z d (.er e a:Rs Syntax)):=by
 refine kF.lp (fun n m=>by simp only[ES,wx,kC,mB];exact rfl) ?_;rw[show(Z.rd i d e a).e=e from rfl,he];have:=ajK (e:=e) (a:=a) h hex f me hl hi
 grind [vp,kF.P9]
theorem aAn(h:ny Z)(k:OY Z.S)(hex:NX Z d kX ex)(f:Int):∀(m:Nat)(l:List Str)(t:List Syntax)(i:Nat)(e a:Int),i<Z.T.length->m<=200->l.length=t.length->l.length<=201*(200-m)->(e=0->((m=200->l=[])/\(l=[]->m=200)))->
 kF (fun n q=>sE (jZ n) n q f ((200-m:Nat):Int) (Z.rd i d e a) l t) (RQ Z d (lz e a ((Z.S.ZA ex m (ae4 l t) i).bind (aC4 Z.S ex f)))):=by
 intro m;induction m with
 |zero=>
  intro l t i e a hi hm me hl hh;cases he:e==0 with
  |false=>rw[vp he];exact ajL h hex f _ me (by omega) hi he
  |true=>
   obtain rfl:=beq_iff_eq.1 he;refine kF.lp (fun n m=>by simp only[ES,wx,kC,mB];exact rfl) ?_;rw[show(((200-0:Nat):Int)==0)=false by decide];simp only[show(Z.rd i d 0 a).e=0 from rfl,beq_self_eq_true,jK,jL];refine Ev.sn (mF hi _) ?_;unfold nS.ZA;rw[Rs.C3,ae3];simp only[beq_self_eq_true,iH];refine kF.ite (Q:=RQ Z d) (fun _=>kF.P9 (ajK (e:=0) (a:=a) h hex f me (by omega) hi)) fun _=>?_
   refine Ev.sn (C2 h hi (by omega)) (Ev.sn (mF hi _) ?_);simp only[show((7:Int)==0)=false from rfl,iM,jL];refine kF.lQ (RZ (e:=7) h hi) fun z hz=>?_
   obtain⟨_,j,y,hj,rfl⟩:=hz.sU (vp rfl _ _);simp only[jM (show(l.length+1)*16<=17592186044416 by omega),jK];refine Ev.sn (B7 h hj) (Ev.sn (B7 h hj) ?_);simp only[jM (show(t.length+1)*120<=17592186044416 by omega),jK];exact ajL h hex f _ (by simp [me]) (by grind) hj rfl
 |succ m ih=>
  intro l t i e a hi hm me hl hh;cases he:e==0 with
  |false=>rw[vp he];exact ajL h hex f _ me (by omega) hi he
  |true=>
   obtain rfl:=beq_iff_eq.1 he;obtain⟨hh1,hh2⟩:=hh rfl;have hw:IntKind.i64.wrap (((200-(m+1):Nat):Int)+1)=((200-m:Nat):Int):=by grind [lj]
   have go:kF (fun n q=>(lX n (Z.rd i d 0 a) ((200-(m+1):Nat):Int)).bind fun x=>(lM n x.fst.fst [40]).bind fun x_1=>bif x_1 then(kW n x.fst.fst).bind fun x=>(rV n x.fst.fst).bind fun x=>(lP n x.fst.fst [58]).bind fun x_2=>(kX n x_2.fst.fst).bind fun x_3=>(lP n x_3.fst.fst.fst [41]).bind fun x_4=>
         bif decide ((l.length+x.snd.fst.length)*16<=17592186044416)then(vP n x.snd.fst x_3.snd.fst).bind fun x_5=>bif decide ((t.length+x_5.length)*120<=17592186044416)then sE (jZ n) n q f (IntKind.i64.wrap (((200-(m+1):Nat):Int)+1)) x_4.fst.fst (l++x.snd.fst) (t++x_5)else none else none
    else(oB n x.fst.fst).bind fun x=>bif decide ((l.length+1)*16<=17592186044416)then(mI n x.fst.fst).bind fun x_2=>(mI n x.fst.fst).bind fun x_3=>bif decide ((t.length+1)*120<=17592186044416)then sE (jZ n) n q f (IntKind.i64.wrap (((200-(m+1):Nat):Int)+1)) x.fst.fst (l++[x.snd.fst]) (t++[Syntax.mk 1 [] 0 [] [] [] x_2 x_3])else none else none)
    (RQ Z d (bif Z.S.tX [40] i then(Z.S.BB ex [40] [41] i).bind fun b j=>(Z.S.ZA ex m (ae4 l t++b) j).bind (aC4 Z.S ex f)else(Z.S.var i).bind fun s j=>(Z.S.ZA ex m (ae4 l t++[{name:=s,t:=Z.S.Cj j}]) j).bind (aC4 Z.S ex f))):=by
    refine Ev.sn (zt hi (by omega)) (Ev.sn (mF hi _) ?_);simp only[beq_self_eq_true,iH];refine kF.ite (Q:=RQ Z d) (fun hs=>?_) fun _=>?_
    ·refine Ev.sn (mK h hi) ?_;have ht:Z.S.take [40] i=.ok () (Z.S.nx i):=by grind [nS.take]
     unfold nS.BB;rw[ht];simp only[Rs.yf,show(([40]:Str)==[91])=false from rfl,jL,Rs.bind_assoc];have hv:=k.vars (i:=Z.S.nx i) (mS hi);refine kF.lQ (ajI (e:=0) (a:=a) h (mS hi)) fun z ⟨⟨j,e1,a1,b,hj,hz,hr⟩,hb⟩=>?_
     subst hz;have hr:Z.S.vars (Z.S.nx i)=lz e1 a1 (.ok b j):=hr;have hb:b.length<=201:=hb
     have hb1:e1=0->b≠[]:=fun h0 hn=>by
      rw[hr,h0,ae3,hn]at hv;exact absurd hv.1 (by simp)
     rw[hr,IJ,nL];refine RN.G8 (Q:=RQ Z d) (rE h hj _) fun j e2 a2 hj h2=>?_
     rw[nL];refine RX.G8 (Q:=RQ Z d) (hex j e2 a2 hj) fun y j e3 a3 hj h3=>?_
     rw[nL];refine RN.G8 (Q:=RQ Z d) (rE h hj _) fun j e4 a4 hj h4=>?_
     simp only[jM (show(l.length+b.length)*16<=17592186044416 by omega),jK];refine Ev.sn (arR b (by omega) y) ?_;simp only[List.length_map,jM (show(t.length+b.length)*120<=17592186044416 by omega),jK];rw[hw,<-anG,<-anH me]
     grind [List.append_eq_nil_iff,aCQ]
    ·refine RQ.G8 (Q:=RQ Z d) (RZ (e:=0) (a:=a) h hi) fun s j e1 a1 hj _=>?_
     simp only[jM (show(l.length+1)*16<=17592186044416 by omega),jK];refine Ev.sn (B7 h hj) (Ev.sn (B7 h hj) ?_);simp only[jM (show(t.length+1)*120<=17592186044416 by omega),jK];rw[hw];have:=ih (l++[s]) (t++[Z.S.Cj j]) j e1 a1 hj (by omega) (by simp [me]) (by grind) fun h0=>⟨fun e=>by omega,fun e=>by simp at e⟩
     rw[anH me]at this;exact this
   refine kF.lp (fun n m=>by simp only[ES,wx,kC,mB];exact rfl) ?_;rw[ae3];unfold nS.ZA;simp only[show(Z.rd i d 0 a).e=0 from rfl,beq_self_eq_true,jK,Rs.C3,Rs.bind_assoc,Rs.yf];by_cases h0:m+1=200
   ·have e1:(((200-(m+1):Nat):Int)==0)=true:=by grind
    have hl0:=hh1 h0;subst hl0;rw[e1];simp only[jK,show(ae4 [] t).isEmpty=true from rfl,iU,iT,jL];exact go
   ·have e1:(((200-(m+1):Nat):Int)==0)=false:=by grind
    have e2:(ae4 l t).isEmpty=false:=by
     grind [ae4,jh]
    rw[e1,e2];simp only[jL,iQ,jm];refine Ev.sn (mF hi _) ?_;simp only[beq_self_eq_true,iH];exact kF.ite (Q:=RQ Z d) (fun _=>kF.P9 (ajK (e:=0) (a:=a) h hex f me (by omega) hi)) fun _=>go
theorem aC5(h:ny Z)(k:OY Z.S)(hex:NX Z d kX ex)(hi:i<Z.T.length):k8 (fun n=>tH n (Z.rd i d 0 a)) (RQ Z d (Z.S.axi ex i)):=by
 refine k8.fn (fun n=>by simp only[agJ,DT,kC,mB];exact rfl) ?_;refine Ev.to (C1 h hi) (Ev.to (mK h hi) ?_);exact k8.yn (F:=fun n q=>sE (jZ n) n q (Z.S.F i) 0 (Z.rd (Z.S.nx i) d 0 a) [] []) (aAn h k hex (Z.S.F i) 200 [] [] _ 0 a (mS hi) (iN _) rfl (iK _) fun _=>⟨fun _=>rfl,fun _=>rfl⟩)
theorem aC6(h:ny Z)(hex:NX Z d kX ex)(hi:i<Z.T.length):k8 (fun n=>tI n (Z.rd i d 0 a)) (RQ Z d (Z.S.arH ex i)):=by
 refine k8.fn (fun n=>by simp only[agK,DV,kC,yp];exact rfl) ?_;unfold nS.arH;refine Ev.to (C1 h hi) (Ev.to (mK h hi) ?_);refine RQ.step (Q:=RQ Z d) (RZ (e:=0) (a:=a) h (mS hi)) fun s j e a hj _=>?_
 refine Ev.to (B7 h hj) (Ev.to (B7 h hj) (Ev.to (mF hj _) ?_));rw[Rs.C3,C0];refine k8.ite (Q:=RQ Z d) (fun hc=>?_) fun _=>?_
 ·obtain rfl:=beq_iff_eq.1 (iI _ _ ▸ hc).1;refine Ev.to (mK h hj) ?_;rw[nL];refine RX.step (Q:=RQ Z d) (hex _ 0 a (mS hj)) fun t j e a hj _=>?_
  rw[nL];refine RN.step (Q:=RQ Z d) (rE h hj _) fun j e a hj _=>?_
  rw[nL];refine RX.step (Q:=RQ Z d) (hex _ e a hj) fun v j e a hj _=>?_
  rw[nL];refine RN.step (Q:=RQ Z d) (rE h hj _) fun j e a hj _=>?_
  rw[nL];exact RX.step (Q:=RQ Z d) (hex _ e a hj) fun b j e a hj _=>k8.pure (RQ.pure hj fun _=>rfl)
 ·rw[Rs.yf,nL];refine RN.step (Q:=RQ Z d) (rE h hj _) fun j e a hj _=>?_
  rw[nL];refine RX.step (Q:=RQ Z d) (hex _ e a hj) fun v j e a hj _=>?_
  rw[nL];refine RN.step (Q:=RQ Z d) (rE h hj _) fun j e a hj _=>?_
  rw[nL];exact RX.step (Q:=RQ Z d) (hex _ e a hj) fun b j e a hj _=>k8.pure (RQ.pure hj fun _=>rfl)
theorem akq(h:ny Z)(hi:i<Z.T.length)(he:(e==0)=false):Ev (fun n=>qg n (Z.rd i d e a)) ((Z.rd i d e a,()),Zz,()):=by
 refine Ev.fn (fun n=>by simp only[OM,xJ,kC,yp];exact rfl) ?_;refine Ev.bind (C1 h hi) ?_;rw[show(Z.rd i d e a).e=e from rfl,bne,he];exact Ev.pure
theorem axB(h:ny Z)(k:OY Z.S)(p:Pos Z.S)(q:aiF Z.S)(hx:L7 Z.S ex)(ht:L7 Z.S ta)(hex:NX Z d kX ex)(ho:NQ Z d su (Z.S.op ex ta))(hi:i<Z.T.length):k8 (fun n=>qg n (Z.rd i d 0 a)) (RQ Z d (Z.S.afZ ex ta i)):=by
 have hlen:=h.len
 have prod:∀(o:Nat)(op sh s:Str)(kd nm:Int),o<Z.T.length->k8 (fun n=>(qw n (Z.rd o d 0 a) op sh).bind fun x_5=>(lP n x_5.fst.fst s).bind fun x_6=>(vP n x_5.snd.fst x_5.snd.snd.fst).bind fun x_7=>(kX n x_6.fst.fst).bind fun x_8=>(Dr n kd nm x_5.snd.fst x_7 x_8.snd.fst (Z.fr i 0)).bind fun x=>some ((x_8.fst.fst.fst,()),x,()))
  (RQ Z d ((Z.S.BB ex op sh o).bind fun l j=>Z.S.IG ex kd nm i l s j)):=by
  intro o op sh s kd nm me;refine k8.bind (au8 (e:=0) (a:=a) h hex op sh me) fun z ⟨j,e1,a1,l,t,hj,hz,hl,hr⟩=>?_
  subst hz;have hr:Z.S.BB ex op sh o=lz e1 a1 (.ok (nS.L6 l t) j):=hr;rw[hr,IJ];unfold nS.IG;rw[nL];refine RN.step (Q:=RQ Z d) (rE h hj _) fun j e a hj _=>?_
  refine Ev.to (arR l (by omega) t) ?_;rw[nL];refine RX.step (Q:=RQ Z d) (hex _ e a hj) fun x j e a hj _=>?_
  refine Ev.to (anI kd nm l _ (by grind) (by omega) x _) ?_;rw[anG];exact k8.pure (RQ.pure hj fun _=>rfl)
 refine k8.fn (fun n=>by simp only[OM,xJ,kC,yp];exact rfl) ?_;refine Ev.to (C1 h hi) ?_;simp only[show(Z.rd i d 0 a).e=0 from rfl,bne,beq_self_eq_true,iU,jL];unfold nS.afZ;refine Ev.to (D2 hi _) ?_;simp only[beq_self_eq_true,iH];refine k8.ite (Q:=RQ Z d) (fun _=>k8.bind (aC5 (a:=a) h k hex hi) fun z ⟨j,e,a,x,hj,hz,hr⟩=>by subst hz;exact k8.pure ⟨j,e,a,x,hj,rfl,hr⟩) fun _=>?_
 refine Ev.to (D2 hi _) ?_;simp only[beq_self_eq_true,iH];refine k8.ite (Q:=RQ Z d) (fun _=>k8.bind (aC6 (a:=a) h hex hi) fun z ⟨j,e,a,x,hj,hz,hr⟩=>by subst hz;exact k8.pure ⟨j,e,a,x,hj,rfl,hr⟩) fun _=>?_
 refine Ev.to (D2 hi _) ?_;simp only[beq_self_eq_true,iH];refine k8.ite (Q:=RQ Z d) (fun _=>Ev.to (mK h hi) (prod _ _ _ _ 5 0 (mS hi))) fun _=>?_
 refine Ev.to (mF hi _) ?_;simp only[beq_self_eq_true,iH];refine k8.ite (Q:=RQ Z d) (fun _=>prod _ _ _ _ 4 1 hi) fun _=>?_
 refine Ev.to (mF hi _) ?_;simp only[beq_self_eq_true,iH];refine k8.ite (Q:=RQ Z d) (fun _=>prod _ _ _ _ 4 2 hi) fun _=>?_
 unfold nS.anv;have Fq:=k.op p q hlen hx ht i hi;refine RQ.step (Q:=RQ Z d) (ho i 0 a hi) fun x j e1 a1 hj h1=>?_
 refine Ev.to (mF hj _) ?_;rw[C0];refine k8.ite (Q:=RQ Z d) (fun hc=>?_) fun _=>k8.pure (RQ.pure hj fun _=>rfl)
 obtain rfl:=beq_iff_eq.1 (iI _ _ ▸ hc).1;have h1:Z.S.op ex ta i=.ok x j:=h1 rfl;rw[h1]at Fq;obtain⟨_,_,hr,_,_⟩:=Fq;refine Ev.to (mK h hj) (Ev.to (aAj h hi) ?_);rw[ae3];have hw:=akp (S:=Z.S) i;have hwl:Z.S.len=Z.T.length:=rfl
 have uA:∀(l:List Str)(t:Syntax),l.length<=1000000->k8 (fun n=>(vP n l t).bind fun y=>(kX n (Z.rd (Z.S.nx j) d 0 a1)).bind fun x_10=>(Dr n 4 0 l y x_10.snd.fst x.k9).bind fun x=>some ((x_10.fst.fst.fst,()),x,()))
  (RQ Z d ((ex (Z.S.nx j)).bind fun b k=>.ok (nS.XA 4 0 (nS.L6 l t) b x.k9) k)):=by
  intro l t hl;refine Ev.to (arR l hl t) ?_;refine RX.step (Q:=RQ Z d) (hex _ 0 a1 (mS hj)) fun b j e a hj _=>?_
  refine Ev.to (anI 4 0 l _ (by grind) hl b _) ?_;rw[anG];exact k8.pure (RQ.pure hj fun _=>rfl)
 have e0:decide (0<((Z.S.zi i).length:Int))= !(Z.S.zi i).isEmpty:=by
  cases Z.S.zi i with
  |nil=>rfl
  |cons a b=>grind
 have zu:([{name:=[],t:=x}]:List kg)=nS.L6 [[]] x:=rfl;cases h13:x.kind==13 with
 |false=>simp_all
 |true=>
  rw[show Z.fr i 0=Z.S.F i from rfl];cases hf:x.k9==Z.S.F i with
  |false=>simp_all
  |true=>
   simp only[jK,iH,e0];cases hn:(Z.S.zi i).isEmpty with
   |true=>simp_all
   |false=>
    have h2:=hr.aCJ (beq_iff_eq.1 h13);have hl1:1<x.vE.length:=by omega
    have e1:sQ x.vE 1=some x.vE[1]:=nA (i:=1) hl1;have e2:x.vE.getD 1 Zz=x.vE[1]:=by grind
    simp only[iQ,jK,e1,iL,e2];exact uA _ _ (by omega)
theorem aAo(h:ny Z)(k:OY Z.S)(p:Pos Z.S)(q:aiF Z.S)(hd:0<=d/\d<200)(hx:L7 Z.S ex)(ht:L7 Z.S ta)(hex:NX Z (d+1) kX ex)(ho:NQ Z (d+1) su (Z.S.op ex ta)):NX Z d kX (Z.S.afZ ex ta):=by
 intro i e a hi
 have up:∀(i:Nat)(e a:Int),({HJ:=(Z.rd i d e a).HJ,i:=(Z.rd i d e a).i,base:=(Z.rd i d e a).base,rF:=(Z.rd i d e a).rF,oN:=(Z.rd i d e a).oN,depth:=IntKind.i64.wrap ((Z.rd i d e a).depth+1),e:=(Z.rd i d e a).e,nE:=(Z.rd i d e a).nE}:jT)=Z.rd i (d+1) e a:=by
  intro i e a;show({HJ:=_,i:=_,base:=_,rF:=_,oN:=_,depth:=IntKind.i64.wrap (d+1),e:=_,nE:=_}:jT)=_;rw[lj (by omega) (by omega)];rfl
 have dn:∀(i:Nat)(e a:Int),({HJ:=(Z.rd i (d+1) e a).HJ,i:=(Z.rd i (d+1) e a).i,base:=(Z.rd i (d+1) e a).base,rF:=(Z.rd i (d+1) e a).rF,oN:=(Z.rd i (d+1) e a).oN,depth:=IntKind.i64.wrap ((Z.rd i (d+1) e a).depth-1),e:=(Z.rd i (d+1) e a).e,nE:=(Z.rd i (d+1) e a).nE}:jT)=Z.rd i d e a:=by
  intro i e a;show({HJ:=_,i:=_,base:=_,rF:=_,oN:=_,depth:=IntKind.i64.wrap (d+1-1),e:=_,nE:=_}:jT)=_;rw[lj (by omega) (by omega),show d+1-1=d by omega];rfl
 refine k8.fn (fun n=>by simp only[P2,yG,kC,mC];exact rfl) ?_;rw[jN (show ¬ (200:Int)<=(Z.rd i d e a).depth by show ¬ (200:Int)<=d;omega),up];simp only[jL]
 have body:k8 (fun n=>qg n (Z.rd i (d+1) e a)) (RQ Z (d+1) (lz e a (Z.S.afZ ex ta i))):=by
  cases he:e==0 with
  |false=>exact Ev.Uu (akq h hi he) (RQ.no hi he (vp he _ _))
  |true=>obtain rfl:=beq_iff_eq.1 he;exact axB (a:=a) h k p q hx ht hex ho hi
 refine k8.bind body fun z ⟨j,e',a',x,hj,hz,hr⟩=>?_
 subst hz;show k8 (fun n=>bif e' !=0 then _ else _) _;simp only[dn];rw[hr];cases he:e'==0 with
 |true=>simp only[bne,he,iU,jL];exact k8.pure (RX.pure hj fun _=>rfl)
 |false=>simp only[bne,he,iQ,jK];exact k8.pure (RX.pure hj fun h0=>by grind)
theorem axC(h:ny Z):NX Z 200 kX (fun i=>Z.S.abf i):=by
 intro i e a hi;refine k8.fn (fun n=>by simp only[P2,yG,kC,mC];exact rfl) ?_;rw[jM (show(200:Int)<=(Z.rd i 200 e a).depth from iJ _)];simp only[jK];refine Ev.to (C1 h hi) (Ev.to (RY 7 _) ?_);have he:((bif e==0 then 7 else e)==0)=false:=by grind
 refine Ev.to (akq (d:=201) h hi he) ?_;show k8 (fun n=>bif (bif e==0 then 7 else e) !=0 then _ else _) _;simp only[bne,he,iQ,jK];exact k8.pure ⟨i,_,_,_,hi,rfl,apV (O:=Unit) Zz i 7 rfl⟩
end
theorem ajM(s:Str)(l:List Str)(hl:l.length<=1000):Ev (fun n=>Ub n s l) (l.contains s):=by
 refine Ev.fn (fun n=>by simp only[Ub,kD,aLQ,mB];exact rfl) ?_
 have key:∀q p:Nat,p+q=l.length->kZ (fun n m=>FA n m s l (p:Int)) ((l.drop p).contains s):=by
  intro q;induction q with
  |zero=>
   intro p hp;refine kZ.lp (fun n m=>by simp only[Wn,Fz,mB];exact rfl) ?_
   grind [kZ.pure]
  |succ q ih=>
   intro p hp;have me:p<l.length:=by omega
   refine kZ.lp (fun n m=>by simp only[Wn,Fz,mB];exact rfl) ?_;rw[jM (by omega)];simp only[jK,nA me,iL];rw[iS me,ja,kM (by omega),show(l[p]==s)=(s==l[p])from BEq.comm];cases s==l[p]with
   |true=>exact kZ.pure
   |false=>grind
 exact Ev.yn (F:=fun n m=>FA n m s l 0) (key l.length 0 (by omega))
section
variable {Z:Cx} {i:Nat} {d e a:Int} {ex ta:Nat->Rs Syntax}
theorem rup(hd:0<=d/\d<200)(i:Nat)(e a:Int):({HJ:=(Z.rd i d e a).HJ,i:=(Z.rd i d e a).i,base:=(Z.rd i d e a).base,rF:=(Z.rd i d e a).rF,oN:=(Z.rd i d e a).oN,depth:=IntKind.i64.wrap ((Z.rd i d e a).depth+1),e:=(Z.rd i d e a).e,nE:=(Z.rd i d e a).nE}:jT)=Z.rd i (d+1) e a:=by
 show({HJ:=_,i:=_,base:=_,rF:=_,oN:=_,depth:=IntKind.i64.wrap (d+1),e:=_,nE:=_}:jT)=_;rw[lj (by omega) (by omega)];rfl
theorem rdn(hd:0<=d/\d<200)(i:Nat)(e a:Int):({HJ:=(Z.rd i (d+1) e a).HJ,i:=(Z.rd i (d+1) e a).i,base:=(Z.rd i (d+1) e a).base,rF:=(Z.rd i (d+1) e a).rF,oN:=(Z.rd i (d+1) e a).oN,depth:=IntKind.i64.wrap ((Z.rd i (d+1) e a).depth-1),e:=(Z.rd i (d+1) e a).e,nE:=(Z.rd i (d+1) e a).nE}:jT)=Z.rd i d e a:=by
 show({HJ:=_,i:=_,base:=_,rF:=_,oN:=_,depth:=IntKind.i64.wrap (d+1-1),e:=_,nE:=_}:jT)=_;rw[lj (by omega) (by omega),show d+1-1=d by omega];rfl
theorem IL(h:ny Z)(hd:0<=d/\d<200)(w:Str)(l:List Str)(k:List Syntax)(f:Int)(hi:i<Z.T.length):
 k8 (fun n=>(wg (jZ n) n).1 (Z.rd i (d+1) e a) 15 w l k f) (RQ Z d (lz e a (.ok (.mk 15 w 0 l [] k f (Z.S.E i)) i))):=by
 simp only[wg,rdn hd];exact Ev.to (B7 h hi) (k8.pure (RQ.pure hi fun _=>rfl))
def aJ5(S:nS)(w:Str)(f:Int)(l:List Str)(j:Nat):Rs Syntax:=.ok (.mk 15 w 0 l [] [] f (S.E j)) j
theorem ap4(h:ny Z)(hd:0<=d/\d<200)(w:Str)(f:Int)(he:(e==0)=false)(hi:i<Z.T.length)(out:List Str):kF (fun n q=>r6 (jZ n) n q (Z.rd i (d+1) e a) 15 w f out) (RQ Z d (.er e a:Rs Syntax)):=by
 refine kF.lp (fun n m=>by simp only[xy,rZ,kC];exact rfl) ?_;rw[show(Z.rd i (d+1) e a).e=e from rfl,he];have:=IL (e:=e) (a:=a) h hd w out [] f hi
 grind [vp,kF.P9]
theorem aAp(h:ny Z)(hd:0<=d/\d<200)(w:Str)(f:Int):∀(m:Nat)(out:List Str)(i:Nat)(e a:Int),i<Z.T.length->m+out.length=200->out≠[]->
 kF (fun n q=>r6 (jZ n) n q (Z.rd i (d+1) e a) 15 w f out) (RQ Z d (lz e a ((Z.S.XB m out i).bind (aJ5 Z.S w f)))):=by
 intro m out i e a hi hm ho;cases he:e==0 with
 |false=>rw[vp he];exact ap4 h hd w f he hi out
 |true=>
  obtain rfl:=beq_iff_eq.1 he;clear he;rw[ae3];have hlen:∀x:Str,(out++[x]).length=out.length+1:=fun x=>by grind
  have e1:((out.length:Int)==0)=false:=by
   simp_all
  induction m generalizing out i with
  |zero=>
   refine kF.lp (fun n m=>by simp only[xy,rZ,kC];exact rfl) ?_;simp only[show(Z.rd i (d+1) 0 a).e=0 from rfl,e1,beq_self_eq_true,jK,jL];refine Ev.sn (ua hi) ?_;rw[B6 hi rfl];unfold nS.XB;rw[Rs.C3];simp only[beq_self_eq_true,iH];refine kF.ite (Q:=RQ Z d) (fun _=>?_) fun _=>kF.P9 (IL (e:=0) (a:=a) h hd w out [] f hi)
   refine Ev.sn (C2 h hi (by omega)) (kF.lQ (ajH (e:=7) h hi) fun z hz=>?_);obtain⟨_,j,y,hj,rfl⟩:=hz.sU (vp rfl _ _);simp only[jM (show(out.length+1)*16<=17592186044416 by omega),jK];exact ap4 h hd w f rfl hj _
  |succ m ih=>
   refine kF.lp (fun n m=>by simp only[xy,rZ,kC];exact rfl) ?_;simp only[show(Z.rd i (d+1) 0 a).e=0 from rfl,e1,beq_self_eq_true,jK,jL];refine Ev.sn (ua hi) ?_;rw[B6 hi rfl];unfold nS.XB;rw[Rs.C3];simp only[beq_self_eq_true,iH];refine kF.ite (Q:=RQ Z d) (fun hk=>?_) fun _=>kF.P9 (IL (e:=0) (a:=a) h hd w out [] f hi)
   refine Ev.sn (zt hi (by omega)) (Ev.sn (au2 h hi hk) ?_);simp only[jM (show(out.length+1)*16<=17592186044416 by omega),jK];exact ih (out++[(Z.S.K i).2]) _ (mS hi) (by grind) (by simp) (fun x=>by simp) (by grind)
theorem aC7(h:ny Z)(hd:0<=d/\d<200)(w:Str)(f:Int)(hi:i<Z.T.length):
 k8 (fun n=>r6 (jZ n) n n (Z.rd i (d+1) 0 a) 15 w f []) (RQ Z d ((Z.S.name i).bind fun s j=>(Z.S.XB 199 [s] j).bind (aJ5 Z.S w f))):=by
 refine k8.yn (F:=fun n q=>r6 (jZ n) n q (Z.rd i (d+1) 0 a) 15 w f []) ?_;refine kF.lp (fun n m=>by simp only[xy,rZ,kC];exact rfl) ?_;simp only[show(Z.rd i (d+1) 0 a).e=0 from rfl,beq_self_eq_true,jK,jh,Int.natCast_zero,jp];refine Ev.sn (zt hi (by omega)) ?_;refine RX.G8 (Q:=RQ Z d) (ajH (e:=0) (a:=a) h hi) fun s j e a hj _=>?_
 grind [aAp]
def aJ6(S:nS)(w:Str)(f:Int)(p:List Str×List Syntax)(j:Nat):Rs Syntax:=.ok (.mk 15 w 0 p.1 [] p.2 f (S.E j)) j
theorem anM(h:ny Z)(hd:0<=d/\d<200)(EW:NQ Z (d+1) l7 ta)(w:Str)(f:Int)(hi:i<Z.T.length):
 k8 (fun n=>(lP n (Z.rd i (d+1) 0 a) [123]).bind fun x_5=>(oW n x_5.fst.fst).bind fun x_6=>(lP n x_6.fst.fst [125]).bind fun x_7=>(wg (jZ n) n).1 x_7.fst.fst 15 w [] x_6.snd.fst f)
  (RQ Z d ((Z.S.block ta i).bind fun l j=>aJ6 Z.S w f ([],l) j)):=by
 unfold nS.block;simp only[Rs.bind_assoc,Rs.yf];refine RN.step (Q:=RQ Z d) (d:=d+1) (rE (e:=0) (a:=a) h hi _) fun j e a hj _=>?_
 rw[nL];refine RQ.step (Q:=RQ Z d) (d:=d+1) (ap1 h EW hj) fun l j e a hj _=>?_
 rw[nL];exact RN.step (Q:=RQ Z d) (d:=d+1) (rE h hj _) fun j e a hj _=>IL h hd w [] l f hj
theorem au9(h:ny Z)(hd:0<=d/\d<200)(hex:NX Z (d+1) kX ex)(EW:NQ Z (d+1) l7 ta):NQ Z d l7 (Z.S.akk ex ta):=by
 intro i e a hi;refine k8.fn (fun n=>by simp only[MV,w7,kC];exact rfl) ?_;rw[jN (show ¬ (200:Int)<=(Z.rd i d e a).depth by show ¬ (200:Int)<=d;omega)];simp only[jL,zd,rup hd];rw[show(Z.rd i d e a).e=e from rfl];cases he:e==0 with
 |false=>simp only[bne,he,iQ,jK];exact k8.pure (RQ.no hi he (vp he _ _))
 |true=>
  obtain rfl:=beq_iff_eq.1 he;simp only[bne,beq_self_eq_true,iU,jL];rw[ae3];refine Ev.to (ua hi) (Ev.to (C1 h hi) (Ev.to (ua hi) ?_));rw[B6 hi rfl,II hi,show Z.fr i 0=Z.S.F i from rfl];have sk:=mK (d:=d+1) (a:=a) h hi;have hj:=mS (Z:=Z) hi;unfold nS.akk;show k8 _ (RQ Z d (Rs.bind (bif Z.S.tX [123] i then _ else bif (Z.S.K i).1==0 then _ else _) (aJ6 Z.S (Z.S.K i).2 (Z.S.F i))));simp only[beq_self_eq_true,iH,Rs.C3,Rs.bind_assoc,Rs.yf];generalize hw:(Z.S.K i).2=w;cases hk:(Z.S.K i).1==0 with
  |false=>
   simp only[jL];refine Ev.to (mF hi _) ?_;simp only[beq_self_eq_true,iH];refine k8.ite (Q:=RQ Z d) (fun _=>anM h hd EW w _ hi) fun _=>?_
   exact Ev.to (IK h hi) ((IL (e:=4) h hd w [] [] (Z.S.F i) hi).imp fun z hz=>hz)
  |true=>
   have hs:Z.S.tX [123] i=false:=by
    grind [nS.tX,nS.is]
   simp only[jK,hs,jL];refine Ev.to (mF hi _) ?_;simp only[hs,iT,jL];unfold nS.akj;simp only[Rs.C3,Rs.bind_assoc,Rs.yf];refine k8.ite (Q:=RQ Z d) (fun _=>Ev.to sk (anM h hd EW w _ hj)) fun _=>?_
   refine Ev.to (ajM w _ (by decide)) ?_;refine k8.ite (Q:=RQ Z d) (fun _=>Ev.to sk (RX.step (Q:=RQ Z d) (d:=d+1) (hex _ 0 a hj) fun x j e a hj _=>IL h hd w [] [x] _ hj)) fun _=>?_
   refine Ev.to (ajM w _ (by decide)) ?_;refine k8.ite (Q:=RQ Z d) (fun _=>Ev.to sk (IL (e:=0) (a:=a) h hd w [] [] _ hj)) fun _=>?_
   refine k8.ite (Q:=RQ Z d) (fun _=>Ev.to sk (RQ.step (Q:=RQ Z d) (d:=d+1) (RZ (e:=0) (a:=a) h hj) fun x j e a hj _=>IL h hd w [x] [] _ hj)) fun _=>?_
   refine k8.ite (Q:=RQ Z d) (fun _=>Ev.to sk (k8.bind (ajI (e:=0) (a:=a) h hj) fun z ⟨⟨j,e1,a1,l,hj,hz,hr⟩,hl⟩=>?_)) fun _=>?_
   ·subst hz;have hr:Z.S.vars (Z.S.nx i)=lz e1 a1 (.ok l j):=hr;rw[hr,IJ];exact IL h hd w l [] _ hj
   refine Ev.to (ajM w _ (by decide)) ?_;refine k8.ite (Q:=RQ Z d) (fun _=>Ev.to sk (RQ.step (Q:=RQ Z d) (d:=d+1) (agT (e:=0) (a:=a) h hj) fun x j e a hj _=>IL h hd w [x] [] _ hj)) fun _=>?_
   refine k8.ite (Q:=RQ Z d) (fun _=>Ev.to sk (aC7 h hd w _ hj)) fun _=>?_
   rw[bor]
   iterate 2 refine k8.ite (Q:=RQ Z d) (fun _=>Ev.to sk (RQ.step (Q:=RQ Z d) (d:=d+1) (EW _ 0 a hj) fun x j e a hj _=>IL h hd w [] [x] _ hj)) fun _=>?_
   exact Ev.to (IK h hi) ((IL (e:=4) h hd w [] [] (Z.S.F i) hi).imp fun z hz=>hz)
theorem arS(h:ny Z):NQ Z 200 l7 (fun i=>Z.S.abf i):=by
 intro i e a hi;refine k8.fn (fun n=>by simp only[MV,w7,kC];exact rfl) ?_;rw[jM (show(200:Int)<=(Z.rd i 200 e a).depth from iJ _)];simp only[jK];refine Ev.to (C1 h hi) (Ev.to (RY 7 _) ?_);have he:((bif e==0 then 7 else e)==0)=false:=by grind
 simp only[zd,show ∀(x y:Int),(Z.rd i 200 x y).e=x from fun _ _=>rfl,bne,he,iQ,jK];exact k8.pure ⟨i,_,_,_,hi,rfl,apV (O:=Unit) Zz i 7 rfl⟩
theorem ap5(h:ny Z)(k:OY Z.S)(g:Dig Z)(p:Pos Z.S)(q:aiF Z.S)(hs:Z.sy.length<=100000)(hn:NpR Z):∀(m:Nat)(d:Int),d+(m:Int)=200->0<=d->NX Z d kX (Z.S.ayz m)/\NQ Z d l7 (Z.S.aHS m)
 |0,d,hd,_=>by
  obtain rfl:d=200:=by omega
  exact⟨axC h,arS h⟩
 |m+1,d,hd,h0=>by
  obtain⟨h1,h2⟩:=ap5 h k g p q hs hn m (d+1) (by omega) (by omega);have hb:=k.both p q h.len m;have hd:0<=d/\d<200:=⟨h0,by omega⟩;exact⟨aAo h k p q hd hb.1 hb.2 h1 (aFM h hn hs (aCZ h (aAg h (aAf h k g h1 h2)))),au9 h hd h1 h2⟩
end
end Go.Abs
end
