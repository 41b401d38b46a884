/- A part of the proof: plain facts. -/
import Derived.Test.YtfilfimjoeapgaaDoorCoreD
import Derived.Test.YtfilfimjoeapgaaDoorDataA
import Derived.KernelRfl
import Derived.Test.YtfilfimjoeapgaaDoorReadA
set_option linter.all false
open Option renaming bind_some → kF,isSome_none → lO,isSome_iff_exists → mm,isSome_some → mG
open List renaming drop_eq_getElem_cons → kG,drop_eq_nil_of_le → kH,length_cons → kJ,length_append → kL,length_singleton → kM,drop_zero → kO,getElem_mem → kQ,mem_singleton → kR,length_nil → kU,length_drop → kY,append_assoc → k4,mem_append → k5,contains_cons → k6,any_cons → k7,take_succ_eq_append_getElem → ld,suffix_refl → lg,mem_cons_of_mem → lz,length → lA,take_zero → lB,append_nil → lD,mem_cons_self → lE,contains_nil → lF,mem_cons → lG,getElem?_append_right → lH,mem_of_find?_eq_some → lI,getElem?_eq_getElem → lJ,any_nil → lN,length_eq_zero_iff → lP,take_of_length_le → lU,drop_length → lW,countP_cons → lX,take_length → lY,set_append_right → lZ,all_nil → l8,find?_cons → l9,getD_eq_getElem?_getD → mg,suffix_cons → mj,contains_eq_any_beq → mo,any_append → mw,nil_append → mz,contains_iff_mem → mA,all_cons → mB,length_reverse → mC,drop_succ_cons → mD
open Bool renaming true_and → kI,false_or → kK,not_false → kN,false_and → kP,true_or → kV,not_true → kX,eq_iff_iff → kZ,or_eq_false_iff → k8,and_eq_true → k9,and_false → lu,or_false → lC,or_self → lM,eq_false_iff → lS,and_true → lV,or_true → l7,or_comm → mE
open Nat renaming le_refl → kS,zero_le → kT,add_sub_cancel → me,le_add_left → mq,zero_add → mF,add_zero → mH
open SizeOf renaming sizeOf → kW
open Go.Lib renaming contains → lK
open Option.some renaming injEq → lQ
open Int renaming toNat_natCast → lR,le_refl → lT,lt_irrefl → mh,min_comm → mI
open Exists renaming imp → l5
open List.cons renaming injEq → l6
namespace Go.Abs
variable {R S T:Type}
def Ev (F:Nat→Option R) (r:R):Prop:= ∃N,∀n,N≤n→F n=some r
def pN (F:Nat→Nat→Option R) (r:R):Prop:= ∃N,∀n m,N≤n→N≤m→F n m=some r
theorem Ev.fn {F G:Nat→Option R} {r:R} (h: ∀n,F (n+1)=G n) (hg:Ev G r):Ev F r:=by
 obtain ⟨N,hN⟩:=hg
 refine ⟨N+1,fun n hn=> ?_⟩
 obtain ⟨k,rfl⟩: ∃k,n=k+1:=⟨n-1,by omega⟩
 rw[h];exact hN k (by omega)
theorem Ev.F6 {F:Nat→Nat→Option R} {r:R} (h:pN F r):Ev (fun n=>F n n) r:=by
 obtain ⟨N,hN⟩:=h
 exact ⟨N,fun n hn=>hN n n hn hn⟩
theorem pN.Vl {F:Nat→Option R} {r:R} (h:Ev F r):pN (fun n _=>F n) r:=by
 obtain ⟨N,hN⟩:=h
 exact ⟨N,fun n m hn _=>hN n hn⟩
theorem pN.lp {F G:Nat→Nat→Option R} {r:R} (h: ∀n m,F n (m+1)=G n m) (hg:pN G r):pN F r:=by
 obtain ⟨N,hN⟩:=hg
 refine ⟨N+1,fun n m hn hm=> ?_⟩
 obtain ⟨k,rfl⟩: ∃k,m=k+1:=⟨m-1,by omega⟩
 rw[h];exact hN n k (by omega) (by omega)
theorem Ev.pure {r:R}:Ev (fun _=>some r) r:=⟨0,fun _ _=>rfl⟩
theorem pN.pure {r:R}:pN (fun _ _=>some r) r:=⟨0,fun _ _ _ _=>rfl⟩
theorem Ev.bind {F:Nat→Option S} {G:Nat→S→Option R} {x:S} {r:R} (h:Ev F x) (hg:Ev (fun n=>G n x) r):Ev (fun n=>(F n).bind (G n)) r:=by
 obtain ⟨N,hN⟩:=h
 obtain ⟨M,hM⟩:=hg
 refine ⟨max N M,fun n hn=> ?_⟩
 show (F n).bind (G n)=some r
 rw[hN n (by omega)];exact hM n (by omega)
theorem pN.bind {F:Nat→Nat→Option S} {G:Nat→Nat→S→Option R} {x:S} {r:R} (h:pN F x) (hg:pN (fun n m=>G n m x) r):pN (fun n m=>(F n m).bind (G n m)) r:=by
 obtain ⟨N,hN⟩:=h
 obtain ⟨M,hM⟩:=hg
 refine ⟨max N M,fun n m hn hm=> ?_⟩
 show (F n m).bind (G n m)=some r
 rw[hN n m (by omega) (by omega)];exact hM n m (by omega) (by omega)
theorem pN.qW {F:Nat→Option S} {G:Nat→Nat→S→Option R} {x:S} {r:R} (h:Ev F x) (hg:pN (fun n m=>G n m x) r):pN (fun n m=>(F n).bind (G n m)) r:=
 pN.bind (F:=fun n _=>F n) (pN.Vl h) hg
theorem Ev.congr {F G:Nat→Option R} {r:R} (hg:Ev G r) (h: ∀n,F n=G n):Ev F r:=by
 rw[show F=G from funext h];exact hg
theorem pN.congr {F G:Nat→Nat→Option R} {r:R} (hg:pN G r) (h: ∀n m,F n m=G n m):pN F r:=by
 rw[show F=G from funext fun n=>funext fun m=>h n m];exact hg
theorem Ev.uniq {F:Nat→Option R} {r s:R} (h:Ev F r) (k:Ev F s):r=s:=by
 obtain ⟨N,hN⟩:=h
 obtain ⟨M,hM⟩:=k
 have a:=hN (max N M) (by omega)
 have b:=hM (max N M) (by omega)
 rw[a] at b;exact Option.some.inj b
def uu (F:Nat→Option R) (Q:R→Prop):Prop:= ∃r,Q r∧Ev F r
def oY (F:Nat→Nat→Option R) (Q:R→Prop):Prop:= ∃r,Q r∧pN F r
theorem uu.fn {F G:Nat→Option R} {Q:R→Prop} (h: ∀n,F (n+1)=G n) (hg:uu G Q):uu F Q:=l5 (fun _ k=>⟨k.1,Ev.fn h k.2⟩) hg
theorem uu.F6 {F:Nat→Nat→Option R} {Q:R→Prop} (h:oY F Q):uu (fun n=>F n n) Q:=l5 (fun _ k=>⟨k.1,Ev.F6 k.2⟩) h
theorem oY.Vl {F:Nat→Option R} {Q:R→Prop} (h:uu F Q):oY (fun n _=>F n) Q:=l5 (fun _ k=>⟨k.1,pN.Vl k.2⟩) h
theorem oY.lp {F G:Nat→Nat→Option R} {Q:R→Prop} (h: ∀n m,F n (m+1)=G n m) (hg:oY G Q):oY F Q:=l5 (fun _ k=>⟨k.1,pN.lp h k.2⟩) hg
theorem uu.pure {r:R} {Q:R→Prop} (h:Q r):uu (fun _=>some r) Q:=⟨r,h,Ev.pure⟩
theorem oY.pure {r:R} {Q:R→Prop} (h:Q r):oY (fun _ _=>some r) Q:=⟨r,h,pN.pure⟩
theorem uu.bind {F:Nat→Option S} {G:Nat→S→Option R} {P:S→Prop} {Q:R→Prop} (h:uu F P) (hg: ∀x,P x→uu (fun n=>G n x) Q):uu (fun n=>(F n).bind (G n)) Q:=by
 obtain ⟨x,hx,hF⟩:=h
 obtain ⟨r,hr,hG⟩:=hg x hx
 exact ⟨r,hr,Ev.bind hF hG⟩
theorem oY.bind {F:Nat→Nat→Option S} {G:Nat→Nat→S→Option R} {P:S→Prop} {Q:R→Prop} (h:oY F P) (hg: ∀x,P x→oY (fun n m=>G n m x) Q):oY (fun n m=>(F n m).bind (G n m)) Q:=by
 obtain ⟨x,hx,hF⟩:=h
 obtain ⟨r,hr,hG⟩:=hg x hx
 exact ⟨r,hr,pN.bind hF hG⟩
theorem oY.qW {F:Nat→Option S} {G:Nat→Nat→S→Option R} {P:S→Prop} {Q:R→Prop} (h:uu F P) (hg: ∀x,P x→oY (fun n m=>G n m x) Q):oY (fun n m=>(F n).bind (G n m)) Q:=
 oY.bind (F:=fun n _=>F n) (oY.Vl h) hg
theorem uu.idx {xs:List S} {i:Nat} {G:Nat→S→Option R} {Q:R→Prop} (hi:i<xs.length) (hg:uu (fun n=>G n xs[i]) Q):uu (fun n=>(zj xs (i:Int)).bind (G n)) Q:=by
 have:zj xs (i:Int)=some xs[i]:=by simp [zj,hi]
 simp only[this];exact hg
theorem oY.idx {xs:List S} {i:Nat} {G:Nat→Nat→S→Option R} {Q:R→Prop} (hi:i<xs.length) (hg:oY (fun n m=>G n m xs[i]) Q):oY (fun n m=>(zj xs (i:Int)).bind (G n m)) Q:=by
 have:zj xs (i:Int)=some xs[i]:=by simp [zj,hi]
 simp only[this];exact hg
theorem uu.VM {c:Bool} {A B:Nat→Option R} {Q:R→Prop} (h1:c=true→uu A Q) (h2:c=false→uu B Q):uu (fun n=>bif c then A n else B n) Q:=by
 cases c with
 |true=>exact h1 rfl
 |false=>exact h2 rfl
theorem oY.VM {c:Bool} {A B:Nat→Nat→Option R} {Q:R→Prop} (h1:c=true→oY A Q) (h2:c=false→oY B Q):oY (fun n m=>bif c then A n m else B n m) Q:=by
 cases c with
 |true=>exact h1 rfl
 |false=>exact h2 rfl
theorem uu.imp {F:Nat→Option R} {P Q:R→Prop} (h:uu F P) (k: ∀r,P r→Q r):uu F Q:=l5 (fun r x=>⟨k r x.1,x.2⟩) h
theorem oY.imp {F:Nat→Nat→Option R} {P Q:R→Prop} (h:oY F P) (k: ∀r,P r→Q r):oY F Q:=l5 (fun r x=>⟨k r x.1,x.2⟩) h
theorem uu.ev {F:Nat→Option R} {r:R} (h:uu F (· =r)):Ev F r:=by obtain ⟨s,rfl,h⟩:=h;exact h
theorem Ev.tot {F:Nat→Option R} {r:R} {Q:R→Prop} (h:Ev F r) (q:Q r):uu F Q:=⟨r,q,h⟩
theorem pN.tot {F:Nat→Nat→Option R} {r:R} {Q:R→Prop} (h:pN F r) (q:Q r):oY F Q:=⟨r,q,h⟩
theorem oY.up {L:Nat→Nat→Int→S→Option R} (len:Nat) (I:Nat→S→Prop) (Q:R→Prop)
 (h1: ∀i s,i<len→I i s→(∀s',I (i+1) s'→oY (fun n m=>L n m ((i+1:Nat):Int) s') Q)→oY (fun n m=>L n m (i:Int) s) Q)
 (h2: ∀s,I len s→oY (fun n m=>L n m (len:Int) s) Q): ∀ (i:Nat) (s:S),i≤len→I i s→oY (fun n m=>L n m (i:Int) s) Q:=by
 intro i s hi h
 obtain ⟨k,hk⟩: ∃k,k=len-i:=⟨_,rfl⟩
 induction k generalizing i s with
 |zero=>obtain rfl:i=len:=by omega
        exact h2 s h
 |succ k ih=>exact h1 i s (by omega) h fun s' hs=>ih (i+1) s' (by omega) hs (by omega)
theorem wrap_small {n:Int} (h: -9223372036854775808≤n) (h2:n≤9223372036854775807):IntKind.i64.wrap n=n:=by
 simp only[IntKind.wrap,IntKind.signed,IntKind.bits,kI,decide_eq_true_eq]
 split<;>rename_i h3<;>simp only[decide_eq_true_eq,ge_iff_le] at h3<;>omega
theorem nJ {i:Nat} (h:i<9223372036854775807):IntKind.i64.wrap ((i:Int)+1)=((i+1:Nat):Int):=by
 rw[wrap_small (by omega) (by omega)];rfl
theorem sC {xs:List S} {i:Nat} (hi:i<xs.length):zj xs (i:Int)=some xs[i]:=by simp [zj,hi]
theorem pN.idx {xs:List S} {i:Nat} {G:Nat→Nat→S→Option R} {r:R} (hi:i<xs.length) (hg:pN (fun n m=>G n m xs[i]) r):pN (fun n m=>(zj xs (i:Int)).bind (G n m)) r:=by
 simp only[sC hi];exact hg
noncomputable def eqb {α:Type} (a b:α):Bool:= @decide (a=b) (Classical.propDecidable _)
theorem Rs {α:Type} {a b:α}:eqb a b=true↔a=b:=by
 unfold eqb;exact @decide_eq_true_iff _ (Classical.propDecidable _)
theorem eqb_self {α:Type} (a:α):eqb a a=true:=Rs.2 rfl
theorem eqb_cons {α:Type} (x y:α) (xs ys:List α):eqb (x::xs) (y::ys)=(eqb x y&&eqb xs ys):=by
 rw[kZ,k9,Rs,Rs,Rs,l6]
theorem pN.same {α:Type} {L:Nat→Nat→Int→Option Bool} (xs ys:List α) (hl:xs.length=ys.length)
 (h1: ∀ (i:Nat) (hi:i<xs.length) (hj:i<ys.length) (r:Bool),pN (fun n m=>L n m ((i+1:Nat):Int)) r→pN (fun n m=>L n m (i:Int)) (eqb xs[i] ys[i]&&r))
 (h2:pN (fun n m=>L n m (xs.length:Int)) true):pN (fun n m=>L n m 0) (eqb xs ys):=by
 have key: ∀ (k i:Nat),k+i=xs.length→pN (fun n m=>L n m (i:Int)) (eqb (xs.drop i) (ys.drop i)):=by
  intro k
  induction k with
  |zero=>
   intro i hi
   obtain rfl:i=xs.length:=by omega
   rw[lW,hl,lW,eqb_self,←hl]
   exact h2
  |succ k ih=>
   intro i hi
   have hi1:i<xs.length:=by omega
   have hi2:i<ys.length:=by omega
   rw[kG hi1,kG hi2,eqb_cons]
   exact h1 i hi1 hi2 _ (ih (i+1) (by omega))
 have:=key xs.length 0 (by omega)
 simpa using this
end Go.Abs
namespace Go.Abs
def letB (c:UInt8):Bool:=(decide (97≤c.toNat)&&decide (c.toNat≤122))||(decide (65≤c.toNat)&&decide (c.toNat≤90))
def TJ (c:UInt8):Bool:=letB c||c==95
def W7 (c:UInt8):Bool:=decide (48≤c.toNat)&&decide (c.toNat≤57)
def TK (c:UInt8):Bool:=TJ c||(W7 c||c==39)
def kws:List Str:=[[102,117,110],[108,101,116],[105,110],[83,105,103,109,97],[80,114,111,112],[84,121,112,101],
       [98,121],[97,120,105,111,109],[100,101,102],[116,104,101,111,114,101,109],
       [105,110,100,117,99,116,105,118,101],[102,117,110,99,116,105,111,110],[97,110,100],
       [101,110,100],[99,108,97,115,115],[105,110,115,116,97,110,99,101],
       [110,111,116,97,116,105,111,110],[110,97,109,101,115,112,97,99,101],[111,112,101,110],
       [99,104,101,99,107],[101,118,97,108],[105,109,112,111,114,116]]
def Bm:List Str:=[[40],[41],[40,41],[123],[125],[91],[93],[44],[59],[58],[58,61],[45,62],[61,62],[124],[64],
     [43],[95],[46,123],[46,49],[46,50],[60,124,62]]
def signs:Str:=[33,35,36,37,38,42,43,45,47,58,60,61,62,63,64,92,94,124,126]
def OO (c:UInt8):Bool:=signs.contains c
def dd:Str→Bool
 |[]=>false
 |x::r=>(x==45&&r.head?==some 45)||dd r
def PX (s:Str):Bool:=
 match s with
 |[]=>false
 |c::t=>bif TJ c then (c::t).all TK&&(!((c::t)==[95])&& !kws.contains (c::t)) else (c::t).all OO&&(!dd (c::t)&&(decide ((c::t).length≤8)&&(!Bm.contains (c::t)||(c::t)==[43])))
abbrev cap:Nat:=1048640
def Rf (c:UInt8):Bool:=(decide (97≤(c.toNat:Int))&&decide ((c.toNat:Int)≤122))||((decide (65≤(c.toNat:Int))&&decide ((c.toNat:Int)≤90))||((c.toNat:Int)==95))
def Fa:Bool→Str→Bool
 |b,[]=> !b
 |b,c::s=>bif Rf c then Fa false s else bif b then false else bif ((c.toNat:Int)==46) then Fa true s else bif ((c.toNat:Int)==39)||(decide (48≤(c.toNat:Int))&&decide ((c.toNat:Int)≤57)) then Fa false s else false
def F3 (s:Str):Bool:=Fa true s&&decide ((s.length:Int)≤64)
end Go.Abs
namespace Go.Abs
def A3 (n:Notation):Bool:=n.parts.getD 0 []==[]
def Jj (n:Notation):Bool:=n.parts.getD (n.parts.length-1) []==[]
def MM:List Str→Bool
 |x::y::r=>(x==[]&&y==[])||MM (y::r)
 |_=>false
def yC (n:Notation):Int:=
 bif decide (n.parts.length=0)||decide (16<n.parts.length) then 6
 else bif MM n.parts||n.parts.all (· ==[]) then 3
 else bif n.parts.all (fun s=>s==[]||PX s) then
  (bif decide (n.level<0)||(decide (100<n.level)||(decide (n.assoc<0)||decide (2<n.assoc))) then 2
  else bif !(n.assoc==0)&& !(A3 n&&Jj n) then 1 else bif F3 n.target then 0 else 29)
 else 4
def qx (n:Notation):Str:=bif A3 n then n.parts.getD 1 [] else n.parts.getD 0 []
def rQ (n:Notation):List Str:=bif A3 n then n.parts.drop 2 else n.parts.drop 1
def xR (a b:Notation):Bool:=(A3 a&&(rQ b).contains (qx a))||(A3 b&&(rQ a).contains (qx b))
def Cu (t n:Notation):Bool:=A3 t==A3 n&&qx t==qx n
def Dj (T:List Notation) (n:Notation):Int:=
 bif yC n==0 then (bif decide (100≤T.length) then 6 else bif xR n n||T.any (fun t=>Cu t n||xR t n) then 8 else 0) else yC n
def QF (pre:List Notation):List Notation→Bool
 |[]=>true
 |n::r=>Dj pre n==0&&QF (pre++[n]) r
def Fb (T:List Notation):Bool:=QF [] T
def uV (T:List Notation) (s:Str) (c:Bool):Option Notation:=T.find? fun n=>A3 n==c&&qx n==s
structure Ok (n:Notation):Prop where
 pos:0<n.parts.length
 W8:n.parts.length≤16
 adj:MM n.parts=false
 sym:n.parts.all (· ==[])=false
 lo:0≤n.level
 hi:n.level≤100
 alo:0≤n.assoc
 ahi:n.assoc≤2
theorem Ok.of {n:Notation} (h:yC n=0):Ok n:=by
 unfold yC at h
 cases h1:decide (n.parts.length=0)||decide (16<n.parts.length) with
 |true=>rw[h1] at h;exact absurd h (by simp)
 |false=>
  rw[h1,cond_false] at h
  cases h2:MM n.parts||n.parts.all (· ==[]) with
  |true=>rw[h2] at h;exact absurd h (by simp)
  |false=>
   rw[h2,cond_false] at h
   cases h3:n.parts.all (fun s=>s==[]||PX s) with
   |false=>rw[h3] at h;exact absurd h (by simp)
   |true=>
    rw[h3,cond_true] at h
    cases h4:decide (n.level<0)||(decide (100<n.level)||(decide (n.assoc<0)||decide (2<n.assoc))) with
    |true=>rw[h4] at h;exact absurd h (by simp)
    |false=>
     simp only[k8,decide_eq_false_iff_not] at h1 h2 h4
     exact ⟨by omega,by omega,h2.1,h2.2,by omega,by omega,by omega,by omega⟩
structure MN (T:List Notation):Prop where
 chk: ∀n∈T,yC n=0
 conf: ∀a∈T,∀b∈T,xR a b=false
 uniq: ∀a∈T,∀b∈T,Cu a b=true→a=b
 len:T.length≤100
theorem confT_symm (a b:Notation):xR a b=xR b a:=by unfold xR;rw[mE]
theorem sameH_symm {a b:Notation} (h:Cu a b=true):Cu b a=true:=by
 unfold Cu at*
 simp only[k9,beq_iff_eq] at*
 exact ⟨h.1.symm,h.2.symm⟩
theorem addT_zero {T:List Notation} {n:Notation} (h:Dj T n=0):yC n=0∧T.length<100∧xR n n=false∧ ∀t∈T,Cu t n=false∧xR t n=false:=by
 unfold Dj at h
 cases h1:yC n==0 with
 |false=>rw[h1,cond_false] at h;rw[h] at h1;exact absurd h1 (by decide)
 |true=>
  rw[h1,cond_true] at h
  cases h2:decide (100≤T.length) with
  |true=>rw[h2] at h;exact absurd h (by simp)
  |false=>
   rw[h2,cond_false] at h
   cases h3:xR n n||T.any (fun t=>Cu t n||xR t n) with
   |true=>rw[h3] at h;exact absurd h (by simp)
   |false=>
    rw[k8] at h3
    have h2:=of_decide_eq_false h2
    refine ⟨beq_iff_eq.1 h1,by omega,h3.1,fun t ht=> ?_⟩
    have:=List.any_eq_false.1 h3.2 t ht
    simpa only[Bool.not_eq_true,k8] using this
theorem MN.nil:MN []:=⟨by simp,by simp,by simp,by simp⟩
theorem MN.snoc {T:List Notation} {n:Notation} (g:MN T) (h:Dj T n=0):MN (T++[n]):=by
 obtain ⟨h1,h2,h3,h4⟩:=addT_zero h
 refine ⟨fun a ha=> ?_,fun a ha b hb=> ?_,fun a ha b hb e=> ?_,by rw[kL,kM];omega⟩
 ·rcases k5.1 ha with ha|ha
  ·exact g.chk a ha
  ·rw[kR.1 ha];exact h1
 ·rcases k5.1 ha with ha|ha<;>rcases k5.1 hb with hb|hb
  ·exact g.conf a ha b hb
  ·rw[kR.1 hb];exact (h4 a ha).2
  ·rw[kR.1 ha,confT_symm];exact (h4 b hb).2
  ·rw[kR.1 ha,kR.1 hb];exact h3
 ·rcases k5.1 ha with ha|ha<;>rcases k5.1 hb with hb|hb
  ·exact g.uniq a ha b hb e
  ·rw[kR.1 hb] at e;rw[(h4 a ha).1] at e;exact absurd e (by decide)
  ·rw[kR.1 ha] at e;have:=sameH_symm e;rw[(h4 b hb).1] at this;exact absurd this (by decide)
  ·rw[kR.1 ha,kR.1 hb]
theorem MN.go: ∀ {r pre:List Notation},MN pre→QF pre r=true→MN (pre++r)
 |[],pre,g,_=>by rw[lD];exact g
 |n::r,pre,g,h=>by
  rw[QF,k9,beq_iff_eq] at h
  have:=MN.go (g.snoc h.1) h.2
  rwa [k4] at this
theorem MN.of {T:List Notation} (h:Fb T=true):MN T:=by simpa using MN.go MN.nil h
theorem MN.ok {T:List Notation} (g:MN T) {n:Notation} (h:n∈T):Ok n:=Ok.of (g.chk n h)
theorem AT {T:List Notation} {s:Str} {c:Bool} {n:Notation} (h:uV T s c=some n):n∈T∧A3 n=c∧qx n=s:=by
 have h1:=lI h
 have h2:=List.find?_some h
 simp only[k9,beq_iff_eq] at h2
 exact ⟨h1,h2⟩
theorem DB {T:List Notation} (g:MN T) {n:Notation} (h:n∈T):uV T (qx n) (A3 n)=some n:=by
 cases hf:uV T (qx n) (A3 n) with
 |none=>
  have:=List.find?_eq_none.1 hf n h
  simp at this
 |some m=>
  obtain ⟨a,b,c⟩:=AT hf
  rw[g.uniq m a n h (by unfold Cu;simp [b,c])]
theorem ZB: ∀ {l:List Str} {i:Nat},MM l=false→i+1<l.length→l.getD i []=[]→l.getD (i+1) []≠[]
 |[],i,_,h,_=>by simp at h
 |[x],i,_,h,_=>by simp at h
 |x::y::r,0,h,_,e=>by
  rw[MM,k8,Bool.and_eq_false_iff] at h
  intro e2
  have e:x=[]:=by simpa using e
  have e2:y=[]:=by simpa using e2
  subst e e2
  simp at h
 |x::y::r,i+1,h,hl,e=>by
  rw[MM,k8] at h
  have:=ZB (l:=y::r) (i:=i) h.2 (by simpa using hl) (by simpa using e)
  simpa using this
theorem Ok.ZC {n:Notation} (k:Ok n) (h:A3 n=true):2≤n.parts.length:=by
 have hp:=k.pos
 match hn:n.parts with
 |[]=>rw[hn] at hp;simp at hp
 |[x]=>
  unfold A3 at h
  rw[hn] at h
  have:=k.sym
  rw[hn] at this
  simp at h this
  exact absurd h this
 |x::y::r=>simp
theorem Ok.head_ne {n:Notation} (k:Ok n):qx n≠[]:=by
 unfold qx
 cases h:A3 n with
 |true=>
  rw[cond_true]
  exact ZB k.adj (by have:=k.ZC h;omega) (by unfold A3 at h;exact beq_iff_eq.1 h)
 |false=>rw[cond_false];unfold A3 at h;exact beq_eq_false_iff_ne.1 h
end Go.Abs
namespace Go.Abs
def L5 (n:Notation):Bool:=A3 n&&Jj n
def rG (n:Notation) (i:Nat):Int:=
 bif decide (0<i)&&decide (i<n.parts.length-1) then 0
 else bif (L5 n&&(decide (i=0)&& !(n.assoc==1)))||(L5 n&&(decide (0<i)&& !(n.assoc==2))) then n.level+1 else n.level
def nameN (s:Str) (f t:Int):Syntax:= .mk 0 s 0 [] [] [] f t
def ZD (o x:Syntax) (f t:Int):Syntax:= .mk 2 [] 0 [] [] [o,x] f t
def ZE (o:Syntax) (ops:List Syntax) (f t:Int):Syntax:=ops.foldl (fun o x=>ZD o x f t) o
def L6 (n:Notation) (ops:List Syntax) (f t:Int):Syntax:=ZE (nameN n.target f t) ops f t
def L7:List Syntax→Option Str
 |[]=>none
 |x::_=>bif x.kind==17 then some x.text else none
inductive W9 where
 |parts (n:Notation) (ps:List Str) (i:Nat) (ops:List Syntax) (e:Int) (r:List Syntax)
 |first (m:Int) (r:List Syntax)
 |loop (m:Int) (out:Syntax) (has:Int) (r:List Syntax)
 |level (m:Int) (r:List Syntax)
inductive Out where
 |bad (r:List Syntax)
 |val (x:Syntax) (h:Int) (r:List Syntax)
 |ops (l:List Syntax) (e:Int) (r:List Syntax)
def TL (T:List Notation) (m has:Int) (r:List Syntax):Option Notation:=
 match L7 r with
 |none=>none
 |some s=>match uV T s true with
  |none=>none
  |some n=>bif decide (n.level<m)||decide (has<rG n 0) then none else some n
def ZF (T:List Notation) (m:Int) (x:Syntax):Option Notation:=
 match uV T x.text false with
 |none=>none
 |some n=>bif Jj n&&decide (n.level<m) then none else some n
def outLev (n:Notation):Int:=bif Jj n then n.level else 101
inductive C2 (T:List Notation):W9→Out→Prop
 |Hu {n i ops e r}:C2 T (.parts n [] i ops e r) (.ops ops e r)
 |OP {n ps i ops e r q}:C2 T (.level (rG n i) r) (.bad q)→C2 T (.parts n ([]::ps) i ops e r) (.bad q)
 |hole {n ps i ops e r x h q o}:C2 T (.level (rG n i) r) (.val x h q)→C2 T (.parts n ps (i+1) (ops++[x]) x.to q) o→C2 T (.parts n ([]::ps) i ops e r) o
 |TM {n s ps i ops e r}:s≠[]→L7 r≠some s→C2 T (.parts n (s::ps) i ops e r) (.bad r)
 |sym {n s ps i ops e y r o}:s≠[]→y.kind=17→y.text=s→C2 T (.parts n ps (i+1) ops y.to r) o→C2 T (.parts n (s::ps) i ops e (y::r)) o
 |JP {m}:C2 T (.first m []) (.bad [])
 |GO {m x r}:x.kind≠17→C2 T (.first m (x::r)) (.val x 101 r)
 |JQ {m x r}:x.kind=17→ZF T m x=none→C2 T (.first m (x::r)) (.bad (x::r))
 |L8 {m x r n q}:x.kind=17→ZF T m x=some n→C2 T (.parts n n.parts 0 [] 0 (x::r)) (.bad q)→C2 T (.first m (x::r)) (.bad q)
 |first {m x r n l e q}:x.kind=17→ZF T m x=some n→C2 T (.parts n n.parts 0 [] 0 (x::r)) (.ops l e q)→C2 T (.first m (x::r)) (.val (L6 n l x.from_ e) (outLev n) q)
 |stop {m out has r}:TL T m has r=none→C2 T (.loop m out has r) (.val out has r)
 |ZG {m out has r n q}:TL T m has r=some n→C2 T (.parts n (n.parts.drop 1) 1 [out] 0 r) (.bad q)→C2 T (.loop m out has r) (.bad q)
 |go {m out has r n l e q o}:TL T m has r=some n→C2 T (.parts n (n.parts.drop 1) 1 [out] 0 r) (.ops l e q)→C2 T (.loop m (L6 n l out.from_ e) n.level q) o→C2 T (.loop m out has r) o
 |JR {m r q}:C2 T (.first m r) (.bad q)→C2 T (.level m r) (.bad q)
 |level {m r x h q o}:C2 T (.first m r) (.val x h q)→C2 T (.loop m x h q) o→C2 T (.level m r) o
def W9.rest:W9→List Syntax
 | .parts _ _ _ _ _ r=>r
 | .first _ r=>r
 | .loop _ _ _ r=>r
 | .level _ r=>r
def Out.rest:Out→List Syntax
 | .bad r=>r
 | .val _ _ r=>r
 | .ops _ _ r=>r
theorem C2.suff {T:List Notation} {c:W9} {o:Out} (h:C2 T c o):o.rest<:+c.rest:=by
 induction h with
 |Hu=>exact lg _
 |OP _ ih=>exact ih
 |hole _ _ ih1 ih2=>exact ih2.trans ih1
 |TM _ _=>exact lg _
 |sym _ _ _ _ ih=>exact ih.trans (mj _ _)
 |JP=>exact lg _
 |GO _=>exact mj _ _
 |JQ _ _=>exact lg _
 |L8 _ _ _ ih=>exact ih
 |first _ _ _ ih=>exact ih
 |stop _=>exact lg _
 |ZG _ _ ih=>exact ih
 |go _ _ _ ih1 ih2=>exact ih2.trans ih1
 |JR _ ih=>exact ih
 |level _ _ ih1 ih2=>exact ih2.trans ih1
def W9.qZ:W9→Bool
 | .parts .. =>true
 |_=>false
def OutOk (c:W9):Out→Prop
 | .bad _=>True
 | .val .. =>c.qZ=false
 | .ops .. =>c.qZ=true
theorem C2.outOk {T:List Notation} {c:W9} {o:Out} (h:C2 T c o):OutOk c o:=by
 induction h with
 |hole _ _ _ ih=>exact ih
 |sym _ _ _ _ ih=>exact ih
 |go _ _ _ _ ih=>exact ih
 |level _ _ _ ih=>exact ih
 |_=>first|trivial|rfl
theorem VN {T:List Notation} {n:Notation} {ps:List Str} {i:Nat} {ops:List Syntax} {e:Int} {r:List Syntax} {o:Out} (h:C2 T (.parts n ps i ops e r) o):(∃q,o= .bad q)∨ ∃l e' q,o= .ops l e' q:=by
 have:=h.outOk
 match o,this with
 | .bad q,_=>exact .inl ⟨q,rfl⟩
 | .val x h q,this=>exact absurd this (by simp [OutOk,W9.qZ])
 | .ops l e' q,_=>exact .inr ⟨l,e',q,rfl⟩
theorem Rt {T:List Notation} {c:W9} {o:Out} (h:C2 T c o) (hc:c.qZ=false):(∃q,o= .bad q)∨ ∃x hh q,o= .val x hh q:=by
 have:=h.outOk
 match o,this with
 | .bad q,_=>exact .inl ⟨q,rfl⟩
 | .val x h q,_=>exact .inr ⟨x,h,q,rfl⟩
 | .ops l e' q,this=>exact absurd this (by simp [OutOk,hc])
theorem JS {T:List Notation} {m:Int} {x:Syntax} {n:Notation} (h:ZF T m x=some n):n∈T∧A3 n=false∧qx n=x.text∧(Jj n=true→m≤n.level):=by
 unfold ZF at h
 split at h
 ·exact absurd h (by simp)
 ·rename_i n' hf
  cases hc:Jj n'&&decide (n'.level<m) with
  |true=>rw[hc] at h;exact absurd h (by simp)
  |false=>
   rw[hc,cond_false,lQ] at h
   subst h
   obtain ⟨a,b,c⟩:=AT hf
   refine ⟨a,b,c,fun hr=> ?_⟩
   rw[hr,kI] at hc
   have:=of_decide_eq_false hc
   omega
theorem VO {r:List Syntax} {s:Str} (h:L7 r=some s): ∃y r',r=y::r'∧y.kind=17∧y.text=s:=by
 match r with
 |[]=>simp [L7] at h
 |y::r'=>
  have h:(bif y.kind==17 then some y.text else none)=some s:=h
  cases hk:y.kind==17 with
  |false=>rw[hk] at h;simp at h
  |true=>rw[hk] at h;exact ⟨y,r',rfl,beq_iff_eq.1 hk,by simpa using h⟩
theorem Xa {y:Syntax} {r:List Syntax} (h:y.kind=17):L7 (y::r)=some y.text:=by
 show (bif y.kind==17 then some y.text else none)=some y.text
 rw[beq_iff_eq.2 h];rfl
theorem JT {T:List Notation} {m has:Int} {r:List Syntax} {n:Notation} (h:TL T m has r=some n):n∈T∧A3 n=true∧L7 r=some (qx n)∧m≤n.level∧rG n 0≤has:=by
 unfold TL at h
 split at h
 ·exact absurd h (by simp)
 ·rename_i s hs
  split at h
  ·exact absurd h (by simp)
  ·rename_i n' hf
   cases hc:decide (n'.level<m)||decide (has<rG n' 0) with
   |true=>rw[hc] at h;exact absurd h (by simp)
   |false=>
    rw[hc,cond_false,lQ] at h
    subst h
    obtain ⟨a,b,c⟩:=AT hf
    rw[k8] at hc
    have h1:=of_decide_eq_false hc.1
    have h2:=of_decide_eq_false hc.2
    exact ⟨a,b,by rw[hs,c],by omega,by omega⟩
theorem TN {n:Notation} (h:A3 n=true):qx n=n.parts.getD 1 []:=by unfold qx;rw[h];rfl
theorem QG {n:Notation} (h:A3 n=false):qx n=n.parts.getD 0 []:=by unfold qx;rw[h];rfl
theorem parts_left {n:Notation} (k:Ok n) (h:A3 n=true):n.parts=[]::qx n::n.parts.drop 2:=by
 have h2:=k.ZC h
 rw[TN h]
 unfold A3 at h
 match hp:n.parts with
 |[]=>rw[hp] at h2;simp at h2
 |[x]=>rw[hp] at h2;simp at h2
 |x::y::r=>rw[hp] at h;have:x=[]:=by simpa using h
           rw[this];rfl
theorem ZH {n:Notation} (k:Ok n) (h:A3 n=false):n.parts=qx n::n.parts.drop 1:=by
 have h2:=k.pos
 rw[QG h]
 match hp:n.parts with
 |[]=>rw[hp] at h2;simp at h2
 |x::r=>rfl
theorem C2.total {T:List Notation} (g:MN T): ∀ (k:Nat) (m:Int) (r:List Syntax),r.length≤k→ ∃o,C2 T (.level m r) o∧(∀x h q,o= .val x h q→q.length<r.length):=by
 intro k
 induction k with
 |zero=>
  intro m r hr
  have:r=[]:=lP.1 (by omega)
  subst this
  exact ⟨_,.JR .JP,fun x h q e=>by cases e⟩
 |succ k ih=>
  intro m r hr
  have parts: ∀ (n:Notation) (ps:List Str) (i:Nat) (ops:List Syntax) (e:Int) (r:List Syntax),r.length≤k→ ∃o,C2 T (.parts n ps i ops e r) o:=by
   intro n ps
   induction ps with
   |nil=>intro i ops e r _;exact ⟨_,.Hu⟩
   |cons s ps ihp=>
    intro i ops e r hr
    by_cases hs:s=[]
    ·subst hs
     obtain ⟨o,ho,_⟩:=ih (rG n i) r hr
     rcases Rt ho rfl with ⟨q,rfl⟩|⟨x,h,q,rfl⟩
     ·exact ⟨_,.OP ho⟩
     ·obtain ⟨o,h2⟩:=ihp (i+1) (ops++[x]) x.to q (Nat.le_trans ho.suff.length_le hr)
      exact ⟨_,.hole ho h2⟩
    ·by_cases hq:L7 r=some s
     ·obtain ⟨y,r',rfl,h1,h2⟩:=VO hq
      rw[kJ] at hr
      obtain ⟨o,h3⟩:=ihp (i+1) ops y.to r' (by omega)
      exact ⟨_,.sym hs h1 h2 h3⟩
     ·exact ⟨_,.TM hs hq⟩
  have parts2: ∀ (n:Notation) (ps:List Str) (i:Nat) (ops:List Syntax) (e:Int) (y:Syntax) (r:List Syntax),r.length≤k→qx n≠[]→y.kind=17→y.text=qx n→ ∃o,C2 T (.parts n (qx n::ps) i ops e (y::r)) o∧o.rest<:+r:=by
   intro n ps i ops e y r hr h0 h1 h2
   obtain ⟨o,ho⟩:=parts n ps (i+1) ops y.to r hr
   exact ⟨_,.sym h0 h1 h2 ho,ho.suff⟩
  have loop: ∀ (j:Nat) (m:Int) (out:Syntax) (has:Int) (r:List Syntax),r.length≤j→j≤k→ ∃o,C2 T (.loop m out has r) o:=by
   intro j
   induction j with
   |zero=>
    intro m out has r hr _
    have:r=[]:=lP.1 (by omega)
    subst this
    exact ⟨_,.stop rfl⟩
   |succ j ihj=>
    intro m out has r hr hj
    cases hg:TL T m has r with
    |none=>exact ⟨_,.stop hg⟩
    |some n=>
     obtain ⟨hn,hl,hs,_,_⟩:=JT hg
     obtain ⟨y,r',rfl,h1,h2⟩:=VO hs
     rw[kJ] at hr
     have kn:=g.ok hn
     have hp:n.parts.drop 1=qx n::n.parts.drop 2:=by
      conv=>lhs;rw[parts_left kn hl]
      rfl
     obtain ⟨o,ho,hsf⟩:=parts2 n (n.parts.drop 2) 1 [out] 0 y r' (by omega) kn.head_ne h1 h2
     rw[←hp] at ho
     rcases VN ho with ⟨q,rfl⟩|⟨l,e,q,rfl⟩
     ·exact ⟨_,.ZG hg ho⟩
     ·have:=hsf.length_le
      obtain ⟨o,h3⟩:=ihj m (L6 n l out.from_ e) n.level q (by simp only[Out.rest] at this;omega) (by omega)
      exact ⟨_,.go hg ho h3⟩
  have first: ∃o,C2 T (.first m r) o∧(∀x h q,o= .val x h q→q.length<r.length):=by
   match r,hr with
   |[],_=>exact ⟨_,.JP,fun x h q e=>by cases e⟩
   |x::r,hr=>
    rw[kJ] at hr
    by_cases hx:x.kind=17
    ·cases hb:ZF T m x with
     |none=>exact ⟨_,.JQ hx hb,fun x h q e=>by cases e⟩
     |some n=>
      obtain ⟨hn,hl,hh,_⟩:=JS hb
      have kn:=g.ok hn
      obtain ⟨o,ho,hsf⟩:=parts2 n (n.parts.drop 1) 0 [] 0 x r (by omega) kn.head_ne hx hh.symm
      rw[←ZH kn hl] at ho
      rcases VN ho with ⟨q,rfl⟩|⟨l,e,q,rfl⟩
      ·exact ⟨_,.L8 hx hb ho,fun x h q e=>by cases e⟩
      ·refine ⟨_,.first hx hb ho,fun x' h' q' e'=> ?_⟩
       cases e'
       have:=hsf.length_le
       simp only[Out.rest] at this
       rw[kJ];omega
    ·exact ⟨_,.GO hx,fun x h q e=>by cases e;simp⟩
  obtain ⟨o,ho,hlt⟩:=first
  rcases Rt ho rfl with ⟨q,rfl⟩|⟨x,h,q,rfl⟩
  ·exact ⟨_,.JR ho,fun x h q e=>by cases e⟩
  ·have hq:=hlt x h q rfl
   obtain ⟨o,h2⟩:=loop k m x h q (by omega) (kS _)
   refine ⟨o,.level ho h2,fun x' h' q' e'=> ?_⟩
   have:=h2.suff.length_le
   rw[e'] at this
   simp only[Out.rest,W9.rest] at this
   omega
end Go.Abs
namespace Go.Abs
theorem Syntax.OQ {e x:Syntax} (h:x∈e.kids):kW x<kW e:=by
 cases e
 have:=List.sizeOf_lt_of_mem h
 simp only[Syntax.kids] at this
 simp only[Syntax.mk.sizeOf_spec]
 omega
theorem Syntax.ind {P:Syntax→Prop} (h: ∀e,(∀x∈e.kids,P x)→P e): ∀e,P e:=by
 have: ∀ (k:Nat) (e:Syntax),kW e≤k→P e:=by
  intro k
  induction k with
  |zero=>intro e he;exact h e fun x hx=>absurd (Syntax.OQ hx) (by omega)
  |succ k ih=>intro e he;exact h e fun x hx=>ih x (by have:=Syntax.OQ hx;omega)
 exact fun e=>this _ e (kS _)
def Hv (e:Syntax):Option (Syntax×Syntax):=bif e.kind==2 then (match e.kids with|[a,b]=>some (a,b)|_=>none) else none
theorem Fc {e a b:Syntax} (h:Hv e=some (a,b)):e.kind=2∧e.kids=[a,b]:=by
 unfold Hv at h
 cases hk:e.kind==2 with
 |false=>rw[hk] at h;simp at h
 |true=>
  rw[hk,cond_true] at h
  refine ⟨beq_iff_eq.1 hk,?_⟩
  split at h
  ·rename_i x y he
   simp only[lQ,Prod.mk.injEq] at h
   rw[he,h.1,h.2]
  ·exact absurd h (by simp)
theorem TO {e a b:Syntax} (h:Hv e=some (a,b)):kW a<kW e∧kW b<kW e:=by
 have:=(Fc h).2
 exact ⟨Syntax.OQ (by rw[this];simp),Syntax.OQ (by rw[this];simp)⟩
def tW (e:Syntax):Syntax×List Syntax:=
 match h:Hv e with
 |none=>(e,[])
 |some (a,b)=>((tW a).1,(tW a).2++[b])
termination_by kW e
decreasing_by all_goals exact (TO h).1
theorem F4 {e:Syntax} (h:Hv e=none):tW e=(e,[]):=by
 rw[tW];split
 ·rfl
 ·rename_i h2;rw[h] at h2;cases h2
theorem F5 {e a b:Syntax} (h:Hv e=some (a,b)):tW e=((tW a).1,(tW a).2++[b]):=by
 rw[tW];split
 ·rename_i h2;rw[h] at h2;cases h2
 ·rename_i x y h2
  rw[h] at h2
  cases h2
  rfl
def Jg (n:Notation):Nat:=n.parts.countP (· ==[])
def wS (T:List Notation) (e:Syntax):Option (Notation×List Syntax):=
 bif (tW e).1.kind==0&&((tW e).1.levels.length==0&&(tW e).1.num==0) then
  (match T.find? (fun n=>n.target==(tW e).1.text) with
  |none=>none
  |some n=>bif Jg n==(tW e).2.length then some (n,(tW e).2) else none)
 else none
theorem ZI: ∀ (e:Syntax),∀x∈(tW e).2,kW x<kW e:=by
 intro e
 induction e using Syntax.ind with
 |h e ih=>
  intro x hx
  cases hk:Hv e with
  |none=>rw[F4 hk] at hx;exact absurd hx (by simp)
  |some p=>
   obtain ⟨a,b⟩:=p
   rw[F5 hk] at hx
   have hs:=TO hk
   rcases k5.1 hx with h|h
   ·have:=ih a (by rw[(Fc hk).2];simp) x h
    omega
   ·rw[kR.1 h];exact hs.2
structure App (T:List Notation) (e:Syntax) (n:Notation) (l:List Syntax):Prop where
 mem:n∈T
 kind:(tW e).1.kind=0
 levels:(tW e).1.levels=[]
 num:(tW e).1.num=0
 text:(tW e).1.text=n.target
 ops:(tW e).2=l
 holes:Jg n=l.length
theorem vi {T:List Notation} {e:Syntax} {n:Notation} {l:List Syntax} (h:wS T e=some (n,l)):App T e n l:=by
 unfold wS at h
 cases hc:(tW e).1.kind==0&&((tW e).1.levels.length==0&&(tW e).1.num==0) with
 |false=>rw[hc] at h;simp at h
 |true=>
  rw[hc,cond_true] at h
  simp only[k9,beq_iff_eq] at hc
  split at h
  ·simp at h
  ·rename_i m hf
   cases hh:Jg m==(tW e).2.length with
   |false=>rw[hh] at h;simp at h
   |true=>
    rw[hh,cond_true] at h
    simp only[lQ,Prod.mk.injEq] at h
    obtain ⟨rfl,h⟩:=h
    have h2:=List.find?_some hf
    simp only[beq_iff_eq] at h2 hh
    exact ⟨lI hf,hc.1,lP.1 hc.2.1,hc.2.2,h2.symm,h,by rw[hh,h]⟩
theorem App.size {T:List Notation} {e:Syntax} {n:Notation} {l:List Syntax} (h:App T e n l): ∀x∈l,kW x<kW e:=by
 intro x hx
 rw[←h.ops] at hx
 exact ZI e x hx
def KO (T:List Notation) (n:Notation) (i:Nat) (x:Syntax):Bool:=
 match wS T x with
 |none=>false
 |some (m,_)=> !((A3 m||Jj m)&&decide (m.level<rG n i))
def A4 (n:Notation):Nat:=n.parts.length-1
def Am (T:List Notation) (e:Syntax):Int:=
 match h:wS T e with
 |none=>1000
 |some (m,l)=>
  bif Jj m then
   (match h2:l.getLast? with
   |none=>rG m (A4 m)
   |some x=>bif KO T m (A4 m) x then min (rG m (A4 m)) (Am T x) else rG m (A4 m))
  else 1000
termination_by kW e
decreasing_by exact (vi h).size x (List.mem_of_getLast? h2)
def KP (T:List Notation) (n:Notation) (i:Nat) (x:Syntax):Bool:=KO T n i x&&(decide (0<i)||decide (n.level<Am T x))
def symN (s:Str):Syntax:= .mk 17 s 0 [] [] [] 0 0
inductive Xb where
 |expr (e:Syntax)
 |parts (n:Notation) (ps:List Str) (i:Nat) (l:List Syntax)
inductive Ug (T:List Notation):Xb→List Syntax→Prop
 |leaf {e}:wS T e=none→Ug T (.expr e) [e]
 |app {e n l o}:wS T e=some (n,l)→Ug T (.parts n n.parts 0 l) o→Ug T (.expr e) o
 |nil {n i l}:Ug T (.parts n [] i l) []
 |sym {n s ps i l o}:s≠[]→Ug T (.parts n ps (i+1) l) o→Ug T (.parts n (s::ps) i l) (symN s::o)
 |apart {n ps i x l o1 o2}:KP T n i x=true→Ug T (.expr x) o1→Ug T (.parts n ps (i+1) l) o2→Ug T (.parts n ([]::ps) i (x::l)) (o1++o2)
 |whole {n ps i x l o}:KP T n i x=false→Ug T (.parts n ps (i+1) l) o→Ug T (.parts n ([]::ps) i (x::l)) (x::o)
theorem Ug.total (T:List Notation): ∀ (k:Nat) (e:Syntax),kW e≤k→ ∃o,Ug T (.expr e) o:=by
 intro k
 induction k with
 |zero=>intro e he;cases e;simp only[Syntax.mk.sizeOf_spec] at he;omega
 |succ k ih=>
  intro e he
  cases ha:wS T e with
  |none=>exact ⟨_,.leaf ha⟩
  |some p=>
   obtain ⟨n,l⟩:=p
   have A:=vi ha
   have parts: ∀ (ps:List Str) (i:Nat) (l:List Syntax),(∀x∈l,kW x≤k)→ps.countP (· ==[])=l.length→ ∃o,Ug T (.parts n ps i l) o:=by
    intro ps
    induction ps with
    |nil=>intro i l _ _;exact ⟨_,.nil⟩
    |cons s ps ihp=>
     intro i l hl hc
     by_cases hs:s=[]
     ·subst hs
      rw[lX] at hc
      match l,hl,hc with
      |[],_,hc=>simp at hc
      |x::l,hl,hc=>
       obtain ⟨o2,h2⟩:=ihp (i+1) l (fun y hy=>hl y (lz _ hy)) (by simpa using hc)
       cases hap:KP T n i x with
       |true=>
        obtain ⟨o1,h1⟩:=ih x (hl x lE)
        exact ⟨_,.apart hap h1 h2⟩
       |false=>exact ⟨_,.whole hap h2⟩
     ·rw[lX] at hc
      obtain ⟨o,h⟩:=ihp (i+1) l hl (by simpa [hs] using hc)
      exact ⟨_,.sym hs h⟩
   obtain ⟨o,ho⟩:=parts n.parts 0 l (fun x hx=>by have:=A.size x hx;omega) A.holes
   exact ⟨o,.app ha ho⟩
inductive O5 (pl:Bool):Syntax→Syntax→Prop
 |mk {a b:Syntax}:a.kind=b.kind→a.text=b.text→a.num=b.num→a.names=b.names→a.levels=b.levels→(pl=true→a.from_=b.from_∧a.to=b.to)→a.kids.length=b.kids.length→(∀i (h1:i<a.kids.length) (h2:i<b.kids.length),O5 pl a.kids[i] b.kids[i])→O5 pl a b
theorem O5.refl (pl:Bool): ∀e:Syntax,O5 pl e e:=by
 intro e
 induction e using Syntax.ind with
 |h e ih=>exact .mk rfl rfl rfl rfl rfl (fun _=>⟨rfl,rfl⟩) rfl fun i h1 h2=>ih _ (kQ h1)
inductive TP:Syntax→Prop
 |mk {e:Syntax}:e.kind≠17→(∀x∈e.kids,TP x)→TP e
theorem TP.kind {e:Syntax} (h:TP e):e.kind≠17:=by cases h;assumption
theorem TP.kids {e:Syntax} (h:TP e): ∀x∈e.kids,TP x:=by cases h;assumption
inductive ZJ:Syntax→Prop
 |mk {e:Syntax}:(e.kind=2→e.text=[]∧e.num=0∧e.names=[]∧e.levels=[])→(e.kind=0→e.names=[]∧e.kids=[])→(∀x∈e.kids,ZJ x)→ZJ e
theorem ZJ.app {e:Syntax} (h:ZJ e):e.kind=2→e.text=[]∧e.num=0∧e.names=[]∧e.levels=[]:=by cases h;assumption
theorem ZJ.kids {e:Syntax} (h:ZJ e): ∀x∈e.kids,ZJ x:=by cases h;assumption
theorem spine_all {P:Syntax→Prop} (hP: ∀e,P e→ ∀x∈e.kids,P x): ∀e,P e→P (tW e).1∧ ∀x∈(tW e).2,P x:=by
 intro e
 induction e using Syntax.ind with
 |h e ih=>
  intro he
  cases hk:Hv e with
  |none=>rw[F4 hk];exact ⟨he,fun x hx=>absurd hx (by simp)⟩
  |some p=>
   obtain ⟨a,b⟩:=p
   rw[F5 hk]
   have hm:e.kids=[a,b]:=(Fc hk).2
   have ha:=ih a (by rw[hm];simp) (hP e he a (by rw[hm];simp))
   refine ⟨ha.1,fun x hx=> ?_⟩
   rcases k5.1 hx with h|h
   ·exact ha.2 x h
   ·rw[kR.1 h];exact hP e he b (by rw[hm];simp)
theorem O5.ZD {e o x a b:Syntax} {f t:Int} (hb:ZJ e) (hk:e.kind=2) (hm:e.kids=[a,b]) (h1:O5 false o a) (h2:O5 false x b):O5 false (Go.Abs.ZD o x f t) e:=by
 obtain ⟨e1,e2,e3,e4⟩:=hb.app hk
 refine .mk hk.symm e1.symm e2.symm e3.symm e4.symm (fun h=>by cases h) (by rw[hm];rfl) fun i i1 i2=> ?_
 have i1':i<2:=i1
 simp only[hm]
 match i,i1' with
 |0,_=>exact h1
 |1,_=>exact h2
end Go.Abs
namespace Go.Abs
def Pl:Nat→List Syntax→Prop
 |_,[]=>True
 |i,y::r=>(y.kind=17∨y.kind=12)∧y.from_=10*(i:Int)+1∧y.to=10*(i:Int)+9∧Pl (i+1) r
def opsOf (r:List Syntax):List Syntax:=r.filter fun y=> !(y.kind==17)
def Num12 (a:List Syntax):Prop:= ∀y∈a,y.kind=12
theorem Pl.ops: ∀ {i:Nat} {r:List Syntax},Pl i r→Num12 (opsOf r)
 |_,[],_=>fun y hy=>by simp [opsOf] at hy
 |i,x::r,h=>by
  intro y hy
  unfold opsOf at hy
  rw[List.mem_filter] at hy
  rcases lG.1 hy.1 with e|e
  ·subst e
   rcases h.1 with k|k
   ·have:=hy.2;rw[k] at this;exact absurd this (by decide)
   ·exact k
  ·exact Pl.ops h.2.2.2 y (List.mem_filter.2 ⟨e,hy.2⟩)
end Go.Abs
namespace Go.Abs
set_option maxRecDepth 100000
theorem PY {p:UInt8→Bool} (h:(List.range 256).all (fun n=>p (UInt8.ofNat n))=true) (c:UInt8):p c=true:=by
 have:=List.all_eq_true.1 h c.toNat (List.mem_range.2 c.toNat_lt)
 rwa [UInt8.ofNat_toNat] at this
def PZ (c:UInt8):Int:=bif TJ c then 1 else bif W7 c then 2 else bif c==34 then 3 else 0
theorem TQ (c:UInt8):Ev (fun n=>BH n (c.toNat:Int)) (PZ c):=by
 refine Ev.fn (fun n=>by simp only[BH,II];exact rfl) ?_
 refine Ev.congr Ev.pure (fun _=> ?_)
 have:=PY (p:=fun c=>decide ((bif decide (97≤(c.toNat:Int)) then
  bif decide ((c.toNat:Int)≤122) then some 1
  else
   bif decide (65≤(c.toNat:Int)) then
    bif decide ((c.toNat:Int)≤90) then some 1
    else
     bif (c.toNat:Int)==95 then some 1
     else
      bif decide (48≤(c.toNat:Int)) then bif decide ((c.toNat:Int)≤57) then some 2 else bif (c.toNat:Int)==34 then some 3 else some 0
      else bif (c.toNat:Int)==34 then some 3 else some 0
   else
    bif (c.toNat:Int)==95 then some 1
    else
     bif decide (48≤(c.toNat:Int)) then bif decide ((c.toNat:Int)≤57) then some 2 else bif (c.toNat:Int)==34 then some 3 else some 0
     else bif (c.toNat:Int)==34 then some 3 else some 0
  else
   bif decide (65≤(c.toNat:Int)) then
    bif decide ((c.toNat:Int)≤90) then some 1
    else
     bif (c.toNat:Int)==95 then some 1
     else
      bif decide (48≤(c.toNat:Int)) then bif decide ((c.toNat:Int)≤57) then some 2 else bif (c.toNat:Int)==34 then some 3 else some 0
      else bif (c.toNat:Int)==34 then some 3 else some 0
   else
    bif (c.toNat:Int)==95 then some 1
    else
     bif decide (48≤(c.toNat:Int)) then bif decide ((c.toNat:Int)≤57) then some 2 else bif (c.toNat:Int)==34 then some 3 else some 0
     else bif (c.toNat:Int)==34 then some 3 else some 0)=some (PZ c))) (by kernel_rfl) c
 exact of_decide_eq_true this
theorem letter_ev (c:UInt8):Ev (fun n=>DQ n (c.toNat:Int)) (letB c):=by
 refine Ev.fn (fun n=>by simp only[DQ,G5];exact rfl) ?_
 refine Ev.congr Ev.pure (fun _=> ?_)
 have:=PY (p:=fun c=>decide ((bif decide (97≤(c.toNat:Int)) then
  bif decide ((c.toNat:Int)≤122) then some true else bif decide (65≤(c.toNat:Int)) then some (decide ((c.toNat:Int)≤90)) else some false
  else bif decide (65≤(c.toNat:Int)) then some (decide ((c.toNat:Int)≤90)) else some false)=some (letB c))) (by kernel_rfl) c
 exact of_decide_eq_true this
theorem JU (c:UInt8) (k:Nat) (hk:k<256):((c.toNat:Int)==(k:Int))=(c==UInt8.ofNat k):=by
 rw[kZ,beq_iff_eq,beq_iff_eq]
 constructor
 ·intro h
  have h:c.toNat=k:=by omega
  rw[←h,UInt8.ofNat_toNat]
 ·rintro rfl
  simp [UInt8.toNat_ofNat,Nat.mod_eq_of_lt hk]
theorem P0 (c:UInt8):Ev (fun n=>AG n (c.toNat:Int)) (TJ c):=by
 refine Ev.fn (fun n=>by simp only[AG,Hg];exact rfl) ?_
 refine Ev.bind (letter_ev c) ?_
 unfold TJ
 cases letB c with
 |true=>exact Ev.pure
 |false=>
  simp only[cond_false,kK]
  rw[show ((c.toNat:Int)==95)=(c==95) from JU c 95 (by decide)]
  exact Ev.pure
theorem ZL (c:UInt8):Ev (fun n=>FR n (c.toNat:Int)) (W7 c):=by
 refine Ev.fn (fun n=>by simp only[FR,IP];exact rfl) ?_
 refine Ev.congr Ev.pure (fun _=> ?_)
 have:=PY (p:=fun c=>decide ((bif decide (48≤(c.toNat:Int)) then some (decide ((c.toNat:Int)≤57)) else some false)=some (W7 c))) (by kernel_rfl) c
 exact of_decide_eq_true this
theorem VP (c:UInt8):(PZ c==1)=TJ c:=by unfold PZ;cases TJ c<;>cases W7 c<;>cases (c==34)<;>rfl
theorem class_two (c:UInt8):(PZ c==2)=W7 c:=by
 have:=PY (p:=fun c=>(PZ c==2)==W7 c) (by kernel_rfl) c
 exact eq_of_beq this
theorem inWord_ev (c:UInt8):Ev (fun n=>Ea n (c.toNat:Int)) (TK c):=by
 refine Ev.fn (fun n=>by simp only[Ea,Hf];exact rfl) ?_
 refine Ev.bind (TQ c) ?_
 rw[VP]
 unfold TK
 cases TJ c with
 |true=>exact Ev.pure
 |false=>
  simp only[cond_false,kK]
  refine Ev.bind (TQ c) ?_
  rw[class_two]
  cases W7 c with
  |true=>exact Ev.pure
  |false=>
   simp only[cond_false,kK]
   rw[show ((c.toNat:Int)==39)=(c==39) from JU c 39 (by decide)]
   exact Ev.pure
theorem find_loop {α:Type} [BEq α] [LawfulBEq α] (xs:List α) (v:α) {L:Nat→Nat→Int→Option Bool} (hl:xs.length<4611686018427387904)
 (h: ∀n m k,L n (m+1) k=bif decide (k<(xs.length:Int)) then (zj xs k).bind fun x=>bif x==v then some true else L n m (IntKind.i64.wrap (k+1)) else some false):
 pN (fun n m=>L n m 0) (xs.contains v):=by
 have key: ∀d k:Nat,k+d=xs.length→pN (fun n m=>L n m (k:Int)) ((xs.drop k).contains v):=by
  intro d
  induction d with
  |zero=>
   intro k hk
   refine pN.lp (fun n m=>h n m k) ?_
   have:decide ((k:Int)<(xs.length:Int))=false:=decide_eq_false (by omega)
   simp only[this,cond_false,kH (show xs.length≤k by omega),lF]
   exact pN.pure
  |succ d ih=>
   intro k hk
   have hlt:k<xs.length:=by omega
   refine pN.lp (fun n m=>h n m k) ?_
   have:decide ((k:Int)<(xs.length:Int))=true:=decide_eq_true (by omega)
   simp only[this,cond_true]
   refine pN.idx hlt ?_
   rw[kG hlt,k6]
   rw[show (v==xs[k])=(xs[k]==v) from kZ.2 ⟨fun h=>by simpa using (beq_iff_eq.1 h).symm,fun h=>by simpa using (beq_iff_eq.1 h).symm⟩]
   cases xs[k]==v with
   |true=>exact pN.pure
   |false=>
    simp only[cond_false,kK]
    rw[nJ (by omega)]
    exact ih (k+1) (by omega)
 simpa using key xs.length 0 (by omega)
theorem U0 (s:Str):Ev (fun n=>CH n s) (kws.contains s):=by
 refine Ev.fn (fun n=>by simp only[CH,Gg];exact rfl) ?_
 exact Ev.F6 (F:=fun n m=>Cc n m s kws 0) (find_loop kws s (by decide) (fun n m k=>by simp only[Cc,E4]))
theorem fixed_ev:Ev (fun n=>FT n) Bm:=by
 refine Ev.fn (fun n=>by simp only[FT,IQ];exact rfl) ?_
 exact Ev.pure
theorem fixed_k (k:Nat):FW (k+80)=some Bm:=by kernel_rfl
theorem fixed'_ev:Ev (fun n=>FW n) Bm:=by
 refine ⟨80,fun n hn=> ?_⟩
 obtain ⟨k,rfl⟩: ∃k,n=k+80:=⟨n-80,by omega⟩
 exact fixed_k k
def kwMap:List (Str×Bool):=kws.map fun s=>(s,true)
theorem keywords_k (k:Nat):BM (k+250)=some ((kwMap,()),()):=by kernel_rfl
theorem ZM:Ev (fun n=>BM n) ((kwMap,()),()):=by
 refine ⟨250,fun n hn=> ?_⟩
 obtain ⟨k,rfl⟩: ∃k,n=k+250:=⟨n-250,by omega⟩
 exact keywords_k k
theorem TR (s:Str): ∀xs:List Str,(sI s (xs.map fun x=>(x,true))).getD false=xs.contains s
 |[]=>rfl
 |x::xs=>by
  rw[List.map_cons,sI,k6]
  cases s==x with
  |true=>rfl
  |false=>rw[cond_false,kK];exact TR s xs
theorem Keyword_ev (s:Str):Ev (fun n=>CJ n s) (kws.contains s):=by
 refine Ev.fn (fun n=>by simp only[CJ,Gl];exact rfl) ?_
 refine Ev.bind ZM ?_
 rw[←TR]
 exact Ev.pure
abbrev big:Nat:=4611686018427387904
theorem drop_cons {s:Str} {k:Nat} (h:k<s.length):s.drop k=s[k]::s.drop (k+1):=kG h
def runT (p:UInt8→Bool) (r:Str):Nat:=(r.takeWhile p).length
theorem runT_nil (p:UInt8→Bool):runT p []=0:=rfl
theorem VQ (p:UInt8→Bool) (c:UInt8) (r:Str):runT p (c::r)=bif p c then runT p r+1 else 0:=by
 unfold runT;rw[List.takeWhile_cons];cases p c<;>rfl
theorem run_loop {R:Type} {s:Str} (hs:s.length<big) (p:UInt8→Bool) {L:Nat→Nat→Int→Option R} {r:R} {N:Nat}
 (step: ∀k:Nat,∀hk:k<s.length,p s[k]=true→pN (fun n m=>L n m ((k+1:Nat):Int)) r→pN (fun n m=>L n m (k:Int)) r)
 (stop: ∀k:Nat,k≤s.length→(∀hk:k<s.length,p s[k]=false)→k=N→pN (fun n m=>L n m (k:Int)) r):
 ∀k:Nat,k≤s.length→k+runT p (s.drop k)=N→pN (fun n m=>L n m (k:Int)) r:=by
 have key: ∀d k:Nat,k+d=s.length→k+runT p (s.drop k)=N→pN (fun n m=>L n m (k:Int)) r:=by
  intro d
  induction d with
  |zero=>
   intro k hk hN
   rw[kH (by omega),runT_nil] at hN
   exact stop k (by omega) (fun h=>by omega) (by omega)
  |succ d ih=>
   intro k hk hN
   have hlt:k<s.length:=by omega
   rw[drop_cons hlt,VQ] at hN
   cases hp:p s[k] with
   |true=>
    rw[hp,cond_true] at hN
    exact step k hlt hp (ih (k+1) (by omega) (by omega))
   |false=>
    rw[hp,cond_false] at hN
    exact stop k (by omega) (fun _=>hp) (by omega)
 intro k hk hN
 exact key (s.length-k) k (by omega) hN
def compT (r:Str):Nat:=runT TK r
theorem Xc (s:Str) (hs:s.length<big) (k:Nat) (hk:k≤s.length):Ev (fun n=>AZ n s (k:Int)) ((k+compT (s.drop k):Nat):Int):=by
 refine Ev.fn (fun n=>by simp only[AZ,Ek];exact rfl) ?_
 refine Ev.F6 (F:=fun n m=>wB n m s (k:Int)) ?_
 refine run_loop hs TK (L:=fun n m k=>wB n m s k) (N:=k+compT (s.drop k)) ?_ ?_ k hk rfl
 ·intro k hlt hp next
  refine pN.lp (fun n m=>by simp only[wB,AK];exact rfl) ?_
  have:decide ((k:Int)<(s.length:Int))=true:=decide_eq_true (by omega)
  simp only[this,cond_true]
  refine pN.idx hlt (pN.qW (P0 _) ?_)
  rw[nJ (by simp only[big] at hs;omega)]
  unfold TK at hp
  cases hb:TJ s[k] with
  |true=>simp only[cond_true];exact next
  |false=>
   simp only[cond_false]
   refine pN.idx hlt (pN.qW (ZL _) ?_)
   cases hd:W7 s[k] with
   |true=>simp only[cond_true];exact next
   |false=>
    simp only[cond_false]
    refine pN.idx hlt ?_
    rw[hb,hd,kK,kK] at hp
    rw[show ((s[k].toNat:Int)==39)=(s[k]==39) from JU _ 39 (by decide),hp]
    simp only[cond_true]
    exact next
 ·intro k hle hp hN
  refine pN.lp (fun n m=>by simp only[wB,AK];exact rfl) ?_
  by_cases hlt:k<s.length
  ·have:decide ((k:Int)<(s.length:Int))=true:=decide_eq_true (by omega)
   have hp:=hp hlt
   unfold TK at hp
   simp only[k8] at hp
   obtain ⟨h1,h2,h3⟩:=hp
   simp only[this,cond_true]
   refine pN.idx hlt (pN.qW (P0 _) ?_)
   simp only[h1,cond_false]
   refine pN.idx hlt (pN.qW (ZL _) ?_)
   simp only[h2,cond_false]
   refine pN.idx hlt ?_
   rw[show ((s[k].toNat:Int)==39)=(s[k]==39) from JU _ 39 (by decide),h3]
   simp only[cond_false,hN]
   exact pN.pure
  ·have:decide ((k:Int)<(s.length:Int))=false:=decide_eq_false (by omega)
   simp only[this,cond_false]
   rw[hN]
   exact pN.pure
abbrev Lj:Nat:=4294967281
theorem QH (s sub:Str) (h:s.length<Lj):Ev (fun n=>strings_Contains n s sub) (lK s sub):=by
 refine ⟨1,fun n hn=> ?_⟩
 obtain ⟨k,rfl⟩: ∃k,n=k+1:=⟨n-1,by omega⟩
 show (bif decide (s.length<4294967281) then some (lK s sub) else none)=_
 rw[decide_eq_true h];rfl
theorem sign_ev (c:UInt8):Ev (fun n=>G6 n (c.toNat:Int)) (OO c):=by
 refine ⟨25,fun n hn=> ?_⟩
 obtain ⟨k,rfl⟩: ∃k,n=k+25:=⟨n-25,by omega⟩
 have:=PY (p:=fun c=>decide (G6 (k+25) (c.toNat:Int)=some (OO c))) (by kernel_rfl) c
 exact of_decide_eq_true this
theorem U1 (c:UInt8):lK signs [c]=OO c:=by
 have:=PY (p:=fun c=>decide (lK signs [c]=OO c)) (by kernel_rfl) c
 exact of_decide_eq_true this
theorem beq_sw (a b:UInt8):(a==b)=(b==a):=kZ.2 ⟨fun h=>by simpa using (beq_iff_eq.1 h).symm,fun h=>by simpa using (beq_iff_eq.1 h).symm⟩
theorem QI: ∀s:Str,lK s [45,45]=dd s
 |[]=>rfl
 |x::r=>by
  have ih:=QI r
  have hg:=Lib.index_ge r [45,45]
  unfold lK at ih ⊢
  unfold Lib.index dd
  have hp:([45,45]:List UInt8).isPrefixOf (x::r)=(x==45&&r.head?==some 45):=by
   cases r with
   |nil=>simp [List.isPrefixOf]
   |cons y t=>
    show ((45:UInt8)==x&&((45:UInt8)==y&&([]:List UInt8).isPrefixOf t))=(x==45&&some y==some 45)
    rw[show ([]:List UInt8).isPrefixOf t=true from by cases t<;>rfl,lV,beq_sw 45 x,beq_sw 45 y]
    rfl
  rw[hp,←ih]
  cases x==45&&r.head?==some 45 with
  |true=>rfl
  |false=>
   simp only[Bool.false_eq_true,if_false,kK]
   by_cases h:Lib.index r [45,45]= -1
   ·rw[h];rfl
   ·have:(Lib.index r [45,45]== -1)=false:=by rw[beq_eq_false_iff_ne];exact h
    rw[this]
    simp only[Bool.false_eq_true,if_false]
    exact decide_eq_decide.2 (by omega)
theorem TS {p:UInt8→Bool} {s:Str} {k:Nat} (h:k<s.length):(s.drop k).all p=(p s[k]&&(s.drop (k+1)).all p):=by
 rw[drop_cons h,mB]
theorem ZN (p:UInt8→Bool): ∀r:Str,(runT p r==r.length)=r.all p
 |[]=>rfl
 |x::r=>by
  rw[VQ,mB,kJ,←ZN p r]
  cases p x with
  |true=>simp
  |false=>simp
theorem fixLoop (s:Str):pN (fun n m=>xk n m s Bm ((Bm.length:Nat):Int) 0) (!Bm.contains s||s==[43]):=by
 have key: ∀d k:Nat,k+d=Bm.length→pN (fun n m=>xk n m s Bm ((Bm.length:Nat):Int) (k:Int)) (!(Bm.drop k).contains s||s==[43]):=by
  intro d
  have hle:Bm.length=21:=rfl
  induction d with
  |zero=>
   intro k hk
   refine pN.lp (fun n m=>by simp only[xk,CZ];exact rfl) ?_
   have:decide ((k:Int)<((Bm.length:Nat):Int))=false:=decide_eq_false (by omega)
   simp only[this,cond_false]
   rw[kH (by omega)]
   exact pN.pure
  |succ d ih=>
   intro k hk
   have hlt:k<Bm.length:=by omega
   refine pN.lp (fun n m=>by simp only[xk,CZ];exact rfl) ?_
   have:decide ((k:Int)<((Bm.length:Nat):Int))=true:=decide_eq_true (by omega)
   simp only[this,cond_true]
   refine pN.idx hlt ?_
   rw[kG hlt,k6,show (s==Bm[k])=(Bm[k]==s) from kZ.2 ⟨fun h=>by simpa using (beq_iff_eq.1 h).symm,fun h=>by simpa using (beq_iff_eq.1 h).symm⟩]
   cases Bm[k]==s with
   |true=>simp only[cond_true,kV,kX,kK];exact pN.pure
   |false=>
    simp only[cond_false,kK]
    rw[nJ (by omega)]
    exact ih (k+1) (by omega)
 exact key Bm.length 0 (by omega)
theorem refFixLoop (s:Str):pN (fun n m=>xj n m s Bm 0) (decide (s.length≤8)&&(!Bm.contains s||s==[43])):=by
 have h8:decide ((s.length:Int)≤8)=decide (s.length≤8):=decide_eq_decide.2 (by omega)
 have key: ∀d k:Nat,k+d=Bm.length→pN (fun n m=>xj n m s Bm (k:Int)) (decide (s.length≤8)&&(!(Bm.drop k).contains s||s==[43])):=by
  intro d
  have hle:Bm.length=21:=rfl
  induction d with
  |zero=>
   intro k hk
   refine pN.lp (fun n m=>by simp only[xj,CX];exact rfl) ?_
   have:decide ((k:Int)<((Bm.length:Nat):Int))=false:=decide_eq_false (by omega)
   simp only[this,cond_false]
   rw[kH (by omega),h8]
   simp only[lF,kN,kV,lV]
   exact pN.pure
  |succ d ih=>
   intro k hk
   have hlt:k<Bm.length:=by omega
   refine pN.lp (fun n m=>by simp only[xj,CX];exact rfl) ?_
   have:decide ((k:Int)<((Bm.length:Nat):Int))=true:=decide_eq_true (by omega)
   simp only[this,cond_true]
   refine pN.idx hlt ?_
   rw[kG hlt,k6,show (s==Bm[k])=(Bm[k]==s) from kZ.2 ⟨fun h=>by simpa using (beq_iff_eq.1 h).symm,fun h=>by simpa using (beq_iff_eq.1 h).symm⟩]
   rw[nJ (by omega)]
   have next:=ih (k+1) (by omega)
   cases Bm[k]==s with
   |true=>
    simp only[cond_true,kV,kX,kK]
    cases h43:s==[43] with
    |true=>rw[h43] at next;simp only[cond_true,l7] at next ⊢;exact next
    |false=>simp only[cond_false,lu];exact pN.pure
   |false=>
    simp only[cond_false,kK]
    exact next
 exact key Bm.length 0 (by omega)
theorem Symbol_ev (s:Str) (hs:s.length<Lj):Ev (fun n=>Eo n s) (PX s):=by
 refine Ev.fn (fun n=>by simp only[Eo,Hq];exact rfl) ?_
 simp only[Lj] at hs
 match s with
 |[]=>exact Ev.pure
 |c::t=>
  simp only[show ((c::t)==([]:Str))=false from rfl,cond_false,show zj (c::t) 0=some c from rfl,kF]
  refine Ev.bind (TQ c) ?_
  rw[VP,PX]
  have hs':(c::t).length<4294967281:=hs
  generalize hst:c::t=s at*
  cases TJ c with
  |true=>
   simp only[cond_true]
   have key: ∀d k:Nat,k+d=s.length→pN (fun n m=>yT n m s (s.length:Int) (k:Int)) ((s.drop k).all TK&&(!(s==[95])&& !kws.contains s)):=by
    intro d
    induction d with
    |zero=>
     intro k hk
     refine pN.lp (fun n m=>by simp only[yT,C1];exact rfl) ?_
     have:decide ((k:Int)<(s.length:Int))=false:=decide_eq_false (by omega)
     simp only[this,cond_false]
     rw[kH (by omega)]
     simp only[l8,kI]
     cases s==[95] with
     |true=>exact pN.pure
     |false=>
      simp only[cond_false,kN,kI]
      exact pN.qW (Keyword_ev s) pN.pure
    |succ d ih=>
     intro k hk
     have hlt:k<s.length:=by omega
     refine pN.lp (fun n m=>by simp only[yT,C1];exact rfl) ?_
     have:decide ((k:Int)<(s.length:Int))=true:=decide_eq_true (by omega)
     simp only[this,cond_true]
     refine pN.idx hlt (pN.qW (inWord_ev _) ?_)
     rw[TS hlt]
     cases TK s[k] with
     |false=>simp only[cond_false,kP];exact pN.pure
     |true=>
      simp only[cond_true,kI]
      rw[nJ (by omega)]
      exact ih (k+1) (by omega)
   exact Ev.F6 (F:=fun n m=>yT n m s (s.length:Int) 0) (key s.length 0 (by omega))
  |false=>
   simp only[cond_false]
   have key: ∀d k:Nat,k+d=s.length→pN (fun n m=>yS n m s (s.length:Int) (k:Int)) ((s.drop k).all OO&&(!dd s&&(decide (s.length≤8)&&(!Bm.contains s||s==[43])))):=by
    intro d
    induction d with
    |zero=>
     intro k hk
     refine pN.lp (fun n m=>by simp only[yS,C0];exact rfl) ?_
     have:decide ((k:Int)<(s.length:Int))=false:=decide_eq_false (by omega)
     simp only[this,cond_false]
     rw[kH (by omega)]
     simp only[l8,kI]
     refine pN.qW (QH s [45,45] hs') ?_
     rw[QI]
     cases dd s with
     |true=>simp only[cond_true,kX,kP];exact pN.pure
     |false=>
      simp only[cond_false,kN,kI]
      by_cases h8:s.length≤8
      ·have e1:decide ((8:Int)<(s.length:Int))=false:=decide_eq_false (by omega)
       have e2:decide (s.length≤8)=true:=decide_eq_true h8
       simp only[e1,e2,cond_false,kI]
       exact pN.qW fixed'_ev (pN.Vl (Ev.F6 (F:=fun n m=>xk n m s Bm ((Bm.length:Nat):Int) 0) (fixLoop s)))
      ·have e1:decide ((8:Int)<(s.length:Int))=true:=decide_eq_true (by omega)
       have e2:decide (s.length≤8)=false:=decide_eq_false h8
       simp only[e1,e2,cond_true,kP]
       exact pN.pure
    |succ d ih=>
     intro k hk
     have hlt:k<s.length:=by omega
     refine pN.lp (fun n m=>by simp only[yS,C0];exact rfl) ?_
     rw[nJ (by omega)]
     have e1:decide ((k:Int)<(s.length:Int))=true:=decide_eq_true (by omega)
     have e2:decide ((0:Int)≤(k:Int)∧(k:Int)≤((k+1:Nat):Int)∧((k+1:Nat):Int)≤(s.length:Int))=true:=decide_eq_true (by omega)
     simp only[e1,e2,cond_true,lR]
     rw[show List.drop k (List.take (k+1) s)=[s[k]] from by rw[List.drop_take,Nat.add_sub_cancel_left,drop_cons hlt];rfl]
     refine pN.qW (QH signs [s[k]] (by simp only[Lj];decide)) ?_
     rw[U1,TS hlt]
     cases OO s[k] with
     |false=>simp only[cond_false,kP];exact pN.pure
     |true=>
      simp only[cond_true,kI]
      exact ih (k+1) (by omega)
   exact Ev.F6 (F:=fun n m=>yS n m s (s.length:Int) 0) (key s.length 0 (by omega))
theorem Xd (s:Str) (hs:s.length<Lj):Ev (fun n=>El n s) (PX s):=by
 refine Ev.fn (fun n=>by simp only[El,Ho];exact rfl) ?_
 simp only[Lj] at hs
 match s with
 |[]=>exact Ev.pure
 |c::t=>
  simp only[show ((c::t)==([]:Str))=false from rfl,cond_false,show zj (c::t) 0=some c from rfl,kF]
  refine Ev.bind (P0 c) ?_
  rw[PX]
  have hs':(c::t).length<4294967281:=hs
  generalize hst:c::t=s at*
  cases TJ c with
  |true=>
   simp only[cond_true]
   have hc:=Xc s (by simp only[big];omega) 0 (kT _)
   rw[kO,mF] at hc
   refine Ev.bind hc ?_
   have e:(((compT s:Nat):Int)==(s.length:Int))=s.all TK:=by
    rw[←ZN]
    rw[kZ,beq_iff_eq,beq_iff_eq]
    unfold compT
    omega
   rw[e]
   cases s.all TK with
   |false=>exact Ev.pure
   |true=>
    simp only[cond_true,kI]
    cases s==[95] with
    |true=>exact Ev.pure
    |false=>
     simp only[cond_false,kN,kI]
     exact Ev.bind (U0 s) Ev.pure
  |false=>
   simp only[cond_false]
   have key: ∀d k:Nat,k+d=s.length→pN (fun n m=>yO n m s (k:Int)) ((s.drop k).all OO&&(!dd (s.drop (k-1))&&(decide (s.length≤8)&&(!Bm.contains s||s==[43])))):=by
    intro d
    induction d with
    |zero=>
     intro k hk
     refine pN.lp (fun n m=>by simp only[yO,CY];exact rfl) ?_
     have:decide ((k:Int)<(s.length:Int))=false:=decide_eq_false (by omega)
     simp only[this,cond_false]
     rw[kH (show s.length≤k by omega)]
     simp only[l8,kI]
     have:dd (s.drop (k-1))=false:=by
      match hd:s.drop (k-1) with
      |[]=>rfl
      |[x]=>simp [dd]
      |x::y::r=>
       have:=congrArg lA hd
       rw[kY,kJ,kJ] at this
       omega
     rw[this,kN,kI]
     exact pN.qW fixed_ev (pN.Vl (Ev.F6 (F:=fun n m=>xj n m s Bm 0) (refFixLoop s)))
    |succ d ih=>
     intro k hk
     have hlt:k<s.length:=by omega
     refine pN.lp (fun n m=>by simp only[yO,CY];exact rfl) ?_
     rw[nJ (by omega)]
     have e1:decide ((k:Int)<(s.length:Int))=true:=decide_eq_true (by omega)
     simp only[e1,cond_true]
     refine pN.idx hlt (pN.qW (sign_ev _) ?_)
     rw[TS hlt]
     have next:=ih (k+1) (by omega)
     rw[me] at next
     cases OO s[k] with
     |false=>simp only[cond_false,kP];exact pN.pure
     |true=>
      simp only[cond_true,kI]
      by_cases h0:0<k
      ·have e2:decide ((0:Int)<(k:Int))=true:=decide_eq_true (by omega)
       simp only[e2,cond_true]
       have hk1:k-1<s.length:=by omega
       have hkk:k-1+1=k:=by omega
       have hdd:dd (s.drop (k-1))=((s[k-1]==45&&s[k]==45)||dd (s.drop k)):=by
        rw[drop_cons hk1,dd,hkk]
        congr 2
        rw[drop_cons hlt]
        rfl
       rw[hdd]
       refine pN.idx hlt ?_
       rw[show ((s[k].toNat:Int)==45)=(s[k]==45) from JU _ 45 (by decide)]
       cases s[k]==45 with
       |false=>simp only[cond_false,lu,kK];exact next
       |true=>
        simp only[cond_true,lV]
        rw[wrap_small (by omega) (by omega),show (k:Int)-1=((k-1:Nat):Int) from by omega]
        refine pN.idx hk1 ?_
        rw[show ((s[k-1].toNat:Int)==45)=(s[k-1]==45) from JU _ 45 (by decide)]
        cases s[k-1]==45 with
        |true=>simp only[cond_true,kV,kX,kP,lu];exact pN.pure
        |false=>simp only[cond_false,kK];exact next
      ·have e2:decide ((0:Int)<(k:Int))=false:=decide_eq_false (by omega)
       obtain rfl:k=0:=by omega
       simp only[e2,cond_false]
       exact next
   exact Ev.F6 (F:=fun n m=>yO n m s 0) (key s.length 0 (by omega))
end Go.Abs
namespace Go.Abs
theorem TT (c:UInt8):Ev (fun n=>FQ n (c.toNat:Int)) (Rf c)∧Ev (fun n=>DR n (c.toNat:Int)) (Rf c):=by
 unfold Rf
 constructor
 ·refine Ev.fn (fun n=>by simp only[FQ,IJ];exact rfl) ?_
  cases decide (97≤(c.toNat:Int))<;>cases decide ((c.toNat:Int)≤122)<;>cases decide (65≤(c.toNat:Int))<;>cases decide ((c.toNat:Int)≤90)<;>simp only[cond_true,cond_false,kI,kP,kV,kK]<;>exact Ev.pure
 ·refine Ev.fn (fun n=>by simp only[DR,G8];exact rfl) ?_
  cases decide (97≤(c.toNat:Int))<;>cases decide ((c.toNat:Int)≤122)<;>cases decide (65≤(c.toNat:Int))<;>cases decide ((c.toNat:Int)≤90)<;>simp only[cond_true,cond_false,kI,kP,kV,kK]<;>exact Ev.pure
theorem Name_ev (s:Str) (hl:s.length≤cap*4):Ev (fun n=>JG n s) (F3 s):=by
 refine uu.ev ?_
 refine uu.fn (fun n=>by simp only[JG,LM];exact rfl) ?_
 refine uu.F6 (F:=fun n m=>Cd n m s true s.length 0) ?_
 refine oY.up (S:=Bool) (L:=fun n m i b=>Cd n m s b s.length i) s.length (fun i b=>Fa true s=Fa b (s.drop i)) _ ?_ ?_ 0 true (by omega) rfl
 ·intro i b hi hI next
  refine oY.lp (fun n m=>by simp only[Cd,GG];exact rfl) ?_
  simp only[hi,Int.ofNat_lt,decide_true,cond_true]
  refine oY.idx hi ?_
  rw[kG hi,Fa] at hI
  rw[nJ (by simp only[cap] at hl;omega)]
  refine oY.qW ((TT s[i]).1.tot (Q:=(· =Rf s[i])) rfl) fun x hx=> ?_
  subst hx
  cases h1:Rf s[i] with
  |true=>
   rw[h1,cond_true] at hI
   simp only[cond_true]
   exact next _ hI
  |false=>
   rw[h1,cond_false] at hI
   cases b with
   |true=>exact oY.pure (by simp only[cond_true] at hI;unfold F3;rw[hI];rfl)
   |false=>
    simp only[cond_false] at hI ⊢
    cases h2:((s[i].toNat:Int)==46) with
    |true=>
     rw[h2,cond_true] at hI
     simp only[cond_true]
     exact next _ hI
    |false=>
     rw[h2,cond_false] at hI
     simp only[cond_false]
     cases h3:((s[i].toNat:Int)==39) with
     |true=>
      rw[h3,kV,cond_true] at hI
      have e:((s[i].toNat:Int) !=39)=false:=by rw[bne,h3];rfl
      simp only[e,cond_false]
      refine oY.VM (fun _=>next _ hI) fun _=>oY.VM (fun _=>next _ hI) fun _=>next _ hI
     |false=>
      rw[h3,kK] at hI
      have e:((s[i].toNat:Int) !=39)=true:=by rw[bne,h3];rfl
      simp only[e,cond_true]
      refine oY.VM (fun h4=>oY.pure ?_) fun h4=>oY.VM (fun h5=>oY.pure ?_) fun h5=>next _ ?_
      ·have:decide (48≤(s[i].toNat:Int))=false:=decide_eq_false (by have:=of_decide_eq_true h4;omega)
       rw[this] at hI
       unfold F3;rw[hI];rfl
      ·have:decide ((s[i].toNat:Int)≤57)=false:=decide_eq_false (by have:=of_decide_eq_true h5;omega)
       rw[this,lu] at hI
       unfold F3;rw[hI];rfl
      ·have a1:decide (48≤(s[i].toNat:Int))=true:=decide_eq_true (by have:=of_decide_eq_false h4;omega)
       have a2:decide ((s[i].toNat:Int)≤57)=true:=decide_eq_true (by have:=of_decide_eq_false h5;omega)
       rw[a1,a2] at hI
       exact hI
 ·intro b hI
  refine oY.lp (fun n m=>by simp only[Cd,GG];exact rfl) ?_
  simp only[mh,decide_false,cond_false]
  rw[lW,Fa] at hI
  cases b with
  |true=>exact oY.pure (by unfold F3;rw[hI];rfl)
  |false=>exact oY.pure (by unfold F3;rw[hI];simp)
theorem ZP (s:Str) (hl:s.length≤cap*4):Ev (fun n=>Hh n s) (F3 s):=by
 refine uu.ev ?_
 refine uu.fn (fun n=>by simp only[Hh,Ky];exact rfl) ?_
 refine uu.VM (fun h=>uu.pure ?_) fun _=> ?_
 ·have:=beq_iff_eq.1 h
  subst this;rfl
 refine uu.VM (fun h=>uu.pure ?_) fun h64=> ?_
 ·have:decide ((s.length:Int)≤64)=false:=decide_eq_false (by have:=of_decide_eq_true h;omega)
  unfold F3;rw[this,lu]
 have h64':decide ((s.length:Int)≤64)=true:=decide_eq_true (by have:=of_decide_eq_false h64;omega)
 have hT:F3 s=Fa true s:=by unfold F3;rw[h64',lV]
 rw[hT]
 refine uu.F6 (F:=fun n m=>A7 n m s true 0) ?_
 refine oY.up (S:=Bool) (L:=fun n m i b=>A7 n m s b i) s.length (fun i b=>Fa true s=Fa b (s.drop i)) _ ?_ ?_ 0 true (by omega) rfl
 ·intro i b hi hI next
  refine oY.lp (fun n m=>by simp only[A7,Fv];exact rfl) ?_
  simp only[hi,Int.ofNat_lt,decide_true,cond_true]
  refine oY.idx hi ?_
  rw[kG hi,Fa] at hI
  rw[nJ (by simp only[cap] at hl;omega)]
  have hlet:=(TT s[i]).2
  cases b with
  |true=>
   simp only[cond_true] at hI ⊢
   refine oY.qW (hlet.tot (Q:=(· =Rf s[i])) rfl) fun x hx=> ?_
   subst hx
   cases h1:Rf s[i] with
   |true=>rw[h1,cond_true] at hI;exact next _ hI
   |false=>rw[h1,cond_false] at hI;exact oY.pure hI.symm
  |false=>
   simp only[cond_false] at hI ⊢
   cases h2:((s[i].toNat:Int)==46) with
   |true=>
    have hz:Rf s[i]=false:=by
     have e:=beq_iff_eq.1 h2
     unfold Rf
     rw[e];rfl
    rw[hz,cond_false,h2,cond_true] at hI
    simp only[cond_true]
    exact next _ hI
   |false=>
    simp only[cond_false]
    refine oY.qW (hlet.tot (Q:=(· =Rf s[i])) rfl) fun x hx=> ?_
    subst hx
    cases h1:Rf s[i] with
    |true=>rw[h1,cond_true] at hI;simp only[cond_true];exact next _ hI
    |false=>
     rw[h1,cond_false,h2,cond_false] at hI
     simp only[cond_false]
     cases h3:((s[i].toNat:Int)==39) with
     |true=>
      rw[h3,kV,cond_true] at hI
      have e:((s[i].toNat:Int) !=39)=false:=by rw[bne,h3];rfl
      simp only[e,cond_false]
      exact next _ hI
     |false=>
      rw[h3,kK] at hI
      have e:((s[i].toNat:Int) !=39)=true:=by rw[bne,h3];rfl
      simp only[e,cond_true]
      refine oY.VM (fun h4=>oY.pure ?_) fun h4=>oY.VM (fun h5=>oY.pure ?_) fun h5=>next _ ?_
      ·have:decide (48≤(s[i].toNat:Int))=false:=decide_eq_false (by have:=of_decide_eq_true h4;omega)
       rw[this] at hI
       exact hI.symm
      ·have:decide ((s[i].toNat:Int)≤57)=false:=decide_eq_false (by have:=of_decide_eq_true h5;omega)
       rw[this,lu] at hI
       exact hI.symm
      ·have a1:decide (48≤(s[i].toNat:Int))=true:=decide_eq_true (by have:=of_decide_eq_false h4;omega)
       have a2:decide ((s[i].toNat:Int)≤57)=true:=decide_eq_true (by have:=of_decide_eq_false h5;omega)
       rw[a1,a2] at hI
       exact hI
 ·intro b hI
  refine oY.lp (fun n m=>by simp only[A7,Fv];exact rfl) ?_
  simp only[mh,decide_false,cond_false]
  rw[lW,Fa] at hI
  exact oY.pure hI.symm
end Go.Abs
namespace Go.Abs
theorem JV {α:Type} {bk:α→Nat}: ∀ {xs:List α} {x:α},x∈xs→bk x+1≤sumB bk xs
 |y::ys,x,h=>by
  rw[sumB]
  rcases lG.1 h with e|e
  ·subst e;have:=TI (bk:=bk) ys;omega
  ·have:=JV (bk:=bk) e;omega
theorem CR {α:Type} {bk:α→Nat} (h: ∀x,1≤bk x): ∀xs:List α,xs.length+1≤sumB bk xs
 |[]=>TI []
 |x::xs=>by
  have h1:=CR h xs
  have h2:=h x
  rw[sumB,kJ]
  omega
structure Mu (n:Notation):Prop where
 len:n.parts.length≤cap
 each: ∀s∈n.parts,s.length≤cap
 target:n.target.length≤cap
theorem Mu.of {n:Notation} (h:n.bulk≤cap):Mu n:=by
 unfold Notation.bulk at h
 have h1:=CR (bk:=fun m:Str=>m.length+1) (fun _=>mq _ _) n.parts
 refine ⟨by omega,fun s hs=> ?_,by omega⟩
 have:=JV (bk:=fun m:Str=>m.length+1) hs
 omega
theorem Mv (i:Nat):decide (0<(i:Int))=decide (0<i):=decide_eq_decide.2 (by omega)
theorem nat_lt (i k:Nat):decide ((i:Int)<(k:Int))=decide (i<k):=decide_eq_decide.2 (by omega)
theorem OR (i:Nat):((i:Int)==0)=decide (i=0):=by rw[kZ,beq_iff_eq,decide_eq_true_iff];omega
theorem nat_eq (i k:Nat):((i:Int)==(k:Int))=decide (i=k):=by rw[kZ,beq_iff_eq,decide_eq_true_iff];omega
theorem Ci {k:Nat} (h:0<k) (h2:k≤cap):IntKind.i64.wrap ((k:Int)-1)=((k-1:Nat):Int):=by
 simp only[cap] at h2
 rw[wrap_small (by omega) (by omega)];omega
theorem Mw {xs:List Str} {i:Nat} (h:i<xs.length):xs.getD i []=xs[i]:=by
 rw[mg,lJ h];rfl
theorem idx0 {α:Type} {xs:List α} (h:0<xs.length):zj xs 0=some xs[0]:=sC (i:=0) h
theorem idx1 {α:Type} {xs:List α} (h:1<xs.length):zj xs 1=some xs[1]:=sC (i:=1) h
theorem zO {n:Notation} (h:0<n.parts.length):Ev (fun k=>tO k n) (A3 n)∧Ev (fun k=>tS k n) (A3 n):=by
 unfold A3
 rw[Mw h]
 constructor
 ·refine Ev.fn (fun n=>by simp only[tO,Gf];exact rfl) ?_
  rw[idx0 h]
  exact Ev.pure
 ·refine Ev.fn (fun n=>by simp only[tS,Kr];exact rfl) ?_
  rw[idx0 h]
  exact Ev.pure
theorem uN {n:Notation} (h:0<n.parts.length) (h2:n.parts.length≤cap):Ev (fun k=>sN k n) (Jj n)∧Ev (fun k=>yZ k n) (Jj n):=by
 unfold Jj
 rw[Mw (by omega)]
 constructor
 ·refine Ev.fn (fun n=>by simp only[sN,E3];exact rfl) ?_
  rw[Ci h h2,sC (show n.parts.length-1<n.parts.length by omega)]
  exact Ev.pure
 ·refine Ev.fn (fun n=>by simp only[yZ,IS];exact rfl) ?_
  rw[Ci h h2,sC (show n.parts.length-1<n.parts.length by omega)]
  exact Ev.pure
theorem Ok.Lj {n:Notation} (k:Ok n):n.parts.length≤cap:=by have:=k.W8;simp only[cap];omega
theorem Fy {n:Notation} (k:Ok n) {i:Nat} (hi:i<n.parts.length):Ev (fun f=>vg f n (i:Int)) (rG n i):=by
 refine Ev.fn (fun n=>by simp only[vg,Gh];exact rfl) ?_
 have hp:=k.pos
 refine Ev.bind (zO hp).1 ?_
 unfold rG L5
 have e2:IntKind.i64.wrap ((n.parts.length:Int)-1)=((n.parts.length-1:Nat):Int):=Ci hp k.Lj
 have e3:IntKind.i64.wrap (n.level+1)=n.level+1:=wrap_small (by have:=k.lo;omega) (by have:=k.hi;omega)
 simp only[Mv,OR,e2,nat_lt,e3]
 cases A3 n with
 |false=>
  simp only[cond_false,kP,lM]
  cases decide (0<i) with
  |false=>exact Ev.pure
  |true=>
   simp only[cond_true,kI]
   cases decide (i<n.parts.length-1)<;>exact Ev.pure
 |true=>
  simp only[cond_true,kI]
  refine Ev.bind (uN hp k.Lj).1 ?_
  refine Ev.congr Ev.pure (fun _=> ?_)
  rw[bne,bne]
  cases decide (0<i)<;>cases decide (i<n.parts.length-1)<;>cases Jj n<;>cases decide (i=0)<;>cases n.assoc==1<;>cases n.assoc==2<;>rfl
theorem CS {n:Notation} (k:Ok n) {i:Nat} (hi:i<n.parts.length):Ev (fun f=>De f n (i:Int)) (rG n i):=by
 refine Ev.fn (fun n=>by simp only[De,KA];exact rfl) ?_
 have hp:=k.pos
 refine Ev.bind (zO hp).2 ?_
 unfold rG L5
 have e2:IntKind.i64.wrap ((n.parts.length:Int)-1)=((n.parts.length-1:Nat):Int):=Ci hp k.Lj
 have e3:IntKind.i64.wrap (n.level+1)=n.level+1:=wrap_small (by have:=k.lo;omega) (by have:=k.hi;omega)
 simp only[Mv,OR,e2,nat_eq,e3]
 have cs:(decide (0<i)= !decide (i=0))∧(decide (i<n.parts.length-1)= !decide (i=n.parts.length-1)):=by
  constructor
  ·rw[←decide_not];exact decide_eq_decide.2 (by omega)
  ·rw[←decide_not];exact decide_eq_decide.2 (by omega)
 rw[cs.1,cs.2]
 cases A3 n with
 |false=>
  simp only[cond_false,kP,lM]
  refine Ev.congr Ev.pure (fun _=> ?_)
  cases decide (i=0)<;>cases decide (i=n.parts.length-1)<;>rfl
 |true=>
  simp only[cond_true,kI]
  refine Ev.bind (uN hp k.Lj).2 ?_
  refine Ev.congr Ev.pure (fun _=> ?_)
  rw[bne,bne]
  cases decide (i=0)<;>cases decide (i=n.parts.length-1)<;>cases Jj n<;>cases n.assoc==1<;>cases n.assoc==2<;>rfl
theorem Mc {n:Notation} (k:Ok n):Ev (fun f=>zu f n) (qx n):=by
 refine Ev.fn (fun n=>by simp only[zu,Kz];exact rfl) ?_
 refine Ev.bind (zO k.pos).2 ?_
 unfold qx
 cases h:A3 n with
 |true=>
  have h2:=k.ZC h
  simp only[cond_true]
  rw[idx1 (by omega),Mw (by omega)]
  exact Ev.pure
 |false=>
  simp only[cond_false]
  rw[idx0 k.pos,Mw k.pos]
  exact Ev.pure
theorem VR {n:Notation} (k:Ok n) (s:Str):Ev (fun f=>DA f n s) ((rQ n).contains s):=by
 refine Ev.fn (fun n=>by simp only[DA,I6];exact rfl) ?_
 refine Ev.bind (zO k.pos).2 ?_
 have key: ∀d i:Nat,i+d=n.parts.length→pN (fun f m=>yw f m s (i:Int) n) ((n.parts.drop i).contains s):=by
  intro d
  induction d with
  |zero=>
   intro i hi
   refine pN.lp (fun n m=>by simp only[yw,Ef];exact rfl) ?_
   have:decide ((i:Int)<(n.parts.length:Int))=false:=decide_eq_false (by omega)
   simp only[this,cond_false,kH (show n.parts.length≤i by omega),lF]
   exact pN.pure
  |succ d ih=>
   intro i hi
   have hlt:i<n.parts.length:=by omega
   refine pN.lp (fun n m=>by simp only[yw,Ef];exact rfl) ?_
   have:decide ((i:Int)<(n.parts.length:Int))=true:=decide_eq_true (by omega)
   simp only[this,cond_true]
   refine pN.idx hlt ?_
   rw[kG hlt,k6]
   rw[show (s==n.parts[i])=(n.parts[i]==s) from kZ.2 ⟨fun h=>by simpa using (beq_iff_eq.1 h).symm,fun h=>by simpa using (beq_iff_eq.1 h).symm⟩]
   cases n.parts[i]==s with
   |true=>exact pN.pure
   |false=>
    simp only[cond_false,kK]
    rw[nJ (by have:=k.W8;omega)]
    exact ih (i+1) (by omega)
 unfold rQ
 cases h:A3 n with
 |true=>
  have h2:=k.ZC h
  exact Ev.F6 (F:=fun f m=>yw f m s 2 n) (key (n.parts.length-2) 2 (by omega))
 |false=>
  have h2:=k.pos
  exact Ev.F6 (F:=fun f m=>yw f m s 1 n) (key (n.parts.length-1) 1 (by omega))
theorem ZQ {a b:Notation} (ka:Ok a) (kb:Ok b):Ev (fun f=>wP f a b) (xR a b):=by
 refine Ev.fn (fun n=>by simp only[wP,E5];exact rfl) ?_
 have two:Ev (fun f=>(tS f b).bind fun x=>bif x then (zu f b).bind fun x=>(DA f a x).bind fun x=>some x else some false) (A3 b&&(rQ a).contains (qx b)):=by
  refine Ev.bind (zO kb.pos).2 ?_
  cases A3 b with
  |false=>exact Ev.pure
  |true=>exact Ev.bind (Mc kb) (Ev.bind (VR ka _) Ev.pure)
 refine Ev.bind (zO ka.pos).2 ?_
 unfold xR
 cases A3 a with
 |false=>exact two
 |true=>
  simp only[cond_true,kI]
  refine Ev.bind (Mc ka) (Ev.bind (VR kb _) ?_)
  cases (rQ b).contains (qx a) with
  |true=>exact Ev.pure
  |false=>exact two
theorem JW {T:List Notation} (g:MN T) (s:Str) (c:Bool):uu (fun f=>BP f T s c) (fun r=>match uV T s c with|some n=>r=(n,true)|none=>r.2=false):=by
 refine uu.fn (fun n=>by simp only[BP,KB];exact rfl) ?_
 have hT:=g.len
 refine uu.F6 (F:=fun f m=>A8 f m T s c 0) ?_
 have key: ∀d i:Nat,i+d=T.length→oY (fun f m=>A8 f m T s c (i:Int)) (fun r=>match uV (T.drop i) s c with|some n=>r=(n,true)|none=>r.2=false):=by
  intro d
  induction d with
  |zero=>
   intro i hi
   refine oY.lp (fun n m=>by simp only[A8,Fx];exact rfl) ?_
   have:decide ((i:Int)<(T.length:Int))=false:=decide_eq_false (by omega)
   simp only[this,cond_false,kH (show T.length≤i by omega)]
   exact oY.pure rfl
  |succ d ih=>
   intro i hi
   have hlt:i<T.length:=by omega
   have kn:=g.ok (kQ hlt)
   refine oY.lp (fun n m=>by simp only[A8,Fx];exact rfl) ?_
   have:decide ((i:Int)<(T.length:Int))=true:=decide_eq_true (by omega)
   simp only[this,cond_true]
   refine oY.idx hlt ?_
   have next:=ih (i+1) (by omega)
   rw[←nJ (by omega)] at next
   have hd:uV (T.drop i) s c=bif A3 T[i]==c&&qx T[i]==s then some T[i] else uV (T.drop (i+1)) s c:=by
    unfold uV
    rw[kG hlt,l9]
    cases A3 T[i]==c&&qx T[i]==s<;>rfl
   rw[hd]
   refine oY.qW ((zO kn.pos).2.tot (Q:=(· =A3 T[i])) rfl) fun x hx=> ?_
   subst hx
   cases h1:A3 T[i]==c with
   |false=>simp only[cond_false,kP];exact next
   |true=>
    simp only[cond_true,kI]
    refine oY.idx hlt ?_
    refine oY.qW ((Mc kn).tot (Q:=(· =qx T[i])) rfl) fun x hx=> ?_
    subst hx
    cases h2:qx T[i]==s with
    |false=>simp only[cond_false];exact next
    |true=>simp only[cond_true];refine oY.idx hlt ?_;exact oY.pure rfl
 exact key T.length 0 (by omega)
end Go.Abs
namespace Go.Abs
def VS (n:Notation):Int:=bif decide (n.level<0)||(decide (100<n.level)||(decide (n.assoc<0)||decide (2<n.assoc))) then 2
    else bif !(n.assoc==0)&& !(A3 n&&Jj n) then 1 else bif F3 n.target then 0 else 29
def finT (n:Notation):Int:=bif n.parts.all (fun s=>s==[]||PX s) then VS n else 4
theorem tail_ev {n:Notation} {lf rt nm:Nat→Option Bool} (h1:Ev lf (A3 n)) (h2:Ev rt (Jj n)) (h3:Ev nm (F3 n.target)):
 Ev (fun f=>bif decide (n.level<0) then some 2 else bif decide (100<n.level) then some 2 else bif decide (n.assoc<0) then some 2 else bif decide (2<n.assoc) then some 2 else
  bif n.assoc !=0 then (lf f).bind fun x=>bif x then (rt f).bind fun x=>bif x then (nm f).bind fun x=>bif x then some 0 else some 29 else some 1 else some 1
  else (nm f).bind fun x=>bif x then some 0 else some 29) (VS n):=by
 have nme:Ev (fun f=>(nm f).bind fun x=>bif x then some (0:Int) else some 29) (bif F3 n.target then 0 else 29):=by
  refine Ev.bind h3 ?_
  cases F3 n.target<;>exact Ev.pure
 unfold VS
 cases decide (n.level<0) with
 |true=>exact Ev.pure
 |false=>
 cases decide (100<n.level) with
 |true=>exact Ev.pure
 |false=>
 cases decide (n.assoc<0) with
 |true=>exact Ev.pure
 |false=>
 cases decide (2<n.assoc) with
 |true=>exact Ev.pure
 |false=>
 simp only[cond_false,lM,bne]
 cases n.assoc==0 with
 |true=>simp only[kX,cond_false,kP];exact nme
 |false=>
  simp only[kN,cond_true,kI]
  refine Ev.bind h1 ?_
  cases A3 n with
  |false=>exact Ev.pure
  |true=>
   simp only[cond_true,kI]
   refine Ev.bind h2 ?_
   cases Jj n with
   |false=>exact Ev.pure
   |true=>exact nme
theorem sml_of {s:Str} (h:s.length≤cap):s.length<Lj:=by simp only[cap] at h;simp only[Lj];omega
theorem cap4 {s:Str} (h:s.length≤cap):s.length≤cap*4:=by omega
theorem P1 {α:Type} {p:α→Bool} {s:List α} {k:Nat} (h:k<s.length):(s.drop k).all p=(p s[k]&&(s.drop (k+1)).all p):=by
 rw[kG h,mB]
theorem check1 {n:Notation} (h:Mu n) (hp:0<n.parts.length):pN (fun f m=>vV f m n.parts (n.parts.length:Int) 0 n) (finT n):=by
 have hl:=h.len
 simp only[cap] at hl
 have key: ∀d i:Nat,i+d=n.parts.length→pN (fun f m=>vV f m n.parts (n.parts.length:Int) (i:Int) n) (bif (n.parts.drop i).all (fun s=>s==[]||PX s) then VS n else 4):=by
  intro d
  induction d with
  |zero=>
   intro i hi
   refine pN.lp (fun n m=>by simp only[vV,Bs];exact rfl) ?_
   have:decide ((i:Int)<(n.parts.length:Int))=false:=decide_eq_false (by omega)
   simp only[this,cond_false,kH (show n.parts.length≤i by omega),l8,cond_true]
   exact pN.Vl (tail_ev (zO hp).1 (uN hp h.len).1 (Name_ev _ (cap4 h.target)))
  |succ d ih=>
   intro i hi
   have hlt:i<n.parts.length:=by omega
   refine pN.lp (fun n m=>by simp only[vV,Bs];exact rfl) ?_
   have:decide ((i:Int)<(n.parts.length:Int))=true:=decide_eq_true (by omega)
   simp only[this,cond_true]
   refine pN.idx hlt ?_
   rw[P1 hlt]
   have next:=ih (i+1) (by omega)
   rw[←nJ (by omega)] at next
   cases n.parts[i]==[] with
   |true=>simp only[cond_true,kV,kI];exact next
   |false=>
    simp only[cond_false,kK]
    refine pN.qW (Symbol_ev _ (sml_of (h.each _ (kQ hlt)))) ?_
    cases PX n.parts[i] with
    |true=>simp only[cond_true,kI];exact next
    |false=>exact pN.pure
 exact key n.parts.length 0 (by omega)
theorem rcheck1 {n:Notation} (h:Mu n) (hp:0<n.parts.length):pN (fun f m=>yA f m 0 n) (finT n):=by
 have hl:=h.len
 simp only[cap] at hl
 have key: ∀d i:Nat,i+d=n.parts.length→pN (fun f m=>yA f m (i:Int) n) (bif (n.parts.drop i).all (fun s=>s==[]||PX s) then VS n else 4):=by
  intro d
  induction d with
  |zero=>
   intro i hi
   refine pN.lp (fun n m=>by simp only[yA,Ep];exact rfl) ?_
   have:decide ((i:Int)<(n.parts.length:Int))=false:=decide_eq_false (by omega)
   simp only[this,cond_false,kH (show n.parts.length≤i by omega),l8,cond_true]
   exact pN.Vl (tail_ev (zO hp).2 (uN hp h.len).2 (ZP _ (cap4 h.target)))
  |succ d ih=>
   intro i hi
   have hlt:i<n.parts.length:=by omega
   refine pN.lp (fun n m=>by simp only[yA,Ep];exact rfl) ?_
   have:decide ((i:Int)<(n.parts.length:Int))=true:=decide_eq_true (by omega)
   simp only[this,cond_true]
   refine pN.idx hlt ?_
   rw[P1 hlt]
   have next:=ih (i+1) (by omega)
   rw[←nJ (by omega)] at next
   cases n.parts[i]==[] with
   |true=>simp only[cond_true,kV,kI];exact next
   |false=>
    simp only[cond_false,kK]
    refine pN.idx hlt ?_
    refine pN.qW (Xd _ (sml_of (h.each _ (kQ hlt)))) ?_
    cases PX n.parts[i] with
    |true=>simp only[cond_true,kI];exact next
    |false=>exact pN.pure
 exact key n.parts.length 0 (by omega)
theorem ZR {l:List Str} {i:Nat} (h:0<i) (hi:i<l.length):MM (l.drop (i-1))=((l[i-1]==[]&&l[i]==[])||MM (l.drop i)):=by
 have h1:i-1<l.length:=by omega
 rw[kG h1]
 have e:i-1+1=i:=by omega
 rw[e,kG hi,MM]
theorem adj_end (l:List Str) (i:Nat) (h:l.length≤i):MM (l.drop (i-1))=false:=by
 match hd:l.drop (i-1) with
 |[]=>rfl
 |[x]=>rfl
 |x::y::r=>
  have:=congrArg lA hd
  rw[kY,kJ,kJ] at this
  omega
def Is (n:Notation) (b:Bool) (i:Nat):Int:=bif MM (n.parts.drop (i-1))||(!b&&(n.parts.drop i).all (· ==[])) then 3 else finT n
theorem Fe {n:Notation} {b:Bool} {i:Nat} (hi:i<n.parts.length) (h:i=0∨(n.parts[i-1]==[]&&n.parts[i]==[])=false):
 Is n b i=Is n (b|| !(n.parts[i]==[])) (i+1):=by
 unfold Is
 rw[P1 hi,me]
 have:MM (n.parts.drop (i-1))=MM (n.parts.drop i):=by
  rcases Nat.eq_zero_or_pos i with e|e
  ·subst e;rfl
  ·rw[ZR e hi]
   rcases h with h|h
   ·omega
   ·rw[h,kK]
 rw[this]
 cases b<;>cases n.parts[i]==[]<;>rfl
theorem VT {n:Notation} {b:Bool} {i:Nat} (h0:0<i) (hi:i<n.parts.length) (h1:(n.parts[i-1]==[])=true) (h2:(n.parts[i]==[])=true):Is n b i=3:=by
 unfold Is
 rw[ZR h0 hi,h1,h2];rfl
theorem VU {i:Nat} (h0:0<i) (h:i≤cap):IntKind.i64.wrap ((i:Int)-1)=((i-1:Nat):Int):=Ci h0 h
theorem QJ {n:Notation} (h1:0<n.parts.length) (h2:n.parts.length≤16):yC n=Is n false 0:=by
 unfold yC Is finT VS
 rw[decide_eq_false (show ¬ n.parts.length=0 by omega),decide_eq_false (show ¬ 16<n.parts.length by omega)]
 simp only[lM,cond_false,Nat.zero_sub,kO,kN,kI]
theorem ZS {n:Notation} (h:Mu n):Ev (fun f=>yB f n) (yC n):=by
 refine Ev.fn (fun n=>by simp only[yB,E8];exact rfl) ?_
 have hl:=h.len
 rw[OR,show decide ((16:Int)<(n.parts.length:Int))=decide (16<n.parts.length) from decide_eq_decide.2 (by omega)]
 by_cases h0:n.parts.length=0
 ·unfold yC;rw[decide_eq_true h0];exact Ev.pure
 by_cases h16:16<n.parts.length
 ·unfold yC;rw[decide_eq_false h0,decide_eq_true h16];exact Ev.pure
 have hp:0<n.parts.length:=by omega
 rw[decide_eq_false h0,decide_eq_false h16,QJ hp (by omega)]
 simp only[cond_false]
 have key: ∀d i c:Nat,i+d=n.parts.length→c≤i→pN (fun f m=>xd f m (c:Int) n.parts (n.parts.length:Int) (i:Int) n) (Is n (!decide (c=0)) i):=by
  intro d
  induction d with
  |zero=>
   intro i c hi hc
   refine pN.lp (fun n m=>by simp only[xd,Bt];exact rfl) ?_
   have:decide ((i:Int)<(n.parts.length:Int))=false:=decide_eq_false (by omega)
   simp only[this,cond_false,OR]
   have e:Is n (!decide (c=0)) i=bif decide (c=0) then 3 else finT n:=by
    unfold Is
    rw[adj_end _ _ (by omega),kH (show n.parts.length≤i by omega)]
    cases decide (c=0)<;>rfl
   rw[e]
   cases decide (c=0) with
   |true=>exact pN.pure
   |false=>exact pN.Vl (Ev.F6 (F:=fun f m=>vV f m n.parts (n.parts.length:Int) 0 n) (check1 h hp))
  |succ d ih=>
   intro i c hi hc
   have hlt:i<n.parts.length:=by omega
   refine pN.lp (fun n m=>by simp only[xd,Bt];exact rfl) ?_
   have:decide ((i:Int)<(n.parts.length:Int))=true:=decide_eq_true (by omega)
   simp only[this,cond_true]
   refine pN.idx hlt ?_
   cases hx:n.parts[i]==[] with
   |true=>
    simp only[cond_true,Mv]
    by_cases h0:0<i
    ·rw[decide_eq_true h0]
     simp only[cond_true]
     rw[VU h0 (by omega)]
     refine pN.idx (show i-1<n.parts.length by omega) ?_
     cases hy:n.parts[i-1]==[] with
     |true=>simp only[cond_true];rw[VT h0 hlt hy hx];exact pN.pure
     |false=>
      simp only[cond_false]
      rw[Fe hlt (.inr (by rw[hy];rfl)),hx,kX,lC,nJ (by simp only[cap] at hl;omega)]
      exact ih (i+1) c (by omega) (by omega)
    ·rw[decide_eq_false h0]
     simp only[cond_false]
     rw[Fe hlt (.inl (by omega)),hx,kX,lC,nJ (by simp only[cap] at hl;omega)]
     exact ih (i+1) c (by omega) (by omega)
   |false=>
    simp only[cond_false]
    rw[Fe hlt (.inr (by rw[hx,lu])),hx,kN,l7,nJ (by simp only[cap] at hl;omega),nJ (by simp only[cap] at hl;omega)]
    have:=ih (i+1) (c+1) (by omega) (by omega)
    rwa [decide_eq_false (show ¬ c+1=0 by omega),kN] at this
 exact Ev.F6 (F:=fun f m=>xd f m 0 n.parts (n.parts.length:Int) 0 n) (key n.parts.length 0 0 (by omega) (kS _))
theorem VV {n:Notation} (h:Mu n):Ev (fun f=>BW f n) (yC n):=by
 refine Ev.fn (fun n=>by simp only[BW,Je];exact rfl) ?_
 have hl:=h.len
 rw[OR,show decide ((16:Int)<(n.parts.length:Int))=decide (16<n.parts.length) from decide_eq_decide.2 (by omega)]
 by_cases h0:n.parts.length=0
 ·unfold yC;rw[decide_eq_true h0];exact Ev.pure
 by_cases h16:16<n.parts.length
 ·unfold yC;rw[decide_eq_false h0,decide_eq_true h16];exact Ev.pure
 have hp:0<n.parts.length:=by omega
 rw[decide_eq_false h0,decide_eq_false h16,QJ hp (by omega)]
 simp only[cond_false]
 have key: ∀d i:Nat,∀b:Bool,i+d=n.parts.length→pN (fun f m=>vU f m b (i:Int) n) (Is n b i):=by
  intro d
  induction d with
  |zero=>
   intro i b hi
   refine pN.lp (fun n m=>by simp only[vU,Es];exact rfl) ?_
   have:decide ((i:Int)<(n.parts.length:Int))=false:=decide_eq_false (by omega)
   simp only[this,cond_false]
   have e:Is n b i=bif b then finT n else 3:=by
    unfold Is
    rw[adj_end _ _ (by omega),kH (show n.parts.length≤i by omega)]
    cases b<;>rfl
   rw[e]
   cases b with
   |false=>exact pN.pure
   |true=>exact pN.Vl (Ev.F6 (F:=fun f m=>yA f m 0 n) (rcheck1 h hp))
  |succ d ih=>
   intro i b hi
   have hlt:i<n.parts.length:=by omega
   refine pN.lp (fun n m=>by simp only[vU,Es];exact rfl) ?_
   have:decide ((i:Int)<(n.parts.length:Int))=true:=decide_eq_true (by omega)
   simp only[this,cond_true,Mv]
   have rest: ∀b':Bool,b'=(b|| !(n.parts[i]==[]))→pN (fun f m=>bif decide (0<i) then (zj n.parts (i:Int)).bind fun x=>bif x==[] then (zj n.parts (IntKind.i64.wrap ((i:Int)-1))).bind fun x=>bif x==[] then some 3 else vU f m b' (IntKind.i64.wrap ((i:Int)+1)) n else vU f m b' (IntKind.i64.wrap ((i:Int)+1)) n else vU f m b' (IntKind.i64.wrap ((i:Int)+1)) n) (Is n b i):=by
    intro b' hb'
    have next:=ih (i+1) b' (by omega)
    rw[←nJ (by simp only[cap] at hl;omega)] at next
    by_cases h0:0<i
    ·rw[decide_eq_true h0]
     simp only[cond_true]
     refine pN.idx hlt ?_
     cases hx:n.parts[i]==[] with
     |true=>
      simp only[cond_true]
      rw[VU h0 (by omega)]
      refine pN.idx (show i-1<n.parts.length by omega) ?_
      cases hy:n.parts[i-1]==[] with
      |true=>simp only[cond_true];rw[VT h0 hlt hy hx];exact pN.pure
      |false=>simp only[cond_false];rw[Fe hlt (.inr (by rw[hy];rfl)),←hb'];exact next
     |false=>simp only[cond_false];rw[Fe hlt (.inr (by rw[hx,lu])),←hb'];exact next
    ·rw[decide_eq_false h0]
     simp only[cond_false]
     rw[Fe hlt (.inl (by omega)),←hb'];exact next
   cases b with
   |true=>simp only[cond_true];exact rest true rfl
   |false=>
    simp only[cond_false]
    refine pN.idx hlt ?_
    exact rest _ (by rw[kK])
 exact Ev.F6 (F:=fun f m=>vU f m false 0 n) (key n.parts.length 0 false (by omega))
end Go.Abs
namespace Go.Abs
theorem Ff {α:Type} (x s:Str) (v:α): ∀es:List (Str×α),sI x (zW s v es)=bif x==s then some v else sI x es
 |[]=>by
  simp only[zW,sI]
 |(k,u)::es=>by
  have ih:=Ff x s v es
  simp only[zW,sI]
  cases hk:s==k with
  |true=>
   simp only[cond_true,sI]
   have e:=beq_iff_eq.1 hk
   subst e
   cases x==s<;>rfl
  |false=>
   simp only[cond_false,sI,ih]
   cases hx:x==k with
   |true=>
    have e:=beq_iff_eq.1 hx
    subst e
    have:(x==s)=false:=by rw[lS] at hk ⊢;intro h;exact hk (by rw[beq_iff_eq] at h ⊢;exact h.symm)
    rw[this];rfl
   |false=>rfl
structure Idx (T:List Notation) (sz:Int) (B C:List (Str×Notation)) (I:List (Str×Bool)):Prop where
 sz:sz=(T.length:Int)
 b: ∀s,sI s B=uV T s false
 c: ∀s,sI s C=uV T s true
 i: ∀s,s≠[]→(sI s I).getD false=T.any (fun t=>(rQ t).contains s)
theorem Idx.nil:Idx [] 0 [] [] []:=⟨rfl,fun _=>rfl,fun _=>rfl,fun _ _=>rfl⟩
def P2 (l:List Str) (I:List (Str×Bool)):List (Str×Bool):=l.foldl (fun I s=>bif s==[] then I else zW s true I) I
theorem P3: ∀ (l:List Str) (I:List (Str×Bool)) (s:Str),s≠[]→(sI s (P2 l I)).getD false=(l.contains s||(sI s I).getD false)
 |[],I,s,_=>rfl
 |x::l,I,s,hs=>by
  have ih:=P3 l (bif x==[] then I else zW x true I) s hs
  show (sI s (P2 l (bif x==[] then I else zW x true I))).getD false=_
  rw[ih,k6]
  cases hx:x==[] with
  |true=>
   have e:=beq_iff_eq.1 hx
   subst e
   have:(s==([]:Str))=false:=beq_eq_false_iff_ne.2 hs
   rw[this,cond_true,kK]
  |false=>
   rw[cond_false,Ff]
   cases s==x with
   |true=>simp
   |false=>rfl
theorem KQ (T:List Notation) (n:Notation) (s:Str) (c:Bool):uV (T++[n]) s c=(uV T s c).or (bif A3 n==c&&qx n==s then some n else none):=by
 unfold uV
 rw[List.find?_append,l9,List.find?_nil]
 cases A3 n==c&&qx n==s<;>rfl
theorem ZT (rest:List Str) (hl:rest.length≤cap) (sz:Int) (B C:List (Str×Notation)): ∀ (d i:Nat) (I:List (Str×Bool)),i+d=rest.length→
 pN (fun f m=>tV f m rest (rest.length:Int) (i:Int) sz B C I) (((IntKind.i64.wrap (sz+1),()),B,C,P2 (rest.drop i) I,()),0,()):=by
 simp only[cap] at hl
 intro d
 induction d with
 |zero=>
  intro i I hi
  refine pN.lp (fun n m=>by simp only[tV,yH];exact rfl) ?_
  have:decide ((i:Int)<(rest.length:Int))=false:=decide_eq_false (by omega)
  simp only[this,cond_false,kH (show rest.length≤i by omega)]
  exact pN.pure
 |succ d ih=>
  intro i I hi
  have hlt:i<rest.length:=by omega
  refine pN.lp (fun n m=>by simp only[tV,yH];exact rfl) ?_
  have:decide ((i:Int)<(rest.length:Int))=true:=decide_eq_true (by omega)
  simp only[this,cond_true]
  refine pN.idx hlt ?_
  rw[nJ (by omega),kG hlt]
  cases hx:rest[i]==[] with
  |true=>
   simp only[cond_true]
   have:=ih (i+1) I (by omega)
   rwa [show P2 (rest[i]::rest.drop (i+1)) I=P2 (rest.drop (i+1)) I from by show P2 _ (bif rest[i]==[] then I else _)=_;rw[hx];rfl]
  |false=>
   simp only[cond_false]
   have:=ih (i+1) (zW rest[i] true I) (by omega)
   rwa [show P2 (rest[i]::rest.drop (i+1)) I=P2 (rest.drop (i+1)) (zW rest[i] true I) from by show P2 _ (bif rest[i]==[] then I else _)=_;rw[hx];rfl]
abbrev AddR:=((Int×Unit)×((List (Str×Notation))×((List (Str×Notation))×((List (Str×Bool))×Unit))))×(Int×Unit)
theorem rest_ev2 (rest:List Str) (hl:rest.length≤cap) (hd:Str) (sz:Int) (B C:List (Str×Notation)) (I:List (Str×Bool)) (n:Notation) (h0:sI [] C=none): ∀ (d i:Nat),i+d=rest.length→
 pN (fun f m=>uZ f m hd rest rest (rest.length:Int) (i:Int) sz B C I n) (bif (rest.drop i).any (fun s=>(sI s C).isSome) then (((sz,()),B,C,I,()),8,()) else (((IntKind.i64.wrap (sz+1),()),B,zW hd n C,P2 rest I,()),0,())):=by
 have hl':=hl
 simp only[cap] at hl
 intro d
 induction d with
 |zero=>
  intro i hi
  refine pN.lp (fun n m=>by simp only[uZ,yI];exact rfl) ?_
  have:decide ((i:Int)<(rest.length:Int))=false:=decide_eq_false (by omega)
  simp only[this,cond_false,kH (show rest.length≤i by omega),lN]
  have:=ZT rest hl' sz B (zW hd n C) rest.length 0 I (by omega)
  exact pN.Vl (Ev.F6 (F:=fun f m=>tV f m rest (rest.length:Int) 0 sz B (zW hd n C) I) this)
 |succ d ih=>
  intro i hi
  have hlt:i<rest.length:=by omega
  refine pN.lp (fun n m=>by simp only[uZ,yI];exact rfl) ?_
  have:decide ((i:Int)<(rest.length:Int))=true:=decide_eq_true (by omega)
  simp only[this,cond_true]
  refine pN.idx hlt ?_
  rw[nJ (by omega),kG hlt,k7]
  have next:=ih (i+1) (by omega)
  cases hf:sI rest[i] C with
  |none=>simp only[Rr,lO,kK];exact next
  |some x=>
   simp only[Rr,mG,kV,cond_true]
   cases hx:rest[i]==[] with
   |true=>have e:=beq_iff_eq.1 hx;rw[e,h0] at hf;cases hf
   |false=>exact pN.pure
theorem rest_ev3 (rest:List Str) (hl:rest.length≤cap) (hd:Str) (sz:Int) (B C:List (Str×Notation)) (I:List (Str×Bool)) (n:Notation) (h0:sI [] C=none): ∀ (d i:Nat),i+d=rest.length→
 pN (fun f m=>u0 f m hd rest rest (rest.length:Int) (i:Int) sz B C I n) (bif (rest.drop i).any (fun s=>(sI s C).isSome) then (((sz,()),B,C,I,()),8,()) else (((IntKind.i64.wrap (sz+1),()),zW hd n B,C,P2 rest I,()),0,())):=by
 have hl':=hl
 simp only[cap] at hl
 intro d
 induction d with
 |zero=>
  intro i hi
  refine pN.lp (fun n m=>by simp only[u0,yJ];exact rfl) ?_
  have:decide ((i:Int)<(rest.length:Int))=false:=decide_eq_false (by omega)
  simp only[this,cond_false,kH (show rest.length≤i by omega),lN]
  have:=ZT rest hl' sz (zW hd n B) C rest.length 0 I (by omega)
  exact pN.Vl (Ev.F6 (F:=fun f m=>tV f m rest (rest.length:Int) 0 sz (zW hd n B) C I) this)
 |succ d ih=>
  intro i hi
  have hlt:i<rest.length:=by omega
  refine pN.lp (fun n m=>by simp only[u0,yJ];exact rfl) ?_
  have:decide ((i:Int)<(rest.length:Int))=true:=decide_eq_true (by omega)
  simp only[this,cond_true]
  refine pN.idx hlt ?_
  rw[nJ (by omega),kG hlt,k7]
  have next:=ih (i+1) (by omega)
  cases hf:sI rest[i] C with
  |none=>simp only[Rr,lO,kK];exact next
  |some x=>
   simp only[Rr,mG,kV,cond_true]
   cases hx:rest[i]==[] with
   |true=>have e:=beq_iff_eq.1 hx;rw[e,h0] at hf;cases hf
   |false=>exact pN.pure
theorem ZU (xs:List Str) (s:Str) (hl:xs.length≤cap):Ev (fun n=>vN n xs s) (xs.contains s):=by
 simp only[cap] at hl
 refine Ev.fn (fun n=>by simp only[vN,zn];exact rfl) ?_
 have key: ∀d i:Nat,i+d=xs.length→pN (fun f m=>uI f m xs s (xs.length:Int) (i:Int)) (bif (xs.drop i).contains s then ((i+(xs.drop i).idxOf s:Nat):Int) else-1):=by
  intro d
  induction d with
  |zero=>
   intro i hi
   refine pN.lp (fun n m=>by simp only[uI,xI];exact rfl) ?_
   have:decide ((i:Int)<(xs.length:Int))=false:=decide_eq_false (by omega)
   simp only[this,cond_false,kH (show xs.length≤i by omega),lF]
   exact pN.pure
  |succ d ih=>
   intro i hi
   have hlt:i<xs.length:=by omega
   refine pN.lp (fun n m=>by simp only[uI,xI];exact rfl) ?_
   have:decide ((i:Int)<(xs.length:Int))=true:=decide_eq_true (by omega)
   simp only[this,cond_true]
   refine pN.idx hlt ?_
   rw[nJ (by omega),kG hlt,k6,List.idxOf_cons]
   cases hx:s==xs[i] with
   |true=>
    have e:=beq_iff_eq.1 hx
    simp only[cond_true,kV,←e,beq_self_eq_true,mH]
    exact pN.pure
   |false=>
    have hx':(xs[i]==s)=false:=by rw[lS] at hx ⊢;intro h;exact hx (by rw[beq_iff_eq] at h ⊢;exact h.symm)
    simp only[cond_false,kK,hx']
    have:=ih (i+1) (by omega)
    rwa [show i+1+(xs.drop (i+1)).idxOf s=i+((xs.drop (i+1)).idxOf s+1) from by omega] at this
 have h1:=key xs.length 0 (by omega)
 rw[kO] at h1
 have h2:Ev (fun n=>xw n xs s) (bif xs.contains s then ((0+xs.idxOf s:Nat):Int) else-1):=by
  refine Ev.fn (fun n=>by simp only[xw,Bd];exact rfl) ?_
  exact Ev.F6 (F:=fun f m=>uI f m xs s (xs.length:Int) 0) h1
 refine Ev.bind h2 ?_
 cases xs.contains s with
 |true=>rw[cond_true,decide_eq_true (by omega)];exact Ev.pure
 |false=>exact Ev.pure
theorem ZV {T:List Notation} {n:Notation}:T.any (fun t=>Cu t n||xR t n)=(T.any (fun t=>Cu t n)||(T.any (fun t=>A3 t&&(rQ n).contains (qx t))||T.any (fun t=>A3 n&&(rQ t).contains (qx n)))):=by
 induction T with
 |nil=>rfl
 |cons t T ih=>
  rw[k7,ih,k7,k7,k7,show xR t n=((A3 t&&(rQ n).contains (qx t))||(A3 n&&(rQ t).contains (qx n))) from rfl]
  generalize T.any (fun t=>Cu t n)=p
  generalize T.any (fun t=>A3 t&&(rQ n).contains (qx t))=q
  generalize T.any (fun t=>A3 n&&(rQ t).contains (qx n))=r
  generalize Cu t n=a
  generalize (A3 t&&(rQ n).contains (qx t))=b
  generalize (A3 n&&(rQ t).contains (qx n))=c
  cases a<;>cases b<;>cases c<;>cases p<;>cases q<;>cases r<;>rfl
theorem ZW {T:List Notation} {n:Notation}:T.any (fun t=>Cu t n)=(uV T (qx n) (A3 n)).isSome:=by
 unfold uV Cu
 induction T with
 |nil=>rfl
 |cons t T ih=>
  rw[k7,ih,l9]
  cases A3 t==A3 n&&qx t==qx n<;>rfl
theorem ZX {T:List Notation} {n:Notation} {C:List (Str×Notation)} (hc: ∀s,sI s C=uV T s true):(rQ n).any (fun s=>(sI s C).isSome)=T.any (fun t=>A3 t&&(rQ n).contains (qx t)):=by
 rw[kZ,List.any_eq_true,List.any_eq_true]
 constructor
 ·rintro ⟨s,hs,h⟩
  rw[hc,mm] at h
  obtain ⟨t,ht⟩:=h
  obtain ⟨a,b,c⟩:=AT ht
  exact ⟨t,a,by rw[b,c,kI];exact mA.2 hs⟩
 ·rintro ⟨t,ht,h⟩
  rw[k9] at h
  refine ⟨qx t,mA.1 h.2,?_⟩
  rw[hc,mm]
  cases hf:uV T (qx t) true with
  |some m=>exact ⟨m,rfl⟩
  |none=>
   have:=List.find?_eq_none.1 hf t ht
   simp [h.1] at this
theorem VW {n:Notation}:rQ n=bif A3 n then (n.parts.take n.parts.length).drop 2 else (n.parts.take n.parts.length).drop 1:=by
 unfold rQ;rw[lY]
theorem Idx.snocL {T:List Notation} {sz:Int} {B C:List (Str×Notation)} {I:List (Str×Bool)} {n:Notation} (X:Idx T sz B C I) (hT:T.length≤100) (hl:A3 n=true) (hf:uV T (qx n) true=none):
 Idx (T++[n]) (IntKind.i64.wrap (sz+1)) B (zW (qx n) n C) (P2 (rQ n) I):=by
 refine ⟨?_,fun s=> ?_,fun s=> ?_,fun s hs=> ?_⟩
 ·rw[X.sz,nJ (by omega),kL,kM]
 ·rw[X.b,KQ,hl]
  cases uV T s false<;>rfl
 ·rw[Ff,X.c,KQ,hl]
  simp only[beq_self_eq_true,kI]
  cases hs:s==qx n with
  |true=>have e:=beq_iff_eq.1 hs;subst e;rw[hf];simp
  |false=>
   have:(qx n==s)=false:=by rw[lS] at hs ⊢;intro h;exact hs (by rw[beq_iff_eq] at h ⊢;exact h.symm)
   rw[this];cases uV T s true<;>rfl
 ·rw[P3 _ _ _ hs,X.i s hs,mw,k7,lN,lC,mE]
theorem Idx.snocR {T:List Notation} {sz:Int} {B C:List (Str×Notation)} {I:List (Str×Bool)} {n:Notation} (X:Idx T sz B C I) (hT:T.length≤100) (hl:A3 n=false) (hf:uV T (qx n) false=none):
 Idx (T++[n]) (IntKind.i64.wrap (sz+1)) (zW (qx n) n B) C (P2 (rQ n) I):=by
 refine ⟨?_,fun s=> ?_,fun s=> ?_,fun s hs=> ?_⟩
 ·rw[X.sz,nJ (by omega),kL,kM]
 ·rw[Ff,X.b,KQ,hl]
  simp only[beq_self_eq_true,kI]
  cases hs:s==qx n with
  |true=>have e:=beq_iff_eq.1 hs;subst e;rw[hf];simp
  |false=>
   have:(qx n==s)=false:=by rw[lS] at hs ⊢;intro h;exact hs (by rw[beq_iff_eq] at h ⊢;exact h.symm)
   rw[this];cases uV T s false<;>rfl
 ·rw[X.c,KQ,hl]
  cases uV T s true<;>rfl
 ·rw[P3 _ _ _ hs,X.i s hs,mw,k7,lN,lC,mE]
theorem add_tot {T:List Notation} {sz:Int} {B C:List (Str×Notation)} {I:List (Str×Bool)} {n:Notation} (g:MN T) (X:Idx T sz B C I) (h:Mu n):
 uu (fun f=>vm f n sz B C I) (fun r=>r.2.1=Dj T n∧(Dj T n=0→Idx (T++[n]) r.1.1.1 r.1.2.1 r.1.2.2.1 r.1.2.2.2.1)):=by
 refine uu.fn (fun n=>by simp only[vm,BY];exact rfl) ?_
 refine uu.bind ((ZS h).tot (Q:=(· =yC n)) rfl) fun x hx=> ?_
 subst hx
 cases hc:yC n==0 with
 |false=>
  simp only[bne,hc,kN,cond_true]
  have e:Dj T n=yC n:=by unfold Dj;rw[hc];rfl
  refine uu.pure ⟨e.symm,fun h0=> ?_⟩
  rw[e] at h0;rw[h0] at hc;cases hc
 |true=>
 simp only[bne,hc,kX,cond_false]
 have k:Ok n:=Ok.of (beq_iff_eq.1 hc)
 rw[show decide ((100:Int)≤sz)=decide (100≤T.length) from by rw[X.sz];exact decide_eq_decide.2 (by omega)]
 have hT:=g.len
 cases h100:decide (100≤T.length) with
 |true=>
  simp only[cond_true]
  have e:Dj T n=6:=by unfold Dj;rw[hc,h100];rfl
  exact uu.pure ⟨e.symm,fun h0=>by rw[e] at h0;cases h0⟩
 |false=>
 simp only[cond_false]
 have ea:Dj T n=bif xR n n||T.any (fun t=>Cu t n||xR t n) then 8 else 0:=by unfold Dj;rw[hc,h100];rfl
 have bad:(xR n n||T.any (fun t=>Cu t n||xR t n))=true→uu (fun _:Nat=>some ((((sz,()),B,C,I,()),8,()):AddR)) (fun r=>r.2.1=Dj T n∧(Dj T n=0→Idx (T++[n]) r.1.1.1 r.1.2.1 r.1.2.2.1 r.1.2.2.2.1)):=fun hb=>
  uu.pure ⟨by rw[ea,hb];rfl,fun h0=>by rw[ea,hb] at h0;cases h0⟩
 have h0:sI [] C=none:=by
  rw[X.c]
  cases hf:uV T [] true with
  |none=>rfl
  |some m=>
   obtain ⟨a,_,c⟩:=AT hf
   exact absurd c (g.ok a).head_ne
 have hin:(rQ n).length≤cap:=by
  have:=k.Lj
  unfold rQ
  cases A3 n<;>simp only[cond_true,cond_false,kY]<;>omega
 refine uu.bind (P:=fun r=>r=bif A3 n then (PR.ok (((sz,()),B,C,I,()),qx n,rQ n,())) else (PR.pn (((sz,()),B,C,I,()),qx n,rQ n,()))) ?_ fun x hx=> ?_
 ·refine uu.fn (fun n=>by simp only[y8,AF];exact rfl) ?_
  refine uu.bind ((zO k.pos).1.tot (Q:=(· =A3 n)) rfl) fun x hx=> ?_
  subst hx
  cases hl:A3 n with
  |true=>
   have h2:=k.ZC hl
   simp only[cond_true]
   rw[idx1 (by omega),decide_eq_true (show (2:Int)≤(n.parts.length:Int)∧(n.parts.length:Int)≤(n.parts.length:Int) by omega)]
   refine uu.pure ?_
   rw[TN hl,Mw (by omega),VW,hl];rfl
  |false=>
   have h2:=k.pos
   simp only[cond_false]
   rw[idx0 h2,decide_eq_true (show (1:Int)≤(n.parts.length:Int)∧(n.parts.length:Int)≤(n.parts.length:Int) by omega)]
   refine uu.pure ?_
   rw[QG hl,Mw (by omega),VW,hl];rfl
 ·subst hx
  cases hl:A3 n with
  |true=>
   simp only[cond_true,MW]
   have eC:(xR n n||T.any (fun t=>Cu t n||xR t n))=((uV T (qx n) true).isSome||((rQ n).contains (qx n)||(T.any (fun t=>(rQ t).contains (qx n))||(rQ n).any (fun s=>(sI s C).isSome)))):=by
    rw[ZV,ZW,ZX X.c,hl]
    unfold xR
    rw[hl]
    simp only[kI,lM]
    generalize (rQ n).contains (qx n)=a
    generalize (uV T (qx n) true).isSome=b
    generalize T.any (fun t=>A3 t&&(rQ n).contains (qx t))=c
    generalize T.any (fun t=>(rQ t).contains (qx n))=d
    cases a<;>cases b<;>cases c<;>cases d<;>rfl
   rw[eC] at ea bad
   rw[X.c]
   cases hf:uV T (qx n) true with
   |some m=>rw[hf] at bad;exact bad rfl
   |none=>
    simp only[Rr]
    refine uu.bind ((zO k.pos).1.tot (Q:=(· =A3 n)) rfl) fun x hx=> ?_
    subst hx
    rw[hl]
    simp only[cond_true]
    rw[X.i _ k.head_ne]
    cases hi:T.any (fun t=>(rQ t).contains (qx n)) with
    |true=>
     simp only[cond_true]
     rw[hi] at bad;exact bad (by rw[kV,l7,l7])
    |false=>
     simp only[cond_false]
     refine uu.bind ((ZU _ _ hin).tot (Q:=(· =(rQ n).contains (qx n))) rfl) fun x hx=> ?_
     subst hx
     cases hcn:(rQ n).contains (qx n) with
     |true=>
      simp only[cond_true]
      rw[hcn] at bad;exact bad (by rw[kV,l7])
     |false=>
      simp only[cond_false]
      have:=rest_ev2 (rQ n) hin (qx n) sz B C I n h0 (rQ n).length 0 (by omega)
      rw[kO] at this
      refine (Ev.F6 (F:=fun f m=>uZ f m (qx n) (rQ n) (rQ n) ((rQ n).length:Int) 0 sz B C I n) this).tot ?_
      rw[hf,hcn,hi] at ea
      simp only[lO,kK] at ea
      cases hr:(rQ n).any (fun s=>(sI s C).isSome) with
      |true=>
       rw[hr] at ea
       exact ⟨ea.symm,fun h0=>by rw[ea] at h0;cases h0⟩
      |false=>
       rw[hr] at ea
       exact ⟨ea.symm,fun _=>X.snocL hT hl hf⟩
  |false=>
   simp only[cond_false,MW]
   have eC:(xR n n||T.any (fun t=>Cu t n||xR t n))=((uV T (qx n) false).isSome||(rQ n).any (fun s=>(sI s C).isSome)):=by
    rw[ZV,ZW,ZX X.c,hl]
    unfold xR
    rw[hl]
    simp only[kP,lM,kK]
    rw[show (T.any fun t=>false)=false from by rw[List.any_eq_false];intro _ _;simp,lC]
   rw[eC] at ea bad
   rw[X.b]
   cases hf:uV T (qx n) false with
   |some m=>rw[hf] at bad;exact bad rfl
   |none=>
    simp only[Rr]
    refine uu.bind ((zO k.pos).1.tot (Q:=(· =A3 n)) rfl) fun x hx=> ?_
    subst hx
    rw[hl]
    simp only[cond_false]
    have:=rest_ev3 (rQ n) hin (qx n) sz B C I n h0 (rQ n).length 0 (by omega)
    rw[kO] at this
    refine (Ev.F6 (F:=fun f m=>u0 f m (qx n) (rQ n) (rQ n) ((rQ n).length:Int) 0 sz B C I n) this).tot ?_
    rw[hf] at ea
    simp only[lO,kK] at ea
    cases hr:(rQ n).any (fun s=>(sI s C).isSome) with
    |true=>
     rw[hr] at ea
     exact ⟨ea.symm,fun h0=>by rw[ea] at h0;cases h0⟩
    |false=>
     rw[hr] at ea
     exact ⟨ea.symm,fun _=>X.snocR hT hl hf⟩
theorem radd_ev {T:List Notation} {n:Notation} (g:MN T) (h:Mu n):Ev (fun f=>E9 f T n) (Dj T n):=by
 refine Ev.fn (fun n=>by simp only[E9,LW];exact rfl) ?_
 refine Ev.bind (VV h) ?_
 unfold Dj
 cases hc:yC n==0 with
 |false=>simp only[bne,hc,kN,cond_true,cond_false];exact Ev.pure
 |true=>
 simp only[bne,hc,kX,cond_false,cond_true]
 have k:Ok n:=Ok.of (beq_iff_eq.1 hc)
 rw[show decide ((100:Int)≤(T.length:Int))=decide (100≤T.length) from decide_eq_decide.2 (by omega)]
 have hT:=g.len
 cases h100:decide (100≤T.length) with
 |true=>exact Ev.pure
 |false=>
 simp only[cond_false]
 refine Ev.bind (ZQ k k) ?_
 cases xR n n with
 |true=>exact Ev.pure
 |false=>
 simp only[cond_false,kK]
 have key: ∀d i:Nat,i+d=T.length→pN (fun f m=>AP f m T (i:Int) n) (bif (T.drop i).any (fun t=>Cu t n||xR t n) then 8 else 0):=by
  intro d
  induction d with
  |zero=>
   intro i hi
   refine pN.lp (fun n m=>by simp only[AP,GI];exact rfl) ?_
   have:decide ((i:Int)<(T.length:Int))=false:=decide_eq_false (by omega)
   simp only[this,cond_false,kH (show T.length≤i by omega),lN]
   exact pN.pure
  |succ d ih=>
   intro i hi
   have hlt:i<T.length:=by omega
   have kt:=g.ok (kQ hlt)
   refine pN.lp (fun n m=>by simp only[AP,GI];exact rfl) ?_
   have:decide ((i:Int)<(T.length:Int))=true:=decide_eq_true (by omega)
   simp only[this,cond_true]
   refine pN.idx hlt ?_
   have next:=ih (i+1) (by omega)
   rw[←nJ (by omega)] at next
   rw[kG hlt,k7]
   have conf:pN (fun f m=>(zj T (i:Int)).bind fun x=>(wP f x n).bind fun x=>bif x then some 8 else AP f m T (IntKind.i64.wrap ((i:Int)+1)) n) (bif xR T[i] n||(T.drop (i+1)).any (fun t=>Cu t n||xR t n) then 8 else 0):=by
    refine pN.idx hlt (pN.qW (ZQ kt k) ?_)
    cases xR T[i] n with
    |true=>exact pN.pure
    |false=>exact next
   refine pN.qW (zO kt.pos).2 (pN.qW (zO k.pos).2 ?_)
   rw[show Cu T[i] n=(A3 T[i]==A3 n&&qx T[i]==qx n) from rfl]
   cases A3 T[i]==A3 n with
   |false=>simp only[cond_false,kP,kK];exact conf
   |true=>
    simp only[cond_true,kI]
    refine pN.idx hlt (pN.qW (Mc kt) (pN.qW (Mc k) ?_))
    cases qx T[i]==qx n with
    |true=>exact pN.pure
    |false=>simp only[cond_false,kK];exact conf
 exact Ev.F6 (F:=fun f m=>AP f m T 0 n) (key T.length 0 (by omega))
theorem Mx {T:List Notation} (hl:T.length≤cap) (h: ∀n∈T,Mu n):Ev (fun f=>BZ f T) (Fb T):=by
 refine Ev.fn (fun n=>by simp only[BZ,Jf];exact rfl) ?_
 simp only[cap] at hl
 have key: ∀d i:Nat,i+d=T.length→MN (T.take i)→pN (fun f m=>Ak f m T (i:Int)) (QF (T.take i) (T.drop i)):=by
  intro d
  induction d with
  |zero=>
   intro i hi g
   refine pN.lp (fun n m=>by simp only[Ak,Eu];exact rfl) ?_
   have:decide ((i:Int)<(T.length:Int))=false:=decide_eq_false (by omega)
   simp only[this,cond_false,kH (show T.length≤i by omega)]
   exact pN.pure
  |succ d ih=>
   intro i hi g
   have hlt:i<T.length:=by omega
   refine pN.lp (fun n m=>by simp only[Ak,Eu];exact rfl) ?_
   have:decide ((i:Int)<(T.length:Int))=true:=decide_eq_true (by omega)
   simp only[this,cond_true]
   rw[decide_eq_true (show (0:Int)≤(i:Int)∧(i:Int)≤(T.length:Int)∧(T.length:Int)≤(T.length:Int) by omega)]
   simp only[cond_true,lR]
   refine pN.idx hlt ?_
   refine pN.qW (radd_ev g (h _ (kQ hlt))) ?_
   rw[kG hlt,QF]
   cases ha:Dj (T.take i) T[i]==0 with
   |false=>simp only[bne,ha,kN,cond_true,kP];exact pN.pure
   |true=>
    simp only[bne,ha,kX,cond_false,kI]
    have g':=g.snoc (beq_iff_eq.1 ha)
    have e:T.take i++[T[i]]=T.take (i+1):=by rw[ld hlt]
    rw[e] at g' ⊢
    rw[nJ (by omega)]
    exact ih (i+1) (by omega) g'
 have:=key T.length 0 (by omega) (by rw[lB];exact MN.nil)
 rw[lB,kO] at this
 exact Ev.F6 (F:=fun f m=>Ak f m T 0) this
end Go.Abs
namespace Go.Abs
abbrev StP:=((List Syntax)×(Int×Unit))×((Int×Unit)×((List (Str×Notation))×((List (Str×Notation))×((List (Str×Bool))×Unit))))
def pos (L r:List Syntax):Int:=((L.length-r.length:Nat):Int)
theorem pos_at {L t r:List Syntax} (h:L=t++r):pos L r=(t.length:Int):=by
 subst h;unfold pos;rw[kL,me]
theorem Xe (L:List Syntax):pos L []=(L.length:Int):=rfl
theorem pos_all (L:List Syntax):pos L L=0:=by unfold pos;rw[Nat.sub_self];rfl
theorem Gn {L:List Syntax} {y:Syntax} {r:List Syntax} (h:y::r<:+L):decide ((L.length:Int)≤pos L (y::r))=false∧zj L (pos L (y::r))=some y:=by
 obtain ⟨t,rfl⟩:=h
 rw[pos_at rfl]
 have hlt:t.length<(t++y::r).length:=by rw[kL,kJ];omega
 refine ⟨decide_eq_false (by omega),?_⟩
 rw[sC hlt,List.getElem_append_right (kS _)]
 simp
theorem OS {L:List Syntax} {y:Syntax} {r:List Syntax} (h:y::r<:+L) (hL:L.length≤cap):IntKind.i64.wrap (pos L (y::r)+1)=pos L r:=by
 obtain ⟨t,rfl⟩:=h
 simp only[cap] at hL
 rw[kL,kJ] at hL
 rw[pos_at rfl,pos_at (t:=t++[y]) (by simp),nJ (by omega),kL,kM]
theorem VX {L:List Syntax} {y:Syntax} {r:List Syntax} (h:y::r<:+L):r<:+L:=(mj y r).trans h
section prog
variable (L:List Syntax) (sz:Int) (B C:List (Str×Notation)) (I:List (Str×Bool))
def VY (r:List Syntax):StP:=((L,pos L r,()),(sz,()),B,C,I,())
def U2:Out→PR (StP×(Syntax×(Int×Unit))) (StP×(Unit×Unit))
 | .bad q=> .pn (VY L sz B C I q,(),())
 | .val x h q=> .ok (VY L sz B C I q,x,h,())
 | .ops _ _ q=> .pn (VY L sz B C I q,(),())
def resR (n:Notation) (start:Int):Out→PR (StP×(Syntax×Unit)) (StP×(Unit×Unit))
 | .bad q=> .pn (VY L sz B C I q,(),())
 | .val _ _ q=> .pn (VY L sz B C I q,(),())
 | .ops l e q=> .ok (VY L sz B C I q,L6 n l start e,())
theorem KR {r:List Syntax} (h:r<:+L):Ev (fun f=>tA f L (pos L r) sz B C I) (VY L sz B C I r,match L7 r with|none=>([],false,())|some s=>(s,true,())):=by
 refine Ev.fn (fun n=>by simp only[tA,zk];exact rfl) ?_
 match r,h with
 |[],h=>
  rw[Xe,decide_eq_true (lT _)]
  exact Ev.pure
 |y::r,h=>
  obtain ⟨h1,h2⟩:=Gn h
  rw[h1,h2]
  simp only[cond_false,kF]
  rw[show L7 (y::r)=bif y.kind==17 then some y.text else none from rfl,bne]
  cases y.kind==17<;>exact Ev.pure
theorem app_ev1 (n:Notation) (ops:List Syntax) (hl:ops.length≤cap) (f t:Int) (r:List Syntax): ∀ (d i:Nat) (k:Int) (s:Str) (kids:List Syntax) (a b:Int),i+d=ops.length→
 pN (fun g m=>uw (ng g) (m0 g) (nK g) g m f t (ops.length:Int) (i:Int) L (pos L r) sz B C I ops k s kids a b) (.ok (VY L sz B C I r,ZE (Syntax.mk k s 0 [] [] kids a b) (ops.drop i) f t,())):=by
 simp only[cap] at hl
 intro d
 induction d with
 |zero=>
  intro i k s kids a b hi
  refine pN.lp (fun n m=>by simp only[uw,wZ];exact rfl) ?_
  have:decide ((i:Int)<(ops.length:Int))=false:=decide_eq_false (by omega)
  simp only[this,cond_false,kH (show ops.length≤i by omega)]
  exact pN.pure
 |succ d ih=>
  intro i k s kids a b hi
  have hlt:i<ops.length:=by omega
  refine pN.lp (fun n m=>by simp only[uw,wZ];exact rfl) ?_
  have:decide ((i:Int)<(ops.length:Int))=true:=decide_eq_true (by omega)
  simp only[this,cond_true]
  refine pN.idx hlt ?_
  rw[nJ (by omega),kG hlt]
  exact ih (i+1) 2 [] _ f t (by omega)
theorem app_ev2 (n:Notation) (ops:List Syntax) (hl:ops.length≤cap) (f t:Int) (r:List Syntax): ∀ (d i:Nat) (k:Int) (s:Str) (kids:List Syntax) (a b:Int),i+d=ops.length→
 pN (fun g m=>ux (ng g) (m0 g) (nK g) g m f t ops (ops.length:Int) (i:Int) L (pos L r) sz B C I k s kids a b) (.ok (VY L sz B C I r,ZE (Syntax.mk k s 0 [] [] kids a b) (ops.drop i) f t,())):=by
 simp only[cap] at hl
 intro d
 induction d with
 |zero=>
  intro i k s kids a b hi
  refine pN.lp (fun n m=>by simp only[ux,w8];exact rfl) ?_
  have:decide ((i:Int)<(ops.length:Int))=false:=decide_eq_false (by omega)
  simp only[this,cond_false,kH (show ops.length≤i by omega)]
  exact pN.pure
 |succ d ih=>
  intro i k s kids a b hi
  have hlt:i<ops.length:=by omega
  refine pN.lp (fun n m=>by simp only[ux,w8];exact rfl) ?_
  have:decide ((i:Int)<(ops.length:Int))=true:=decide_eq_true (by omega)
  simp only[this,cond_true]
  refine pN.idx hlt ?_
  rw[nJ (by omega),kG hlt]
  exact ih (i+1) 2 [] _ f t (by omega)
def PG:W9→Out→Prop
 | .level m r,o=>Ev (fun f=>ng f m L (pos L r) sz B C I) (U2 L sz B C I o)
 | .first m r,o=>Ev (fun f=>m0 f m L (pos L r) sz B C I) (U2 L sz B C I o)
 | .loop m out has r,o=>pN (fun f k=>qP (ng f) (m0 f) (nK f) f k m has L (pos L r) sz B C I out) (U2 L sz B C I o)
 | .parts n ps i ops e r,o=>Ok n→ ∀ (from_ j:Nat) (start:Int),i=from_+j→from_+j≤n.parts.length→ps=n.parts.drop i→ops.length≤i→
     pN (fun f k=>rZ (ng f) (m0 f) (nK f) f k (from_:Int) start e (n.parts.drop from_) ((n.parts.drop from_).length:Int) (j:Int) L (pos L r) sz B C I n ops) (resR L sz B C I n start o)∧
     pN (fun f k=>rj (ng f) (m0 f) (nK f) f k (from_:Int) ops start e (n.parts.drop from_) ((n.parts.drop from_).length:Int) (j:Int) L (pos L r) sz B C I n) (resR L sz B C I n start o)
variable {L} {sz} {B} {C} {I} {T:List Notation}
theorem P4 {ops:List Syntax} (h:ops.length<17):decide ((ops.length+1)*120≤17592186044416)=true:=decide_eq_true (by omega)
theorem Fz {n:Notation} (k:Ok n) {from_:Nat} (hf:from_≤n.parts.length) {ops:List Syntax} (ho:ops.length≤from_) {r:List Syntax} {o:Out} (h:PG L sz B C I (.parts n (n.parts.drop from_) from_ ops 0 r) o) (start:Int):
 Ev (fun f=>nK f n (from_:Int) ops start L (pos L r) sz B C I) (resR L sz B C I n start o):=by
 refine Ev.fn (fun n=>by simp only[nK,AJ];exact rfl) ?_
 rw[decide_eq_true (show (0:Int)≤(from_:Int)∧(from_:Int)≤(n.parts.length:Int)∧(n.parts.length:Int)≤(n.parts.length:Int) by omega)]
 simp only[cond_true,lR,lY]
 exact Ev.F6 (F:=fun f k=>rj (ng f) (m0 f) (nK f) f k (from_:Int) ops start 0 (n.parts.drop from_) ((n.parts.drop from_).length:Int) 0 L (pos L r) sz B C I n) (h k from_ 0 start (by omega) (by omega) rfl ho).2
theorem OT {n:Notation} {s:Str} {ps:List Str} {i from_ j:Nat} (hps:s::ps=n.parts.drop i) (hi:i=from_+j):
 ((j:Int)<((n.parts.drop from_).length:Int))∧zj (n.parts.drop from_) (j:Int)=some s∧ps=n.parts.drop (i+1)∧i<n.parts.length:=by
 have hlt:i<n.parts.length:=by
  have:=congrArg lA hps
  rw[kY,kJ] at this
  omega
 have hd:=kG hlt
 rw[hd,l6] at hps
 have hj:j<(n.parts.drop from_).length:=by rw[kY];omega
 refine ⟨by omega,?_,hps.2,hlt⟩
 rw[sC hj,List.getElem_drop,hps.1]
 subst hi;rfl
theorem OU {i from_ j:Nat} {n:Notation} (hi:i=from_+j) (k:Ok n) (hle:from_+j≤n.parts.length):IntKind.i64.wrap ((from_:Int)+(j:Int))=((from_+j:Nat):Int):=by
 have:=k.W8
 rw[wrap_small (by omega) (by omega)];omega
theorem C2.prog (g:MN T) (X:Idx T sz B C I) (hL:L.length≤cap) {c:W9} {o:Out} (h:C2 T c o):c.rest<:+L→PG L sz B C I c o:=by
 induction h with
 | @Hu n i ops e r=>
   intro hr k from_ j start hi hle hps ho
   have hj:from_+j=n.parts.length:=by
    have:=congrArg lA hps
    rw[kY,kU] at this
    omega
   have he:decide ((j:Int)<((n.parts.drop from_).length:Int))=false:=decide_eq_false (by rw[kY];omega)
   have hoc:ops.length≤cap:=by have:=k.Lj;omega
   constructor
   ·refine pN.lp (fun n m=>by simp only[rZ,sU];exact rfl) ?_
    simp only[he,cond_false]
    have:=app_ev1 L sz B C I n ops hoc start e r ops.length 0 0 n.target [] start e (by omega)
    exact pN.Vl (Ev.F6 (F:=fun f m=>uw (ng f) (m0 f) (nK f) f m start e (ops.length:Int) 0 L (pos L r) sz B C I ops 0 n.target [] start e) this)
   ·refine pN.lp (fun n m=>by simp only[rj,sV];exact rfl) ?_
    simp only[he,cond_false]
    have:=app_ev2 L sz B C I n ops hoc start e r ops.length 0 0 n.target [] start e (by omega)
    exact pN.Vl (Ev.F6 (F:=fun f m=>ux (ng f) (m0 f) (nK f) f m start e ops (ops.length:Int) 0 L (pos L r) sz B C I 0 n.target [] start e) this)
 | @OP n ps i ops e r q h1 ih=>
   intro hr k from_ j start hi hle hps ho
   obtain ⟨hlt,hx,hd,Uc⟩:=OT hps hi
   constructor
   ·refine pN.lp (fun n m=>by simp only[rZ,sU];exact rfl) ?_
    rw[decide_eq_true hlt]
    simp only[cond_true,hx,kF,beq_self_eq_true]
    rw[OU hi k hle,←hi]
    refine pN.qW (Fy k (i:=i) (by omega)) (pN.qW (ih hr) ?_)
    exact pN.pure
   ·refine pN.lp (fun n m=>by simp only[rj,sV];exact rfl) ?_
    rw[decide_eq_true hlt]
    simp only[cond_true,hx,kF,beq_self_eq_true]
    rw[OU hi k hle,←hi]
    refine pN.qW (Fy k (i:=i) (by omega)) (pN.qW (ih hr) ?_)
    exact pN.pure
 | @hole n ps i ops e r x h q o h1 h2 ih1 ih2=>
   intro hr k from_ j start hi hle hps ho
   obtain ⟨hlt,hx,hd,Uc⟩:=OT hps hi
   have hq:q<:+L:=(h1.suff (o:= .val x h q)).trans hr
   have next:=(ih2 hq k from_ (j+1) start (by omega) (by omega) hd (by rw[kL,kM];omega)).1
   have hw:IntKind.i64.wrap ((j:Int)+1)=((j+1:Nat):Int):=nJ (by have:=k.W8;omega)
   constructor
   ·refine pN.lp (fun n m=>by simp only[rZ,sU];exact rfl) ?_
    rw[decide_eq_true hlt]
    simp only[cond_true,hx,kF,beq_self_eq_true]
    rw[OU hi k hle,←hi]
    refine pN.qW (Fy k (i:=i) (by omega)) (pN.qW (ih1 hr) ?_)
    simp only[U2,MW,VY]
    rw[P4 (by have:=k.W8;omega),hw]
    exact next
   ·refine pN.lp (fun n m=>by simp only[rj,sV];exact rfl) ?_
    rw[decide_eq_true hlt]
    simp only[cond_true,hx,kF,beq_self_eq_true]
    rw[OU hi k hle,←hi]
    refine pN.qW (Fy k (i:=i) (by omega)) (pN.qW (ih1 hr) ?_)
    simp only[U2,MW,VY]
    rw[P4 (by have:=k.W8;omega),hw]
    exact next
 | @TM n s ps i ops e r hs hq=>
   intro hr k from_ j start hi hle hps ho
   obtain ⟨hlt,hx,hd,Uc⟩:=OT hps hi
   have hs':(s==[])=false:=beq_eq_false_iff_ne.2 hs
   constructor
   ·refine pN.lp (fun n m=>by simp only[rZ,sU];exact rfl) ?_
    rw[decide_eq_true hlt]
    simp only[cond_true,hx,kF,hs',cond_false]
    refine pN.qW (KR L sz B C I hr) ?_
    cases hy:L7 r with
    |none=>exact pN.pure
    |some t=>
     have:(t==s)=false:=beq_eq_false_iff_ne.2 fun e=>hq (by rw[hy,e])
     simp only[cond_true,this,cond_false]
     exact pN.pure
   ·refine pN.lp (fun n m=>by simp only[rj,sV];exact rfl) ?_
    rw[decide_eq_true hlt]
    simp only[cond_true,hx,kF,hs',cond_false]
    refine pN.qW (KR L sz B C I hr) ?_
    cases hy:L7 r with
    |none=>exact pN.pure
    |some t=>
     have:(t==s)=false:=beq_eq_false_iff_ne.2 fun e=>hq (by rw[hy,e])
     simp only[cond_true,this,cond_false]
     exact pN.pure
 | @sym n s ps i ops e y r o hs hk ht h2 ih=>
   intro hr k from_ j start hi hle hps ho
   obtain ⟨hlt,hx,hd,Uc⟩:=OT hps hi
   have hs':(s==[])=false:=beq_eq_false_iff_ne.2 hs
   simp only[W9.rest] at hr ih
   obtain ⟨next1,next2⟩:=ih (VX hr) k from_ (j+1) start (by omega) (by omega) hd (by omega)
   have hw:IntKind.i64.wrap ((j:Int)+1)=((j+1:Nat):Int):=nJ (by have:=k.W8;omega)
   have hp:=OS hr hL
   constructor
   ·refine pN.lp (fun n m=>by simp only[rZ,sU];exact rfl) ?_
    rw[decide_eq_true hlt]
    simp only[cond_true,hx,kF,hs',cond_false]
    refine pN.qW (KR L sz B C I hr) ?_
    rw[Xa hk]
    simp only[ht,beq_self_eq_true,cond_true,VY,(Gn hr).2,kF,hp,hw]
    exact next1
   ·refine pN.lp (fun n m=>by simp only[rj,sV];exact rfl) ?_
    rw[decide_eq_true hlt]
    simp only[cond_true,hx,kF,hs',cond_false]
    refine pN.qW (KR L sz B C I hr) ?_
    rw[Xa hk]
    simp only[ht,beq_self_eq_true,cond_true,VY,(Gn hr).2,kF,hp,hw]
    exact next2
 | @JP m=>
   intro hr
   show Ev (fun f=>m0 f m L (pos L []) sz B C I) _
   refine Ev.fn (fun n=>by simp only[m0,sn];exact rfl) ?_
   rw[Xe,decide_eq_true (lT _)]
   exact Ev.pure
 | @GO m x r hx=>
   intro hr
   show Ev (fun f=>m0 f m L (pos L (x::r)) sz B C I) _
   refine Ev.fn (fun n=>by simp only[m0,sn];exact rfl) ?_
   obtain ⟨h1,h2⟩:=Gn hr
   rw[h1,h2,OS hr hL]
   have:(x.kind !=17)=true:=by rw[bne,beq_eq_false_iff_ne.2 hx];rfl
   simp only[cond_false,kF,this,cond_true]
   exact Ev.pure
 | @JQ m x r hx hb=>
   intro hr
   show Ev (fun f=>m0 f m L (pos L (x::r)) sz B C I) _
   refine Ev.fn (fun n=>by simp only[m0,sn];exact rfl) ?_
   obtain ⟨h1,h2⟩:=Gn hr
   rw[h1,h2]
   have:(x.kind !=17)=false:=by rw[bne,beq_iff_eq.2 hx];rfl
   simp only[cond_false,kF,this,X.b]
   unfold ZF at hb
   cases hf:uV T x.text false with
   |none=>exact Ev.pure
   |some n=>
    rw[hf] at hb
    have kn:=g.ok (AT hf).1
    simp only[Rr]
    cases hc:Jj n&&decide (n.level<m) with
    |false=>simp only[hc] at hb;cases hb
    |true=>
     rw[k9] at hc
     refine Ev.bind (uN kn.pos kn.Lj).1 ?_
     rw[hc.1,hc.2]
     exact Ev.pure
 | @L8 m x r n q hx hb h1 ih=>
   intro hr
   show Ev (fun f=>m0 f m L (pos L (x::r)) sz B C I) _
   refine Ev.fn (fun n=>by simp only[m0,sn];exact rfl) ?_
   obtain ⟨e1,e2⟩:=Gn hr
   rw[e1,e2]
   have:(x.kind !=17)=false:=by rw[bne,beq_iff_eq.2 hx];rfl
   obtain ⟨hn,hl,hh,hlev⟩:=JS hb
   have kn:=g.ok hn
   have hf:uV T x.text false=some n:=by rw[←hh,←hl];exact DB g hn
   simp only[cond_false,kF,this,X.b,hf,Rr]
   have sY:=Fz kn (kT _) (kS 0) (ops:=[]) (ih hr) x.from_
   refine Ev.bind (uN kn.pos kn.Lj).1 ?_
   cases Xf:Jj n with
   |true=>
    have:decide (n.level<m)=false:=decide_eq_false (by have:=hlev Xf;omega)
    simp only[cond_true,this,cond_false]
    refine Ev.bind (uN kn.pos kn.Lj).1 ?_
    rw[Xf]
    exact Ev.bind sY Ev.pure
   |false=>
    simp only[cond_false]
    refine Ev.bind (uN kn.pos kn.Lj).1 ?_
    rw[Xf]
    exact Ev.bind sY Ev.pure
 | @first m x r n l e q hx hb h1 ih=>
   intro hr
   show Ev (fun f=>m0 f m L (pos L (x::r)) sz B C I) _
   refine Ev.fn (fun n=>by simp only[m0,sn];exact rfl) ?_
   obtain ⟨e1,e2⟩:=Gn hr
   rw[e1,e2]
   have:(x.kind !=17)=false:=by rw[bne,beq_iff_eq.2 hx];rfl
   obtain ⟨hn,hl,hh,hlev⟩:=JS hb
   have kn:=g.ok hn
   have hf:uV T x.text false=some n:=by rw[←hh,←hl];exact DB g hn
   simp only[cond_false,kF,this,X.b,hf,Rr]
   have sY:=Fz kn (kT _) (kS 0) (ops:=[]) (ih hr) x.from_
   refine Ev.bind (uN kn.pos kn.Lj).1 ?_
   have ho:outLev n=bif Jj n then n.level else 101:=rfl
   cases Xf:Jj n with
   |true=>
    rw[Xf] at ho
    have:decide (n.level<m)=false:=decide_eq_false (by have:=hlev Xf;omega)
    simp only[cond_true,this,cond_false]
    refine Ev.bind (uN kn.pos kn.Lj).1 ?_
    rw[Xf]
    refine Ev.bind sY ?_
    simp only[resR,U2,MW,VY,ho,cond_true]
    exact Ev.pure
   |false=>
    rw[Xf] at ho
    simp only[cond_false]
    refine Ev.bind (uN kn.pos kn.Lj).1 ?_
    rw[Xf]
    refine Ev.bind sY ?_
    simp only[resR,U2,MW,VY,ho,cond_false]
    exact Ev.pure
 | @stop m out has r hg=>
   intro hr
   show pN (fun f k=>qP (ng f) (m0 f) (nK f) f k m has L (pos L r) sz B C I out) _
   refine pN.lp (fun n m=>by simp only[qP,vp];exact rfl) ?_
   refine pN.qW (KR L sz B C I hr) ?_
   unfold TL at hg
   cases hs:L7 r with
   |none=>exact pN.pure
   |some s=>
    rw[hs] at hg
    simp only at hg
    simp only[cond_true,VY,X.c]
    cases hf:uV T s true with
    |none=>exact pN.pure
    |some n=>
     rw[hf] at hg
     have kn:=g.ok (AT hf).1
     simp only[Rr]
     cases h1:decide (n.level<m) with
     |true=>exact pN.pure
     |false=>
      simp only[cond_false]
      refine pN.qW (Fy kn (i:=0) kn.pos) ?_
      cases h2:decide (has<rG n 0) with
      |true=>exact pN.pure
      |false=>simp [h1,h2] at hg
 | @ZG m out has r n q hg h1 ih=>
   intro hr
   show pN (fun f k=>qP (ng f) (m0 f) (nK f) f k m has L (pos L r) sz B C I out) _
   refine pN.lp (fun n m=>by simp only[qP,vp];exact rfl) ?_
   refine pN.qW (KR L sz B C I hr) ?_
   obtain ⟨hn,hl,hs,hm,hh⟩:=JT hg
   have kn:=g.ok hn
   have hf:uV T (qx n) true=some n:=by rw[←hl];exact DB g hn
   have sY:=Fz kn kn.pos (kS 1) (ops:=[out]) (ih hr) out.from_
   rw[hs]
   simp only[cond_true,VY,X.c,hf,Rr]
   rw[decide_eq_false (show ¬ n.level<m by omega)]
   simp only[cond_false]
   refine pN.qW (Fy kn (i:=0) kn.pos) ?_
   rw[decide_eq_false (show ¬ has<rG n 0 by omega)]
   exact pN.qW sY pN.pure
 | @go m out has r n l e q o hg h1 h2 ih1 ih2=>
   intro hr
   show pN (fun f k=>qP (ng f) (m0 f) (nK f) f k m has L (pos L r) sz B C I out) _
   refine pN.lp (fun n m=>by simp only[qP,vp];exact rfl) ?_
   refine pN.qW (KR L sz B C I hr) ?_
   obtain ⟨hn,hl,hs,hm,hh⟩:=JT hg
   have kn:=g.ok hn
   have hf:uV T (qx n) true=some n:=by rw[←hl];exact DB g hn
   have sY:=Fz kn kn.pos (kS 1) (ops:=[out]) (ih1 hr) out.from_
   rw[hs]
   simp only[cond_true,VY,X.c,hf,Rr]
   rw[decide_eq_false (show ¬ n.level<m by omega)]
   simp only[cond_false]
   refine pN.qW (Fy kn (i:=0) kn.pos) ?_
   rw[decide_eq_false (show ¬ has<rG n 0 by omega)]
   refine pN.qW sY ?_
   exact ih2 ((h1.suff (o:= .ops l e q)).trans hr)
 | @JR m r q h1 ih=>
   intro hr
   show Ev (fun f=>ng f m L (pos L r) sz B C I) _
   refine Ev.fn (fun n=>by simp only[ng,xO];exact rfl) ?_
   exact Ev.bind (ih hr) Ev.pure
 | @level m r x h q o h1 h2 ih1 ih2=>
   intro hr
   show Ev (fun f=>ng f m L (pos L r) sz B C I) _
   refine Ev.fn (fun n=>by simp only[ng,xO];exact rfl) ?_
   refine Ev.bind (ih1 hr) ?_
   exact Ev.F6 (F:=fun f k=>qP (ng f) (m0 f) (nK f) f k m h L (pos L q) sz B C I x) (ih2 ((h1.suff (o:= .val x h q)).trans hr))
end prog
end Go.Abs
namespace Go.Abs
section ref
variable (T:List Notation) (L:List Syntax)
def Ez (r:List Syntax) (b:Bool):mO:=⟨T,L,pos L r,b⟩
theorem Xg (r:List Syntax) (b:Bool):(Ez T L r b).bad=b:=rfl
theorem rs_end (b:Bool):decide (((Ez T L [] b).l.length:Int)≤(Ez T L [] b).at_)=true:=decide_eq_true (lT _)
theorem VZ {y:Syntax} {r:List Syntax} {b:Bool} (h:y::r<:+L):decide (((Ez T L (y::r) b).l.length:Int)≤(Ez T L (y::r) b).at_)=false∧zj (Ez T L (y::r) b).l (Ez T L (y::r) b).at_=some y:=Gn h
theorem rs_next {y:Syntax} {r:List Syntax} {b:Bool} (h:y::r<:+L) (hL:L.length≤cap):IntKind.i64.wrap ((Ez T L (y::r) b).at_+1)=pos L r:=OS h hL
theorem OV {r:List Syntax} (h:r<:+L):Ev (fun f=>uQ f (Ez T L r false)) ((Ez T L r false,()),match L7 r with|none=>([],false,())|some s=>(s,true,())):=by
 refine Ev.fn (fun n=>by simp only[uQ,Bf];exact rfl) ?_
 match r,h with
 |[],h=>
  rw[Xg,rs_end]
  exact Ev.pure
 |y::r,h=>
  rw[Xg,(VZ T L h).1,(VZ T L h).2]
  simp only[cond_false,kF]
  rw[show L7 (y::r)=bif y.kind==17 then some y.text else none from rfl,bne]
  cases y.kind==17<;>exact Ev.pure
theorem OW (n:Notation) (ops:List Syntax) (hl:ops.length≤cap) (a b:Int):Ev (fun f=>FU f n ops a b) (L6 n ops a b):=by
 refine Ev.fn (fun n=>by simp only[FU,IX];exact rfl) ?_
 simp only[cap] at hl
 have key: ∀ (d i:Nat) (k:Int) (s:Str) (kids:List Syntax) (p q:Int),i+d=ops.length→pN (fun g m=>Ad g m ops a b (i:Int) k s kids p q) (ZE (Syntax.mk k s 0 [] [] kids p q) (ops.drop i) a b):=by
  intro d
  induction d with
  |zero=>
   intro i k s kids p q hi
   refine pN.lp (fun n m=>by simp only[Ad,D4];exact rfl) ?_
   have:decide ((i:Int)<(ops.length:Int))=false:=decide_eq_false (by omega)
   simp only[this,cond_false,kH (show ops.length≤i by omega)]
   exact pN.pure
  |succ d ih=>
   intro i k s kids p q hi
   have hlt:i<ops.length:=by omega
   refine pN.lp (fun n m=>by simp only[Ad,D4];exact rfl) ?_
   have:decide ((i:Int)<(ops.length:Int))=true:=decide_eq_true (by omega)
   simp only[this,cond_true]
   refine pN.idx hlt ?_
   rw[nJ (by omega),kG hlt]
   exact ih (i+1) 2 [] _ a b (by omega)
 exact Ev.F6 (F:=fun g m=>Ad g m ops a b 0 0 n.target [] a b) (key ops.length 0 0 n.target [] a b (by omega))
def QE (o:Out) (z:(mO×Unit)×(Syntax×(Int×Unit))):Prop:=
 match o with
 | .bad q=>z.1.1=Ez T L q true
 | .val x h q=>z=((Ez T L q false,()),x,h,())
 | .ops _ _ _=>False
def QR (n:Notation) (start:Int) (o:Out) (z:((mO×Unit)×Unit)×(Syntax×Unit)):Prop:=
 match o with
 | .bad q=>z.1.1.1=Ez T L q true
 | .val _ _ _=>False
 | .ops l e q=>z=(((Ez T L q false,()),()),L6 n l start e,())
def RG:W9→Out→Prop
 | .level m r,o=>uu (fun f=>nG f (Ez T L r false) m) (QE T L o)
 | .first m r,o=>uu (fun f=>nx f (Ez T L r false) m) (QE T L o)
 | .loop m out has r,o=>oY (fun f k=>qg (nG f) (nx f) (n5 f) f k m has (Ez T L r false) out) (QE T L o)
 | .parts n ps i ops e r,o=>Ok n→ ∀ (start:Int),i≤n.parts.length→ps=n.parts.drop i→ops.length≤i→
     oY (fun f k=>rz (nG f) (nx f) (n5 f) f k start e (i:Int) (Ez T L r false) n ops) (QR T L n start o)∧
     oY (fun f k=>rT (nG f) (nx f) (n5 f) f k ops start e (i:Int) (Ez T L r false) n) (QR T L n start o)
variable {T} {L}
theorem Xh {n:Notation} (k:Ok n) {from_:Nat} (hf:from_≤n.parts.length) {ops:List Syntax} (ho:ops.length≤from_) {r:List Syntax} {o:Out} (h:RG T L (.parts n (n.parts.drop from_) from_ ops 0 r) o) (start:Int):
 uu (fun f=>n5 f n (from_:Int) ops start (Ez T L r false)) (QR T L n start o):=by
 refine uu.fn (fun n=>by simp only[n5,BT];exact rfl) ?_
 exact uu.F6 (F:=fun f k=>rT (nG f) (nx f) (n5 f) f k ops start 0 (from_:Int) (Ez T L r false) n) (h k start hf rfl ho).2
theorem drop_at {n:Notation} {s:Str} {ps:List Str} {i:Nat} (hps:s::ps=n.parts.drop i):decide ((i:Int)<(n.parts.length:Int))=true∧zj n.parts (i:Int)=some s∧ps=n.parts.drop (i+1)∧i<n.parts.length:=by
 obtain ⟨h1,h2,h3,h4⟩:=OT (n:=n) (from_:=0) (j:=i) hps (by omega)
 rw[kO] at h1 h2
 exact ⟨decide_eq_true h1,h2,h3,h4⟩
theorem Ev.Gp {S R:Type} {F:Nat→Option S} {x:S} {G:Nat→Nat→S→Option R} {Q:R→Prop} (h:Ev F x) (hg:oY (fun n m=>G n m x) Q):oY (fun n m=>(F n).bind (G n m)) Q:=
 oY.qW (h.tot (Q:=(· =x)) rfl) fun y hy=>by subst hy;exact hg
theorem Ev.ZY {S R:Type} {F:Nat→Option S} {x:S} {G:Nat→S→Option R} {Q:R→Prop} (h:Ev F x) (hg:uu (fun n=>G n x) Q):uu (fun n=>(F n).bind (G n)) Q:=
 uu.bind (h.tot (Q:=(· =x)) rfl) fun y hy=>by subst hy;exact hg
theorem TU {R:Type} (g:MN T) {n:Notation} {s:Str} {c:Bool} (h:uV T s c=some n) {G:Nat→Notation×Bool→Option R} {Q:R→Prop} (hg:uu (fun f=>G f (n,true)) Q):uu (fun f=>(BP f T s c).bind (G f)) Q:=
 uu.bind (JW g s c) fun y hy=>by rw[h] at hy;subst hy;exact hg
theorem C2.refT (g:MN T) (hL:L.length≤cap) {c:W9} {o:Out} (h:C2 T c o):c.rest<:+L→RG T L c o:=by
 induction h with
 | @Hu n i ops e r=>
   intro hr k start hle hps ho
   have hj:i=n.parts.length:=by
    have:=congrArg lA hps
    rw[kY,kU] at this
    omega
   have he:decide ((i:Int)<(n.parts.length:Int))=false:=decide_eq_false (by omega)
   have hoc:ops.length≤cap:=by have:=k.Lj;omega
   constructor
   ·refine oY.lp (fun n m=>by simp only[rz,sG];exact rfl) ?_
    simp only[he,cond_false]
    exact (OW n ops hoc start e).Gp (oY.pure rfl)
   ·refine oY.lp (fun n m=>by simp only[rT,tU];exact rfl) ?_
    simp only[he,cond_false]
    exact (OW n ops hoc start e).Gp (oY.pure rfl)
 | @OP n ps i ops e r q h1 ih=>
   intro hr k start hle hps ho
   obtain ⟨he,hx,hd,Uc⟩:=drop_at hps
   have hk:=k.W8
   have tail: ∀ (z:(mO×Unit)×(Syntax×(Int×Unit))),z.1.1=Ez T L q true→oY (fun f m=>rz (nG f) (nx f) (n5 f) f m start z.2.1.to ((i+1:Nat):Int) z.1.1 n (ops++[z.2.1])) (QR T L n start (.bad q)):=by
    intro z hz
    rw[hz]
    have hoc:(ops++[z.2.1]).length≤cap:=by rw[kL,kM];simp only[cap];omega
    have ap:=OW n (ops++[z.2.1]) hoc start z.2.1.to
    refine oY.lp (fun n m=>by simp only[rz,sG];exact rfl) ?_
    simp only[Ez,cond_true]
    cases decide (((i+1:Nat):Int)<(n.parts.length:Int)) with
    |true=>exact ap.Gp (oY.pure rfl)
    |false=>exact ap.Gp (oY.pure rfl)
   constructor
   ·refine oY.lp (fun n m=>by simp only[rz,sG];exact rfl) ?_
    simp only[he,cond_true,Ez,cond_false,hx,kF,beq_self_eq_true]
    refine (CS k Uc).Gp (oY.qW (ih hr) fun z hz=> ?_)
    rw[P4 (by omega),nJ (by omega)]
    exact tail z hz
   ·refine oY.lp (fun n m=>by simp only[rT,tU];exact rfl) ?_
    simp only[he,cond_true,Ez,cond_false,hx,kF,beq_self_eq_true]
    refine (CS k Uc).Gp (oY.qW (ih hr) fun z hz=> ?_)
    rw[P4 (by omega),nJ (by omega)]
    exact tail z hz
 | @hole n ps i ops e r x h q o h1 h2 ih1 ih2=>
   intro hr k start hle hps ho
   obtain ⟨he,hx,hd,Uc⟩:=drop_at hps
   have hk:=k.W8
   have hq:q<:+L:=(h1.suff (o:= .val x h q)).trans hr
   have next:=(ih2 hq k start (by omega) hd (by rw[kL,kM];omega)).1
   constructor
   ·refine oY.lp (fun n m=>by simp only[rz,sG];exact rfl) ?_
    simp only[he,cond_true,Ez,cond_false,hx,kF,beq_self_eq_true]
    refine (CS k Uc).Gp (oY.qW (ih1 hr) fun z hz=> ?_)
    have hz:z=_:=hz
    subst hz
    rw[P4 (by omega),nJ (by omega)]
    exact next
   ·refine oY.lp (fun n m=>by simp only[rT,tU];exact rfl) ?_
    simp only[he,cond_true,Ez,cond_false,hx,kF,beq_self_eq_true]
    refine (CS k Uc).Gp (oY.qW (ih1 hr) fun z hz=> ?_)
    have hz:z=_:=hz
    subst hz
    rw[P4 (by omega),nJ (by omega)]
    exact next
 | @TM n s ps i ops e r hs hq=>
   intro hr k start hle hps ho
   obtain ⟨he,hx,hd,Uc⟩:=drop_at hps
   have hk:=k.W8
   have hs':(s==[])=false:=beq_eq_false_iff_ne.2 hs
   have hoc:ops.length≤cap:=by simp only[cap];omega
   have ap:=OW n ops hoc start e
   have sy:=OV T L (show r<:+L from hr)
   constructor
   ·refine oY.lp (fun n m=>by simp only[rz,sG];exact rfl) ?_
    simp only[he,cond_true,Ez,cond_false,hx,kF,hs']
    cases hy:L7 r with
    |none=>
     rw[hy] at sy
     exact sy.Gp (ap.Gp (oY.pure rfl))
    |some t=>
     rw[hy] at sy
     refine sy.Gp ?_
     have:(t==s)=false:=beq_eq_false_iff_ne.2 fun e=>hq (by rw[hy,e])
     simp only[cond_true,hx,kF,this,cond_false]
     exact ap.Gp (oY.pure rfl)
   ·refine oY.lp (fun n m=>by simp only[rT,tU];exact rfl) ?_
    simp only[he,cond_true,Ez,cond_false,hx,kF,hs']
    cases hy:L7 r with
    |none=>
     rw[hy] at sy
     exact sy.Gp (ap.Gp (oY.pure rfl))
    |some t=>
     rw[hy] at sy
     refine sy.Gp ?_
     have:(t==s)=false:=beq_eq_false_iff_ne.2 fun e=>hq (by rw[hy,e])
     simp only[cond_true,hx,kF,this,cond_false]
     exact ap.Gp (oY.pure rfl)
 | @sym n s ps i ops e y r o hs hk ht h2 ih=>
   intro hr k start hle hps ho
   obtain ⟨he,hx,hd,Uc⟩:=drop_at hps
   have hk16:=k.W8
   have hs':(s==[])=false:=beq_eq_false_iff_ne.2 hs
   simp only[W9.rest] at hr ih
   obtain ⟨next1,next2⟩:=ih (VX hr) k start (by omega) hd (by omega)
   have sy:=OV T L hr
   have hp:=OS hr hL
   rw[Xa hk] at sy
   constructor
   ·refine oY.lp (fun n m=>by simp only[rz,sG];exact rfl) ?_
    simp only[he,cond_true,Ez,cond_false,hx,kF,hs']
    refine sy.Gp ?_
    simp only[cond_true,hx,kF,ht,beq_self_eq_true,Ez,(Gn hr).2,hp]
    rw[nJ (by omega)]
    exact next1
   ·refine oY.lp (fun n m=>by simp only[rT,tU];exact rfl) ?_
    simp only[he,cond_true,Ez,cond_false,hx,kF,hs']
    refine sy.Gp ?_
    simp only[cond_true,hx,kF,ht,beq_self_eq_true,Ez,(Gn hr).2,hp]
    rw[nJ (by omega)]
    exact next2
 | @JP m=>
   intro hr
   show uu (fun f=>nx f (Ez T L [] false) m) _
   refine uu.fn (fun n=>by simp only[nx,uF];exact rfl) ?_
   rw[rs_end]
   exact uu.pure rfl
 | @GO m x r hx=>
   intro hr
   show uu (fun f=>nx f (Ez T L (x::r) false) m) _
   refine uu.fn (fun n=>by simp only[nx,uF];exact rfl) ?_
   obtain ⟨h1,h2⟩:=VZ T L (b:=false) hr
   rw[h1,h2,rs_next T L hr hL]
   have:(x.kind !=17)=true:=by rw[bne,beq_eq_false_iff_ne.2 hx];rfl
   simp only[cond_false,kF,this,cond_true]
   exact uu.pure rfl
 | @JQ m x r hx hb=>
   intro hr
   show uu (fun f=>nx f (Ez T L (x::r) false) m) _
   refine uu.fn (fun n=>by simp only[nx,uF];exact rfl) ?_
   obtain ⟨h1,h2⟩:=VZ T L (b:=false) hr
   rw[h1,h2]
   have:(x.kind !=17)=false:=by rw[bne,beq_iff_eq.2 hx];rfl
   simp only[cond_false,kF,this]
   unfold ZF at hb
   cases hf:uV T x.text false with
   |none=>
    refine uu.bind (JW g x.text false) fun y hy=> ?_
    rw[hf] at hy
    have hy:y.2=false:=hy
    rw[hy]
    exact uu.pure rfl
   |some n=>
    rw[hf] at hb
    have kn:=g.ok (AT hf).1
    refine TU g hf ?_
    simp only at hb
    cases hc:Jj n&&decide (n.level<m) with
    |false=>simp only[hc] at hb;cases hb
    |true=>
     rw[k9] at hc
     simp only[cond_true]
     refine (uN kn.pos kn.Lj).2.ZY ?_
     rw[hc.1,hc.2]
     exact uu.pure rfl
 | @L8 m x r n q hx hb h1 ih=>
   intro hr
   show uu (fun f=>nx f (Ez T L (x::r) false) m) _
   refine uu.fn (fun n=>by simp only[nx,uF];exact rfl) ?_
   obtain ⟨e1,e2⟩:=VZ T L (b:=false) hr
   rw[e1,e2]
   have:(x.kind !=17)=false:=by rw[bne,beq_iff_eq.2 hx];rfl
   obtain ⟨hn,hl,hh,hlev⟩:=JS hb
   have kn:=g.ok hn
   have hf:uV T x.text false=some n:=by rw[←hh,←hl];exact DB g hn
   simp only[cond_false,kF,this]
   refine TU g hf ?_
   have sY:=Xh kn (kT _) (kS 0) (ops:=[]) (ih hr) x.from_
   simp only[cond_true]
   refine (uN kn.pos kn.Lj).2.ZY ?_
   cases Xf:Jj n with
   |true=>
    have:decide (n.level<m)=false:=decide_eq_false (by have:=hlev Xf;omega)
    simp only[cond_true,this,cond_false]
    refine uu.bind sY fun z hz=>(uN kn.pos kn.Lj).2.ZY ?_
    rw[Xf]
    exact uu.pure hz
   |false=>
    simp only[cond_false]
    refine uu.bind sY fun z hz=>(uN kn.pos kn.Lj).2.ZY ?_
    rw[Xf]
    exact uu.pure hz
 | @first m x r n l e q hx hb h1 ih=>
   intro hr
   show uu (fun f=>nx f (Ez T L (x::r) false) m) _
   refine uu.fn (fun n=>by simp only[nx,uF];exact rfl) ?_
   obtain ⟨e1,e2⟩:=VZ T L (b:=false) hr
   rw[e1,e2]
   have:(x.kind !=17)=false:=by rw[bne,beq_iff_eq.2 hx];rfl
   obtain ⟨hn,hl,hh,hlev⟩:=JS hb
   have kn:=g.ok hn
   have hf:uV T x.text false=some n:=by rw[←hh,←hl];exact DB g hn
   simp only[cond_false,kF,this]
   refine TU g hf ?_
   have sY:=Xh kn (kT _) (kS 0) (ops:=[]) (ih hr) x.from_
   have ho:outLev n=bif Jj n then n.level else 101:=rfl
   simp only[cond_true]
   refine (uN kn.pos kn.Lj).2.ZY ?_
   cases Xf:Jj n with
   |true=>
    rw[Xf] at ho
    have:decide (n.level<m)=false:=decide_eq_false (by have:=hlev Xf;omega)
    simp only[cond_true,this,cond_false]
    refine uu.bind sY fun z hz=>(uN kn.pos kn.Lj).2.ZY ?_
    have hz:z=_:=hz
    subst hz
    rw[Xf,ho]
    exact uu.pure rfl
   |false=>
    rw[Xf] at ho
    simp only[cond_false]
    refine uu.bind sY fun z hz=>(uN kn.pos kn.Lj).2.ZY ?_
    have hz:z=_:=hz
    subst hz
    rw[Xf,ho]
    exact uu.pure rfl
 | @stop m out has r hg=>
   intro hr
   show oY (fun f k=>qg (nG f) (nx f) (n5 f) f k m has (Ez T L r false) out) _
   refine oY.lp (fun n m=>by simp only[qg,tT];exact rfl) ?_
   simp only[Ez,cond_false]
   have sy:=OV T L (show r<:+L from hr)
   unfold TL at hg
   cases hs:L7 r with
   |none=>
    rw[hs] at sy
    exact sy.Gp (oY.pure rfl)
   |some s=>
    rw[hs] at hg sy
    simp only at hg
    refine sy.Gp ?_
    simp only[cond_true,Ez]
    cases hf:uV T s true with
    |none=>
     refine oY.qW (JW g s true) fun y hy=> ?_
     rw[hf] at hy
     have hy:y.2=false:=hy
     rw[hy]
     exact oY.pure rfl
    |some n=>
     rw[hf] at hg
     have kn:=g.ok (AT hf).1
     refine oY.qW (JW g s true) fun y hy=> ?_
     rw[hf] at hy
     have hy:y=_:=hy
     subst hy
     simp only[cond_true]
     cases h1:decide (n.level<m) with
     |true=>exact oY.pure rfl
     |false=>
      simp only[cond_false]
      refine (CS kn (i:=0) kn.pos).Gp ?_
      cases h2:decide (has<rG n 0) with
      |true=>exact oY.pure rfl
      |false=>simp [h1,h2] at hg
 | @ZG m out has r n q hg h1 ih=>
   intro hr
   show oY (fun f k=>qg (nG f) (nx f) (n5 f) f k m has (Ez T L r false) out) _
   refine oY.lp (fun n m=>by simp only[qg,tT];exact rfl) ?_
   simp only[Ez,cond_false]
   have sy:=OV T L (show r<:+L from hr)
   obtain ⟨hn,hl,hs,hm,hh⟩:=JT hg
   rw[hs] at sy
   refine sy.Gp ?_
   have kn:=g.ok hn
   have hf:uV T (qx n) true=some n:=by rw[←hl];exact DB g hn
   have sY:=Xh kn kn.pos (kS 1) (ops:=[out]) (ih hr) out.from_
   simp only[cond_true,Ez]
   refine oY.qW (JW g (qx n) true) fun y hy=> ?_
   rw[hf] at hy
   have hy:y=_:=hy
   subst hy
   simp only[cond_true]
   rw[decide_eq_false (show ¬ n.level<m by omega)]
   simp only[cond_false]
   refine (CS kn (i:=0) kn.pos).Gp ?_
   rw[decide_eq_false (show ¬ has<rG n 0 by omega)]
   refine oY.qW sY fun z hz=> ?_
   have hz:z.1.1.1=_:=hz
   rw[hz]
   refine oY.lp (fun n m=>by simp only[qg,tT];exact rfl) ?_
   exact oY.pure rfl
 | @go m out has r n l e q o hg h1 h2 ih1 ih2=>
   intro hr
   show oY (fun f k=>qg (nG f) (nx f) (n5 f) f k m has (Ez T L r false) out) _
   refine oY.lp (fun n m=>by simp only[qg,tT];exact rfl) ?_
   simp only[Ez,cond_false]
   have sy:=OV T L (show r<:+L from hr)
   obtain ⟨hn,hl,hs,hm,hh⟩:=JT hg
   rw[hs] at sy
   refine sy.Gp ?_
   have kn:=g.ok hn
   have hf:uV T (qx n) true=some n:=by rw[←hl];exact DB g hn
   have sY:=Xh kn kn.pos (kS 1) (ops:=[out]) (ih1 hr) out.from_
   simp only[cond_true,Ez]
   refine oY.qW (JW g (qx n) true) fun y hy=> ?_
   rw[hf] at hy
   have hy:y=_:=hy
   subst hy
   simp only[cond_true]
   rw[decide_eq_false (show ¬ n.level<m by omega)]
   simp only[cond_false]
   refine (CS kn (i:=0) kn.pos).Gp ?_
   rw[decide_eq_false (show ¬ has<rG n 0 by omega)]
   refine oY.qW sY fun z hz=> ?_
   have hz:z=_:=hz
   subst hz
   exact ih2 ((h1.suff (o:= .ops l e q)).trans hr)
 | @JR m r q h1 ih=>
   intro hr
   show uu (fun f=>nG f (Ez T L r false) m) _
   refine uu.fn (fun n=>by simp only[nG,y9];exact rfl) ?_
   simp only[Ez,cond_false]
   refine uu.bind (ih hr) fun z hz=> ?_
   have hz:z.1.1=_:=hz
   rw[hz]
   refine uu.F6 (F:=fun f k=>qg (nG f) (nx f) (n5 f) f k m z.2.2.1 (Ez T L q true) z.2.1) ?_
   refine oY.lp (fun n m=>by simp only[qg,tT];exact rfl) ?_
   exact oY.pure rfl
 | @level m r x h q o h1 h2 ih1 ih2=>
   intro hr
   show uu (fun f=>nG f (Ez T L r false) m) _
   refine uu.fn (fun n=>by simp only[nG,y9];exact rfl) ?_
   simp only[Ez,cond_false]
   refine uu.bind (ih1 hr) fun z hz=> ?_
   have hz:z=_:=hz
   subst hz
   exact uu.F6 (F:=fun f k=>qg (nG f) (nx f) (n5 f) f k m h (Ez T L q false) x) (ih2 ((h1.suff (o:= .val x h q)).trans hr))
end ref
end Go.Abs
namespace Go.Abs
def IndexQ (T:List Notation) (b:Bool) (r:PR (Unit×Unit) (((Int×Unit)×((List (Str×Notation))×((List (Str×Notation))×((List (Str×Bool))×Unit))))×Unit)):Prop:=
 (b=true∧ ∃sz B C I,r= .pn (((sz,()),B,C,I,()),())∧Idx T sz B C I)∨(b=false∧r= .ok ((),()))
theorem My {T:List Notation} (hl:T.length≤cap) (h: ∀n∈T,Mu n):
 uu (fun f=>uK f T) (IndexQ T (Fb T)):=by
 refine uu.fn (fun n=>by simp only[uK,Dh];exact rfl) ?_
 simp only[cap] at hl
 have hnew:Ev (fun f=>yW f) (((0,()),[],[],[],()),()):=by
  refine Ev.fn (fun n=>by simp only[yW,Cw];exact rfl) ?_
  exact Ev.pure
 refine hnew.ZY ?_
 have key: ∀ (d i:Nat) (sz:Int) (B C:List (Str×Notation)) (I:List (Str×Bool)),i+d=T.length→MN (T.take i)→Idx (T.take i) sz B C I→
  oY (fun f m=>vX f m T (T.length:Int) (i:Int) sz B C I) (IndexQ T (QF (T.take i) (T.drop i))):=by
  intro d
  induction d with
  |zero=>
   intro i sz B C I hi g X
   refine oY.lp (fun n m=>by simp only[vX,zN];exact rfl) ?_
   have:decide ((i:Int)<(T.length:Int))=false:=decide_eq_false (by omega)
   simp only[this,cond_false,kH (show T.length≤i by omega)]
   rw[lU (by omega)] at X
   exact oY.pure (.inl ⟨by first|rfl|trivial,sz,B,C,I,rfl,X⟩)
  |succ d ih=>
   intro i sz B C I hi g X
   have hlt:i<T.length:=by omega
   refine oY.lp (fun n m=>by simp only[vX,zN];exact rfl) ?_
   have:decide ((i:Int)<(T.length:Int))=true:=decide_eq_true (by omega)
   simp only[this,cond_true]
   refine oY.idx hlt ?_
   refine oY.qW (add_tot g X (h _ (kQ hlt))) fun r hr=> ?_
   obtain ⟨h1,h2⟩:=hr
   rw[h1,kG hlt,QF]
   cases ha:Dj (T.take i) T[i]==0 with
   |false=>simp only[bne,ha,kN,cond_true,kP];exact oY.pure (.inr ⟨rfl,rfl⟩)
   |true=>
    simp only[bne,ha,kX,cond_false,kI]
    have h0:=beq_iff_eq.1 ha
    have g':=g.snoc h0
    have X':=h2 h0
    have e:T.take i++[T[i]]=T.take (i+1):=by rw[ld hlt]
    rw[e] at g' X' ⊢
    rw[nJ (by omega)]
    exact ih (i+1) _ _ _ _ (by omega) g' X'
 have:=key T.length 0 0 [] [] [] (by omega) (by rw[lB];exact MN.nil) (by rw[lB];exact Idx.nil)
 rw[lB,kO] at this
 exact uu.F6 (F:=fun f m=>vX f m T (T.length:Int) 0 0 [] [] []) this
def zS:Syntax:= .mk 0 [] 0 [] [] [] 0 0
def wU (L:List Syntax):Out→Syntax×Int×Int
 | .bad q=>(zS,pos L q,4)
 | .val x _ q=>bif q.isEmpty then (x,0,0) else (zS,pos L q,4)
 | .ops _ _ _=>(zS,0,0)
def ParseR (T:List Notation) (L:List Syntax) (p:Syntax×Int×Int):Prop:=
 (Fb T=false∧p=(zS,0,3))∨(Fb T=true∧4096<L.length∧p=(zS,0,6))∨(Fb T=true∧L.length≤4096∧ ∃o,C2 T (.level 0 L) o∧p=wU L o)
theorem TV {T:List Notation} {L:List Syntax} (hl:T.length≤cap) (h: ∀n∈T,Mu n) (hL:L.length≤cap) (ht:Fb T=true) (hb: ¬ 4096<L.length) {o:Out} (ho:C2 T (.level 0 L) o):
 Ev (fun f=>rF f T L) (wU L o):=by
 obtain ⟨ri,XL,evi⟩:=My hl h
 have evt:=Mx hl h
 have V0:decide ((4096:Int)<(L.length:Int))=decide (4096<L.length):=decide_eq_decide.2 (by omega)
 have g:=MN.of ht
 rcases XL with ⟨_,sz,B,C,I,rfl,X⟩|⟨ht',rfl⟩
 ·rw[ht] at evt
  refine Ev.fn (fun n=>by simp only[rF,Al];exact rfl) ?_
  refine Ev.bind evi ?_
  simp only[MW,V0,decide_eq_false hb,cond_false]
  have hp:Ev (fun f=>ng f 0 L (pos L L) sz B C I) (U2 L sz B C I o):=C2.prog g X hL ho (lg _)
  rw[pos_all] at hp
  refine Ev.bind hp ?_
  have qp: ∀ (x:Syntax) (q:List Syntax),Ev (fun f=>(tP f () x 0 0 L (pos L q) sz B C I).bind fun x=>some (x.fst.snd.fst.fst,x.fst.snd.snd.fst.fst,x.fst.snd.snd.snd.fst.fst)) (zS,pos L q,4):=by
   intro x q
   refine Ev.bind (x:=(((),(zS,()),(pos L q,()),(4,()),(L,pos L q,()),(sz,()),B,C,I,()),())) ?_ Ev.pure
   refine Ev.fn (fun n=>by simp only[tP,Bc];exact rfl) ?_
   exact Ev.pure
  rcases Rt ho rfl with ⟨q,rfl⟩|⟨x,hh,q,rfl⟩
  ·simp only[U2,MW,VY]
   exact qp _ _
  ·simp only[U2,MW,VY]
   have hs:q<:+L:=ho.suff (o:= .val x hh q)
   match q,hs with
   |[],hs=>
    rw[Xe,decide_eq_false (mh _)]
    simp only[cond_false]
    refine Ev.bind (x:=(((),(x,()),(0,()),(0,()),(L,(L.length:Int),()),(sz,()),B,C,I,()),())) ?_ Ev.pure
    refine Ev.fn (fun n=>by simp only[uP,Bb];exact rfl) ?_
    exact Ev.pure
   |y::q,hs=>
    have:=(Gn hs).1
    rw[decide_eq_true (show pos L (y::q)<(L.length:Int) by have:=of_decide_eq_false this;omega)]
    exact qp _ _
 ·rw[ht] at ht';cases ht'
theorem parse_runR {T:List Notation} {L:List Syntax} (hl:T.length≤cap) (h: ∀n∈T,Mu n) (hL:L.length≤cap) (ht:Fb T=true) (hb: ¬ 4096<L.length) {o:Out} (ho:C2 T (.level 0 L) o):
 Ev (fun f=>As f T L) (wU L o):=by
 obtain ⟨ri,XL,evi⟩:=My hl h
 have evt:=Mx hl h
 have V0:decide ((4096:Int)<(L.length:Int))=decide (4096<L.length):=decide_eq_decide.2 (by omega)
 have g:=MN.of ht
 rcases XL with ⟨_,sz,B,C,I,rfl,X⟩|⟨ht',rfl⟩
 ·rw[ht] at evt
  refine Ev.fn (fun n=>by simp only[As,CQ];exact rfl) ?_
  refine Ev.bind evt ?_
  simp only[cond_true,V0,decide_eq_false hb,cond_false]
  have hp:uu (fun f=>nG f (Ez T L L false) 0) (QE T L o):=C2.refT g hL ho (lg _)
  obtain ⟨z,hz,evz⟩:=hp
  rw[show (⟨T,L,0,false⟩:mO)=Ez T L L false from by unfold Ez;rw[pos_all]]
  refine Ev.bind evz ?_
  rcases Rt ho rfl with ⟨q,rfl⟩|⟨x,hh,q,rfl⟩
  ·have hz:z.1.1=Ez T L q true:=hz
   rw[hz]
   exact Ev.pure
  ·have hz:z=_:=hz
   subst hz
   have hs:q<:+L:=ho.suff (o:= .val x hh q)
   match q,hs with
   |[],hs=>
    rw[Xg,show decide ((Ez T L [] false).at_<(L.length:Int))=false from decide_eq_false (mh _)]
    exact Ev.pure
   |y::q,hs=>
    have:=(Gn hs).1
    rw[Xg,show decide ((Ez T L (y::q) false).at_<(L.length:Int))=true from decide_eq_true (show pos L (y::q)<(L.length:Int) by have:=of_decide_eq_false this;omega)]
    exact Ev.pure
 ·rw[ht] at ht';cases ht'
theorem parse_ev {T:List Notation} {L:List Syntax} (hl:T.length≤cap) (h: ∀n∈T,Mu n) (hL:L.length≤cap):
 ∃p,ParseR T L p∧Ev (fun f=>rF f T L) p∧Ev (fun f=>As f T L) p:=by
 obtain ⟨ri,XL,evi⟩:=My hl h
 have evt:=Mx hl h
 have V0:decide ((4096:Int)<(L.length:Int))=decide (4096<L.length):=decide_eq_decide.2 (by omega)
 rcases XL with ⟨ht,sz,B,C,I,rfl,X⟩|⟨ht,rfl⟩
 ·rw[ht] at evt
  by_cases hb:4096<L.length
  ·refine ⟨(zS,0,6),.inr (.inl ⟨ht,hb,rfl⟩),?_,?_⟩
   ·refine Ev.fn (fun n=>by simp only[rF,Al];exact rfl) ?_
    refine Ev.bind evi ?_
    simp only[MW,V0,decide_eq_true hb,cond_true]
    exact Ev.pure
   ·refine Ev.fn (fun n=>by simp only[As,CQ];exact rfl) ?_
    refine Ev.bind evt ?_
    simp only[cond_true,V0,decide_eq_true hb]
    exact Ev.pure
  ·have g:=MN.of ht
   obtain ⟨o,ho,_⟩:=C2.total g L.length 0 L (kS _)
   exact ⟨wU L o,.inr (.inr ⟨ht,by omega,o,ho,rfl⟩),TV hl h hL ht hb ho,parse_runR hl h hL ht hb ho⟩
 ·rw[ht] at evt
  refine ⟨(zS,0,3),.inl ⟨ht,rfl⟩,?_,?_⟩
  ·refine Ev.fn (fun n=>by simp only[rF,Al];exact rfl) ?_
   exact Ev.bind evi Ev.pure
  ·refine Ev.fn (fun n=>by simp only[As,CQ];exact rfl) ?_
   exact Ev.bind evt Ev.pure
inductive zC:Syntax→Prop
 |mk {e:Syntax}:e.names.length≤cap→e.levels.length≤cap→(∀l∈e.levels,l.atoms.length≤cap)→e.kids.length≤cap→(∀x∈e.kids,zC x)→zC e
theorem zC.bnd {e:Syntax} (h:zC e):e.names.length≤cap∧e.levels.length≤cap∧(∀l∈e.levels,l.atoms.length≤cap)∧e.kids.length≤cap:=by cases h;exact ⟨by assumption,by assumption,by assumption,by assumption⟩
theorem zC.kid {e:Syntax} (h:zC e): ∀x∈e.kids,zC x:=by cases h;assumption
theorem Syntax.bulkEq (e:Syntax):e.bulk=1+((e.text.length+1)+(1+(sumB (fun m:Str=>m.length+1) e.names+(sumB mP.bulk e.levels+(sumB Syntax.bulk e.kids+(1+(1+1))))))):=by
 cases e
 simp only[Syntax.bulk,Syntax.text,Syntax.names,Syntax.levels,Syntax.kids,Syntax.bulkL_eq]
theorem Syntax.ZZ (e:Syntax):1≤e.bulk:=by rw[Syntax.bulkEq];omega
theorem zC.of: ∀e:Syntax,e.bulk≤cap→zC e:=by
 intro e
 induction e using Syntax.ind with
 |h e ih=>
  intro hb
  rw[Syntax.bulkEq] at hb
  have h1:=CR (bk:=fun m:Str=>m.length+1) (fun _=>mq _ _) e.names
  have h2:=CR (bk:=mP.bulk) (fun x=>by unfold mP.bulk;omega) e.levels
  have h3:=CR (bk:=Syntax.bulk) Syntax.ZZ e.kids
  refine .mk (by omega) (by omega) (fun l hl=> ?_) (by omega) (fun x hx=>ih x hx ?_)
  ·have h4:=JV (bk:=mP.bulk) hl
   rw[show l.bulk=1+(sumB mT.bulk l.atoms+1) from rfl] at h4
   have h5:=CR (bk:=mT.bulk) (fun x=>by unfold mT.bulk;omega) l.atoms
   omega
  ·have:=JV (bk:=Syntax.bulk) hx
   omega
theorem sfin_app {o x:Syntax} {f t:Int} (h1:zC o) (h2:zC x):zC (ZD o x f t):=by
 refine .mk (kT _) (kT _) (fun l hl=>by cases hl) (by show 2≤cap;simp only[cap];omega) (fun y hy=> ?_)
 have hy:y∈[o,x]:=hy
 simp only[lG,List.not_mem_nil,or_false] at hy
 rcases hy with rfl|rfl
 ·exact h1
 ·exact h2
theorem V1 (f t:Int): ∀ (l:List Syntax) (o:Syntax),zC o→(∀x∈l,zC x)→zC (ZE o l f t)
 |[],o,h,_=>h
 |x::l,o,h,hl=>V1 f t l _ (sfin_app h (hl x lE)) fun y hy=>hl y (lz _ hy)
theorem Fg (n:Notation) (l:List Syntax) (f t:Int) (h: ∀x∈l,zC x):zC (L6 n l f t):=
 V1 f t l _ (.mk (kT _) (kT _) (fun l hl=>by cases hl) (kT _) (fun x hx=>by cases hx)) h
def FinC:W9→Prop
 | .parts _ _ _ ops _ r=>(∀x∈ops,zC x)∧ ∀x∈r,zC x
 | .first _ r=> ∀x∈r,zC x
 | .loop _ out _ r=>zC out∧ ∀x∈r,zC x
 | .level _ r=> ∀x∈r,zC x
def FinO:Out→Prop
 | .bad _=>True
 | .val x _ _=>zC x
 | .ops l _ _=> ∀x∈l,zC x
theorem C2.fin {T:List Notation} {c:W9} {o:Out} (h:C2 T c o):FinC c→FinO o:=by
 induction h with
 |Hu=>intro h;exact h.1
 |OP _ _=>intro _;trivial
 | @hole n ps i ops e r x h q o h1 h2 ih1 ih2=>
   intro hf
   have hx:zC x:=ih1 hf.2
   refine ih2 ⟨fun y hy=> ?_,fun y hy=>hf.2 y ((h1.suff (o:= .val x h q)).subset hy)⟩
   rcases k5.1 hy with hy|hy
   ·exact hf.1 y hy
   ·rw[kR.1 hy];exact hx
 |TM _ _=>intro _;trivial
 |sym _ _ _ _ ih=>intro hf;exact ih ⟨hf.1,fun y hy=>hf.2 y (lz _ hy)⟩
 |JP=>intro _;trivial
 |GO _=>intro hf;exact hf _ lE
 |JQ _ _=>intro _;trivial
 |L8 _ _ _ _=>intro _;trivial
 |first _ _ _ ih=>intro hf;exact Fg _ _ _ _ (ih ⟨fun y hy=>(by cases hy),hf⟩)
 |stop _=>intro hf;exact hf.1
 |ZG _ _ _=>intro _;trivial
 | @go m out has r n l e q o hg h1 h2 ih1 ih2=>
   intro hf
   refine ih2 ⟨Fg _ _ _ _ (ih1 ⟨fun y hy=> ?_,hf.2⟩),fun y hy=>hf.2 y ((h1.suff (o:= .ops l e q)).subset hy)⟩
   rw[kR.1 hy];exact hf.1
 |JR _ _=>intro _;trivial
 | @level m r x h q o h1 h2 ih1 ih2=>
   intro hf
   exact ih2 ⟨ih1 hf,fun y hy=>hf y ((h1.suff (o:= .val x h q)).subset hy)⟩
theorem TW:zC zS:= .mk (kT _) (kT _) (fun l hl=>by cases hl) (kT _) (fun x hx=>by cases hx)
theorem ParseR.fin {T:List Notation} {L:List Syntax} {p:Syntax×Int×Int} (h:ParseR T L p) (hL: ∀x∈L,zC x):zC p.1:=by
 rcases h with ⟨_,rfl⟩|⟨_,_,rfl⟩|⟨_,_,o,ho,rfl⟩
 ·exact TW
 ·exact TW
 ·have:=ho.fin hL
  cases o with
  |bad q=>exact TW
  |val x hh q=>
   show zC (bif q.isEmpty then (x,0,0) else (zS,pos L q,4)).1
   cases q.isEmpty with
   |true=>exact this
   |false=>exact TW
  |ops _ _ _=>exact TW
theorem levels_in (f:Nat) (X:List mP→List mP→Int→Option Bool) (l:List mP) (i:Nat) (hlt:i<l.length) (hl:l.length≤1048640) (hX:X l l ((i+1:Nat):Int)=some true) (ha:l[i].atoms.length≤1048640):
 ∀d j:Nat,j+d=l[i].atoms.length→ ∀k,d<k→xu f X k l l (i:Int) (j:Int)=some true:=by
 intro d
 induction d with
 |zero=>
  intro j hj k hk
  obtain ⟨k,rfl⟩: ∃k',k=k'+1:=⟨k-1,by omega⟩
  simp only[xu,zG,sC hlt,kF]
  rw[decide_eq_false (show ¬ (j:Int)<(l[i].atoms.length:Int) by omega),cond_false,nJ (by omega)]
  exact hX
 |succ d ih=>
  intro j hj k hk
  obtain ⟨k,rfl⟩: ∃k',k=k'+1:=⟨k-1,by omega⟩
  have hjl:j<l[i].atoms.length:=by omega
  simp only[xu,zG,sC hlt,kF,sC hjl,beq_self_eq_true,Bool.and_self]
  rw[decide_eq_true (show (j:Int)<(l[i].atoms.length:Int) by omega),cond_true,cond_true,nJ (by omega)]
  exact ih (j+1) (by omega) k (by omega)
theorem levels_ev (l:List mP) (hl:l.length≤cap) (ha: ∀x∈l,x.atoms.length≤cap):Ev (fun f=>zY f l l) true:=by
 simp only[cap] at hl ha
 refine Ev.fn (fun n=>by simp only[zY,Da];exact rfl) ?_
 simp only[bne_self_eq_false,cond_false]
 have key: ∀d i:Nat,i+d=l.length→pN (fun f m=>vW f m l l (i:Int)) true:=by
  intro d
  induction d with
  |zero=>
   intro i hi
   refine pN.lp (fun n m=>by simp only[vW,zH];exact rfl) ?_
   have:decide ((i:Int)<(l.length:Int))=false:=decide_eq_false (by omega)
   simp only[this,cond_false]
   exact pN.pure
  |succ d ih=>
   intro i hi
   have hlt:i<l.length:=by omega
   refine pN.lp (fun n m=>by simp only[vW,zH];exact rfl) ?_
   have:decide ((i:Int)<(l.length:Int))=true:=decide_eq_true (by omega)
   simp only[this,cond_true,sC hlt,kF,beq_self_eq_true,bne_self_eq_false,cond_false]
   have hal:=ha _ (kQ hlt)
   obtain ⟨N,hN⟩:=ih (i+1) (by omega)
   refine ⟨max N (l[i].atoms.length+1),fun f m hf hm=> ?_⟩
   refine levels_in f _ l i hlt (by omega) (hN f m (by omega) (by omega)) hal l[i].atoms.length 0 (by omega) f (by omega)
 exact Ev.F6 (F:=fun f m=>vW f m l l 0) (key l.length 0 (by omega))
theorem Md {pl:Bool} {a b:Syntax} (h:O5 pl a b):zC a→Ev (fun f=>sF f a b pl) true:=by
 induction h with
 | @mk a b h1 h2 h3 h4 h5 h6 h7 h8 ih=>
   intro hf
   obtain ⟨b1,b2,b3,b4⟩:=hf.bnd
   have b1':=b1
   have b4':=b4
   simp only[cap] at b1 b4
   refine Ev.fn (fun n=>by simp only[sF,I1];exact rfl) ?_
   simp only[h1,h2,h3,h4,h5,h7,bne_self_eq_false,cond_false,beq_self_eq_true,cond_true]
   rw[←h5]
   refine Ev.bind (levels_ev a.levels b2 b3) ?_
   simp only[cond_true]
   have kids:pN (fun f m=>yf (sF f) f m pl 0 a b) true:=by
    have key: ∀d i:Nat,i+d=a.kids.length→pN (fun f m=>yf (sF f) f m pl (i:Int) a b) true:=by
     intro d
     induction d with
     |zero=>
      intro i hi
      refine pN.lp (fun n m=>by simp only[yf,D5];exact rfl) ?_
      have:decide ((i:Int)<(a.kids.length:Int))=false:=decide_eq_false (by omega)
      simp only[this,cond_false]
      exact pN.pure
     |succ d ihd=>
      intro i hi
      have hlt:i<a.kids.length:=by omega
      have hlb:i<b.kids.length:=by omega
      refine pN.lp (fun n m=>by simp only[yf,D5];exact rfl) ?_
      have:decide ((i:Int)<(a.kids.length:Int))=true:=decide_eq_true (by omega)
      simp only[this,cond_true,sC hlt,sC hlb,kF]
      refine pN.qW (ih i hlt hlb (hf.kid _ (kQ hlt))) ?_
      simp only[cond_true]
      rw[nJ (by omega)]
      exact ihd (i+1) (by omega)
    exact key a.kids.length 0 (by omega)
   have names:pN (fun f m=>yg (sF f) f m pl 0 a b) true:=by
    have key: ∀d i:Nat,i+d=a.names.length→pN (fun f m=>yg (sF f) f m pl (i:Int) a b) true:=by
     intro d
     induction d with
     |zero=>
      intro i hi
      refine pN.lp (fun n m=>by simp only[yg,D7];exact rfl) ?_
      have:decide ((i:Int)<(a.names.length:Int))=false:=decide_eq_false (by omega)
      simp only[this,cond_false]
      exact pN.Vl (Ev.F6 (F:=fun f m=>yf (sF f) f m pl 0 a b) kids)
     |succ d ihd=>
      intro i hi
      have hlt:i<a.names.length:=by omega
      refine pN.lp (fun n m=>by simp only[yg,D7];exact rfl) ?_
      have:decide ((i:Int)<(a.names.length:Int))=true:=decide_eq_true (by omega)
      simp only[this,cond_true,←h4,sC hlt,kF,beq_self_eq_true]
      rw[nJ (by omega)]
      exact ihd (i+1) (by omega)
    exact key a.names.length 0 (by omega)
   have names':=Ev.F6 (F:=fun f m=>yg (sF f) f m pl 0 a b) names
   cases pl with
   |false=>exact names'
   |true=>
    obtain ⟨h9,h10⟩:=h6 rfl
    simp only[h9,h10,bne_self_eq_false,cond_false,cond_true]
    exact names'
end Go.Abs
namespace Go.Abs
mutual
def nodesT:Syntax→Nat
 | .mk _ _ _ _ _ kids _ _=>1+nodesL kids
def nodesL:List Syntax→Nat
 |[]=>0
 |x::xs=>nodesT x+nodesL xs
end
theorem nodesT_eq (e:Syntax):nodesT e=1+nodesL e.kids:=by cases e;rw[nodesT];rfl
theorem FA: ∀a b:List Syntax,nodesL (a++b)=nodesL a+nodesL b
 |[],b=>by rw[nodesL];simp
 |x::a,b=>by rw[List.cons_append,nodesL,nodesL,FA a b];omega
theorem small_tot: ∀e:Syntax,zC e→ ∀k:Int,k≤1048640→uu (fun f=>xQ f e k) (fun r=>r.2=true→0≤r.1∧r.1+nodesT e=k):=by
 intro e
 induction e using Syntax.ind with
 |h e ih=>
  intro hf k hk
  have hb:=hf.bnd.2.2.2
  simp only[cap] at hb
  refine uu.fn (fun n=>by simp only[xQ,IW];exact rfl) ?_
  refine uu.VM (fun _=>uu.pure fun h=>by cases h) fun h0=> ?_
  refine uu.VM (fun _=>uu.pure fun h=>by cases h) fun _=> ?_
  refine uu.VM (fun _=>uu.pure fun h=>by cases h) fun _=> ?_
  refine uu.VM (fun _=>uu.pure fun h=>by cases h) fun _=> ?_
  have h0:=of_decide_eq_false h0
  rw[wrap_small (by omega) (by omega),nodesT_eq]
  have key: ∀ (d i:Nat) (v:Int),i+d=e.kids.length→0≤v→v≤1048640→v+nodesL (e.kids.take i)=k-1→
   oY (fun f m=>Ac (xQ f) f m v e.kids (e.kids.length:Int) (i:Int)) (fun r=>r.2=true→0≤r.1∧r.1+((1+nodesL e.kids:Nat):Int)=k):=by
   intro d
   induction d with
   |zero=>
    intro i v hi hv hv2 hn
    refine oY.lp (fun n m=>by simp only[Ac,D1];exact rfl) ?_
    have:decide ((i:Int)<(e.kids.length:Int))=false:=decide_eq_false (by omega)
    simp only[this,cond_false]
    rw[lU (by omega)] at hn
    exact oY.pure fun _=>⟨hv,by omega⟩
   |succ d ihd=>
    intro i v hi hv hv2 hn
    have hlt:i<e.kids.length:=by omega
    refine oY.lp (fun n m=>by simp only[Ac,D1];exact rfl) ?_
    have:decide ((i:Int)<(e.kids.length:Int))=true:=decide_eq_true (by omega)
    simp only[this,cond_true,sC hlt,kF]
    refine oY.qW (ih _ (kQ hlt) (hf.kid _ (kQ hlt)) v hv2) fun r hr=> ?_
    refine oY.VM (fun h=> ?_) fun h=>oY.pure fun h=>by cases h
    obtain ⟨h1,h2⟩:=hr h
    rw[nJ (by omega)]
    refine ihd (i+1) _ (by omega) h1 (by omega) ?_
    rw[ld hlt,FA,nodesL,nodesL]
    omega
  exact uu.F6 (F:=fun f m=>Ac (xQ f) f m (k-1) e.kids (e.kids.length:Int) 0) (key e.kids.length 0 (k-1) (by omega) (by omega) (by omega) (by rw[lB,nodesL];omega))
theorem short_tot (l:List Syntax) (hl:l.length≤cap) (hf: ∀x∈l,zC x):uu (fun f=>FX f l) (fun b=>b=true→nodesL l≤120):=by
 simp only[cap] at hl
 refine uu.fn (fun n=>by simp only[FX,I7];exact rfl) ?_
 have key: ∀ (d i:Nat) (v:Int),i+d=l.length→0≤v→v≤1048640→v+nodesL (l.take i)=120→
  oY (fun f m=>Ah f m v l (l.length:Int) (i:Int)) (fun b=>b=true→nodesL l≤120):=by
  intro d
  induction d with
  |zero=>
   intro i v hi hv hv2 hn
   refine oY.lp (fun n m=>by simp only[Ah,Eh];exact rfl) ?_
   have:decide ((i:Int)<(l.length:Int))=false:=decide_eq_false (by omega)
   simp only[this,cond_false]
   rw[lU (by omega)] at hn
   exact oY.pure fun _=>by omega
  |succ d ihd=>
   intro i v hi hv hv2 hn
   have hlt:i<l.length:=by omega
   refine oY.lp (fun n m=>by simp only[Ah,Eh];exact rfl) ?_
   have:decide ((i:Int)<(l.length:Int))=true:=decide_eq_true (by omega)
   simp only[this,cond_true,sC hlt,kF]
   refine oY.qW (small_tot _ (hf _ (kQ hlt)) v hv2) fun r hr=> ?_
   refine oY.VM (fun h=> ?_) fun h=>oY.pure fun h=>by cases h
   obtain ⟨h1,h2⟩:=hr h
   rw[nJ (by omega)]
   refine ihd (i+1) _ (by omega) h1 (by omega) ?_
   rw[ld hlt,FA,nodesL,nodesL]
   omega
 exact uu.F6 (F:=fun f m=>Ah f m 120 l (l.length:Int) 0) (key l.length 0 120 (by omega) (by omega) (by omega) (by rw[lB,nodesL];omega))
theorem fewS_tot (l:List Str) (hl:l.length≤cap):uu (fun f=>qR f l ()) (fun _=>True):=by
 simp only[cap] at hl
 refine uu.fn (fun n=>by simp only[qR,tB];exact rfl) ?_
 refine uu.bind (P:=fun _=>True) ?_ fun _ _=>uu.pure trivial
 refine uu.fn (fun n=>by simp only[sw,uq];exact rfl) ?_
 have key: ∀d i:Nat,i+d=l.length→oY (fun f m=>qe f m l (l.length:Int) (i:Int)) (fun _=>True):=by
  intro d
  induction d with
  |zero=>
   intro i hi
   refine oY.lp (fun n m=>by simp only[qe,rS];exact rfl) ?_
   have:decide ((i:Int)<(l.length:Int))=false:=decide_eq_false (by omega)
   simp only[this,cond_false]
   exact oY.pure trivial
  |succ d ihd=>
   intro i hi
   have hlt:i<l.length:=by omega
   refine oY.lp (fun n m=>by simp only[qe,rS];exact rfl) ?_
   have:decide ((i:Int)<(l.length:Int))=true:=decide_eq_true (by omega)
   simp only[this,cond_true,sC hlt,kF]
   refine oY.qW (P:=fun _=>True) ?_ fun b _=> ?_
   ·refine uu.fn (fun n=>by simp only[Fo,Ge];exact rfl) ?_
    exact uu.pure trivial
   ·refine oY.VM (fun _=>oY.pure trivial) fun _=> ?_
    rw[nJ (by omega)]
    exact ihd (i+1) (by omega)
 exact uu.F6 (F:=fun f m=>qe f m l (l.length:Int) 0) (key l.length 0 (by omega))
theorem Xi (T:List Notation) (hl:T.length≤cap) (h: ∀n∈T,Mu n):uu (fun f=>Ch f T) (fun _=>True):=by
 have hl':=hl
 simp only[cap] at hl
 refine uu.fn (fun n=>by simp only[Ch,LX];exact rfl) ?_
 refine uu.VM (fun _=> ?_) fun _=>uu.pure trivial
 refine uu.bind (P:=fun _=>True) ?_ fun _ _=>uu.pure trivial
 refine uu.fn (fun n=>by simp only[rW,tC];exact rfl) ?_
 refine uu.bind (P:=fun _=>True) ?_ fun _ _=>uu.pure trivial
 refine uu.fn (fun n=>by simp only[sx,ur];exact rfl) ?_
 have key: ∀d i:Nat,i+d=T.length→oY (fun f m=>qh f m T (T.length:Int) (i:Int)) (fun _=>True):=by
  intro d
  induction d with
  |zero=>
   intro i hi
   refine oY.lp (fun n m=>by simp only[qh,rV];exact rfl) ?_
   have:decide ((i:Int)<(T.length:Int))=false:=decide_eq_false (by omega)
   simp only[this,cond_false]
   exact oY.pure trivial
  |succ d ihd=>
   intro i hi
   have hlt:i<T.length:=by omega
   refine oY.lp (fun n m=>by simp only[qh,rV];exact rfl) ?_
   have:decide ((i:Int)<(T.length:Int))=true:=decide_eq_true (by omega)
   simp only[this,cond_true,sC hlt,kF]
   refine oY.qW (P:=fun _=>True) ?_ fun b _=> ?_
   ·refine uu.fn (fun n=>by simp only[Ij,Jb];exact rfl) ?_
    refine uu.VM (fun _=>uu.pure trivial) fun _=> ?_
    refine uu.VM (fun _=>uu.pure trivial) fun _=> ?_
    exact uu.bind (fewS_tot _ (h _ (kQ hlt)).len) fun _ _=>uu.pure trivial
   ·refine oY.VM (fun _=>oY.pure trivial) fun _=> ?_
    rw[nJ (by omega)]
    exact ihd (i+1) (by omega)
 exact uu.F6 (F:=fun f m=>qh f m T (T.length:Int) 0) (key T.length 0 (by omega))
end Go.Abs
namespace Go.Abs
set_option maxRecDepth 100000
theorem awake_k (k:Nat):uU (k+70)=some true:=by kernel_rfl
theorem awake_ev:Ev (fun n=>uU n) true:=by
 refine ⟨70,fun n hn=> ?_⟩
 obtain ⟨k,rfl⟩: ∃k,n=k+70:=⟨n-70,by omega⟩
 exact awake_k k
theorem yU:Ev (fun n=>(uU n).bind fun x=>some x) true:=Ev.bind awake_ev Ev.pure
theorem It {F:Nat→Option Bool} (h:Ev F true): ∃n,F n=some true:=by
 obtain ⟨N,hN⟩:=h
 exact ⟨N,hN N (kS _)⟩
theorem tab_sm {T:List Notation} (h:sumB Notation.bulk T≤1048576):T.length≤cap∧ ∀n∈T,Mu n:=by
 have h1:=CR (bk:=Notation.bulk) (fun x=>by unfold Notation.bulk;omega) T
 refine ⟨by simp only[cap];omega,fun n hn=>Mu.of ?_⟩
 have:=JV (bk:=Notation.bulk) hn
 simp only[cap];omega
theorem lst_sm {L:List Syntax} (h:sumB Syntax.bulk L≤1048576):L.length≤cap∧ ∀x∈L,zC x:=by
 have h1:=CR (bk:=Syntax.bulk) Syntax.ZZ L
 refine ⟨by simp only[cap];omega,fun x hx=>zC.of x ?_⟩
 have:=JV (bk:=Syntax.bulk) hx
 simp only[cap];omega
theorem TX (x0:Notation) (h:x0.bulk≤1048576) (_:x0.wf): ∃n,B1 n x0=some true:=by
 refine It ?_
 have hs:Mu x0:=Mu.of (by simp only[cap];omega)
 refine Ev.fn (fun n=>by simp only[B1,AQ];exact rfl) ?_
 obtain ⟨b,_,Cl⟩:=Xi [x0] (by simp only[cap];simp) (by simpa using hs)
 refine Ev.bind Cl ?_
 cases b with
 |false=>exact yU
 |true=>
  simp only[cond_true]
  refine Ev.bind (ZS hs) (Ev.bind (VV hs) ?_)
  rw[beq_self_eq_true]
  exact yU
theorem TY (x0:List Notation) (x1:List Syntax) (h:sumB Notation.bulk x0+sumB Syntax.bulk x1≤1048576) (_: ∀y∈x0,y.wf) (_: ∀y∈x1,y.wf): ∃n,B3 n x0 x1=some true:=by
 refine It ?_
 obtain ⟨t1,t2⟩:=tab_sm (T:=x0) (by omega)
 obtain ⟨l1,l2⟩:=lst_sm (L:=x1) (by omega)
 refine Ev.fn (fun n=>by simp only[B3,AR];exact rfl) ?_
 obtain ⟨b,_,Cl⟩:=Xi x0 t1 t2
 refine Ev.bind Cl ?_
 cases b with
 |false=>exact yU
 |true=>
  simp only[cond_true]
  obtain ⟨b,_,Cl⟩:=short_tot x1 l1 l2
  refine Ev.bind Cl ?_
  cases b with
  |false=>exact yU
  |true=>
   simp only[cond_true]
   obtain ⟨p,hp,e1,e2⟩:=parse_ev t1 t2 l1
   refine Ev.bind e1 (Ev.bind e2 (Ev.bind (Md (O5.refl true p.1) (hp.fin l2)) ?_))
   simp only[cond_true,beq_self_eq_true]
   exact yU
end Go.Abs
namespace Go.Abs
theorem Z0: ∀e:Syntax,nodesT (tW e).1+nodesL (tW e).2≤nodesT e:=by
 intro e
 induction e using Syntax.ind with
 |h e ih=>
  cases hk:Hv e with
  |none=>rw[F4 hk];simp [nodesL]
  |some p=>
   obtain ⟨a,b⟩:=p
   have hm:=(Fc hk).2
   have:=ih a (by rw[hm];simp)
   rw[F5 hk,nodesT_eq e,hm,FA]
   simp only[nodesL]
   omega
end Go.Abs
namespace Go.Abs
theorem App.nodes {T:List Notation} {e:Syntax} {n:Notation} {l:List Syntax} (A:App T e n l):nodesL l<nodesT e:=by
 have:=Z0 e
 have h:=nodesT_eq (tW e).1
 rw[A.ops] at this
 omega
theorem App.len {T:List Notation} {e:Syntax} {n:Notation} {l:List Syntax} (A:App T e n l) (k:Ok n):l.length≤16:=by
 have h2:=A.holes
 have:=List.countP_le_length (p:=(· ==[])) (l:=n.parts)
 have h3:=k.W8
 unfold Jg at h2
 omega
section prn
variable {T:List Notation} (g:MN T) (hT:T.length≤cap) (hN: ∀n∈T,Mu n) {M:List (Str×Notation)} (hM: ∀s,sI s M=T.find? (fun n=>n.target==s))
include g hT hN hM
omit g hT hN hM
def PLen:Xb→List Syntax→Prop
 | .expr e,o=>o.length≤17*nodesT e
 | .parts _ ps _ l,o=>o.length≤ps.length+17*nodesL l
include g in
theorem Ug.len {c:Xb} {o:List Syntax} (h:Ug T c o):PLen c o:=by
 induction h with
 | @leaf e ha=>
   show 1≤17*nodesT e
   have:=nodesT_eq e;omega
 | @app e n l o ha h ih=>
   have A:=vi ha
   have ih:o.length≤n.parts.length+17*nodesL l:=ih
   show o.length≤17*nodesT e
   have:=A.nodes
   have:=(g.ok A.mem).W8
   omega
 |nil=>exact kT _
 | @sym n s ps i l o hs h ih=>
   have ih:o.length≤ps.length+17*nodesL l:=ih
   show (symN s::o).length≤(s::ps).length+17*nodesL l
   rw[kJ,kJ];omega
 | @apart n ps i x l o1 o2 ha h1 h2 ih1 ih2=>
   have ih1:o1.length≤17*nodesT x:=ih1
   have ih2:o2.length≤ps.length+17*nodesL l:=ih2
   show (o1++o2).length≤([]::ps).length+17*nodesL (x::l)
   rw[kL,kJ,nodesL];omega
 | @whole n ps i x l o ha h ih=>
   have ih:o.length≤ps.length+17*nodesL l:=ih
   show (x::o).length≤([]::ps).length+17*nodesL (x::l)
   have:=nodesT_eq x
   rw[kJ,kJ,nodesL];omega
def PFin:Xb→Prop
 | .expr e=>zC e
 | .parts _ _ _ l=> ∀x∈l,zC x
theorem Ug.fin {c:Xb} {o:List Syntax} (h:Ug T c o):PFin c→ ∀x∈o,zC x:=by
 induction h with
 |leaf ha=>intro hf x hx;rw[kR.1 hx];exact hf
 | @app e n l o ha h ih=>
   intro hf
   have A:=vi ha
   refine ih fun x hx=> ?_
   rw[←A.ops] at hx
   exact (spine_all (fun e h=>zC.kid h) e hf).2 x hx
 |nil=>intro _ x hx;cases hx
 |sym hs h ih=>
  intro hf x hx
  rcases lG.1 hx with e|e
  ·rw[e];exact .mk (kT _) (kT _) (fun l hl=>by cases hl) (kT _) (fun x hx=>by cases hx)
  ·exact ih hf x e
 |apart ha h1 h2 ih1 ih2=>
  intro hf x hx
  rcases k5.1 hx with e|e
  ·exact ih1 (hf _ lE) x e
  ·exact ih2 (fun y hy=>hf y (lz _ hy)) x e
 |whole ha h ih=>
  intro hf x hx
  rcases lG.1 hx with e|e
  ·rw[e];exact hf _ lE
  ·exact ih (fun y hy=>hf y (lz _ hy)) x e
include g hT hN hM
omit g hT hN hM
include g hT hN hM
end prn
end Go.Abs
namespace Go.Abs
theorem V2 (xs:List Notation) (h:xs.length≤cap+1):Ev (fun n=>uv n xs) ((xs,()),()):=by
 simp only[cap] at h
 refine ⟨1,fun n hn=> ?_⟩
 obtain ⟨k,rfl⟩: ∃k,n=k+1:=⟨n-1,by omega⟩
 cases xs with
 |nil=>rfl
 |cons x xs=>
  rw[kJ] at h
  show (bif decide ((xs.length+1)*56≤17592186044416) then some ((x::xs,()),()) else none)=_
  rw[decide_eq_true (by omega)];rfl
theorem cloneS_ev (xs:List Str) (h:xs.length≤cap+1):Ev (fun n=>yD n xs) ((xs,()),()):=by
 simp only[cap] at h
 refine ⟨1,fun n hn=> ?_⟩
 obtain ⟨k,rfl⟩: ∃k,n=k+1:=⟨n-1,by omega⟩
 cases xs with
 |nil=>rfl
 |cons x xs=>
  rw[kJ] at h
  show (bif decide ((xs.length+1)*16≤17592186044416) then some ((x::xs,()),()) else none)=_
  rw[decide_eq_true (by omega)];rfl
def Xj (T:List Notation) (n:Notation):List Notation×Int:=bif Fb T then (bif Dj T n==0 then (T++[n],0) else ([],Dj T n)) else ([],3)
theorem Xk {T:List Notation} {n:Notation} (hT:T.length≤cap) (hN: ∀n∈T,Mu n) (hn:Mu n):
 Ev (fun f=>wM f T n) (Xj T n)∧Ev (fun f=>GN f T n) (Xj T n):=by
 obtain ⟨ri,XL,evi⟩:=My hT hN
 have evt:=Mx hT hN
 have hT':=hT
 simp only[cap] at hT'
 have r1:decide (T.length*56≤17592186044416)=true:=decide_eq_true (by omega)
 have r2:decide ((T.length+1)*56≤17592186044416)=true:=decide_eq_true (by omega)
 unfold Xj
 rcases XL with ⟨ht,sz,B,C,I,rfl,X⟩|⟨ht,rfl⟩
 ·have g:=MN.of ht
  obtain ⟨r,hr,evr⟩:=add_tot g X hn
  rw[ht] at evt ⊢
  simp only[cond_true]
  constructor
  ·refine Ev.fn (fun n=>by simp only[wM,Ex];exact rfl) ?_
   refine Ev.bind evi ?_
   simp only[MW]
   refine Ev.bind evr ?_
   rw[hr.1,bne]
   cases Dj T n==0 with
   |false=>exact Ev.pure
   |true=>
    simp only[kX,cond_false,cond_true]
    refine Ev.bind (cloneS_ev _ (by have:=hn.len;omega)) (Ev.bind (V2 T (by omega)) ?_)
    rw[r2]
    exact Ev.pure
  ·refine Ev.fn (fun n=>by simp only[GN,Io];exact rfl) ?_
   refine Ev.bind evt ?_
   simp only[cond_true]
   refine Ev.bind (radd_ev g hn) ?_
   rw[bne]
   cases Dj T n==0 with
   |false=>exact Ev.pure
   |true=>
    simp only[kX,cond_false,cond_true,r1,r2]
    exact Ev.pure
 ·rw[ht] at evt ⊢
  constructor
  ·refine Ev.fn (fun n=>by simp only[wM,Ex];exact rfl) ?_
   exact Ev.bind evi Ev.pure
  ·refine Ev.fn (fun n=>by simp only[GN,Io];exact rfl) ?_
   exact Ev.bind evt Ev.pure
theorem same_in (f:Nat) (X:List Notation→List Notation→Int→Option Bool) (T:List Notation) (i:Nat) (n:Notation) (hl:n.parts.length≤1048640) (hi:i≤1048641) (hX:X T T ((i+1:Nat):Int)=some true):
 ∀d j:Nat,j+d=n.parts.length→ ∀k,d<k→yd f X k T T (i:Int) (j:Int) n n=some true:=by
 intro d
 induction d with
 |zero=>
  intro j hj k hk
  obtain ⟨k,rfl⟩: ∃k',k=k'+1:=⟨k-1,by omega⟩
  simp only[yd,AD]
  rw[decide_eq_false (show ¬ (j:Int)<(n.parts.length:Int) by omega),cond_false,nJ (by omega)]
  exact hX
 |succ d ih=>
  intro j hj k hk
  obtain ⟨k,rfl⟩: ∃k',k=k'+1:=⟨k-1,by omega⟩
  have hjl:j<n.parts.length:=by omega
  simp only[yd,AD,sC hjl,kF,beq_self_eq_true]
  rw[decide_eq_true (show (j:Int)<(n.parts.length:Int) by omega),cond_true,cond_true,nJ (by omega)]
  exact ih (j+1) (by omega) k (by omega)
theorem Xl (T:List Notation) (hT:T.length≤cap+1) (hN: ∀n∈T,Mu n):Ev (fun f=>yN f T T) true:=by
 simp only[cap] at hT
 refine Ev.fn (fun n=>by simp only[yN,DW];exact rfl) ?_
 simp only[bne_self_eq_false,cond_false]
 have key: ∀d i:Nat,i+d=T.length→pN (fun f m=>wv f m T T (i:Int)) true:=by
  intro d
  induction d with
  |zero=>
   intro i hi
   refine pN.lp (fun n m=>by simp only[wv,AE];exact rfl) ?_
   have:decide ((i:Int)<(T.length:Int))=false:=decide_eq_false (by omega)
   simp only[this,cond_false]
   exact pN.pure
  |succ d ih=>
   intro i hi
   have hlt:i<T.length:=by omega
   have hs:=(hN _ (kQ hlt)).len
   simp only[cap] at hs
   refine pN.lp (fun n m=>by simp only[wv,AE];exact rfl) ?_
   have:decide ((i:Int)<(T.length:Int))=true:=decide_eq_true (by omega)
   simp only[this,cond_true,sC hlt,kF,bne_self_eq_false,cond_false,beq_self_eq_true]
   obtain ⟨N,hN'⟩:=ih (i+1) (by omega)
   refine ⟨max N (T[i].parts.length+1),fun f m hf hm=> ?_⟩
   exact same_in f _ T i T[i] hs (by omega) (hN' f m (by omega) (by omega)) T[i].parts.length 0 (by omega) f (by omega)
 exact Ev.F6 (F:=fun f m=>wv f m T T 0) (key T.length 0 (by omega))
def U5 (out:List Str) (s:Str):List Str:=bif s==[]||out.contains s then out else out++[s]
def JZ (out:List Str) (ps:List Str):List Str:=ps.foldl U5 out
def V3 (out:List Str) (T:List Notation):List Str:=T.foldl (fun out n=>JZ out n.parts) out
def Ji (T:List Notation):Nat:=(T.map fun n=>n.parts.length).sum
theorem insR_len (out:List Str) (s:Str):(U5 out s).length≤out.length+1:=by
 unfold U5
 cases s==[]||out.contains s<;>simp
theorem Mz: ∀ (ps:List Str) (out:List Str),(JZ out ps).length≤out.length+ps.length
 |[],out=>kS _
 |s::ps,out=>by
  have h1:=Mz ps (U5 out s)
  have h2:=insR_len out s
  show (JZ (U5 out s) ps).length≤_
  rw[kJ];omega
theorem has_k (xs:List Str) (s:Str) (hl:xs.length≤4000000): ∀f,xs.length+2≤f→JE f xs s=some (xs.contains s):=by
 have key: ∀ (f d i:Nat),i+d=xs.length→ ∀k,d<k→DZ f k xs s (i:Int)=some ((xs.drop i).contains s):=by
  intro f d
  induction d with
  |zero=>
   intro i hi k hk
   obtain ⟨k,rfl⟩: ∃k',k=k'+1:=⟨k-1,by omega⟩
   simp only[DZ,GD]
   rw[decide_eq_false (show ¬ (i:Int)<(xs.length:Int) by omega),cond_false,kH (by omega),lF]
  |succ d ih=>
   intro i hi k hk
   obtain ⟨k,rfl⟩: ∃k',k=k'+1:=⟨k-1,by omega⟩
   have hlt:i<xs.length:=by omega
   simp only[DZ,GD,sC hlt,kF]
   rw[decide_eq_true (show (i:Int)<(xs.length:Int) by omega),cond_true,kG hlt,k6,nJ (by omega)]
   rw[show (s==xs[i])=(xs[i]==s) from kZ.2 ⟨fun h=>by simpa using (beq_iff_eq.1 h).symm,fun h=>by simpa using (beq_iff_eq.1 h).symm⟩]
   cases xs[i]==s with
   |true=>rfl
   |false=>rw[cond_false,kK];exact ih (i+1) (by omega) k (by omega)
 intro f hf
 obtain ⟨f,rfl⟩: ∃f',f=f'+1:=⟨f-1,by omega⟩
 simp only[JE,LH]
 have:=key f xs.length 0 (by omega) f (by omega)
 rwa [kO] at this
theorem rsym_in (f:Nat) (X:List Notation→Int→List Str→Option (List Str)) (T:List Notation) (i:Nat) (hi:i<T.length) (hl:T[i].parts.length≤1048640) (hT:T.length≤1048641) (hf:4000003≤f):
 ∀d j:Nat,∀out:List Str,j+d=T[i].parts.length→out.length+d≤4000000→ ∀k,d<k→xV f X k T (i:Int) (j:Int) out=X T ((i+1:Nat):Int) (JZ out (T[i].parts.drop j)):=by
 intro d
 induction d with
 |zero=>
  intro j out hj ho k hk
  obtain ⟨k,rfl⟩: ∃k',k=k'+1:=⟨k-1,by omega⟩
  simp only[xV,Cf,sC hi,kF]
  rw[decide_eq_false (show ¬ (j:Int)<(T[i].parts.length:Int) by omega),cond_false,nJ (by omega),kH (by omega)]
  rfl
 |succ d ih=>
  intro j out hj ho k hk
  obtain ⟨k,rfl⟩: ∃k',k=k'+1:=⟨k-1,by omega⟩
  have hjl:j<T[i].parts.length:=by omega
  simp only[xV,Cf,sC hi,kF,sC hjl]
  rw[decide_eq_true (show (j:Int)<(T[i].parts.length:Int) by omega),cond_true,nJ (by omega),kG hjl]
  show _=X T _ (JZ (U5 out T[i].parts[j]) (T[i].parts.drop (j+1)))
  unfold U5
  cases T[i].parts[j]==[] with
  |true=>rw[cond_true,kV,cond_true];exact ih (j+1) out (by omega) (by omega) k (by omega)
  |false=>
   rw[cond_false,kK,has_k out _ (by omega) f (by omega),kF]
   cases out.contains T[i].parts[j] with
   |true=>rw[cond_true,cond_true];exact ih (j+1) out (by omega) (by omega) k (by omega)
   |false=>
    rw[cond_false,cond_false,decide_eq_true (show (out.length+1)*16≤17592186044416 by omega),cond_true]
    exact ih (j+1) _ (by omega) (by rw[kL,kM];omega) k (by omega)
theorem Iv (n:Notation) (T:List Notation):Ji (n::T)=n.parts.length+Ji T:=by unfold Ji;rw[List.map_cons,List.sum_cons]
theorem rsyms_ev (T:List Notation) (hT:T.length≤cap) (hN: ∀n∈T,Mu n) (hp:Ji T≤cap):Ev (fun f=>CI f T) (V3 [] T):=by
 simp only[cap] at hT hp
 refine Ev.fn (fun n=>by simp only[CI,Gk];exact rfl) ?_
 have key: ∀ (d i:Nat) (out:List Str),i+d=T.length→out.length+Ji (T.drop i)≤2000000→pN (fun f m=>wA f m T (i:Int) out) (V3 out (T.drop i)):=by
  intro d
  induction d with
  |zero=>
   intro i out hi ho
   refine pN.lp (fun n m=>by simp only[wA,Cg];exact rfl) ?_
   have:decide ((i:Int)<(T.length:Int))=false:=decide_eq_false (by omega)
   simp only[this,cond_false,kH (show T.length≤i by omega)]
   exact pN.pure
  |succ d ih=>
   intro i out hi ho
   have hlt:i<T.length:=by omega
   have hs:=(hN _ (kQ hlt)).len
   simp only[cap] at hs
   rw[kG hlt,Iv] at ho
   refine pN.lp (fun n m=>by simp only[wA,Cg];exact rfl) ?_
   have:decide ((i:Int)<(T.length:Int))=true:=decide_eq_true (by omega)
   simp only[this,cond_true]
   have hlen:=Mz T[i].parts out
   obtain ⟨N,hN'⟩:=ih (i+1) (JZ out T[i].parts) (by omega) (by omega)
   refine ⟨max N 6000000,fun f m hf hm=> ?_⟩
   show xV f (wA f m) f T (i:Int) ((0:Nat):Int) out=_
   rw[rsym_in f _ T i hlt hs (by omega) (by omega) T[i].parts.length 0 out (by omega) (by omega) f (by omega),kO,kG hlt]
   exact hN' f m (by omega) (by omega)
 have:=key T.length 0 [] (by omega) (by rw[kO,kU];omega)
 rw[kO] at this
 exact Ev.F6 (F:=fun f m=>wA f m T 0 []) this
def Met (m:List (Str×Bool)) (out:List Str):Prop:= ∀s,(sI s m).getD false=(s==[]||out.contains s)
theorem Met.ins {m:List (Str×Bool)} {out:List Str} (h:Met m out) {s:Str} (hs:(sI s m).getD false=false):Met (zW s true m) (out++[s]):=by
 intro t
 rw[Ff,mo,mw,←mo,k7,lN,lC]
 cases hts:t==s with
 |true=>simp
 |false=>rw[cond_false,h t,lC]
theorem psym_in (f:Nat) (X:List Notation→Int→Int→List (Str×Bool)→List Str→Option (List Str)) (T:List Notation) (tl:Int) (i:Nat) (parts:List Str) (hl:parts.length≤1048640) (hi:i≤1048641) (R:Option (List Str)):
 ∀d j:Nat,∀ (m:List (Str×Bool)) (out:List Str),j+d=parts.length→out.length+d≤4000000→Met m out→(∀m',Met m' (JZ out (parts.drop j))→X T tl ((i+1:Nat):Int) m' (JZ out (parts.drop j))=R)→ ∀k,d<k→
  xz f X k T tl (i:Int) parts (parts.length:Int) (j:Int) m out=R:=by
 intro d
 induction d with
 |zero=>
  intro j m out hj ho hm hX k hk
  obtain ⟨k,rfl⟩: ∃k',k=k'+1:=⟨k-1,by omega⟩
  simp only[xz,zI]
  rw[decide_eq_false (show ¬ (j:Int)<(parts.length:Int) by omega),cond_false,nJ (by omega)]
  rw[kH (by omega)] at hX
  exact hX m hm
 |succ d ih=>
  intro j m out hj ho hm hX k hk
  obtain ⟨k,rfl⟩: ∃k',k=k'+1:=⟨k-1,by omega⟩
  have hjl:j<parts.length:=by omega
  simp only[xz,zI,sC hjl,kF]
  rw[decide_eq_true (show (j:Int)<(parts.length:Int) by omega),cond_true,nJ (by omega)]
  rw[kG hjl] at hX
  have hX: ∀m',Met m' (JZ (U5 out parts[j]) (parts.drop (j+1)))→X T tl ((i+1:Nat):Int) m' (JZ (U5 out parts[j]) (parts.drop (j+1)))=R:=hX
  unfold U5 at hX
  rw[hm]
  cases hq:parts[j]==[]||out.contains parts[j] with
  |true=>
   rw[hq] at hX
   rw[cond_true];exact ih (j+1) m out (by omega) (by omega) hm hX k (by omega)
  |false=>
   rw[hq] at hX
   rw[cond_false,decide_eq_true (show (out.length+1)*16≤17592186044416 by omega),cond_true]
   exact ih (j+1) _ _ (by omega) (by rw[kL,kM];omega) (hm.ins (by rw[hm];exact hq)) hX k (by omega)
theorem psyms_ev (T:List Notation) (hT:T.length≤cap) (hN: ∀n∈T,Mu n) (hp:Ji T≤cap):Ev (fun f=>Ab f T) (V3 [] T):=by
 simp only[cap] at hT hp
 refine Ev.fn (fun n=>by simp only[Ab,Dd];exact rfl) ?_
 have key: ∀ (d i:Nat) (out:List Str),i+d=T.length→out.length+Ji (T.drop i)≤2000000→ ∃N,∀f m,N≤f→N≤m→ ∀mt,Met mt out→xA f m T (T.length:Int) (i:Int) mt out=some (V3 out (T.drop i)):=by
  intro d
  induction d with
  |zero=>
   intro i out hi ho
   refine ⟨1,fun f m hf hm mt hmt=> ?_⟩
   obtain ⟨m,rfl⟩: ∃m',m=m'+1:=⟨m-1,by omega⟩
   simp only[xA,zJ]
   rw[decide_eq_false (show ¬ (i:Int)<(T.length:Int) by omega),cond_false,kH (by omega)]
   rfl
  |succ d ih=>
   intro i out hi ho
   have hlt:i<T.length:=by omega
   have hs:=(hN _ (kQ hlt)).len
   simp only[cap] at hs
   rw[kG hlt,Iv] at ho
   have hlen:=Mz T[i].parts out
   obtain ⟨N,hN'⟩:=ih (i+1) (JZ out T[i].parts) (by omega) (by omega)
   refine ⟨max (N+1) 6000000,fun f m hf hm mt hmt=> ?_⟩
   obtain ⟨m,rfl⟩: ∃m',m=m'+1:=⟨m-1,by omega⟩
   simp only[xA,zJ,sC hlt,kF]
   rw[decide_eq_true (show (i:Int)<(T.length:Int) by omega),cond_true,kG hlt]
   refine psym_in f _ T _ i T[i].parts hs (by omega) _ T[i].parts.length 0 mt out (by omega) (by omega) hmt (fun m' hm'=> ?_) f (by omega)
   rw[kO] at hm' ⊢
   exact hN' f m (by omega) (by omega) m' hm'
 obtain ⟨N,hN'⟩:=key T.length 0 [] (by omega) (by rw[kO,kU];omega)
 rw[kO] at hN'
 refine ⟨N,fun n hn=>hN' n n hn hn _ fun s=> ?_⟩
 rw[Ff]
 cases s==[]<;>rfl
theorem Equal_ev (xs:List Str) (hl:xs.length≤4000000):Ev (fun n=>xB n xs xs) true:=by
 refine Ev.fn (fun n=>by simp only[xB,Be];exact rfl) ?_
 simp only[bne_self_eq_false,cond_false]
 have key: ∀d i:Nat,i+d=xs.length→pN (fun f m=>uJ f m xs xs (xs.length:Int) (i:Int)) true:=by
  intro d
  induction d with
  |zero=>
   intro i hi
   refine pN.lp (fun n m=>by simp only[uJ,xK];exact rfl) ?_
   have:decide ((i:Int)<(xs.length:Int))=false:=decide_eq_false (by omega)
   simp only[this,cond_false]
   exact pN.pure
  |succ d ih=>
   intro i hi
   have hlt:i<xs.length:=by omega
   refine pN.lp (fun n m=>by simp only[uJ,xK];exact rfl) ?_
   have:decide ((i:Int)<(xs.length:Int))=true:=decide_eq_true (by omega)
   simp only[this,cond_true,sC hlt,kF,beq_self_eq_true]
   rw[nJ (by omega)]
   exact ih (i+1) (by omega)
 exact Ev.F6 (F:=fun f m=>uJ f m xs xs (xs.length:Int) 0) (key xs.length 0 (by omega))
theorem V4: ∀ (T:List Notation) (out:List Str),(V3 out T).length≤out.length+Ji T
 |[],out=>kS _
 |n::T,out=>by
  have h1:=V4 T (JZ out n.parts)
  have h2:=Mz n.parts out
  show (V3 (JZ out n.parts) T).length≤_
  rw[Iv];omega
theorem QL: ∀T:List Notation,Ji T≤sumB Notation.bulk T
 |[]=>kT _
 |n::T=>by
  have h1:=QL T
  have h2:=CR (bk:=fun m:Str=>m.length+1) (fun _=>mq _ _) n.parts
  rw[Iv,sumB]
  unfold Notation.bulk at h1 ⊢
  omega
theorem U6 (x0:List Notation) (x1:Notation) (h:sumB Notation.bulk x0+x1.bulk≤1048576) (_: ∀y∈x0,y.wf) (_:x1.wf): ∃n,Di n x0 x1=some true:=by
 refine It ?_
 obtain ⟨t1,t2⟩:=tab_sm (T:=x0) (by omega)
 have hs:Mu x1:=Mu.of (by simp only[cap];omega)
 have t1':=t1
 simp only[cap] at t1'
 have hap: ∀n∈x0++[x1],Mu n:=fun n hn=>by
  rcases k5.1 hn with e|e
  ·exact t2 n e
  ·rw[kR.1 e];exact hs
 have hlen:x0.length+1≤cap:=by
  have:=CR (bk:=Notation.bulk) (fun x=>by unfold Notation.bulk;omega) x0
  simp only[cap];omega
 refine Ev.fn (fun n=>by simp only[Di,B2];exact rfl) ?_
 refine Ev.bind (V2 x0 (by omega)) ?_
 rw[decide_eq_true (show (x0.length+1)*56≤17592186044416 by omega)]
 simp only[cond_true]
 obtain ⟨b,_,Cl⟩:=Xi (x0++[x1]) (by rw[kL,kM];omega) hap
 refine Ev.bind Cl ?_
 cases b with
 |false=>exact yU
 |true=>
 simp only[cond_true]
 obtain ⟨e1,e2⟩:=Xk t1 t2 hs
 have hsame:Ev (fun f=>yN f (Xj x0 x1).1 (Xj x0 x1).1) true:=by
  refine Xl _ ?_ ?_
  ·unfold Xj
   cases Fb x0 with
   |false=>exact kT _
   |true=>
    cases Dj x0 x1==0 with
    |false=>exact kT _
    |true=>show (x0++[x1]).length≤_;rw[kL,kM];omega
  ·unfold Xj
   cases Fb x0 with
   |false=>intro n hn;cases hn
   |true=>
    cases Dj x0 x1==0 with
    |false=>intro n hn;cases hn
    |true=>exact hap
 have hpn:Ji x0≤cap:=by have:=QL x0;simp only[cap];omega
 refine Ev.bind e1 (Ev.bind e2 (Ev.bind hsame ?_))
 simp only[cond_true,beq_self_eq_true]
 refine Ev.bind (psyms_ev x0 t1 t2 hpn) (Ev.bind (rsyms_ev x0 t1 t2 hpn) (Ev.bind (Equal_ev _ ?_) ?_))
 ·have:=V4 x0 []
  rw[kU] at this
  simp only[cap] at hpn
  omega
 ·exact yU
end Go.Abs
namespace Go.Abs
end Go.Abs
