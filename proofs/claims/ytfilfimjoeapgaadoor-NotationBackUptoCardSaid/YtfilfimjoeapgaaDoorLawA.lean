/- A part of the proof: plain facts. -/
import Derived.Test.YtfilfimjoeapgaaDoorCoreD
import Derived.Test.YtfilfimjoeapgaaDoorDataA
import Derived.KernelRfl
import Derived.Test.YtfilfimjoeapgaaDoorReadA
set_option linter.all false
open Option renaming bind_some → j6,isSome_none → lA,isSome_iff_exists → lT,isSome_some → l6
open List renaming drop_eq_getElem_cons → j7,drop_eq_nil_of_le → j8,length_cons → kf,getElem_mem → kg,mem_singleton → ko,length_append → kq,length_drop → kA,length_nil → kC,take_succ_eq_append_getElem → kE,length_singleton → kG,drop_zero → kH,append_assoc → kL,mem_append → kM,length_eq_zero_iff → kO,getD_eq_getElem?_getD → kP,any_cons → kQ,countP_cons → kR,mem_cons_self → kS,contains_cons → kT,take_zero → kU,length → kV,mem_cons_of_mem → kW,take_of_length_le → kY,append_nil → kZ,nil_append → k4,suffix_refl → k5,mem_of_mem_drop → k6,cons_append → k7,getElem?_append_right → k8,mem_of_find?_eq_some → k9,getLast?_cons → ld,drop_drop → lB,contains_nil → lD,drop_length → lH,contains_iff_mem → lI,set_append_right → lJ,all_nil → lM,find?_cons → lN,any_nil → lO,suffix_cons → lR,getElem?_eq_getElem → lS,head?_drop → lU,mem_cons → lV,all_cons → lW,length_reverse → lY
open Bool renaming true_and → j9,false_or → ke,false_and → kj,not_false → kr,true_or → ku,not_true → kD,eq_iff_iff → kI,and_eq_true → kJ,or_eq_false_iff → kK,and_false → kX,or_true → lg,or_self → lz,eq_false_iff → lF,or_false → lG,and_true → lQ,or_comm → lZ
open SizeOf renaming sizeOf → kB
open Nat renaming le_refl → kF,zero_le → kN,add_sub_cancel → lP,zero_add → l5,add_zero → l7
open Go.Lib renaming contains → lu
open Option.some renaming injEq → lC
open Int renaming toNat_natCast → lE,lt_irrefl → lX,le_refl → l8
open Exists renaming imp → lK
namespace Go.Abs
variable {R S T:Type}
def Ev (F:Nat→Option R) (r:R):Prop:= ∃N,∀n,N≤n→F n=some r
def pO (F:Nat→Nat→Option R) (r:R):Prop:= ∃N,∀n m,N≤n→N≤m→F n m=some r
theorem Ev.fn {F G:Nat→Option R} {r:R} (h: ∀n,F (n+1)=G n) (hg:Ev G r):Ev F r:=by
 obtain ⟨N,hN⟩:=hg
 refine ⟨N+1,fun n hn=> ?_⟩
 obtain ⟨k,rfl⟩: ∃k,n=k+1:=⟨n-1,by omega⟩
 rw[h];exact hN k (by omega)
theorem Ev.Fe {F:Nat→Nat→Option R} {r:R} (h:pO F r):Ev (fun n=>F n n) r:=by
 obtain ⟨N,hN⟩:=h
 exact ⟨N,fun n hn=>hN n n hn hn⟩
theorem pO.S7 {F:Nat→Option R} {r:R} (h:Ev F r):pO (fun n _=>F n) r:=by
 obtain ⟨N,hN⟩:=h
 exact ⟨N,fun n m hn _=>hN n hn⟩
theorem pO.lp {F G:Nat→Nat→Option R} {r:R} (h: ∀n m,F n (m+1)=G n m) (hg:pO G r):pO F r:=by
 obtain ⟨N,hN⟩:=hg
 refine ⟨N+1,fun n m hn hm=> ?_⟩
 obtain ⟨k,rfl⟩: ∃k,m=k+1:=⟨m-1,by omega⟩
 rw[h];exact hN n k (by omega) (by omega)
theorem Ev.pure {r:R}:Ev (fun _=>some r) r:=⟨0,fun _ _=>rfl⟩
theorem pO.pure {r:R}:pO (fun _ _=>some r) r:=⟨0,fun _ _ _ _=>rfl⟩
theorem Ev.bind {F:Nat→Option S} {G:Nat→S→Option R} {x:S} {r:R} (h:Ev F x) (hg:Ev (fun n=>G n x) r):Ev (fun n=>(F n).bind (G n)) r:=by
 obtain ⟨N,hN⟩:=h
 obtain ⟨M,hM⟩:=hg
 refine ⟨max N M,fun n hn=> ?_⟩
 show (F n).bind (G n)=some r
 rw[hN n (by omega)];exact hM n (by omega)
theorem pO.bind {F:Nat→Nat→Option S} {G:Nat→Nat→S→Option R} {x:S} {r:R} (h:pO F x) (hg:pO (fun n m=>G n m x) r):pO (fun n m=>(F n m).bind (G n m)) r:=by
 obtain ⟨N,hN⟩:=h
 obtain ⟨M,hM⟩:=hg
 refine ⟨max N M,fun n m hn hm=> ?_⟩
 show (F n m).bind (G n m)=some r
 rw[hN n m (by omega) (by omega)];exact hM n m (by omega) (by omega)
theorem pO.qH {F:Nat→Option S} {G:Nat→Nat→S→Option R} {x:S} {r:R} (h:Ev F x) (hg:pO (fun n m=>G n m x) r):pO (fun n m=>(F n).bind (G n m)) r:=
 pO.bind (F:=fun n _=>F n) (pO.S7 h) hg
theorem Ev.congr {F G:Nat→Option R} {r:R} (hg:Ev G r) (h: ∀n,F n=G n):Ev F r:=by
 rw[show F=G from funext h];exact hg
theorem pO.congr {F G:Nat→Nat→Option R} {r:R} (hg:pO G r) (h: ∀n m,F n m=G n m):pO F r:=by
 rw[show F=G from funext fun n=>funext fun m=>h n m];exact hg
theorem Ev.uniq {F:Nat→Option R} {r s:R} (h:Ev F r) (k:Ev F s):r=s:=by
 obtain ⟨N,hN⟩:=h
 obtain ⟨M,hM⟩:=k
 have a:=hN (max N M) (by omega)
 have b:=hM (max N M) (by omega)
 rw[a] at b;exact Option.some.inj b
def sv (F:Nat→Option R) (Q:R→Prop):Prop:= ∃r,Q r∧Ev F r
def oG (F:Nat→Nat→Option R) (Q:R→Prop):Prop:= ∃r,Q r∧pO F r
theorem sv.fn {F G:Nat→Option R} {Q:R→Prop} (h: ∀n,F (n+1)=G n) (hg:sv G Q):sv F Q:=lK (fun _ k=>⟨k.1,Ev.fn h k.2⟩) hg
theorem sv.Fe {F:Nat→Nat→Option R} {Q:R→Prop} (h:oG F Q):sv (fun n=>F n n) Q:=lK (fun _ k=>⟨k.1,Ev.Fe k.2⟩) h
theorem oG.S7 {F:Nat→Option R} {Q:R→Prop} (h:sv F Q):oG (fun n _=>F n) Q:=lK (fun _ k=>⟨k.1,pO.S7 k.2⟩) h
theorem oG.lp {F G:Nat→Nat→Option R} {Q:R→Prop} (h: ∀n m,F n (m+1)=G n m) (hg:oG G Q):oG F Q:=lK (fun _ k=>⟨k.1,pO.lp h k.2⟩) hg
theorem sv.pure {r:R} {Q:R→Prop} (h:Q r):sv (fun _=>some r) Q:=⟨r,h,Ev.pure⟩
theorem oG.pure {r:R} {Q:R→Prop} (h:Q r):oG (fun _ _=>some r) Q:=⟨r,h,pO.pure⟩
theorem sv.bind {F:Nat→Option S} {G:Nat→S→Option R} {P:S→Prop} {Q:R→Prop} (h:sv F P) (hg: ∀x,P x→sv (fun n=>G n x) Q):sv (fun n=>(F n).bind (G n)) Q:=by
 obtain ⟨x,hx,hF⟩:=h
 obtain ⟨r,hr,hG⟩:=hg x hx
 exact ⟨r,hr,Ev.bind hF hG⟩
theorem oG.bind {F:Nat→Nat→Option S} {G:Nat→Nat→S→Option R} {P:S→Prop} {Q:R→Prop} (h:oG F P) (hg: ∀x,P x→oG (fun n m=>G n m x) Q):oG (fun n m=>(F n m).bind (G n m)) Q:=by
 obtain ⟨x,hx,hF⟩:=h
 obtain ⟨r,hr,hG⟩:=hg x hx
 exact ⟨r,hr,pO.bind hF hG⟩
theorem oG.qH {F:Nat→Option S} {G:Nat→Nat→S→Option R} {P:S→Prop} {Q:R→Prop} (h:sv F P) (hg: ∀x,P x→oG (fun n m=>G n m x) Q):oG (fun n m=>(F n).bind (G n m)) Q:=
 oG.bind (F:=fun n _=>F n) (oG.S7 h) hg
theorem sv.idx {xs:List S} {i:Nat} {G:Nat→S→Option R} {Q:R→Prop} (hi:i<xs.length) (hg:sv (fun n=>G n xs[i]) Q):sv (fun n=>(xz xs (i:Int)).bind (G n)) Q:=by
 have:xz xs (i:Int)=some xs[i]:=by simp [xz,hi]
 simp only[this];exact hg
theorem oG.idx {xs:List S} {i:Nat} {G:Nat→Nat→S→Option R} {Q:R→Prop} (hi:i<xs.length) (hg:oG (fun n m=>G n m xs[i]) Q):oG (fun n m=>(xz xs (i:Int)).bind (G n m)) Q:=by
 have:xz xs (i:Int)=some xs[i]:=by simp [xz,hi]
 simp only[this];exact hg
theorem sv.MD {c:Bool} {A B:Nat→Option R} {Q:R→Prop} (h1:c=true→sv A Q) (h2:c=false→sv B Q):sv (fun n=>bif c then A n else B n) Q:=by
 cases c with
 |true=>exact h1 rfl
 |false=>exact h2 rfl
theorem oG.MD {c:Bool} {A B:Nat→Nat→Option R} {Q:R→Prop} (h1:c=true→oG A Q) (h2:c=false→oG B Q):oG (fun n m=>bif c then A n m else B n m) Q:=by
 cases c with
 |true=>exact h1 rfl
 |false=>exact h2 rfl
theorem sv.imp {F:Nat→Option R} {P Q:R→Prop} (h:sv F P) (k: ∀r,P r→Q r):sv F Q:=lK (fun r x=>⟨k r x.1,x.2⟩) h
theorem oG.imp {F:Nat→Nat→Option R} {P Q:R→Prop} (h:oG F P) (k: ∀r,P r→Q r):oG F Q:=lK (fun r x=>⟨k r x.1,x.2⟩) h
theorem sv.ev {F:Nat→Option R} {r:R} (h:sv F (· =r)):Ev F r:=by obtain ⟨s,rfl,h⟩:=h;exact h
theorem Ev.tot {F:Nat→Option R} {r:R} {Q:R→Prop} (h:Ev F r) (q:Q r):sv F Q:=⟨r,q,h⟩
theorem pO.tot {F:Nat→Nat→Option R} {r:R} {Q:R→Prop} (h:pO F r) (q:Q r):oG F Q:=⟨r,q,h⟩
theorem oG.up {L:Nat→Nat→Int→S→Option R} (len:Nat) (I:Nat→S→Prop) (Q:R→Prop)
 (h1: ∀i s,i<len→I i s→(∀s',I (i+1) s'→oG (fun n m=>L n m ((i+1:Nat):Int) s') Q)→oG (fun n m=>L n m (i:Int) s) Q)
 (h2: ∀s,I len s→oG (fun n m=>L n m (len:Int) s) Q): ∀ (i:Nat) (s:S),i≤len→I i s→oG (fun n m=>L n m (i:Int) s) Q:=by
 intro i s hi h
 obtain ⟨k,hk⟩: ∃k,k=len-i:=⟨_,rfl⟩
 induction k generalizing i s with
 |zero=>obtain rfl:i=len:=by omega
        exact h2 s h
 |succ k ih=>exact h1 i s (by omega) h fun s' hs=>ih (i+1) s' (by omega) hs (by omega)
theorem wrap_small {n:Int} (h: -9223372036854775808≤n) (h2:n≤9223372036854775807):IntKind.i64.wrap n=n:=by
 simp only[IntKind.wrap,IntKind.signed,IntKind.bits,j9,decide_eq_true_eq]
 split<;>rename_i h3<;>simp only[decide_eq_true_eq,ge_iff_le] at h3<;>omega
theorem nV {i:Nat} (h:i<9223372036854775807):IntKind.i64.wrap ((i:Int)+1)=((i+1:Nat):Int):=by
 rw[wrap_small (by omega) (by omega)];rfl
theorem uy {xs:List S} {i:Nat} (hi:i<xs.length):xz xs (i:Int)=some xs[i]:=by simp [xz,hi]
theorem pO.idx {xs:List S} {i:Nat} {G:Nat→Nat→S→Option R} {r:R} (hi:i<xs.length) (hg:pO (fun n m=>G n m xs[i]) r):pO (fun n m=>(xz xs (i:Int)).bind (G n m)) r:=by
 simp only[uy hi];exact hg
noncomputable def eqb {α:Type} (a b:α):Bool:= @decide (a=b) (Classical.propDecidable _)
theorem QK {α:Type} {a b:α}:eqb a b=true↔a=b:=by
 unfold eqb;exact @decide_eq_true_iff _ (Classical.propDecidable _)
theorem eqb_self {α:Type} (a:α):eqb a a=true:=QK.2 rfl
theorem eqb_cons {α:Type} (x y:α) (xs ys:List α):eqb (x::xs) (y::ys)=(eqb x y&&eqb xs ys):=by
 rw[kI,kJ,QK,QK,QK,List.cons.injEq]
theorem pO.same {α:Type} {L:Nat→Nat→Int→Option Bool} (xs ys:List α) (hl:xs.length=ys.length)
 (h1: ∀ (i:Nat) (hi:i<xs.length) (hj:i<ys.length) (r:Bool),pO (fun n m=>L n m ((i+1:Nat):Int)) r→pO (fun n m=>L n m (i:Int)) (eqb xs[i] ys[i]&&r))
 (h2:pO (fun n m=>L n m (xs.length:Int)) true):pO (fun n m=>L n m 0) (eqb xs ys):=by
 have key: ∀ (k i:Nat),k+i=xs.length→pO (fun n m=>L n m (i:Int)) (eqb (xs.drop i) (ys.drop i)):=by
  intro k
  induction k with
  |zero=>
   intro i hi
   obtain rfl:i=xs.length:=by omega
   rw[lH,hl,lH,eqb_self,←hl]
   exact h2
  |succ k ih=>
   intro i hi
   have hi1:i<xs.length:=by omega
   have hi2:i<ys.length:=by omega
   rw[j7 hi1,j7 hi2,eqb_cons]
   exact h1 i hi1 hi2 _ (ih (i+1) (by omega))
 have:=key xs.length 0 (by omega)
 simpa using this
end Go.Abs
namespace Go.Abs
def letB (c:UInt8):Bool:=(decide (97≤c.toNat)&&decide (c.toNat≤122))||(decide (65≤c.toNat)&&decide (c.toNat≤90))
def Ss (c:UInt8):Bool:=letB c||c==95
def Wl (c:UInt8):Bool:=decide (48≤c.toNat)&&decide (c.toNat≤57)
def St (c:UInt8):Bool:=Ss c||(Wl c||c==39)
def kws:List Str:=[[102,117,110],[108,101,116],[105,110],[83,105,103,109,97],[80,114,111,112],[84,121,112,101],
       [98,121],[97,120,105,111,109],[100,101,102],[116,104,101,111,114,101,109],
       [105,110,100,117,99,116,105,118,101],[102,117,110,99,116,105,111,110],[97,110,100],
       [101,110,100],[99,108,97,115,115],[105,110,115,116,97,110,99,101],
       [110,111,116,97,116,105,111,110],[110,97,109,101,115,112,97,99,101],[111,112,101,110],
       [99,104,101,99,107],[101,118,97,108],[105,109,112,111,114,116]]
def Bk:List Str:=[[40],[41],[40,41],[123],[125],[91],[93],[44],[59],[58],[58,61],[45,62],[61,62],[124],[64],
     [43],[95],[46,123],[46,49],[46,50],[60,124,62]]
def signs:Str:=[33,35,36,37,38,42,43,45,47,58,60,61,62,63,64,92,94,124,126]
def NS (c:UInt8):Bool:=signs.contains c
def dd:Str→Bool
 |[]=>false
 |x::r=>(x==45&&r.head?==some 45)||dd r
def Su (s:Str):Bool:=
 match s with
 |[]=>false
 |c::t=>bif Ss c then (c::t).all St&&(!((c::t)==[95])&& !kws.contains (c::t)) else (c::t).all NS&&(!dd (c::t)&&(decide ((c::t).length≤8)&&(!Bk.contains (c::t)||(c::t)==[43])))
abbrev cap:Nat:=1048640
def Qx (c:UInt8):Bool:=(decide (97≤(c.toNat:Int))&&decide ((c.toNat:Int)≤122))||((decide (65≤(c.toNat:Int))&&decide ((c.toNat:Int)≤90))||((c.toNat:Int)==95))
def EU:Bool→Str→Bool
 |b,[]=> !b
 |b,c::s=>bif Qx c then EU false s else bif b then false else bif ((c.toNat:Int)==46) then EU true s else bif ((c.toNat:Int)==39)||(decide (48≤(c.toNat:Int))&&decide ((c.toNat:Int)≤57)) then EU false s else false
def G6 (s:Str):Bool:=EU true s&&decide ((s.length:Int)≤64)
end Go.Abs
namespace Go.Abs
def zW (n:Notation):Bool:=n.parts.getD 0 []==[]
def FO (n:Notation):Bool:=n.parts.getD (n.parts.length-1) []==[]
def NT:List Str→Bool
 |x::y::r=>(x==[]&&y==[])||NT (y::r)
 |_=>false
def AY (n:Notation):Int:=
 bif decide (n.parts.length=0)||decide (16<n.parts.length) then 6
 else bif NT n.parts||n.parts.all (· ==[]) then 3
 else bif n.parts.all (fun s=>s==[]||Su s) then
  (bif decide (n.level<0)||(decide (100<n.level)||(decide (n.assoc<0)||decide (2<n.assoc))) then 2
  else bif !(n.assoc==0)&& !(zW n&&FO n) then 1 else bif G6 n.target then 0 else 29)
 else 4
def qa (n:Notation):Str:=bif zW n then n.parts.getD 1 [] else n.parts.getD 0 []
def q7 (n:Notation):List Str:=bif zW n then n.parts.drop 2 else n.parts.drop 1
def yZ (a b:Notation):Bool:=(zW a&&(q7 b).contains (qa a))||(zW b&&(q7 a).contains (qa b))
def CE (t n:Notation):Bool:=zW t==zW n&&qa t==qa n
def Ku (T:List Notation) (n:Notation):Int:=
 bif AY n==0 then (bif decide (100≤T.length) then 6 else bif yZ n n||T.any (fun t=>CE t n||yZ t n) then 8 else 0) else AY n
def PU (pre:List Notation):List Notation→Bool
 |[]=>true
 |n::r=>Ku pre n==0&&PU (pre++[n]) r
def G7 (T:List Notation):Bool:=PU [] T
def uS (T:List Notation) (s:Str) (c:Bool):Option Notation:=T.find? fun n=>zW n==c&&qa n==s
structure Ok (n:Notation):Prop where
 pos:0<n.parts.length
 Wm:n.parts.length≤16
 adj:NT n.parts=false
 sym:n.parts.all (· ==[])=false
 lo:0≤n.level
 hi:n.level≤100
 alo:0≤n.assoc
 ahi:n.assoc≤2
theorem Ok.of {n:Notation} (h:AY n=0):Ok n:=by
 unfold AY at h
 cases h1:decide (n.parts.length=0)||decide (16<n.parts.length) with
 |true=>rw[h1] at h;exact absurd h (by simp)
 |false=>
  rw[h1,cond_false] at h
  cases h2:NT n.parts||n.parts.all (· ==[]) with
  |true=>rw[h2] at h;exact absurd h (by simp)
  |false=>
   rw[h2,cond_false] at h
   cases h3:n.parts.all (fun s=>s==[]||Su s) with
   |false=>rw[h3] at h;exact absurd h (by simp)
   |true=>
    rw[h3,cond_true] at h
    cases h4:decide (n.level<0)||(decide (100<n.level)||(decide (n.assoc<0)||decide (2<n.assoc))) with
    |true=>rw[h4] at h;exact absurd h (by simp)
    |false=>
     simp only[kK,decide_eq_false_iff_not] at h1 h2 h4
     exact ⟨by omega,by omega,h2.1,h2.2,by omega,by omega,by omega,by omega⟩
structure Jv (T:List Notation):Prop where
 chk: ∀n∈T,AY n=0
 conf: ∀a∈T,∀b∈T,yZ a b=false
 uniq: ∀a∈T,∀b∈T,CE a b=true→a=b
 len:T.length≤100
theorem confT_symm (a b:Notation):yZ a b=yZ b a:=by unfold yZ;rw[lZ]
theorem sameH_symm {a b:Notation} (h:CE a b=true):CE b a=true:=by
 unfold CE at*
 simp only[kJ,beq_iff_eq] at*
 exact ⟨h.1.symm,h.2.symm⟩
theorem addT_zero {T:List Notation} {n:Notation} (h:Ku T n=0):AY n=0∧T.length<100∧yZ n n=false∧ ∀t∈T,CE t n=false∧yZ t n=false:=by
 unfold Ku at h
 cases h1:AY n==0 with
 |false=>rw[h1,cond_false] at h;rw[h] at h1;exact absurd h1 (by decide)
 |true=>
  rw[h1,cond_true] at h
  cases h2:decide (100≤T.length) with
  |true=>rw[h2] at h;exact absurd h (by simp)
  |false=>
   rw[h2,cond_false] at h
   cases h3:yZ n n||T.any (fun t=>CE t n||yZ t n) with
   |true=>rw[h3] at h;exact absurd h (by simp)
   |false=>
    rw[kK] at h3
    have h2:=of_decide_eq_false h2
    refine ⟨beq_iff_eq.1 h1,by omega,h3.1,fun t ht=> ?_⟩
    have:=List.any_eq_false.1 h3.2 t ht
    simpa only[Bool.not_eq_true,kK] using this
theorem Jv.nil:Jv []:=⟨by simp,by simp,by simp,by simp⟩
theorem Jv.snoc {T:List Notation} {n:Notation} (g:Jv T) (h:Ku T n=0):Jv (T++[n]):=by
 obtain ⟨h1,h2,h3,h4⟩:=addT_zero h
 refine ⟨fun a ha=> ?_,fun a ha b hb=> ?_,fun a ha b hb e=> ?_,by rw[kq,kG];omega⟩
 ·rcases kM.1 ha with ha|ha
  ·exact g.chk a ha
  ·rw[ko.1 ha];exact h1
 ·rcases kM.1 ha with ha|ha<;>rcases kM.1 hb with hb|hb
  ·exact g.conf a ha b hb
  ·rw[ko.1 hb];exact (h4 a ha).2
  ·rw[ko.1 ha,confT_symm];exact (h4 b hb).2
  ·rw[ko.1 ha,ko.1 hb];exact h3
 ·rcases kM.1 ha with ha|ha<;>rcases kM.1 hb with hb|hb
  ·exact g.uniq a ha b hb e
  ·rw[ko.1 hb] at e;rw[(h4 a ha).1] at e;exact absurd e (by decide)
  ·rw[ko.1 ha] at e;have:=sameH_symm e;rw[(h4 b hb).1] at this;exact absurd this (by decide)
  ·rw[ko.1 ha,ko.1 hb]
theorem Jv.go: ∀ {r pre:List Notation},Jv pre→PU pre r=true→Jv (pre++r)
 |[],pre,g,_=>by rw[kZ];exact g
 |n::r,pre,g,h=>by
  rw[PU,kJ,beq_iff_eq] at h
  have:=Jv.go (g.snoc h.1) h.2
  rwa [kL] at this
theorem Jv.of {T:List Notation} (h:G7 T=true):Jv T:=by simpa using Jv.go Jv.nil h
theorem Jv.ok {T:List Notation} (g:Jv T) {n:Notation} (h:n∈T):Ok n:=Ok.of (g.chk n h)
theorem zJ {T:List Notation} {s:Str} {c:Bool} {n:Notation} (h:uS T s c=some n):n∈T∧zW n=c∧qa n=s:=by
 have h1:=k9 h
 have h2:=List.find?_some h
 simp only[kJ,beq_iff_eq] at h2
 exact ⟨h1,h2⟩
theorem Bd {T:List Notation} (g:Jv T) {n:Notation} (h:n∈T):uS T (qa n) (zW n)=some n:=by
 cases hf:uS T (qa n) (zW n) with
 |none=>
  have:=List.find?_eq_none.1 hf n h
  simp at this
 |some m=>
  obtain ⟨a,b,c⟩:=zJ hf
  rw[g.uniq m a n h (by unfold CE;simp [b,c])]
theorem PV {T:List Notation} (g:Jv T) {n:Notation} (h:n∈T) {s:Str} (hs:s∈q7 n):uS T s true=none:=by
 cases hf:uS T s true with
 |none=>rfl
 |some m=>
  obtain ⟨a,b,c⟩:=zJ hf
  have:=g.conf m a n h
  unfold yZ at this
  rw[kK,b,j9,c] at this
  rw[lI.2 hs] at this
  exact absurd this.1 (by decide)
theorem NU: ∀ {l:List Str} {i:Nat},NT l=false→i+1<l.length→l.getD i []=[]→l.getD (i+1) []≠[]
 |[],i,_,h,_=>by simp at h
 |[x],i,_,h,_=>by simp at h
 |x::y::r,0,h,_,e=>by
  rw[NT,kK,Bool.and_eq_false_iff] at h
  intro e2
  have e:x=[]:=by simpa using e
  have e2:y=[]:=by simpa using e2
  subst e e2
  simp at h
 |x::y::r,i+1,h,hl,e=>by
  rw[NT,kK] at h
  have:=NU (l:=y::r) (i:=i) h.2 (by simpa using hl) (by simpa using e)
  simpa using this
theorem Ok.UZ {n:Notation} (k:Ok n) (h:zW n=true):2≤n.parts.length:=by
 have hp:=k.pos
 match hn:n.parts with
 |[]=>rw[hn] at hp;simp at hp
 |[x]=>
  unfold zW at h
  rw[hn] at h
  have:=k.sym
  rw[hn] at this
  simp at h this
  exact absurd h this
 |x::y::r=>simp
theorem Ok.right2 {n:Notation} (k:Ok n) (h:FO n=true):2≤n.parts.length:=by
 have hp:=k.pos
 match hn:n.parts with
 |[]=>rw[hn] at hp;simp at hp
 |[x]=>
  unfold FO at h
  rw[hn] at h
  have:=k.sym
  rw[hn] at this
  simp at h this
  exact absurd h this
 |x::y::r=>simp
theorem Ok.head_ne {n:Notation} (k:Ok n):qa n≠[]:=by
 unfold qa
 cases h:zW n with
 |true=>
  rw[cond_true]
  exact NU k.adj (by have:=k.UZ h;omega) (by unfold zW at h;exact beq_iff_eq.1 h)
 |false=>rw[cond_false];unfold zW at h;exact beq_eq_false_iff_ne.1 h
end Go.Abs
namespace Go.Abs
def Lc (n:Notation):Bool:=zW n&&FO n
def u9 (n:Notation) (i:Nat):Int:=
 bif decide (0<i)&&decide (i<n.parts.length-1) then 0
 else bif (Lc n&&(decide (i=0)&& !(n.assoc==1)))||(Lc n&&(decide (0<i)&& !(n.assoc==2))) then n.level+1 else n.level
def nameN (s:Str) (f t:Int):Syntax:= .mk 0 s 0 [] [] [] f t
def appN (o x:Syntax) (f t:Int):Syntax:= .mk 2 [] 0 [] [] [o,x] f t
def Kl (o:Syntax) (ops:List Syntax) (f t:Int):Syntax:=ops.foldl (fun o x=>appN o x f t) o
def Eh (n:Notation) (ops:List Syntax) (f t:Int):Syntax:=Kl (nameN n.target f t) ops f t
def Hv:List Syntax→Option Str
 |[]=>none
 |x::_=>bif x.kind==17 then some x.text else none
inductive O3 where
 |parts (n:Notation) (ps:List Str) (i:Nat) (ops:List Syntax) (e:Int) (r:List Syntax)
 |first (m:Int) (r:List Syntax)
 |loop (m:Int) (out:Syntax) (has:Int) (r:List Syntax)
 |level (m:Int) (r:List Syntax)
inductive Out where
 |bad (r:List Syntax)
 |val (x:Syntax) (h:Int) (r:List Syntax)
 |ops (l:List Syntax) (e:Int) (r:List Syntax)
def Qy (T:List Notation) (m has:Int) (r:List Syntax):Option Notation:=
 match Hv r with
 |none=>none
 |some s=>match uS T s true with
  |none=>none
  |some n=>bif decide (n.level<m)||decide (has<u9 n 0) then none else some n
def Uf (T:List Notation) (m:Int) (x:Syntax):Option Notation:=
 match uS T x.text false with
 |none=>none
 |some n=>bif FO n&&decide (n.level<m) then none else some n
def outLev (n:Notation):Int:=bif FO n then n.level else 101
inductive Ei (T:List Notation):O3→Out→Prop
 |G8 {n i ops e r}:Ei T (.parts n [] i ops e r) (.ops ops e r)
 |LB {n ps i ops e r q}:Ei T (.level (u9 n i) r) (.bad q)→Ei T (.parts n ([]::ps) i ops e r) (.bad q)
 |hole {n ps i ops e r x h q o}:Ei T (.level (u9 n i) r) (.val x h q)→Ei T (.parts n ps (i+1) (ops++[x]) x.to q) o→Ei T (.parts n ([]::ps) i ops e r) o
 |O4 {n s ps i ops e r}:s≠[]→Hv r≠some s→Ei T (.parts n (s::ps) i ops e r) (.bad r)
 |sym {n s ps i ops e y r o}:s≠[]→y.kind=17→y.text=s→Ei T (.parts n ps (i+1) ops y.to r) o→Ei T (.parts n (s::ps) i ops e (y::r)) o
 |G9 {m}:Ei T (.first m []) (.bad [])
 |Ce {m x r}:x.kind≠17→Ei T (.first m (x::r)) (.val x 101 r)
 |Gt {m x r}:x.kind=17→Uf T m x=none→Ei T (.first m (x::r)) (.bad (x::r))
 |Jr {m x r n q}:x.kind=17→Uf T m x=some n→Ei T (.parts n n.parts 0 [] 0 (x::r)) (.bad q)→Ei T (.first m (x::r)) (.bad q)
 |first {m x r n l e q}:x.kind=17→Uf T m x=some n→Ei T (.parts n n.parts 0 [] 0 (x::r)) (.ops l e q)→Ei T (.first m (x::r)) (.val (Eh n l x.from_ e) (outLev n) q)
 |stop {m out has r}:Qy T m has r=none→Ei T (.loop m out has r) (.val out has r)
 |U0 {m out has r n q}:Qy T m has r=some n→Ei T (.parts n (n.parts.drop 1) 1 [out] 0 r) (.bad q)→Ei T (.loop m out has r) (.bad q)
 |go {m out has r n l e q o}:Qy T m has r=some n→Ei T (.parts n (n.parts.drop 1) 1 [out] 0 r) (.ops l e q)→Ei T (.loop m (Eh n l out.from_ e) n.level q) o→Ei T (.loop m out has r) o
 |He {m r q}:Ei T (.first m r) (.bad q)→Ei T (.level m r) (.bad q)
 |level {m r x h q o}:Ei T (.first m r) (.val x h q)→Ei T (.loop m x h q) o→Ei T (.level m r) o
def O3.rest:O3→List Syntax
 | .parts _ _ _ _ _ r=>r
 | .first _ r=>r
 | .loop _ _ _ r=>r
 | .level _ r=>r
def Out.rest:Out→List Syntax
 | .bad r=>r
 | .val _ _ r=>r
 | .ops _ _ r=>r
theorem Ei.suff {T:List Notation} {c:O3} {o:Out} (h:Ei T c o):o.rest<:+c.rest:=by
 induction h with
 |G8=>exact k5 _
 |LB _ ih=>exact ih
 |hole _ _ ih1 ih2=>exact ih2.trans ih1
 |O4 _ _=>exact k5 _
 |sym _ _ _ _ ih=>exact ih.trans (lR _ _)
 |G9=>exact k5 _
 |Ce _=>exact lR _ _
 |Gt _ _=>exact k5 _
 |Jr _ _ _ ih=>exact ih
 |first _ _ _ ih=>exact ih
 |stop _=>exact k5 _
 |U0 _ _ ih=>exact ih
 |go _ _ _ ih1 ih2=>exact ih2.trans ih1
 |He _ ih=>exact ih
 |level _ _ ih1 ih2=>exact ih2.trans ih1
def O3.q6:O3→Bool
 | .parts .. =>true
 |_=>false
def OutOk (c:O3):Out→Prop
 | .bad _=>True
 | .val .. =>c.q6=false
 | .ops .. =>c.q6=true
theorem Ei.outOk {T:List Notation} {c:O3} {o:Out} (h:Ei T c o):OutOk c o:=by
 induction h with
 |hole _ _ _ ih=>exact ih
 |sym _ _ _ _ ih=>exact ih
 |go _ _ _ _ ih=>exact ih
 |level _ _ _ ih=>exact ih
 |_=>first|trivial|rfl
theorem LC {T:List Notation} {n:Notation} {ps:List Str} {i:Nat} {ops:List Syntax} {e:Int} {r:List Syntax} {o:Out} (h:Ei T (.parts n ps i ops e r) o):(∃q,o= .bad q)∨ ∃l e' q,o= .ops l e' q:=by
 have:=h.outOk
 match o,this with
 | .bad q,_=>exact .inl ⟨q,rfl⟩
 | .val x h q,this=>exact absurd this (by simp [OutOk,O3.q6])
 | .ops l e' q,_=>exact .inr ⟨l,e',q,rfl⟩
theorem LD {T:List Notation} {c:O3} {o:Out} (h:Ei T c o) (hc:c.q6=false):(∃q,o= .bad q)∨ ∃x hh q,o= .val x hh q:=by
 have:=h.outOk
 match o,this with
 | .bad q,_=>exact .inl ⟨q,rfl⟩
 | .val x h q,_=>exact .inr ⟨x,h,q,rfl⟩
 | .ops l e' q,this=>exact absurd this (by simp [OutOk,hc])
theorem Gu {T:List Notation} {m:Int} {x:Syntax} {n:Notation} (h:Uf T m x=some n):n∈T∧zW n=false∧qa n=x.text∧(FO n=true→m≤n.level):=by
 unfold Uf at h
 split at h
 ·exact absurd h (by simp)
 ·rename_i n' hf
  cases hc:FO n'&&decide (n'.level<m) with
  |true=>rw[hc] at h;exact absurd h (by simp)
  |false=>
   rw[hc,cond_false,lC] at h
   subst h
   obtain ⟨a,b,c⟩:=zJ hf
   refine ⟨a,b,c,fun hr=> ?_⟩
   rw[hr,j9] at hc
   have:=of_decide_eq_false hc
   omega
theorem U1 {r:List Syntax} {s:Str} (h:Hv r=some s): ∃y r',r=y::r'∧y.kind=17∧y.text=s:=by
 match r with
 |[]=>simp [Hv] at h
 |y::r'=>
  have h:(bif y.kind==17 then some y.text else none)=some s:=h
  cases hk:y.kind==17 with
  |false=>rw[hk] at h;simp at h
  |true=>rw[hk] at h;exact ⟨y,r',rfl,beq_iff_eq.1 hk,by simpa using h⟩
theorem LF {y:Syntax} {r:List Syntax} (h:y.kind=17):Hv (y::r)=some y.text:=by
 show (bif y.kind==17 then some y.text else none)=some y.text
 rw[beq_iff_eq.2 h];rfl
theorem Gv {T:List Notation} {m has:Int} {r:List Syntax} {n:Notation} (h:Qy T m has r=some n):n∈T∧zW n=true∧Hv r=some (qa n)∧m≤n.level∧u9 n 0≤has:=by
 unfold Qy at h
 split at h
 ·exact absurd h (by simp)
 ·rename_i s hs
  split at h
  ·exact absurd h (by simp)
  ·rename_i n' hf
   cases hc:decide (n'.level<m)||decide (has<u9 n' 0) with
   |true=>rw[hc] at h;exact absurd h (by simp)
   |false=>
    rw[hc,cond_false,lC] at h
    subst h
    obtain ⟨a,b,c⟩:=zJ hf
    rw[kK] at hc
    have h1:=of_decide_eq_false hc.1
    have h2:=of_decide_eq_false hc.2
    exact ⟨a,b,by rw[hs,c],by omega,by omega⟩
theorem Sv {n:Notation} (h:zW n=true):qa n=n.parts.getD 1 []:=by unfold qa;rw[h];rfl
theorem PW {n:Notation} (h:zW n=false):qa n=n.parts.getD 0 []:=by unfold qa;rw[h];rfl
theorem Sw {n:Notation} (k:Ok n) (h:zW n=true):n.parts=[]::qa n::n.parts.drop 2:=by
 have h2:=k.UZ h
 rw[Sv h]
 unfold zW at h
 match hp:n.parts with
 |[]=>rw[hp] at h2;simp at h2
 |[x]=>rw[hp] at h2;simp at h2
 |x::y::r=>rw[hp] at h;have:x=[]:=by simpa using h
           rw[this];rfl
theorem PX {n:Notation} (k:Ok n) (h:zW n=false):n.parts=qa n::n.parts.drop 1:=by
 have h2:=k.pos
 rw[PW h]
 match hp:n.parts with
 |[]=>rw[hp] at h2;simp at h2
 |x::r=>rfl
theorem Ei.total {T:List Notation} (g:Jv T): ∀ (k:Nat) (m:Int) (r:List Syntax),r.length≤k→ ∃o,Ei T (.level m r) o∧(∀x h q,o= .val x h q→q.length<r.length):=by
 intro k
 induction k with
 |zero=>
  intro m r hr
  have:r=[]:=kO.1 (by omega)
  subst this
  exact ⟨_,.He .G9,fun x h q e=>by cases e⟩
 |succ k ih=>
  intro m r hr
  have parts: ∀ (n:Notation) (ps:List Str) (i:Nat) (ops:List Syntax) (e:Int) (r:List Syntax),r.length≤k→ ∃o,Ei T (.parts n ps i ops e r) o:=by
   intro n ps
   induction ps with
   |nil=>intro i ops e r _;exact ⟨_,.G8⟩
   |cons s ps ihp=>
    intro i ops e r hr
    by_cases hs:s=[]
    ·subst hs
     obtain ⟨o,ho,_⟩:=ih (u9 n i) r hr
     rcases LD ho rfl with ⟨q,rfl⟩|⟨x,h,q,rfl⟩
     ·exact ⟨_,.LB ho⟩
     ·obtain ⟨o,h2⟩:=ihp (i+1) (ops++[x]) x.to q (Nat.le_trans ho.suff.length_le hr)
      exact ⟨_,.hole ho h2⟩
    ·by_cases hq:Hv r=some s
     ·obtain ⟨y,r',rfl,h1,h2⟩:=U1 hq
      rw[kf] at hr
      obtain ⟨o,h3⟩:=ihp (i+1) ops y.to r' (by omega)
      exact ⟨_,.sym hs h1 h2 h3⟩
     ·exact ⟨_,.O4 hs hq⟩
  have parts2: ∀ (n:Notation) (ps:List Str) (i:Nat) (ops:List Syntax) (e:Int) (y:Syntax) (r:List Syntax),r.length≤k→qa n≠[]→y.kind=17→y.text=qa n→ ∃o,Ei T (.parts n (qa n::ps) i ops e (y::r)) o∧o.rest<:+r:=by
   intro n ps i ops e y r hr h0 h1 h2
   obtain ⟨o,ho⟩:=parts n ps (i+1) ops y.to r hr
   exact ⟨_,.sym h0 h1 h2 ho,ho.suff⟩
  have loop: ∀ (j:Nat) (m:Int) (out:Syntax) (has:Int) (r:List Syntax),r.length≤j→j≤k→ ∃o,Ei T (.loop m out has r) o:=by
   intro j
   induction j with
   |zero=>
    intro m out has r hr _
    have:r=[]:=kO.1 (by omega)
    subst this
    exact ⟨_,.stop rfl⟩
   |succ j ihj=>
    intro m out has r hr hj
    cases hg:Qy T m has r with
    |none=>exact ⟨_,.stop hg⟩
    |some n=>
     obtain ⟨hn,hl,hs,_,_⟩:=Gv hg
     obtain ⟨y,r',rfl,h1,h2⟩:=U1 hs
     rw[kf] at hr
     have kn:=g.ok hn
     have hp:n.parts.drop 1=qa n::n.parts.drop 2:=by
      conv=>lhs;rw[Sw kn hl]
      rfl
     obtain ⟨o,ho,hsf⟩:=parts2 n (n.parts.drop 2) 1 [out] 0 y r' (by omega) kn.head_ne h1 h2
     rw[←hp] at ho
     rcases LC ho with ⟨q,rfl⟩|⟨l,e,q,rfl⟩
     ·exact ⟨_,.U0 hg ho⟩
     ·have:=hsf.length_le
      obtain ⟨o,h3⟩:=ihj m (Eh n l out.from_ e) n.level q (by simp only[Out.rest] at this;omega) (by omega)
      exact ⟨_,.go hg ho h3⟩
  have first: ∃o,Ei T (.first m r) o∧(∀x h q,o= .val x h q→q.length<r.length):=by
   match r,hr with
   |[],_=>exact ⟨_,.G9,fun x h q e=>by cases e⟩
   |x::r,hr=>
    rw[kf] at hr
    by_cases hx:x.kind=17
    ·cases hb:Uf T m x with
     |none=>exact ⟨_,.Gt hx hb,fun x h q e=>by cases e⟩
     |some n=>
      obtain ⟨hn,hl,hh,_⟩:=Gu hb
      have kn:=g.ok hn
      obtain ⟨o,ho,hsf⟩:=parts2 n (n.parts.drop 1) 0 [] 0 x r (by omega) kn.head_ne hx hh.symm
      rw[←PX kn hl] at ho
      rcases LC ho with ⟨q,rfl⟩|⟨l,e,q,rfl⟩
      ·exact ⟨_,.Jr hx hb ho,fun x h q e=>by cases e⟩
      ·refine ⟨_,.first hx hb ho,fun x' h' q' e'=> ?_⟩
       cases e'
       have:=hsf.length_le
       simp only[Out.rest] at this
       rw[kf];omega
    ·exact ⟨_,.Ce hx,fun x h q e=>by cases e;simp⟩
  obtain ⟨o,ho,hlt⟩:=first
  rcases LD ho rfl with ⟨q,rfl⟩|⟨x,h,q,rfl⟩
  ·exact ⟨_,.He ho,fun x h q e=>by cases e⟩
  ·have hq:=hlt x h q rfl
   obtain ⟨o,h2⟩:=loop k m x h q (by omega) (kF _)
   refine ⟨o,.level ho h2,fun x' h' q' e'=> ?_⟩
   have:=h2.suff.length_le
   rw[e'] at this
   simp only[Out.rest,O3.rest] at this
   omega
end Go.Abs
namespace Go.Abs
theorem Syntax.NV {e x:Syntax} (h:x∈e.kids):kB x<kB e:=by
 cases e
 have:=List.sizeOf_lt_of_mem h
 simp only[Syntax.kids] at this
 simp only[Syntax.mk.sizeOf_spec]
 omega
theorem Syntax.ind {P:Syntax→Prop} (h: ∀e,(∀x∈e.kids,P x)→P e): ∀e,P e:=by
 have: ∀ (k:Nat) (e:Syntax),kB e≤k→P e:=by
  intro k
  induction k with
  |zero=>intro e he;exact h e fun x hx=>absurd (Syntax.NV hx) (by omega)
  |succ k ih=>intro e he;exact h e fun x hx=>ih x (by have:=Syntax.NV hx;omega)
 exact fun e=>this _ e (kF _)
def Gi (e:Syntax):Option (Syntax×Syntax):=bif e.kind==2 then (match e.kids with|[a,b]=>some (a,b)|_=>none) else none
theorem BX {e a b:Syntax} (h:Gi e=some (a,b)):e.kind=2∧e.kids=[a,b]:=by
 unfold Gi at h
 cases hk:e.kind==2 with
 |false=>rw[hk] at h;simp at h
 |true=>
  rw[hk,cond_true] at h
  refine ⟨beq_iff_eq.1 hk,?_⟩
  split at h
  ·rename_i x y he
   simp only[lC,Prod.mk.injEq] at h
   rw[he,h.1,h.2]
  ·exact absurd h (by simp)
theorem Sx {e a b:Syntax} (h:Gi e=some (a,b)):kB a<kB e∧kB b<kB e:=by
 have:=(BX h).2
 exact ⟨Syntax.NV (by rw[this];simp),Syntax.NV (by rw[this];simp)⟩
def s8 (e:Syntax):Syntax×List Syntax:=
 match h:Gi e with
 |none=>(e,[])
 |some (a,b)=>((s8 a).1,(s8 a).2++[b])
termination_by kB e
decreasing_by all_goals exact (Sx h).1
theorem Dr {e:Syntax} (h:Gi e=none):s8 e=(e,[]):=by
 rw[s8];split
 ·rfl
 ·rename_i h2;rw[h] at h2;cases h2
theorem Ds {e a b:Syntax} (h:Gi e=some (a,b)):s8 e=((s8 a).1,(s8 a).2++[b]):=by
 rw[s8];split
 ·rename_i h2;rw[h] at h2;cases h2
 ·rename_i x y h2
  rw[h] at h2
  cases h2
  rfl
def F4 (n:Notation):Nat:=n.parts.countP (· ==[])
def uZ (T:List Notation) (e:Syntax):Option (Notation×List Syntax):=
 bif (s8 e).1.kind==0&&((s8 e).1.levels.length==0&&(s8 e).1.num==0) then
  (match T.find? (fun n=>n.target==(s8 e).1.text) with
  |none=>none
  |some n=>bif F4 n==(s8 e).2.length then some (n,(s8 e).2) else none)
 else none
theorem YL: ∀ (e:Syntax),∀x∈(s8 e).2,kB x<kB e:=by
 intro e
 induction e using Syntax.ind with
 |h e ih=>
  intro x hx
  cases hk:Gi e with
  |none=>rw[Dr hk] at hx;exact absurd hx (by simp)
  |some p=>
   obtain ⟨a,b⟩:=p
   rw[Ds hk] at hx
   have hs:=Sx hk
   rcases kM.1 hx with h|h
   ·have:=ih a (by rw[(BX hk).2];simp) x h
    omega
   ·rw[ko.1 h];exact hs.2
structure App (T:List Notation) (e:Syntax) (n:Notation) (l:List Syntax):Prop where
 mem:n∈T
 kind:(s8 e).1.kind=0
 levels:(s8 e).1.levels=[]
 num:(s8 e).1.num=0
 text:(s8 e).1.text=n.target
 ops:(s8 e).2=l
 holes:F4 n=l.length
theorem tZ {T:List Notation} {e:Syntax} {n:Notation} {l:List Syntax} (h:uZ T e=some (n,l)):App T e n l:=by
 unfold uZ at h
 cases hc:(s8 e).1.kind==0&&((s8 e).1.levels.length==0&&(s8 e).1.num==0) with
 |false=>rw[hc] at h;simp at h
 |true=>
  rw[hc,cond_true] at h
  simp only[kJ,beq_iff_eq] at hc
  split at h
  ·simp at h
  ·rename_i m hf
   cases hh:F4 m==(s8 e).2.length with
   |false=>rw[hh] at h;simp at h
   |true=>
    rw[hh,cond_true] at h
    simp only[lC,Prod.mk.injEq] at h
    obtain ⟨rfl,h⟩:=h
    have h2:=List.find?_some hf
    simp only[beq_iff_eq] at h2 hh
    exact ⟨k9 hf,hc.1,kO.1 hc.2.1,hc.2.2,h2.symm,h,by rw[hh,h]⟩
theorem App.size {T:List Notation} {e:Syntax} {n:Notation} {l:List Syntax} (h:App T e n l): ∀x∈l,kB x<kB e:=by
 intro x hx
 rw[←h.ops] at hx
 exact YL e x hx
def BY (T:List Notation) (n:Notation) (i:Nat) (x:Syntax):Bool:=
 match uZ T x with
 |none=>false
 |some (m,_)=> !((zW m||FO m)&&decide (m.level<u9 n i))
def xJ (n:Notation):Nat:=n.parts.length-1
def xP (T:List Notation) (e:Syntax):Int:=
 match h:uZ T e with
 |none=>1000
 |some (m,l)=>
  bif FO m then
   (match h2:l.getLast? with
   |none=>u9 m (xJ m)
   |some x=>bif BY T m (xJ m) x then min (u9 m (xJ m)) (xP T x) else u9 m (xJ m))
  else 1000
termination_by kB e
decreasing_by exact (tZ h).size x (List.mem_of_getLast? h2)
theorem Ld {T:List Notation} {e:Syntax} (h:uZ T e=none):xP T e=1000:=by
 rw[xP];split
 ·rfl
 ·rename_i h2;rw[h] at h2;cases h2
theorem Lf {T:List Notation} {e:Syntax} {m:Notation} {l:List Syntax} (h:uZ T e=some (m,l)) (hr:FO m=false):xP T e=1000:=by
 rw[xP];split
 ·rfl
 ·rename_i m' l' h2
  rw[h] at h2
  cases h2
  rw[hr];rfl
theorem Ic {T:List Notation} {e x:Syntax} {m:Notation} {l:List Syntax} (h:uZ T e=some (m,l)) (hr:FO m=true) (hx:l.getLast?=some x):xP T e=bif BY T m (xJ m) x then min (u9 m (xJ m)) (xP T x) else u9 m (xJ m):=by
 rw[xP];split
 ·rename_i h2;rw[h] at h2;cases h2
 ·rename_i m' l' h2
  rw[h] at h2
  cases h2
  rw[hr,cond_true]
  split
  ·rename_i h3;rw[hx] at h3;cases h3
  ·rename_i y h3
   rw[hx] at h3
   cases h3
   rfl
def Hf (T:List Notation) (n:Notation) (i:Nat) (x:Syntax):Bool:=BY T n i x&&(decide (0<i)||decide (n.level<xP T x))
def Ug (s:Str):Syntax:= .mk 17 s 0 [] [] [] 0 0
inductive Wn where
 |expr (e:Syntax)
 |parts (n:Notation) (ps:List Str) (i:Nat) (l:List Syntax)
inductive Kv (T:List Notation):Wn→List Syntax→Prop
 |leaf {e}:uZ T e=none→Kv T (.expr e) [e]
 |app {e n l o}:uZ T e=some (n,l)→Kv T (.parts n n.parts 0 l) o→Kv T (.expr e) o
 |nil {n i l}:Kv T (.parts n [] i l) []
 |sym {n s ps i l o}:s≠[]→Kv T (.parts n ps (i+1) l) o→Kv T (.parts n (s::ps) i l) (Ug s::o)
 |apart {n ps i x l o1 o2}:Hf T n i x=true→Kv T (.expr x) o1→Kv T (.parts n ps (i+1) l) o2→Kv T (.parts n ([]::ps) i (x::l)) (o1++o2)
 |whole {n ps i x l o}:Hf T n i x=false→Kv T (.parts n ps (i+1) l) o→Kv T (.parts n ([]::ps) i (x::l)) (x::o)
theorem Kv.ofSym {T:List Notation} {n:Notation} {s:Str} {ps:List Str} {i:Nat} {l out:List Syntax} (h:Kv T (.parts n (s::ps) i l) out) (hs:s≠[]): ∃o,out=Ug s::o∧Kv T (.parts n ps (i+1) l) o:=by
 cases h with
 |sym _ h=>exact ⟨_,rfl,h⟩
 |apart _ _ _=>exact absurd rfl hs
 |whole _ _=>exact absurd rfl hs
theorem Kv.total (T:List Notation): ∀ (k:Nat) (e:Syntax),kB e≤k→ ∃o,Kv T (.expr e) o:=by
 intro k
 induction k with
 |zero=>intro e he;cases e;simp only[Syntax.mk.sizeOf_spec] at he;omega
 |succ k ih=>
  intro e he
  cases ha:uZ T e with
  |none=>exact ⟨_,.leaf ha⟩
  |some p=>
   obtain ⟨n,l⟩:=p
   have A:=tZ ha
   have parts: ∀ (ps:List Str) (i:Nat) (l:List Syntax),(∀x∈l,kB x≤k)→ps.countP (· ==[])=l.length→ ∃o,Kv T (.parts n ps i l) o:=by
    intro ps
    induction ps with
    |nil=>intro i l _ _;exact ⟨_,.nil⟩
    |cons s ps ihp=>
     intro i l hl hc
     by_cases hs:s=[]
     ·subst hs
      rw[kR] at hc
      match l,hl,hc with
      |[],_,hc=>simp at hc
      |x::l,hl,hc=>
       obtain ⟨o2,h2⟩:=ihp (i+1) l (fun y hy=>hl y (kW _ hy)) (by simpa using hc)
       cases hap:Hf T n i x with
       |true=>
        obtain ⟨o1,h1⟩:=ih x (hl x kS)
        exact ⟨_,.apart hap h1 h2⟩
       |false=>exact ⟨_,.whole hap h2⟩
     ·rw[kR] at hc
      obtain ⟨o,h⟩:=ihp (i+1) l hl (by simpa [hs] using hc)
      exact ⟨_,.sym hs h⟩
   obtain ⟨o,ho⟩:=parts n.parts 0 l (fun x hx=>by have:=A.size x hx;omega) A.holes
   exact ⟨o,.app ha ho⟩
inductive MY (pl:Bool):Syntax→Syntax→Prop
 |mk {a b:Syntax}:a.kind=b.kind→a.text=b.text→a.num=b.num→a.names=b.names→a.levels=b.levels→(pl=true→a.from_=b.from_∧a.to=b.to)→a.kids.length=b.kids.length→(∀i (h1:i<a.kids.length) (h2:i<b.kids.length),MY pl a.kids[i] b.kids[i])→MY pl a b
theorem MY.refl (pl:Bool): ∀e:Syntax,MY pl e e:=by
 intro e
 induction e using Syntax.ind with
 |h e ih=>exact .mk rfl rfl rfl rfl rfl (fun _=>⟨rfl,rfl⟩) rfl fun i h1 h2=>ih _ (kg h1)
inductive FK:Syntax→Prop
 |mk {e:Syntax}:e.kind≠17→(∀x∈e.kids,FK x)→FK e
theorem FK.kind {e:Syntax} (h:FK e):e.kind≠17:=by cases h;assumption
theorem FK.kids {e:Syntax} (h:FK e): ∀x∈e.kids,FK x:=by cases h;assumption
inductive Hg:Syntax→Prop
 |mk {e:Syntax}:(e.kind=2→e.text=[]∧e.num=0∧e.names=[]∧e.levels=[])→(e.kind=0→e.names=[]∧e.kids=[])→(∀x∈e.kids,Hg x)→Hg e
theorem Hg.app {e:Syntax} (h:Hg e):e.kind=2→e.text=[]∧e.num=0∧e.names=[]∧e.levels=[]:=by cases h;assumption
theorem Hg.name {e:Syntax} (h:Hg e):e.kind=0→e.names=[]∧e.kids=[]:=by cases h;assumption
theorem Hg.kids {e:Syntax} (h:Hg e): ∀x∈e.kids,Hg x:=by cases h;assumption
theorem LG {P:Syntax→Prop} (hP: ∀e,P e→ ∀x∈e.kids,P x): ∀e,P e→P (s8 e).1∧ ∀x∈(s8 e).2,P x:=by
 intro e
 induction e using Syntax.ind with
 |h e ih=>
  intro he
  cases hk:Gi e with
  |none=>rw[Dr hk];exact ⟨he,fun x hx=>absurd hx (by simp)⟩
  |some p=>
   obtain ⟨a,b⟩:=p
   rw[Ds hk]
   have hm:e.kids=[a,b]:=(BX hk).2
   have ha:=ih a (by rw[hm];simp) (hP e he a (by rw[hm];simp))
   refine ⟨ha.1,fun x hx=> ?_⟩
   rcases kM.1 hx with h|h
   ·exact ha.2 x h
   ·rw[ko.1 h];exact hP e he b (by rw[hm];simp)
theorem foldA_snoc (o:Syntax) (l:List Syntax) (x:Syntax) (f t:Int):Kl o (l++[x]) f t=appN (Kl o l f t) x f t:=by
 unfold Kl;rw[List.foldl_append];rfl
theorem MY.appN {e o x a b:Syntax} {f t:Int} (hb:Hg e) (hk:e.kind=2) (hm:e.kids=[a,b]) (h1:MY false o a) (h2:MY false x b):MY false (Go.Abs.appN o x f t) e:=by
 obtain ⟨e1,e2,e3,e4⟩:=hb.app hk
 refine .mk hk.symm e1.symm e2.symm e3.symm e4.symm (fun h=>by cases h) (by rw[hm];rfl) fun i i1 i2=> ?_
 have i1':i<2:=i1
 simp only[hm]
 match i,i1' with
 |0,_=>exact h1
 |1,_=>exact h2
inductive Wo {α β:Type} (R:α→β→Prop):List α→List β→Prop
 |nil:Wo R [] []
 |cons {a b xs ys}:R a b→Wo R xs ys→Wo R (a::xs) (b::ys)
theorem MY.fold (f t:Int): ∀e:Syntax,Hg e→ ∀ (h:Syntax) (l:List Syntax),MY false h (s8 e).1→Wo (MY false) l (s8 e).2→MY false (Kl h l f t) e:=by
 intro e
 induction e using Syntax.ind with
 |h e ih=>
  intro hb h l h1 h2
  cases hk:Gi e with
  |none=>
   rw[Dr hk] at h1 h2
   cases h2
   exact h1
  |some p=>
   obtain ⟨a,b⟩:=p
   rw[Ds hk] at h1 h2
   have hm:=(BX hk).2
   obtain ⟨l1,l2,a1,a2,rfl⟩: ∃l1 l2,Wo (MY false) l1 (s8 a).2∧Wo (MY false) l2 [b]∧l=l1++l2:=by
    generalize (s8 a).2=m at h2
    induction m generalizing l with
    |nil=>exact ⟨[],l,.nil,h2,rfl⟩
    |cons y m ih=>
     cases h2 with
     |cons hh ht=>
      obtain ⟨l1,l2,b1,b2,rfl⟩:=ih _ ht
      exact ⟨_::l1,l2,.cons hh b1,b2,rfl⟩
   cases a2 with
   |cons hh ht=>
    cases ht
    rw[foldA_snoc]
    exact MY.appN hb (BX hk).1 hm (ih a (by rw[hm];simp) (hb.kids a (by rw[hm];simp)) h l1 h1 a1) hh
theorem App.alk {T:List Notation} {e:Syntax} {n:Notation} {l l':List Syntax} (A:App T e n l) (hb:Hg e) (f t:Int) (h:Wo (MY false) l' l):MY false (Eh n l' f t) e:=by
 have hs:=(LG (fun e h=>h.kids) e hb).1
 obtain ⟨n1,n2⟩:=hs.name A.kind
 refine MY.fold f t e hb _ _ ?_ (by rw[A.ops];exact h)
 refine .mk A.kind.symm A.text.symm A.num.symm n1.symm A.levels.symm (fun h=>by cases h) (by rw[n2];rfl) fun i i1 _=> ?_
 exact absurd i1 (Nat.not_lt_zero _)
def Bl (T:List Notation) (R:List Syntax):Option Notation:=
 match Hv R with
 |none=>none
 |some s=>uS T s true
theorem U2 {T:List Notation} {m has:Int} {R:List Syntax} (h: ∀n,Bl T R=some n→n.level<m):Qy T m has R=none:=by
 unfold Qy
 unfold Bl at h
 split
 ·rfl
 ·rename_i s hs
  rw[hs] at h
  simp only at h
  split
  ·rfl
  ·rename_i n hn
   rw[decide_eq_true (h n hn),ku];rfl
def hasT (T:List Notation) (e:Syntax):Int:=
 match uZ T e with
 |none=>101
 |some (m,_)=>bif zW m||FO m then m.level else 101
def XOK (T:List Notation) (e:Syntax) (out:List Syntax):Prop:=
 ∀ (p:Int) (R:List Syntax),(∀m l,uZ T e=some (m,l)→(zW m||FO m)=true→p≤m.level)→(∀n',Bl T R=some n'→n'.level<xP T e)→
   ∃e',MY false e' e∧ ∀o,Ei T (.loop p e' (hasT T e) R) o→Ei T (.level p (out++R)) o
theorem NW {n:Notation} (k:Ok n) (i:Nat):u9 n i≤101:=by
 unfold u9
 have:=k.hi
 cases decide (0<i)&&decide (i<n.parts.length-1) with
 |true=>simp
 |false=>
  simp only[cond_false]
  cases (Lc n&&(decide (i=0)&& !(n.assoc==1)))||(Lc n&&(decide (0<i)&& !(n.assoc==2))) with
  |true=>simp only[cond_true];omega
  |false=>simp only[cond_false];omega
theorem holeT_zero {n:Notation}:n.level≤u9 n 0:=by
 unfold u9
 cases (Lc n&&(decide (0=0)&& !(n.assoc==1)))||(Lc n&&(decide (0<0)&& !(n.assoc==2)))<;>simp<;>omega
theorem apartH_has {T:List Notation} (g:Jv T) {n:Notation} (hn:n∈T) {i:Nat} {x:Syntax} (h:BY T n i x=true):u9 n i≤hasT T x:=by
 unfold BY at h
 unfold hasT
 split at h
 ·exact absurd h (by simp)
 ·rename_i m l ha
  have:=NW (g.ok hn) i
  cases hlr:zW m||FO m with
  |false=>simpa using this
  |true=>
   rw[hlr,j9,Bool.not_eq_true',decide_eq_false_iff_not] at h
   simp only[cond_true];omega
theorem Sy {T:List Notation} {n:Notation} {i:Nat} {x:Syntax} (h:BY T n i x=true): ∀m l,uZ T x=some (m,l)→(zW m||FO m)=true→u9 n i≤m.level:=by
 intro m l ha hlr
 unfold BY at h
 rw[ha] at h
 simp only at h
 rw[hlr,j9,Bool.not_eq_true',decide_eq_false_iff_not] at h
 omega
theorem Sz {T:List Notation} (g:Jv T) {n:Notation} (hn:n∈T): ∀ (ps:List Str) (i:Nat) (l:List Syntax) (out R:List Syntax) (ops:List Syntax) (e:Int),
 ps=n.parts.drop i→(0<i∨zW n=false)→ps.countP (· ==[])=l.length→(∀x∈l,FK x∧ ∀o,Kv T (.expr x) o→XOK T x o)→Kv T (.parts n ps i l) out→
 (∀n',Bl T R=some n'→FO n=true→n'.level<u9 n (xJ n)∧ ∀x,l.getLast?=some x→BY T n (xJ n) x=true→n'.level<xP T x)→
 ∃l' e',Wo (MY false) l' l∧Ei T (.parts n ps i ops e (out++R)) (.ops (ops++l') e' R):=by
 have kn:=g.ok hn
 intro ps
 induction ps with
 |nil=>
  intro i l out R ops e hp hi hc hl hprn hR
  have:l=[]:=kO.1 (by simpa using hc.symm)
  subst this
  cases hprn
  refine ⟨[],e,.nil,?_⟩
  rw[kZ];exact .G8
 |cons s ps ih=>
  intro i l out R ops e hp hi hc hl hprn hR
  have hps:ps=n.parts.drop (i+1):=by rw[←lB,←hp];rfl
  have hlen:i<n.parts.length:=by
   have:=congrArg kV hp
   rw[kf,kA] at this
   omega
  have qb:n.parts.getD i []=s:=by
   have:=congrArg List.head? hp
   rw[lU] at this
   rw[kP,←this];rfl
  cases hprn with
  |sym hs hprn=>
   rename_i o
   have M6:ps.countP (· ==[])=l.length:=by rw[kR] at hc;simpa [hs] using hc
   obtain ⟨l',e',h1,h2⟩:=ih (i+1) l o R ops (Ug s).to hps (.inl (by omega)) M6 hl hprn hR
   exact ⟨l',e',h1,.sym hs rfl rfl h2⟩
  |apart hap h1 h2=>
   rename_i x l o1 o2
   have M6:ps.countP (· ==[])=l.length:=by rw[kR] at hc;simpa using hc
   obtain ⟨hx1,F7⟩:=hl x kS
   have hH:BY T n i x=true:=by unfold Hf at hap;rw[kJ] at hap;exact hap.1
   have next: ∀n',Bl T (o2++R)=some n'→n'.level<u9 n i∧n'.level<xP T x:=by
    intro n' hn'
    match hps2:ps with
    |[]=>
     cases h2
     rw[k4] at hn'
     have L6:i=xJ n:=by
      have:=congrArg kV hps
      rw[kC,kA] at this
      unfold xJ;omega
     have hr:FO n=true:=by
      unfold FO
      rw[show n.parts.length-1=i from by rw[L6];rfl,qb];rfl
     have hl0:l=[]:=kO.1 (by simpa using M6.symm)
     subst hl0
     obtain ⟨a,b⟩:=hR n' hn' hr
     rw[L6]
     rw[L6] at hH
     exact ⟨a,b x rfl hH⟩
    |s2::ps2=>
     have hs2:n.parts.getD (i+1) []=s2:=by
      have:=congrArg List.head? hps
      rw[lU] at this
      rw[kP,←this];rfl
     have W3:i+1<n.parts.length:=by
      have:=congrArg kV hps
      rw[kf,kA] at this
      omega
     have hne:s2≠[]:=by rw[←hs2];exact NU kn.adj W3 qb
     have hin:s2∈q7 n:=by
      unfold q7
      cases hlf:zW n with
      |true=>
       rw[cond_true]
       have:0<i:=by rcases hi with h|h;exact h;rw[hlf] at h;cases h
       have:s2∈n.parts.drop (i+1):=by rw[←hps];simp
       rw[show i+1=2+(i-1) from by omega,←lB] at this
       exact k6 this
      |false=>
       rw[cond_false]
       have:s2∈n.parts.drop (i+1):=by rw[←hps];simp
       rw[show i+1=1+i from by omega,←lB] at this
       exact k6 this
     have:Bl T (o2++R)=none:=by
      cases h2 with
      |sym _ _=>unfold Bl;rw[k7,LF rfl];exact PV g hn hin
      |apart _ _ _=>exact absurd rfl hne
      |whole _ _=>exact absurd rfl hne
     rw[this] at hn';cases hn'
   obtain ⟨x',hal,hrun⟩:=F7 o1 h1 (u9 n i) (o2++R) (Sy hH) fun n' hn'=>(next n' hn').2
   have hlv:=hrun _ (.stop (U2 fun n' hn'=>(next n' hn').1))
   obtain ⟨l',e',g1,g2⟩:=ih (i+1) l o2 R (ops++[x']) x'.to hps (.inl (by omega)) M6 (fun y hy=>hl y (kW _ hy)) h2 (fun n' hn' hr=>by
    obtain ⟨a,b⟩:=hR n' hn' hr
    refine ⟨a,fun y hy=>b y ?_⟩
    rw[ld,hy];rfl)
   refine ⟨x'::l',e',.cons hal g1,?_⟩
   rw[kL]
   refine .hole hlv ?_
   rwa [kL] at g2
  |whole hap h2=>
   rename_i x l o2
   have M6:ps.countP (· ==[])=l.length:=by rw[kR] at hc;simpa using hc
   obtain ⟨hx1,F7⟩:=hl x kS
   have next: ∀n',Bl T (o2++R)=some n'→n'.level<u9 n i:=by
    intro n' hn'
    match hps2:ps with
    |[]=>
     cases h2
     rw[k4] at hn'
     have L6:i=xJ n:=by
      have:=congrArg kV hps
      rw[kC,kA] at this
      unfold xJ;omega
     have hr:FO n=true:=by
      unfold FO
      rw[show n.parts.length-1=i from by rw[L6];rfl,qb];rfl
     rw[L6]
     exact (hR n' hn' hr).1
    |s2::ps2=>
     have hs2:n.parts.getD (i+1) []=s2:=by
      have:=congrArg List.head? hps
      rw[lU] at this
      rw[kP,←this];rfl
     have W3:i+1<n.parts.length:=by
      have:=congrArg kV hps
      rw[kf,kA] at this
      omega
     have hne:s2≠[]:=by rw[←hs2];exact NU kn.adj W3 qb
     have hin:s2∈q7 n:=by
      unfold q7
      cases hlf:zW n with
      |true=>
       rw[cond_true]
       have:0<i:=by rcases hi with h|h;exact h;rw[hlf] at h;cases h
       have:s2∈n.parts.drop (i+1):=by rw[←hps];simp
       rw[show i+1=2+(i-1) from by omega,←lB] at this
       exact k6 this
      |false=>
       rw[cond_false]
       have:s2∈n.parts.drop (i+1):=by rw[←hps];simp
       rw[show i+1=1+i from by omega,←lB] at this
       exact k6 this
     have:Bl T (o2++R)=none:=by
      cases h2 with
      |sym _ _=>unfold Bl;rw[k7,LF rfl];exact PV g hn hin
      |apart _ _ _=>exact absurd rfl hne
      |whole _ _=>exact absurd rfl hne
     rw[this] at hn';cases hn'
   have hlv:Ei T (.level (u9 n i) (x::(o2++R))) (.val x 101 (o2++R)):= .level (.Ce hx1.kind) (.stop (U2 next))
   obtain ⟨l',e',g1,g2⟩:=ih (i+1) l o2 R (ops++[x]) x.to hps (.inl (by omega)) M6 (fun y hy=>hl y (kW _ hy)) h2 (fun n' hn' hr=>by
    obtain ⟨a,b⟩:=hR n' hn' hr
    refine ⟨a,fun y hy=>b y ?_⟩
    rw[ld,hy];rfl)
   refine ⟨x::l',e',.cons (MY.refl _ _) g1,?_⟩
   refine .hole hlv ?_
   rwa [kL] at g2
theorem trail_ops {T:List Notation} {e:Syntax} {n:Notation} {l:List Syntax} (ha:uZ T e=some (n,l)) (R:List Syntax) (h: ∀n',Bl T R=some n'→n'.level<xP T e):
 ∀n',Bl T R=some n'→FO n=true→ ∀x,l.getLast?=some x→n'.level<u9 n (xJ n)∧(BY T n (xJ n) x=true→n'.level<xP T x):=by
 intro n' hn' hr x hx
 have:=h n' hn'
 rw[Ic ha hr hx] at this
 cases hA:BY T n (xJ n) x with
 |false=>rw[hA,cond_false] at this;exact ⟨this,fun h=>by cases h⟩
 |true=>rw[hA,cond_true] at this;exact ⟨by omega,fun _=>by omega⟩
theorem U3 {n:Notation} (k:Ok n) (hr:FO n=true):1≤n.parts.countP (· ==[]):=by
 have:[]∈n.parts:=by
  unfold FO at hr
  have h:=beq_iff_eq.1 hr
  have hp:=k.pos
  rw[kP,lS (by omega)] at h
  have h:n.parts[n.parts.length-1]'(by omega)=[]:=by simpa using h
  rw[←h];exact kg _
 exact List.countP_pos_iff.2 ⟨[],this,rfl⟩
theorem expr_back {T:List Notation} (g:Jv T): ∀ (k:Nat) (e:Syntax),kB e≤k→FK e→Hg e→ ∀out,Kv T (.expr e) out→XOK T e out:=by
 intro k
 induction k with
 |zero=>intro e he;cases e;simp only[Syntax.mk.sizeOf_spec] at he;omega
 |succ k ih=>
  intro e he hns hba out hprn p R hp hR
  cases hprn with
  |leaf ha=>
   refine ⟨e,MY.refl _ _,fun o ho=> ?_⟩
   unfold hasT at ho
   rw[ha] at ho
   exact .level (.Ce hns.kind) ho
  |app ha U4=>
   rename_i n l
   have A:=tZ ha
   have kn:=g.ok A.mem
   have hT:=trail_ops ha R hR
   have hH:hasT T e=bif zW n||FO n then n.level else 101:=by unfold hasT;rw[ha]
   have hsub: ∀x∈l,FK x∧Hg x∧ ∀o,Kv T (.expr x) o→XOK T x o:=by
    intro x hx
    have h1:=(LG (fun e h=>FK.kids h) e hns).2 x (by rw[A.ops];exact hx)
    have h2:=(LG (fun e h=>Hg.kids h) e hba).2 x (by rw[A.ops];exact hx)
    exact ⟨h1,h2,fun o ho=>ih x (by have:=A.size x hx;omega) h1 h2 o ho⟩
   have hlst:FO n=true→ ∃x,l.getLast?=some x:=by
    intro hr
    have:=U3 kn hr
    have hh:=A.holes
    unfold F4 at hh
    rw[hh] at this
    cases hl:l.getLast? with
    |none=>rw[List.getLast?_eq_none_iff] at hl;rw[hl] at this;simp at this
    |some x=>exact ⟨x,rfl⟩
   cases hlf:zW n with
   |false=>
    obtain ⟨l',e',h1,h2⟩:=Sz g A.mem n.parts 0 l out R [] 0 (by rw[kH]) (.inr hlf) A.holes (fun x hx=>⟨(hsub x hx).1,(hsub x hx).2.2⟩) U4 (fun n' hn' hr=>by
     obtain ⟨x,hx⟩:=hlst hr
     refine ⟨(hT n' hn' hr x hx).1,fun y hy=> ?_⟩
     rw[hx] at hy;cases hy
     exact (hT n' hn' hr x hx).2)
    rw[k4] at h2
    have hpt:=PX kn hlf
    obtain ⟨o',rfl⟩: ∃o',out=Ug (qa n)::o':=by
     rw[hpt] at U4
     obtain ⟨o',h,_⟩:=U4.ofSym kn.head_ne
     exact ⟨o',h⟩
    refine ⟨Eh n l' (Ug (qa n)).from_ e',A.alk hba _ _ h1,fun o ho=> ?_⟩
    rw[hH,hlf,ke] at ho
    have hb:Uf T p (Ug (qa n))=some n:=by
     unfold Uf
     rw[show (Ug (qa n)).text=qa n from rfl,←hlf,Bd g A.mem]
     simp only
     cases hr:FO n with
     |false=>rfl
     |true=>
      have:=hp n l ha (by rw[hr,lg])
      rw[j9,decide_eq_false (by omega)];rfl
    exact .level (.first rfl hb h2) ho
   |true=>
    have hpt:=Sw kn hlf
    have hd:n.parts.drop 1=qa n::n.parts.drop 2:=by conv=>lhs;rw[hpt]
                                                    rfl
    have hh:=A.holes
    unfold F4 at hh
    have YM:p≤n.level:=hp n l ha (by rw[hlf,ku])
    have tail: ∀ (x0 x0':Syntax) (l2 o2:List Syntax),l=x0::l2→Kv T (.parts n (n.parts.drop 1) 1 l2) o2→MY false x0' x0→
     ∃l' e',Wo (MY false) (x0'::l') l∧Ei T (.parts n (n.parts.drop 1) 1 [x0'] 0 (o2++R)) (.ops (x0'::l') e' R)∧Bl T (o2++R)=some n∧Hv (o2++R)=some (qa n):=by
     intro x0 x0' l2 o2 hl hpr2 hal
     have hc2:(n.parts.drop 1).countP (· ==[])=l2.length:=by
      rw[hpt,kR,hl,kf] at hh
      rw[hd];simpa using hh
     obtain ⟨l',e',h1,h2⟩:=Sz g A.mem (n.parts.drop 1) 1 l2 o2 R [x0'] 0 rfl (.inl (by omega)) hc2 (fun x hx=>by
      have:=hsub x (by rw[hl];exact kW _ hx)
      exact ⟨this.1,this.2.2⟩) hpr2 (fun n' hn' hr=>by
      obtain ⟨x,hx⟩:=hlst hr
      refine ⟨(hT n' hn' hr x hx).1,fun y hy=> ?_⟩
      rw[hl,ld,hy] at hx
      cases hx
      exact (hT n' hn' hr _ (by rw[hl,ld,hy];rfl)).2)
     have hsy:Hv (o2++R)=some (qa n):=by
      rw[hd] at hpr2
      obtain ⟨o',h,_⟩:=hpr2.ofSym kn.head_ne
      rw[h,k7,LF rfl];rfl
     refine ⟨l',e',by rw[hl];exact .cons hal h1,h2,?_,hsy⟩
     unfold Bl
     rw[hsy]
     simp only
     rw[←hlf,Bd g A.mem]
    have go: ∀ (out':Syntax) (has:Int) (R':List Syntax),Bl T R'=some n→Hv R'=some (qa n)→u9 n 0≤has→Qy T p has R'=some n:=by
     intro out' has R' hc hs hle
     unfold Qy
     unfold Bl at hc
     rw[hs] at hc ⊢
     simp only at hc ⊢
     rw[hc]
     simp only
     rw[decide_eq_false (by omega),decide_eq_false (by omega)];rfl
    rw[hpt] at U4
    cases U4 with
    |sym hs _=>exact absurd rfl hs
    |apart hap h1 h2=>
     rename_i x l2 o1 o2
     rw[←hd] at h2
     have hx:=hsub x kS
     unfold Hf at hap
     simp only[kJ,Bool.or_eq_true,decide_eq_true_eq] at hap
     have Q4: ∀m l,uZ T x=some (m,l)→(zW m||FO m)=true→p≤m.level:=fun m l hm hlr=>by
      have:=Sy hap.1 m l hm hlr
      have:=holeT_zero (n:=n)
      omega
     have hcont:Bl T (o2++R)=some n:=by
      obtain ⟨_,_,_,_,hc,_⟩:=tail x x l2 o2 rfl h2 (MY.refl _ _)
      exact hc
     obtain ⟨x',hal,hrun⟩:=hx.2.2 o1 h1 p (o2++R) Q4 (fun n' hn'=>by
      rw[hcont] at hn';cases hn'
      rcases hap.2 with h|h
      ·omega
      ·exact h)
     obtain ⟨l',e',f1,f2,f3,f4⟩:=tail x x' l2 o2 rfl h2 hal
     refine ⟨Eh n (x'::l') x'.from_ e',A.alk hba _ _ f1,fun o ho=> ?_⟩
     rw[hH,hlf,ku,cond_true] at ho
     rw[kL]
     exact hrun o (.go (go x' _ _ f3 f4 (apartH_has g A.mem hap.1)) f2 ho)
    |whole hap h2=>
     rename_i x l2 o2
     rw[←hd] at h2
     have hx:=hsub x kS
     obtain ⟨l',e',f1,f2,f3,f4⟩:=tail x x l2 o2 rfl h2 (MY.refl _ _)
     refine ⟨Eh n (x::l') x.from_ e',A.alk hba _ _ f1,fun o ho=> ?_⟩
     rw[hH,hlf,ku,cond_true] at ho
     exact .level (.Ce hx.1.kind) (.go (go x _ _ f3 f4 (NW kn 0)) f2 ho)
theorem back {T:List Notation} (g:Jv T) {e:Syntax} (h1:FK e) (h2:Hg e) {out:List Syntax} (h:Kv T (.expr e) out): ∃x hh,MY false x e∧Ei T (.level 0 out) (.val x hh []):=by
 obtain ⟨x,ha,hr⟩:=expr_back g _ e (kF _) h1 h2 out h 0 [] (fun m l hm _=>(g.ok (tZ hm).mem).lo) (fun n' hn'=>by simp [Bl,Hv] at hn')
 have:=hr _ (.stop rfl)
 rw[kZ] at this
 exact ⟨x,_,ha,this⟩
end Go.Abs
namespace Go.Abs
def Pl:Nat→List Syntax→Prop
 |_,[]=>True
 |i,y::r=>(y.kind=17∨y.kind=12)∧y.from_=10*(i:Int)+1∧y.to=10*(i:Int)+9∧Pl (i+1) r
def opsOf (r:List Syntax):List Syntax:=r.filter fun y=> !(y.kind==17)
def SA (a:List Syntax):Prop:= ∀y∈a,y.kind=12
theorem Pl.ops: ∀ {i:Nat} {r:List Syntax},Pl i r→SA (opsOf r)
 |_,[],_=>fun y hy=>by simp [opsOf] at hy
 |i,x::r,h=>by
  intro y hy
  unfold opsOf at hy
  rw[List.mem_filter] at hy
  rcases lV.1 hy.1 with e|e
  ·subst e
   rcases h.1 with k|k
   ·have:=hy.2;rw[k] at this;exact absurd this (by decide)
   ·exact k
  ·exact Pl.ops h.2.2.2 y (List.mem_filter.2 ⟨e,hy.2⟩)
inductive Fr:Syntax→List Syntax→List Syntax→Prop
 |leaf {e b}:Fr e (e::b) b
 |name {e a}:SA a→e.kind=0→Fr e a a
 |app {e x y a b c}:SA a→e.kind=2→e.kids=[x,y]→Fr x a b→Fr y b c→Fr e a c
inductive FrL:List Syntax→List Syntax→List Syntax→Prop
 |nil {a}:FrL [] a a
 |cons {x xs a b c}:SA a→Fr x a b→FrL xs b c→FrL (x::xs) a c
theorem Fr.fold {l:List Syntax} {b c:List Syntax} (h:FrL l b c): ∀ {o:Syntax} {a:List Syntax} (f t:Int),SA a→Fr o a b→Fr (Kl o l f t) a c:=by
 induction h with
 |nil=>intro o a f t _ ho;exact ho
 |cons hn hx _ ih=>intro o a f t ha ho;exact ih f t ha (.app ha rfl rfl ho hx)
theorem Fr.apply {n:Notation} {l:List Syntax} {a c:List Syntax} (h:FrL l a c) (ha:SA a) (f t:Int):Fr (Eh n l f t) a c:=
 Fr.fold h f t ha (.name ha rfl)
theorem NX (f t:Int): ∀ (l:List Syntax) (o:Syntax),o.from_=f→o.to=t→(Kl o l f t).from_=f∧(Kl o l f t).to=t
 |[],_,h1,h2=>⟨h1,h2⟩
 |x::l,o,_,_=>NX f t l (appN o x f t) rfl rfl
theorem ME (n:Notation) (l:List Syntax) (f t:Int):(Eh n l f t).from_=f∧(Eh n l f t).to=t:=NX f t l _ rfl rfl
theorem U5 {y:Syntax} {r:List Syntax} (h:y.kind=17):opsOf (y::r)=opsOf r:=by
 unfold opsOf;rw[List.filter_cons];simp [h]
theorem opsOf_item {y:Syntax} {r:List Syntax} (h:y.kind≠17):opsOf (y::r)=y::opsOf r:=by
 unfold opsOf;rw[List.filter_cons];simp [h]
def Ord (i:Nat):O3→Out→Prop
 | .parts n ps _ ops e r,.ops l e' q=> ∃j new,Pl j q∧j+q.length=i+r.length∧l=ops++new∧FrL new (opsOf r) (opsOf q)∧(ps=[]→e'=e)∧(ps≠[]→e'=10*(j:Int)-1)
 | .first _ r,.val x _ q=> ∃j,Pl j q∧j+q.length=i+r.length∧Fr x (opsOf r) (opsOf q)∧x.from_=10*(i:Int)+1∧x.to=10*(j:Int)-1
 | .level _ r,.val x _ q=> ∃j,Pl j q∧j+q.length=i+r.length∧Fr x (opsOf r) (opsOf q)∧x.from_=10*(i:Int)+1∧x.to=10*(j:Int)-1
 | .loop _ out _ r,.val x _ q=> ∀a,SA a→Fr out a (opsOf r)→out.to=10*(i:Int)-1→ ∃j,Pl j q∧j+q.length=i+r.length∧Fr x a (opsOf q)∧x.from_=out.from_∧x.to=10*(j:Int)-1
 |_,_=>True
theorem drop1_ne {T:List Notation} (g:Jv T) {n:Notation} (hn:n∈T) (hl:zW n=true):n.parts.drop 1≠[]:=by
 have:=(g.ok hn).UZ hl
 intro h
 have:=congrArg kV h
 rw[kA,kC] at this
 omega
theorem Ei.ord {T:List Notation} (g:Jv T) {c:O3} {o:Out} (h:Ei T c o): ∀i,Pl i c.rest→Ord i c o:=by
 induction h with
 |G8=>
  intro i hp
  exact ⟨i,[],hp,rfl,(kZ _).symm,.nil,fun _=>rfl,fun h=>absurd rfl h⟩
 |LB _ _=>intro i _;trivial
 | @hole n ps k ops e r x h q o h1 h2 ih1 ih2=>
   intro i hp
   obtain ⟨j,j1,j2,j3,j4,j5⟩:=ih1 i hp
   rcases LC h2 with ⟨q',rfl⟩|⟨l,e',q',rfl⟩
   ·trivial
   ·obtain ⟨j',new,a1,a2,a3,a4,a5,a6⟩:=ih2 j j1
    simp only[O3.rest] at hp
    refine ⟨j',x::new,a1,by omega,by rw[a3,kL];rfl,.cons hp.ops j3 a4,fun h=>(by cases h),fun _=> ?_⟩
    by_cases hps:ps=[]
    ·subst hps
     rw[a5 rfl,j5]
     cases h2
     omega
    ·exact a6 hps
 |O4 _ _=>intro i _;trivial
 | @sym n s ps k ops e y r o hs hk17 ht h2 ih=>
   intro i hp
   simp only[O3.rest] at hp ih
   rcases LC h2 with ⟨q',rfl⟩|⟨l,e',q',rfl⟩
   ·trivial
   ·obtain ⟨j',new,a1,a2,a3,a4,a5,a6⟩:=ih (i+1) hp.2.2.2
    refine ⟨j',new,a1,by rw[kf];omega,a3,by rw[U5 hk17];exact a4,fun h=>by (cases h),fun _=> ?_⟩
    by_cases hps:ps=[]
    ·subst hps
     rw[a5 rfl,hp.2.2.1]
     cases h2
     omega
    ·exact a6 hps
 |G9=>intro i _;trivial
 | @Ce m x r hx=>
   intro i hp
   simp only[O3.rest] at hp
   refine ⟨i+1,hp.2.2.2,by rw[kf];omega,by rw[opsOf_item hx];exact .leaf,hp.2.1,?_⟩
   rw[hp.2.2.1];omega
 |Gt _ _=>intro i _;trivial
 |Jr _ _ _ _=>intro i _;trivial
 | @first m x r n l e q hx hb h1 ih=>
   intro i hp
   simp only[O3.rest] at hp ih
   obtain ⟨j,new,a1,a2,a3,a4,a5,a6⟩:=ih i hp
   rw[k4] at a3
   subst a3
   obtain ⟨p1,p2⟩:=ME n l x.from_ e
   have hne:n.parts≠[]:=by
    have:=(g.ok (Gu hb).1).pos
    intro h;rw[h] at this;simp at this
   exact ⟨j,a1,a2,Fr.apply a4 (Pl.ops hp) _ _,by rw[p1,hp.2.1],by rw[p2,a6 hne]⟩
 |stop _=>
  intro i hp a ha hf ht
  exact ⟨i,hp,rfl,hf,rfl,ht⟩
 |U0 _ _ _=>intro i _;trivial
 | @go m out has r n l e q o hg h1 h2 ih1 ih2=>
   intro i hp
   simp only[O3.rest] at hp ih1 ih2
   obtain ⟨hn,hl,_,_,_⟩:=Gv hg
   rcases LD h2 rfl with ⟨q',rfl⟩|⟨x,h,q',rfl⟩
   ·trivial
   ·intro a ha hf ht
    obtain ⟨j,new,a1,a2,a3,a4,a5,a6⟩:=ih1 i hp
    have hfl:FrL l a (opsOf q):=by
     rw[a3]
     exact .cons ha hf a4
    obtain ⟨p1,p2⟩:=ME n l out.from_ e
    obtain ⟨j',b1,b2,b3,b4,b5⟩:=ih2 j a1 a ha (Fr.apply hfl ha _ _) (by rw[p2,a6 (drop1_ne g hn hl)])
    exact ⟨j',b1,by omega,b3,by rw[b4,p1],b5⟩
 |He _ _=>intro i _;trivial
 | @level m r x h q o h1 h2 ih1 ih2=>
   intro i hp
   simp only[O3.rest] at hp ih1 ih2
   rcases LD h2 rfl with ⟨q',rfl⟩|⟨x',h',q',rfl⟩
   ·trivial
   ·obtain ⟨j,a1,a2,a3,a4,a5⟩:=ih1 i hp
    obtain ⟨j',b1,b2,b3,b4,b5⟩:=ih2 j a1 (opsOf r) (Pl.ops hp) a3 a5
    exact ⟨j',b1,by omega,b3,by rw[b4,a4],b5⟩
end Go.Abs
namespace Go.Abs
set_option maxRecDepth 100000
theorem O5 {p:UInt8→Bool} (h:(List.range 256).all (fun n=>p (UInt8.ofNat n))=true) (c:UInt8):p c=true:=by
 have:=List.all_eq_true.1 h c.toNat (List.mem_range.2 c.toNat_lt)
 rwa [UInt8.ofNat_toNat] at this
def O6 (c:UInt8):Int:=bif Ss c then 1 else bif Wl c then 2 else bif c==34 then 3 else 0
theorem SB (c:UInt8):Ev (fun n=>BF n (c.toNat:Int)) (O6 c):=by
 refine Ev.fn (fun n=>by simp only[BF,Is];exact rfl) ?_
 refine Ev.congr Ev.pure (fun _=> ?_)
 have:=O5 (p:=fun c=>decide ((bif decide (97≤(c.toNat:Int)) then
  bif decide ((c.toNat:Int)≤122) then some 1
  else
   bif decide (65≤(c.toNat:Int)) then
    bif decide ((c.toNat:Int)≤90) then some 1
    else
     bif (c.toNat:Int)==95 then some 1
     else
      bif decide (48≤(c.toNat:Int)) then bif decide ((c.toNat:Int)≤57) then some 2 else bif (c.toNat:Int)==34 then some 3 else some 0
      else bif (c.toNat:Int)==34 then some 3 else some 0
   else
    bif (c.toNat:Int)==95 then some 1
    else
     bif decide (48≤(c.toNat:Int)) then bif decide ((c.toNat:Int)≤57) then some 2 else bif (c.toNat:Int)==34 then some 3 else some 0
     else bif (c.toNat:Int)==34 then some 3 else some 0
  else
   bif decide (65≤(c.toNat:Int)) then
    bif decide ((c.toNat:Int)≤90) then some 1
    else
     bif (c.toNat:Int)==95 then some 1
     else
      bif decide (48≤(c.toNat:Int)) then bif decide ((c.toNat:Int)≤57) then some 2 else bif (c.toNat:Int)==34 then some 3 else some 0
      else bif (c.toNat:Int)==34 then some 3 else some 0
   else
    bif (c.toNat:Int)==95 then some 1
    else
     bif decide (48≤(c.toNat:Int)) then bif decide ((c.toNat:Int)≤57) then some 2 else bif (c.toNat:Int)==34 then some 3 else some 0
     else bif (c.toNat:Int)==34 then some 3 else some 0)=some (O6 c))) (by kernel_rfl) c
 exact of_decide_eq_true this
theorem letter_ev (c:UInt8):Ev (fun n=>DI n (c.toNat:Int)) (letB c):=by
 refine Ev.fn (fun n=>by simp only[DI,GK];exact rfl) ?_
 refine Ev.congr Ev.pure (fun _=> ?_)
 have:=O5 (p:=fun c=>decide ((bif decide (97≤(c.toNat:Int)) then
  bif decide ((c.toNat:Int)≤122) then some true else bif decide (65≤(c.toNat:Int)) then some (decide ((c.toNat:Int)≤90)) else some false
  else bif decide (65≤(c.toNat:Int)) then some (decide ((c.toNat:Int)≤90)) else some false)=some (letB c))) (by kernel_rfl) c
 exact of_decide_eq_true this
theorem Js (c:UInt8) (k:Nat) (hk:k<256):((c.toNat:Int)==(k:Int))=(c==UInt8.ofNat k):=by
 rw[kI,beq_iff_eq,beq_iff_eq]
 constructor
 ·intro h
  have h:c.toNat=k:=by omega
  rw[←h,UInt8.ofNat_toNat]
 ·rintro rfl
  simp [UInt8.toNat_ofNat,Nat.mod_eq_of_lt hk]
theorem O7 (c:UInt8):Ev (fun n=>AM n (c.toNat:Int)) (Ss c):=by
 refine Ev.fn (fun n=>by simp only[AM,GP];exact rfl) ?_
 refine Ev.bind (letter_ev c) ?_
 unfold Ss
 cases letB c with
 |true=>exact Ev.pure
 |false=>
  simp only[cond_false,ke]
  rw[show ((c.toNat:Int)==95)=(c==95) from Js c 95 (by decide)]
  exact Ev.pure
theorem YN (c:UInt8):Ev (fun n=>FC n (c.toNat:Int)) (Wl c):=by
 refine Ev.fn (fun n=>by simp only[FC,Iy];exact rfl) ?_
 refine Ev.congr Ev.pure (fun _=> ?_)
 have:=O5 (p:=fun c=>decide ((bif decide (48≤(c.toNat:Int)) then some (decide ((c.toNat:Int)≤57)) else some false)=some (Wl c))) (by kernel_rfl) c
 exact of_decide_eq_true this
theorem U6 (c:UInt8):(O6 c==1)=Ss c:=by unfold O6;cases Ss c<;>cases Wl c<;>cases (c==34)<;>rfl
theorem class_two (c:UInt8):(O6 c==2)=Wl c:=by
 have:=O5 (p:=fun c=>(O6 c==2)==Wl c) (by kernel_rfl) c
 exact eq_of_beq this
theorem inWord_ev (c:UInt8):Ev (fun n=>DR n (c.toNat:Int)) (St c):=by
 refine Ev.fn (fun n=>by simp only[DR,GO];exact rfl) ?_
 refine Ev.bind (SB c) ?_
 rw[U6]
 unfold St
 cases Ss c with
 |true=>exact Ev.pure
 |false=>
  simp only[cond_false,ke]
  refine Ev.bind (SB c) ?_
  rw[class_two]
  cases Wl c with
  |true=>exact Ev.pure
  |false=>
   simp only[cond_false,ke]
   rw[show ((c.toNat:Int)==39)=(c==39) from Js c 39 (by decide)]
   exact Ev.pure
theorem find_loop {α:Type} [BEq α] [LawfulBEq α] (xs:List α) (v:α) {L:Nat→Nat→Int→Option Bool} (hl:xs.length<4611686018427387904)
 (h: ∀n m k,L n (m+1) k=bif decide (k<(xs.length:Int)) then (xz xs k).bind fun x=>bif x==v then some true else L n m (IntKind.i64.wrap (k+1)) else some false):
 pO (fun n m=>L n m 0) (xs.contains v):=by
 have key: ∀d k:Nat,k+d=xs.length→pO (fun n m=>L n m (k:Int)) ((xs.drop k).contains v):=by
  intro d
  induction d with
  |zero=>
   intro k hk
   refine pO.lp (fun n m=>h n m k) ?_
   have:decide ((k:Int)<(xs.length:Int))=false:=decide_eq_false (by omega)
   simp only[this,cond_false,j8 (show xs.length≤k by omega),lD]
   exact pO.pure
  |succ d ih=>
   intro k hk
   have hlt:k<xs.length:=by omega
   refine pO.lp (fun n m=>h n m k) ?_
   have:decide ((k:Int)<(xs.length:Int))=true:=decide_eq_true (by omega)
   simp only[this,cond_true]
   refine pO.idx hlt ?_
   rw[j7 hlt,kT]
   rw[show (v==xs[k])=(xs[k]==v) from kI.2 ⟨fun h=>by simpa using (beq_iff_eq.1 h).symm,fun h=>by simpa using (beq_iff_eq.1 h).symm⟩]
   cases xs[k]==v with
   |true=>exact pO.pure
   |false=>
    simp only[cond_false,ke]
    rw[nV (by omega)]
    exact ih (k+1) (by omega)
 simpa using key xs.length 0 (by omega)
theorem Uh (s:Str):Ev (fun n=>Cz n s) (kws.contains s):=by
 refine Ev.fn (fun n=>by simp only[Cz,F0];exact rfl) ?_
 exact Ev.Fe (F:=fun n m=>B7 n m s kws 0) (find_loop kws s (by decide) (fun n m k=>by simp only[B7,EK]))
theorem fixed_ev:Ev (fun n=>FD n) Bk:=by
 refine Ev.fn (fun n=>by simp only[FD,Iz];exact rfl) ?_
 exact Ev.pure
theorem fixed_k (k:Nat):FF (k+80)=some Bk:=by kernel_rfl
theorem fixed'_ev:Ev (fun n=>FF n) Bk:=by
 refine ⟨80,fun n hn=> ?_⟩
 obtain ⟨k,rfl⟩: ∃k,n=k+80:=⟨n-80,by omega⟩
 exact fixed_k k
def kwMap:List (Str×Bool):=kws.map fun s=>(s,true)
theorem keywords_k (k:Nat):BL (k+250)=some ((kwMap,()),()):=by kernel_rfl
theorem YO:Ev (fun n=>BL n) ((kwMap,()),()):=by
 refine ⟨250,fun n hn=> ?_⟩
 obtain ⟨k,rfl⟩: ∃k,n=k+250:=⟨n-250,by omega⟩
 exact keywords_k k
theorem SC (s:Str): ∀xs:List Str,(sE s (xs.map fun x=>(x,true))).getD false=xs.contains s
 |[]=>rfl
 |x::xs=>by
  rw[List.map_cons,sE,kT]
  cases s==x with
  |true=>rfl
  |false=>rw[cond_false,ke];exact SC s xs
theorem Keyword_ev (s:Str):Ev (fun n=>CA n s) (kws.contains s):=by
 refine Ev.fn (fun n=>by simp only[CA,F3];exact rfl) ?_
 refine Ev.bind YO ?_
 rw[←SC]
 exact Ev.pure
abbrev big:Nat:=4611686018427387904
theorem drop_cons {s:Str} {k:Nat} (h:k<s.length):s.drop k=s[k]::s.drop (k+1):=j7 h
def runT (p:UInt8→Bool) (r:Str):Nat:=(r.takeWhile p).length
theorem runT_nil (p:UInt8→Bool):runT p []=0:=rfl
theorem U7 (p:UInt8→Bool) (c:UInt8) (r:Str):runT p (c::r)=bif p c then runT p r+1 else 0:=by
 unfold runT;rw[List.takeWhile_cons];cases p c<;>rfl
theorem run_loop {R:Type} {s:Str} (hs:s.length<big) (p:UInt8→Bool) {L:Nat→Nat→Int→Option R} {r:R} {N:Nat}
 (step: ∀k:Nat,∀hk:k<s.length,p s[k]=true→pO (fun n m=>L n m ((k+1:Nat):Int)) r→pO (fun n m=>L n m (k:Int)) r)
 (stop: ∀k:Nat,k≤s.length→(∀hk:k<s.length,p s[k]=false)→k=N→pO (fun n m=>L n m (k:Int)) r):
 ∀k:Nat,k≤s.length→k+runT p (s.drop k)=N→pO (fun n m=>L n m (k:Int)) r:=by
 have key: ∀d k:Nat,k+d=s.length→k+runT p (s.drop k)=N→pO (fun n m=>L n m (k:Int)) r:=by
  intro d
  induction d with
  |zero=>
   intro k hk hN
   rw[j8 (by omega),runT_nil] at hN
   exact stop k (by omega) (fun h=>by omega) (by omega)
  |succ d ih=>
   intro k hk hN
   have hlt:k<s.length:=by omega
   rw[drop_cons hlt,U7] at hN
   cases hp:p s[k] with
   |true=>
    rw[hp,cond_true] at hN
    exact step k hlt hp (ih (k+1) (by omega) (by omega))
   |false=>
    rw[hp,cond_false] at hN
    exact stop k (by omega) (fun _=>hp) (by omega)
 intro k hk hN
 exact key (s.length-k) k (by omega) hN
def compT (r:Str):Nat:=runT St r
theorem Wp (s:Str) (hs:s.length<big) (k:Nat) (hk:k≤s.length):Ev (fun n=>A5 n s (k:Int)) ((k+compT (s.drop k):Nat):Int):=by
 refine Ev.fn (fun n=>by simp only[A5,DZ];exact rfl) ?_
 refine Ev.Fe (F:=fun n m=>wR n m s (k:Int)) ?_
 refine run_loop hs St (L:=fun n m k=>wR n m s k) (N:=k+compT (s.drop k)) ?_ ?_ k hk rfl
 ·intro k hlt hp next
  refine pO.lp (fun n m=>by simp only[wR,AQ];exact rfl) ?_
  have:decide ((k:Int)<(s.length:Int))=true:=decide_eq_true (by omega)
  simp only[this,cond_true]
  refine pO.idx hlt (pO.qH (O7 _) ?_)
  rw[nV (by simp only[big] at hs;omega)]
  unfold St at hp
  cases hb:Ss s[k] with
  |true=>simp only[cond_true];exact next
  |false=>
   simp only[cond_false]
   refine pO.idx hlt (pO.qH (YN _) ?_)
   cases hd:Wl s[k] with
   |true=>simp only[cond_true];exact next
   |false=>
    simp only[cond_false]
    refine pO.idx hlt ?_
    rw[hb,hd,ke,ke] at hp
    rw[show ((s[k].toNat:Int)==39)=(s[k]==39) from Js _ 39 (by decide),hp]
    simp only[cond_true]
    exact next
 ·intro k hle hp hN
  refine pO.lp (fun n m=>by simp only[wR,AQ];exact rfl) ?_
  by_cases hlt:k<s.length
  ·have:decide ((k:Int)<(s.length:Int))=true:=decide_eq_true (by omega)
   have hp:=hp hlt
   unfold St at hp
   simp only[kK] at hp
   obtain ⟨h1,h2,h3⟩:=hp
   simp only[this,cond_true]
   refine pO.idx hlt (pO.qH (O7 _) ?_)
   simp only[h1,cond_false]
   refine pO.idx hlt (pO.qH (YN _) ?_)
   simp only[h2,cond_false]
   refine pO.idx hlt ?_
   rw[show ((s[k].toNat:Int)==39)=(s[k]==39) from Js _ 39 (by decide),h3]
   simp only[cond_false,hN]
   exact pO.pure
  ·have:decide ((k:Int)<(s.length:Int))=false:=decide_eq_false (by omega)
   simp only[this,cond_false]
   rw[hN]
   exact pO.pure
abbrev Kw:Nat:=4294967281
theorem PY (s sub:Str) (h:s.length<Kw):Ev (fun n=>strings_Contains n s sub) (lu s sub):=by
 refine ⟨1,fun n hn=> ?_⟩
 obtain ⟨k,rfl⟩: ∃k,n=k+1:=⟨n-1,by omega⟩
 show (bif decide (s.length<4294967281) then some (lu s sub) else none)=_
 rw[decide_eq_true h];rfl
theorem sign_ev (c:UInt8):Ev (fun n=>GL n (c.toNat:Int)) (NS c):=by
 refine ⟨25,fun n hn=> ?_⟩
 obtain ⟨k,rfl⟩: ∃k,n=k+25:=⟨n-25,by omega⟩
 have:=O5 (p:=fun c=>decide (GL (k+25) (c.toNat:Int)=some (NS c))) (by kernel_rfl) c
 exact of_decide_eq_true this
theorem Ui (c:UInt8):lu signs [c]=NS c:=by
 have:=O5 (p:=fun c=>decide (lu signs [c]=NS c)) (by kernel_rfl) c
 exact of_decide_eq_true this
theorem beq_sw (a b:UInt8):(a==b)=(b==a):=kI.2 ⟨fun h=>by simpa using (beq_iff_eq.1 h).symm,fun h=>by simpa using (beq_iff_eq.1 h).symm⟩
theorem PZ: ∀s:Str,lu s [45,45]=dd s
 |[]=>rfl
 |x::r=>by
  have ih:=PZ r
  have hg:=Lib.index_ge r [45,45]
  unfold lu at ih ⊢
  unfold Lib.index dd
  have hp:([45,45]:List UInt8).isPrefixOf (x::r)=(x==45&&r.head?==some 45):=by
   cases r with
   |nil=>simp [List.isPrefixOf]
   |cons y t=>
    show ((45:UInt8)==x&&((45:UInt8)==y&&([]:List UInt8).isPrefixOf t))=(x==45&&some y==some 45)
    rw[show ([]:List UInt8).isPrefixOf t=true from by cases t<;>rfl,lQ,beq_sw 45 x,beq_sw 45 y]
    rfl
  rw[hp,←ih]
  cases x==45&&r.head?==some 45 with
  |true=>rfl
  |false=>
   simp only[Bool.false_eq_true,if_false,ke]
   by_cases h:Lib.index r [45,45]= -1
   ·rw[h];rfl
   ·have:(Lib.index r [45,45]== -1)=false:=by rw[beq_eq_false_iff_ne];exact h
    rw[this]
    simp only[Bool.false_eq_true,if_false]
    exact decide_eq_decide.2 (by omega)
theorem SD {p:UInt8→Bool} {s:Str} {k:Nat} (h:k<s.length):(s.drop k).all p=(p s[k]&&(s.drop (k+1)).all p):=by
 rw[drop_cons h,lW]
theorem YP (p:UInt8→Bool): ∀r:Str,(runT p r==r.length)=r.all p
 |[]=>rfl
 |x::r=>by
  rw[U7,lW,kf,←YP p r]
  cases p x with
  |true=>simp
  |false=>simp
theorem fixLoop (s:Str):pO (fun n m=>xO n m s Bk ((Bk.length:Nat):Int) 0) (!Bk.contains s||s==[43]):=by
 have key: ∀d k:Nat,k+d=Bk.length→pO (fun n m=>xO n m s Bk ((Bk.length:Nat):Int) (k:Int)) (!(Bk.drop k).contains s||s==[43]):=by
  intro d
  have hle:Bk.length=21:=rfl
  induction d with
  |zero=>
   intro k hk
   refine pO.lp (fun n m=>by simp only[xO,CT];exact rfl) ?_
   have:decide ((k:Int)<((Bk.length:Nat):Int))=false:=decide_eq_false (by omega)
   simp only[this,cond_false]
   rw[j8 (by omega)]
   exact pO.pure
  |succ d ih=>
   intro k hk
   have hlt:k<Bk.length:=by omega
   refine pO.lp (fun n m=>by simp only[xO,CT];exact rfl) ?_
   have:decide ((k:Int)<((Bk.length:Nat):Int))=true:=decide_eq_true (by omega)
   simp only[this,cond_true]
   refine pO.idx hlt ?_
   rw[j7 hlt,kT,show (s==Bk[k])=(Bk[k]==s) from kI.2 ⟨fun h=>by simpa using (beq_iff_eq.1 h).symm,fun h=>by simpa using (beq_iff_eq.1 h).symm⟩]
   cases Bk[k]==s with
   |true=>simp only[cond_true,ku,kD,ke];exact pO.pure
   |false=>
    simp only[cond_false,ke]
    rw[nV (by omega)]
    exact ih (k+1) (by omega)
 exact key Bk.length 0 (by omega)
theorem refFixLoop (s:Str):pO (fun n m=>xN n m s Bk 0) (decide (s.length≤8)&&(!Bk.contains s||s==[43])):=by
 have h8:decide ((s.length:Int)≤8)=decide (s.length≤8):=decide_eq_decide.2 (by omega)
 have key: ∀d k:Nat,k+d=Bk.length→pO (fun n m=>xN n m s Bk (k:Int)) (decide (s.length≤8)&&(!(Bk.drop k).contains s||s==[43])):=by
  intro d
  have hle:Bk.length=21:=rfl
  induction d with
  |zero=>
   intro k hk
   refine pO.lp (fun n m=>by simp only[xN,CR];exact rfl) ?_
   have:decide ((k:Int)<((Bk.length:Nat):Int))=false:=decide_eq_false (by omega)
   simp only[this,cond_false]
   rw[j8 (by omega),h8]
   simp only[lD,kr,ku,lQ]
   exact pO.pure
  |succ d ih=>
   intro k hk
   have hlt:k<Bk.length:=by omega
   refine pO.lp (fun n m=>by simp only[xN,CR];exact rfl) ?_
   have:decide ((k:Int)<((Bk.length:Nat):Int))=true:=decide_eq_true (by omega)
   simp only[this,cond_true]
   refine pO.idx hlt ?_
   rw[j7 hlt,kT,show (s==Bk[k])=(Bk[k]==s) from kI.2 ⟨fun h=>by simpa using (beq_iff_eq.1 h).symm,fun h=>by simpa using (beq_iff_eq.1 h).symm⟩]
   rw[nV (by omega)]
   have next:=ih (k+1) (by omega)
   cases Bk[k]==s with
   |true=>
    simp only[cond_true,ku,kD,ke]
    cases h43:s==[43] with
    |true=>rw[h43] at next;simp only[cond_true,lg] at next ⊢;exact next
    |false=>simp only[cond_false,kX];exact pO.pure
   |false=>
    simp only[cond_false,ke]
    exact next
 exact key Bk.length 0 (by omega)
theorem Symbol_ev (s:Str) (hs:s.length<Kw):Ev (fun n=>D6 n s) (Su s):=by
 refine Ev.fn (fun n=>by simp only[D6,G1];exact rfl) ?_
 simp only[Kw] at hs
 match s with
 |[]=>exact Ev.pure
 |c::t=>
  simp only[show ((c::t)==([]:Str))=false from rfl,cond_false,show xz (c::t) 0=some c from rfl,j6]
  refine Ev.bind (SB c) ?_
  rw[U6,Su]
  have hs':(c::t).length<4294967281:=hs
  generalize hst:c::t=s at*
  cases Ss c with
  |true=>
   simp only[cond_true]
   have key: ∀d k:Nat,k+d=s.length→pO (fun n m=>ze n m s (s.length:Int) (k:Int)) ((s.drop k).all St&&(!(s==[95])&& !kws.contains s)):=by
    intro d
    induction d with
    |zero=>
     intro k hk
     refine pO.lp (fun n m=>by simp only[ze,CV];exact rfl) ?_
     have:decide ((k:Int)<(s.length:Int))=false:=decide_eq_false (by omega)
     simp only[this,cond_false]
     rw[j8 (by omega)]
     simp only[lM,j9]
     cases s==[95] with
     |true=>exact pO.pure
     |false=>
      simp only[cond_false,kr,j9]
      exact pO.qH (Keyword_ev s) pO.pure
    |succ d ih=>
     intro k hk
     have hlt:k<s.length:=by omega
     refine pO.lp (fun n m=>by simp only[ze,CV];exact rfl) ?_
     have:decide ((k:Int)<(s.length:Int))=true:=decide_eq_true (by omega)
     simp only[this,cond_true]
     refine pO.idx hlt (pO.qH (inWord_ev _) ?_)
     rw[SD hlt]
     cases St s[k] with
     |false=>simp only[cond_false,kj];exact pO.pure
     |true=>
      simp only[cond_true,j9]
      rw[nV (by omega)]
      exact ih (k+1) (by omega)
   exact Ev.Fe (F:=fun n m=>ze n m s (s.length:Int) 0) (key s.length 0 (by omega))
  |false=>
   simp only[cond_false]
   have key: ∀d k:Nat,k+d=s.length→pO (fun n m=>zd n m s (s.length:Int) (k:Int)) ((s.drop k).all NS&&(!dd s&&(decide (s.length≤8)&&(!Bk.contains s||s==[43])))):=by
    intro d
    induction d with
    |zero=>
     intro k hk
     refine pO.lp (fun n m=>by simp only[zd,CU];exact rfl) ?_
     have:decide ((k:Int)<(s.length:Int))=false:=decide_eq_false (by omega)
     simp only[this,cond_false]
     rw[j8 (by omega)]
     simp only[lM,j9]
     refine pO.qH (PY s [45,45] hs') ?_
     rw[PZ]
     cases dd s with
     |true=>simp only[cond_true,kD,kj];exact pO.pure
     |false=>
      simp only[cond_false,kr,j9]
      by_cases h8:s.length≤8
      ·have e1:decide ((8:Int)<(s.length:Int))=false:=decide_eq_false (by omega)
       have e2:decide (s.length≤8)=true:=decide_eq_true h8
       simp only[e1,e2,cond_false,j9]
       exact pO.qH fixed'_ev (pO.S7 (Ev.Fe (F:=fun n m=>xO n m s Bk ((Bk.length:Nat):Int) 0) (fixLoop s)))
      ·have e1:decide ((8:Int)<(s.length:Int))=true:=decide_eq_true (by omega)
       have e2:decide (s.length≤8)=false:=decide_eq_false h8
       simp only[e1,e2,cond_true,kj]
       exact pO.pure
    |succ d ih=>
     intro k hk
     have hlt:k<s.length:=by omega
     refine pO.lp (fun n m=>by simp only[zd,CU];exact rfl) ?_
     rw[nV (by omega)]
     have e1:decide ((k:Int)<(s.length:Int))=true:=decide_eq_true (by omega)
     have e2:decide ((0:Int)≤(k:Int)∧(k:Int)≤((k+1:Nat):Int)∧((k+1:Nat):Int)≤(s.length:Int))=true:=decide_eq_true (by omega)
     simp only[e1,e2,cond_true,lE]
     rw[show List.drop k (List.take (k+1) s)=[s[k]] from by rw[List.drop_take,Nat.add_sub_cancel_left,drop_cons hlt];rfl]
     refine pO.qH (PY signs [s[k]] (by simp only[Kw];decide)) ?_
     rw[Ui,SD hlt]
     cases NS s[k] with
     |false=>simp only[cond_false,kj];exact pO.pure
     |true=>
      simp only[cond_true,j9]
      exact ih (k+1) (by omega)
   exact Ev.Fe (F:=fun n m=>zd n m s (s.length:Int) 0) (key s.length 0 (by omega))
theorem Wq (s:Str) (hs:s.length<Kw):Ev (fun n=>D2 n s) (Su s):=by
 refine Ev.fn (fun n=>by simp only[D2,GZ];exact rfl) ?_
 simp only[Kw] at hs
 match s with
 |[]=>exact Ev.pure
 |c::t=>
  simp only[show ((c::t)==([]:Str))=false from rfl,cond_false,show xz (c::t) 0=some c from rfl,j6]
  refine Ev.bind (O7 c) ?_
  rw[Su]
  have hs':(c::t).length<4294967281:=hs
  generalize hst:c::t=s at*
  cases Ss c with
  |true=>
   simp only[cond_true]
   have hc:=Wp s (by simp only[big];omega) 0 (kN _)
   rw[kH,l5] at hc
   refine Ev.bind hc ?_
   have e:(((compT s:Nat):Int)==(s.length:Int))=s.all St:=by
    rw[←YP]
    rw[kI,beq_iff_eq,beq_iff_eq]
    unfold compT
    omega
   rw[e]
   cases s.all St with
   |false=>exact Ev.pure
   |true=>
    simp only[cond_true,j9]
    cases s==[95] with
    |true=>exact Ev.pure
    |false=>
     simp only[cond_false,kr,j9]
     exact Ev.bind (Uh s) Ev.pure
  |false=>
   simp only[cond_false]
   have key: ∀d k:Nat,k+d=s.length→pO (fun n m=>y9 n m s (k:Int)) ((s.drop k).all NS&&(!dd (s.drop (k-1))&&(decide (s.length≤8)&&(!Bk.contains s||s==[43])))):=by
    intro d
    induction d with
    |zero=>
     intro k hk
     refine pO.lp (fun n m=>by simp only[y9,CS];exact rfl) ?_
     have:decide ((k:Int)<(s.length:Int))=false:=decide_eq_false (by omega)
     simp only[this,cond_false]
     rw[j8 (show s.length≤k by omega)]
     simp only[lM,j9]
     have:dd (s.drop (k-1))=false:=by
      match hd:s.drop (k-1) with
      |[]=>rfl
      |[x]=>simp [dd]
      |x::y::r=>
       have:=congrArg kV hd
       rw[kA,kf,kf] at this
       omega
     rw[this,kr,j9]
     exact pO.qH fixed_ev (pO.S7 (Ev.Fe (F:=fun n m=>xN n m s Bk 0) (refFixLoop s)))
    |succ d ih=>
     intro k hk
     have hlt:k<s.length:=by omega
     refine pO.lp (fun n m=>by simp only[y9,CS];exact rfl) ?_
     rw[nV (by omega)]
     have e1:decide ((k:Int)<(s.length:Int))=true:=decide_eq_true (by omega)
     simp only[e1,cond_true]
     refine pO.idx hlt (pO.qH (sign_ev _) ?_)
     rw[SD hlt]
     have next:=ih (k+1) (by omega)
     rw[lP] at next
     cases NS s[k] with
     |false=>simp only[cond_false,kj];exact pO.pure
     |true=>
      simp only[cond_true,j9]
      by_cases h0:0<k
      ·have e2:decide ((0:Int)<(k:Int))=true:=decide_eq_true (by omega)
       simp only[e2,cond_true]
       have hk1:k-1<s.length:=by omega
       have hkk:k-1+1=k:=by omega
       have hdd:dd (s.drop (k-1))=((s[k-1]==45&&s[k]==45)||dd (s.drop k)):=by
        rw[drop_cons hk1,dd,hkk]
        congr 2
        rw[drop_cons hlt]
        rfl
       rw[hdd]
       refine pO.idx hlt ?_
       rw[show ((s[k].toNat:Int)==45)=(s[k]==45) from Js _ 45 (by decide)]
       cases s[k]==45 with
       |false=>simp only[cond_false,kX,ke];exact next
       |true=>
        simp only[cond_true,lQ]
        rw[wrap_small (by omega) (by omega),show (k:Int)-1=((k-1:Nat):Int) from by omega]
        refine pO.idx hk1 ?_
        rw[show ((s[k-1].toNat:Int)==45)=(s[k-1]==45) from Js _ 45 (by decide)]
        cases s[k-1]==45 with
        |true=>simp only[cond_true,ku,kD,kj,kX];exact pO.pure
        |false=>simp only[cond_false,ke];exact next
      ·have e2:decide ((0:Int)<(k:Int))=false:=decide_eq_false (by omega)
       obtain rfl:k=0:=by omega
       simp only[e2,cond_false]
       exact next
   exact Ev.Fe (F:=fun n m=>y9 n m s 0) (key s.length 0 (by omega))
end Go.Abs
namespace Go.Abs
theorem SE (c:UInt8):Ev (fun n=>FB n (c.toNat:Int)) (Qx c)∧Ev (fun n=>DK n (c.toNat:Int)) (Qx c):=by
 unfold Qx
 constructor
 ·refine Ev.fn (fun n=>by simp only[FB,It];exact rfl) ?_
  cases decide (97≤(c.toNat:Int))<;>cases decide ((c.toNat:Int)≤122)<;>cases decide (65≤(c.toNat:Int))<;>cases decide ((c.toNat:Int)≤90)<;>simp only[cond_true,cond_false,j9,kj,ku,ke]<;>exact Ev.pure
 ·refine Ev.fn (fun n=>by simp only[DK,GM];exact rfl) ?_
  cases decide (97≤(c.toNat:Int))<;>cases decide ((c.toNat:Int)≤122)<;>cases decide (65≤(c.toNat:Int))<;>cases decide ((c.toNat:Int)≤90)<;>simp only[cond_true,cond_false,j9,kj,ku,ke]<;>exact Ev.pure
theorem Name_ev (s:Str) (hl:s.length≤cap*4):Ev (fun n=>Jj n s) (G6 s):=by
 refine sv.ev ?_
 refine sv.fn (fun n=>by simp only[Jj,KZ];exact rfl) ?_
 refine sv.Fe (F:=fun n m=>Ca n m s true s.length 0) ?_
 refine oG.up (S:=Bool) (L:=fun n m i b=>Ca n m s b s.length i) s.length (fun i b=>EU true s=EU b (s.drop i)) _ ?_ ?_ 0 true (by omega) rfl
 ·intro i b hi hI next
  refine oG.lp (fun n m=>by simp only[Ca,Gm];exact rfl) ?_
  simp only[hi,Int.ofNat_lt,decide_true,cond_true]
  refine oG.idx hi ?_
  rw[j7 hi,EU] at hI
  rw[nV (by simp only[cap] at hl;omega)]
  refine oG.qH ((SE s[i]).1.tot (Q:=(· =Qx s[i])) rfl) fun x hx=> ?_
  subst hx
  cases h1:Qx s[i] with
  |true=>
   rw[h1,cond_true] at hI
   simp only[cond_true]
   exact next _ hI
  |false=>
   rw[h1,cond_false] at hI
   cases b with
   |true=>exact oG.pure (by simp only[cond_true] at hI;unfold G6;rw[hI];rfl)
   |false=>
    simp only[cond_false] at hI ⊢
    cases h2:((s[i].toNat:Int)==46) with
    |true=>
     rw[h2,cond_true] at hI
     simp only[cond_true]
     exact next _ hI
    |false=>
     rw[h2,cond_false] at hI
     simp only[cond_false]
     cases h3:((s[i].toNat:Int)==39) with
     |true=>
      rw[h3,ku,cond_true] at hI
      have e:((s[i].toNat:Int) !=39)=false:=by rw[bne,h3];rfl
      simp only[e,cond_false]
      refine oG.MD (fun _=>next _ hI) fun _=>oG.MD (fun _=>next _ hI) fun _=>next _ hI
     |false=>
      rw[h3,ke] at hI
      have e:((s[i].toNat:Int) !=39)=true:=by rw[bne,h3];rfl
      simp only[e,cond_true]
      refine oG.MD (fun h4=>oG.pure ?_) fun h4=>oG.MD (fun h5=>oG.pure ?_) fun h5=>next _ ?_
      ·have:decide (48≤(s[i].toNat:Int))=false:=decide_eq_false (by have:=of_decide_eq_true h4;omega)
       rw[this] at hI
       unfold G6;rw[hI];rfl
      ·have:decide ((s[i].toNat:Int)≤57)=false:=decide_eq_false (by have:=of_decide_eq_true h5;omega)
       rw[this,kX] at hI
       unfold G6;rw[hI];rfl
      ·have a1:decide (48≤(s[i].toNat:Int))=true:=decide_eq_true (by have:=of_decide_eq_false h4;omega)
       have a2:decide ((s[i].toNat:Int)≤57)=true:=decide_eq_true (by have:=of_decide_eq_false h5;omega)
       rw[a1,a2] at hI
       exact hI
 ·intro b hI
  refine oG.lp (fun n m=>by simp only[Ca,Gm];exact rfl) ?_
  simp only[lX,decide_false,cond_false]
  rw[lH,EU] at hI
  cases b with
  |true=>exact oG.pure (by unfold G6;rw[hI];rfl)
  |false=>exact oG.pure (by unfold G6;rw[hI];simp)
theorem YQ (s:Str) (hl:s.length≤cap*4):Ev (fun n=>GQ n s) (G6 s):=by
 refine sv.ev ?_
 refine sv.fn (fun n=>by simp only[GQ,JZ];exact rfl) ?_
 refine sv.MD (fun h=>sv.pure ?_) fun _=> ?_
 ·have:=beq_iff_eq.1 h
  subst this;rfl
 refine sv.MD (fun h=>sv.pure ?_) fun h64=> ?_
 ·have:decide ((s.length:Int)≤64)=false:=decide_eq_false (by have:=of_decide_eq_true h;omega)
  unfold G6;rw[this,kX]
 have h64':decide ((s.length:Int)≤64)=true:=decide_eq_true (by have:=of_decide_eq_false h64;omega)
 have hT:G6 s=EU true s:=by unfold G6;rw[h64',lQ]
 rw[hT]
 refine sv.Fe (F:=fun n m=>Bc n m s true 0) ?_
 refine oG.up (S:=Bool) (L:=fun n m i b=>Bc n m s b i) s.length (fun i b=>EU true s=EU b (s.drop i)) _ ?_ ?_ 0 true (by omega) rfl
 ·intro i b hi hI next
  refine oG.lp (fun n m=>by simp only[Bc,Fa];exact rfl) ?_
  simp only[hi,Int.ofNat_lt,decide_true,cond_true]
  refine oG.idx hi ?_
  rw[j7 hi,EU] at hI
  rw[nV (by simp only[cap] at hl;omega)]
  have hlet:=(SE s[i]).2
  cases b with
  |true=>
   simp only[cond_true] at hI ⊢
   refine oG.qH (hlet.tot (Q:=(· =Qx s[i])) rfl) fun x hx=> ?_
   subst hx
   cases h1:Qx s[i] with
   |true=>rw[h1,cond_true] at hI;exact next _ hI
   |false=>rw[h1,cond_false] at hI;exact oG.pure hI.symm
  |false=>
   simp only[cond_false] at hI ⊢
   cases h2:((s[i].toNat:Int)==46) with
   |true=>
    have hz:Qx s[i]=false:=by
     have e:=beq_iff_eq.1 h2
     unfold Qx
     rw[e];rfl
    rw[hz,cond_false,h2,cond_true] at hI
    simp only[cond_true]
    exact next _ hI
   |false=>
    simp only[cond_false]
    refine oG.qH (hlet.tot (Q:=(· =Qx s[i])) rfl) fun x hx=> ?_
    subst hx
    cases h1:Qx s[i] with
    |true=>rw[h1,cond_true] at hI;simp only[cond_true];exact next _ hI
    |false=>
     rw[h1,cond_false,h2,cond_false] at hI
     simp only[cond_false]
     cases h3:((s[i].toNat:Int)==39) with
     |true=>
      rw[h3,ku,cond_true] at hI
      have e:((s[i].toNat:Int) !=39)=false:=by rw[bne,h3];rfl
      simp only[e,cond_false]
      exact next _ hI
     |false=>
      rw[h3,ke] at hI
      have e:((s[i].toNat:Int) !=39)=true:=by rw[bne,h3];rfl
      simp only[e,cond_true]
      refine oG.MD (fun h4=>oG.pure ?_) fun h4=>oG.MD (fun h5=>oG.pure ?_) fun h5=>next _ ?_
      ·have:decide (48≤(s[i].toNat:Int))=false:=decide_eq_false (by have:=of_decide_eq_true h4;omega)
       rw[this] at hI
       exact hI.symm
      ·have:decide ((s[i].toNat:Int)≤57)=false:=decide_eq_false (by have:=of_decide_eq_true h5;omega)
       rw[this,kX] at hI
       exact hI.symm
      ·have a1:decide (48≤(s[i].toNat:Int))=true:=decide_eq_true (by have:=of_decide_eq_false h4;omega)
       have a2:decide ((s[i].toNat:Int)≤57)=true:=decide_eq_true (by have:=of_decide_eq_false h5;omega)
       rw[a1,a2] at hI
       exact hI
 ·intro b hI
  refine oG.lp (fun n m=>by simp only[Bc,Fa];exact rfl) ?_
  simp only[lX,decide_false,cond_false]
  rw[lH,EU] at hI
  exact oG.pure hI.symm
end Go.Abs
namespace Go.Abs
theorem Jt {α:Type} {bk:α→Nat}: ∀ {xs:List α} {x:α},x∈xs→bk x+1≤sumB bk xs
 |y::ys,x,h=>by
  rw[sumB]
  rcases lV.1 h with e|e
  ·subst e;have:=Sq (bk:=bk) ys;omega
  ·have:=Jt (bk:=bk) e;omega
theorem FL {α:Type} {bk:α→Nat} (h: ∀x,1≤bk x): ∀xs:List α,xs.length+1≤sumB bk xs
 |[]=>Sq []
 |x::xs=>by
  have h1:=FL h xs
  have h2:=h x
  rw[sumB,kf]
  omega
structure WC (n:Notation):Prop where
 len:n.parts.length≤cap
 each: ∀s∈n.parts,s.length≤cap
 target:n.target.length≤cap
theorem WC.of {n:Notation} (h:n.bulk≤cap):WC n:=by
 unfold Notation.bulk at h
 have h1:=FL (bk:=fun m:Str=>m.length+1) (fun _=>Nat.le_add_left _ _) n.parts
 refine ⟨by omega,fun s hs=> ?_,by omega⟩
 have:=Jt (bk:=fun m:Str=>m.length+1) hs
 omega
theorem LH (i:Nat):decide (0<(i:Int))=decide (0<i):=decide_eq_decide.2 (by omega)
theorem nat_lt (i k:Nat):decide ((i:Int)<(k:Int))=decide (i<k):=decide_eq_decide.2 (by omega)
theorem LI (i:Nat):((i:Int)==0)=decide (i=0):=by rw[kI,beq_iff_eq,decide_eq_true_iff];omega
theorem nat_eq (i k:Nat):((i:Int)==(k:Int))=decide (i=k):=by rw[kI,beq_iff_eq,decide_eq_true_iff];omega
theorem Cf {k:Nat} (h:0<k) (h2:k≤cap):IntKind.i64.wrap ((k:Int)-1)=((k-1:Nat):Int):=by
 simp only[cap] at h2
 rw[wrap_small (by omega) (by omega)];omega
theorem LJ {xs:List Str} {i:Nat} (h:i<xs.length):xs.getD i []=xs[i]:=by
 rw[kP,lS h];rfl
theorem idx0 {α:Type} {xs:List α} (h:0<xs.length):xz xs 0=some xs[0]:=uy (i:=0) h
theorem idx1 {α:Type} {xs:List α} (h:1<xs.length):xz xs 1=some xs[1]:=uy (i:=1) h
theorem zX {n:Notation} (h:0<n.parts.length):Ev (fun k=>tY k n) (zW n)∧Ev (fun k=>ug k n) (zW n):=by
 unfold zW
 rw[LJ h]
 constructor
 ·refine Ev.fn (fun n=>by simp only[tY,FZ];exact rfl) ?_
  rw[idx0 h]
  exact Ev.pure
 ·refine Ev.fn (fun n=>by simp only[ug,JU];exact rfl) ?_
  rw[idx0 h]
  exact Ev.pure
theorem u0 {n:Notation} (h:0<n.parts.length) (h2:n.parts.length≤cap):Ev (fun k=>sS k n) (FO n)∧Ev (fun k=>xp k n) (FO n):=by
 unfold FO
 rw[LJ (by omega)]
 constructor
 ·refine Ev.fn (fun n=>by simp only[sS,EJ];exact rfl) ?_
  rw[Cf h h2,uy (show n.parts.length-1<n.parts.length by omega)]
  exact Ev.pure
 ·refine Ev.fn (fun n=>by simp only[xp,IA];exact rfl) ?_
  rw[Cf h h2,uy (show n.parts.length-1<n.parts.length by omega)]
  exact Ev.pure
theorem Ok.Kw {n:Notation} (k:Ok n):n.parts.length≤cap:=by have:=k.Wm;simp only[cap];omega
theorem Ff {n:Notation} (k:Ok n) {i:Nat} (hi:i<n.parts.length):Ev (fun f=>vA f n (i:Int)) (u9 n i):=by
 refine Ev.fn (fun n=>by simp only[vA,F2];exact rfl) ?_
 have hp:=k.pos
 refine Ev.bind (zX hp).1 ?_
 unfold u9 Lc
 have e2:IntKind.i64.wrap ((n.parts.length:Int)-1)=((n.parts.length-1:Nat):Int):=Cf hp k.Kw
 have e3:IntKind.i64.wrap (n.level+1)=n.level+1:=wrap_small (by have:=k.lo;omega) (by have:=k.hi;omega)
 simp only[LH,LI,e2,nat_lt,e3]
 cases zW n with
 |false=>
  simp only[cond_false,kj,lz]
  cases decide (0<i) with
  |false=>exact Ev.pure
  |true=>
   simp only[cond_true,j9]
   cases decide (i<n.parts.length-1)<;>exact Ev.pure
 |true=>
  simp only[cond_true,j9]
  refine Ev.bind (u0 hp k.Kw).1 ?_
  refine Ev.congr Ev.pure (fun _=> ?_)
  rw[bne,bne]
  cases decide (0<i)<;>cases decide (i<n.parts.length-1)<;>cases FO n<;>cases decide (i=0)<;>cases n.assoc==1<;>cases n.assoc==2<;>rfl
theorem CF {n:Notation} (k:Ok n) {i:Nat} (hi:i<n.parts.length):Ev (fun f=>C5 f n (i:Int)) (u9 n i):=by
 refine Ev.fn (fun n=>by simp only[C5,J1];exact rfl) ?_
 have hp:=k.pos
 refine Ev.bind (zX hp).2 ?_
 unfold u9 Lc
 have e2:IntKind.i64.wrap ((n.parts.length:Int)-1)=((n.parts.length-1:Nat):Int):=Cf hp k.Kw
 have e3:IntKind.i64.wrap (n.level+1)=n.level+1:=wrap_small (by have:=k.lo;omega) (by have:=k.hi;omega)
 simp only[LH,LI,e2,nat_eq,e3]
 have cs:(decide (0<i)= !decide (i=0))∧(decide (i<n.parts.length-1)= !decide (i=n.parts.length-1)):=by
  constructor
  ·rw[←decide_not];exact decide_eq_decide.2 (by omega)
  ·rw[←decide_not];exact decide_eq_decide.2 (by omega)
 rw[cs.1,cs.2]
 cases zW n with
 |false=>
  simp only[cond_false,kj,lz]
  refine Ev.congr Ev.pure (fun _=> ?_)
  cases decide (i=0)<;>cases decide (i=n.parts.length-1)<;>rfl
 |true=>
  simp only[cond_true,j9]
  refine Ev.bind (u0 hp k.Kw).2 ?_
  refine Ev.congr Ev.pure (fun _=> ?_)
  rw[bne,bne]
  cases decide (i=0)<;>cases decide (i=n.parts.length-1)<;>cases FO n<;>cases n.assoc==1<;>cases n.assoc==2<;>rfl
theorem Lg {n:Notation} (k:Ok n):Ev (fun f=>BK f n) (qa n):=by
 refine Ev.fn (fun n=>by simp only[BK,J0];exact rfl) ?_
 refine Ev.bind (zX k.pos).2 ?_
 unfold qa
 cases h:zW n with
 |true=>
  have h2:=k.UZ h
  simp only[cond_true]
  rw[idx1 (by omega),LJ (by omega)]
  exact Ev.pure
 |false=>
  simp only[cond_false]
  rw[idx0 k.pos,LJ k.pos]
  exact Ev.pure
theorem U8 {n:Notation} (k:Ok n) (s:Str):Ev (fun f=>Dp f n s) ((q7 n).contains s):=by
 refine Ev.fn (fun n=>by simp only[Dp,IL];exact rfl) ?_
 refine Ev.bind (zX k.pos).2 ?_
 have key: ∀d i:Nat,i+d=n.parts.length→pO (fun f m=>yN f m s (i:Int) n) ((n.parts.drop i).contains s):=by
  intro d
  induction d with
  |zero=>
   intro i hi
   refine pO.lp (fun n m=>by simp only[yN,DW];exact rfl) ?_
   have:decide ((i:Int)<(n.parts.length:Int))=false:=decide_eq_false (by omega)
   simp only[this,cond_false,j8 (show n.parts.length≤i by omega),lD]
   exact pO.pure
  |succ d ih=>
   intro i hi
   have hlt:i<n.parts.length:=by omega
   refine pO.lp (fun n m=>by simp only[yN,DW];exact rfl) ?_
   have:decide ((i:Int)<(n.parts.length:Int))=true:=decide_eq_true (by omega)
   simp only[this,cond_true]
   refine pO.idx hlt ?_
   rw[j7 hlt,kT]
   rw[show (s==n.parts[i])=(n.parts[i]==s) from kI.2 ⟨fun h=>by simpa using (beq_iff_eq.1 h).symm,fun h=>by simpa using (beq_iff_eq.1 h).symm⟩]
   cases n.parts[i]==s with
   |true=>exact pO.pure
   |false=>
    simp only[cond_false,ke]
    rw[nV (by have:=k.Wm;omega)]
    exact ih (i+1) (by omega)
 unfold q7
 cases h:zW n with
 |true=>
  have h2:=k.UZ h
  exact Ev.Fe (F:=fun f m=>yN f m s 2 n) (key (n.parts.length-2) 2 (by omega))
 |false=>
  have h2:=k.pos
  exact Ev.Fe (F:=fun f m=>yN f m s 1 n) (key (n.parts.length-1) 1 (by omega))
theorem YR {a b:Notation} (ka:Ok a) (kb:Ok b):Ev (fun f=>xq f a b) (yZ a b):=by
 refine Ev.fn (fun n=>by simp only[xq,EN];exact rfl) ?_
 have two:Ev (fun f=>(ug f b).bind fun x=>bif x then (BK f b).bind fun x=>(Dp f a x).bind fun x=>some x else some false) (zW b&&(q7 a).contains (qa b)):=by
  refine Ev.bind (zX kb.pos).2 ?_
  cases zW b with
  |false=>exact Ev.pure
  |true=>exact Ev.bind (Lg kb) (Ev.bind (U8 ka _) Ev.pure)
 refine Ev.bind (zX ka.pos).2 ?_
 unfold yZ
 cases zW a with
 |false=>exact two
 |true=>
  simp only[cond_true,j9]
  refine Ev.bind (Lg ka) (Ev.bind (U8 kb _) ?_)
  cases (q7 b).contains (qa a) with
  |true=>exact Ev.pure
  |false=>exact two
end Go.Abs
namespace Go.Abs
def U9 (n:Notation):Int:=bif decide (n.level<0)||(decide (100<n.level)||(decide (n.assoc<0)||decide (2<n.assoc))) then 2
    else bif !(n.assoc==0)&& !(zW n&&FO n) then 1 else bif G6 n.target then 0 else 29
def finT (n:Notation):Int:=bif n.parts.all (fun s=>s==[]||Su s) then U9 n else 4
theorem tail_ev {n:Notation} {lf rt nm:Nat→Option Bool} (h1:Ev lf (zW n)) (h2:Ev rt (FO n)) (h3:Ev nm (G6 n.target)):
 Ev (fun f=>bif decide (n.level<0) then some 2 else bif decide (100<n.level) then some 2 else bif decide (n.assoc<0) then some 2 else bif decide (2<n.assoc) then some 2 else
  bif n.assoc !=0 then (lf f).bind fun x=>bif x then (rt f).bind fun x=>bif x then (nm f).bind fun x=>bif x then some 0 else some 29 else some 1 else some 1
  else (nm f).bind fun x=>bif x then some 0 else some 29) (U9 n):=by
 have nme:Ev (fun f=>(nm f).bind fun x=>bif x then some (0:Int) else some 29) (bif G6 n.target then 0 else 29):=by
  refine Ev.bind h3 ?_
  cases G6 n.target<;>exact Ev.pure
 unfold U9
 cases decide (n.level<0) with
 |true=>exact Ev.pure
 |false=>
 cases decide (100<n.level) with
 |true=>exact Ev.pure
 |false=>
 cases decide (n.assoc<0) with
 |true=>exact Ev.pure
 |false=>
 cases decide (2<n.assoc) with
 |true=>exact Ev.pure
 |false=>
 simp only[cond_false,lz,bne]
 cases n.assoc==0 with
 |true=>simp only[kD,cond_false,kj];exact nme
 |false=>
  simp only[kr,cond_true,j9]
  refine Ev.bind h1 ?_
  cases zW n with
  |false=>exact Ev.pure
  |true=>
   simp only[cond_true,j9]
   refine Ev.bind h2 ?_
   cases FO n with
   |false=>exact Ev.pure
   |true=>exact nme
theorem sml_of {s:Str} (h:s.length≤cap):s.length<Kw:=by simp only[cap] at h;simp only[Kw];omega
theorem cap4 {s:Str} (h:s.length≤cap):s.length≤cap*4:=by omega
theorem O8 {α:Type} {p:α→Bool} {s:List α} {k:Nat} (h:k<s.length):(s.drop k).all p=(p s[k]&&(s.drop (k+1)).all p):=by
 rw[j7 h,lW]
theorem check1 {n:Notation} (h:WC n) (hp:0<n.parts.length):pO (fun f m=>wB f m n.parts (n.parts.length:Int) 0 n) (finT n):=by
 have hl:=h.len
 simp only[cap] at hl
 have key: ∀d i:Nat,i+d=n.parts.length→pO (fun f m=>wB f m n.parts (n.parts.length:Int) (i:Int) n) (bif (n.parts.drop i).all (fun s=>s==[]||Su s) then U9 n else 4):=by
  intro d
  induction d with
  |zero=>
   intro i hi
   refine pO.lp (fun n m=>by simp only[wB,Bs];exact rfl) ?_
   have:decide ((i:Int)<(n.parts.length:Int))=false:=decide_eq_false (by omega)
   simp only[this,cond_false,j8 (show n.parts.length≤i by omega),lM,cond_true]
   exact pO.S7 (tail_ev (zX hp).1 (u0 hp h.len).1 (Name_ev _ (cap4 h.target)))
  |succ d ih=>
   intro i hi
   have hlt:i<n.parts.length:=by omega
   refine pO.lp (fun n m=>by simp only[wB,Bs];exact rfl) ?_
   have:decide ((i:Int)<(n.parts.length:Int))=true:=decide_eq_true (by omega)
   simp only[this,cond_true]
   refine pO.idx hlt ?_
   rw[O8 hlt]
   have next:=ih (i+1) (by omega)
   rw[←nV (by omega)] at next
   cases n.parts[i]==[] with
   |true=>simp only[cond_true,ku,j9];exact next
   |false=>
    simp only[cond_false,ke]
    refine pO.qH (Symbol_ev _ (sml_of (h.each _ (kg hlt)))) ?_
    cases Su n.parts[i] with
    |true=>simp only[cond_true,j9];exact next
    |false=>exact pO.pure
 exact key n.parts.length 0 (by omega)
theorem rcheck1 {n:Notation} (h:WC n) (hp:0<n.parts.length):pO (fun f m=>yR f m 0 n) (finT n):=by
 have hl:=h.len
 simp only[cap] at hl
 have key: ∀d i:Nat,i+d=n.parts.length→pO (fun f m=>yR f m (i:Int) n) (bif (n.parts.drop i).all (fun s=>s==[]||Su s) then U9 n else 4):=by
  intro d
  induction d with
  |zero=>
   intro i hi
   refine pO.lp (fun n m=>by simp only[yR,D7];exact rfl) ?_
   have:decide ((i:Int)<(n.parts.length:Int))=false:=decide_eq_false (by omega)
   simp only[this,cond_false,j8 (show n.parts.length≤i by omega),lM,cond_true]
   exact pO.S7 (tail_ev (zX hp).2 (u0 hp h.len).2 (YQ _ (cap4 h.target)))
  |succ d ih=>
   intro i hi
   have hlt:i<n.parts.length:=by omega
   refine pO.lp (fun n m=>by simp only[yR,D7];exact rfl) ?_
   have:decide ((i:Int)<(n.parts.length:Int))=true:=decide_eq_true (by omega)
   simp only[this,cond_true]
   refine pO.idx hlt ?_
   rw[O8 hlt]
   have next:=ih (i+1) (by omega)
   rw[←nV (by omega)] at next
   cases n.parts[i]==[] with
   |true=>simp only[cond_true,ku,j9];exact next
   |false=>
    simp only[cond_false,ke]
    refine pO.idx hlt ?_
    refine pO.qH (Wq _ (sml_of (h.each _ (kg hlt)))) ?_
    cases Su n.parts[i] with
    |true=>simp only[cond_true,j9];exact next
    |false=>exact pO.pure
 exact key n.parts.length 0 (by omega)
theorem YS {l:List Str} {i:Nat} (h:0<i) (hi:i<l.length):NT (l.drop (i-1))=((l[i-1]==[]&&l[i]==[])||NT (l.drop i)):=by
 have h1:i-1<l.length:=by omega
 rw[j7 h1]
 have e:i-1+1=i:=by omega
 rw[e,j7 hi,NT]
theorem adj_end (l:List Str) (i:Nat) (h:l.length≤i):NT (l.drop (i-1))=false:=by
 match hd:l.drop (i-1) with
 |[]=>rfl
 |[x]=>rfl
 |x::y::r=>
  have:=congrArg kV hd
  rw[kA,kf,kf] at this
  omega
def Ie (n:Notation) (b:Bool) (i:Nat):Int:=bif NT (n.parts.drop (i-1))||(!b&&(n.parts.drop i).all (· ==[])) then 3 else finT n
theorem EV {n:Notation} {b:Bool} {i:Nat} (hi:i<n.parts.length) (h:i=0∨(n.parts[i-1]==[]&&n.parts[i]==[])=false):
 Ie n b i=Ie n (b|| !(n.parts[i]==[])) (i+1):=by
 unfold Ie
 rw[O8 hi,lP]
 have:NT (n.parts.drop (i-1))=NT (n.parts.drop i):=by
  rcases Nat.eq_zero_or_pos i with e|e
  ·subst e;rfl
  ·rw[YS e hi]
   rcases h with h|h
   ·omega
   ·rw[h,ke]
 rw[this]
 cases b<;>cases n.parts[i]==[]<;>rfl
theorem Va {n:Notation} {b:Bool} {i:Nat} (h0:0<i) (hi:i<n.parts.length) (h1:(n.parts[i-1]==[])=true) (h2:(n.parts[i]==[])=true):Ie n b i=3:=by
 unfold Ie
 rw[YS h0 hi,h1,h2];rfl
theorem Vb {i:Nat} (h0:0<i) (h:i≤cap):IntKind.i64.wrap ((i:Int)-1)=((i-1:Nat):Int):=Cf h0 h
theorem P0 {n:Notation} (h1:0<n.parts.length) (h2:n.parts.length≤16):AY n=Ie n false 0:=by
 unfold AY Ie finT U9
 rw[decide_eq_false (show ¬ n.parts.length=0 by omega),decide_eq_false (show ¬ 16<n.parts.length by omega)]
 simp only[lz,cond_false,Nat.zero_sub,kH,kr,j9]
theorem check_ev {n:Notation} (h:WC n):Ev (fun f=>BR f n) (AY n):=by
 refine Ev.fn (fun n=>by simp only[BR,ES];exact rfl) ?_
 have hl:=h.len
 rw[LI,show decide ((16:Int)<(n.parts.length:Int))=decide (16<n.parts.length) from decide_eq_decide.2 (by omega)]
 by_cases h0:n.parts.length=0
 ·unfold AY;rw[decide_eq_true h0];exact Ev.pure
 by_cases h16:16<n.parts.length
 ·unfold AY;rw[decide_eq_false h0,decide_eq_true h16];exact Ev.pure
 have hp:0<n.parts.length:=by omega
 rw[decide_eq_false h0,decide_eq_false h16,P0 hp (by omega)]
 simp only[cond_false]
 have key: ∀d i c:Nat,i+d=n.parts.length→c≤i→pO (fun f m=>xF f m (c:Int) n.parts (n.parts.length:Int) (i:Int) n) (Ie n (!decide (c=0)) i):=by
  intro d
  induction d with
  |zero=>
   intro i c hi hc
   refine pO.lp (fun n m=>by simp only[xF,Bt];exact rfl) ?_
   have:decide ((i:Int)<(n.parts.length:Int))=false:=decide_eq_false (by omega)
   simp only[this,cond_false,LI]
   have e:Ie n (!decide (c=0)) i=bif decide (c=0) then 3 else finT n:=by
    unfold Ie
    rw[adj_end _ _ (by omega),j8 (show n.parts.length≤i by omega)]
    cases decide (c=0)<;>rfl
   rw[e]
   cases decide (c=0) with
   |true=>exact pO.pure
   |false=>exact pO.S7 (Ev.Fe (F:=fun f m=>wB f m n.parts (n.parts.length:Int) 0 n) (check1 h hp))
  |succ d ih=>
   intro i c hi hc
   have hlt:i<n.parts.length:=by omega
   refine pO.lp (fun n m=>by simp only[xF,Bt];exact rfl) ?_
   have:decide ((i:Int)<(n.parts.length:Int))=true:=decide_eq_true (by omega)
   simp only[this,cond_true]
   refine pO.idx hlt ?_
   cases hx:n.parts[i]==[] with
   |true=>
    simp only[cond_true,LH]
    by_cases h0:0<i
    ·rw[decide_eq_true h0]
     simp only[cond_true]
     rw[Vb h0 (by omega)]
     refine pO.idx (show i-1<n.parts.length by omega) ?_
     cases hy:n.parts[i-1]==[] with
     |true=>simp only[cond_true];rw[Va h0 hlt hy hx];exact pO.pure
     |false=>
      simp only[cond_false]
      rw[EV hlt (.inr (by rw[hy];rfl)),hx,kD,lG,nV (by simp only[cap] at hl;omega)]
      exact ih (i+1) c (by omega) (by omega)
    ·rw[decide_eq_false h0]
     simp only[cond_false]
     rw[EV hlt (.inl (by omega)),hx,kD,lG,nV (by simp only[cap] at hl;omega)]
     exact ih (i+1) c (by omega) (by omega)
   |false=>
    simp only[cond_false]
    rw[EV hlt (.inr (by rw[hx,kX])),hx,kr,lg,nV (by simp only[cap] at hl;omega),nV (by simp only[cap] at hl;omega)]
    have:=ih (i+1) (c+1) (by omega) (by omega)
    rwa [decide_eq_false (show ¬ c+1=0 by omega),kr] at this
 exact Ev.Fe (F:=fun f m=>xF f m 0 n.parts (n.parts.length:Int) 0 n) (key n.parts.length 0 0 (by omega) (kF _))
theorem rcheck_ev {n:Notation} (h:WC n):Ev (fun f=>FG f n) (AY n):=by
 refine Ev.fn (fun n=>by simp only[FG,IV];exact rfl) ?_
 have hl:=h.len
 rw[LI,show decide ((16:Int)<(n.parts.length:Int))=decide (16<n.parts.length) from decide_eq_decide.2 (by omega)]
 by_cases h0:n.parts.length=0
 ·unfold AY;rw[decide_eq_true h0];exact Ev.pure
 by_cases h16:16<n.parts.length
 ·unfold AY;rw[decide_eq_false h0,decide_eq_true h16];exact Ev.pure
 have hp:0<n.parts.length:=by omega
 rw[decide_eq_false h0,decide_eq_false h16,P0 hp (by omega)]
 simp only[cond_false]
 have key: ∀d i:Nat,∀b:Bool,i+d=n.parts.length→pO (fun f m=>wA f m b (i:Int) n) (Ie n b i):=by
  intro d
  induction d with
  |zero=>
   intro i b hi
   refine pO.lp (fun n m=>by simp only[wA,D9];exact rfl) ?_
   have:decide ((i:Int)<(n.parts.length:Int))=false:=decide_eq_false (by omega)
   simp only[this,cond_false]
   have e:Ie n b i=bif b then finT n else 3:=by
    unfold Ie
    rw[adj_end _ _ (by omega),j8 (show n.parts.length≤i by omega)]
    cases b<;>rfl
   rw[e]
   cases b with
   |false=>exact pO.pure
   |true=>exact pO.S7 (Ev.Fe (F:=fun f m=>yR f m 0 n) (rcheck1 h hp))
  |succ d ih=>
   intro i b hi
   have hlt:i<n.parts.length:=by omega
   refine pO.lp (fun n m=>by simp only[wA,D9];exact rfl) ?_
   have:decide ((i:Int)<(n.parts.length:Int))=true:=decide_eq_true (by omega)
   simp only[this,cond_true,LH]
   have rest: ∀b':Bool,b'=(b|| !(n.parts[i]==[]))→pO (fun f m=>bif decide (0<i) then (xz n.parts (i:Int)).bind fun x=>bif x==[] then (xz n.parts (IntKind.i64.wrap ((i:Int)-1))).bind fun x=>bif x==[] then some 3 else wA f m b' (IntKind.i64.wrap ((i:Int)+1)) n else wA f m b' (IntKind.i64.wrap ((i:Int)+1)) n else wA f m b' (IntKind.i64.wrap ((i:Int)+1)) n) (Ie n b i):=by
    intro b' hb'
    have next:=ih (i+1) b' (by omega)
    rw[←nV (by simp only[cap] at hl;omega)] at next
    by_cases h0:0<i
    ·rw[decide_eq_true h0]
     simp only[cond_true]
     refine pO.idx hlt ?_
     cases hx:n.parts[i]==[] with
     |true=>
      simp only[cond_true]
      rw[Vb h0 (by omega)]
      refine pO.idx (show i-1<n.parts.length by omega) ?_
      cases hy:n.parts[i-1]==[] with
      |true=>simp only[cond_true];rw[Va h0 hlt hy hx];exact pO.pure
      |false=>simp only[cond_false];rw[EV hlt (.inr (by rw[hy];rfl)),←hb'];exact next
     |false=>simp only[cond_false];rw[EV hlt (.inr (by rw[hx,kX])),←hb'];exact next
    ·rw[decide_eq_false h0]
     simp only[cond_false]
     rw[EV hlt (.inl (by omega)),←hb'];exact next
   cases b with
   |true=>simp only[cond_true];exact rest true rfl
   |false=>
    simp only[cond_false]
    refine pO.idx hlt ?_
    exact rest _ (by rw[ke])
 exact Ev.Fe (F:=fun f m=>wA f m false 0 n) (key n.parts.length 0 false (by omega))
end Go.Abs
namespace Go.Abs
theorem EW {α:Type} (x s:Str) (v:α): ∀es:List (Str×α),sE x (z8 s v es)=bif x==s then some v else sE x es
 |[]=>by
  simp only[z8,sE]
 |(k,u)::es=>by
  have ih:=EW x s v es
  simp only[z8,sE]
  cases hk:s==k with
  |true=>
   simp only[cond_true,sE]
   have e:=beq_iff_eq.1 hk
   subst e
   cases x==s<;>rfl
  |false=>
   simp only[cond_false,sE,ih]
   cases hx:x==k with
   |true=>
    have e:=beq_iff_eq.1 hx
    subst e
    have:(x==s)=false:=by rw[lF] at hk ⊢;intro h;exact hk (by rw[beq_iff_eq] at h ⊢;exact h.symm)
    rw[this];rfl
   |false=>rfl
structure Idx (T:List Notation) (sz:Int) (B C:List (Str×Notation)) (I:List (Str×Bool)):Prop where
 sz:sz=(T.length:Int)
 b: ∀s,sE s B=uS T s false
 c: ∀s,sE s C=uS T s true
 i: ∀s,s≠[]→(sE s I).getD false=T.any (fun t=>(q7 t).contains s)
theorem Idx.nil:Idx [] 0 [] [] []:=⟨rfl,fun _=>rfl,fun _=>rfl,fun _ _=>rfl⟩
def O9 (l:List Str) (I:List (Str×Bool)):List (Str×Bool):=l.foldl (fun I s=>bif s==[] then I else z8 s true I) I
theorem Pa: ∀ (l:List Str) (I:List (Str×Bool)) (s:Str),s≠[]→(sE s (O9 l I)).getD false=(l.contains s||(sE s I).getD false)
 |[],I,s,_=>rfl
 |x::l,I,s,hs=>by
  have ih:=Pa l (bif x==[] then I else z8 x true I) s hs
  show (sE s (O9 l (bif x==[] then I else z8 x true I))).getD false=_
  rw[ih,kT]
  cases hx:x==[] with
  |true=>
   have e:=beq_iff_eq.1 hx
   subst e
   have:(s==([]:Str))=false:=beq_eq_false_iff_ne.2 hs
   rw[this,cond_true,ke]
  |false=>
   rw[cond_false,EW]
   cases s==x with
   |true=>simp
   |false=>rfl
theorem J5 (T:List Notation) (n:Notation) (s:Str) (c:Bool):uS (T++[n]) s c=(uS T s c).or (bif zW n==c&&qa n==s then some n else none):=by
 unfold uS
 rw[List.find?_append,lN,List.find?_nil]
 cases zW n==c&&qa n==s<;>rfl
theorem YT (rest:List Str) (hl:rest.length≤cap) (sz:Int) (B C:List (Str×Notation)): ∀ (d i:Nat) (I:List (Str×Bool)),i+d=rest.length→
 pO (fun f m=>uh f m rest (rest.length:Int) (i:Int) sz B C I) (((IntKind.i64.wrap (sz+1),()),B,C,O9 (rest.drop i) I,()),0,()):=by
 simp only[cap] at hl
 intro d
 induction d with
 |zero=>
  intro i I hi
  refine pO.lp (fun n m=>by simp only[uh,yU];exact rfl) ?_
  have:decide ((i:Int)<(rest.length:Int))=false:=decide_eq_false (by omega)
  simp only[this,cond_false,j8 (show rest.length≤i by omega)]
  exact pO.pure
 |succ d ih=>
  intro i I hi
  have hlt:i<rest.length:=by omega
  refine pO.lp (fun n m=>by simp only[uh,yU];exact rfl) ?_
  have:decide ((i:Int)<(rest.length:Int))=true:=decide_eq_true (by omega)
  simp only[this,cond_true]
  refine pO.idx hlt ?_
  rw[nV (by omega),j7 hlt]
  cases hx:rest[i]==[] with
  |true=>
   simp only[cond_true]
   have:=ih (i+1) I (by omega)
   rwa [show O9 (rest[i]::rest.drop (i+1)) I=O9 (rest.drop (i+1)) I from by show O9 _ (bif rest[i]==[] then I else _)=_;rw[hx];rfl]
  |false=>
   simp only[cond_false]
   have:=ih (i+1) (z8 rest[i] true I) (by omega)
   rwa [show O9 (rest[i]::rest.drop (i+1)) I=O9 (rest.drop (i+1)) (z8 rest[i] true I) from by show O9 _ (bif rest[i]==[] then I else _)=_;rw[hx];rfl]
abbrev AddR:=((Int×Unit)×((List (Str×Notation))×((List (Str×Notation))×((List (Str×Bool))×Unit))))×(Int×Unit)
theorem rest_ev2 (rest:List Str) (hl:rest.length≤cap) (hd:Str) (sz:Int) (B C:List (Str×Notation)) (I:List (Str×Bool)) (n:Notation) (h0:sE [] C=none): ∀ (d i:Nat),i+d=rest.length→
 pO (fun f m=>vf f m hd rest rest (rest.length:Int) (i:Int) sz B C I n) (bif (rest.drop i).any (fun s=>(sE s C).isSome) then (((sz,()),B,C,I,()),8,()) else (((IntKind.i64.wrap (sz+1),()),B,z8 hd n C,O9 rest I,()),0,())):=by
 have hl':=hl
 simp only[cap] at hl
 intro d
 induction d with
 |zero=>
  intro i hi
  refine pO.lp (fun n m=>by simp only[vf,yV];exact rfl) ?_
  have:decide ((i:Int)<(rest.length:Int))=false:=decide_eq_false (by omega)
  simp only[this,cond_false,j8 (show rest.length≤i by omega),lO]
  have:=YT rest hl' sz B (z8 hd n C) rest.length 0 I (by omega)
  exact pO.S7 (Ev.Fe (F:=fun f m=>uh f m rest (rest.length:Int) 0 sz B (z8 hd n C) I) this)
 |succ d ih=>
  intro i hi
  have hlt:i<rest.length:=by omega
  refine pO.lp (fun n m=>by simp only[vf,yV];exact rfl) ?_
  have:decide ((i:Int)<(rest.length:Int))=true:=decide_eq_true (by omega)
  simp only[this,cond_true]
  refine pO.idx hlt ?_
  rw[nV (by omega),j7 hlt,kQ]
  have next:=ih (i+1) (by omega)
  cases hf:sE rest[i] C with
  |none=>simp only[PK,lA,ke];exact next
  |some x=>
   simp only[PK,l6,ku,cond_true]
   cases hx:rest[i]==[] with
   |true=>have e:=beq_iff_eq.1 hx;rw[e,h0] at hf;cases hf
   |false=>exact pO.pure
theorem rest_ev3 (rest:List Str) (hl:rest.length≤cap) (hd:Str) (sz:Int) (B C:List (Str×Notation)) (I:List (Str×Bool)) (n:Notation) (h0:sE [] C=none): ∀ (d i:Nat),i+d=rest.length→
 pO (fun f m=>vg f m hd rest rest (rest.length:Int) (i:Int) sz B C I n) (bif (rest.drop i).any (fun s=>(sE s C).isSome) then (((sz,()),B,C,I,()),8,()) else (((IntKind.i64.wrap (sz+1),()),z8 hd n B,C,O9 rest I,()),0,())):=by
 have hl':=hl
 simp only[cap] at hl
 intro d
 induction d with
 |zero=>
  intro i hi
  refine pO.lp (fun n m=>by simp only[vg,yW];exact rfl) ?_
  have:decide ((i:Int)<(rest.length:Int))=false:=decide_eq_false (by omega)
  simp only[this,cond_false,j8 (show rest.length≤i by omega),lO]
  have:=YT rest hl' sz (z8 hd n B) C rest.length 0 I (by omega)
  exact pO.S7 (Ev.Fe (F:=fun f m=>uh f m rest (rest.length:Int) 0 sz (z8 hd n B) C I) this)
 |succ d ih=>
  intro i hi
  have hlt:i<rest.length:=by omega
  refine pO.lp (fun n m=>by simp only[vg,yW];exact rfl) ?_
  have:decide ((i:Int)<(rest.length:Int))=true:=decide_eq_true (by omega)
  simp only[this,cond_true]
  refine pO.idx hlt ?_
  rw[nV (by omega),j7 hlt,kQ]
  have next:=ih (i+1) (by omega)
  cases hf:sE rest[i] C with
  |none=>simp only[PK,lA,ke];exact next
  |some x=>
   simp only[PK,l6,ku,cond_true]
   cases hx:rest[i]==[] with
   |true=>have e:=beq_iff_eq.1 hx;rw[e,h0] at hf;cases hf
   |false=>exact pO.pure
theorem YU (xs:List Str) (s:Str) (hl:xs.length≤cap):Ev (fun n=>wk n xs s) (xs.contains s):=by
 simp only[cap] at hl
 refine Ev.fn (fun n=>by simp only[wk,zG];exact rfl) ?_
 have key: ∀d i:Nat,i+d=xs.length→pO (fun f m=>uV f m xs s (xs.length:Int) (i:Int)) (bif (xs.drop i).contains s then ((i+(xs.drop i).idxOf s:Nat):Int) else-1):=by
  intro d
  induction d with
  |zero=>
   intro i hi
   refine pO.lp (fun n m=>by simp only[uV,yd];exact rfl) ?_
   have:decide ((i:Int)<(xs.length:Int))=false:=decide_eq_false (by omega)
   simp only[this,cond_false,j8 (show xs.length≤i by omega),lD]
   exact pO.pure
  |succ d ih=>
   intro i hi
   have hlt:i<xs.length:=by omega
   refine pO.lp (fun n m=>by simp only[uV,yd];exact rfl) ?_
   have:decide ((i:Int)<(xs.length:Int))=true:=decide_eq_true (by omega)
   simp only[this,cond_true]
   refine pO.idx hlt ?_
   rw[nV (by omega),j7 hlt,kT,List.idxOf_cons]
   cases hx:s==xs[i] with
   |true=>
    have e:=beq_iff_eq.1 hx
    simp only[cond_true,ku,←e,beq_self_eq_true,l7]
    exact pO.pure
   |false=>
    have hx':(xs[i]==s)=false:=by rw[lF] at hx ⊢;intro h;exact hx (by rw[beq_iff_eq] at h ⊢;exact h.symm)
    simp only[cond_false,ke,hx']
    have:=ih (i+1) (by omega)
    rwa [show i+1+(xs.drop (i+1)).idxOf s=i+((xs.drop (i+1)).idxOf s+1) from by omega] at this
 have h1:=key xs.length 0 (by omega)
 rw[kH] at h1
 have h2:Ev (fun n=>xX n xs s) (bif xs.contains s then ((0+xs.idxOf s:Nat):Int) else-1):=by
  refine Ev.fn (fun n=>by simp only[xX,Bh];exact rfl) ?_
  exact Ev.Fe (F:=fun f m=>uV f m xs s (xs.length:Int) 0) h1
 refine Ev.bind h2 ?_
 cases xs.contains s with
 |true=>rw[cond_true,decide_eq_true (by omega)];exact Ev.pure
 |false=>exact Ev.pure
theorem YV {T:List Notation} {n:Notation}:T.any (fun t=>CE t n||yZ t n)=(T.any (fun t=>CE t n)||(T.any (fun t=>zW t&&(q7 n).contains (qa t))||T.any (fun t=>zW n&&(q7 t).contains (qa n)))):=by
 induction T with
 |nil=>rfl
 |cons t T ih=>
  rw[kQ,ih,kQ,kQ,kQ,show yZ t n=((zW t&&(q7 n).contains (qa t))||(zW n&&(q7 t).contains (qa n))) from rfl]
  generalize T.any (fun t=>CE t n)=p
  generalize T.any (fun t=>zW t&&(q7 n).contains (qa t))=q
  generalize T.any (fun t=>zW n&&(q7 t).contains (qa n))=r
  generalize CE t n=a
  generalize (zW t&&(q7 n).contains (qa t))=b
  generalize (zW n&&(q7 t).contains (qa n))=c
  cases a<;>cases b<;>cases c<;>cases p<;>cases q<;>cases r<;>rfl
theorem YW {T:List Notation} {n:Notation}:T.any (fun t=>CE t n)=(uS T (qa n) (zW n)).isSome:=by
 unfold uS CE
 induction T with
 |nil=>rfl
 |cons t T ih=>
  rw[kQ,ih,lN]
  cases zW t==zW n&&qa t==qa n<;>rfl
theorem YX {T:List Notation} {n:Notation} {C:List (Str×Notation)} (hc: ∀s,sE s C=uS T s true):(q7 n).any (fun s=>(sE s C).isSome)=T.any (fun t=>zW t&&(q7 n).contains (qa t)):=by
 rw[kI,List.any_eq_true,List.any_eq_true]
 constructor
 ·rintro ⟨s,hs,h⟩
  rw[hc,lT] at h
  obtain ⟨t,ht⟩:=h
  obtain ⟨a,b,c⟩:=zJ ht
  exact ⟨t,a,by rw[b,c,j9];exact lI.2 hs⟩
 ·rintro ⟨t,ht,h⟩
  rw[kJ] at h
  refine ⟨qa t,lI.1 h.2,?_⟩
  rw[hc,lT]
  cases hf:uS T (qa t) true with
  |some m=>exact ⟨m,rfl⟩
  |none=>
   have:=List.find?_eq_none.1 hf t ht
   simp [h.1] at this
theorem Vc {n:Notation}:q7 n=bif zW n then (n.parts.take n.parts.length).drop 2 else (n.parts.take n.parts.length).drop 1:=by
 unfold q7;rw[List.take_length]
theorem Idx.snocL {T:List Notation} {sz:Int} {B C:List (Str×Notation)} {I:List (Str×Bool)} {n:Notation} (X:Idx T sz B C I) (hT:T.length≤100) (hl:zW n=true) (hf:uS T (qa n) true=none):
 Idx (T++[n]) (IntKind.i64.wrap (sz+1)) B (z8 (qa n) n C) (O9 (q7 n) I):=by
 refine ⟨?_,fun s=> ?_,fun s=> ?_,fun s hs=> ?_⟩
 ·rw[X.sz,nV (by omega),kq,kG]
 ·rw[X.b,J5,hl]
  cases uS T s false<;>rfl
 ·rw[EW,X.c,J5,hl]
  simp only[beq_self_eq_true,j9]
  cases hs:s==qa n with
  |true=>have e:=beq_iff_eq.1 hs;subst e;rw[hf];simp
  |false=>
   have:(qa n==s)=false:=by rw[lF] at hs ⊢;intro h;exact hs (by rw[beq_iff_eq] at h ⊢;exact h.symm)
   rw[this];cases uS T s true<;>rfl
 ·rw[Pa _ _ _ hs,X.i s hs,List.any_append,kQ,lO,lG,lZ]
theorem Idx.snocR {T:List Notation} {sz:Int} {B C:List (Str×Notation)} {I:List (Str×Bool)} {n:Notation} (X:Idx T sz B C I) (hT:T.length≤100) (hl:zW n=false) (hf:uS T (qa n) false=none):
 Idx (T++[n]) (IntKind.i64.wrap (sz+1)) (z8 (qa n) n B) C (O9 (q7 n) I):=by
 refine ⟨?_,fun s=> ?_,fun s=> ?_,fun s hs=> ?_⟩
 ·rw[X.sz,nV (by omega),kq,kG]
 ·rw[EW,X.b,J5,hl]
  simp only[beq_self_eq_true,j9]
  cases hs:s==qa n with
  |true=>have e:=beq_iff_eq.1 hs;subst e;rw[hf];simp
  |false=>
   have:(qa n==s)=false:=by rw[lF] at hs ⊢;intro h;exact hs (by rw[beq_iff_eq] at h ⊢;exact h.symm)
   rw[this];cases uS T s false<;>rfl
 ·rw[X.c,J5,hl]
  cases uS T s true<;>rfl
 ·rw[Pa _ _ _ hs,X.i s hs,List.any_append,kQ,lO,lG,lZ]
theorem add_tot {T:List Notation} {sz:Int} {B C:List (Str×Notation)} {I:List (Str×Bool)} {n:Notation} (g:Jv T) (X:Idx T sz B C I) (h:WC n):
 sv (fun f=>yS f n sz B C I) (fun r=>r.2.1=Ku T n∧(Ku T n=0→Idx (T++[n]) r.1.1.1 r.1.2.1 r.1.2.2.1 r.1.2.2.2.1)):=by
 refine sv.fn (fun n=>by simp only[yS,BS];exact rfl) ?_
 refine sv.bind ((check_ev h).tot (Q:=(· =AY n)) rfl) fun x hx=> ?_
 subst hx
 cases hc:AY n==0 with
 |false=>
  simp only[bne,hc,kr,cond_true]
  have e:Ku T n=AY n:=by unfold Ku;rw[hc];rfl
  refine sv.pure ⟨e.symm,fun h0=> ?_⟩
  rw[e] at h0;rw[h0] at hc;cases hc
 |true=>
 simp only[bne,hc,kD,cond_false]
 have k:Ok n:=Ok.of (beq_iff_eq.1 hc)
 rw[show decide ((100:Int)≤sz)=decide (100≤T.length) from by rw[X.sz];exact decide_eq_decide.2 (by omega)]
 have hT:=g.len
 cases h100:decide (100≤T.length) with
 |true=>
  simp only[cond_true]
  have e:Ku T n=6:=by unfold Ku;rw[hc,h100];rfl
  exact sv.pure ⟨e.symm,fun h0=>by rw[e] at h0;cases h0⟩
 |false=>
 simp only[cond_false]
 have ea:Ku T n=bif yZ n n||T.any (fun t=>CE t n||yZ t n) then 8 else 0:=by unfold Ku;rw[hc,h100];rfl
 have bad:(yZ n n||T.any (fun t=>CE t n||yZ t n))=true→sv (fun _:Nat=>some ((((sz,()),B,C,I,()),8,()):AddR)) (fun r=>r.2.1=Ku T n∧(Ku T n=0→Idx (T++[n]) r.1.1.1 r.1.2.1 r.1.2.2.1 r.1.2.2.2.1)):=fun hb=>
  sv.pure ⟨by rw[ea,hb];rfl,fun h0=>by rw[ea,hb] at h0;cases h0⟩
 have h0:sE [] C=none:=by
  rw[X.c]
  cases hf:uS T [] true with
  |none=>rfl
  |some m=>
   obtain ⟨a,_,c⟩:=zJ hf
   exact absurd c (g.ok a).head_ne
 have hin:(q7 n).length≤cap:=by
  have:=k.Kw
  unfold q7
  cases zW n<;>simp only[cond_true,cond_false,kA]<;>omega
 refine sv.bind (P:=fun r=>r=bif zW n then (PR.ok (((sz,()),B,C,I,()),qa n,q7 n,())) else (PR.pn (((sz,()),B,C,I,()),qa n,q7 n,()))) ?_ fun x hx=> ?_
 ·refine sv.fn (fun n=>by simp only[zl,AK];exact rfl) ?_
  refine sv.bind ((zX k.pos).1.tot (Q:=(· =zW n)) rfl) fun x hx=> ?_
  subst hx
  cases hl:zW n with
  |true=>
   have h2:=k.UZ hl
   simp only[cond_true]
   rw[idx1 (by omega),decide_eq_true (show (2:Int)≤(n.parts.length:Int)∧(n.parts.length:Int)≤(n.parts.length:Int) by omega)]
   refine sv.pure ?_
   rw[Sv hl,LJ (by omega),Vc,hl];rfl
  |false=>
   have h2:=k.pos
   simp only[cond_false]
   rw[idx0 h2,decide_eq_true (show (1:Int)≤(n.parts.length:Int)∧(n.parts.length:Int)≤(n.parts.length:Int) by omega)]
   refine sv.pure ?_
   rw[PW hl,LJ (by omega),Vc,hl];rfl
 ·subst hx
  cases hl:zW n with
  |true=>
   simp only[cond_true,MT]
   have eC:(yZ n n||T.any (fun t=>CE t n||yZ t n))=((uS T (qa n) true).isSome||((q7 n).contains (qa n)||(T.any (fun t=>(q7 t).contains (qa n))||(q7 n).any (fun s=>(sE s C).isSome)))):=by
    rw[YV,YW,YX X.c,hl]
    unfold yZ
    rw[hl]
    simp only[j9,lz]
    generalize (q7 n).contains (qa n)=a
    generalize (uS T (qa n) true).isSome=b
    generalize T.any (fun t=>zW t&&(q7 n).contains (qa t))=c
    generalize T.any (fun t=>(q7 t).contains (qa n))=d
    cases a<;>cases b<;>cases c<;>cases d<;>rfl
   rw[eC] at ea bad
   rw[X.c]
   cases hf:uS T (qa n) true with
   |some m=>rw[hf] at bad;exact bad rfl
   |none=>
    simp only[PK]
    refine sv.bind ((zX k.pos).1.tot (Q:=(· =zW n)) rfl) fun x hx=> ?_
    subst hx
    rw[hl]
    simp only[cond_true]
    rw[X.i _ k.head_ne]
    cases hi:T.any (fun t=>(q7 t).contains (qa n)) with
    |true=>
     simp only[cond_true]
     rw[hi] at bad;exact bad (by rw[ku,lg,lg])
    |false=>
     simp only[cond_false]
     refine sv.bind ((YU _ _ hin).tot (Q:=(· =(q7 n).contains (qa n))) rfl) fun x hx=> ?_
     subst hx
     cases hcn:(q7 n).contains (qa n) with
     |true=>
      simp only[cond_true]
      rw[hcn] at bad;exact bad (by rw[ku,lg])
     |false=>
      simp only[cond_false]
      have:=rest_ev2 (q7 n) hin (qa n) sz B C I n h0 (q7 n).length 0 (by omega)
      rw[kH] at this
      refine (Ev.Fe (F:=fun f m=>vf f m (qa n) (q7 n) (q7 n) ((q7 n).length:Int) 0 sz B C I n) this).tot ?_
      rw[hf,hcn,hi] at ea
      simp only[lA,ke] at ea
      cases hr:(q7 n).any (fun s=>(sE s C).isSome) with
      |true=>
       rw[hr] at ea
       exact ⟨ea.symm,fun h0=>by rw[ea] at h0;cases h0⟩
      |false=>
       rw[hr] at ea
       exact ⟨ea.symm,fun _=>X.snocL hT hl hf⟩
  |false=>
   simp only[cond_false,MT]
   have eC:(yZ n n||T.any (fun t=>CE t n||yZ t n))=((uS T (qa n) false).isSome||(q7 n).any (fun s=>(sE s C).isSome)):=by
    rw[YV,YW,YX X.c,hl]
    unfold yZ
    rw[hl]
    simp only[kj,lz,ke]
    rw[show (T.any fun t=>false)=false from by rw[List.any_eq_false];intro _ _;simp,lG]
   rw[eC] at ea bad
   rw[X.b]
   cases hf:uS T (qa n) false with
   |some m=>rw[hf] at bad;exact bad rfl
   |none=>
    simp only[PK]
    refine sv.bind ((zX k.pos).1.tot (Q:=(· =zW n)) rfl) fun x hx=> ?_
    subst hx
    rw[hl]
    simp only[cond_false]
    have:=rest_ev3 (q7 n) hin (qa n) sz B C I n h0 (q7 n).length 0 (by omega)
    rw[kH] at this
    refine (Ev.Fe (F:=fun f m=>vg f m (qa n) (q7 n) (q7 n) ((q7 n).length:Int) 0 sz B C I n) this).tot ?_
    rw[hf] at ea
    simp only[lA,ke] at ea
    cases hr:(q7 n).any (fun s=>(sE s C).isSome) with
    |true=>
     rw[hr] at ea
     exact ⟨ea.symm,fun h0=>by rw[ea] at h0;cases h0⟩
    |false=>
     rw[hr] at ea
     exact ⟨ea.symm,fun _=>X.snocR hT hl hf⟩
theorem radd_ev {T:List Notation} {n:Notation} (g:Jv T) (h:WC n):Ev (fun f=>Jm f T n) (Ku T n):=by
 refine Ev.fn (fun n=>by simp only[Jm,K5];exact rfl) ?_
 refine Ev.bind (rcheck_ev h) ?_
 unfold Ku
 cases hc:AY n==0 with
 |false=>simp only[bne,hc,kr,cond_true,cond_false];exact Ev.pure
 |true=>
 simp only[bne,hc,kD,cond_false,cond_true]
 have k:Ok n:=Ok.of (beq_iff_eq.1 hc)
 rw[show decide ((100:Int)≤(T.length:Int))=decide (100≤T.length) from decide_eq_decide.2 (by omega)]
 have hT:=g.len
 cases h100:decide (100≤T.length) with
 |true=>exact Ev.pure
 |false=>
 simp only[cond_false]
 refine Ev.bind (YR k k) ?_
 cases yZ n n with
 |true=>exact Ev.pure
 |false=>
 simp only[cond_false,ke]
 have key: ∀d i:Nat,i+d=T.length→pO (fun f m=>AU f m T (i:Int) n) (bif (T.drop i).any (fun t=>CE t n||yZ t n) then 8 else 0):=by
  intro d
  induction d with
  |zero=>
   intro i hi
   refine pO.lp (fun n m=>by simp only[AU,Gp];exact rfl) ?_
   have:decide ((i:Int)<(T.length:Int))=false:=decide_eq_false (by omega)
   simp only[this,cond_false,j8 (show T.length≤i by omega),lO]
   exact pO.pure
  |succ d ih=>
   intro i hi
   have hlt:i<T.length:=by omega
   have kt:=g.ok (kg hlt)
   refine pO.lp (fun n m=>by simp only[AU,Gp];exact rfl) ?_
   have:decide ((i:Int)<(T.length:Int))=true:=decide_eq_true (by omega)
   simp only[this,cond_true]
   refine pO.idx hlt ?_
   have next:=ih (i+1) (by omega)
   rw[←nV (by omega)] at next
   rw[j7 hlt,kQ]
   have conf:pO (fun f m=>(xz T (i:Int)).bind fun x=>(xq f x n).bind fun x=>bif x then some 8 else AU f m T (IntKind.i64.wrap ((i:Int)+1)) n) (bif yZ T[i] n||(T.drop (i+1)).any (fun t=>CE t n||yZ t n) then 8 else 0):=by
    refine pO.idx hlt (pO.qH (YR kt k) ?_)
    cases yZ T[i] n with
    |true=>exact pO.pure
    |false=>exact next
   refine pO.qH (zX kt.pos).2 (pO.qH (zX k.pos).2 ?_)
   rw[show CE T[i] n=(zW T[i]==zW n&&qa T[i]==qa n) from rfl]
   cases zW T[i]==zW n with
   |false=>simp only[cond_false,kj,ke];exact conf
   |true=>
    simp only[cond_true,j9]
    refine pO.idx hlt (pO.qH (Lg kt) (pO.qH (Lg k) ?_))
    cases qa T[i]==qa n with
    |true=>exact pO.pure
    |false=>simp only[cond_false,ke];exact conf
 exact Ev.Fe (F:=fun f m=>AU f m T 0 n) (key T.length 0 (by omega))
theorem LK {T:List Notation} (hl:T.length≤cap) (h: ∀n∈T,WC n):Ev (fun f=>zx f T) (G7 T):=by
 refine Ev.fn (fun n=>by simp only[zx,IW];exact rfl) ?_
 simp only[cap] at hl
 have key: ∀d i:Nat,i+d=T.length→Jv (T.take i)→pO (fun f m=>Ar f m T (i:Int)) (PU (T.take i) (T.drop i)):=by
  intro d
  induction d with
  |zero=>
   intro i hi g
   refine pO.lp (fun n m=>by simp only[Ar,Eb];exact rfl) ?_
   have:decide ((i:Int)<(T.length:Int))=false:=decide_eq_false (by omega)
   simp only[this,cond_false,j8 (show T.length≤i by omega)]
   exact pO.pure
  |succ d ih=>
   intro i hi g
   have hlt:i<T.length:=by omega
   refine pO.lp (fun n m=>by simp only[Ar,Eb];exact rfl) ?_
   have:decide ((i:Int)<(T.length:Int))=true:=decide_eq_true (by omega)
   simp only[this,cond_true]
   rw[decide_eq_true (show (0:Int)≤(i:Int)∧(i:Int)≤(T.length:Int)∧(T.length:Int)≤(T.length:Int) by omega)]
   simp only[cond_true,lE]
   refine pO.idx hlt ?_
   refine pO.qH (radd_ev g (h _ (kg hlt))) ?_
   rw[j7 hlt,PU]
   cases ha:Ku (T.take i) T[i]==0 with
   |false=>simp only[bne,ha,kr,cond_true,kj];exact pO.pure
   |true=>
    simp only[bne,ha,kD,cond_false,j9]
    have g':=g.snoc (beq_iff_eq.1 ha)
    have e:T.take i++[T[i]]=T.take (i+1):=by rw[kE hlt]
    rw[e] at g' ⊢
    rw[nV (by omega)]
    exact ih (i+1) (by omega) g'
 have:=key T.length 0 (by omega) (by rw[kU];exact Jv.nil)
 rw[kU,kH] at this
 exact Ev.Fe (F:=fun f m=>Ar f m T 0) this
end Go.Abs
namespace Go.Abs
abbrev StP:=((List Syntax)×(Int×Unit))×((Int×Unit)×((List (Str×Notation))×((List (Str×Notation))×((List (Str×Bool))×Unit))))
def pos (L r:List Syntax):Int:=((L.length-r.length:Nat):Int)
theorem pos_at {L t r:List Syntax} (h:L=t++r):pos L r=(t.length:Int):=by
 subst h;unfold pos;rw[kq,lP]
theorem Wr (L:List Syntax):pos L []=(L.length:Int):=rfl
theorem pos_all (L:List Syntax):pos L L=0:=by unfold pos;rw[Nat.sub_self];rfl
theorem Hh {L:List Syntax} {y:Syntax} {r:List Syntax} (h:y::r<:+L):decide ((L.length:Int)≤pos L (y::r))=false∧xz L (pos L (y::r))=some y:=by
 obtain ⟨t,rfl⟩:=h
 rw[pos_at rfl]
 have hlt:t.length<(t++y::r).length:=by rw[kq,kf];omega
 refine ⟨decide_eq_false (by omega),?_⟩
 rw[uy hlt,List.getElem_append_right (kF _)]
 simp
theorem NY {L:List Syntax} {y:Syntax} {r:List Syntax} (h:y::r<:+L) (hL:L.length≤cap):IntKind.i64.wrap (pos L (y::r)+1)=pos L r:=by
 obtain ⟨t,rfl⟩:=h
 simp only[cap] at hL
 rw[kq,kf] at hL
 rw[pos_at rfl,pos_at (t:=t++[y]) (by simp),nV (by omega),kq,kG]
theorem Vd {L:List Syntax} {y:Syntax} {r:List Syntax} (h:y::r<:+L):r<:+L:=(lR y r).trans h
section prog
variable (L:List Syntax) (sz:Int) (B C:List (Str×Notation)) (I:List (Str×Bool))
def Ve (r:List Syntax):StP:=((L,pos L r,()),(sz,()),B,C,I,())
def Uk:Out→PR (StP×(Syntax×(Int×Unit))) (StP×(Unit×Unit))
 | .bad q=> .pn (Ve L sz B C I q,(),())
 | .val x h q=> .ok (Ve L sz B C I q,x,h,())
 | .ops _ _ q=> .pn (Ve L sz B C I q,(),())
def resR (n:Notation) (start:Int):Out→PR (StP×(Syntax×Unit)) (StP×(Unit×Unit))
 | .bad q=> .pn (Ve L sz B C I q,(),())
 | .val _ _ q=> .pn (Ve L sz B C I q,(),())
 | .ops l e q=> .ok (Ve L sz B C I q,Eh n l start e,())
theorem J6 {r:List Syntax} (h:r<:+L):Ev (fun f=>tJ f L (pos L r) sz B C I) (Ve L sz B C I r,match Hv r with|none=>([],false,())|some s=>(s,true,())):=by
 refine Ev.fn (fun n=>by simp only[tJ,zD];exact rfl) ?_
 match r,h with
 |[],h=>
  rw[Wr,decide_eq_true (l8 _)]
  exact Ev.pure
 |y::r,h=>
  obtain ⟨h1,h2⟩:=Hh h
  rw[h1,h2]
  simp only[cond_false,j6]
  rw[show Hv (y::r)=bif y.kind==17 then some y.text else none from rfl,bne]
  cases y.kind==17<;>exact Ev.pure
theorem app_ev1 (n:Notation) (ops:List Syntax) (hl:ops.length≤cap) (f t:Int) (r:List Syntax): ∀ (d i:Nat) (k:Int) (s:Str) (kids:List Syntax) (a b:Int),i+d=ops.length→
 pO (fun g m=>uD (nr g) (m8 g) (nN g) g m f t (ops.length:Int) (i:Int) L (pos L r) sz B C I ops k s kids a b) (.ok (Ve L sz B C I r,Kl (Syntax.mk k s 0 [] [] kids a b) (ops.drop i) f t,())):=by
 simp only[cap] at hl
 intro d
 induction d with
 |zero=>
  intro i k s kids a b hi
  refine pO.lp (fun n m=>by simp only[uD,xC];exact rfl) ?_
  have:decide ((i:Int)<(ops.length:Int))=false:=decide_eq_false (by omega)
  simp only[this,cond_false,j8 (show ops.length≤i by omega)]
  exact pO.pure
 |succ d ih=>
  intro i k s kids a b hi
  have hlt:i<ops.length:=by omega
  refine pO.lp (fun n m=>by simp only[uD,xC];exact rfl) ?_
  have:decide ((i:Int)<(ops.length:Int))=true:=decide_eq_true (by omega)
  simp only[this,cond_true]
  refine pO.idx hlt ?_
  rw[nV (by omega),j7 hlt]
  exact ih (i+1) 2 [] _ f t (by omega)
theorem app_ev2 (n:Notation) (ops:List Syntax) (hl:ops.length≤cap) (f t:Int) (r:List Syntax): ∀ (d i:Nat) (k:Int) (s:Str) (kids:List Syntax) (a b:Int),i+d=ops.length→
 pO (fun g m=>uE (nr g) (m8 g) (nN g) g m f t ops (ops.length:Int) (i:Int) L (pos L r) sz B C I k s kids a b) (.ok (Ve L sz B C I r,Kl (Syntax.mk k s 0 [] [] kids a b) (ops.drop i) f t,())):=by
 simp only[cap] at hl
 intro d
 induction d with
 |zero=>
  intro i k s kids a b hi
  refine pO.lp (fun n m=>by simp only[uE,xD];exact rfl) ?_
  have:decide ((i:Int)<(ops.length:Int))=false:=decide_eq_false (by omega)
  simp only[this,cond_false,j8 (show ops.length≤i by omega)]
  exact pO.pure
 |succ d ih=>
  intro i k s kids a b hi
  have hlt:i<ops.length:=by omega
  refine pO.lp (fun n m=>by simp only[uE,xD];exact rfl) ?_
  have:decide ((i:Int)<(ops.length:Int))=true:=decide_eq_true (by omega)
  simp only[this,cond_true]
  refine pO.idx hlt ?_
  rw[nV (by omega),j7 hlt]
  exact ih (i+1) 2 [] _ f t (by omega)
def PG:O3→Out→Prop
 | .level m r,o=>Ev (fun f=>nr f m L (pos L r) sz B C I) (Uk L sz B C I o)
 | .first m r,o=>Ev (fun f=>m8 f m L (pos L r) sz B C I) (Uk L sz B C I o)
 | .loop m out has r,o=>pO (fun f k=>qL (nr f) (m8 f) (nN f) f k m has L (pos L r) sz B C I out) (Uk L sz B C I o)
 | .parts n ps i ops e r,o=>Ok n→ ∀ (from_ j:Nat) (start:Int),i=from_+j→from_+j≤n.parts.length→ps=n.parts.drop i→ops.length≤i→
     pO (fun f k=>sr (nr f) (m8 f) (nN f) f k (from_:Int) start e (n.parts.drop from_) ((n.parts.drop from_).length:Int) (j:Int) L (pos L r) sz B C I n ops) (resR L sz B C I n start o)∧
     pO (fun f k=>rj (nr f) (m8 f) (nN f) f k (from_:Int) ops start e (n.parts.drop from_) ((n.parts.drop from_).length:Int) (j:Int) L (pos L r) sz B C I n) (resR L sz B C I n start o)
variable {L} {sz} {B} {C} {I} {T:List Notation}
theorem Pb {ops:List Syntax} (h:ops.length<17):decide ((ops.length+1)*120≤17592186044416)=true:=decide_eq_true (by omega)
theorem Fg {n:Notation} (k:Ok n) {from_:Nat} (hf:from_≤n.parts.length) {ops:List Syntax} (ho:ops.length≤from_) {r:List Syntax} {o:Out} (h:PG L sz B C I (.parts n (n.parts.drop from_) from_ ops 0 r) o) (start:Int):
 Ev (fun f=>nN f n (from_:Int) ops start L (pos L r) sz B C I) (resR L sz B C I n start o):=by
 refine Ev.fn (fun n=>by simp only[nN,AP];exact rfl) ?_
 rw[decide_eq_true (show (0:Int)≤(from_:Int)∧(from_:Int)≤(n.parts.length:Int)∧(n.parts.length:Int)≤(n.parts.length:Int) by omega)]
 simp only[cond_true,lE,List.take_length]
 exact Ev.Fe (F:=fun f k=>rj (nr f) (m8 f) (nN f) f k (from_:Int) ops start 0 (n.parts.drop from_) ((n.parts.drop from_).length:Int) 0 L (pos L r) sz B C I n) (h k from_ 0 start (by omega) (by omega) rfl ho).2
theorem N1 {n:Notation} {s:Str} {ps:List Str} {i from_ j:Nat} (hps:s::ps=n.parts.drop i) (hi:i=from_+j):
 ((j:Int)<((n.parts.drop from_).length:Int))∧xz (n.parts.drop from_) (j:Int)=some s∧ps=n.parts.drop (i+1)∧i<n.parts.length:=by
 have hlt:i<n.parts.length:=by
  have:=congrArg kV hps
  rw[kA,kf] at this
  omega
 have hd:=j7 hlt
 rw[hd,List.cons.injEq] at hps
 have hj:j<(n.parts.drop from_).length:=by rw[kA];omega
 refine ⟨by omega,?_,hps.2,hlt⟩
 rw[uy hj,List.getElem_drop,hps.1]
 subst hi;rfl
theorem N2 {i from_ j:Nat} {n:Notation} (hi:i=from_+j) (k:Ok n) (hle:from_+j≤n.parts.length):IntKind.i64.wrap ((from_:Int)+(j:Int))=((from_+j:Nat):Int):=by
 have:=k.Wm
 rw[wrap_small (by omega) (by omega)];omega
theorem Ei.prog (g:Jv T) (X:Idx T sz B C I) (hL:L.length≤cap) {c:O3} {o:Out} (h:Ei T c o):c.rest<:+L→PG L sz B C I c o:=by
 induction h with
 | @G8 n i ops e r=>
   intro hr k from_ j start hi hle hps ho
   have hj:from_+j=n.parts.length:=by
    have:=congrArg kV hps
    rw[kA,kC] at this
    omega
   have he:decide ((j:Int)<((n.parts.drop from_).length:Int))=false:=decide_eq_false (by rw[kA];omega)
   have hoc:ops.length≤cap:=by have:=k.Kw;omega
   constructor
   ·refine pO.lp (fun n m=>by simp only[sr,sY];exact rfl) ?_
    simp only[he,cond_false]
    have:=app_ev1 L sz B C I n ops hoc start e r ops.length 0 0 n.target [] start e (by omega)
    exact pO.S7 (Ev.Fe (F:=fun f m=>uD (nr f) (m8 f) (nN f) f m start e (ops.length:Int) 0 L (pos L r) sz B C I ops 0 n.target [] start e) this)
   ·refine pO.lp (fun n m=>by simp only[rj,sZ];exact rfl) ?_
    simp only[he,cond_false]
    have:=app_ev2 L sz B C I n ops hoc start e r ops.length 0 0 n.target [] start e (by omega)
    exact pO.S7 (Ev.Fe (F:=fun f m=>uE (nr f) (m8 f) (nN f) f m start e ops (ops.length:Int) 0 L (pos L r) sz B C I 0 n.target [] start e) this)
 | @LB n ps i ops e r q h1 ih=>
   intro hr k from_ j start hi hle hps ho
   obtain ⟨hlt,hx,hd,SR⟩:=N1 hps hi
   constructor
   ·refine pO.lp (fun n m=>by simp only[sr,sY];exact rfl) ?_
    rw[decide_eq_true hlt]
    simp only[cond_true,hx,j6,beq_self_eq_true]
    rw[N2 hi k hle,←hi]
    refine pO.qH (Ff k (i:=i) (by omega)) (pO.qH (ih hr) ?_)
    exact pO.pure
   ·refine pO.lp (fun n m=>by simp only[rj,sZ];exact rfl) ?_
    rw[decide_eq_true hlt]
    simp only[cond_true,hx,j6,beq_self_eq_true]
    rw[N2 hi k hle,←hi]
    refine pO.qH (Ff k (i:=i) (by omega)) (pO.qH (ih hr) ?_)
    exact pO.pure
 | @hole n ps i ops e r x h q o h1 h2 ih1 ih2=>
   intro hr k from_ j start hi hle hps ho
   obtain ⟨hlt,hx,hd,SR⟩:=N1 hps hi
   have hq:q<:+L:=(h1.suff (o:= .val x h q)).trans hr
   have next:=(ih2 hq k from_ (j+1) start (by omega) (by omega) hd (by rw[kq,kG];omega)).1
   have hw:IntKind.i64.wrap ((j:Int)+1)=((j+1:Nat):Int):=nV (by have:=k.Wm;omega)
   constructor
   ·refine pO.lp (fun n m=>by simp only[sr,sY];exact rfl) ?_
    rw[decide_eq_true hlt]
    simp only[cond_true,hx,j6,beq_self_eq_true]
    rw[N2 hi k hle,←hi]
    refine pO.qH (Ff k (i:=i) (by omega)) (pO.qH (ih1 hr) ?_)
    simp only[Uk,MT,Ve]
    rw[Pb (by have:=k.Wm;omega),hw]
    exact next
   ·refine pO.lp (fun n m=>by simp only[rj,sZ];exact rfl) ?_
    rw[decide_eq_true hlt]
    simp only[cond_true,hx,j6,beq_self_eq_true]
    rw[N2 hi k hle,←hi]
    refine pO.qH (Ff k (i:=i) (by omega)) (pO.qH (ih1 hr) ?_)
    simp only[Uk,MT,Ve]
    rw[Pb (by have:=k.Wm;omega),hw]
    exact next
 | @O4 n s ps i ops e r hs hq=>
   intro hr k from_ j start hi hle hps ho
   obtain ⟨hlt,hx,hd,SR⟩:=N1 hps hi
   have hs':(s==[])=false:=beq_eq_false_iff_ne.2 hs
   constructor
   ·refine pO.lp (fun n m=>by simp only[sr,sY];exact rfl) ?_
    rw[decide_eq_true hlt]
    simp only[cond_true,hx,j6,hs',cond_false]
    refine pO.qH (J6 L sz B C I hr) ?_
    cases hy:Hv r with
    |none=>exact pO.pure
    |some t=>
     have:(t==s)=false:=beq_eq_false_iff_ne.2 fun e=>hq (by rw[hy,e])
     simp only[cond_true,this,cond_false]
     exact pO.pure
   ·refine pO.lp (fun n m=>by simp only[rj,sZ];exact rfl) ?_
    rw[decide_eq_true hlt]
    simp only[cond_true,hx,j6,hs',cond_false]
    refine pO.qH (J6 L sz B C I hr) ?_
    cases hy:Hv r with
    |none=>exact pO.pure
    |some t=>
     have:(t==s)=false:=beq_eq_false_iff_ne.2 fun e=>hq (by rw[hy,e])
     simp only[cond_true,this,cond_false]
     exact pO.pure
 | @sym n s ps i ops e y r o hs hk ht h2 ih=>
   intro hr k from_ j start hi hle hps ho
   obtain ⟨hlt,hx,hd,SR⟩:=N1 hps hi
   have hs':(s==[])=false:=beq_eq_false_iff_ne.2 hs
   simp only[O3.rest] at hr ih
   obtain ⟨next1,next2⟩:=ih (Vd hr) k from_ (j+1) start (by omega) (by omega) hd (by omega)
   have hw:IntKind.i64.wrap ((j:Int)+1)=((j+1:Nat):Int):=nV (by have:=k.Wm;omega)
   have hp:=NY hr hL
   constructor
   ·refine pO.lp (fun n m=>by simp only[sr,sY];exact rfl) ?_
    rw[decide_eq_true hlt]
    simp only[cond_true,hx,j6,hs',cond_false]
    refine pO.qH (J6 L sz B C I hr) ?_
    rw[LF hk]
    simp only[ht,beq_self_eq_true,cond_true,Ve,(Hh hr).2,j6,hp,hw]
    exact next1
   ·refine pO.lp (fun n m=>by simp only[rj,sZ];exact rfl) ?_
    rw[decide_eq_true hlt]
    simp only[cond_true,hx,j6,hs',cond_false]
    refine pO.qH (J6 L sz B C I hr) ?_
    rw[LF hk]
    simp only[ht,beq_self_eq_true,cond_true,Ve,(Hh hr).2,j6,hp,hw]
    exact next2
 | @G9 m=>
   intro hr
   show Ev (fun f=>m8 f m L (pos L []) sz B C I) _
   refine Ev.fn (fun n=>by simp only[m8,sF];exact rfl) ?_
   rw[Wr,decide_eq_true (l8 _)]
   exact Ev.pure
 | @Ce m x r hx=>
   intro hr
   show Ev (fun f=>m8 f m L (pos L (x::r)) sz B C I) _
   refine Ev.fn (fun n=>by simp only[m8,sF];exact rfl) ?_
   obtain ⟨h1,h2⟩:=Hh hr
   rw[h1,h2,NY hr hL]
   have:(x.kind !=17)=true:=by rw[bne,beq_eq_false_iff_ne.2 hx];rfl
   simp only[cond_false,j6,this,cond_true]
   exact Ev.pure
 | @Gt m x r hx hb=>
   intro hr
   show Ev (fun f=>m8 f m L (pos L (x::r)) sz B C I) _
   refine Ev.fn (fun n=>by simp only[m8,sF];exact rfl) ?_
   obtain ⟨h1,h2⟩:=Hh hr
   rw[h1,h2]
   have:(x.kind !=17)=false:=by rw[bne,beq_iff_eq.2 hx];rfl
   simp only[cond_false,j6,this,X.b]
   unfold Uf at hb
   cases hf:uS T x.text false with
   |none=>exact Ev.pure
   |some n=>
    rw[hf] at hb
    have kn:=g.ok (zJ hf).1
    simp only[PK]
    cases hc:FO n&&decide (n.level<m) with
    |false=>simp only[hc] at hb;cases hb
    |true=>
     rw[kJ] at hc
     refine Ev.bind (u0 kn.pos kn.Kw).1 ?_
     rw[hc.1,hc.2]
     exact Ev.pure
 | @Jr m x r n q hx hb h1 ih=>
   intro hr
   show Ev (fun f=>m8 f m L (pos L (x::r)) sz B C I) _
   refine Ev.fn (fun n=>by simp only[m8,sF];exact rfl) ?_
   obtain ⟨e1,e2⟩:=Hh hr
   rw[e1,e2]
   have:(x.kind !=17)=false:=by rw[bne,beq_iff_eq.2 hx];rfl
   obtain ⟨hn,hl,hh,YM⟩:=Gu hb
   have kn:=g.ok hn
   have hf:uS T x.text false=some n:=by rw[←hh,←hl];exact Bd g hn
   simp only[cond_false,j6,this,X.b,hf,PK]
   have s9:=Fg kn (kN _) (kF 0) (ops:=[]) (ih hr) x.from_
   refine Ev.bind (u0 kn.pos kn.Kw).1 ?_
   cases Ws:FO n with
   |true=>
    have:decide (n.level<m)=false:=decide_eq_false (by have:=YM Ws;omega)
    simp only[cond_true,this,cond_false]
    refine Ev.bind (u0 kn.pos kn.Kw).1 ?_
    rw[Ws]
    exact Ev.bind s9 Ev.pure
   |false=>
    simp only[cond_false]
    refine Ev.bind (u0 kn.pos kn.Kw).1 ?_
    rw[Ws]
    exact Ev.bind s9 Ev.pure
 | @first m x r n l e q hx hb h1 ih=>
   intro hr
   show Ev (fun f=>m8 f m L (pos L (x::r)) sz B C I) _
   refine Ev.fn (fun n=>by simp only[m8,sF];exact rfl) ?_
   obtain ⟨e1,e2⟩:=Hh hr
   rw[e1,e2]
   have:(x.kind !=17)=false:=by rw[bne,beq_iff_eq.2 hx];rfl
   obtain ⟨hn,hl,hh,YM⟩:=Gu hb
   have kn:=g.ok hn
   have hf:uS T x.text false=some n:=by rw[←hh,←hl];exact Bd g hn
   simp only[cond_false,j6,this,X.b,hf,PK]
   have s9:=Fg kn (kN _) (kF 0) (ops:=[]) (ih hr) x.from_
   refine Ev.bind (u0 kn.pos kn.Kw).1 ?_
   have ho:outLev n=bif FO n then n.level else 101:=rfl
   cases Ws:FO n with
   |true=>
    rw[Ws] at ho
    have:decide (n.level<m)=false:=decide_eq_false (by have:=YM Ws;omega)
    simp only[cond_true,this,cond_false]
    refine Ev.bind (u0 kn.pos kn.Kw).1 ?_
    rw[Ws]
    refine Ev.bind s9 ?_
    simp only[resR,Uk,MT,Ve,ho,cond_true]
    exact Ev.pure
   |false=>
    rw[Ws] at ho
    simp only[cond_false]
    refine Ev.bind (u0 kn.pos kn.Kw).1 ?_
    rw[Ws]
    refine Ev.bind s9 ?_
    simp only[resR,Uk,MT,Ve,ho,cond_false]
    exact Ev.pure
 | @stop m out has r hg=>
   intro hr
   show pO (fun f k=>qL (nr f) (m8 f) (nN f) f k m has L (pos L r) sz B C I out) _
   refine pO.lp (fun n m=>by simp only[qL,vJ];exact rfl) ?_
   refine pO.qH (J6 L sz B C I hr) ?_
   unfold Qy at hg
   cases hs:Hv r with
   |none=>exact pO.pure
   |some s=>
    rw[hs] at hg
    simp only at hg
    simp only[cond_true,Ve,X.c]
    cases hf:uS T s true with
    |none=>exact pO.pure
    |some n=>
     rw[hf] at hg
     have kn:=g.ok (zJ hf).1
     simp only[PK]
     cases h1:decide (n.level<m) with
     |true=>exact pO.pure
     |false=>
      simp only[cond_false]
      refine pO.qH (Ff kn (i:=0) kn.pos) ?_
      cases h2:decide (has<u9 n 0) with
      |true=>exact pO.pure
      |false=>simp [h1,h2] at hg
 | @U0 m out has r n q hg h1 ih=>
   intro hr
   show pO (fun f k=>qL (nr f) (m8 f) (nN f) f k m has L (pos L r) sz B C I out) _
   refine pO.lp (fun n m=>by simp only[qL,vJ];exact rfl) ?_
   refine pO.qH (J6 L sz B C I hr) ?_
   obtain ⟨hn,hl,hs,hm,hh⟩:=Gv hg
   have kn:=g.ok hn
   have hf:uS T (qa n) true=some n:=by rw[←hl];exact Bd g hn
   have s9:=Fg kn kn.pos (kF 1) (ops:=[out]) (ih hr) out.from_
   rw[hs]
   simp only[cond_true,Ve,X.c,hf,PK]
   rw[decide_eq_false (show ¬ n.level<m by omega)]
   simp only[cond_false]
   refine pO.qH (Ff kn (i:=0) kn.pos) ?_
   rw[decide_eq_false (show ¬ has<u9 n 0 by omega)]
   exact pO.qH s9 pO.pure
 | @go m out has r n l e q o hg h1 h2 ih1 ih2=>
   intro hr
   show pO (fun f k=>qL (nr f) (m8 f) (nN f) f k m has L (pos L r) sz B C I out) _
   refine pO.lp (fun n m=>by simp only[qL,vJ];exact rfl) ?_
   refine pO.qH (J6 L sz B C I hr) ?_
   obtain ⟨hn,hl,hs,hm,hh⟩:=Gv hg
   have kn:=g.ok hn
   have hf:uS T (qa n) true=some n:=by rw[←hl];exact Bd g hn
   have s9:=Fg kn kn.pos (kF 1) (ops:=[out]) (ih1 hr) out.from_
   rw[hs]
   simp only[cond_true,Ve,X.c,hf,PK]
   rw[decide_eq_false (show ¬ n.level<m by omega)]
   simp only[cond_false]
   refine pO.qH (Ff kn (i:=0) kn.pos) ?_
   rw[decide_eq_false (show ¬ has<u9 n 0 by omega)]
   refine pO.qH s9 ?_
   exact ih2 ((h1.suff (o:= .ops l e q)).trans hr)
 | @He m r q h1 ih=>
   intro hr
   show Ev (fun f=>nr f m L (pos L r) sz B C I) _
   refine Ev.fn (fun n=>by simp only[nr,yp];exact rfl) ?_
   exact Ev.bind (ih hr) Ev.pure
 | @level m r x h q o h1 h2 ih1 ih2=>
   intro hr
   show Ev (fun f=>nr f m L (pos L r) sz B C I) _
   refine Ev.fn (fun n=>by simp only[nr,yp];exact rfl) ?_
   refine Ev.bind (ih1 hr) ?_
   exact Ev.Fe (F:=fun f k=>qL (nr f) (m8 f) (nN f) f k m h L (pos L q) sz B C I x) (ih2 ((h1.suff (o:= .val x h q)).trans hr))
end prog
end Go.Abs
namespace Go.Abs
section ref
variable (T:List Notation) (L:List Syntax)
variable {T} {L}
theorem drop_at {n:Notation} {s:Str} {ps:List Str} {i:Nat} (hps:s::ps=n.parts.drop i):decide ((i:Int)<(n.parts.length:Int))=true∧xz n.parts (i:Int)=some s∧ps=n.parts.drop (i+1)∧i<n.parts.length:=by
 obtain ⟨h1,h2,h3,h4⟩:=N1 (n:=n) (from_:=0) (j:=i) hps (by omega)
 rw[kH] at h1 h2
 exact ⟨decide_eq_true h1,h2,h3,h4⟩
theorem Ev.Y0 {S R:Type} {F:Nat→Option S} {x:S} {G:Nat→S→Option R} {Q:R→Prop} (h:Ev F x) (hg:sv (fun n=>G n x) Q):sv (fun n=>(F n).bind (G n)) Q:=
 sv.bind (h.tot (Q:=(· =x)) rfl) fun y hy=>by subst hy;exact hg
end ref
end Go.Abs
namespace Go.Abs
def IndexQ (T:List Notation) (b:Bool) (r:PR (Unit×Unit) (((Int×Unit)×((List (Str×Notation))×((List (Str×Notation))×((List (Str×Bool))×Unit))))×Unit)):Prop:=
 (b=true∧ ∃sz B C I,r= .pn (((sz,()),B,C,I,()),())∧Idx T sz B C I)∨(b=false∧r= .ok ((),()))
theorem Vg {T:List Notation} (hl:T.length≤cap) (h: ∀n∈T,WC n):
 sv (fun f=>wS f T) (IndexQ T (G7 T)):=by
 refine sv.fn (fun n=>by simp only[wS,C9];exact rfl) ?_
 simp only[cap] at hl
 have hnew:Ev (fun f=>zh f) (((0,()),[],[],[],()),()):=by
  refine Ev.fn (fun n=>by simp only[zh,Cn];exact rfl) ?_
  exact Ev.pure
 refine hnew.Y0 ?_
 have key: ∀ (d i:Nat) (sz:Int) (B C:List (Str×Notation)) (I:List (Str×Bool)),i+d=T.length→Jv (T.take i)→Idx (T.take i) sz B C I→
  oG (fun f m=>wE f m T (T.length:Int) (i:Int) sz B C I) (IndexQ T (PU (T.take i) (T.drop i))):=by
  intro d
  induction d with
  |zero=>
   intro i sz B C I hi g X
   refine oG.lp (fun n m=>by simp only[wE,zV];exact rfl) ?_
   have:decide ((i:Int)<(T.length:Int))=false:=decide_eq_false (by omega)
   simp only[this,cond_false,j8 (show T.length≤i by omega)]
   rw[kY (by omega)] at X
   exact oG.pure (.inl ⟨by first|rfl|trivial,sz,B,C,I,rfl,X⟩)
  |succ d ih=>
   intro i sz B C I hi g X
   have hlt:i<T.length:=by omega
   refine oG.lp (fun n m=>by simp only[wE,zV];exact rfl) ?_
   have:decide ((i:Int)<(T.length:Int))=true:=decide_eq_true (by omega)
   simp only[this,cond_true]
   refine oG.idx hlt ?_
   refine oG.qH (add_tot g X (h _ (kg hlt))) fun r hr=> ?_
   obtain ⟨h1,h2⟩:=hr
   rw[h1,j7 hlt,PU]
   cases ha:Ku (T.take i) T[i]==0 with
   |false=>simp only[bne,ha,kr,cond_true,kj];exact oG.pure (.inr ⟨rfl,rfl⟩)
   |true=>
    simp only[bne,ha,kD,cond_false,j9]
    have h0:=beq_iff_eq.1 ha
    have g':=g.snoc h0
    have X':=h2 h0
    have e:T.take i++[T[i]]=T.take (i+1):=by rw[kE hlt]
    rw[e] at g' X' ⊢
    rw[nV (by omega)]
    exact ih (i+1) _ _ _ _ (by omega) g' X'
 have:=key T.length 0 0 [] [] [] (by omega) (by rw[kU];exact Jv.nil) (by rw[kU];exact Idx.nil)
 rw[kU,kH] at this
 exact sv.Fe (F:=fun f m=>wE f m T (T.length:Int) 0 0 [] [] []) this
def zS:Syntax:= .mk 0 [] 0 [] [] [] 0 0
def xT (L:List Syntax):Out→Syntax×Int×Int
 | .bad q=>(zS,pos L q,4)
 | .val x _ q=>bif q.isEmpty then (x,0,0) else (zS,pos L q,4)
 | .ops _ _ _=>(zS,0,0)
def ParseR (T:List Notation) (L:List Syntax) (p:Syntax×Int×Int):Prop:=
 (G7 T=false∧p=(zS,0,3))∨(G7 T=true∧4096<L.length∧p=(zS,0,6))∨(G7 T=true∧L.length≤4096∧ ∃o,Ei T (.level 0 L) o∧p=xT L o)
theorem SI {T:List Notation} {L:List Syntax} (hl:T.length≤cap) (h: ∀n∈T,WC n) (hL:L.length≤cap) (ht:G7 T=true) (hb: ¬ 4096<L.length) {o:Out} (ho:Ei T (.level 0 L) o):
 Ev (fun f=>tW f T L) (xT L o):=by
 obtain ⟨ri,hri,evi⟩:=Vg hl h
 have evt:=LK hl h
 have e4096:decide ((4096:Int)<(L.length:Int))=decide (4096<L.length):=decide_eq_decide.2 (by omega)
 have g:=Jv.of ht
 rcases hri with ⟨_,sz,B,C,I,rfl,X⟩|⟨ht',rfl⟩
 ·rw[ht] at evt
  refine Ev.fn (fun n=>by simp only[tW,ET];exact rfl) ?_
  refine Ev.bind evi ?_
  simp only[MT,e4096,decide_eq_false hb,cond_false]
  have hp:Ev (fun f=>nr f 0 L (pos L L) sz B C I) (Uk L sz B C I o):=Ei.prog g X hL ho (k5 _)
  rw[pos_all] at hp
  refine Ev.bind hp ?_
  have qp: ∀ (x:Syntax) (q:List Syntax),Ev (fun f=>(uc f () x 0 0 L (pos L q) sz B C I).bind fun x=>some (x.fst.snd.fst.fst,x.fst.snd.snd.fst.fst,x.fst.snd.snd.snd.fst.fst)) (zS,pos L q,4):=by
   intro x q
   refine Ev.bind (x:=(((),(zS,()),(pos L q,()),(4,()),(L,pos L q,()),(sz,()),B,C,I,()),())) ?_ Ev.pure
   refine Ev.fn (fun n=>by simp only[uc,Bg];exact rfl) ?_
   exact Ev.pure
  rcases LD ho rfl with ⟨q,rfl⟩|⟨x,hh,q,rfl⟩
  ·simp only[Uk,MT,Ve]
   exact qp _ _
  ·simp only[Uk,MT,Ve]
   have hs:q<:+L:=ho.suff (o:= .val x hh q)
   match q,hs with
   |[],hs=>
    rw[Wr,decide_eq_false (lX _)]
    simp only[cond_false]
    refine Ev.bind (x:=(((),(x,()),(0,()),(0,()),(L,(L.length:Int),()),(sz,()),B,C,I,()),())) ?_ Ev.pure
    refine Ev.fn (fun n=>by simp only[u6,Bf];exact rfl) ?_
    exact Ev.pure
   |y::q,hs=>
    have:=(Hh hs).1
    rw[decide_eq_true (show pos L (y::q)<(L.length:Int) by have:=of_decide_eq_false this;omega)]
    exact qp _ _
 ·rw[ht] at ht';cases ht'
inductive xQ:Syntax→Prop
 |mk {e:Syntax}:e.names.length≤cap→e.levels.length≤cap→(∀l∈e.levels,l.atoms.length≤cap)→e.kids.length≤cap→(∀x∈e.kids,xQ x)→xQ e
theorem xQ.bnd {e:Syntax} (h:xQ e):e.names.length≤cap∧e.levels.length≤cap∧(∀l∈e.levels,l.atoms.length≤cap)∧e.kids.length≤cap:=by cases h;exact ⟨by assumption,by assumption,by assumption,by assumption⟩
theorem xQ.kid {e:Syntax} (h:xQ e): ∀x∈e.kids,xQ x:=by cases h;assumption
theorem Syntax.bulkEq (e:Syntax):e.bulk=1+((e.text.length+1)+(1+(sumB (fun m:Str=>m.length+1) e.names+(sumB mT.bulk e.levels+(sumB Syntax.bulk e.kids+(1+(1+1))))))):=by
 cases e
 simp only[Syntax.bulk,Syntax.text,Syntax.names,Syntax.levels,Syntax.kids,Syntax.bulkL_eq]
theorem Syntax.Y1 (e:Syntax):1≤e.bulk:=by rw[Syntax.bulkEq];omega
theorem xQ.of: ∀e:Syntax,e.bulk≤cap→xQ e:=by
 intro e
 induction e using Syntax.ind with
 |h e ih=>
  intro hb
  rw[Syntax.bulkEq] at hb
  have h1:=FL (bk:=fun m:Str=>m.length+1) (fun _=>Nat.le_add_left _ _) e.names
  have h2:=FL (bk:=mT.bulk) (fun x=>by unfold mT.bulk;omega) e.levels
  have h3:=FL (bk:=Syntax.bulk) Syntax.Y1 e.kids
  refine .mk (by omega) (by omega) (fun l hl=> ?_) (by omega) (fun x hx=>ih x hx ?_)
  ·have h4:=Jt (bk:=mT.bulk) hl
   rw[show l.bulk=1+(sumB mX.bulk l.atoms+1) from rfl] at h4
   have h5:=FL (bk:=mX.bulk) (fun x=>by unfold mX.bulk;omega) l.atoms
   omega
  ·have:=Jt (bk:=Syntax.bulk) hx
   omega
theorem sfin_app {o x:Syntax} {f t:Int} (h1:xQ o) (h2:xQ x):xQ (appN o x f t):=by
 refine .mk (kN _) (kN _) (fun l hl=>by cases hl) (by show 2≤cap;simp only[cap];omega) (fun y hy=> ?_)
 have hy:y∈[o,x]:=hy
 simp only[lV,List.not_mem_nil,or_false] at hy
 rcases hy with rfl|rfl
 ·exact h1
 ·exact h2
theorem Vh (f t:Int): ∀ (l:List Syntax) (o:Syntax),xQ o→(∀x∈l,xQ x)→xQ (Kl o l f t)
 |[],o,h,_=>h
 |x::l,o,h,hl=>Vh f t l _ (sfin_app h (hl x kS)) fun y hy=>hl y (kW _ hy)
theorem SJ (n:Notation) (l:List Syntax) (f t:Int) (h: ∀x∈l,xQ x):xQ (Eh n l f t):=
 Vh f t l _ (.mk (kN _) (kN _) (fun l hl=>by cases hl) (kN _) (fun x hx=>by cases hx)) h
def FinC:O3→Prop
 | .parts _ _ _ ops _ r=>(∀x∈ops,xQ x)∧ ∀x∈r,xQ x
 | .first _ r=> ∀x∈r,xQ x
 | .loop _ out _ r=>xQ out∧ ∀x∈r,xQ x
 | .level _ r=> ∀x∈r,xQ x
def FinO:Out→Prop
 | .bad _=>True
 | .val x _ _=>xQ x
 | .ops l _ _=> ∀x∈l,xQ x
theorem Ei.fin {T:List Notation} {c:O3} {o:Out} (h:Ei T c o):FinC c→FinO o:=by
 induction h with
 |G8=>intro h;exact h.1
 |LB _ _=>intro _;trivial
 | @hole n ps i ops e r x h q o h1 h2 ih1 ih2=>
   intro hf
   have hx:xQ x:=ih1 hf.2
   refine ih2 ⟨fun y hy=> ?_,fun y hy=>hf.2 y ((h1.suff (o:= .val x h q)).subset hy)⟩
   rcases kM.1 hy with hy|hy
   ·exact hf.1 y hy
   ·rw[ko.1 hy];exact hx
 |O4 _ _=>intro _;trivial
 |sym _ _ _ _ ih=>intro hf;exact ih ⟨hf.1,fun y hy=>hf.2 y (kW _ hy)⟩
 |G9=>intro _;trivial
 |Ce _=>intro hf;exact hf _ kS
 |Gt _ _=>intro _;trivial
 |Jr _ _ _ _=>intro _;trivial
 |first _ _ _ ih=>intro hf;exact SJ _ _ _ _ (ih ⟨fun y hy=>(by cases hy),hf⟩)
 |stop _=>intro hf;exact hf.1
 |U0 _ _ _=>intro _;trivial
 | @go m out has r n l e q o hg h1 h2 ih1 ih2=>
   intro hf
   refine ih2 ⟨SJ _ _ _ _ (ih1 ⟨fun y hy=> ?_,hf.2⟩),fun y hy=>hf.2 y ((h1.suff (o:= .ops l e q)).subset hy)⟩
   rw[ko.1 hy];exact hf.1
 |He _ _=>intro _;trivial
 | @level m r x h q o h1 h2 ih1 ih2=>
   intro hf
   exact ih2 ⟨ih1 hf,fun y hy=>hf y ((h1.suff (o:= .val x h q)).subset hy)⟩
theorem SK:xQ zS:= .mk (kN _) (kN _) (fun l hl=>by cases hl) (kN _) (fun x hx=>by cases hx)
theorem ParseR.fin {T:List Notation} {L:List Syntax} {p:Syntax×Int×Int} (h:ParseR T L p) (hL: ∀x∈L,xQ x):xQ p.1:=by
 rcases h with ⟨_,rfl⟩|⟨_,_,rfl⟩|⟨_,_,o,ho,rfl⟩
 ·exact SK
 ·exact SK
 ·have:=ho.fin hL
  cases o with
  |bad q=>exact SK
  |val x hh q=>
   show xQ (bif q.isEmpty then (x,0,0) else (zS,pos L q,4)).1
   cases q.isEmpty with
   |true=>exact this
   |false=>exact SK
  |ops _ _ _=>exact SK
theorem levels_in (f:Nat) (X:List mT→List mT→Int→Option Bool) (l:List mT) (i:Nat) (hlt:i<l.length) (hl:l.length≤1048640) (hX:X l l ((i+1:Nat):Int)=some true) (ha:l[i].atoms.length≤1048640):
 ∀d j:Nat,j+d=l[i].atoms.length→ ∀k,d<k→xW f X k l l (i:Int) (j:Int)=some true:=by
 intro d
 induction d with
 |zero=>
  intro j hj k hk
  obtain ⟨k,rfl⟩: ∃k',k=k'+1:=⟨k-1,by omega⟩
  simp only[xW,zP,uy hlt,j6]
  rw[decide_eq_false (show ¬ (j:Int)<(l[i].atoms.length:Int) by omega),cond_false,nV (by omega)]
  exact hX
 |succ d ih=>
  intro j hj k hk
  obtain ⟨k,rfl⟩: ∃k',k=k'+1:=⟨k-1,by omega⟩
  have hjl:j<l[i].atoms.length:=by omega
  simp only[xW,zP,uy hlt,j6,uy hjl,beq_self_eq_true,Bool.and_self]
  rw[decide_eq_true (show (j:Int)<(l[i].atoms.length:Int) by omega),cond_true,cond_true,nV (by omega)]
  exact ih (j+1) (by omega) k (by omega)
theorem levels_ev (l:List mT) (hl:l.length≤cap) (ha: ∀x∈l,x.atoms.length≤cap):Ev (fun f=>Ac f l l) true:=by
 simp only[cap] at hl ha
 refine Ev.fn (fun n=>by simp only[Ac,C4];exact rfl) ?_
 simp only[bne_self_eq_false,cond_false]
 have key: ∀d i:Nat,i+d=l.length→pO (fun f m=>wC f m l l (i:Int)) true:=by
  intro d
  induction d with
  |zero=>
   intro i hi
   refine pO.lp (fun n m=>by simp only[wC,zQ];exact rfl) ?_
   have:decide ((i:Int)<(l.length:Int))=false:=decide_eq_false (by omega)
   simp only[this,cond_false]
   exact pO.pure
  |succ d ih=>
   intro i hi
   have hlt:i<l.length:=by omega
   refine pO.lp (fun n m=>by simp only[wC,zQ];exact rfl) ?_
   have:decide ((i:Int)<(l.length:Int))=true:=decide_eq_true (by omega)
   simp only[this,cond_true,uy hlt,j6,beq_self_eq_true,bne_self_eq_false,cond_false]
   have hal:=ha _ (kg hlt)
   obtain ⟨N,hN⟩:=ih (i+1) (by omega)
   refine ⟨max N (l[i].atoms.length+1),fun f m hf hm=> ?_⟩
   refine levels_in f _ l i hlt (by omega) (hN f m (by omega) (by omega)) hal l[i].atoms.length 0 (by omega) f (by omega)
 exact Ev.Fe (F:=fun f m=>wC f m l l 0) (key l.length 0 (by omega))
theorem SL {pl:Bool} {a b:Syntax} (h:MY pl a b):xQ a→Ev (fun f=>rC f a b pl) true:=by
 induction h with
 | @mk a b h1 h2 h3 h4 h5 h6 h7 h8 ih=>
   intro hf
   obtain ⟨b1,b2,b3,b4⟩:=hf.bnd
   have b1':=b1
   have b4':=b4
   simp only[cap] at b1 b4
   refine Ev.fn (fun n=>by simp only[rC,E8];exact rfl) ?_
   simp only[h1,h2,h3,h4,h5,h7,bne_self_eq_false,cond_false,beq_self_eq_true,cond_true]
   rw[←h5]
   refine Ev.bind (levels_ev a.levels b2 b3) ?_
   simp only[cond_true]
   have kids:pO (fun f m=>yG (rC f) f m pl 0 a b) true:=by
    have key: ∀d i:Nat,i+d=a.kids.length→pO (fun f m=>yG (rC f) f m pl (i:Int) a b) true:=by
     intro d
     induction d with
     |zero=>
      intro i hi
      refine pO.lp (fun n m=>by simp only[yG,DN];exact rfl) ?_
      have:decide ((i:Int)<(a.kids.length:Int))=false:=decide_eq_false (by omega)
      simp only[this,cond_false]
      exact pO.pure
     |succ d ihd=>
      intro i hi
      have hlt:i<a.kids.length:=by omega
      have hlb:i<b.kids.length:=by omega
      refine pO.lp (fun n m=>by simp only[yG,DN];exact rfl) ?_
      have:decide ((i:Int)<(a.kids.length:Int))=true:=decide_eq_true (by omega)
      simp only[this,cond_true,uy hlt,uy hlb,j6]
      refine pO.qH (ih i hlt hlb (hf.kid _ (kg hlt))) ?_
      simp only[cond_true]
      rw[nV (by omega)]
      exact ihd (i+1) (by omega)
    exact key a.kids.length 0 (by omega)
   have names:pO (fun f m=>yH (rC f) f m pl 0 a b) true:=by
    have key: ∀d i:Nat,i+d=a.names.length→pO (fun f m=>yH (rC f) f m pl (i:Int) a b) true:=by
     intro d
     induction d with
     |zero=>
      intro i hi
      refine pO.lp (fun n m=>by simp only[yH,DP];exact rfl) ?_
      have:decide ((i:Int)<(a.names.length:Int))=false:=decide_eq_false (by omega)
      simp only[this,cond_false]
      exact pO.S7 (Ev.Fe (F:=fun f m=>yG (rC f) f m pl 0 a b) kids)
     |succ d ihd=>
      intro i hi
      have hlt:i<a.names.length:=by omega
      refine pO.lp (fun n m=>by simp only[yH,DP];exact rfl) ?_
      have:decide ((i:Int)<(a.names.length:Int))=true:=decide_eq_true (by omega)
      simp only[this,cond_true,←h4,uy hlt,j6,beq_self_eq_true]
      rw[nV (by omega)]
      exact ihd (i+1) (by omega)
    exact key a.names.length 0 (by omega)
   have names':=Ev.Fe (F:=fun f m=>yH (rC f) f m pl 0 a b) names
   cases pl with
   |false=>exact names'
   |true=>
    obtain ⟨h9,h10⟩:=h6 rfl
    simp only[h9,h10,bne_self_eq_false,cond_false,cond_true]
    exact names'
theorem IY (l:List Syntax) (hl:l.length≤cap) (h: ∀x∈l,xQ x):Ev (fun f=>yA f l l) true:=by
 simp only[cap] at hl
 refine Ev.fn (fun n=>by simp only[yA,C6];exact rfl) ?_
 simp only[bne_self_eq_false,cond_false]
 have key: ∀d i:Nat,i+d=l.length→pO (fun f m=>wD f m l l (i:Int)) true:=by
  intro d
  induction d with
  |zero=>
   intro i hi
   refine pO.lp (fun n m=>by simp only[wD,zR];exact rfl) ?_
   have:decide ((i:Int)<(l.length:Int))=false:=decide_eq_false (by omega)
   simp only[this,cond_false]
   exact pO.pure
  |succ d ih=>
   intro i hi
   have hlt:i<l.length:=by omega
   refine pO.lp (fun n m=>by simp only[wD,zR];exact rfl) ?_
   have:decide ((i:Int)<(l.length:Int))=true:=decide_eq_true (by omega)
   simp only[this,cond_true,uy hlt,j6]
   refine pO.qH (SL (MY.refl true _) (h _ (kg hlt))) ?_
   simp only[cond_true]
   rw[nV (by omega)]
   exact ih (i+1) (by omega)
 exact Ev.Fe (F:=fun f m=>wD f m l l 0) (key l.length 0 (by omega))
end Go.Abs
namespace Go.Abs
mutual
def nodesT:Syntax→Nat
 | .mk _ _ _ _ _ kids _ _=>1+nodesL kids
def nodesL:List Syntax→Nat
 |[]=>0
 |x::xs=>nodesT x+nodesL xs
end
theorem nodesT_eq (e:Syntax):nodesT e=1+nodesL e.kids:=by cases e;rw[nodesT];rfl
theorem Fh: ∀a b:List Syntax,nodesL (a++b)=nodesL a+nodesL b
 |[],b=>by rw[nodesL];simp
 |x::a,b=>by rw[k7,nodesL,nodesL,Fh a b];omega
theorem SM: ∀a:List Syntax,a.length≤nodesL a
 |[]=>kF _
 |x::a=>by
  have:=SM a
  have h:=nodesT_eq x
  rw[nodesL,kf];omega
theorem small_tot: ∀e:Syntax,xQ e→ ∀k:Int,k≤1048640→sv (fun f=>yu f e k) (fun r=>r.2=true→0≤r.1∧r.1+nodesT e=k):=by
 intro e
 induction e using Syntax.ind with
 |h e ih=>
  intro hf k hk
  have hb:=hf.bnd.2.2.2
  simp only[cap] at hb
  refine sv.fn (fun n=>by simp only[yu,Iq];exact rfl) ?_
  refine sv.MD (fun _=>sv.pure fun h=>by cases h) fun h0=> ?_
  refine sv.MD (fun _=>sv.pure fun h=>by cases h) fun _=> ?_
  refine sv.MD (fun _=>sv.pure fun h=>by cases h) fun _=> ?_
  refine sv.MD (fun _=>sv.pure fun h=>by cases h) fun _=> ?_
  have h0:=of_decide_eq_false h0
  rw[wrap_small (by omega) (by omega),nodesT_eq]
  have key: ∀ (d i:Nat) (v:Int),i+d=e.kids.length→0≤v→v≤1048640→v+nodesL (e.kids.take i)=k-1→
   oG (fun f m=>Aa (yu f) f m v e.kids (e.kids.length:Int) (i:Int)) (fun r=>r.2=true→0≤r.1∧r.1+((1+nodesL e.kids:Nat):Int)=k):=by
   intro d
   induction d with
   |zero=>
    intro i v hi hv hv2 hn
    refine oG.lp (fun n m=>by simp only[Aa,DE];exact rfl) ?_
    have:decide ((i:Int)<(e.kids.length:Int))=false:=decide_eq_false (by omega)
    simp only[this,cond_false]
    rw[kY (by omega)] at hn
    exact oG.pure fun _=>⟨hv,by omega⟩
   |succ d ihd=>
    intro i v hi hv hv2 hn
    have hlt:i<e.kids.length:=by omega
    refine oG.lp (fun n m=>by simp only[Aa,DE];exact rfl) ?_
    have:decide ((i:Int)<(e.kids.length:Int))=true:=decide_eq_true (by omega)
    simp only[this,cond_true,uy hlt,j6]
    refine oG.qH (ih _ (kg hlt) (hf.kid _ (kg hlt)) v hv2) fun r hr=> ?_
    refine oG.MD (fun h=> ?_) fun h=>oG.pure fun h=>by cases h
    obtain ⟨h1,h2⟩:=hr h
    rw[nV (by omega)]
    refine ihd (i+1) _ (by omega) h1 (by omega) ?_
    rw[kE hlt,Fh,nodesL,nodesL]
    omega
  exact sv.Fe (F:=fun f m=>Aa (yu f) f m (k-1) e.kids (e.kids.length:Int) 0) (key e.kids.length 0 (k-1) (by omega) (by omega) (by omega) (by rw[kU,nodesL];omega))
theorem Pc (l:List Syntax) (hl:l.length≤cap) (hf: ∀x∈l,xQ x):sv (fun f=>zk f l) (fun b=>b=true→nodesL l≤120):=by
 simp only[cap] at hl
 refine sv.fn (fun n=>by simp only[zk,IE];exact rfl) ?_
 have key: ∀ (d i:Nat) (v:Int),i+d=l.length→0≤v→v≤1048640→v+nodesL (l.take i)=120→
  oG (fun f m=>Al f m v l (l.length:Int) (i:Int)) (fun b=>b=true→nodesL l≤120):=by
  intro d
  induction d with
  |zero=>
   intro i v hi hv hv2 hn
   refine oG.lp (fun n m=>by simp only[Al,DM];exact rfl) ?_
   have:decide ((i:Int)<(l.length:Int))=false:=decide_eq_false (by omega)
   simp only[this,cond_false]
   rw[kY (by omega)] at hn
   exact oG.pure fun _=>by omega
  |succ d ihd=>
   intro i v hi hv hv2 hn
   have hlt:i<l.length:=by omega
   refine oG.lp (fun n m=>by simp only[Al,DM];exact rfl) ?_
   have:decide ((i:Int)<(l.length:Int))=true:=decide_eq_true (by omega)
   simp only[this,cond_true,uy hlt,j6]
   refine oG.qH (small_tot _ (hf _ (kg hlt)) v hv2) fun r hr=> ?_
   refine oG.MD (fun h=> ?_) fun h=>oG.pure fun h=>by cases h
   obtain ⟨h1,h2⟩:=hr h
   rw[nV (by omega)]
   refine ihd (i+1) _ (by omega) h1 (by omega) ?_
   rw[kE hlt,Fh,nodesL,nodesL]
   omega
 exact sv.Fe (F:=fun f m=>Al f m 120 l (l.length:Int) 0) (key l.length 0 120 (by omega) (by omega) (by omega) (by rw[kU,nodesL];omega))
theorem fewS_tot (l:List Str) (hl:l.length≤cap):sv (fun f=>qN f l ()) (fun _=>True):=by
 simp only[cap] at hl
 refine sv.fn (fun n=>by simp only[qN,tK];exact rfl) ?_
 refine sv.bind (P:=fun _=>True) ?_ fun _ _=>sv.pure trivial
 refine sv.fn (fun n=>by simp only[sN,uA];exact rfl) ?_
 have key: ∀d i:Nat,i+d=l.length→oG (fun f m=>qg f m l (l.length:Int) (i:Int)) (fun _=>True):=by
  intro d
  induction d with
  |zero=>
   intro i hi
   refine oG.lp (fun n m=>by simp only[qg,r9];exact rfl) ?_
   have:decide ((i:Int)<(l.length:Int))=false:=decide_eq_false (by omega)
   simp only[this,cond_false]
   exact oG.pure trivial
  |succ d ihd=>
   intro i hi
   have hlt:i<l.length:=by omega
   refine oG.lp (fun n m=>by simp only[qg,r9];exact rfl) ?_
   have:decide ((i:Int)<(l.length:Int))=true:=decide_eq_true (by omega)
   simp only[this,cond_true,uy hlt,j6]
   refine oG.qH (P:=fun _=>True) ?_ fun b _=> ?_
   ·refine sv.fn (fun n=>by simp only[E5,FX];exact rfl) ?_
    exact sv.pure trivial
   ·refine oG.MD (fun _=>oG.pure trivial) fun _=> ?_
    rw[nV (by omega)]
    exact ihd (i+1) (by omega)
 exact sv.Fe (F:=fun f m=>qg f m l (l.length:Int) 0) (key l.length 0 (by omega))
theorem Wu (T:List Notation) (hl:T.length≤cap) (h: ∀n∈T,WC n):sv (fun f=>Cc f T) (fun _=>True):=by
 have hl':=hl
 simp only[cap] at hl
 refine sv.fn (fun n=>by simp only[Cc,K6];exact rfl) ?_
 refine sv.MD (fun _=> ?_) fun _=>sv.pure trivial
 refine sv.bind (P:=fun _=>True) ?_ fun _ _=>sv.pure trivial
 refine sv.fn (fun n=>by simp only[sn,tL];exact rfl) ?_
 refine sv.bind (P:=fun _=>True) ?_ fun _ _=>sv.pure trivial
 refine sv.fn (fun n=>by simp only[sO,uB];exact rfl) ?_
 have key: ∀d i:Nat,i+d=T.length→oG (fun f m=>qh f m T (T.length:Int) (i:Int)) (fun _=>True):=by
  intro d
  induction d with
  |zero=>
   intro i hi
   refine oG.lp (fun n m=>by simp only[qh,sk];exact rfl) ?_
   have:decide ((i:Int)<(T.length:Int))=false:=decide_eq_false (by omega)
   simp only[this,cond_false]
   exact oG.pure trivial
  |succ d ihd=>
   intro i hi
   have hlt:i<T.length:=by omega
   refine oG.lp (fun n m=>by simp only[qh,sk];exact rfl) ?_
   have:decide ((i:Int)<(T.length:Int))=true:=decide_eq_true (by omega)
   simp only[this,cond_true,uy hlt,j6]
   refine oG.qH (P:=fun _=>True) ?_ fun b _=> ?_
   ·refine sv.fn (fun n=>by simp only[H7,IS];exact rfl) ?_
    refine sv.MD (fun _=>sv.pure trivial) fun _=> ?_
    refine sv.MD (fun _=>sv.pure trivial) fun _=> ?_
    exact sv.bind (fewS_tot _ (h _ (kg hlt)).len) fun _ _=>sv.pure trivial
   ·refine oG.MD (fun _=>oG.pure trivial) fun _=> ?_
    rw[nV (by omega)]
    exact ihd (i+1) (by omega)
 exact sv.Fe (F:=fun f m=>qh f m T (T.length:Int) 0) (key T.length 0 (by omega))
theorem P1: ∀e:Syntax,xQ e→sv (fun f=>qI f e) (fun b=>b=false→FK e):=by
 intro e
 induction e using Syntax.ind with
 |h e ih=>
  intro hf
  have hb:=hf.bnd.2.2.2
  simp only[cap] at hb
  refine sv.fn (fun n=>by simp only[qI,FY];exact rfl) ?_
  refine sv.MD (fun _=>sv.pure fun h=>by cases h) fun h17=> ?_
  refine sv.bind (P:=fun b=>b=false→ ∀x∈e.kids,FK x) ?_ fun b hb'=>sv.pure fun h=> .mk (by simpa using h17) (hb' h)
  refine sv.fn (fun n=>by simp only[nk,tI];exact rfl) ?_
  refine sv.bind (P:=fun k=>k<0→ ∀x∈e.kids,FK x) ?_ fun k hk=>sv.pure fun h=>hk (by have:=of_decide_eq_false h;omega)
  refine sv.fn (fun n=>by simp only[nA,uz];exact rfl) ?_
  have key: ∀d i:Nat,i+d=e.kids.length→(∀x∈e.kids.take i,FK x)→oG (fun f m=>qc (qI f) (nk f) (nA f) f m e.kids (e.kids.length:Int) (i:Int)) (fun k=>k<0→ ∀x∈e.kids,FK x):=by
   intro d
   induction d with
   |zero=>
    intro i hi hx
    refine oG.lp (fun n m=>by simp only[qc,rW];exact rfl) ?_
    have:decide ((i:Int)<(e.kids.length:Int))=false:=decide_eq_false (by omega)
    simp only[this,cond_false]
    rw[kY (by omega)] at hx
    exact oG.pure fun _=>hx
   |succ d ihd=>
    intro i hi hx
    have hlt:i<e.kids.length:=by omega
    refine oG.lp (fun n m=>by simp only[qc,rW];exact rfl) ?_
    have:decide ((i:Int)<(e.kids.length:Int))=true:=decide_eq_true (by omega)
    simp only[this,cond_true,uy hlt,j6]
    refine oG.qH (ih _ (kg hlt) (hf.kid _ (kg hlt))) fun b hb'=> ?_
    refine oG.MD (fun _=>oG.pure fun h=>by omega) fun h=> ?_
    rw[nV (by omega)]
    refine ihd (i+1) (by omega) fun x hxm=> ?_
    rw[kE hlt] at hxm
    rcases kM.1 hxm with hm|hm
    ·exact hx x hm
    ·rw[ko.1 hm];exact hb' h
  exact sv.Fe (F:=fun f m=>qc (qI f) (nk f) (nA f) f m e.kids (e.kids.length:Int) 0) (key e.kids.length 0 (by omega) (by rw[kU];intro x hx;cases hx))
theorem Y2: ∀e:Syntax,xQ e→sv (fun f=>rT f e) (fun b=>b=true→Hg e):=by
 intro e
 induction e using Syntax.ind with
 |h e ih=>
  intro hf
  have hb:=hf.bnd.2.2.2
  simp only[cap] at hb
  refine sv.fn (fun n=>by simp only[rT,JP];exact rfl) ?_
  have kids:sv (fun f=>m7 f e.kids ()) (fun b=>b=false→ ∀x∈e.kids,Hg x):=by
   refine sv.fn (fun n=>by simp only[m7,tS];exact rfl) ?_
   refine sv.bind (P:=fun k=>k<0→ ∀x∈e.kids,Hg x) ?_ fun k hk=>sv.pure fun h=>hk (by have:=of_decide_eq_false h;omega)
   refine sv.fn (fun n=>by simp only[ni,uK];exact rfl) ?_
   have key: ∀d i:Nat,i+d=e.kids.length→(∀x∈e.kids.take i,Hg x)→oG (fun f m=>qk (rT f) (m7 f) (ni f) (rX f) f m e.kids (e.kids.length:Int) (i:Int)) (fun k=>k<0→ ∀x∈e.kids,Hg x):=by
    intro d
    induction d with
    |zero=>
     intro i hi hx
     refine oG.lp (fun n m=>by simp only[qk,sA];exact rfl) ?_
     have:decide ((i:Int)<(e.kids.length:Int))=false:=decide_eq_false (by omega)
     simp only[this,cond_false]
     rw[kY (by omega)] at hx
     exact oG.pure fun _=>hx
    |succ d ihd=>
     intro i hi hx
     have hlt:i<e.kids.length:=by omega
     refine oG.lp (fun n m=>by simp only[qk,sA];exact rfl) ?_
     have:decide ((i:Int)<(e.kids.length:Int))=true:=decide_eq_true (by omega)
     simp only[this,cond_true,uy hlt,j6]
     refine oG.qH (P:=fun b=>b=false→Hg e.kids[i]) ?_ fun b hb'=> ?_
     ·refine sv.fn (fun n=>by simp only[rX,GI];exact rfl) ?_
      refine sv.bind (ih _ (kg hlt) (hf.kid _ (kg hlt))) fun b hb'=>sv.pure fun h=>hb' (by simpa using h)
     refine oG.MD (fun _=>oG.pure fun h=>by omega) fun h=> ?_
     rw[nV (by omega)]
     refine ihd (i+1) (by omega) fun x hxm=> ?_
     rw[kE hlt] at hxm
     rcases kM.1 hxm with hm|hm
     ·exact hx x hm
     ·rw[ko.1 hm];exact hb' h
   exact sv.Fe (F:=fun f m=>qk (rT f) (m7 f) (ni f) (rX f) f m e.kids (e.kids.length:Int) 0) (key e.kids.length 0 (by omega) (by rw[kU];intro x hx;cases hx))
  have len0: ∀ {α:Type} {l:List α},decide (0<(l.length:Int))=false→l=[]:=fun h=>kO.1 (by have:=of_decide_eq_false h;omega)
  have fin: ∀ (p1:e.kind=2→e.text=[]∧e.num=0∧e.names=[]∧e.levels=[]) (p2:e.kind=0→e.names=[]∧e.kids=[]),sv (fun f=>(m7 f e.kids ()).bind fun x=>some !x) (fun b=>b=true→Hg e):=
   fun p1 p2=>sv.bind kids fun b hb'=>sv.pure fun h=> .mk p1 p2 (hb' (by simpa using h))
  refine sv.MD (fun h2=> ?_) fun h2=> ?_
  ·have h2:=beq_iff_eq.1 h2
   refine sv.MD (fun ht=> ?_) fun _=>sv.pure fun h=>by cases h
   refine sv.MD (fun _=>sv.pure fun h=>by cases h) fun hn=> ?_
   refine sv.MD (fun _=>sv.pure fun h=>by cases h) fun hna=> ?_
   refine sv.MD (fun _=>sv.pure fun h=>by cases h) fun hlv=> ?_
   have p1:e.text=[]∧e.num=0∧e.names=[]∧e.levels=[]:=⟨beq_iff_eq.1 ht,by simpa using hn,len0 hna,len0 hlv⟩
   refine sv.MD (fun h0=> ?_) fun h0=>fin (fun _=>p1) (fun h=>by rw[h2] at h;cases h)
   have h0:=beq_iff_eq.1 h0
   rw[h2] at h0;cases h0
  ·have h2:=beq_eq_false_iff_ne.1 h2
   refine sv.MD (fun h0=> ?_) fun h0=>fin (fun h=>absurd h h2) (fun h=>absurd h (beq_eq_false_iff_ne.1 h0))
   refine sv.MD (fun _=>sv.pure fun h=>by cases h) fun hna=> ?_
   refine sv.MD (fun _=>sv.pure fun h=>by cases h) fun hk=> ?_
   exact fin (fun h=>absurd h h2) (fun _=>⟨len0 hna,len0 hk⟩)
end Go.Abs
namespace Go.Abs
set_option maxRecDepth 100000
theorem awake_k (k:Nat):vM (k+70)=some true:=by kernel_rfl
theorem awake_ev:Ev (fun n=>vM n) true:=by
 refine ⟨70,fun n hn=> ?_⟩
 obtain ⟨k,rfl⟩: ∃k,n=k+70:=⟨n-70,by omega⟩
 exact awake_k k
theorem vN:Ev (fun n=>(vM n).bind fun x=>some x) true:=Ev.bind awake_ev Ev.pure
theorem Li {F:Nat→Option Bool} (h:Ev F true): ∃n,F n=some true:=by
 obtain ⟨N,hN⟩:=h
 exact ⟨N,hN N (kF _)⟩
theorem tab_sm {T:List Notation} (h:sumB Notation.bulk T≤1048576):T.length≤cap∧ ∀n∈T,WC n:=by
 have h1:=FL (bk:=Notation.bulk) (fun x=>by unfold Notation.bulk;omega) T
 refine ⟨by simp only[cap];omega,fun n hn=>WC.of ?_⟩
 have:=Jt (bk:=Notation.bulk) hn
 simp only[cap];omega
theorem lst_sm {L:List Syntax} (h:sumB Syntax.bulk L≤1048576):L.length≤cap∧ ∀x∈L,xQ x:=by
 have h1:=FL (bk:=Syntax.bulk) Syntax.Y1 L
 refine ⟨by simp only[cap];omega,fun x hx=>xQ.of x ?_⟩
 have:=Jt (bk:=Syntax.bulk) hx
 simp only[cap];omega
end Go.Abs
namespace Go.Abs
abbrev lim:Nat:=4611686018427387904
theorem rev_loop: ∀ (k:Nat) (pre mid suf:List Syntax),mid.length=k→pre.length+k<lim→pO (fun n m=>xe n m pre.length ((pre.length:Int)+mid.length-1) (pre++(mid++suf))) ((pre++(mid.reverse++suf),()),()):=by
 intro k
 induction k using Nat.strongRecOn with
 |ind k ih=>
  intro pre mid suf hk hlim
  refine pO.lp (fun n m=>by simp only[xe,zE];exact rfl) ?_
  match mid,hk with
  |[],hk=>
   have:decide ((pre.length:Int)<(pre.length:Int)+([]:List Syntax).length-1)=false:=by simp;omega
   simp only[this,cond_false]
   exact pO.pure
  |[x],hk=>
   have:decide ((pre.length:Int)<(pre.length:Int)+([x]:List Syntax).length-1)=false:=by simp
   simp only[this,cond_false]
   exact pO.pure
  |x::y'::rest,hk=>
   obtain ⟨Ej,y,hy⟩: ∃Ej y,y'::rest=Ej++[y]:=⟨(y'::rest).dropLast,(y'::rest).getLast (by simp),(List.dropLast_concat_getLast (by simp)).symm⟩
   rw[hy] at hk ⊢
   simp only[kf,kq,kC] at hk
   have hd:decide ((pre.length:Int)<(pre.length:Int)+(x::(Ej++[y])).length-1)=true:=by simp only[kf,kq,kC,decide_eq_true_eq];omega
   have e1:((pre.length:Int)+(x::(Ej++[y])).length-1)=((pre.length+Ej.length+1:Nat):Int):=by simp only[kf,kq,kC];omega
   have g1:(pre++(x::(Ej++[y])++suf))[pre.length+Ej.length+1]? =some y:=by
    rw[k8 (by omega)]
    have:pre.length+Ej.length+1-pre.length=Ej.length+1:=by omega
    rw[this]
    simp
   have g0:(pre++(x::(Ej++[y])++suf))[pre.length]? =some x:=by
    rw[k8 (by omega)];simp
   have s0:(pre++(x::(Ej++[y])++suf)).set pre.length y=pre++(y::(Ej++[y])++suf):=by
    rw[lJ _ _ (by omega)];simp
   have g2:(pre++(y::(Ej++[y])++suf))[pre.length+Ej.length+1]? =some y:=by
    rw[k8 (by omega)]
    have:pre.length+Ej.length+1-pre.length=Ej.length+1:=by omega
    rw[this]
    simp
   have s1:(pre++(y::(Ej++[y])++suf)).set (pre.length+Ej.length+1) x=(pre++[y])++(Ej++(x::suf)):=by
    rw[lJ _ _ (by omega)]
    have:pre.length+Ej.length+1-pre.length=Ej.length+1:=by omega
    rw[this]
    simp only[k7,List.set_cons_succ,kL]
    rw[lJ _ _ (by omega)]
    simp
   rw[e1] at hd
   simp only[e1]
   simp only[hd,cond_true]
   have n0:(0:Int)≤((pre.length+Ej.length+1:Nat):Int):=by omega
   have n1:(0:Int)≤(pre.length:Int):=by omega
   simp only[xz,n0,n1,if_true,lE,g1,g0,g2,s0,s1,j6]
   have w1:IntKind.i64.wrap ((pre.length:Int)+1)=((pre++[y]).length:Int):=by
    simp only[lim] at hlim
    rw[nV (by omega)];simp
   have w2:IntKind.i64.wrap (((pre.length+Ej.length+1:Nat):Int)-1)=((pre++[y]).length:Int)+Ej.length-1:=by
    simp only[lim] at hlim
    rw[wrap_small (by omega) (by omega)];simp;omega
   rw[w1,w2]
   have:=ih Ej.length (by omega) (pre++[y]) Ej (x::suf) rfl (by simp;omega)
   have e:pre++((x::(Ej++[y])).reverse++suf)=(pre++[y])++(Ej.reverse++(x::suf)):=by simp
   rw[e]
   exact this
theorem IZ (r:List Syntax) (h:r.length<lim):Ev (fun n=>wJ n r) ((r.reverse,()),()):=by
 refine Ev.fn (fun n=>by simp only[wJ,Ag];exact rfl) ?_
 have:=rev_loop r.length [] r [] rfl (by simpa using h)
 simp only[k4,kZ,kC] at this
 have w:IntKind.i64.wrap ((r.length:Int)-1)=(0:Nat)+(r.length:Int)-1:=by simp only[lim] at h;rw[wrap_small (by omega) (by omega)];omega
 rw[w]
 exact Ev.Fe this
def Pd (T:List Notation) (h:Syntax) (ops:List Syntax):Option (Notation×List Syntax):=
 bif h.kind==0&&(h.levels.length==0&&h.num==0) then
  (match T.find? (fun n=>n.target==h.text) with
  |none=>none
  |some n=>bif F4 n==ops.length then some (n,ops) else none)
 else none
theorem Y3: ∀e:Syntax,nodesT (s8 e).1+nodesL (s8 e).2≤nodesT e:=by
 intro e
 induction e using Syntax.ind with
 |h e ih=>
  cases hk:Gi e with
  |none=>rw[Dr hk];simp [nodesL]
  |some p=>
   obtain ⟨a,b⟩:=p
   have hm:=(BX hk).2
   have:=ih a (by rw[hm];simp)
   rw[Ds hk,nodesT_eq e,hm,Fh]
   simp only[nodesL]
   omega
theorem Y4 {e:Syntax} (h:Gi e=none) (hk:e.kind=2):((e.kids.length:Int)==2)=false:=by
 unfold Gi at h
 rw[hk] at h
 match hq:e.kids with
 |[]=>rfl
 |[x]=>rfl
 |[x,y]=>rw[hq] at h;cases h
 |x::y::z::r=>rw[beq_eq_false_iff_ne];simp only[kf];omega
def APr (M:List (Str×Notation)) (o:Option (Notation×List Syntax)) (r:(Unit×((List (Str×Notation))×Unit))×(Notation×((List Syntax)×(Bool×Unit)))):Prop:=
 r.1=((),M,())∧match o with
   |some (n,l)=>r.2=(n,l,true,())
   |none=>r.2.2.2.1=false
def APf (o:Option (Notation×List Syntax)) (r:Notation×(List Syntax)×Bool):Prop:=
 match o with
 |some (n,l)=>r=(n,l,true)
 |none=>r.2.2=false
theorem room120 {k:Nat} (h:k≤4000000):decide ((k+1)*120≤17592186044416)=true:=decide_eq_true (by omega)
theorem holes_ev (n:Notation) (hn:n.parts.length≤cap) (M:List (Str×Notation)) (r4:List Syntax) (hr:r4.length≤4000000): ∀ (d i c:Nat),i+d=n.parts.length→c≤i→
 pO (fun f k=>rL f k (c:Int) n.parts (n.parts.length:Int) (i:Int) M r4 n) (((),M,()),n,r4.reverse,((c+(n.parts.drop i).countP (· ==[]):Nat):Int)==(r4.length:Int),()):=by
 simp only[cap] at hn
 intro d
 induction d with
 |zero=>
  intro i c hi hc
  refine pO.lp (fun n m=>by simp only[rL,vQ];exact rfl) ?_
  have:decide ((i:Int)<(n.parts.length:Int))=false:=decide_eq_false (by omega)
  simp only[this,cond_false,j8 (show n.parts.length≤i by omega),List.countP_nil,l7]
  refine pO.qH (IZ r4 (by simp only[lim];omega)) ?_
  simp only[lY,decide_true,cond_true,beq_self_eq_true]
  exact pO.pure
 |succ d ih=>
  intro i c hi hc
  have hlt:i<n.parts.length:=by omega
  refine pO.lp (fun n m=>by simp only[rL,vQ];exact rfl) ?_
  have:decide ((i:Int)<(n.parts.length:Int))=true:=decide_eq_true (by omega)
  simp only[this,cond_true]
  refine pO.idx hlt ?_
  rw[nV (i:=i) (by omega),j7 hlt,kR]
  cases hx:n.parts[i]==[] with
  |true=>
   simp only[cond_true]
   rw[nV (by omega)]
   have:=ih (i+1) (c+1) (by omega) (by omega)
   rwa [show c+1+(n.parts.drop (i+1)).countP (· ==[])=c+((n.parts.drop (i+1)).countP (· ==[])+if true=true then 1 else 0) from by simp;omega] at this
  |false=>
   simp only[cond_false]
   have:=ih (i+1) c (by omega) (by omega)
   rwa [show c+(n.parts.drop (i+1)).countP (· ==[])=c+((n.parts.drop (i+1)).countP (· ==[])+if false=true then 1 else 0) from by simp] at this
theorem Lj {T:List Notation} (hN: ∀n∈T,WC n) {M:List (Str×Notation)} (hM: ∀s,sE s M=T.find? (fun n=>n.target==s)) (e:Syntax) (he:nodesT e≤cap):
 sv (fun f=>qV f e M) (APr M (uZ T e)):=by
 refine sv.fn (fun n=>by simp only[qV,yM];exact rfl) ?_
 simp only[cap] at he
 have key: ∀ (e:Syntax) (r4:List Syntax),r4.length+nodesT e≤2000000→oG (fun f k=>uw f k M e r4) (APr M (Pd T (s8 e).1 ((s8 e).2++r4.reverse))):=by
  intro e
  induction e using Syntax.ind with
  |h e ih=>
   intro r4 hr
   refine oG.lp (fun n m=>by simp only[uw,yg];exact rfl) ?_
   have fin:Gi e=none→oG (fun f k=>bif e.kind !=0 then some (((),M,()),(⟨[],0,0,[]⟩:Notation),([]:List Syntax),false,()) else bif decide (0<(e.levels.length:Int)) then some (((),M,()),⟨[],0,0,[]⟩,[],false,()) else bif e.num !=0 then some (((),M,()),⟨[],0,0,[]⟩,[],false,()) else
    PK (sE e.text M) (some (((),M,()),⟨[],0,0,[]⟩,[],false,())) fun x=>rL f f 0 x.parts (x.parts.length:Int) 0 M r4 x) (APr M (Pd T (s8 e).1 ((s8 e).2++r4.reverse))):=by
    intro hk
    rw[Dr hk]
    unfold Pd
    simp only[bne,k4]
    cases h0:e.kind==0 with
    |false=>simp only[kr,cond_true,kj,cond_false];exact oG.pure ⟨rfl,rfl⟩
    |true=>
     simp only[kD,cond_false,j9]
     cases hl:e.levels.length==0 with
     |false=>
      have:decide (0<(e.levels.length:Int))=true:=decide_eq_true (by have:=beq_eq_false_iff_ne.1 hl;omega)
      simp only[this,cond_true,kj,cond_false];exact oG.pure ⟨rfl,rfl⟩
     |true=>
      have:decide (0<(e.levels.length:Int))=false:=decide_eq_false (by have:=beq_iff_eq.1 hl;omega)
      simp only[this,cond_false,j9]
      cases hn:e.num==0 with
      |false=>simp only[kr,cond_true,cond_false];exact oG.pure ⟨rfl,rfl⟩
      |true=>
       simp only[kD,cond_false,cond_true,hM]
       cases hf:T.find? (fun n=>n.target==e.text) with
       |none=>exact oG.pure ⟨rfl,rfl⟩
       |some n=>
        have hs:=hN n (k9 hf)
        have:=holes_ev n hs.len M r4 (by omega) n.parts.length 0 0 (by omega) (kF _)
        have:=Ev.Fe (F:=fun f k=>rL f k 0 n.parts (n.parts.length:Int) 0 M r4 n) this
        refine oG.S7 (this.tot ?_)
        rw[kH,l5,nat_eq,lY]
        show APr M (bif F4 n==r4.length then some (n,r4.reverse) else none) _
        unfold F4
        cases hq:n.parts.countP (· ==[])==r4.length with
        |true=>exact ⟨rfl,by show (n,r4.reverse,decide _,())=_;rw[decide_eq_true (beq_iff_eq.1 hq)]⟩
        |false=>exact ⟨rfl,decide_eq_false (beq_eq_false_iff_ne.1 hq)⟩
   cases hk:Gi e with
   |none=>
    cases h2:e.kind==2 with
    |false=>simp only[cond_false];exact fin hk
    |true=>
     simp only[cond_true,Y4 hk (beq_iff_eq.1 h2),cond_false]
     exact fin hk
   |some p=>
    obtain ⟨a,b⟩:=p
    obtain ⟨hk2,hm⟩:=BX hk
    have hnod:nodesT e=1+(nodesT a+nodesT b):=by rw[nodesT_eq e,hm];simp [nodesL]
    have hb:=nodesT_eq b
    have hr4:decide ((r4.length+1)*120≤17592186044416)=true:=room120 (by omega)
    rw[beq_iff_eq.2 hk2,hm,Ds hk]
    simp only[cond_true,kf,kC,hr4]
    have:=ih a (by rw[hm];simp) (r4++[b]) (by rw[kq,kG];omega)
    rw[List.reverse_append] at this
    rw[kL]
    exact this
 have:=key e [] (by rw[kC];omega)
 rw[List.reverse_nil,kZ] at this
 exact sv.Fe (F:=fun f k=>uw f k M e []) this
theorem rholes (T:List Notation) (ops:List Syntax) (f:Nat) (X2:List Notation→List Syntax→Int→Syntax→Option (Notation×(List Syntax)×Bool)) (i:Nat) (hi:i<T.length) (hn:T[i].parts.length≤1048640):
 ∀d j c:Nat,j+d=T[i].parts.length→c≤j→ ∀k,d<k→Ah f X2 k T ops (i:Int) (c:Int) (j:Int)=some (T[i],ops,((c+(T[i].parts.drop j).countP (· ==[]):Nat):Int)==(ops.length:Int)):=by
 intro d
 induction d with
 |zero=>
  intro j c hj hc k hk
  obtain ⟨k,rfl⟩: ∃k',k=k'+1:=⟨k-1,by omega⟩
  simp only[Ah,B8,uy hi,j6]
  rw[decide_eq_false (show ¬ (j:Int)<(T[i].parts.length:Int) by omega),cond_false,j8 (show T[i].parts.length≤j by omega),List.countP_nil,l7]
 |succ d ih=>
  intro j c hj hc k hk
  obtain ⟨k,rfl⟩: ∃k',k=k'+1:=⟨k-1,by omega⟩
  have hlt:j<T[i].parts.length:=by omega
  simp only[Ah,B8,uy hi,j6,uy hlt]
  rw[decide_eq_true (show (j:Int)<(T[i].parts.length:Int) by omega),cond_true,j7 hlt,kR,nV (i:=j) (by omega)]
  cases hx:T[i].parts[j]==[] with
  |true=>
   rw[cond_true,nV (by omega)]
   have:=ih (j+1) (c+1) (by omega) (by omega) k (by omega)
   rw[this]
   simp only[if_true]
   rw[show c+1+(T[i].parts.drop (j+1)).countP (· ==[])=c+((T[i].parts.drop (j+1)).countP (· ==[])+1) from by omega]
  |false=>
   rw[cond_false]
   have:=ih (j+1) c (by omega) (by omega) k (by omega)
   rw[this]
   simp
theorem J7 {T:List Notation} (hT:T.length≤cap) (hN: ∀n∈T,WC n) (e:Syntax) (he:nodesT e≤cap):
 sv (fun f=>xg f T e) (APf (uZ T e)):=by
 refine sv.fn (fun n=>by simp only[xg,F1];exact rfl) ?_
 simp only[cap] at he hT
 have tab: ∀ (ops:List Syntax) (e:Syntax) (d i:Nat),i+d=T.length→oG (fun f k=>wP f k T ops (i:Int) e) (APf (match (T.drop i).find? (fun n=>n.target==e.text) with|none=>none|some n=>bif F4 n==ops.length then some (n,ops) else none)):=by
  intro ops e d
  induction d with
  |zero=>
   intro i hi
   refine oG.lp (fun n m=>by simp only[wP,B9];exact rfl) ?_
   have:decide ((i:Int)<(T.length:Int))=false:=decide_eq_false (by omega)
   simp only[this,cond_false,j8 (show T.length≤i by omega),List.find?_nil]
   exact oG.pure rfl
  |succ d ih=>
   intro i hi
   have hlt:i<T.length:=by omega
   refine oG.lp (fun n m=>by simp only[wP,B9];exact rfl) ?_
   have:decide ((i:Int)<(T.length:Int))=true:=decide_eq_true (by omega)
   simp only[this,cond_true,uy hlt,j6]
   rw[j7 hlt,lN,nV (by omega)]
   cases hx:T[i].target==e.text with
   |false=>simp only[cond_false];exact ih (i+1) (by omega)
   |true=>
    simp only[cond_true]
    have hs:=(hN _ (kg hlt)).len
    simp only[cap] at hs
    refine ⟨(T[i],ops,((0+(T[i].parts.drop 0).countP (· ==[]):Nat):Int)==(ops.length:Int)),?_,T[i].parts.length+1,fun f m hf hm=> ?_⟩
    ·rw[kH,l5,nat_eq]
     unfold F4
     cases hq:T[i].parts.countP (· ==[])==ops.length with
     |true=>show (T[i],ops,decide _)=_;rw[decide_eq_true (beq_iff_eq.1 hq)]
     |false=>exact decide_eq_false (beq_eq_false_iff_ne.1 hq)
    ·exact rholes T ops f _ i hlt hs T[i].parts.length 0 0 (by omega) (kF _) f (by omega)
 have key: ∀ (e:Syntax) (l:List Syntax),l.length+nodesT e≤2000000→oG (fun f k=>Ai f k T l e) (APf (Pd T (s8 e).1 ((s8 e).2++l))):=by
  intro e
  induction e using Syntax.ind with
  |h e ih=>
   intro l hr
   refine oG.lp (fun n m=>by simp only[Ai,EL];exact rfl) ?_
   have fin:Gi e=none→oG (fun f k=>bif e.kind !=0 then some ((⟨[],0,0,[]⟩:Notation),([]:List Syntax),false) else bif decide (0<(e.levels.length:Int)) then some (⟨[],0,0,[]⟩,[],false) else bif e.num !=0 then some (⟨[],0,0,[]⟩,[],false) else wP f f T l 0 e) (APf (Pd T (s8 e).1 ((s8 e).2++l))):=by
    intro hk
    rw[Dr hk]
    unfold Pd
    simp only[bne,k4]
    cases h0:e.kind==0 with
    |false=>simp only[kr,cond_true,kj,cond_false];exact oG.pure rfl
    |true=>
     simp only[kD,cond_false,j9]
     cases hl:e.levels.length==0 with
     |false=>
      have:decide (0<(e.levels.length:Int))=true:=decide_eq_true (by have:=beq_eq_false_iff_ne.1 hl;omega)
      simp only[this,cond_true,kj,cond_false];exact oG.pure rfl
     |true=>
      have:decide (0<(e.levels.length:Int))=false:=decide_eq_false (by have:=beq_iff_eq.1 hl;omega)
      simp only[this,cond_false,j9]
      cases hn:e.num==0 with
      |false=>simp only[kr,cond_true,cond_false];exact oG.pure rfl
      |true=>
       simp only[kD,cond_false,cond_true]
       have:=tab l e T.length 0 (by omega)
       rw[kH] at this
       exact oG.S7 (sv.Fe (F:=fun f k=>wP f k T l 0 e) this)
   cases hk:Gi e with
   |none=>
    cases h2:e.kind==2 with
    |false=>simp only[cond_false];exact fin hk
    |true=>
     simp only[cond_true,Y4 hk (beq_iff_eq.1 h2),cond_false]
     exact fin hk
   |some p=>
    obtain ⟨a,b⟩:=p
    obtain ⟨hk2,hm⟩:=BX hk
    have hnod:nodesT e=1+(nodesT a+nodesT b):=by rw[nodesT_eq e,hm];simp [nodesL]
    have hb:=nodesT_eq b
    have hr4:decide ((1+l.length)*120≤17592186044416)=true:=decide_eq_true (by omega)
    rw[beq_iff_eq.2 hk2,hm,Ds hk]
    have next:=ih a (by rw[hm];simp) (b::l) (by rw[kf];omega)
    rw[kL]
    simp only[cond_true,kf,kC,hr4]
    cases hl:l with
    |nil=>rw[hl] at next;exact next
    |cons y ys=>
     rw[hl] at next
     have:decide (0<(y::ys).length)=true:=decide_eq_true (Nat.succ_pos _)
     rw[hl] at hr4
     exact next
 have:=key e [] (by rw[kC];omega)
 rw[kZ] at this
 exact sv.Fe (F:=fun f k=>Ai f k T [] e) this
end Go.Abs
