/- Plain facts on functions with fuel: what holds for all large enough fuel; loops over an index. -/
import Derived.Test.YtgimdhmoloobkaaCoreC
import Derived.Test.YtgimdhmoloobkaaWalkC
import Derived.Test.YtgimdhmoloobkaaReadA
namespace Go.Abs
set_option linter.unusedVariables false
variable {R S T : Type}
def Ev (F : Nat → Option R) (r : R) : Prop := ∃ N, ∀ n, N ≤ n → F n = some r
def Ev2 (F : Nat → Nat → Option R) (r : R) : Prop := ∃ N, ∀ n m, N ≤ n → N ≤ m → F n m = some r
theorem Ev.fn {F G : Nat → Option R} {r : R} (h : ∀ n, F (n + 1) = G n) (hg : Ev G r) : Ev F r := by
  obtain ⟨N, hN⟩ := hg
  refine ⟨N + 1, fun n hn => ?_⟩
  obtain ⟨k, rfl⟩ : ∃ k, n = k + 1 := ⟨n - 1, by omega⟩
  rw [h]; exact hN k (by omega)
theorem Ev.of2 {F : Nat → Nat → Option R} {r : R} (h : Ev2 F r) : Ev (fun n => F n n) r := by
  obtain ⟨N, hN⟩ := h
  exact ⟨N, fun n hn => hN n n hn hn⟩
theorem Ev2.of1 {F : Nat → Option R} {r : R} (h : Ev F r) : Ev2 (fun n _ => F n) r := by
  obtain ⟨N, hN⟩ := h
  exact ⟨N, fun n m hn _ => hN n hn⟩
theorem Ev2.lp {F G : Nat → Nat → Option R} {r : R} (h : ∀ n m, F n (m + 1) = G n m) (hg : Ev2 G r) : Ev2 F r := by
  obtain ⟨N, hN⟩ := hg
  refine ⟨N + 1, fun n m hn hm => ?_⟩
  obtain ⟨k, rfl⟩ : ∃ k, m = k + 1 := ⟨m - 1, by omega⟩
  rw [h]; exact hN n k (by omega) (by omega)
theorem Ev.pure {r : R} : Ev (fun _ => some r) r := ⟨0, fun _ _ => rfl⟩
theorem Ev2.pure {r : R} : Ev2 (fun _ _ => some r) r := ⟨0, fun _ _ _ _ => rfl⟩
theorem Ev.bind {F : Nat → Option S} {G : Nat → S → Option R} {x : S} {r : R} (h : Ev F x) (hg : Ev (fun n => G n x) r) : Ev (fun n => (F n).bind (G n)) r := by
  obtain ⟨N, hN⟩ := h
  obtain ⟨M, hM⟩ := hg
  refine ⟨max N M, fun n hn => ?_⟩
  show (F n).bind (G n) = some r
  rw [hN n (by omega)]; exact hM n (by omega)
theorem Ev2.bind {F : Nat → Nat → Option S} {G : Nat → Nat → S → Option R} {x : S} {r : R} (h : Ev2 F x) (hg : Ev2 (fun n m => G n m x) r) : Ev2 (fun n m => (F n m).bind (G n m)) r := by
  obtain ⟨N, hN⟩ := h
  obtain ⟨M, hM⟩ := hg
  refine ⟨max N M, fun n m hn hm => ?_⟩
  show (F n m).bind (G n m) = some r
  rw [hN n m (by omega) (by omega)]; exact hM n m (by omega) (by omega)
theorem Ev2.bind1 {F : Nat → Option S} {G : Nat → Nat → S → Option R} {x : S} {r : R} (h : Ev F x) (hg : Ev2 (fun n m => G n m x) r) : Ev2 (fun n m => (F n).bind (G n m)) r :=
  Ev2.bind (F := fun n _ => F n) (Ev2.of1 h) hg
theorem Ev.congr {F G : Nat → Option R} {r : R} (hg : Ev G r) (h : ∀ n, F n = G n) : Ev F r := by
  rw [show F = G from funext h]; exact hg
theorem Ev2.congr {F G : Nat → Nat → Option R} {r : R} (hg : Ev2 G r) (h : ∀ n m, F n m = G n m) : Ev2 F r := by
  rw [show F = G from funext fun n => funext fun m => h n m]; exact hg
theorem Ev.uniq {F : Nat → Option R} {r s : R} (h : Ev F r) (k : Ev F s) : r = s := by
  obtain ⟨N, hN⟩ := h
  obtain ⟨M, hM⟩ := k
  have a := hN (max N M) (by omega)
  have b := hM (max N M) (by omega)
  rw [a] at b; exact Option.some.inj b
/-- The function has an answer with the property. -/
def Tot (F : Nat → Option R) (Q : R → Prop) : Prop := ∃ r, Q r ∧ Ev F r
def Tot2 (F : Nat → Nat → Option R) (Q : R → Prop) : Prop := ∃ r, Q r ∧ Ev2 F r
theorem Tot.fn {F G : Nat → Option R} {Q : R → Prop} (h : ∀ n, F (n + 1) = G n) (hg : Tot G Q) : Tot F Q := Exists.imp (fun _ k => ⟨k.1, Ev.fn h k.2⟩) hg
theorem Tot.of2 {F : Nat → Nat → Option R} {Q : R → Prop} (h : Tot2 F Q) : Tot (fun n => F n n) Q := Exists.imp (fun _ k => ⟨k.1, Ev.of2 k.2⟩) h
theorem Tot2.of1 {F : Nat → Option R} {Q : R → Prop} (h : Tot F Q) : Tot2 (fun n _ => F n) Q := Exists.imp (fun _ k => ⟨k.1, Ev2.of1 k.2⟩) h
theorem Tot2.lp {F G : Nat → Nat → Option R} {Q : R → Prop} (h : ∀ n m, F n (m + 1) = G n m) (hg : Tot2 G Q) : Tot2 F Q := Exists.imp (fun _ k => ⟨k.1, Ev2.lp h k.2⟩) hg
theorem Tot.pure {r : R} {Q : R → Prop} (h : Q r) : Tot (fun _ => some r) Q := ⟨r, h, Ev.pure⟩
theorem Tot2.pure {r : R} {Q : R → Prop} (h : Q r) : Tot2 (fun _ _ => some r) Q := ⟨r, h, Ev2.pure⟩
theorem Tot.bind {F : Nat → Option S} {G : Nat → S → Option R} {P : S → Prop} {Q : R → Prop} (h : Tot F P) (hg : ∀ x, P x → Tot (fun n => G n x) Q) : Tot (fun n => (F n).bind (G n)) Q := by
  obtain ⟨x, hx, hF⟩ := h
  obtain ⟨r, hr, hG⟩ := hg x hx
  exact ⟨r, hr, Ev.bind hF hG⟩
theorem Tot2.bind {F : Nat → Nat → Option S} {G : Nat → Nat → S → Option R} {P : S → Prop} {Q : R → Prop} (h : Tot2 F P) (hg : ∀ x, P x → Tot2 (fun n m => G n m x) Q) : Tot2 (fun n m => (F n m).bind (G n m)) Q := by
  obtain ⟨x, hx, hF⟩ := h
  obtain ⟨r, hr, hG⟩ := hg x hx
  exact ⟨r, hr, Ev2.bind hF hG⟩
theorem Tot2.bind1 {F : Nat → Option S} {G : Nat → Nat → S → Option R} {P : S → Prop} {Q : R → Prop} (h : Tot F P) (hg : ∀ x, P x → Tot2 (fun n m => G n m x) Q) : Tot2 (fun n m => (F n).bind (G n m)) Q :=
  Tot2.bind (F := fun n _ => F n) (Tot2.of1 h) hg
theorem Tot.idx {xs : List S} {i : Nat} {G : Nat → S → Option R} {Q : R → Prop} (hi : i < xs.length) (hg : Tot (fun n => G n xs[i]) Q) : Tot (fun n => (idxA xs (i : Int)).bind (G n)) Q := by
  have : idxA xs (i : Int) = some xs[i] := by simp [idxA, hi]
  simp only [this]; exact hg
theorem Tot2.idx {xs : List S} {i : Nat} {G : Nat → Nat → S → Option R} {Q : R → Prop} (hi : i < xs.length) (hg : Tot2 (fun n m => G n m xs[i]) Q) : Tot2 (fun n m => (idxA xs (i : Int)).bind (G n m)) Q := by
  have : idxA xs (i : Int) = some xs[i] := by simp [idxA, hi]
  simp only [this]; exact hg
theorem Tot.cnd {c : Bool} {A B : Nat → Option R} {Q : R → Prop} (h1 : c = true → Tot A Q) (h2 : c = false → Tot B Q) : Tot (fun n => bif c then A n else B n) Q := by
  cases c with
  | true => exact h1 rfl
  | false => exact h2 rfl
theorem Tot2.cnd {c : Bool} {A B : Nat → Nat → Option R} {Q : R → Prop} (h1 : c = true → Tot2 A Q) (h2 : c = false → Tot2 B Q) : Tot2 (fun n m => bif c then A n m else B n m) Q := by
  cases c with
  | true => exact h1 rfl
  | false => exact h2 rfl
theorem Tot.imp {F : Nat → Option R} {P Q : R → Prop} (h : Tot F P) (k : ∀ r, P r → Q r) : Tot F Q := Exists.imp (fun r x => ⟨k r x.1, x.2⟩) h
theorem Tot2.imp {F : Nat → Nat → Option R} {P Q : R → Prop} (h : Tot2 F P) (k : ∀ r, P r → Q r) : Tot2 F Q := Exists.imp (fun r x => ⟨k r x.1, x.2⟩) h
theorem Tot.ev {F : Nat → Option R} {r : R} (h : Tot F (· = r)) : Ev F r := by obtain ⟨s, rfl, h⟩ := h; exact h
theorem Ev.tot {F : Nat → Option R} {r : R} {Q : R → Prop} (h : Ev F r) (q : Q r) : Tot F Q := ⟨r, q, h⟩
theorem Ev2.tot {F : Nat → Nat → Option R} {r : R} {Q : R → Prop} (h : Ev2 F r) (q : Q r) : Tot2 F Q := ⟨r, q, h⟩
/-- A loop with a number that goes up to a bound: each round ends it, or goes on with the next number. -/
theorem Tot2.up {L : Nat → Nat → Int → S → Option R} (len : Nat) (I : Nat → S → Prop) (Q : R → Prop)
    (h1 : ∀ i s, i < len → I i s → (∀ s', I (i + 1) s' → Tot2 (fun n m => L n m ((i + 1 : Nat) : Int) s') Q) → Tot2 (fun n m => L n m (i : Int) s) Q)
    (h2 : ∀ s, I len s → Tot2 (fun n m => L n m (len : Int) s) Q) : ∀ (i : Nat) (s : S), i ≤ len → I i s → Tot2 (fun n m => L n m (i : Int) s) Q := by
  intro i s hi h
  obtain ⟨k, hk⟩ : ∃ k, k = len - i := ⟨_, rfl⟩
  induction k generalizing i s with
  | zero => obtain rfl : i = len := by omega
            exact h2 s h
  | succ k ih => exact h1 i s (by omega) h fun s' hs => ih (i + 1) s' (by omega) hs (by omega)
theorem wrap_small {n : Int} (h : -9223372036854775808 ≤ n) (h2 : n ≤ 9223372036854775807) : IntKind.i64.wrap n = n := by
  simp only [IntKind.wrap, IntKind.signed, IntKind.bits, Bool.true_and, decide_eq_true_eq]
  split <;> rename_i h3 <;> simp only [decide_eq_true_eq, ge_iff_le] at h3 <;> omega
theorem wrap_next {i : Nat} (h : i < 9223372036854775807) : IntKind.i64.wrap ((i : Int) + 1) = ((i + 1 : Nat) : Int) := by
  rw [wrap_small (by omega) (by omega)]; rfl
theorem idxA_at {xs : List S} {i : Nat} (hi : i < xs.length) : idxA xs (i : Int) = some xs[i] := by simp [idxA, hi]
theorem Ev2.idx {xs : List S} {i : Nat} {G : Nat → Nat → S → Option R} {r : R} (hi : i < xs.length) (hg : Ev2 (fun n m => G n m xs[i]) r) : Ev2 (fun n m => (idxA xs (i : Int)).bind (G n m)) r := by
  simp only [idxA_at hi]; exact hg
/-- Equality as a truth value. -/
noncomputable def eqb {α : Type} (a b : α) : Bool := @decide (a = b) (Classical.propDecidable _)
theorem eqb_iff {α : Type} {a b : α} : eqb a b = true ↔ a = b := by
  unfold eqb; exact @decide_eq_true_iff _ (Classical.propDecidable _)
theorem eqb_self {α : Type} (a : α) : eqb a a = true := eqb_iff.2 rfl
theorem eqb_false {α : Type} {a b : α} (h : a ≠ b) : eqb a b = false := by
  cases hc : eqb a b with
  | false => rfl
  | true => exact absurd (eqb_iff.1 hc) h
theorem eqb_cons {α : Type} (x y : α) (xs ys : List α) : eqb (x :: xs) (y :: ys) = (eqb x y && eqb xs ys) := by
  rw [Bool.eq_iff_iff, Bool.and_eq_true, eqb_iff, eqb_iff, eqb_iff, List.cons.injEq]
theorem eqb_len {α : Type} {xs ys : List α} (h : xs.length ≠ ys.length) : eqb xs ys = false := eqb_false fun e => h (by rw [e])
theorem eqb_beq {α : Type} [BEq α] [LawfulBEq α] (x y : α) : eqb x y = (x == y) := by
  rw [Bool.eq_iff_iff, eqb_iff, beq_iff_eq]
theorem Ev2.andThen {F : Nat → Nat → Option Bool} {c r : Bool} (h : Ev2 F r) : Ev2 (fun n m => bif c then F n m else some false) (c && r) := by
  cases c with
  | true => exact h
  | false => exact Ev2.pure
theorem Ev.andThen {F : Nat → Option Bool} {c r : Bool} (h : Ev F r) : Ev (fun n => bif c then F n else some false) (c && r) := by
  cases c with
  | true => exact h
  | false => exact Ev.pure
theorem Ev2.same {α : Type} {L : Nat → Nat → Int → Option Bool} (xs ys : List α) (hl : xs.length = ys.length)
    (h1 : ∀ (i : Nat) (hi : i < xs.length) (hj : i < ys.length) (r : Bool), Ev2 (fun n m => L n m ((i + 1 : Nat) : Int)) r → Ev2 (fun n m => L n m (i : Int)) (eqb xs[i] ys[i] && r))
    (h2 : Ev2 (fun n m => L n m (xs.length : Int)) true) : Ev2 (fun n m => L n m 0) (eqb xs ys) := by
  have key : ∀ (k i : Nat), k + i = xs.length → Ev2 (fun n m => L n m (i : Int)) (eqb (xs.drop i) (ys.drop i)) := by
    intro k
    induction k with
    | zero =>
      intro i hi
      obtain rfl : i = xs.length := by omega
      rw [List.drop_length, hl, List.drop_length, eqb_self, ← hl]
      exact h2
    | succ k ih =>
      intro i hi
      have hi1 : i < xs.length := by omega
      have hi2 : i < ys.length := by omega
      rw [List.drop_eq_getElem_cons hi1, List.drop_eq_getElem_cons hi2, eqb_cons]
      exact h1 i hi1 hi2 _ (ih (i + 1) (by omega))
  have := key xs.length 0 (by omega)
  simpa using this
end Go.Abs

/- Plain facts on the functions below Few: each has an answer. -/
namespace Go.Abs
set_option linter.unusedVariables false
set_option linter.unusedSimpArgs false
theorem sumB_mem {α : Type} {f : α → Nat} : ∀ {xs : List α} {x : α}, x ∈ xs → f x ≤ sumB f xs
  | y :: ys, x, h => by
    simp only [sumB]
    rcases List.mem_cons.mp h with rfl | h
    · omega
    · have := sumB_mem (f := f) h; omega
theorem sumB_len {α : Type} {f : α → Nat} (h : ∀ x, 1 ≤ f x) : ∀ xs : List α, xs.length ≤ sumB f xs
  | [] => by simp [sumB]
  | y :: ys => by have := sumB_len h ys; have := h y; simp only [sumB, List.length_cons]; omega
theorem Term.bulk_pos (x : Term) : 1 ≤ x.bulk := by rw [Term.bulk_eq]; omega
theorem Level.bulk_pos (x : Level) : 1 ≤ x.bulk := by rw [Level.bulk]; omega
theorem LevelVar.bulk_pos (x : LevelVar) : 1 ≤ x.bulk := by rw [LevelVar.bulk]; omega
theorem Branch.bulk_pos (x : Branch) : 1 ≤ x.bulk := by rw [Branch.bulk_eq]; omega
theorem Term.kids_len (x : Term) : x.kids.length < x.bulk := by rw [Term.bulk_eq]; have := sumB_len Term.bulk_pos x.kids; omega
theorem Term.levels_len (x : Term) : x.levels.length < x.bulk := by rw [Term.bulk_eq]; have := sumB_len Level.bulk_pos x.levels; omega
theorem Term.name_len (x : Term) : x.name.length < x.bulk := by rw [Term.bulk_eq]; omega
theorem Level.vars_len (x : Level) : x.vars.length < x.bulk := by rw [Level.bulk]; have := sumB_len LevelVar.bulk_pos x.vars; omega
theorem Term.kid_lt {x t : Term} (h : t ∈ x.kids) : t.bulk < x.bulk := by rw [Term.bulk_eq x]; have := sumB_mem (f := Term.bulk) h; omega
theorem Term.level_lt {x : Term} {l : Level} (h : l ∈ x.levels) : l.bulk < x.bulk := by rw [Term.bulk_eq x]; have := sumB_mem (f := Level.bulk) h; omega
/-- Bounds on sizes. -/
def lim : Nat := 9223372036854775807
abbrev Yes {R : Type} : R → Prop := fun _ => True
theorem ref03_Size_tot : ∀ (t : Term), t.bulk < lim → Tot (fun n => ref03_Size n t) Yes := by
  intro t
  induction h : t.bulk using Nat.strongRecOn generalizing t with
  | ind k ih =>
    intro hk
    have hl := t.kids_len
    refine Tot.fn (fun n => by simp only [ref03_Size, ref03_Size_e]; exact rfl) ?_
    refine Tot.of2 (F := fun n m => ref03_Size_l1 (ref03_Size n) n m 1 0 t) ?_
    refine Tot2.up (S := Int) (L := fun n m i s => ref03_Size_l1 (ref03_Size n) n m s i t) t.kids.length (fun _ _ => True) Yes ?_ ?_ 0 1 (by omega) trivial
    · intro i s hi _ next
      refine Tot2.lp (fun n m => by simp only [ref03_Size_l1, ref03_Size_b1]; exact rfl) ?_
      simp only [hi, Int.ofNat_lt, decide_true, cond_true]
      refine Tot2.idx hi ?_
      have hm := t.kid_lt (List.getElem_mem hi)
      refine Tot2.bind1 (ih _ (by omega) _ rfl (by omega)) fun x _ => ?_
      rw [wrap_next (by unfold lim at hk; omega)]
      exact next _ trivial
    · intro s _
      refine Tot2.lp (fun n m => by simp only [ref03_Size_l1, ref03_Size_b1]; exact rfl) ?_
      simp only [Int.lt_irrefl, decide_false, cond_false]
      exact Tot2.pure trivial
theorem ref03_Depth_tot : ∀ (t : Term), t.bulk < lim → Tot (fun n => ref03_Depth n t) Yes := by
  intro t
  induction h : t.bulk using Nat.strongRecOn generalizing t with
  | ind k ih =>
    intro hk
    have hl := t.kids_len
    refine Tot.fn (fun n => by simp only [ref03_Depth, ref03_Depth_e]; exact rfl) ?_
    refine Tot.of2 (F := fun n m => ref03_Depth_l1 (ref03_Depth n) n m 0 0 t) ?_
    refine Tot2.up (S := Int) (L := fun n m i s => ref03_Depth_l1 (ref03_Depth n) n m s i t) t.kids.length (fun _ _ => True) Yes ?_ ?_ 0 0 (by omega) trivial
    · intro i s hi _ next
      refine Tot2.lp (fun n m => by simp only [ref03_Depth_l1, ref03_Depth_b1]; exact rfl) ?_
      simp only [hi, Int.ofNat_lt, decide_true, cond_true]
      refine Tot2.idx hi ?_
      have hm := t.kid_lt (List.getElem_mem hi)
      refine Tot2.bind1 (ih _ (by omega) _ rfl (by omega)) fun x _ => ?_
      rw [wrap_next (by unfold lim at hk; omega)]
      exact next _ trivial
    · intro s _
      refine Tot2.lp (fun n m => by simp only [ref03_Depth_l1, ref03_Depth_b1]; exact rfl) ?_
      simp only [Int.lt_irrefl, decide_false, cond_false]
      exact Tot2.pure trivial
theorem ref03_Kids_tot (k : Int) : Tot (fun n => ref03_Kids n k) Yes := by
  refine Tot.fn (fun n => by simp only [ref03_Kids, ref03_Kids_e]; exact rfl) ?_
  (repeat' (first | exact Tot.pure trivial | exact Tot2.pure trivial | refine Tot.cnd (fun _ => ?_) (fun _ => ?_) | refine Tot2.cnd (fun _ => ?_) (fun _ => ?_)))
theorem ref03_Below_tot (k i : Int) : Tot (fun n => ref03_Below n k i) Yes := by
  refine Tot.fn (fun n => by simp only [ref03_Below, ref03_Below_e]; exact rfl) ?_
  (repeat' (first | exact Tot.pure trivial | exact Tot2.pure trivial | refine Tot.cnd (fun _ => ?_) (fun _ => ?_) | refine Tot2.cnd (fun _ => ?_) (fun _ => ?_)))
theorem ref03_letter_tot (k : Int) : Tot (fun n => ref03_letter n k) Yes := by
  refine Tot.fn (fun n => by simp only [ref03_letter, ref03_letter_e]; exact rfl) ?_
  (repeat' (first | exact Tot.pure trivial | exact Tot2.pure trivial | refine Tot.cnd (fun _ => ?_) (fun _ => ?_) | refine Tot2.cnd (fun _ => ?_) (fun _ => ?_)))
theorem ref01_Valid_tot (l : Level) (hk : l.bulk < lim) : Tot (fun n => ref01_Valid n l) Yes := by
  have hl := l.vars_len
  refine Tot.fn (fun n => by simp only [ref01_Valid, ref01_Valid_e]; exact rfl) ?_
  (repeat' (first | exact Tot.pure trivial | exact Tot2.pure trivial | refine Tot.cnd (fun _ => ?_) (fun _ => ?_) | refine Tot2.cnd (fun _ => ?_) (fun _ => ?_)))
  refine Tot.of2 (F := fun n m => ref01_Valid_l1 n m 0 l) ?_
  refine Tot2.up (S := Unit) (L := fun n m i s => ref01_Valid_l1 n m i l) l.vars.length (fun _ _ => True) Yes ?_ ?_ 0 () (by omega) trivial
  · intro i s hi _ next
    refine Tot2.lp (fun n m => by simp only [ref01_Valid_l1, ref01_Valid_b1]; exact rfl) ?_
    simp only [hi, Int.ofNat_lt, decide_true, cond_true]
    refine Tot2.idx hi ?_
    (repeat' (first | exact Tot.pure trivial | exact Tot2.pure trivial | refine Tot.cnd (fun _ => ?_) (fun _ => ?_) | refine Tot2.cnd (fun _ => ?_) (fun _ => ?_)))
    · rename_i h0
      have h0 : 0 < (i : Int) := by simpa using h0
      have e : IntKind.i64.wrap ((i : Int) - 1) = ((i - 1 : Nat) : Int) := by rw [wrap_small (by omega) (by unfold lim at hk; omega)]; omega
      simp only [e]
      refine Tot2.idx (by omega) ?_
      rw [wrap_next (by unfold lim at hk; omega)]
      (repeat' (first | exact Tot.pure trivial | exact Tot2.pure trivial | refine Tot.cnd (fun _ => ?_) (fun _ => ?_) | refine Tot2.cnd (fun _ => ?_) (fun _ => ?_)))
      all_goals exact next s trivial
    all_goals (rw [wrap_next (by unfold lim at hk; omega)]; exact next s trivial)
  · intro s _
    refine Tot2.lp (fun n m => by simp only [ref01_Valid_l1, ref01_Valid_b1]; exact rfl) ?_
    simp only [Int.lt_irrefl, decide_false, cond_false]
    exact Tot2.pure trivial
theorem ref03_Name_tot (s : Str) (hk : s.length < lim) : Tot (fun n => ref03_Name n s) Yes := by
  refine Tot.fn (fun n => by simp only [ref03_Name, ref03_Name_e]; exact rfl) ?_
  (repeat' (first | exact Tot.pure trivial | exact Tot2.pure trivial | refine Tot.cnd (fun _ => ?_) (fun _ => ?_) | refine Tot2.cnd (fun _ => ?_) (fun _ => ?_)))
  refine Tot.of2 (F := fun n m => ref03_Name_l1 n m s true 0) ?_
  refine Tot2.up (S := Bool) (L := fun n m i b => ref03_Name_l1 n m s b i) s.length (fun _ _ => True) Yes ?_ ?_ 0 true (by omega) trivial
  · intro i b hi _ next
    refine Tot2.lp (fun n m => by simp only [ref03_Name_l1, ref03_Name_b1]; exact rfl) ?_
    simp only [hi, Int.ofNat_lt, decide_true, cond_true]
    refine Tot2.idx hi ?_
    rw [wrap_next (by unfold lim at hk; omega)]
    (repeat' (first | exact Tot.pure trivial | exact Tot2.pure trivial | refine Tot.cnd (fun _ => ?_) (fun _ => ?_) | refine Tot2.cnd (fun _ => ?_) (fun _ => ?_)))
    · refine Tot2.bind1 (ref03_letter_tot _) fun x _ => ?_
      (repeat' (first | exact Tot.pure trivial | exact Tot2.pure trivial | refine Tot.cnd (fun _ => ?_) (fun _ => ?_) | refine Tot2.cnd (fun _ => ?_) (fun _ => ?_)))
      exact next _ trivial
    · exact next _ trivial
    · refine Tot2.bind1 (ref03_letter_tot _) fun x _ => ?_
      (repeat' (first | exact Tot.pure trivial | exact Tot2.pure trivial | refine Tot.cnd (fun _ => ?_) (fun _ => ?_) | refine Tot2.cnd (fun _ => ?_) (fun _ => ?_)))
      all_goals exact next _ trivial
  · intro s _
    refine Tot2.lp (fun n m => by simp only [ref03_Name_l1, ref03_Name_b1]; exact rfl) ?_
    simp only [Int.lt_irrefl, decide_false, cond_false]
    exact Tot2.pure trivial
theorem ref03_level_tot (l : Level) (p q : Int) (hk : l.bulk < lim) : Tot (fun n => ref03_level n l p q) Yes := by
  have hl := l.vars_len
  refine Tot.fn (fun n => by simp only [ref03_level, ref03_level_e]; exact rfl) ?_
  refine Tot.bind (ref01_Valid_tot l hk) fun x _ => ?_
  (repeat' (first | exact Tot.pure trivial | exact Tot2.pure trivial | refine Tot.cnd (fun _ => ?_) (fun _ => ?_) | refine Tot2.cnd (fun _ => ?_) (fun _ => ?_)))
  have k1 : Tot (fun n => ref03_level_l1 n n q 0 l) Yes := by
    refine Tot.of2 (F := fun n m => ref03_level_l1 n m q 0 l) ?_
    refine Tot2.up (S := Unit) (L := fun n m i s => ref03_level_l1 n m q i l) l.vars.length (fun _ _ => True) Yes ?_ ?_ 0 () (by omega) trivial
    · intro i s hi _ next
      refine Tot2.lp (fun n m => by simp only [ref03_level_l1, ref03_level_b1]; exact rfl) ?_
      simp only [hi, Int.ofNat_lt, decide_true, cond_true]
      refine Tot2.idx hi ?_
      rw [wrap_next (by unfold lim at hk; omega)]
      (repeat' (first | exact Tot.pure trivial | exact Tot2.pure trivial | refine Tot.cnd (fun _ => ?_) (fun _ => ?_) | refine Tot2.cnd (fun _ => ?_) (fun _ => ?_)))
      · refine Tot2.idx hi ?_
        (repeat' (first | exact Tot.pure trivial | exact Tot2.pure trivial | refine Tot.cnd (fun _ => ?_) (fun _ => ?_) | refine Tot2.cnd (fun _ => ?_) (fun _ => ?_)))
        exact next s trivial
      · exact next s trivial
    · intro s _
      refine Tot2.lp (fun n m => by simp only [ref03_level_l1, ref03_level_b1]; exact rfl) ?_
      simp only [Int.lt_irrefl, decide_false, cond_false]
      exact Tot2.pure trivial
  refine Tot.of2 (F := fun n m => ref03_level_l2 n m p q 0 l) ?_
  refine Tot2.up (S := Unit) (L := fun n m i s => ref03_level_l2 n m p q i l) l.vars.length (fun _ _ => True) Yes ?_ ?_ 0 () (by omega) trivial
  · intro i s hi _ next
    refine Tot2.lp (fun n m => by simp only [ref03_level_l2, ref03_level_b2]; exact rfl) ?_
    simp only [hi, Int.ofNat_lt, decide_true, cond_true]
    refine Tot2.idx hi ?_
    rw [wrap_next (by unfold lim at hk; omega)]
    (repeat' (first | exact Tot.pure trivial | exact Tot2.pure trivial | refine Tot.cnd (fun _ => ?_) (fun _ => ?_) | refine Tot2.cnd (fun _ => ?_) (fun _ => ?_)))
    · refine Tot2.idx hi ?_
      (repeat' (first | exact Tot.pure trivial | exact Tot2.pure trivial | refine Tot.cnd (fun _ => ?_) (fun _ => ?_) | refine Tot2.cnd (fun _ => ?_) (fun _ => ?_)))
      exact next s trivial
    · exact next s trivial
  · intro s _
    refine Tot2.lp (fun n m => by simp only [ref03_level_l2, ref03_level_b2]; exact rfl) ?_
    simp only [Int.lt_irrefl, decide_false, cond_false]
    exact Tot2.of1 k1
theorem ref03_form_tot (t : Term) : Tot (fun n => ref03_form n t) Yes := by
  refine Tot.fn (fun n => by simp only [ref03_form, ref03_form_e]; exact rfl) ?_
  (repeat' (first | exact Tot.pure trivial | exact Tot2.pure trivial | refine Tot.cnd (fun _ => ?_) (fun _ => ?_) | refine Tot2.cnd (fun _ => ?_) (fun _ => ?_)))
  refine Tot.bind (ref03_Kids_tot _) fun x _ => ?_
  (repeat' (first | exact Tot.pure trivial | exact Tot2.pure trivial | refine Tot.cnd (fun _ => ?_) (fun _ => ?_) | refine Tot2.cnd (fun _ => ?_) (fun _ => ?_)))
theorem ref03_check_tot : ∀ (t : Term) (a b c d e : Int), t.bulk < lim → Tot (fun n => ref03_check n t a b c d e) Yes := by
  intro t
  induction h : t.bulk using Nat.strongRecOn generalizing t with
  | ind k ih =>
    intro a b c d e hk
    have hl := t.kids_len
    have hl2 := t.levels_len
    have hl3 := t.name_len
    refine Tot.fn (fun n => by simp only [ref03_check, ref03_check_e]; exact rfl) ?_
    have k1 : Tot (fun n => ref03_check_l1 (ref03_check n) n n a b c d e 0 t) Yes := by
      refine Tot.of2 (F := fun n m => ref03_check_l1 (ref03_check n) n m a b c d e 0 t) ?_
      refine Tot2.up (S := Unit) (L := fun n m i s => ref03_check_l1 (ref03_check n) n m a b c d e i t) t.kids.length (fun _ _ => True) Yes ?_ ?_ 0 () (by omega) trivial
      · intro i s hi _ next
        refine Tot2.lp (fun n m => by simp only [ref03_check_l1, ref03_check_b1]; exact rfl) ?_
        simp only [hi, Int.ofNat_lt, decide_true, cond_true]
        refine Tot2.idx hi ?_
        have hm := t.kid_lt (List.getElem_mem hi)
        rw [wrap_next (by unfold lim at hk; omega)]
        refine Tot2.bind1 (ref03_Below_tot _ _) fun x _ => ?_
        refine Tot2.bind1 (ih _ (by omega) _ rfl _ _ _ _ _ (by omega)) fun x _ => ?_
        (repeat' (first | exact Tot.pure trivial | exact Tot2.pure trivial | refine Tot.cnd (fun _ => ?_) (fun _ => ?_) | refine Tot2.cnd (fun _ => ?_) (fun _ => ?_)))
        exact next s trivial
      · intro s _
        refine Tot2.lp (fun n m => by simp only [ref03_check_l1, ref03_check_b1]; exact rfl) ?_
        simp only [Int.lt_irrefl, decide_false, cond_false]
        exact Tot2.pure trivial
    have k2 : Tot (fun n => ref03_check_l2 (ref03_check n) n n a b c d e 0 t) Yes := by
      refine Tot.of2 (F := fun n m => ref03_check_l2 (ref03_check n) n m a b c d e 0 t) ?_
      refine Tot2.up (S := Unit) (L := fun n m i s => ref03_check_l2 (ref03_check n) n m a b c d e i t) t.levels.length (fun _ _ => True) Yes ?_ ?_ 0 () (by omega) trivial
      · intro i s hi _ next
        refine Tot2.lp (fun n m => by simp only [ref03_check_l2, ref03_check_b2]; exact rfl) ?_
        simp only [hi, Int.ofNat_lt, decide_true, cond_true]
        refine Tot2.idx hi ?_
        have hm := t.level_lt (List.getElem_mem hi)
        rw [wrap_next (by unfold lim at hk; omega)]
        refine Tot2.bind1 (ref03_level_tot _ _ _ (by omega)) fun x _ => ?_
        (repeat' (first | exact Tot.pure trivial | exact Tot2.pure trivial | refine Tot.cnd (fun _ => ?_) (fun _ => ?_) | refine Tot2.cnd (fun _ => ?_) (fun _ => ?_)))
        exact next s trivial
      · intro s _
        refine Tot2.lp (fun n m => by simp only [ref03_check_l2, ref03_check_b2]; exact rfl) ?_
        simp only [Int.lt_irrefl, decide_false, cond_false]
        (repeat' (first | exact Tot.pure trivial | exact Tot2.pure trivial | refine Tot.cnd (fun _ => ?_) (fun _ => ?_) | refine Tot2.cnd (fun _ => ?_) (fun _ => ?_)))
        all_goals exact Tot2.of1 k1
    refine Tot.bind (ref03_form_tot _) fun x _ => ?_
    (repeat' (first | exact Tot.pure trivial | exact Tot2.pure trivial | refine Tot.cnd (fun _ => ?_) (fun _ => ?_) | refine Tot2.cnd (fun _ => ?_) (fun _ => ?_)))
    · refine Tot.bind (ref03_Name_tot _ (by omega)) fun x _ => ?_
      (repeat' (first | exact Tot.pure trivial | exact Tot2.pure trivial | refine Tot.cnd (fun _ => ?_) (fun _ => ?_) | refine Tot2.cnd (fun _ => ?_) (fun _ => ?_)))
      exact k2
    · exact k2
theorem ref03_Check_tot (t : Term) (a b c d : Int) (hk : t.bulk < lim) : Tot (fun n => ref03_Check n t a b c d) Yes := by
  refine Tot.fn (fun n => by simp only [ref03_Check, ref03_Check_e]; exact rfl) ?_
  refine Tot.bind (ref03_check_tot _ _ _ _ _ _ hk) fun x _ => ?_
  (repeat' (first | exact Tot.pure trivial | exact Tot2.pure trivial | refine Tot.cnd (fun _ => ?_) (fun _ => ?_) | refine Tot2.cnd (fun _ => ?_) (fun _ => ?_)))
  refine Tot.bind (ref03_Size_tot _ hk) fun x _ => ?_
  (repeat' (first | exact Tot.pure trivial | exact Tot2.pure trivial | refine Tot.cnd (fun _ => ?_) (fun _ => ?_) | refine Tot2.cnd (fun _ => ?_) (fun _ => ?_)))
  refine Tot.bind (ref03_Depth_tot _ hk) fun x _ => ?_
  (repeat' (first | exact Tot.pure trivial | exact Tot2.pure trivial | refine Tot.cnd (fun _ => ?_) (fun _ => ?_) | refine Tot2.cnd (fun _ => ?_) (fun _ => ?_)))
theorem law07_small_tot (t : Term) (hk : t.bulk < lim) : Tot (fun n => law07_small n t) Yes := by
  refine Tot.fn (fun n => by simp only [law07_small, law07_small_e]; exact rfl) ?_
  refine Tot.bind (ref03_Size_tot _ hk) fun x _ => ?_
  (repeat' (first | exact Tot.pure trivial | exact Tot2.pure trivial | refine Tot.cnd (fun _ => ?_) (fun _ => ?_) | refine Tot2.cnd (fun _ => ?_) (fun _ => ?_)))
  refine Tot.bind (ref03_Depth_tot _ hk) fun x _ => ?_
  (repeat' (first | exact Tot.pure trivial | exact Tot2.pure trivial | refine Tot.cnd (fun _ => ?_) (fun _ => ?_) | refine Tot2.cnd (fun _ => ?_) (fun _ => ?_)))
theorem Tree.branches_len (x : Tree) : x.branches.length < x.bulk := by rw [Tree.bulk_eq]; have := sumB_len Branch.bulk_pos x.branches; omega
theorem Tree.body_lt (x : Tree) : x.body.bulk < x.bulk := by rw [Tree.bulk_eq]; omega
theorem Tree.kid_lt {x : Tree} {b : Branch} (h : b ∈ x.branches) : b.tree.bulk < x.bulk := by rw [Tree.bulk_eq x]; have := sumB_mem (f := Branch.bulk) h; rw [Branch.bulk_eq] at this; omega
theorem law07_smallTree_tot : ∀ (t : Tree) (a : Int), t.bulk < lim → Tot (fun n => law07_smallTree n t a) Yes := by
  intro t
  induction h : t.bulk using Nat.strongRecOn generalizing t with
  | ind k ih =>
    intro a hk
    have hl := t.branches_len
    have hl2 := t.body_lt
    refine Tot.fn (fun n => by simp only [law07_smallTree, law07_smallTree_e]; exact rfl) ?_
    (repeat' (first | exact Tot.pure trivial | exact Tot2.pure trivial | refine Tot.cnd (fun _ => ?_) (fun _ => ?_) | refine Tot2.cnd (fun _ => ?_) (fun _ => ?_)))
    refine Tot.bind (law07_small_tot _ (by omega)) fun x _ => ?_
    (repeat' (first | exact Tot.pure trivial | exact Tot2.pure trivial | refine Tot.cnd (fun _ => ?_) (fun _ => ?_) | refine Tot2.cnd (fun _ => ?_) (fun _ => ?_)))
    refine Tot.of2 (F := fun n m => law07_smallTree_l1 (law07_smallTree n) n m a 0 t) ?_
    refine Tot2.up (S := Unit) (L := fun n m i s => law07_smallTree_l1 (law07_smallTree n) n m a i t) t.branches.length (fun _ _ => True) Yes ?_ ?_ 0 () (by omega) trivial
    · intro i s hi _ next
      refine Tot2.lp (fun n m => by simp only [law07_smallTree_l1, law07_smallTree_b1]; exact rfl) ?_
      simp only [hi, Int.ofNat_lt, decide_true, cond_true]
      refine Tot2.idx hi ?_
      have hm := t.kid_lt (List.getElem_mem hi)
      rw [wrap_next (by unfold lim at hk; omega)]
      refine Tot2.bind1 (ih _ (by omega) _ rfl _ (by omega)) fun x _ => ?_
      (repeat' (first | exact Tot.pure trivial | exact Tot2.pure trivial | refine Tot.cnd (fun _ => ?_) (fun _ => ?_) | refine Tot2.cnd (fun _ => ?_) (fun _ => ?_)))
      refine Tot2.idx hi ?_
      (repeat' (first | exact Tot.pure trivial | exact Tot2.pure trivial | refine Tot.cnd (fun _ => ?_) (fun _ => ?_) | refine Tot2.cnd (fun _ => ?_) (fun _ => ?_)))
      exact next s trivial
    · intro s _
      refine Tot2.lp (fun n m => by simp only [law07_smallTree_l1, law07_smallTree_b1]; exact rfl) ?_
      simp only [Int.lt_irrefl, decide_false, cond_false]
      exact Tot2.pure trivial
end Go.Abs

/- Plain facts on the functions that compare: each says whether its arguments are equal. -/
namespace Go.Abs
set_option linter.unusedVariables false
set_option linter.unusedSimpArgs false
theorem eqb_LevelVar (a b : LevelVar) : eqb a b = (a.index == b.index && a.plus == b.plus) := by
  rw [Bool.eq_iff_iff, eqb_iff, Bool.and_eq_true, beq_iff_eq, beq_iff_eq]
  cases a; cases b; simp
theorem eqb_Level (a b : Level) : eqb a b = (a.const == b.const && eqb a.vars b.vars) := by
  rw [Bool.eq_iff_iff, eqb_iff, Bool.and_eq_true, beq_iff_eq, eqb_iff]
  cases a; cases b; simp
theorem eqb_Term (a b : Term) : eqb a b = (a.kind == b.kind && (a.index == b.index && (a.name == b.name && (eqb a.levels b.levels && eqb a.kids b.kids)))) := by
  rw [Bool.eq_iff_iff, eqb_iff]
  simp only [Bool.and_eq_true, beq_iff_eq, eqb_iff]
  cases a; cases b
  simp only [Term.mk.injEq, Term.kind, Term.index, Term.name, Term.levels, Term.kids]
theorem intlen {α β : Type} (xs : List α) (ys : List β) : ((xs.length : Int) != (ys.length : Int)) = (xs.length != ys.length) := by
  rw [Bool.eq_iff_iff, bne_iff_ne, bne_iff_ne]; omega
theorem slices_Equal_LevelVar_ev (a b : List LevelVar) (hk : a.length < lim) : Ev (fun n => slices_Equal_LevelVar n a b) (eqb a b) := by
  refine Ev.fn (fun n => by simp only [slices_Equal_LevelVar, slices_Equal_LevelVar_e]; exact rfl) ?_
  by_cases hl : a.length = b.length
  · have e : ((a.length : Int) != (b.length : Int)) = false := by rw [intlen, hl]; simp
    simp only [e, cond_false]
    refine Ev.of2 (F := fun n m => slices_Equal_LevelVar_l1 n m a b a.length 0) ?_
    refine Ev2.same (L := fun n m i => slices_Equal_LevelVar_l1 n m a b a.length i) a b hl ?_ ?_
    · intro i hi hj r hr
      refine Ev2.lp (fun n m => by simp only [slices_Equal_LevelVar_l1, slices_Equal_LevelVar_b1]; exact rfl) ?_
      simp only [hi, Int.ofNat_lt, decide_true, cond_true]
      rw [wrap_next (by unfold lim at hk; omega), eqb_LevelVar]
      exact Ev2.idx hi (Ev2.idx hj (Ev2.andThen hr))
    · refine Ev2.lp (fun n m => by simp only [slices_Equal_LevelVar_l1, slices_Equal_LevelVar_b1]; exact rfl) ?_
      simp only [Int.lt_irrefl, decide_false, cond_false]
      exact Ev2.pure
  · have e : ((a.length : Int) != (b.length : Int)) = true := by rw [intlen]; simpa using hl
    simp only [e, cond_true]
    rw [eqb_len hl]
    exact Ev.pure
theorem term_sameLevel_ev (a b : Level) (hk : a.bulk < lim) : Ev (fun n => term_sameLevel n a b) (eqb a b) := by
  have := a.vars_len
  refine Ev.fn (fun n => by simp only [term_sameLevel, term_sameLevel_e]; exact rfl) ?_
  rw [eqb_Level]
  exact Ev.andThen (Ev.bind (slices_Equal_LevelVar_ev _ _ (by omega)) Ev.pure)
theorem slices_EqualFunc_Level_term_sameLevel_ev (a b : List Level) (hk : a.length < lim) (hb : ∀ l ∈ a, l.bulk < lim) : Ev (fun n => slices_EqualFunc_Level_term_sameLevel n a b ()) (eqb a b) := by
  refine Ev.fn (fun n => by simp only [slices_EqualFunc_Level_term_sameLevel, slices_EqualFunc_Level_term_sameLevel_e]; exact rfl) ?_
  by_cases hl : a.length = b.length
  · have e : ((a.length : Int) != (b.length : Int)) = false := by rw [intlen, hl]; simp
    simp only [e, cond_false]
    refine Ev.of2 (F := fun n m => slices_EqualFunc_Level_term_sameLevel_l1 n m b a a.length 0) ?_
    refine Ev2.same (L := fun n m i => slices_EqualFunc_Level_term_sameLevel_l1 n m b a a.length i) a b hl ?_ ?_
    · intro i hi hj r hr
      refine Ev2.lp (fun n m => by simp only [slices_EqualFunc_Level_term_sameLevel_l1, slices_EqualFunc_Level_term_sameLevel_b1]; exact rfl) ?_
      simp only [hi, Int.ofNat_lt, decide_true, cond_true]
      rw [wrap_next (by unfold lim at hk; omega)]
      exact Ev2.idx hi (Ev2.idx hj (Ev2.bind1 (term_sameLevel_ev _ _ (hb _ (List.getElem_mem hi))) (Ev2.andThen hr)))
    · refine Ev2.lp (fun n m => by simp only [slices_EqualFunc_Level_term_sameLevel_l1, slices_EqualFunc_Level_term_sameLevel_b1]; exact rfl) ?_
      simp only [Int.lt_irrefl, decide_false, cond_false]
      exact Ev2.pure
  · have e : ((a.length : Int) != (b.length : Int)) = true := by rw [intlen]; simpa using hl
    simp only [e, cond_true]
    rw [eqb_len hl]
    exact Ev.pure
theorem slices_EqualFunc_Term_term_Same_of (a b : List Term) (hk : a.length < lim) (hb : ∀ x ∈ a, ∀ y, Ev (fun n => term_Same n x y) (eqb x y)) : Ev (fun n => slices_EqualFunc_Term_term_Same n a b ()) (eqb a b) := by
  refine Ev.fn (fun n => by simp only [slices_EqualFunc_Term_term_Same, slices_EqualFunc_Term_term_Same_e]; exact rfl) ?_
  by_cases hl : a.length = b.length
  · have e : ((a.length : Int) != (b.length : Int)) = false := by rw [intlen, hl]; simp
    simp only [e, cond_false]
    refine Ev.of2 (F := fun n m => slices_EqualFunc_Term_term_Same_l1 (term_Same n) (slices_EqualFunc_Term_term_Same n) n m b a a.length 0) ?_
    refine Ev2.same (L := fun n m i => slices_EqualFunc_Term_term_Same_l1 (term_Same n) (slices_EqualFunc_Term_term_Same n) n m b a a.length i) a b hl ?_ ?_
    · intro i hi hj r hr
      refine Ev2.lp (fun n m => by simp only [slices_EqualFunc_Term_term_Same_l1, slices_EqualFunc_Term_term_Same_b1]; exact rfl) ?_
      simp only [hi, Int.ofNat_lt, decide_true, cond_true]
      rw [wrap_next (by unfold lim at hk; omega)]
      exact Ev2.idx hi (Ev2.idx hj (Ev2.bind1 (hb _ (List.getElem_mem hi) _) (Ev2.andThen hr)))
    · refine Ev2.lp (fun n m => by simp only [slices_EqualFunc_Term_term_Same_l1, slices_EqualFunc_Term_term_Same_b1]; exact rfl) ?_
      simp only [Int.lt_irrefl, decide_false, cond_false]
      exact Ev2.pure
  · have e : ((a.length : Int) != (b.length : Int)) = true := by rw [intlen]; simpa using hl
    simp only [e, cond_true]
    rw [eqb_len hl]
    exact Ev.pure
theorem term_Same_ev : ∀ (a b : Term), a.bulk < lim → Ev (fun n => term_Same n a b) (eqb a b) := by
  intro a
  induction h : a.bulk using Nat.strongRecOn generalizing a with
  | ind k ih =>
    intro b hk
    have h1 := a.kids_len
    have h2 := a.levels_len
    refine Ev.fn (fun n => by simp only [term_Same, term_Same_e]; exact rfl) ?_
    rw [eqb_Term]
    refine Ev.andThen (Ev.andThen (Ev.andThen (Ev.bind (slices_EqualFunc_Level_term_sameLevel_ev _ _ (by omega) ?_) (Ev.andThen (Ev.bind (slices_EqualFunc_Term_term_Same_of _ _ (by omega) ?_) Ev.pure)))))
    · intro l hl; have := a.level_lt hl; omega
    · intro x hx y; have := a.kid_lt hx; exact ih x.bulk (by omega) x rfl y (by omega)
theorem slices_EqualFunc_Term_term_Same_ev (a b : List Term) (hk : a.length < lim) (hb : ∀ x ∈ a, x.bulk < lim) : Ev (fun n => slices_EqualFunc_Term_term_Same n a b ()) (eqb a b) :=
  slices_EqualFunc_Term_term_Same_of a b hk fun x hx y => term_Same_ev x y (hb x hx)
theorem family_alike_Term_term_Same_ev (a b : List Term) (hk : a.length < lim) (hb : ∀ x ∈ a, x.bulk < lim) : Ev (fun n => family_alike_Term_term_Same n a b ()) (eqb a b) := by
  refine Ev.fn (fun n => by simp only [family_alike_Term_term_Same, family_alike_Term_term_Same_e]; exact rfl) ?_
  have e : eqb a b = (((a.length : Int) == (b.length : Int)) && eqb a b) := by
    by_cases hl : a.length = b.length
    · rw [hl]; simp
    · rw [eqb_len hl]; simp
  rw [e]
  exact Ev.andThen (Ev.bind (slices_EqualFunc_Term_term_Same_ev a b hk hb) Ev.pure)
theorem ref01_Same_ev (a b : Level) (hk : a.bulk < lim) : Ev (fun n => ref01_Same n a b) (eqb a b) := by
  have h1 := a.vars_len
  refine Ev.fn (fun n => by simp only [ref01_Same, ref01_Same_e]; exact rfl) ?_
  rw [eqb_Level]
  cases hc : (a.const == b.const) with
  | false =>
    have e : (a.const != b.const) = true := by simp only [bne, hc, Bool.not_false]
    simp only [e, cond_true, Bool.false_and]
    exact Ev.pure
  | true =>
    have e : (a.const != b.const) = false := by simp only [bne, hc, Bool.not_true]
    simp only [e, cond_false, Bool.true_and]
    by_cases hl : a.vars.length = b.vars.length
    · have e : ((a.vars.length : Int) != (b.vars.length : Int)) = false := by rw [intlen, hl]; simp
      simp only [e, cond_false]
      refine Ev.of2 (F := fun n m => ref01_Same_l1 n m 0 a b) ?_
      refine Ev2.same (L := fun n m i => ref01_Same_l1 n m i a b) a.vars b.vars hl ?_ ?_
      · intro i hi hj r hr
        refine Ev2.lp (fun n m => by simp only [ref01_Same_l1, ref01_Same_b1]; exact rfl) ?_
        simp only [hi, Int.ofNat_lt, decide_true, cond_true]
        rw [wrap_next (by unfold lim at hk; omega), eqb_LevelVar]
        exact Ev2.idx hi (Ev2.idx hj (Ev2.andThen hr))
      · refine Ev2.lp (fun n m => by simp only [ref01_Same_l1, ref01_Same_b1]; exact rfl) ?_
        simp only [Int.lt_irrefl, decide_false, cond_false]
        exact Ev2.pure
    · have e : ((a.vars.length : Int) != (b.vars.length : Int)) = true := by rw [intlen]; simpa using hl
      simp only [e, cond_true]
      rw [eqb_len hl]
      exact Ev.pure
theorem ref01_SameLists_ev (a b : List Level) (hk : a.length < lim) (hb : ∀ l ∈ a, l.bulk < lim) : Ev (fun n => ref01_SameLists n a b) (eqb a b) := by
  refine Ev.fn (fun n => by simp only [ref01_SameLists, ref01_SameLists_e]; exact rfl) ?_
  by_cases hl : a.length = b.length
  · have e : ((a.length : Int) != (b.length : Int)) = false := by rw [intlen, hl]; simp
    simp only [e, cond_false]
    refine Ev.of2 (F := fun n m => ref01_SameLists_l1 n m a b 0) ?_
    refine Ev2.same (L := fun n m i => ref01_SameLists_l1 n m a b i) a b hl ?_ ?_
    · intro i hi hj r hr
      refine Ev2.lp (fun n m => by simp only [ref01_SameLists_l1, ref01_SameLists_b1]; exact rfl) ?_
      simp only [hi, Int.ofNat_lt, decide_true, cond_true]
      rw [wrap_next (by unfold lim at hk; omega)]
      exact Ev2.idx hi (Ev2.idx hj (Ev2.bind1 (ref01_Same_ev _ _ (hb _ (List.getElem_mem hi))) (Ev2.andThen hr)))
    · refine Ev2.lp (fun n m => by simp only [ref01_SameLists_l1, ref01_SameLists_b1]; exact rfl) ?_
      simp only [Int.lt_irrefl, decide_false, cond_false]
      exact Ev2.pure
  · have e : ((a.length : Int) != (b.length : Int)) = true := by rw [intlen]; simpa using hl
    simp only [e, cond_true]
    rw [eqb_len hl]
    exact Ev.pure
theorem Ev.orElse {F : Nat → Option Bool} {c : Bool} {r : Bool} (h : Ev F r) : Ev (fun n => bif !c then some false else F n) (c && r) := by
  cases c with
  | true => exact h
  | false => exact Ev.pure
theorem ref03_Same_ev : ∀ (a b : Term), a.bulk < lim → Ev (fun n => ref03_Same n a b) (eqb a b) := by
  intro a
  induction h : a.bulk using Nat.strongRecOn generalizing a with
  | ind k ih =>
    intro b hk
    have h1 := a.kids_len
    have h2 := a.levels_len
    refine Ev.fn (fun n => by simp only [ref03_Same, ref03_Same_e]; exact rfl) ?_
    rw [eqb_Term]
    refine Ev.orElse (Ev.orElse (Ev.andThen (Ev.bind (ref01_SameLists_ev _ _ (by omega) ?_) (Ev.andThen ?_))))
    · intro l hl; have := a.level_lt hl; omega
    · by_cases hl : a.kids.length = b.kids.length
      · have e : ((a.kids.length : Int) != (b.kids.length : Int)) = false := by rw [intlen, hl]; simp
        simp only [e, cond_false]
        refine Ev.of2 (F := fun n m => ref03_Same_l1 (ref03_Same n) n m 0 a b) ?_
        refine Ev2.same (L := fun n m i => ref03_Same_l1 (ref03_Same n) n m i a b) a.kids b.kids hl ?_ ?_
        · intro i hi hj r hr
          refine Ev2.lp (fun n m => by simp only [ref03_Same_l1, ref03_Same_b1]; exact rfl) ?_
          simp only [hi, Int.ofNat_lt, decide_true, cond_true]
          have := a.kid_lt (List.getElem_mem hi)
          rw [wrap_next (by unfold lim at hk; omega)]
          exact Ev2.idx hi (Ev2.idx hj (Ev2.bind1 (ih _ (by omega) _ rfl _ (by omega)) (Ev2.andThen hr)))
        · refine Ev2.lp (fun n m => by simp only [ref03_Same_l1, ref03_Same_b1]; exact rfl) ?_
          simp only [Int.lt_irrefl, decide_false, cond_false]
          exact Ev2.pure
      · have e : ((a.kids.length : Int) != (b.kids.length : Int)) = true := by rw [intlen]; simpa using hl
        simp only [e, cond_true]
        rw [eqb_len hl]
        exact Ev.pure
theorem ref05_SameList_ev (a b : List Term) (hk : a.length < lim) (hb : ∀ x ∈ a, x.bulk < lim) : Ev (fun n => ref05_SameList n a b) (eqb a b) := by
  refine Ev.fn (fun n => by simp only [ref05_SameList, ref05_SameList_e]; exact rfl) ?_
  by_cases hl : a.length = b.length
  · have e : ((a.length : Int) != (b.length : Int)) = false := by rw [intlen, hl]; simp
    simp only [e, cond_false]
    refine Ev.of2 (F := fun n m => ref05_SameList_l1 n m a b 0) ?_
    refine Ev2.same (L := fun n m i => ref05_SameList_l1 n m a b i) a b hl ?_ ?_
    · intro i hi hj r hr
      refine Ev2.lp (fun n m => by simp only [ref05_SameList_l1, ref05_SameList_b1]; exact rfl) ?_
      simp only [hi, Int.ofNat_lt, decide_true, cond_true]
      rw [wrap_next (by unfold lim at hk; omega)]
      exact Ev2.idx hi (Ev2.idx hj (Ev2.bind1 (ref03_Same_ev _ _ (hb _ (List.getElem_mem hi))) (Ev2.andThen hr)))
    · refine Ev2.lp (fun n m => by simp only [ref05_SameList_l1, ref05_SameList_b1]; exact rfl) ?_
      simp only [Int.lt_irrefl, decide_false, cond_false]
      exact Ev2.pure
  · have e : ((a.length : Int) != (b.length : Int)) = true := by rw [intlen]; simpa using hl
    simp only [e, cond_true]
    rw [eqb_len hl]
    exact Ev.pure
end Go.Abs

/- Plain facts on telescopes, spines, variables, and the constant of a family. -/
namespace Go.Abs
set_option linter.unusedVariables false
set_option linter.unusedSimpArgs false
/-- The most that an input weighs. -/
abbrev cap : Nat := 1048576
theorem two_kids {t : Term} (h : ((t.kids.length : Int) == 2) = true) : ∃ x y, t.kids = [x, y] := by
  have h : t.kids.length = 2 := by have := beq_iff_eq.1 h; omega
  match hk : t.kids, h with
  | [x, y], _ => exact ⟨x, y, rfl⟩
theorem kids2_bulk {t x y : Term} (h : t.kids = [x, y]) : x.bulk + y.bulk < t.bulk := by
  rw [Term.bulk_eq t, h]; simp only [sumB]; omega
theorem room80 {k : Nat} (h : k ≤ cap * 2) : decide ((k + 1) * 80 ≤ 17592186044416) = true := by
  simp only [cap] at h; simp only [decide_eq_true_eq]; omega
theorem All_ex : ∀ (t : Term), ∃ r : List Term × Term, (∀ acc : List Term, acc.length + t.bulk ≤ cap * 2 → Ev2 (fun n m => telescope_All_l1 n m t acc) (acc ++ r.1, r.2) ∧ Ev2 (fun n m => ref05_All_l1 n m t acc) (acc ++ r.1, r.2)) ∧ sumB Term.bulk r.1 + r.2.bulk ≤ t.bulk + 1 := by
  intro t
  induction h : t.bulk using Nat.strongRecOn generalizing t with
  | ind k ih =>
    cases hc : (t.kind == 6 && ((t.kids.length : Int) == 2)) with
    | false =>
      refine ⟨([], t), fun acc ha => ⟨?_, ?_⟩, by simp only [sumB]; omega⟩
      · refine Ev2.lp (fun n m => by simp only [telescope_All_l1, telescope_All_b1]; exact rfl) ?_
        rw [List.append_nil]
        cases h1 : (t.kind == 6) with
        | false => simp only [cond_false]; exact Ev2.pure
        | true =>
          rw [h1, Bool.true_and] at hc
          simp only [hc, cond_true, cond_false]; exact Ev2.pure
      · refine Ev2.lp (fun n m => by simp only [ref05_All_l1, ref05_All_b1]; exact rfl) ?_
        rw [List.append_nil]
        cases h1 : (t.kind == 6) with
        | false => simp only [cond_false]; exact Ev2.pure
        | true =>
          rw [h1, Bool.true_and] at hc
          simp only [hc, cond_true, cond_false]; exact Ev2.pure
    | true =>
      rw [Bool.and_eq_true] at hc
      obtain ⟨x, y, hxy⟩ := two_kids hc.2
      have hb := kids2_bulk hxy
      obtain ⟨r, hr, hrb⟩ := ih y.bulk (by omega) y rfl
      refine ⟨(x :: r.1, r.2), fun acc ha => ?_, by simp only [sumB]; omega⟩
      have h2 := hr (acc ++ [x]) (by have := x.bulk_pos; simp only [List.length_append, List.length_singleton]; omega)
      rw [List.append_assoc, List.singleton_append] at h2
      have i0 : idxA t.kids 0 = some x := by rw [hxy]; rfl
      have i1 : idxA t.kids 1 = some y := by rw [hxy]; rfl
      have hroom := room80 (k := acc.length) (by omega)
      refine ⟨?_, ?_⟩
      · refine Ev2.lp (fun n m => by simp only [telescope_All_l1, telescope_All_b1]; exact rfl) ?_
        simp only [hc.1, hc.2, cond_true, i0, i1, Option.bind_some, hroom]
        exact h2.1
      · refine Ev2.lp (fun n m => by simp only [ref05_All_l1, ref05_All_b1]; exact rfl) ?_
        simp only [hc.1, hc.2, cond_true, i0, i1, Option.bind_some, hroom]
        exact h2.2
theorem All_ev (t : Term) (ht : t.bulk ≤ cap) : ∃ r : List Term × Term, Ev (fun n => telescope_All n t) r ∧ Ev (fun n => ref05_All n t) r ∧ sumB Term.bulk r.1 + r.2.bulk ≤ t.bulk + 1 := by
  obtain ⟨r, hr, hb⟩ := All_ex t
  have := hr [] (by simp only [List.length_nil]; omega)
  refine ⟨r, ?_, ?_, hb⟩
  · refine Ev.fn (fun n => by simp only [telescope_All, telescope_All_e]; exact rfl) ?_
    exact Ev.of2 this.1
  · refine Ev.fn (fun n => by simp only [ref05_All, ref05_All_e]; exact rfl) ?_
    exact Ev.of2 this.2
theorem rev_loop : ∀ (k : Nat) (pre mid suf : List Term), mid.length = k → pre.length + k < lim → Ev2 (fun n m => slices_Reverse_Term_l1 n m pre.length ((pre.length : Int) + mid.length - 1) (pre ++ (mid ++ suf))) ((pre ++ (mid.reverse ++ suf), ()), ()) := by
  intro k
  induction k using Nat.strongRecOn with
  | ind k ih =>
    intro pre mid suf hk hlim
    refine Ev2.lp (fun n m => by simp only [slices_Reverse_Term_l1, slices_Reverse_Term_b1]; exact rfl) ?_
    match mid, hk with
    | [], hk =>
      have : decide ((pre.length : Int) < (pre.length : Int) + ([] : List Term).length - 1) = false := by simp; omega
      simp only [this, cond_false]
      exact Ev2.pure
    | [x], hk =>
      have : decide ((pre.length : Int) < (pre.length : Int) + ([x] : List Term).length - 1) = false := by simp
      simp only [this, cond_false]
      exact Ev2.pure
    | x :: y' :: rest, hk =>
      obtain ⟨mid', y, hy⟩ : ∃ mid' y, y' :: rest = mid' ++ [y] := ⟨(y' :: rest).dropLast, (y' :: rest).getLast (by simp), (List.dropLast_concat_getLast (by simp)).symm⟩
      rw [hy] at hk ⊢
      simp only [List.length_cons, List.length_append, List.length_nil] at hk
      have hd : decide ((pre.length : Int) < (pre.length : Int) + (x :: (mid' ++ [y])).length - 1) = true := by simp only [List.length_cons, List.length_append, List.length_nil, decide_eq_true_eq]; omega
      have e1 : ((pre.length : Int) + (x :: (mid' ++ [y])).length - 1) = ((pre.length + mid'.length + 1 : Nat) : Int) := by simp only [List.length_cons, List.length_append, List.length_nil]; omega
      have g1 : (pre ++ (x :: (mid' ++ [y]) ++ suf))[pre.length + mid'.length + 1]? = some y := by
        rw [List.getElem?_append_right (by omega)]
        have : pre.length + mid'.length + 1 - pre.length = mid'.length + 1 := by omega
        rw [this]
        simp
      have g0 : (pre ++ (x :: (mid' ++ [y]) ++ suf))[pre.length]? = some x := by
        rw [List.getElem?_append_right (by omega)]; simp
      have s0 : (pre ++ (x :: (mid' ++ [y]) ++ suf)).set pre.length y = pre ++ (y :: (mid' ++ [y]) ++ suf) := by
        rw [List.set_append_right _ _ (by omega)]; simp
      have g2 : (pre ++ (y :: (mid' ++ [y]) ++ suf))[pre.length + mid'.length + 1]? = some y := by
        rw [List.getElem?_append_right (by omega)]
        have : pre.length + mid'.length + 1 - pre.length = mid'.length + 1 := by omega
        rw [this]
        simp
      have s1 : (pre ++ (y :: (mid' ++ [y]) ++ suf)).set (pre.length + mid'.length + 1) x = (pre ++ [y]) ++ (mid' ++ (x :: suf)) := by
        rw [List.set_append_right _ _ (by omega)]
        have : pre.length + mid'.length + 1 - pre.length = mid'.length + 1 := by omega
        rw [this]
        simp only [List.cons_append, List.set_cons_succ, List.append_assoc]
        rw [List.set_append_right _ _ (by omega)]
        simp
      rw [e1] at hd
      simp only [e1]
      simp only [hd, cond_true]
      have n0 : (0 : Int) ≤ ((pre.length + mid'.length + 1 : Nat) : Int) := by omega
      have n1 : (0 : Int) ≤ (pre.length : Int) := by omega
      simp only [idxA, n0, n1, if_true, Int.toNat_natCast, g1, g0, g2, s0, s1, Option.bind_some]
      have w1 : IntKind.i64.wrap ((pre.length : Int) + 1) = ((pre ++ [y]).length : Int) := by
        unfold lim at hlim
        rw [wrap_next (by omega)]; simp
      have w2 : IntKind.i64.wrap (((pre.length + mid'.length + 1 : Nat) : Int) - 1) = ((pre ++ [y]).length : Int) + mid'.length - 1 := by
        unfold lim at hlim
        rw [wrap_small (by omega) (by omega)]; simp; omega
      rw [w1, w2]
      have := ih mid'.length (by omega) (pre ++ [y]) mid' (x :: suf) rfl (by simp; omega)
      have e : pre ++ ((x :: (mid' ++ [y])).reverse ++ suf) = (pre ++ [y]) ++ (mid'.reverse ++ (x :: suf)) := by simp
      rw [e]
      exact this
theorem slices_Reverse_Term_ev (r : List Term) (h : r.length < lim) : Ev (fun n => slices_Reverse_Term n r) ((r.reverse, ()), ()) := by
  refine Ev.fn (fun n => by simp only [slices_Reverse_Term, slices_Reverse_Term_e]; exact rfl) ?_
  have := rev_loop r.length [] r [] rfl (by simpa using h)
  simp only [List.nil_append, List.append_nil, List.length_nil] at this
  have w : IntKind.i64.wrap ((r.length : Int) - 1) = (0 : Nat) + (r.length : Int) - 1 := by unfold lim at h; rw [wrap_small (by omega) (by omega)]; omega
  rw [w]
  exact Ev.of2 this
end Go.Abs

/- Plain facts on spines, variables, and the constant of a family. -/
namespace Go.Abs
set_option linter.unusedVariables false
set_option linter.unusedSimpArgs false
theorem Spine_ex : ∀ (t : Term), t.bulk ≤ cap → ∃ (h : Term) (c : List Term), (∀ acc : List Term, acc.length + t.bulk ≤ cap * 2 → Ev2 (fun n m => telescope_Spine_l1 n m t acc) (h, (acc ++ c).reverse)) ∧ Ev (fun n => ref05_Spine_h n t) ((c.reverse, ()), h, ()) ∧ sumB Term.bulk c + h.bulk ≤ t.bulk + 1 := by
  intro t
  induction h : t.bulk using Nat.strongRecOn generalizing t with
  | ind k ih =>
    intro hcap
    cases hc : (t.kind == 4 && ((t.kids.length : Int) == 2)) with
    | false =>
      refine ⟨t, [], fun acc ha => ?_, ?_, by simp only [sumB]; omega⟩
      · refine Ev2.lp (fun n m => by simp only [telescope_Spine_l1, telescope_Spine_b1]; exact rfl) ?_
        rw [List.append_nil]
        have hrev := slices_Reverse_Term_ev acc (by unfold lim; simp only [cap] at ha; omega)
        cases h1 : (t.kind == 4) with
        | false =>
          simp only [cond_false]
          exact Ev2.bind1 hrev (by simp only [List.length_reverse, if_true, beq_self_eq_true, Bool.true_or, cond_true, Term.mapO_cells, Option.bind_some]; exact Ev2.pure)
        | true =>
          rw [h1, Bool.true_and] at hc
          simp only [hc, cond_true, cond_false]
          exact Ev2.bind1 hrev (by simp only [List.length_reverse, if_true, beq_self_eq_true, Bool.true_or, cond_true, Term.mapO_cells, Option.bind_some]; exact Ev2.pure)
      · refine Ev.fn (fun n => by simp only [ref05_Spine_h, ref05_Spine_h_e]; exact rfl) ?_
        cases h1 : (t.kind == 4) with
        | false =>
          simp only [bne, h1, Bool.not_false, cond_true]
          exact Ev.pure
        | true =>
          rw [h1, Bool.true_and] at hc
          simp only [bne, h1, hc, Bool.not_true, Bool.not_false, cond_true, cond_false]
          exact Ev.pure
    | true =>
      rw [Bool.and_eq_true] at hc
      obtain ⟨x, y, hxy⟩ := two_kids hc.2
      have hb := kids2_bulk hxy
      obtain ⟨hd, c, hr, hs, hrb⟩ := ih x.bulk (by omega) x rfl (by omega)
      have i0 : idxA t.kids 0 = some x := by rw [hxy]; rfl
      have i1 : idxA t.kids 1 = some y := by rw [hxy]; rfl
      refine ⟨hd, y :: c, fun acc ha => ?_, ?_, by simp only [sumB]; omega⟩
      · have h2 := hr (acc ++ [y]) (by have := y.bulk_pos; simp only [List.length_append, List.length_singleton]; omega)
        rw [List.append_assoc, List.singleton_append] at h2
        have hroom := room80 (k := acc.length) (by omega)
        refine Ev2.lp (fun n m => by simp only [telescope_Spine_l1, telescope_Spine_b1]; exact rfl) ?_
        simp only [hc.1, hc.2, cond_true, i0, i1, Option.bind_some, hroom]
        exact h2
      · refine Ev.fn (fun n => by simp only [ref05_Spine_h, ref05_Spine_h_e]; exact rfl) ?_
        simp only [bne, hc.1, hc.2, Bool.not_true, cond_false, i0, i1, Option.bind_some]
        have hlen := sumB_len Term.bulk_pos c
        have hroom := room80 (k := c.reverse.length) (by rw [List.length_reverse]; omega)
        refine Ev.bind hs ?_
        simp only [hroom, cond_true, List.reverse_cons]
        exact Ev.pure
theorem Spine_ev (t : Term) (ht : t.bulk ≤ cap) : ∃ (h : Term) (c : List Term), Ev (fun n => telescope_Spine n t) (h, c) ∧ Ev (fun n => ref05_Spine_h n t) ((c, ()), h, ()) ∧ (∀ x ∈ c, x.bulk ≤ cap) ∧ c.length ≤ cap ∧ h.bulk ≤ cap := by
  obtain ⟨h, c, h1, h2, hb⟩ := Spine_ex t ht
  have hlen := sumB_len Term.bulk_pos c
  have hpos := h.bulk_pos
  have hs1 : 1 ≤ sumB Term.bulk c := sumB_pos c
  refine ⟨h, c.reverse, ?_, h2, ?_, ?_, by omega⟩
  · refine Ev.fn (fun n => by simp only [telescope_Spine, telescope_Spine_e]; exact rfl) ?_
    have := h1 [] (by simp only [List.length_nil]; omega)
    rw [List.nil_append] at this
    exact Ev.of2 this
  · intro x hx
    have := sumB_mem (f := Term.bulk) (List.mem_reverse.1 hx)
    omega
  · rw [List.length_reverse]; omega
/-- Variables in descending order. -/
def varsT (k : Nat) (f : Int) : List Term := (List.range k).map fun (i : Nat) => Term.mk 0 (f + k - 1 - i) [] [] []
theorem varsT_len (k : Nat) (f : Int) : (varsT k f).length = k := by simp [varsT]
theorem varsT_get (k : Nat) (f : Int) (i : Nat) (h : i < k) : (varsT k f)[i]? = some (Term.mk 0 (f + k - 1 - i) [] [] []) := by simp [varsT, h]
theorem varsT_take (k : Nat) (f : Int) (i : Nat) (h : i < k) : (varsT k f).take (i + 1) = (varsT k f).take i ++ [Term.mk 0 (f + k - 1 - i) [] [] []] := by
  rw [List.take_add_one, varsT_get k f i h]; rfl
def someVars (k : Nat) (f : Int) : List Term := if k < 1 ∨ 4096 < k ∨ f < 0 then [] else varsT k f
theorem Vars_ev (k : Nat) (f : Int) (hf : f ≤ 4611686018427387904) : Ev (fun n => telescope_Vars n k f) (someVars k f) ∧ Ev (fun n => ref05_Vars n k f) (someVars k f) := by
  by_cases h1 : k < 1
  · have d : decide ((k : Int) < 1) = true := by simp; omega
    have e : someVars k f = [] := by simp [someVars, h1]
    rw [e]
    constructor
    · refine Ev.fn (fun n => by simp only [telescope_Vars, telescope_Vars_e]; exact rfl) ?_
      simp only [d, cond_true]; exact Ev.pure
    · refine Ev.fn (fun n => by simp only [ref05_Vars, ref05_Vars_e]; exact rfl) ?_
      simp only [d, cond_true]; exact Ev.pure
  have d1 : decide ((k : Int) < 1) = false := by simp; omega
  by_cases h2 : 4096 < k
  · have d : decide ((4096 : Int) < k) = true := by simp; omega
    have e : someVars k f = [] := by simp [someVars, h2]
    rw [e]
    constructor
    · refine Ev.fn (fun n => by simp only [telescope_Vars, telescope_Vars_e]; exact rfl) ?_
      simp only [d1, d, cond_true, cond_false]; exact Ev.pure
    · refine Ev.fn (fun n => by simp only [ref05_Vars, ref05_Vars_e]; exact rfl) ?_
      simp only [d1, d, cond_true, cond_false]; exact Ev.pure
  have d2 : decide ((4096 : Int) < k) = false := by simp; omega
  by_cases h3 : f < 0
  · have d : decide (f < 0) = true := by simpa using h3
    have e : someVars k f = [] := by simp [someVars, h3]
    rw [e]
    constructor
    · refine Ev.fn (fun n => by simp only [telescope_Vars, telescope_Vars_e]; exact rfl) ?_
      simp only [d1, d2, d, cond_true, cond_false]; exact Ev.pure
    · refine Ev.fn (fun n => by simp only [ref05_Vars, ref05_Vars_e]; exact rfl) ?_
      simp only [d1, d2, d, cond_true, cond_false]; exact Ev.pure
  have d3 : decide (f < 0) = false := by simpa using h3
  have e : someVars k f = varsT k f := by simp only [someVars]; rw [if_neg (by omega)]
  rw [e]
  constructor
  · refine Ev.fn (fun n => by simp only [telescope_Vars, telescope_Vars_e]; exact rfl) ?_
    have d4 : decide ((0 : Int) ≤ k) = true := by simp
    have d5 : decide (k * 80 ≤ 17592186044416) = true := by simp; omega
    have d6 : decide ((k : Int) < 2 ^ 62) = true := by simp; omega
    have d7 : (k == 0) = false := by simp; omega
    simp only [d1, d2, d3, d4, d5, d6, d7, cond_true, cond_false, Int.toNat_natCast]
    refine Tot.ev ?_
    refine Tot.of2 (F := fun n m => telescope_Vars_l1 n m k f k 0 (List.replicate k (Term.mk 0 0 [] [] []))) ?_
    refine Tot2.up (S := List Term) (L := fun n m i s => telescope_Vars_l1 n m k f k i s) k (fun i s => s = (varsT k f).take i ++ List.replicate (k - i) (Term.mk 0 0 [] [] [])) (· = varsT k f) ?_ ?_ 0 _ (by omega) (by simp)
    · intro i s hi hs next
      refine Tot2.lp (fun n m => by simp only [telescope_Vars_l1, telescope_Vars_b1]; exact rfl) ?_
      have hlt : ((varsT k f).take i).length = i := by rw [List.length_take, varsT_len]; omega
      have hlen : s.length = k := by rw [hs, List.length_append, hlt, List.length_replicate]; omega
      have hi' : i < s.length := by omega
      simp only [hi, Int.ofNat_lt, decide_true, cond_true, idxA_at hi', Option.bind_some, Int.toNat_natCast, List.getElem?_eq_getElem hi', hi']
      rw [wrap_next (by omega), wrap_small (n := f + (k : Int)) (by omega) (by omega), wrap_small (n := f + (k : Int) - 1) (by omega) (by omega), wrap_small (n := f + (k : Int) - 1 - i) (by omega) (by omega)]
      refine next _ ?_
      rw [hs, List.set_append_right _ _ (by omega), hlt, Nat.sub_self, varsT_take k f i hi]
      have : k - i = (k - (i + 1)) + 1 := by omega
      rw [this, List.replicate_succ, List.set_cons_zero]
      simp
    · intro s hs
      refine Tot2.lp (fun n m => by simp only [telescope_Vars_l1, telescope_Vars_b1]; exact rfl) ?_
      simp only [Int.lt_irrefl, decide_false, cond_false]
      refine Tot2.pure ?_
      rw [hs]
      have : (varsT k f).take k = varsT k f := by rw [List.take_of_length_le]; rw [varsT_len]; omega
      rw [this]; simp
  · refine Ev.fn (fun n => by simp only [ref05_Vars, ref05_Vars_e]; exact rfl) ?_
    simp only [d1, d2, d3, cond_false]
    rw [wrap_small (by omega) (by omega)]
    have key : ∀ j : Nat, j ≤ k → Ev2 (fun n m => ref05_Vars_l1 n m f ((j : Int) - 1) ((varsT k f).take (k - j))) (varsT k f) := by
      intro j
      induction j with
      | zero =>
        intro _
        refine Ev2.lp (fun n m => by simp only [ref05_Vars_l1, ref05_Vars_b1]; exact rfl) ?_
        have : decide ((0 : Int) ≤ ((0 : Nat) : Int) - 1) = false := by simp
        simp only [this, cond_false]
        have e : (varsT k f).take (k - 0) = varsT k f := by rw [List.take_of_length_le]; rw [varsT_len]; omega
        rw [e]
        exact Ev2.pure
      | succ j ih =>
        intro hj
        refine Ev2.lp (fun n m => by simp only [ref05_Vars_l1, ref05_Vars_b1]; exact rfl) ?_
        have d : decide ((0 : Int) ≤ ((j + 1 : Nat) : Int) - 1) = true := by simp
        have hlt : ((varsT k f).take (k - (j + 1))).length = k - (j + 1) := by rw [List.length_take, varsT_len]; omega
        have hroom := room80 (k := ((varsT k f).take (k - (j + 1))).length) (by rw [hlt]; simp only [cap]; omega)
        simp only [d, cond_true, hroom]
        rw [wrap_small (n := f + (((j + 1 : Nat) : Int) - 1)) (by omega) (by omega), wrap_small (n := ((j + 1 : Nat) : Int) - 1 - 1) (by omega) (by omega)]
        have := ih (by omega)
        have e1 : k - j = (k - (j + 1)) + 1 := by omega
        rw [e1, varsT_take k f _ (by omega)] at this
        have e2 : f + (k : Int) - 1 - ((k - (j + 1) : Nat) : Int) = f + (((j + 1 : Nat) : Int) - 1) := by omega
        have e3 : ((j : Nat) : Int) - 1 = ((j + 1 : Nat) : Int) - 1 - 1 := by omega
        rw [e2, e3] at this
        exact this
    have := key k (Nat.le_refl _)
    rw [Nat.sub_self, List.take_zero] at this
    exact Ev.of2 this
/-- The levels of a family's own parameters. -/
def ownLevels (p : Nat) : List Level := (List.range p).map fun (i : Nat) => { const := 0, vars := [{ index := i, plus := 0 }] }
theorem ownLevels_succ (p : Nat) : ownLevels (p + 1) = ownLevels p ++ [{ const := 0, vars := [{ index := p, plus := 0 }] }] := by
  simp [ownLevels, List.range_succ]
theorem ownLevels_len (p : Nat) : (ownLevels p).length = p := by simp [ownLevels]
theorem family_itself_ev (s : Str) (p : Nat) (h : p ≤ 8) : Ev (fun n => family_itself n s p) (Term.mk 3 0 s (ownLevels p) []) := by
  refine Ev.fn (fun n => by simp only [family_itself, family_itself_e]; exact rfl) ?_
  refine Tot.ev ?_
  refine Tot.of2 (F := fun n m => family_itself_l1 n m p 0 3 s []) ?_
  refine Tot2.up (S := List Level) (L := fun n m i r => family_itself_l1 n m p i 3 s r) p (fun i r => r = ownLevels i) (· = Term.mk 3 0 s (ownLevels p) []) ?_ ?_ 0 _ (by omega) rfl
  · intro i r hi hr next
    refine Tot2.lp (fun n m => by simp only [family_itself_l1, family_itself_b1]; exact rfl) ?_
    have hroom : decide ((r.length + 1) * 32 ≤ 17592186044416) = true := by rw [hr, ownLevels_len]; simp; omega
    simp only [hi, Int.ofNat_lt, decide_true, cond_true, hroom]
    rw [wrap_next (by omega)]
    refine next _ ?_
    rw [hr, ownLevels_succ]
  · intro r hr
    refine Tot2.lp (fun n m => by simp only [family_itself_l1, family_itself_b1]; exact rfl) ?_
    simp only [Int.lt_irrefl, decide_false, cond_false]
    rw [hr]
    exact Tot2.pure rfl
theorem ref01_Var_ev (i : Nat) (h : i < 8) : Ev (fun n => ref01_Var n i 0) ({ const := 0, vars := [{ index := i, plus := 0 }] }, 0) := by
  refine Ev.fn (fun n => by simp only [ref01_Var, ref01_Var_e]; exact rfl) ?_
  have a : decide ((i : Int) < -65536) = false := decide_eq_false (by omega)
  have b : decide ((8 : Int) ≤ i) = false := by simp; omega
  have c : decide ((0 : Int) < 0) = false := rfl
  have d : decide ((100 : Int) < 0) = false := rfl
  simp only [a, b, c, d, cond_false]
  exact Ev.pure
theorem ref07_Params_ev (p : Nat) (h : p ≤ 8) : Ev (fun n => ref07_Params n p) (ownLevels p) := by
  refine Ev.fn (fun n => by simp only [ref07_Params, ref07_Params_e]; exact rfl) ?_
  refine Tot.ev ?_
  refine Tot.of2 (F := fun n m => ref07_Params_l1 n m p 0 []) ?_
  refine Tot2.up (S := List Level) (L := fun n m i r => ref07_Params_l1 n m p i r) p (fun i r => r = ownLevels i) (· = ownLevels p) ?_ ?_ 0 _ (by omega) rfl
  · intro i r hi hr next
    refine Tot2.lp (fun n m => by simp only [ref07_Params_l1, ref07_Params_b1]; exact rfl) ?_
    have hroom : decide ((r.length + 1) * 32 ≤ 17592186044416) = true := by rw [hr, ownLevels_len]; simp; omega
    simp only [hi, Int.ofNat_lt, decide_true, cond_true, hroom]
    rw [wrap_next (by omega)]
    refine Tot2.bind1 (Ev.tot (Q := fun x => x = ({ const := 0, vars := [{ index := i, plus := 0 }] }, 0)) (ref01_Var_ev i (by omega)) rfl) fun x hx => ?_
    subst hx
    refine next _ ?_
    rw [hr, ownLevels_succ]
  · intro r hr
    refine Tot2.lp (fun n m => by simp only [ref07_Params_l1, ref07_Params_b1]; exact rfl) ?_
    simp only [Int.lt_irrefl, decide_false, cond_false]
    exact Tot2.pure hr
theorem ref12_Own_ev (s : Str) (p : Nat) (h : p ≤ 8) : Ev (fun n => ref12_Own n s p) (Term.mk 3 0 s (ownLevels p) []) := by
  refine Ev.fn (fun n => by simp only [ref12_Own, ref12_Own_e]; exact rfl) ?_
  exact Ev.bind (ref07_Params_ev p h) Ev.pure
end Go.Abs

/- The examples of the chapter. -/
namespace Go.Abs
set_option maxRecDepth 100000
theorem awake_k (k : Nat) : law12_awake (k + 60) = some true := by kernel_rfl
end Go.Abs

/- Plain facts on the analysis of families: the analysis and its specification answer the same. -/
namespace Go.Abs
set_option linter.unusedVariables false
set_option linter.unusedSimpArgs false
/-- Lists of terms that are small. -/
def TL (xs : List Term) : Prop := xs.length ≤ cap ∧ ∀ x ∈ xs, x.bulk ≤ cap
theorem TL.take {xs : List Term} (h : TL xs) (n : Nat) : TL (xs.take n) := ⟨by have := h.1; rw [List.length_take]; omega, fun x hx => h.2 x (List.mem_of_mem_take hx)⟩
theorem TL.drop {xs : List Term} (h : TL xs) (n : Nat) : TL (xs.drop n) := ⟨by have := h.1; rw [List.length_drop]; omega, fun x hx => h.2 x (List.mem_of_mem_drop hx)⟩
theorem TL.nil : TL [] := ⟨by simp [cap], fun x hx => by cases hx⟩
theorem TL.lim {xs : List Term} (h : TL xs) : xs.length < lim ∧ ∀ x ∈ xs, x.bulk < lim := by
  refine ⟨?_, fun x hx => ?_⟩
  · have := h.1; simp only [cap] at this; unfold Go.Abs.lim; omega
  · have := h.2 x hx; simp only [cap] at this; unfold Go.Abs.lim; omega
theorem lim_of_cap {n : Nat} (h : n ≤ cap) : n < lim := by simp only [cap] at h; unfold lim; omega
theorem All_tl (t : Term) (ht : t.bulk ≤ cap) : ∃ r : List Term × Term, Ev (fun n => telescope_All n t) r ∧ Ev (fun n => ref05_All n t) r ∧ TL r.1 ∧ r.2.bulk ≤ cap := by
  obtain ⟨r, h1, h2, hb⟩ := All_ev t ht
  have hp := r.2.bulk_pos
  have hs := sumB_pos (bk := Term.bulk) r.1
  have hl := sumB_len Term.bulk_pos r.1
  refine ⟨r, h1, h2, ⟨by omega, fun x hx => ?_⟩, by omega⟩
  have := sumB_mem (f := Term.bulk) hx
  omega
theorem Spine_tl (t : Term) (ht : t.bulk ≤ cap) : ∃ (h : Term) (c : List Term), Ev (fun n => telescope_Spine n t) (h, c) ∧ Ev (fun n => ref05_Spine_h n t) ((c, ()), h, ()) ∧ TL c ∧ h.bulk ≤ cap := by
  obtain ⟨h, c, h1, h2, h3, h4, h5⟩ := Spine_ev t ht
  exact ⟨h, c, h1, h2, ⟨h4, h3⟩, h5⟩
theorem result_ev (own : Term) (params : List Term) (k : Nat) (t : Term) (last : Int) (ht : t.bulk ≤ cap) (hp : params.length ≤ cap) (hk : k ≤ cap) (hl : last ≤ 4611686018427387904) :
    ∃ r : List Term × Bool, Ev (fun n => family_shape_result n ⟨own, params, k⟩ t last) r ∧ Ev (fun n => ref12_result n own t params.length last k) r ∧ TL r.1 := by
  obtain ⟨h, c, h1, h2, hc, hh⟩ := Spine_tl t ht
  have hs1 := term_Same_ev h own (lim_of_cap hh)
  have hs2 := ref03_Same_ev h own (lim_of_cap hh)
  obtain ⟨hv1, hv2⟩ := Vars_ev params.length last hl
  have ha1 := family_alike_Term_term_Same_ev (c.take params.length) (someVars params.length last) (hc.take _).lim.1 (hc.take _).lim.2
  have ha2 := ref05_SameList_ev (c.take params.length) (someVars params.length last) (hc.take _).lim.1 (hc.take _).lim.2
  have hw : IntKind.i64.wrap ((params.length : Int) + k) = ((params.length + k : Nat) : Int) := by
    simp only [cap] at hp hk
    rw [wrap_small (by omega) (by omega)]; omega
  by_cases hlen : c.length = params.length + k
  · have e1 : ((c.length : Int) != ((params.length + k : Nat) : Int)) = false := by rw [hlen]; simp
    have d1 : decide ((params.length : Int) ≤ c.length ∧ (c.length : Int) ≤ c.length) = true := decide_eq_true ⟨by omega, by omega⟩
    have d2 : decide ((0 : Int) ≤ params.length ∧ (params.length : Int) ≤ c.length ∧ (c.length : Int) ≤ c.length) = true := decide_eq_true ⟨by omega, by omega, by omega⟩
    cases hso : eqb h own with
    | false =>
      rw [hso] at hs1 hs2
      refine ⟨([], false), ?_, ?_, TL.nil⟩
      · refine Ev.fn (fun n => by simp only [family_shape_result, family_shape_result_e]; exact rfl) ?_
        refine Ev.bind h1 ?_
        simp only [hw, e1, cond_false]
        exact Ev.bind hs1 Ev.pure
      · refine Ev.fn (fun n => by simp only [ref12_result, ref12_result_e]; exact rfl) ?_
        refine Ev.bind h2 (Ev.bind hs2 Ev.pure)
    | true =>
      rw [hso] at hs1 hs2
      cases hal : eqb (c.take params.length) (someVars params.length last) with
      | false =>
        rw [hal] at ha1 ha2
        refine ⟨([], false), ?_, ?_, TL.nil⟩
        · refine Ev.fn (fun n => by simp only [family_shape_result, family_shape_result_e]; exact rfl) ?_
          refine Ev.bind h1 ?_
          simp only [hw, e1, cond_false]
          refine Ev.bind hs1 ?_
          simp only [cond_true, d1]
          exact Ev.bind hv1 (Ev.bind ha1 Ev.pure)
        · refine Ev.fn (fun n => by simp only [ref12_result, ref12_result_e]; exact rfl) ?_
          refine Ev.bind h2 (Ev.bind hs2 ?_)
          simp only [hw, e1, cond_true, cond_false, d2, Int.toNat_natCast]
          exact Ev.bind hv2 (Ev.bind ha2 Ev.pure)
      | true =>
        rw [hal] at ha1 ha2
        refine ⟨(c.drop params.length, true), ?_, ?_, hc.drop _⟩
        · refine Ev.fn (fun n => by simp only [family_shape_result, family_shape_result_e]; exact rfl) ?_
          refine Ev.bind h1 ?_
          simp only [hw, e1, cond_false]
          refine Ev.bind hs1 ?_
          simp only [cond_true, d1, List.take_length]
          exact Ev.bind hv1 (Ev.bind ha1 Ev.pure)
        · refine Ev.fn (fun n => by simp only [ref12_result, ref12_result_e]; exact rfl) ?_
          refine Ev.bind h2 (Ev.bind hs2 ?_)
          simp only [hw, e1, cond_true, cond_false, d2, Int.toNat_natCast, List.take_length]
          exact Ev.bind hv2 (Ev.bind ha2 Ev.pure)
  · have e1 : ((c.length : Int) != ((params.length + k : Nat) : Int)) = true := by rw [bne_iff_ne]; omega
    refine ⟨([], false), ?_, ?_, TL.nil⟩
    · refine Ev.fn (fun n => by simp only [family_shape_result, family_shape_result_e]; exact rfl) ?_
      refine Ev.bind h1 ?_
      simp only [hw, e1, cond_true]
      exact Ev.pure
    · refine Ev.fn (fun n => by simp only [ref12_result, ref12_result_e]; exact rfl) ?_
      refine Ev.bind h2 (Ev.bind hs2 ?_)
      simp only [hw, e1, cond_true]
      cases eqb h own <;> exact Ev.pure
def RecOK (r : RecField) : Prop := TL r.args ∧ TL r.results
theorem room56 {k : Nat} (h : k ≤ cap) : decide ((k + 1) * 56 ≤ 17592186044416) = true := by
  simp only [cap] at h; simp only [decide_eq_true_eq]; omega
theorem room88 {k : Nat} (h : k ≤ cap) : decide ((k + 1) * 88 ≤ 17592186044416) = true := by
  simp only [cap] at h; simp only [decide_eq_true_eq]; omega
theorem recs_ev (own : Term) (params : List Term) (k : Nat) (name : Str) (fields results : List Term) (hf : TL fields) (hp : params.length ≤ cap) (hk : k ≤ cap) :
    ∃ rs : List RecField, Ev (fun n => family_shape_recursive n ⟨own, params, k⟩ fields) rs ∧
      Ev (fun n => ref12_ctor_l1 n n params.length k 0 own name fields results []) ({ name := name, fields := fields, recu := rs, results := results }, true) ∧ rs.length ≤ cap ∧ ∀ r ∈ rs, RecOK r := by
  have key : ∀ (d i : Nat) (acc : List RecField), d + i = fields.length → acc.length ≤ i → (∀ r ∈ acc, RecOK r) → ∃ rs : List RecField,
      Ev2 (fun n m => family_shape_recursive_l1 n m fields fields.length i ⟨own, params, k⟩ acc) rs ∧
      Ev2 (fun n m => ref12_ctor_l1 n m params.length k i own name fields results acc) ({ name := name, fields := fields, recu := rs, results := results }, true) ∧ rs.length ≤ cap ∧ ∀ r ∈ rs, RecOK r := by
    intro d
    induction d with
    | zero =>
      intro i acc hi ha hok
      obtain rfl : i = fields.length := by omega
      refine ⟨acc, ?_, ?_, by have := hf.1; omega, hok⟩
      · refine Ev2.lp (fun n m => by simp only [family_shape_recursive_l1, family_shape_recursive_b1]; exact rfl) ?_
        simp only [Int.lt_irrefl, decide_false, cond_false]
        exact Ev2.pure
      · refine Ev2.lp (fun n m => by simp only [ref12_ctor_l1, ref12_ctor_b1]; exact rfl) ?_
        simp only [Int.lt_irrefl, decide_false, cond_false]
        exact Ev2.pure
    | succ d ih =>
      intro i acc hi ha hok
      have hi' : i < fields.length := by omega
      have hlen := hf.1
      obtain ⟨r, hr1, hr2, htl, hrb⟩ := All_tl fields[i] (hf.2 _ (List.getElem_mem hi'))
      have hcap := htl.1
      have hw : IntKind.i64.wrap ((i : Int) + r.1.length) = ((i + r.1.length : Nat) : Int) := by
        simp only [cap] at hlen hcap
        rw [wrap_small (by omega) (by omega)]; omega
      obtain ⟨q, hq1, hq2, hqt⟩ := result_ev own params k r.2 ((i + r.1.length : Nat) : Int) hrb hp hk (by simp only [cap] at hlen hcap; omega)
      have hnext : IntKind.i64.wrap ((i : Int) + 1) = ((i + 1 : Nat) : Int) := wrap_next (by simp only [cap] at hlen; omega)
      have hroom := room56 (k := acc.length) (by omega)
      cases hb : q.2 with
      | true =>
        obtain ⟨rs, h1, h2, h3, h4⟩ := ih (i + 1) (acc ++ [{ field := i, args := r.1, results := q.1 }]) (by omega) (by simp; omega) (by
          intro x hx
          rcases List.mem_append.1 hx with hx | hx
          · exact hok x hx
          · rw [List.mem_singleton] at hx; subst hx; exact ⟨htl, hqt⟩)
        refine ⟨rs, ?_, ?_, h3, h4⟩
        · refine Ev2.lp (fun n m => by simp only [family_shape_recursive_l1, family_shape_recursive_b1]; exact rfl) ?_
          simp only [hi', Int.ofNat_lt, decide_true, cond_true]
          refine Ev2.idx hi' (Ev2.bind1 hr1 ?_)
          simp only [hw]
          refine Ev2.bind1 hq1 ?_
          simp only [hb, cond_true, hroom, hnext]
          exact h1
        · refine Ev2.lp (fun n m => by simp only [ref12_ctor_l1, ref12_ctor_b1]; exact rfl) ?_
          simp only [hi', Int.ofNat_lt, decide_true, cond_true]
          refine Ev2.idx hi' (Ev2.bind1 hr2 ?_)
          simp only [hw]
          refine Ev2.bind1 hq2 ?_
          simp only [hb, cond_true, hroom, hnext]
          exact h2
      | false =>
        obtain ⟨rs, h1, h2, h3, h4⟩ := ih (i + 1) acc (by omega) (by omega) hok
        refine ⟨rs, ?_, ?_, h3, h4⟩
        · refine Ev2.lp (fun n m => by simp only [family_shape_recursive_l1, family_shape_recursive_b1]; exact rfl) ?_
          simp only [hi', Int.ofNat_lt, decide_true, cond_true]
          refine Ev2.idx hi' (Ev2.bind1 hr1 ?_)
          simp only [hw]
          refine Ev2.bind1 hq1 ?_
          simp only [hb, cond_false, hnext]
          exact h1
        · refine Ev2.lp (fun n m => by simp only [ref12_ctor_l1, ref12_ctor_b1]; exact rfl) ?_
          simp only [hi', Int.ofNat_lt, decide_true, cond_true]
          refine Ev2.idx hi' (Ev2.bind1 hr2 ?_)
          simp only [hw]
          refine Ev2.bind1 hq2 ?_
          simp only [hb, cond_false, hnext]
          exact h2
  obtain ⟨rs, h1, h2, h3, h4⟩ := key fields.length 0 [] (by omega) (by simp) (by simp)
  refine ⟨rs, ?_, Ev.of2 h2, h3, h4⟩
  refine Ev.fn (fun n => by simp only [family_shape_recursive, family_shape_recursive_e]; exact rfl) ?_
  exact Ev.of2 h1
def CtorOK (c : CtorForm) : Prop := TL c.fields ∧ TL c.results ∧ c.recu.length ≤ cap ∧ ∀ r ∈ c.recu, RecOK r
theorem ctor_ev (own : Term) (fam : Family) (c : Ctor) (p : Nat) (hlv : fam.levels = p) (hp8 : p ≤ 8) (hown : own = Term.mk 3 0 fam.name (ownLevels p) []) (hc : c.type.bulk ≤ cap) (hp : TL fam.params) (hk : fam.indices.length ≤ cap) :
    ∃ r : CtorForm × Bool, Ev (fun n => family_shape_ctor n ⟨own, fam.params, fam.indices.length⟩ c) r ∧ Ev (fun n => ref12_ctor n fam c) r ∧ CtorOK r.1 := by
  obtain ⟨r, hr1, hr2, htl, hrb⟩ := All_tl c.type hc
  have hOwn := ref12_Own_ev fam.name p hp8
  rw [← hlv, ← hown] at hOwn
  have bad : CtorOK { name := [], fields := [], recu := [], results := [] } := ⟨TL.nil, TL.nil, by simp [cap], by simp⟩
  have hcap := htl.1
  by_cases hlen : r.1.length < fam.params.length
  · have d : decide ((r.1.length : Int) < (fam.params.length : Int)) = true := decide_eq_true (by omega)
    refine ⟨({ name := [], fields := [], recu := [], results := [] }, false), ?_, ?_, bad⟩
    · refine Ev.fn (fun n => by simp only [family_shape_ctor, family_shape_ctor_e]; exact rfl) ?_
      refine Ev.bind hr1 ?_
      simp only [d, cond_true]
      exact Ev.pure
    · refine Ev.fn (fun n => by simp only [ref12_ctor, ref12_ctor_e]; exact rfl) ?_
      refine Ev.bind hOwn (Ev.bind hr2 ?_)
      simp only [d, cond_true]
      exact Ev.pure
  have d0 : decide ((r.1.length : Int) < (fam.params.length : Int)) = false := decide_eq_false (by omega)
  have d1 : decide ((fam.params.length : Int) ≤ r.1.length ∧ (r.1.length : Int) ≤ r.1.length) = true := decide_eq_true ⟨by omega, by omega⟩
  have ha1 := family_alike_Term_term_Same_ev (r.1.take fam.params.length) fam.params (htl.take _).lim.1 (htl.take _).lim.2
  have ha2 := ref05_SameList_ev (r.1.take fam.params.length) fam.params (htl.take _).lim.1 (htl.take _).lim.2
  cases hal : eqb (r.1.take fam.params.length) fam.params with
  | false =>
    rw [hal] at ha1 ha2
    refine ⟨({ name := [], fields := [], recu := [], results := [] }, false), ?_, ?_, bad⟩
    · refine Ev.fn (fun n => by simp only [family_shape_ctor, family_shape_ctor_e]; exact rfl) ?_
      refine Ev.bind hr1 ?_
      simp only [d0, d1, cond_true, cond_false]
      exact Ev.bind ha1 Ev.pure
    · refine Ev.fn (fun n => by simp only [ref12_ctor, ref12_ctor_e]; exact rfl) ?_
      refine Ev.bind hOwn (Ev.bind hr2 ?_)
      simp only [d0, d1, cond_true, cond_false]
      exact Ev.bind ha2 Ev.pure
  | true =>
    rw [hal] at ha1 ha2
    have hfl := (htl.drop fam.params.length).1
    obtain ⟨q, hq1, hq2, hqt⟩ := result_ev own fam.params fam.indices.length r.2 ((r.1.drop fam.params.length).length : Int) hrb hp.1 hk (by simp only [cap] at hfl; omega)
    cases hb : q.2 with
    | false =>
      refine ⟨({ name := [], fields := [], recu := [], results := [] }, false), ?_, ?_, bad⟩
      · refine Ev.fn (fun n => by simp only [family_shape_ctor, family_shape_ctor_e]; exact rfl) ?_
        refine Ev.bind hr1 ?_
        simp only [d0, d1, cond_true, cond_false, List.take_length]
        refine Ev.bind ha1 (Ev.bind hq1 ?_)
        simp only [hb, cond_false]
        exact Ev.pure
      · refine Ev.fn (fun n => by simp only [ref12_ctor, ref12_ctor_e]; exact rfl) ?_
        refine Ev.bind hOwn (Ev.bind hr2 ?_)
        simp only [d0, d1, cond_true, cond_false, List.take_length]
        refine Ev.bind ha2 (Ev.bind hq2 ?_)
        simp only [hb, cond_false]
        exact Ev.pure
    | true =>
      obtain ⟨rs, g1, g2, g3, g4⟩ := recs_ev own fam.params fam.indices.length c.name (r.1.drop fam.params.length) q.1 (htl.drop _) hp.1 hk
      refine ⟨({ name := c.name, fields := r.1.drop fam.params.length, recu := rs, results := q.1 }, true), ?_, ?_, ⟨htl.drop _, hqt, g3, g4⟩⟩
      · refine Ev.fn (fun n => by simp only [family_shape_ctor, family_shape_ctor_e]; exact rfl) ?_
        refine Ev.bind hr1 ?_
        simp only [d0, d1, cond_true, cond_false, List.take_length]
        refine Ev.bind ha1 (Ev.bind hq1 ?_)
        simp only [hb, cond_true]
        exact Ev.bind g1 Ev.pure
      · refine Ev.fn (fun n => by simp only [ref12_ctor, ref12_ctor_e]; exact rfl) ?_
        refine Ev.bind hOwn (Ev.bind hr2 ?_)
        simp only [d0, d1, cond_true, cond_false, List.take_length]
        refine Ev.bind ha2 (Ev.bind hq2 ?_)
        simp only [hb, cond_true]
        exact g2
end Go.Abs

/- Plain facts on the analysis of families, and the law. -/
namespace Go.Abs
set_option linter.unusedVariables false
set_option linter.unusedSimpArgs false
theorem Term.eta_mk (t : Term) : Term.mk t.kind t.index t.name t.levels t.kids = t := by cases t; rfl
def FamOK (f : Family) : Prop := TL f.params ∧ TL f.indices ∧ f.sort.bulk ≤ cap ∧ f.ctors.length ≤ cap ∧ ∀ c ∈ f.ctors, CtorOK c
def noFam : Family := { name := [], levels := 0, params := [], indices := [], sort := Term.mk 0 0 [] [] [], ctors := [] }
theorem noFam_ok : FamOK noFam := ⟨TL.nil, TL.nil, by simp [noFam, Term.bulk_eq, sumB, cap, Term.name, Term.levels, Term.kids], by simp [noFam, cap], by simp [noFam]⟩
theorem SameCtor_ev (c : CtorForm) (h : CtorOK c) : Ev (fun n => ref12_SameCtor n c c) true := by
  obtain ⟨h1, h2, h3, h4⟩ := h
  have a1 := ref05_SameList_ev c.fields c.fields h1.lim.1 h1.lim.2
  have a2 := ref05_SameList_ev c.results c.results h2.lim.1 h2.lim.2
  rw [eqb_self] at a1 a2
  refine Ev.fn (fun n => by simp only [ref12_SameCtor, ref12_SameCtor_e]; exact rfl) ?_
  simp only [beq_self_eq_true, cond_true]
  refine Ev.bind a1 (Ev.bind a2 ?_)
  simp only [bne_self_eq_false, cond_true, cond_false]
  refine Tot.ev ?_
  refine Tot.of2 (F := fun n m => ref12_SameCtor_l1 n m 0 c c) ?_
  refine Tot2.up (S := Unit) (L := fun n m i s => ref12_SameCtor_l1 n m i c c) c.recu.length (fun _ _ => True) (· = true) ?_ ?_ 0 () (by omega) trivial
  · intro i s hi _ next
    refine Tot2.lp (fun n m => by simp only [ref12_SameCtor_l1, ref12_SameCtor_b1]; exact rfl) ?_
    simp only [hi, Int.ofNat_lt, decide_true, cond_true]
    refine Tot2.idx hi (Tot2.idx hi ?_)
    obtain ⟨b1, b2⟩ := h4 _ (List.getElem_mem hi)
    have a1 := ref05_SameList_ev _ c.recu[i].args b1.lim.1 b1.lim.2
    have a2 := ref05_SameList_ev _ c.recu[i].results b2.lim.1 b2.lim.2
    rw [eqb_self] at a1 a2
    simp only [bne_self_eq_false, cond_false]
    refine Tot2.bind1 (a1.tot (Q := (· = true)) rfl) fun x hx => ?_
    subst hx
    refine Tot2.bind1 (a2.tot (Q := (· = true)) rfl) fun x hx => ?_
    subst hx
    simp only [cond_true]
    rw [wrap_next (by simp only [cap] at h3; omega)]
    exact next s trivial
  · intro s _
    refine Tot2.lp (fun n m => by simp only [ref12_SameCtor_l1, ref12_SameCtor_b1]; exact rfl) ?_
    simp only [Int.lt_irrefl, decide_false, cond_false]
    exact Tot2.pure rfl
theorem Same_ev (f : Family) (h : FamOK f) : Ev (fun n => ref12_Same n f f) true := by
  obtain ⟨h1, h2, h3, h4, h5⟩ := h
  have a1 := ref05_SameList_ev f.params f.params h1.lim.1 h1.lim.2
  have a2 := ref05_SameList_ev f.indices f.indices h2.lim.1 h2.lim.2
  have a3 := ref03_Same_ev f.sort f.sort (lim_of_cap h3)
  rw [eqb_self] at a1 a2 a3
  refine Ev.fn (fun n => by simp only [ref12_Same, ref12_Same_e]; exact rfl) ?_
  simp only [beq_self_eq_true, bne_self_eq_false, cond_true, cond_false]
  refine Ev.bind a1 (Ev.bind a2 (Ev.bind a3 ?_))
  simp only [cond_true]
  refine Tot.ev ?_
  refine Tot.of2 (F := fun n m => ref12_Same_l1 n m 0 f f) ?_
  refine Tot2.up (S := Unit) (L := fun n m i s => ref12_Same_l1 n m i f f) f.ctors.length (fun _ _ => True) (· = true) ?_ ?_ 0 () (by omega) trivial
  · intro i s hi _ next
    refine Tot2.lp (fun n m => by simp only [ref12_Same_l1, ref12_Same_b1]; exact rfl) ?_
    simp only [hi, Int.ofNat_lt, decide_true, cond_true]
    refine Tot2.idx hi (Tot2.idx hi ?_)
    refine Tot2.bind1 ((SameCtor_ev _ (h5 _ (List.getElem_mem hi))).tot (Q := (· = true)) rfl) fun x hx => ?_
    subst hx
    simp only [cond_true]
    rw [wrap_next (by simp only [cap] at h4; omega)]
    exact next s trivial
  · intro s _
    refine Tot2.lp (fun n m => by simp only [ref12_Same_l1, ref12_Same_b1]; exact rfl) ?_
    simp only [Int.lt_irrefl, decide_false, cond_false]
    exact Tot2.pure rfl
theorem Ctor.bulk_pos (x : Ctor) : 1 ≤ x.bulk := by rw [Ctor.bulk]; omega
theorem Fun.bulk_pos (x : Fun) : 1 ≤ x.bulk := by rw [Fun.bulk]; omega
theorem Decl.ctor_le {d : Decl} {c : Ctor} (h : c ∈ d.ctors) : c.type.bulk ≤ d.bulk ∧ c.name.length ≤ d.bulk := by
  have := sumB_mem (f := Ctor.bulk) h
  rw [Ctor.bulk] at this
  rw [Decl.bulk]
  omega
theorem Decl.ctors_len (d : Decl) : d.ctors.length ≤ d.bulk := by
  have := sumB_len Ctor.bulk_pos d.ctors
  rw [Decl.bulk]; omega
theorem loop_ev (d : Decl) (hd : d.bulk ≤ cap) (name : Str) (p : Nat) (hp : p ≤ 8) (params indices : List Term) (sort : Term) (h1 : TL params) (h2 : TL indices) (h3 : sort.bulk ≤ cap) :
    ∃ r : Family × Int, Ev (fun n => family_Analyse_l1 n n d.ctors d.ctors.length 0 name p params indices sort.kind sort.index sort.name sort.levels sort.kids ⟨Term.mk 3 0 name (ownLevels p) [], params, indices.length⟩ []) r ∧
      Ev (fun n => ref12_Analyse_l1 n n 0 d name p params indices sort.kind sort.index sort.name sort.levels sort.kids []) r ∧ FamOK r.1 := by
  have hlen := d.ctors_len
  have key : ∀ (k i : Nat) (acc : List CtorForm), k + i = d.ctors.length → acc.length ≤ i → (∀ c ∈ acc, CtorOK c) → ∃ r : Family × Int,
      Ev2 (fun n m => family_Analyse_l1 n m d.ctors d.ctors.length i name p params indices sort.kind sort.index sort.name sort.levels sort.kids ⟨Term.mk 3 0 name (ownLevels p) [], params, indices.length⟩ acc) r ∧
      Ev2 (fun n m => ref12_Analyse_l1 n m i d name p params indices sort.kind sort.index sort.name sort.levels sort.kids acc) r ∧ FamOK r.1 := by
    intro k
    induction k with
    | zero =>
      intro i acc hi ha hok
      obtain rfl : i = d.ctors.length := by omega
      refine ⟨({ name := name, levels := p, params := params, indices := indices, sort := sort, ctors := acc }, 0), ?_, ?_, ⟨h1, h2, h3, by show acc.length ≤ cap; omega, hok⟩⟩
      · refine Ev2.lp (fun n m => by simp only [family_Analyse_l1, family_Analyse_b1]; exact rfl) ?_
        simp only [Int.lt_irrefl, decide_false, cond_false, Term.eta_mk]
        exact Ev2.pure
      · refine Ev2.lp (fun n m => by simp only [ref12_Analyse_l1, ref12_Analyse_b1]; exact rfl) ?_
        simp only [Int.lt_irrefl, decide_false, cond_false, Term.eta_mk]
        exact Ev2.pure
    | succ k ih =>
      intro i acc hi ha hok
      have hi' : i < d.ctors.length := by omega
      have hct := (Decl.ctor_le (List.getElem_mem hi')).1
      obtain ⟨q, q1, q2, q3⟩ := ctor_ev (Term.mk 3 0 name (ownLevels p) []) { name := name, levels := p, params := params, indices := indices, sort := sort, ctors := acc } d.ctors[i] p rfl hp rfl (by omega) h1 h2.1
      have hroom := room88 (k := acc.length) (by omega)
      have hnext : IntKind.i64.wrap ((i : Int) + 1) = ((i + 1 : Nat) : Int) := wrap_next (by simp only [cap] at hd; omega)
      cases hb : q.2 with
      | false =>
        refine ⟨(noFam, 3), ?_, ?_, noFam_ok⟩
        · refine Ev2.lp (fun n m => by simp only [family_Analyse_l1, family_Analyse_b1]; exact rfl) ?_
          simp only [hi', Int.ofNat_lt, decide_true, cond_true]
          refine Ev2.idx hi' (Ev2.bind1 q1 ?_)
          simp only [hb, cond_false]
          exact Ev2.pure
        · refine Ev2.lp (fun n m => by simp only [ref12_Analyse_l1, ref12_Analyse_b1]; exact rfl) ?_
          simp only [hi', Int.ofNat_lt, decide_true, cond_true, Term.eta_mk]
          refine Ev2.idx hi' (Ev2.bind1 q2 ?_)
          simp only [hb, cond_false]
          exact Ev2.pure
      | true =>
        obtain ⟨r, r1, r2, r3⟩ := ih (i + 1) (acc ++ [q.1]) (by omega) (by simp; omega) (by
          intro c hc
          rcases List.mem_append.1 hc with hc | hc
          · exact hok c hc
          · rw [List.mem_singleton] at hc; subst hc; exact q3)
        refine ⟨r, ?_, ?_, r3⟩
        · refine Ev2.lp (fun n m => by simp only [family_Analyse_l1, family_Analyse_b1]; exact rfl) ?_
          simp only [hi', Int.ofNat_lt, decide_true, cond_true]
          refine Ev2.idx hi' (Ev2.bind1 q1 ?_)
          simp only [hb, cond_true, hroom, hnext]
          exact r1
        · refine Ev2.lp (fun n m => by simp only [ref12_Analyse_l1, ref12_Analyse_b1]; exact rfl) ?_
          simp only [hi', Int.ofNat_lt, decide_true, cond_true, Term.eta_mk]
          refine Ev2.idx hi' (Ev2.bind1 q2 ?_)
          simp only [hb, cond_true, hroom, hnext]
          exact r2
  obtain ⟨r, r1, r2, r3⟩ := key d.ctors.length 0 [] (by omega) (by simp) (by simp)
  exact ⟨r, Ev.of2 r1, Ev.of2 r2, r3⟩
theorem Analyse_ev (d : Decl) (hd : d.bulk ≤ cap) (hp0 : 0 ≤ d.params) (hp8 : d.params ≤ 8) : ∃ r : Family × Int, Ev (fun n => family_Analyse n d) r ∧ Ev (fun n => ref12_Analyse n d) r ∧ FamOK r.1 := by
  have ht : d.type.bulk ≤ cap := by rw [Decl.bulk] at hd; omega
  obtain ⟨r, hr1, hr2, htl, hrb⟩ := All_tl d.type ht
  obtain ⟨p, hp⟩ : ∃ p : Nat, d.params = p := ⟨d.params.toNat, by omega⟩
  by_cases hk : d.kind ≠ 3
  · have e : (d.kind != 3) = true := by rw [bne_iff_ne]; exact hk
    refine ⟨(noFam, 1), ?_, ?_, noFam_ok⟩
    · refine Ev.fn (fun n => by simp only [family_Analyse, family_Analyse_e]; exact rfl) ?_
      simp only [e, cond_true]
      exact Ev.pure
    · refine Ev.fn (fun n => by simp only [ref12_Analyse, ref12_Analyse_e]; exact rfl) ?_
      simp only [e, cond_true]
      exact Ev.pure
  have hk : d.kind = 3 := Classical.not_not.1 hk
  have e0 : (d.kind != 3) = false := by rw [hk]; rfl
  by_cases hf : d.fixed < 0
  · have e : decide (d.fixed < 0) = true := decide_eq_true hf
    refine ⟨(noFam, 3), ?_, ?_, noFam_ok⟩
    · refine Ev.fn (fun n => by simp only [family_Analyse, family_Analyse_e]; exact rfl) ?_
      simp only [e0, cond_false]
      refine Ev.bind hr1 ?_
      simp only [e, cond_true]
      exact Ev.pure
    · refine Ev.fn (fun n => by simp only [ref12_Analyse, ref12_Analyse_e]; exact rfl) ?_
      simp only [e0, cond_false]
      refine Ev.bind hr2 ?_
      simp only [e, cond_true]
      exact Ev.pure
  have e1 : decide (d.fixed < 0) = false := decide_eq_false hf
  by_cases hg : (r.1.length : Int) < d.fixed
  · have e : decide ((r.1.length : Int) < d.fixed) = true := decide_eq_true hg
    refine ⟨(noFam, 3), ?_, ?_, noFam_ok⟩
    · refine Ev.fn (fun n => by simp only [family_Analyse, family_Analyse_e]; exact rfl) ?_
      simp only [e0, cond_false]
      refine Ev.bind hr1 ?_
      simp only [e1, e, cond_true, cond_false]
      exact Ev.pure
    · refine Ev.fn (fun n => by simp only [ref12_Analyse, ref12_Analyse_e]; exact rfl) ?_
      simp only [e0, cond_false]
      refine Ev.bind hr2 ?_
      simp only [e1, e, cond_true, cond_false]
      exact Ev.pure
  have e2 : decide ((r.1.length : Int) < d.fixed) = false := decide_eq_false hg
  have e3 : decide (0 ≤ d.fixed ∧ d.fixed ≤ r.1.length ∧ (r.1.length : Int) ≤ r.1.length) = true := decide_eq_true ⟨by omega, by omega, by omega⟩
  have hsort : Ev (fun n => ref12_sort n r.2) (r.2.kind == 1 || r.2.kind == 2) := by
    refine Ev.fn (fun n => by simp only [ref12_sort, ref12_sort_e]; exact rfl) ?_
    cases r.2.kind == 1 <;> exact Ev.pure
  obtain ⟨q, q1, q2, q3⟩ := loop_ev d hd d.name p (by omega) (r.1.take d.fixed.toNat) (r.1.drop d.fixed.toNat) r.2 (htl.take _) (htl.drop _) hrb
  have hit := family_itself_ev d.name p (by omega)
  rw [← hp] at q1 q2 hit
  cases hs1 : (r.2.kind == 1) with
  | true =>
    rw [hs1, Bool.true_or] at hsort
    refine ⟨q, ?_, ?_, q3⟩
    · refine Ev.fn (fun n => by simp only [family_Analyse, family_Analyse_e]; exact rfl) ?_
      simp only [e0, cond_false]
      refine Ev.bind hr1 ?_
      simp only [e1, e2, e3, bne, hs1, Bool.not_true, cond_true, cond_false, List.take_length]
      refine Ev.bind hit ?_
      exact q1
    · refine Ev.fn (fun n => by simp only [ref12_Analyse, ref12_Analyse_e]; exact rfl) ?_
      simp only [e0, cond_false]
      refine Ev.bind hr2 ?_
      simp only [e1, e2, cond_false]
      refine Ev.bind hsort ?_
      simp only [e3, cond_true, List.take_length]
      exact q2
  | false =>
    rw [hs1, Bool.false_or] at hsort
    cases hs2 : (r.2.kind == 2) with
    | true =>
      rw [hs2] at hsort
      refine ⟨q, ?_, ?_, q3⟩
      · refine Ev.fn (fun n => by simp only [family_Analyse, family_Analyse_e]; exact rfl) ?_
        simp only [e0, cond_false]
        refine Ev.bind hr1 ?_
        simp only [e1, e2, e3, bne, hs1, hs2, Bool.not_true, Bool.not_false, cond_true, cond_false, List.take_length]
        refine Ev.bind hit ?_
        exact q1
      · refine Ev.fn (fun n => by simp only [ref12_Analyse, ref12_Analyse_e]; exact rfl) ?_
        simp only [e0, cond_false]
        refine Ev.bind hr2 ?_
        simp only [e1, e2, cond_false]
        refine Ev.bind hsort ?_
        simp only [e3, cond_true, List.take_length]
        exact q2
    | false =>
      rw [hs2] at hsort
      refine ⟨(noFam, 3), ?_, ?_, noFam_ok⟩
      · refine Ev.fn (fun n => by simp only [family_Analyse, family_Analyse_e]; exact rfl) ?_
        simp only [e0, cond_false]
        refine Ev.bind hr1 ?_
        simp only [e1, e2, bne, hs1, hs2, Bool.not_false, cond_true, cond_false]
        exact Ev.pure
      · refine Ev.fn (fun n => by simp only [ref12_Analyse, ref12_Analyse_e]; exact rfl) ?_
        simp only [e0, cond_false]
        refine Ev.bind hr2 ?_
        simp only [e1, e2, cond_false]
        refine Ev.bind hsort ?_
        simp only [cond_false]
        exact Ev.pure
theorem law07_FewDecl_tot (d : Decl) (hd : d.bulk ≤ cap) : Tot (fun n => law07_FewDecl n d) Yes := by
  have hd' := hd
  rw [Decl.bulk] at hd'
  have hl1 := d.ctors_len
  have hl2 := sumB_len Fun.bulk_pos d.funs
  have hl3 : sumB Term.bulk d.recu.rules < d.recu.bulk := by rw [Recursor.bulk]; omega
  have hl4 := sumB_len Term.bulk_pos d.recu.rules
  have hl5 : d.recu.type.bulk < d.recu.bulk := by rw [Recursor.bulk]; omega
  have k1 : Tot (fun n => law07_FewDecl_l1 n n 0 d) Yes := by
    refine Tot.of2 (F := fun n m => law07_FewDecl_l1 n m 0 d) ?_
    refine Tot2.up (S := Unit) (L := fun n m i s => law07_FewDecl_l1 n m i d) d.funs.length (fun _ _ => True) Yes ?_ ?_ 0 () (by omega) trivial
    · intro i s hi _ next
      refine Tot2.lp (fun n m => by simp only [law07_FewDecl_l1, law07_FewDecl_b1]; exact rfl) ?_
      simp only [hi, Int.ofNat_lt, decide_true, cond_true]
      refine Tot2.idx hi ?_
      have hm := sumB_mem (f := Fun.bulk) (List.getElem_mem hi)
      rw [Fun.bulk] at hm
      (repeat' (first | exact Tot.pure trivial | exact Tot2.pure trivial | refine Tot.cnd (fun _ => ?_) (fun _ => ?_) | refine Tot2.cnd (fun _ => ?_) (fun _ => ?_)))
      refine Tot2.idx hi ?_
      refine Tot2.bind1 (law07_small_tot _ (lim_of_cap (by omega))) fun x _ => ?_
      (repeat' (first | exact Tot.pure trivial | exact Tot2.pure trivial | refine Tot.cnd (fun _ => ?_) (fun _ => ?_) | refine Tot2.cnd (fun _ => ?_) (fun _ => ?_)))
      refine Tot2.idx hi ?_
      refine Tot2.bind1 (law07_smallTree_tot _ _ (lim_of_cap (by omega))) fun x _ => ?_
      (repeat' (first | exact Tot.pure trivial | exact Tot2.pure trivial | refine Tot.cnd (fun _ => ?_) (fun _ => ?_) | refine Tot2.cnd (fun _ => ?_) (fun _ => ?_)))
      rw [wrap_next (by simp only [cap] at hd hd'; omega)]
      exact next s trivial
    · intro s _
      refine Tot2.lp (fun n m => by simp only [law07_FewDecl_l1, law07_FewDecl_b1]; exact rfl) ?_
      simp only [Int.lt_irrefl, decide_false, cond_false]
      exact Tot2.pure trivial
  have k2 : Tot (fun n => law07_FewDecl_l2 n n 0 d) Yes := by
    refine Tot.of2 (F := fun n m => law07_FewDecl_l2 n m 0 d) ?_
    refine Tot2.up (S := Unit) (L := fun n m i s => law07_FewDecl_l2 n m i d) d.recu.rules.length (fun _ _ => True) Yes ?_ ?_ 0 () (by omega) trivial
    · intro i s hi _ next
      refine Tot2.lp (fun n m => by simp only [law07_FewDecl_l2, law07_FewDecl_b2]; exact rfl) ?_
      simp only [hi, Int.ofNat_lt, decide_true, cond_true]
      refine Tot2.idx hi ?_
      have hm := sumB_mem (f := Term.bulk) (List.getElem_mem hi)
      refine Tot2.bind1 (law07_small_tot _ (lim_of_cap (by omega))) fun x _ => ?_
      (repeat' (first | exact Tot.pure trivial | exact Tot2.pure trivial | refine Tot.cnd (fun _ => ?_) (fun _ => ?_) | refine Tot2.cnd (fun _ => ?_) (fun _ => ?_)))
      rw [wrap_next (by simp only [cap] at hd hd'; omega)]
      exact next s trivial
    · intro s _
      refine Tot2.lp (fun n m => by simp only [law07_FewDecl_l2, law07_FewDecl_b2]; exact rfl) ?_
      simp only [Int.lt_irrefl, decide_false, cond_false]
      exact Tot2.of1 k1
  have k3 : Tot (fun n => law07_FewDecl_l3 n n 0 d) Yes := by
    refine Tot.of2 (F := fun n m => law07_FewDecl_l3 n m 0 d) ?_
    refine Tot2.up (S := Unit) (L := fun n m i s => law07_FewDecl_l3 n m i d) d.ctors.length (fun _ _ => True) Yes ?_ ?_ 0 () (by omega) trivial
    · intro i s hi _ next
      refine Tot2.lp (fun n m => by simp only [law07_FewDecl_l3, law07_FewDecl_b3]; exact rfl) ?_
      simp only [hi, Int.ofNat_lt, decide_true, cond_true]
      refine Tot2.idx hi ?_
      have hm := (Decl.ctor_le (List.getElem_mem hi)).1
      (repeat' (first | exact Tot.pure trivial | exact Tot2.pure trivial | refine Tot.cnd (fun _ => ?_) (fun _ => ?_) | refine Tot2.cnd (fun _ => ?_) (fun _ => ?_)))
      refine Tot2.idx hi ?_
      refine Tot2.bind1 (law07_small_tot _ (lim_of_cap (by omega))) fun x _ => ?_
      (repeat' (first | exact Tot.pure trivial | exact Tot2.pure trivial | refine Tot.cnd (fun _ => ?_) (fun _ => ?_) | refine Tot2.cnd (fun _ => ?_) (fun _ => ?_)))
      rw [wrap_next (by simp only [cap] at hd hd'; omega)]
      exact next s trivial
    · intro s _
      refine Tot2.lp (fun n m => by simp only [law07_FewDecl_l3, law07_FewDecl_b3]; exact rfl) ?_
      simp only [Int.lt_irrefl, decide_false, cond_false]
      exact Tot2.of1 k2
  refine Tot.fn (fun n => by simp only [law07_FewDecl, law07_FewDecl_e]; exact rfl) ?_
  (repeat' (first | exact Tot.pure trivial | exact Tot2.pure trivial | refine Tot.cnd (fun _ => ?_) (fun _ => ?_) | refine Tot2.cnd (fun _ => ?_) (fun _ => ?_)))
  refine Tot.bind (law07_small_tot _ (lim_of_cap (by omega))) fun x _ => ?_
  (repeat' (first | exact Tot.pure trivial | exact Tot2.pure trivial | refine Tot.cnd (fun _ => ?_) (fun _ => ?_) | refine Tot2.cnd (fun _ => ?_) (fun _ => ?_)))
  refine Tot.bind (law07_small_tot _ (lim_of_cap (by omega))) fun x _ => ?_
  (repeat' (first | exact Tot.pure trivial | exact Tot2.pure trivial | refine Tot.cnd (fun _ => ?_) (fun _ => ?_) | refine Tot2.cnd (fun _ => ?_) (fun _ => ?_)))
  refine Tot.bind (law07_small_tot _ (lim_of_cap (by omega))) fun x _ => ?_
  (repeat' (first | exact Tot.pure trivial | exact Tot2.pure trivial | refine Tot.cnd (fun _ => ?_) (fun _ => ?_) | refine Tot2.cnd (fun _ => ?_) (fun _ => ?_)))
  exact k3
theorem ref12_Closed_tot (d : Decl) (hd : d.bulk ≤ cap) : Tot (fun n => ref12_Closed n d) (fun r => r = true → 0 ≤ d.params ∧ d.params ≤ 8) := by
  have hd' := hd
  rw [Decl.bulk] at hd'
  have hl1 := d.ctors_len
  refine Tot.fn (fun n => by simp only [ref12_Closed, ref12_Closed_e]; exact rfl) ?_
  refine Tot.cnd (fun _ => Tot.pure (by simp)) fun h0 => ?_
  refine Tot.cnd (fun _ => Tot.pure (by simp)) fun h8 => ?_
  have h0 : ¬ d.params < 0 := by simpa using h0
  have h8 : ¬ (8 : Int) < d.params := by simpa using h8
  refine Tot.imp (P := Yes) ?_ (fun _ _ _ => ⟨by omega, by omega⟩)
  refine Tot.bind (ref03_Check_tot _ _ _ _ _ (lim_of_cap (by omega))) fun x _ => ?_
  (repeat' (first | exact Tot.pure trivial | exact Tot2.pure trivial | refine Tot.cnd (fun _ => ?_) (fun _ => ?_) | refine Tot2.cnd (fun _ => ?_) (fun _ => ?_)))
  refine Tot.of2 (F := fun n m => ref12_Closed_l1 n m 0 d) ?_
  refine Tot2.up (S := Unit) (L := fun n m i s => ref12_Closed_l1 n m i d) d.ctors.length (fun _ _ => True) Yes ?_ ?_ 0 () (by omega) trivial
  · intro i s hi _ next
    refine Tot2.lp (fun n m => by simp only [ref12_Closed_l1, ref12_Closed_b1]; exact rfl) ?_
    simp only [hi, Int.ofNat_lt, decide_true, cond_true]
    refine Tot2.idx hi ?_
    have hm := (Decl.ctor_le (List.getElem_mem hi)).1
    refine Tot2.bind1 (ref03_Check_tot _ _ _ _ _ (lim_of_cap (by omega))) fun x _ => ?_
    (repeat' (first | exact Tot.pure trivial | exact Tot2.pure trivial | refine Tot.cnd (fun _ => ?_) (fun _ => ?_) | refine Tot2.cnd (fun _ => ?_) (fun _ => ?_)))
    rw [wrap_next (by simp only [cap] at hd hd'; omega)]
    exact next s trivial
  · intro s _
    refine Tot2.lp (fun n m => by simp only [ref12_Closed_l1, ref12_Closed_b1]; exact rfl) ?_
    simp only [Int.lt_irrefl, decide_false, cond_false]
    exact Tot2.pure trivial
theorem law12_Few_tot (d : Decl) (hd : d.bulk ≤ cap) : Tot (fun n => law12_Few n d) (fun r => r = true → 0 ≤ d.params ∧ d.params ≤ 8) := by
  have hn : d.name.length ≤ cap := by rw [Decl.bulk] at hd; omega
  refine Tot.fn (fun n => by simp only [law12_Few, law12_Few_e]; exact rfl) ?_
  refine Tot.bind (law07_FewDecl_tot d hd) fun x _ => ?_
  refine Tot.cnd (fun _ => ?_) (fun _ => Tot.pure (by simp))
  refine Tot.bind (ref12_Closed_tot d hd) fun y hy => ?_
  refine Tot.cnd (fun h => ?_) (fun _ => Tot.pure (by simp))
  refine Tot.bind (ref03_Name_tot d.name (lim_of_cap hn)) fun z _ => ?_
  exact Tot.pure fun _ => hy h
theorem law12_awake_ev : Ev (fun n => law12_awake n) true := by
  refine ⟨60, fun n hn => ?_⟩
  obtain ⟨k, rfl⟩ : ∃ k, n = k + 60 := ⟨n - 60, by omega⟩
  exact awake_k k
theorem law12_FamilyAnalyses_ev (d : Decl) (hd : d.bulk ≤ cap) : Ev (fun n => law12_FamilyAnalyses n d) true := by
  refine Tot.ev ?_
  refine Tot.fn (fun n => by simp only [law12_FamilyAnalyses, law12_FamilyAnalyses_e]; exact rfl) ?_
  refine Tot.bind (law12_Few_tot d hd) fun x hx => ?_
  refine Tot.cnd (fun h => ?_) (fun _ => ?_)
  · obtain ⟨r, r1, r2, r3⟩ := Analyse_ev d hd (hx h).1 (hx h).2
    refine Ev.tot (r := true) (Ev.bind r1 (Ev.bind r2 (Ev.bind law12_awake_ev ?_))) rfl
    simp only [cond_true]
    refine Ev.bind (Same_ev r.1 r3) ?_
    simp only [cond_true, beq_self_eq_true]
    exact Ev.pure
  · exact Ev.tot (r := true) (Ev.bind law12_awake_ev Ev.pure) rfl
theorem law12_FamilyAnalyses_plain (x0 : Decl) (hb : x0.bulk ≤ 1048576) (hw : x0.wf) : ∃ n, law12_FamilyAnalyses n x0 = some true := by
  obtain ⟨N, h⟩ := law12_FamilyAnalyses_ev x0 hb
  exact ⟨N, h N (Nat.le_refl _)⟩
end Go.Abs

