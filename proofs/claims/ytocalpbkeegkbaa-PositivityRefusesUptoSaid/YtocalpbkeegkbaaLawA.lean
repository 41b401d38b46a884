/- A part of the proof: plain facts. -/
import Derived.Test.YtocalpbkeegkbaaCoreD
import Derived.Test.YtocalpbkeegkbaaReadA
set_option linter.all false
namespace Go.Abs
set_option linter.unusedVariables false
variable {R S T : Type}
def Ev (F : Nat → Option R) (r : R) : Prop := ∃ N, ∀ n, N ≤ n → F n = some r
def Ev2 (F : Nat → Nat → Option R) (r : R) : Prop := ∃ N, ∀ n m, N ≤ n → N ≤ m → F n m = some r
theorem Ev.fn {F G : Nat → Option R} {r : R} (h : ∀ n, F (n + 1) = G n) (hg : Ev G r) : Ev F r := by
  obtain ⟨N, hN⟩ := hg
  refine ⟨N + 1, fun n hn => ?_⟩
  obtain ⟨k, rfl⟩ : ∃ k, n = k + 1 := ⟨n - 1, by omega⟩
  rw [h]; exact hN k (by omega)
theorem Ev.of2 {F : Nat → Nat → Option R} {r : R} (h : Ev2 F r) : Ev (fun n => F n n) r := by
  obtain ⟨N, hN⟩ := h
  exact ⟨N, fun n hn => hN n n hn hn⟩
theorem Ev2.of1 {F : Nat → Option R} {r : R} (h : Ev F r) : Ev2 (fun n _ => F n) r := by
  obtain ⟨N, hN⟩ := h
  exact ⟨N, fun n m hn _ => hN n hn⟩
theorem Ev2.lp {F G : Nat → Nat → Option R} {r : R} (h : ∀ n m, F n (m + 1) = G n m) (hg : Ev2 G r) : Ev2 F r := by
  obtain ⟨N, hN⟩ := hg
  refine ⟨N + 1, fun n m hn hm => ?_⟩
  obtain ⟨k, rfl⟩ : ∃ k, m = k + 1 := ⟨m - 1, by omega⟩
  rw [h]; exact hN n k (by omega) (by omega)
theorem Ev.pure {r : R} : Ev (fun _ => some r) r := ⟨0, fun _ _ => rfl⟩
theorem Ev2.pure {r : R} : Ev2 (fun _ _ => some r) r := ⟨0, fun _ _ _ _ => rfl⟩
theorem Ev.bind {F : Nat → Option S} {G : Nat → S → Option R} {x : S} {r : R} (h : Ev F x) (hg : Ev (fun n => G n x) r) : Ev (fun n => (F n).bind (G n)) r := by
  obtain ⟨N, hN⟩ := h
  obtain ⟨M, hM⟩ := hg
  refine ⟨max N M, fun n hn => ?_⟩
  show (F n).bind (G n) = some r
  rw [hN n (by omega)]; exact hM n (by omega)
theorem Ev2.bind {F : Nat → Nat → Option S} {G : Nat → Nat → S → Option R} {x : S} {r : R} (h : Ev2 F x) (hg : Ev2 (fun n m => G n m x) r) : Ev2 (fun n m => (F n m).bind (G n m)) r := by
  obtain ⟨N, hN⟩ := h
  obtain ⟨M, hM⟩ := hg
  refine ⟨max N M, fun n m hn hm => ?_⟩
  show (F n m).bind (G n m) = some r
  rw [hN n m (by omega) (by omega)]; exact hM n m (by omega) (by omega)
theorem Ev2.bind1 {F : Nat → Option S} {G : Nat → Nat → S → Option R} {x : S} {r : R} (h : Ev F x) (hg : Ev2 (fun n m => G n m x) r) : Ev2 (fun n m => (F n).bind (G n m)) r :=
  Ev2.bind (F := fun n _ => F n) (Ev2.of1 h) hg
theorem Ev.congr {F G : Nat → Option R} {r : R} (hg : Ev G r) (h : ∀ n, F n = G n) : Ev F r := by
  rw [show F = G from funext h]; exact hg
theorem Ev2.congr {F G : Nat → Nat → Option R} {r : R} (hg : Ev2 G r) (h : ∀ n m, F n m = G n m) : Ev2 F r := by
  rw [show F = G from funext fun n => funext fun m => h n m]; exact hg
def Tot (F : Nat → Option R) (Q : R → Prop) : Prop := ∃ r, Q r ∧ Ev F r
def Tot2 (F : Nat → Nat → Option R) (Q : R → Prop) : Prop := ∃ r, Q r ∧ Ev2 F r
theorem Tot.fn {F G : Nat → Option R} {Q : R → Prop} (h : ∀ n, F (n + 1) = G n) (hg : Tot G Q) : Tot F Q := Exists.imp (fun _ k => ⟨k.1, Ev.fn h k.2⟩) hg
theorem Tot.of2 {F : Nat → Nat → Option R} {Q : R → Prop} (h : Tot2 F Q) : Tot (fun n => F n n) Q := Exists.imp (fun _ k => ⟨k.1, Ev.of2 k.2⟩) h
theorem Tot2.of1 {F : Nat → Option R} {Q : R → Prop} (h : Tot F Q) : Tot2 (fun n _ => F n) Q := Exists.imp (fun _ k => ⟨k.1, Ev2.of1 k.2⟩) h
theorem Tot2.lp {F G : Nat → Nat → Option R} {Q : R → Prop} (h : ∀ n m, F n (m + 1) = G n m) (hg : Tot2 G Q) : Tot2 F Q := Exists.imp (fun _ k => ⟨k.1, Ev2.lp h k.2⟩) hg
theorem Tot.pure {r : R} {Q : R → Prop} (h : Q r) : Tot (fun _ => some r) Q := ⟨r, h, Ev.pure⟩
theorem Tot2.pure {r : R} {Q : R → Prop} (h : Q r) : Tot2 (fun _ _ => some r) Q := ⟨r, h, Ev2.pure⟩
theorem Tot.bind {F : Nat → Option S} {G : Nat → S → Option R} {P : S → Prop} {Q : R → Prop} (h : Tot F P) (hg : ∀ x, P x → Tot (fun n => G n x) Q) : Tot (fun n => (F n).bind (G n)) Q := by
  obtain ⟨x, hx, hF⟩ := h
  obtain ⟨r, hr, hG⟩ := hg x hx
  exact ⟨r, hr, Ev.bind hF hG⟩
theorem Tot2.bind {F : Nat → Nat → Option S} {G : Nat → Nat → S → Option R} {P : S → Prop} {Q : R → Prop} (h : Tot2 F P) (hg : ∀ x, P x → Tot2 (fun n m => G n m x) Q) : Tot2 (fun n m => (F n m).bind (G n m)) Q := by
  obtain ⟨x, hx, hF⟩ := h
  obtain ⟨r, hr, hG⟩ := hg x hx
  exact ⟨r, hr, Ev2.bind hF hG⟩
theorem Tot2.bind1 {F : Nat → Option S} {G : Nat → Nat → S → Option R} {P : S → Prop} {Q : R → Prop} (h : Tot F P) (hg : ∀ x, P x → Tot2 (fun n m => G n m x) Q) : Tot2 (fun n m => (F n).bind (G n m)) Q :=
  Tot2.bind (F := fun n _ => F n) (Tot2.of1 h) hg
theorem Tot.idx {xs : List S} {i : Nat} {G : Nat → S → Option R} {Q : R → Prop} (hi : i < xs.length) (hg : Tot (fun n => G n xs[i]) Q) : Tot (fun n => (idxA xs (i : Int)).bind (G n)) Q := by
  have : idxA xs (i : Int) = some xs[i] := by simp [idxA, hi]
  simp only [this]; exact hg
theorem Tot2.idx {xs : List S} {i : Nat} {G : Nat → Nat → S → Option R} {Q : R → Prop} (hi : i < xs.length) (hg : Tot2 (fun n m => G n m xs[i]) Q) : Tot2 (fun n m => (idxA xs (i : Int)).bind (G n m)) Q := by
  have : idxA xs (i : Int) = some xs[i] := by simp [idxA, hi]
  simp only [this]; exact hg
theorem Tot.cnd {c : Bool} {A B : Nat → Option R} {Q : R → Prop} (h1 : c = true → Tot A Q) (h2 : c = false → Tot B Q) : Tot (fun n => bif c then A n else B n) Q := by
  cases c with
  | true => exact h1 rfl
  | false => exact h2 rfl
theorem Tot2.cnd {c : Bool} {A B : Nat → Nat → Option R} {Q : R → Prop} (h1 : c = true → Tot2 A Q) (h2 : c = false → Tot2 B Q) : Tot2 (fun n m => bif c then A n m else B n m) Q := by
  cases c with
  | true => exact h1 rfl
  | false => exact h2 rfl
theorem Tot.imp {F : Nat → Option R} {P Q : R → Prop} (h : Tot F P) (k : ∀ r, P r → Q r) : Tot F Q := Exists.imp (fun r x => ⟨k r x.1, x.2⟩) h
theorem Tot2.imp {F : Nat → Nat → Option R} {P Q : R → Prop} (h : Tot2 F P) (k : ∀ r, P r → Q r) : Tot2 F Q := Exists.imp (fun r x => ⟨k r x.1, x.2⟩) h
theorem Tot.ev {F : Nat → Option R} {r : R} (h : Tot F (· = r)) : Ev F r := by obtain ⟨s, rfl, h⟩ := h; exact h
theorem Ev.tot {F : Nat → Option R} {r : R} {Q : R → Prop} (h : Ev F r) (q : Q r) : Tot F Q := ⟨r, q, h⟩
theorem Ev2.tot {F : Nat → Nat → Option R} {r : R} {Q : R → Prop} (h : Ev2 F r) (q : Q r) : Tot2 F Q := ⟨r, q, h⟩
theorem Tot2.up {L : Nat → Nat → Int → S → Option R} (len : Nat) (I : Nat → S → Prop) (Q : R → Prop)
    (h1 : ∀ i s, i < len → I i s → (∀ s', I (i + 1) s' → Tot2 (fun n m => L n m ((i + 1 : Nat) : Int) s') Q) → Tot2 (fun n m => L n m (i : Int) s) Q)
    (h2 : ∀ s, I len s → Tot2 (fun n m => L n m (len : Int) s) Q) : ∀ (i : Nat) (s : S), i ≤ len → I i s → Tot2 (fun n m => L n m (i : Int) s) Q := by
  intro i s hi h
  obtain ⟨k, hk⟩ : ∃ k, k = len - i := ⟨_, rfl⟩
  induction k generalizing i s with
  | zero => obtain rfl : i = len := by omega
            exact h2 s h
  | succ k ih => exact h1 i s (by omega) h fun s' hs => ih (i + 1) s' (by omega) hs (by omega)
theorem wrap_small {n : Int} (h : -9223372036854775808 ≤ n) (h2 : n ≤ 9223372036854775807) : IntKind.i64.wrap n = n := by
  simp only [IntKind.wrap, IntKind.signed, IntKind.bits, Bool.true_and, decide_eq_true_eq]
  split <;> rename_i h3 <;> simp only [decide_eq_true_eq, ge_iff_le] at h3 <;> omega
theorem wrap_next {i : Nat} (h : i < 9223372036854775807) : IntKind.i64.wrap ((i : Int) + 1) = ((i + 1 : Nat) : Int) := by
  rw [wrap_small (by omega) (by omega)]; rfl
theorem idxA_at {xs : List S} {i : Nat} (hi : i < xs.length) : idxA xs (i : Int) = some xs[i] := by simp [idxA, hi]
theorem Ev2.idx {xs : List S} {i : Nat} {G : Nat → Nat → S → Option R} {r : R} (hi : i < xs.length) (hg : Ev2 (fun n m => G n m xs[i]) r) : Ev2 (fun n m => (idxA xs (i : Int)).bind (G n m)) r := by
  simp only [idxA_at hi]; exact hg
noncomputable def eqb {α : Type} (a b : α) : Bool := @decide (a = b) (Classical.propDecidable _)
theorem eqb_iff {α : Type} {a b : α} : eqb a b = true ↔ a = b := by
  unfold eqb; exact @decide_eq_true_iff _ (Classical.propDecidable _)
theorem eqb_self {α : Type} (a : α) : eqb a a = true := eqb_iff.2 rfl
theorem eqb_false {α : Type} {a b : α} (h : a ≠ b) : eqb a b = false := by
  cases hc : eqb a b with
  | false => rfl
  | true => exact absurd (eqb_iff.1 hc) h
theorem eqb_cons {α : Type} (x y : α) (xs ys : List α) : eqb (x :: xs) (y :: ys) = (eqb x y && eqb xs ys) := by
  rw [Bool.eq_iff_iff, Bool.and_eq_true, eqb_iff, eqb_iff, eqb_iff, List.cons.injEq]
theorem eqb_len {α : Type} {xs ys : List α} (h : xs.length ≠ ys.length) : eqb xs ys = false := eqb_false fun e => h (by rw [e])
theorem Ev2.andThen {F : Nat → Nat → Option Bool} {c r : Bool} (h : Ev2 F r) : Ev2 (fun n m => bif c then F n m else some false) (c && r) := by
  cases c with
  | true => exact h
  | false => exact Ev2.pure
theorem Ev.andThen {F : Nat → Option Bool} {c r : Bool} (h : Ev F r) : Ev (fun n => bif c then F n else some false) (c && r) := by
  cases c with
  | true => exact h
  | false => exact Ev.pure
theorem Ev2.same {α : Type} {L : Nat → Nat → Int → Option Bool} (xs ys : List α) (hl : xs.length = ys.length)
    (h1 : ∀ (i : Nat) (hi : i < xs.length) (hj : i < ys.length) (r : Bool), Ev2 (fun n m => L n m ((i + 1 : Nat) : Int)) r → Ev2 (fun n m => L n m (i : Int)) (eqb xs[i] ys[i] && r))
    (h2 : Ev2 (fun n m => L n m (xs.length : Int)) true) : Ev2 (fun n m => L n m 0) (eqb xs ys) := by
  have key : ∀ (k i : Nat), k + i = xs.length → Ev2 (fun n m => L n m (i : Int)) (eqb (xs.drop i) (ys.drop i)) := by
    intro k
    induction k with
    | zero =>
      intro i hi
      obtain rfl : i = xs.length := by omega
      rw [List.drop_length, hl, List.drop_length, eqb_self, ← hl]
      exact h2
    | succ k ih =>
      intro i hi
      have hi1 : i < xs.length := by omega
      have hi2 : i < ys.length := by omega
      rw [List.drop_eq_getElem_cons hi1, List.drop_eq_getElem_cons hi2, eqb_cons]
      exact h1 i hi1 hi2 _ (ih (i + 1) (by omega))
  have := key xs.length 0 (by omega)
  simpa using this
end Go.Abs
namespace Go.Abs
set_option linter.unusedVariables false
set_option linter.unusedSimpArgs false
theorem sumB_mem {α : Type} {f : α → Nat} : ∀ {xs : List α} {x : α}, x ∈ xs → f x ≤ sumB f xs
  | y :: ys, x, h => by
    simp only [sumB]
    rcases List.mem_cons.mp h with rfl | h
    · omega
    · have := sumB_mem (f := f) h; omega
theorem sumB_len {α : Type} {f : α → Nat} (h : ∀ x, 1 ≤ f x) : ∀ xs : List α, xs.length ≤ sumB f xs
  | [] => by simp [sumB]
  | y :: ys => by have := sumB_len h ys; have := h y; simp only [sumB, List.length_cons]; omega
theorem Term.bulk_pos (x : Term) : 1 ≤ x.bulk := by rw [Term.bulk_eq]; omega
theorem Level.bulk_pos (x : Level) : 1 ≤ x.bulk := by rw [Level.bulk]; omega
theorem Zs2.bulk_pos (x : Zs2) : 1 ≤ x.bulk := by rw [Zs2.bulk]; omega
theorem Branch.bulk_pos (x : Branch) : 1 ≤ x.bulk := by rw [Branch.bulk_eq]; omega
theorem Term.kids_len (x : Term) : x.kids.length < x.bulk := by rw [Term.bulk_eq]; have := sumB_len Term.bulk_pos x.kids; omega
theorem Term.levels_len (x : Term) : x.levels.length < x.bulk := by rw [Term.bulk_eq]; have := sumB_len Level.bulk_pos x.levels; omega
theorem Term.name_len (x : Term) : x.name.length < x.bulk := by rw [Term.bulk_eq]; omega
theorem Level.vars_len (x : Level) : x.vars.length < x.bulk := by rw [Level.bulk]; have := sumB_len Zs2.bulk_pos x.vars; omega
theorem Term.kid_lt {x t : Term} (h : t ∈ x.kids) : t.bulk < x.bulk := by rw [Term.bulk_eq x]; have := sumB_mem (f := Term.bulk) h; omega
theorem Term.level_lt {x : Term} {l : Level} (h : l ∈ x.levels) : l.bulk < x.bulk := by rw [Term.bulk_eq x]; have := sumB_mem (f := Level.bulk) h; omega
def lim : Nat := 9223372036854775807
abbrev Yes {R : Type} : R → Prop := fun _ => True
theorem ref03_Size_tot : ∀ (t : Term), t.bulk < lim → Tot (fun n => ref03_Size n t) Yes := by
  intro t
  induction h : t.bulk using Nat.strongRecOn generalizing t with
  | ind k ih =>
    intro hk
    have hl := t.kids_len
    refine Tot.fn (fun n => by simp only [ref03_Size, fu_succ, ref03_Size_e]; exact rfl) ?_
    refine Tot.of2 (F := fun n m => ref03_Size_l1 (ref03_Size n) n m 1 0 t) ?_
    refine Tot2.up (S := Int) (L := fun n m i s => ref03_Size_l1 (ref03_Size n) n m s i t) t.kids.length (fun _ _ => True) Yes ?_ ?_ 0 1 (by omega) trivial
    · intro i s hi _ next
      refine Tot2.lp (fun n m => by simp only [ref03_Size_l1_s, ref03_Size_b1]; exact rfl) ?_
      simp only [hi, Int.ofNat_lt, decide_true, cond_true]
      refine Tot2.idx hi ?_
      have hm := t.kid_lt (List.getElem_mem hi)
      refine Tot2.bind1 (ih _ (by omega) _ rfl (by omega)) fun x _ => ?_
      rw [wrap_next (by unfold lim at hk; omega)]
      exact next _ trivial
    · intro s _
      refine Tot2.lp (fun n m => by simp only [ref03_Size_l1_s, ref03_Size_b1]; exact rfl) ?_
      simp only [Int.lt_irrefl, decide_false, cond_false]
      exact Tot2.pure trivial
theorem ref03_Depth_tot : ∀ (t : Term), t.bulk < lim → Tot (fun n => ref03_Depth n t) Yes := by
  intro t
  induction h : t.bulk using Nat.strongRecOn generalizing t with
  | ind k ih =>
    intro hk
    have hl := t.kids_len
    refine Tot.fn (fun n => by simp only [ref03_Depth, fu_succ, ref03_Depth_e]; exact rfl) ?_
    refine Tot.of2 (F := fun n m => ref03_Depth_l1 (ref03_Depth n) n m 0 0 t) ?_
    refine Tot2.up (S := Int) (L := fun n m i s => ref03_Depth_l1 (ref03_Depth n) n m s i t) t.kids.length (fun _ _ => True) Yes ?_ ?_ 0 0 (by omega) trivial
    · intro i s hi _ next
      refine Tot2.lp (fun n m => by simp only [ref03_Depth_l1_s, ref03_Depth_b1]; exact rfl) ?_
      simp only [hi, Int.ofNat_lt, decide_true, cond_true]
      refine Tot2.idx hi ?_
      have hm := t.kid_lt (List.getElem_mem hi)
      refine Tot2.bind1 (ih _ (by omega) _ rfl (by omega)) fun x _ => ?_
      rw [wrap_next (by unfold lim at hk; omega)]
      exact next _ trivial
    · intro s _
      refine Tot2.lp (fun n m => by simp only [ref03_Depth_l1_s, ref03_Depth_b1]; exact rfl) ?_
      simp only [Int.lt_irrefl, decide_false, cond_false]
      exact Tot2.pure trivial
theorem ref03_Below_tot (k i : Int) : Tot (fun n => ref03_Below n k i) Yes := by
  refine Tot.fn (fun n => by simp only [ref03_Below, fu_succ, ref03_Below_e]; exact rfl) ?_
  (repeat' (first | exact Tot.pure trivial | exact Tot2.pure trivial | refine Tot.cnd (fun _ => ?_) (fun _ => ?_) | refine Tot2.cnd (fun _ => ?_) (fun _ => ?_)))
theorem ref03_letter_tot (k : Int) : Tot (fun n => ref03_letter n k) Yes := by
  refine Tot.fn (fun n => by simp only [ref03_letter, fu_succ, ref03_letter_e]; exact rfl) ?_
  (repeat' (first | exact Tot.pure trivial | exact Tot2.pure trivial | refine Tot.cnd (fun _ => ?_) (fun _ => ?_) | refine Tot2.cnd (fun _ => ?_) (fun _ => ?_)))
theorem ref01_Valid_tot (l : Level) (hk : l.bulk < lim) : Tot (fun n => ref01_Valid n l) Yes := by
  have hl := l.vars_len
  refine Tot.fn (fun n => by simp only [ref01_Valid, fu_succ, ref01_Valid_e]; exact rfl) ?_
  (repeat' (first | exact Tot.pure trivial | exact Tot2.pure trivial | refine Tot.cnd (fun _ => ?_) (fun _ => ?_) | refine Tot2.cnd (fun _ => ?_) (fun _ => ?_)))
  refine Tot.of2 (F := fun n m => ref01_Valid_l1 n m 0 l) ?_
  refine Tot2.up (S := Unit) (L := fun n m i s => ref01_Valid_l1 n m i l) l.vars.length (fun _ _ => True) Yes ?_ ?_ 0 () (by omega) trivial
  · intro i s hi _ next
    refine Tot2.lp (fun n m => by simp only [ref01_Valid_l1_s, ref01_Valid_b1]; exact rfl) ?_
    simp only [hi, Int.ofNat_lt, decide_true, cond_true]
    refine Tot2.idx hi ?_
    (repeat' (first | exact Tot.pure trivial | exact Tot2.pure trivial | refine Tot.cnd (fun _ => ?_) (fun _ => ?_) | refine Tot2.cnd (fun _ => ?_) (fun _ => ?_)))
    · rename_i h0
      have h0 : 0 < (i : Int) := by simpa using h0
      have e : IntKind.i64.wrap ((i : Int) - 1) = ((i - 1 : Nat) : Int) := by rw [wrap_small (by omega) (by unfold lim at hk; omega)]; omega
      simp only [e]
      refine Tot2.idx (by omega) ?_
      rw [wrap_next (by unfold lim at hk; omega)]
      (repeat' (first | exact Tot.pure trivial | exact Tot2.pure trivial | refine Tot.cnd (fun _ => ?_) (fun _ => ?_) | refine Tot2.cnd (fun _ => ?_) (fun _ => ?_)))
      all_goals exact next s trivial
    all_goals (rw [wrap_next (by unfold lim at hk; omega)]; exact next s trivial)
  · intro s _
    refine Tot2.lp (fun n m => by simp only [ref01_Valid_l1_s, ref01_Valid_b1]; exact rfl) ?_
    simp only [Int.lt_irrefl, decide_false, cond_false]
    exact Tot2.pure trivial
theorem ref03_Name_tot (s : Str) (hk : s.length < lim) : Tot (fun n => ref03_Name n s) Yes := by
  refine Tot.fn (fun n => by simp only [ref03_Name, fu_succ, ref03_Name_e]; exact rfl) ?_
  (repeat' (first | exact Tot.pure trivial | exact Tot2.pure trivial | refine Tot.cnd (fun _ => ?_) (fun _ => ?_) | refine Tot2.cnd (fun _ => ?_) (fun _ => ?_)))
  refine Tot.of2 (F := fun n m => ref03_Name_l1 n m s true 0) ?_
  refine Tot2.up (S := Bool) (L := fun n m i b => ref03_Name_l1 n m s b i) s.length (fun _ _ => True) Yes ?_ ?_ 0 true (by omega) trivial
  · intro i b hi _ next
    refine Tot2.lp (fun n m => by simp only [ref03_Name_l1_s, ref03_Name_b1]; exact rfl) ?_
    simp only [hi, Int.ofNat_lt, decide_true, cond_true]
    refine Tot2.idx hi ?_
    rw [wrap_next (by unfold lim at hk; omega)]
    (repeat' (first | exact Tot.pure trivial | exact Tot2.pure trivial | refine Tot.cnd (fun _ => ?_) (fun _ => ?_) | refine Tot2.cnd (fun _ => ?_) (fun _ => ?_)))
    · refine Tot2.bind1 (ref03_letter_tot _) fun x _ => ?_
      (repeat' (first | exact Tot.pure trivial | exact Tot2.pure trivial | refine Tot.cnd (fun _ => ?_) (fun _ => ?_) | refine Tot2.cnd (fun _ => ?_) (fun _ => ?_)))
      exact next _ trivial
    · exact next _ trivial
    · refine Tot2.bind1 (ref03_letter_tot _) fun x _ => ?_
      (repeat' (first | exact Tot.pure trivial | exact Tot2.pure trivial | refine Tot.cnd (fun _ => ?_) (fun _ => ?_) | refine Tot2.cnd (fun _ => ?_) (fun _ => ?_)))
      all_goals exact next _ trivial
  · intro s _
    refine Tot2.lp (fun n m => by simp only [ref03_Name_l1_s, ref03_Name_b1]; exact rfl) ?_
    simp only [Int.lt_irrefl, decide_false, cond_false]
    exact Tot2.pure trivial
theorem ref03_level_tot (l : Level) (p q : Int) (hk : l.bulk < lim) : Tot (fun n => ref03_level n l p q) Yes := by
  have hl := l.vars_len
  refine Tot.fn (fun n => by simp only [ref03_level, fu_succ, ref03_level_e]; exact rfl) ?_
  refine Tot.bind (ref01_Valid_tot l hk) fun x _ => ?_
  (repeat' (first | exact Tot.pure trivial | exact Tot2.pure trivial | refine Tot.cnd (fun _ => ?_) (fun _ => ?_) | refine Tot2.cnd (fun _ => ?_) (fun _ => ?_)))
  have k1 : Tot (fun n => ref03_level_l1 n n q 0 l) Yes := by
    refine Tot.of2 (F := fun n m => ref03_level_l1 n m q 0 l) ?_
    refine Tot2.up (S := Unit) (L := fun n m i s => ref03_level_l1 n m q i l) l.vars.length (fun _ _ => True) Yes ?_ ?_ 0 () (by omega) trivial
    · intro i s hi _ next
      refine Tot2.lp (fun n m => by simp only [ref03_level_l1_s, ref03_level_b1]; exact rfl) ?_
      simp only [hi, Int.ofNat_lt, decide_true, cond_true]
      refine Tot2.idx hi ?_
      rw [wrap_next (by unfold lim at hk; omega)]
      (repeat' (first | exact Tot.pure trivial | exact Tot2.pure trivial | refine Tot.cnd (fun _ => ?_) (fun _ => ?_) | refine Tot2.cnd (fun _ => ?_) (fun _ => ?_)))
      · refine Tot2.idx hi ?_
        (repeat' (first | exact Tot.pure trivial | exact Tot2.pure trivial | refine Tot.cnd (fun _ => ?_) (fun _ => ?_) | refine Tot2.cnd (fun _ => ?_) (fun _ => ?_)))
        exact next s trivial
      · exact next s trivial
    · intro s _
      refine Tot2.lp (fun n m => by simp only [ref03_level_l1_s, ref03_level_b1]; exact rfl) ?_
      simp only [Int.lt_irrefl, decide_false, cond_false]
      exact Tot2.pure trivial
  refine Tot.of2 (F := fun n m => ref03_level_l2 n m p q 0 l) ?_
  refine Tot2.up (S := Unit) (L := fun n m i s => ref03_level_l2 n m p q i l) l.vars.length (fun _ _ => True) Yes ?_ ?_ 0 () (by omega) trivial
  · intro i s hi _ next
    refine Tot2.lp (fun n m => by simp only [ref03_level_l2_s, ref03_level_b2]; exact rfl) ?_
    simp only [hi, Int.ofNat_lt, decide_true, cond_true]
    refine Tot2.idx hi ?_
    rw [wrap_next (by unfold lim at hk; omega)]
    (repeat' (first | exact Tot.pure trivial | exact Tot2.pure trivial | refine Tot.cnd (fun _ => ?_) (fun _ => ?_) | refine Tot2.cnd (fun _ => ?_) (fun _ => ?_)))
    · refine Tot2.idx hi ?_
      (repeat' (first | exact Tot.pure trivial | exact Tot2.pure trivial | refine Tot.cnd (fun _ => ?_) (fun _ => ?_) | refine Tot2.cnd (fun _ => ?_) (fun _ => ?_)))
      exact next s trivial
    · exact next s trivial
  · intro s _
    refine Tot2.lp (fun n m => by simp only [ref03_level_l2_s, ref03_level_b2]; exact rfl) ?_
    simp only [Int.lt_irrefl, decide_false, cond_false]
    exact Tot2.of1 k1
theorem law07_small_tot (t : Term) (hk : t.bulk < lim) : Tot (fun n => law07_small n t) Yes := by
  refine Tot.fn (fun n => by simp only [law07_small, fu_succ, law07_small_e]; exact rfl) ?_
  refine Tot.bind (ref03_Size_tot _ hk) fun x _ => ?_
  (repeat' (first | exact Tot.pure trivial | exact Tot2.pure trivial | refine Tot.cnd (fun _ => ?_) (fun _ => ?_) | refine Tot2.cnd (fun _ => ?_) (fun _ => ?_)))
  refine Tot.bind (ref03_Depth_tot _ hk) fun x _ => ?_
  (repeat' (first | exact Tot.pure trivial | exact Tot2.pure trivial | refine Tot.cnd (fun _ => ?_) (fun _ => ?_) | refine Tot2.cnd (fun _ => ?_) (fun _ => ?_)))
theorem Tree.branches_len (x : Tree) : x.branches.length < x.bulk := by rw [Tree.bulk_eq]; have := sumB_len Branch.bulk_pos x.branches; omega
theorem Tree.body_lt (x : Tree) : x.body.bulk < x.bulk := by rw [Tree.bulk_eq]; omega
theorem Tree.kid_lt {x : Tree} {b : Branch} (h : b ∈ x.branches) : b.tree.bulk < x.bulk := by rw [Tree.bulk_eq x]; have := sumB_mem (f := Branch.bulk) h; rw [Branch.bulk_eq] at this; omega
theorem law07_smallTree_tot : ∀ (t : Tree) (a : Int), t.bulk < lim → Tot (fun n => law07_smallTree n t a) Yes := by
  intro t
  induction h : t.bulk using Nat.strongRecOn generalizing t with
  | ind k ih =>
    intro a hk
    have hl := t.branches_len
    have hl2 := t.body_lt
    refine Tot.fn (fun n => by simp only [law07_smallTree, fu_succ, law07_smallTree_e]; exact rfl) ?_
    (repeat' (first | exact Tot.pure trivial | exact Tot2.pure trivial | refine Tot.cnd (fun _ => ?_) (fun _ => ?_) | refine Tot2.cnd (fun _ => ?_) (fun _ => ?_)))
    refine Tot.bind (law07_small_tot _ (by omega)) fun x _ => ?_
    (repeat' (first | exact Tot.pure trivial | exact Tot2.pure trivial | refine Tot.cnd (fun _ => ?_) (fun _ => ?_) | refine Tot2.cnd (fun _ => ?_) (fun _ => ?_)))
    refine Tot.of2 (F := fun n m => law07_smallTree_l1 (law07_smallTree n) n m a 0 t) ?_
    refine Tot2.up (S := Unit) (L := fun n m i s => law07_smallTree_l1 (law07_smallTree n) n m a i t) t.branches.length (fun _ _ => True) Yes ?_ ?_ 0 () (by omega) trivial
    · intro i s hi _ next
      refine Tot2.lp (fun n m => by simp only [law07_smallTree_l1_s, law07_smallTree_b1]; exact rfl) ?_
      simp only [hi, Int.ofNat_lt, decide_true, cond_true]
      refine Tot2.idx hi ?_
      have hm := t.kid_lt (List.getElem_mem hi)
      rw [wrap_next (by unfold lim at hk; omega)]
      refine Tot2.bind1 (ih _ (by omega) _ rfl _ (by omega)) fun x _ => ?_
      (repeat' (first | exact Tot.pure trivial | exact Tot2.pure trivial | refine Tot.cnd (fun _ => ?_) (fun _ => ?_) | refine Tot2.cnd (fun _ => ?_) (fun _ => ?_)))
      refine Tot2.idx hi ?_
      (repeat' (first | exact Tot.pure trivial | exact Tot2.pure trivial | refine Tot.cnd (fun _ => ?_) (fun _ => ?_) | refine Tot2.cnd (fun _ => ?_) (fun _ => ?_)))
      exact next s trivial
    · intro s _
      refine Tot2.lp (fun n m => by simp only [law07_smallTree_l1_s, law07_smallTree_b1]; exact rfl) ?_
      simp only [Int.lt_irrefl, decide_false, cond_false]
      exact Tot2.pure trivial
end Go.Abs
namespace Go.Abs
set_option linter.unusedVariables false
set_option linter.unusedSimpArgs false
theorem eqb_LevelVar (a b : Zs2) : eqb a b = (a.index == b.index && a.plus == b.plus) := by
  rw [Bool.eq_iff_iff, eqb_iff, Bool.and_eq_true, beq_iff_eq, beq_iff_eq]
  cases a; cases b; simp
theorem eqb_Level (a b : Level) : eqb a b = (a.const == b.const && eqb a.vars b.vars) := by
  rw [Bool.eq_iff_iff, eqb_iff, Bool.and_eq_true, beq_iff_eq, eqb_iff]
  cases a; cases b; simp
theorem eqb_Term (a b : Term) : eqb a b = (a.kind == b.kind && (a.index == b.index && (a.name == b.name && (eqb a.levels b.levels && eqb a.kids b.kids)))) := by
  rw [Bool.eq_iff_iff, eqb_iff]
  simp only [Bool.and_eq_true, beq_iff_eq, eqb_iff]
  cases a; cases b
  simp only [Term.mk.injEq, Term.kind, Term.index, Term.name, Term.levels, Term.kids]
theorem intlen {α β : Type} (xs : List α) (ys : List β) : ((xs.length : Int) != (ys.length : Int)) = (xs.length != ys.length) := by
  rw [Bool.eq_iff_iff, bne_iff_ne, bne_iff_ne]; omega
theorem slices_Equal_LevelVar_ev (a b : List Zs2) (hk : a.length < lim) : Ev (fun n => slices_Equal_LevelVar n a b) (eqb a b) := by
  refine Ev.fn (fun n => by simp only [slices_Equal_LevelVar, fu_succ, slices_Equal_LevelVar_e]; exact rfl) ?_
  by_cases hl : a.length = b.length
  · have e : ((a.length : Int) != (b.length : Int)) = false := by rw [intlen, hl]; simp
    simp only [e, cond_false]
    refine Ev.of2 (F := fun n m => slices_Equal_LevelVar_l1 n m a b a.length 0) ?_
    refine Ev2.same (L := fun n m i => slices_Equal_LevelVar_l1 n m a b a.length i) a b hl ?_ ?_
    · intro i hi hj r hr
      refine Ev2.lp (fun n m => by simp only [slices_Equal_LevelVar_l1_s, slices_Equal_LevelVar_b1]; exact rfl) ?_
      simp only [hi, Int.ofNat_lt, decide_true, cond_true]
      rw [wrap_next (by unfold lim at hk; omega), eqb_LevelVar]
      exact Ev2.idx hi (Ev2.idx hj (Ev2.andThen hr))
    · refine Ev2.lp (fun n m => by simp only [slices_Equal_LevelVar_l1_s, slices_Equal_LevelVar_b1]; exact rfl) ?_
      simp only [Int.lt_irrefl, decide_false, cond_false]
      exact Ev2.pure
  · have e : ((a.length : Int) != (b.length : Int)) = true := by rw [intlen]; simpa using hl
    simp only [e, cond_true]
    rw [eqb_len hl]
    exact Ev.pure
theorem term_sameLevel_ev (a b : Level) (hk : a.bulk < lim) : Ev (fun n => term_sameLevel n a b) (eqb a b) := by
  have := a.vars_len
  refine Ev.fn (fun n => by simp only [term_sameLevel, fu_succ, term_sameLevel_e]; exact rfl) ?_
  rw [eqb_Level]
  exact Ev.andThen (Ev.bind (slices_Equal_LevelVar_ev _ _ (by omega)) Ev.pure)
theorem slices_EqualFunc_Level_term_sameLevel_ev (a b : List Level) (hk : a.length < lim) (hb : ∀ l ∈ a, l.bulk < lim) : Ev (fun n => slices_EqualFunc_Level_term_sameLevel n a b ()) (eqb a b) := by
  refine Ev.fn (fun n => by simp only [slices_EqualFunc_Level_term_sameLevel, fu_succ, slices_EqualFunc_Level_term_sameLevel_e]; exact rfl) ?_
  by_cases hl : a.length = b.length
  · have e : ((a.length : Int) != (b.length : Int)) = false := by rw [intlen, hl]; simp
    simp only [e, cond_false]
    refine Ev.of2 (F := fun n m => slices_EqualFunc_Level_term_sameLevel_l1 n m b a a.length 0) ?_
    refine Ev2.same (L := fun n m i => slices_EqualFunc_Level_term_sameLevel_l1 n m b a a.length i) a b hl ?_ ?_
    · intro i hi hj r hr
      refine Ev2.lp (fun n m => by simp only [slices_EqualFunc_Level_term_sameLevel_l1_s, slices_EqualFunc_Level_term_sameLevel_b1]; exact rfl) ?_
      simp only [hi, Int.ofNat_lt, decide_true, cond_true]
      rw [wrap_next (by unfold lim at hk; omega)]
      exact Ev2.idx hi (Ev2.idx hj (Ev2.bind1 (term_sameLevel_ev _ _ (hb _ (List.getElem_mem hi))) (Ev2.andThen hr)))
    · refine Ev2.lp (fun n m => by simp only [slices_EqualFunc_Level_term_sameLevel_l1_s, slices_EqualFunc_Level_term_sameLevel_b1]; exact rfl) ?_
      simp only [Int.lt_irrefl, decide_false, cond_false]
      exact Ev2.pure
  · have e : ((a.length : Int) != (b.length : Int)) = true := by rw [intlen]; simpa using hl
    simp only [e, cond_true]
    rw [eqb_len hl]
    exact Ev.pure
theorem slices_EqualFunc_Term_term_Same_of (a b : List Term) (hk : a.length < lim) (hb : ∀ x ∈ a, ∀ y, Ev (fun n => term_Same n x y) (eqb x y)) : Ev (fun n => slices_EqualFunc_Term_term_Same n a b ()) (eqb a b) := by
  refine Ev.fn (fun n => by simp only [slices_EqualFunc_Term_term_Same, fu_succ, slices_EqualFunc_Term_term_Same_e]; exact rfl) ?_
  by_cases hl : a.length = b.length
  · have e : ((a.length : Int) != (b.length : Int)) = false := by rw [intlen, hl]; simp
    simp only [e, cond_false]
    refine Ev.of2 (F := fun n m => slices_EqualFunc_Term_term_Same_l1 (term_Same n) (slices_EqualFunc_Term_term_Same n) n m b a a.length 0) ?_
    refine Ev2.same (L := fun n m i => slices_EqualFunc_Term_term_Same_l1 (term_Same n) (slices_EqualFunc_Term_term_Same n) n m b a a.length i) a b hl ?_ ?_
    · intro i hi hj r hr
      refine Ev2.lp (fun n m => by simp only [slices_EqualFunc_Term_term_Same_l1_s, slices_EqualFunc_Term_term_Same_b1]; exact rfl) ?_
      simp only [hi, Int.ofNat_lt, decide_true, cond_true]
      rw [wrap_next (by unfold lim at hk; omega)]
      exact Ev2.idx hi (Ev2.idx hj (Ev2.bind1 (hb _ (List.getElem_mem hi) _) (Ev2.andThen hr)))
    · refine Ev2.lp (fun n m => by simp only [slices_EqualFunc_Term_term_Same_l1_s, slices_EqualFunc_Term_term_Same_b1]; exact rfl) ?_
      simp only [Int.lt_irrefl, decide_false, cond_false]
      exact Ev2.pure
  · have e : ((a.length : Int) != (b.length : Int)) = true := by rw [intlen]; simpa using hl
    simp only [e, cond_true]
    rw [eqb_len hl]
    exact Ev.pure
theorem term_Same_ev : ∀ (a b : Term), a.bulk < lim → Ev (fun n => term_Same n a b) (eqb a b) := by
  intro a
  induction h : a.bulk using Nat.strongRecOn generalizing a with
  | ind k ih =>
    intro b hk
    have h1 := a.kids_len
    have h2 := a.levels_len
    refine Ev.fn (fun n => by simp only [term_Same, fu_succ, term_Same_e]; exact rfl) ?_
    rw [eqb_Term]
    refine Ev.andThen (Ev.andThen (Ev.andThen (Ev.bind (slices_EqualFunc_Level_term_sameLevel_ev _ _ (by omega) ?_) (Ev.andThen (Ev.bind (slices_EqualFunc_Term_term_Same_of _ _ (by omega) ?_) Ev.pure)))))
    · intro l hl; have := a.level_lt hl; omega
    · intro x hx y; have := a.kid_lt hx; exact ih x.bulk (by omega) x rfl y (by omega)
theorem slices_EqualFunc_Term_term_Same_ev (a b : List Term) (hk : a.length < lim) (hb : ∀ x ∈ a, x.bulk < lim) : Ev (fun n => slices_EqualFunc_Term_term_Same n a b ()) (eqb a b) :=
  slices_EqualFunc_Term_term_Same_of a b hk fun x hx y => term_Same_ev x y (hb x hx)
theorem family_alike_Term_term_Same_ev (a b : List Term) (hk : a.length < lim) (hb : ∀ x ∈ a, x.bulk < lim) : Ev (fun n => family_alike_Term_term_Same n a b ()) (eqb a b) := by
  refine Ev.fn (fun n => by simp only [family_alike_Term_term_Same, fu_succ, family_alike_Term_term_Same_e]; exact rfl) ?_
  have e : eqb a b = (((a.length : Int) == (b.length : Int)) && eqb a b) := by
    by_cases hl : a.length = b.length
    · rw [hl]; simp
    · rw [eqb_len hl]; simp
  rw [e]
  exact Ev.andThen (Ev.bind (slices_EqualFunc_Term_term_Same_ev a b hk hb) Ev.pure)
theorem ref01_Same_ev (a b : Level) (hk : a.bulk < lim) : Ev (fun n => ref01_Same n a b) (eqb a b) := by
  have h1 := a.vars_len
  refine Ev.fn (fun n => by simp only [ref01_Same, fu_succ, ref01_Same_e]; exact rfl) ?_
  rw [eqb_Level]
  cases hc : (a.const == b.const) with
  | false =>
    have e : (a.const != b.const) = true := by simp only [bne, hc, Bool.not_false]
    simp only [e, cond_true, Bool.false_and]
    exact Ev.pure
  | true =>
    have e : (a.const != b.const) = false := by simp only [bne, hc, Bool.not_true]
    simp only [e, cond_false, Bool.true_and]
    by_cases hl : a.vars.length = b.vars.length
    · have e : ((a.vars.length : Int) != (b.vars.length : Int)) = false := by rw [intlen, hl]; simp
      simp only [e, cond_false]
      refine Ev.of2 (F := fun n m => ref01_Same_l1 n m 0 a b) ?_
      refine Ev2.same (L := fun n m i => ref01_Same_l1 n m i a b) a.vars b.vars hl ?_ ?_
      · intro i hi hj r hr
        refine Ev2.lp (fun n m => by simp only [ref01_Same_l1_s, ref01_Same_b1]; exact rfl) ?_
        simp only [hi, Int.ofNat_lt, decide_true, cond_true]
        rw [wrap_next (by unfold lim at hk; omega), eqb_LevelVar]
        exact Ev2.idx hi (Ev2.idx hj (Ev2.andThen hr))
      · refine Ev2.lp (fun n m => by simp only [ref01_Same_l1_s, ref01_Same_b1]; exact rfl) ?_
        simp only [Int.lt_irrefl, decide_false, cond_false]
        exact Ev2.pure
    · have e : ((a.vars.length : Int) != (b.vars.length : Int)) = true := by rw [intlen]; simpa using hl
      simp only [e, cond_true]
      rw [eqb_len hl]
      exact Ev.pure
theorem ref01_SameLists_ev (a b : List Level) (hk : a.length < lim) (hb : ∀ l ∈ a, l.bulk < lim) : Ev (fun n => ref01_SameLists n a b) (eqb a b) := by
  refine Ev.fn (fun n => by simp only [ref01_SameLists, fu_succ, ref01_SameLists_e]; exact rfl) ?_
  by_cases hl : a.length = b.length
  · have e : ((a.length : Int) != (b.length : Int)) = false := by rw [intlen, hl]; simp
    simp only [e, cond_false]
    refine Ev.of2 (F := fun n m => ref01_SameLists_l1 n m a b 0) ?_
    refine Ev2.same (L := fun n m i => ref01_SameLists_l1 n m a b i) a b hl ?_ ?_
    · intro i hi hj r hr
      refine Ev2.lp (fun n m => by simp only [ref01_SameLists_l1_s, ref01_SameLists_b1]; exact rfl) ?_
      simp only [hi, Int.ofNat_lt, decide_true, cond_true]
      rw [wrap_next (by unfold lim at hk; omega)]
      exact Ev2.idx hi (Ev2.idx hj (Ev2.bind1 (ref01_Same_ev _ _ (hb _ (List.getElem_mem hi))) (Ev2.andThen hr)))
    · refine Ev2.lp (fun n m => by simp only [ref01_SameLists_l1_s, ref01_SameLists_b1]; exact rfl) ?_
      simp only [Int.lt_irrefl, decide_false, cond_false]
      exact Ev2.pure
  · have e : ((a.length : Int) != (b.length : Int)) = true := by rw [intlen]; simpa using hl
    simp only [e, cond_true]
    rw [eqb_len hl]
    exact Ev.pure
theorem Ev.orElse {F : Nat → Option Bool} {c : Bool} {r : Bool} (h : Ev F r) : Ev (fun n => bif !c then some false else F n) (c && r) := by
  cases c with
  | true => exact h
  | false => exact Ev.pure
theorem ref03_Same_ev : ∀ (a b : Term), a.bulk < lim → Ev (fun n => ref03_Same n a b) (eqb a b) := by
  intro a
  induction h : a.bulk using Nat.strongRecOn generalizing a with
  | ind k ih =>
    intro b hk
    have h1 := a.kids_len
    have h2 := a.levels_len
    refine Ev.fn (fun n => by simp only [ref03_Same, fu_succ, ref03_Same_e]; exact rfl) ?_
    rw [eqb_Term]
    refine Ev.orElse (Ev.orElse (Ev.andThen (Ev.bind (ref01_SameLists_ev _ _ (by omega) ?_) (Ev.andThen ?_))))
    · intro l hl; have := a.level_lt hl; omega
    · by_cases hl : a.kids.length = b.kids.length
      · have e : ((a.kids.length : Int) != (b.kids.length : Int)) = false := by rw [intlen, hl]; simp
        simp only [e, cond_false]
        refine Ev.of2 (F := fun n m => ref03_Same_l1 (ref03_Same n) n m 0 a b) ?_
        refine Ev2.same (L := fun n m i => ref03_Same_l1 (ref03_Same n) n m i a b) a.kids b.kids hl ?_ ?_
        · intro i hi hj r hr
          refine Ev2.lp (fun n m => by simp only [ref03_Same_l1_s, ref03_Same_b1]; exact rfl) ?_
          simp only [hi, Int.ofNat_lt, decide_true, cond_true]
          have := a.kid_lt (List.getElem_mem hi)
          rw [wrap_next (by unfold lim at hk; omega)]
          exact Ev2.idx hi (Ev2.idx hj (Ev2.bind1 (ih _ (by omega) _ rfl _ (by omega)) (Ev2.andThen hr)))
        · refine Ev2.lp (fun n m => by simp only [ref03_Same_l1_s, ref03_Same_b1]; exact rfl) ?_
          simp only [Int.lt_irrefl, decide_false, cond_false]
          exact Ev2.pure
      · have e : ((a.kids.length : Int) != (b.kids.length : Int)) = true := by rw [intlen]; simpa using hl
        simp only [e, cond_true]
        rw [eqb_len hl]
        exact Ev.pure
theorem ref05_SameList_ev (a b : List Term) (hk : a.length < lim) (hb : ∀ x ∈ a, x.bulk < lim) : Ev (fun n => ref05_SameList n a b) (eqb a b) := by
  refine Ev.fn (fun n => by simp only [ref05_SameList, fu_succ, ref05_SameList_e]; exact rfl) ?_
  by_cases hl : a.length = b.length
  · have e : ((a.length : Int) != (b.length : Int)) = false := by rw [intlen, hl]; simp
    simp only [e, cond_false]
    refine Ev.of2 (F := fun n m => ref05_SameList_l1 n m a b 0) ?_
    refine Ev2.same (L := fun n m i => ref05_SameList_l1 n m a b i) a b hl ?_ ?_
    · intro i hi hj r hr
      refine Ev2.lp (fun n m => by simp only [ref05_SameList_l1_s, ref05_SameList_b1]; exact rfl) ?_
      simp only [hi, Int.ofNat_lt, decide_true, cond_true]
      rw [wrap_next (by unfold lim at hk; omega)]
      exact Ev2.idx hi (Ev2.idx hj (Ev2.bind1 (ref03_Same_ev _ _ (hb _ (List.getElem_mem hi))) (Ev2.andThen hr)))
    · refine Ev2.lp (fun n m => by simp only [ref05_SameList_l1_s, ref05_SameList_b1]; exact rfl) ?_
      simp only [Int.lt_irrefl, decide_false, cond_false]
      exact Ev2.pure
  · have e : ((a.length : Int) != (b.length : Int)) = true := by rw [intlen]; simpa using hl
    simp only [e, cond_true]
    rw [eqb_len hl]
    exact Ev.pure
end Go.Abs
namespace Go.Abs
set_option linter.unusedVariables false
set_option linter.unusedSimpArgs false
abbrev cap : Nat := 8388608
theorem kids2_bulk {t x y : Term} (h : t.kids = [x, y]) : x.bulk + y.bulk < t.bulk := by
  rw [Term.bulk_eq t, h]; simp only [sumB]; omega
theorem room80 {k : Nat} (h : k ≤ cap * 2) : decide ((k + 1) * 80 ≤ 17592186044416) = true := by
  simp only [cap] at h; simp only [decide_eq_true_eq]; omega
theorem rev_loop : ∀ (k : Nat) (pre mid suf : List Term), mid.length = k → pre.length + k < lim → Ev2 (fun n m => slices_Reverse_Term_l1 n m pre.length ((pre.length : Int) + mid.length - 1) (pre ++ (mid ++ suf))) ((pre ++ (mid.reverse ++ suf), ()), ()) := by
  intro k
  induction k using Nat.strongRecOn with
  | ind k ih =>
    intro pre mid suf hk hlim
    refine Ev2.lp (fun n m => by simp only [slices_Reverse_Term_l1_s, slices_Reverse_Term_b1]; exact rfl) ?_
    match mid, hk with
    | [], hk =>
      have : decide ((pre.length : Int) < (pre.length : Int) + ([] : List Term).length - 1) = false := by simp; omega
      simp only [this, cond_false]
      exact Ev2.pure
    | [x], hk =>
      have : decide ((pre.length : Int) < (pre.length : Int) + ([x] : List Term).length - 1) = false := by simp
      simp only [this, cond_false]
      exact Ev2.pure
    | x :: y' :: rest, hk =>
      obtain ⟨mid', y, hy⟩ : ∃ mid' y, y' :: rest = mid' ++ [y] := ⟨(y' :: rest).dropLast, (y' :: rest).getLast (by simp), (List.dropLast_concat_getLast (by simp)).symm⟩
      rw [hy] at hk ⊢
      simp only [List.length_cons, List.length_append, List.length_nil] at hk
      have hd : decide ((pre.length : Int) < (pre.length : Int) + (x :: (mid' ++ [y])).length - 1) = true := by simp only [List.length_cons, List.length_append, List.length_nil, decide_eq_true_eq]; omega
      have e1 : ((pre.length : Int) + (x :: (mid' ++ [y])).length - 1) = ((pre.length + mid'.length + 1 : Nat) : Int) := by simp only [List.length_cons, List.length_append, List.length_nil]; omega
      have g1 : (pre ++ (x :: (mid' ++ [y]) ++ suf))[pre.length + mid'.length + 1]? = some y := by
        rw [List.getElem?_append_right (by omega)]
        have : pre.length + mid'.length + 1 - pre.length = mid'.length + 1 := by omega
        rw [this]
        simp
      have g0 : (pre ++ (x :: (mid' ++ [y]) ++ suf))[pre.length]? = some x := by
        rw [List.getElem?_append_right (by omega)]; simp
      have s0 : (pre ++ (x :: (mid' ++ [y]) ++ suf)).set pre.length y = pre ++ (y :: (mid' ++ [y]) ++ suf) := by
        rw [List.set_append_right _ _ (by omega)]; simp
      have g2 : (pre ++ (y :: (mid' ++ [y]) ++ suf))[pre.length + mid'.length + 1]? = some y := by
        rw [List.getElem?_append_right (by omega)]
        have : pre.length + mid'.length + 1 - pre.length = mid'.length + 1 := by omega
        rw [this]
        simp
      have s1 : (pre ++ (y :: (mid' ++ [y]) ++ suf)).set (pre.length + mid'.length + 1) x = (pre ++ [y]) ++ (mid' ++ (x :: suf)) := by
        rw [List.set_append_right _ _ (by omega)]
        have : pre.length + mid'.length + 1 - pre.length = mid'.length + 1 := by omega
        rw [this]
        simp only [List.cons_append, List.set_cons_succ, List.append_assoc]
        rw [List.set_append_right _ _ (by omega)]
        simp
      rw [e1] at hd
      simp only [e1]
      simp only [hd, cond_true]
      have n0 : (0 : Int) ≤ ((pre.length + mid'.length + 1 : Nat) : Int) := by omega
      have n1 : (0 : Int) ≤ (pre.length : Int) := by omega
      simp only [idxA, n0, n1, if_true, Int.toNat_natCast, g1, g0, g2, s0, s1, Option.bind_some]
      have w1 : IntKind.i64.wrap ((pre.length : Int) + 1) = ((pre ++ [y]).length : Int) := by
        unfold lim at hlim
        rw [wrap_next (by omega)]; simp
      have w2 : IntKind.i64.wrap (((pre.length + mid'.length + 1 : Nat) : Int) - 1) = ((pre ++ [y]).length : Int) + mid'.length - 1 := by
        unfold lim at hlim
        rw [wrap_small (by omega) (by omega)]; simp; omega
      rw [w1, w2]
      have := ih mid'.length (by omega) (pre ++ [y]) mid' (x :: suf) rfl (by simp; omega)
      have e : pre ++ ((x :: (mid' ++ [y])).reverse ++ suf) = (pre ++ [y]) ++ (mid'.reverse ++ (x :: suf)) := by simp
      rw [e]
      exact this
theorem slices_Reverse_Term_ev (r : List Term) (h : r.length < lim) : Ev (fun n => slices_Reverse_Term n r) ((r.reverse, ()), ()) := by
  refine Ev.fn (fun n => by simp only [slices_Reverse_Term, fu_succ, slices_Reverse_Term_e]; exact rfl) ?_
  have := rev_loop r.length [] r [] rfl (by simpa using h)
  simp only [List.nil_append, List.append_nil, List.length_nil] at this
  have w : IntKind.i64.wrap ((r.length : Int) - 1) = (0 : Nat) + (r.length : Int) - 1 := by unfold lim at h; rw [wrap_small (by omega) (by omega)]; omega
  rw [w]
  exact Ev.of2 this
end Go.Abs
namespace Go.Abs
set_option linter.unusedVariables false
set_option linter.unusedSimpArgs false
def varsT (k : Nat) (f : Int) : List Term := (List.range k).map fun (i : Nat) => Term.mk 0 (f + k - 1 - i) [] [] []
theorem varsT_len (k : Nat) (f : Int) : (varsT k f).length = k := by simp [varsT]
theorem varsT_get (k : Nat) (f : Int) (i : Nat) (h : i < k) : (varsT k f)[i]? = some (Term.mk 0 (f + k - 1 - i) [] [] []) := by simp [varsT, h]
theorem varsT_take (k : Nat) (f : Int) (i : Nat) (h : i < k) : (varsT k f).take (i + 1) = (varsT k f).take i ++ [Term.mk 0 (f + k - 1 - i) [] [] []] := by
  rw [List.take_add_one, varsT_get k f i h]; rfl
def someVars (k : Nat) (f : Int) : List Term := if k < 1 ∨ 4096 < k ∨ f < 0 then [] else varsT k f
theorem Vars_ev (k : Nat) (f : Int) (hf : f ≤ 4611686018427387904) : Ev (fun n => telescope_Vars n k f) (someVars k f) ∧ Ev (fun n => ref05_Vars n k f) (someVars k f) := by
  by_cases h1 : k < 1
  · have d : decide ((k : Int) < 1) = true := by simp; omega
    have e : someVars k f = [] := by simp [someVars, h1]
    rw [e]
    constructor
    · refine Ev.fn (fun n => by simp only [telescope_Vars, fu_succ, telescope_Vars_e]; exact rfl) ?_
      simp only [d, cond_true]; exact Ev.pure
    · refine Ev.fn (fun n => by simp only [ref05_Vars, fu_succ, ref05_Vars_e]; exact rfl) ?_
      simp only [d, cond_true]; exact Ev.pure
  have d1 : decide ((k : Int) < 1) = false := by simp; omega
  by_cases h2 : 4096 < k
  · have d : decide ((4096 : Int) < k) = true := by simp; omega
    have e : someVars k f = [] := by simp [someVars, h2]
    rw [e]
    constructor
    · refine Ev.fn (fun n => by simp only [telescope_Vars, fu_succ, telescope_Vars_e]; exact rfl) ?_
      simp only [d1, d, cond_true, cond_false]; exact Ev.pure
    · refine Ev.fn (fun n => by simp only [ref05_Vars, fu_succ, ref05_Vars_e]; exact rfl) ?_
      simp only [d1, d, cond_true, cond_false]; exact Ev.pure
  have d2 : decide ((4096 : Int) < k) = false := by simp; omega
  by_cases h3 : f < 0
  · have d : decide (f < 0) = true := by simpa using h3
    have e : someVars k f = [] := by simp [someVars, h3]
    rw [e]
    constructor
    · refine Ev.fn (fun n => by simp only [telescope_Vars, fu_succ, telescope_Vars_e]; exact rfl) ?_
      simp only [d1, d2, d, cond_true, cond_false]; exact Ev.pure
    · refine Ev.fn (fun n => by simp only [ref05_Vars, fu_succ, ref05_Vars_e]; exact rfl) ?_
      simp only [d1, d2, d, cond_true, cond_false]; exact Ev.pure
  have d3 : decide (f < 0) = false := by simpa using h3
  have e : someVars k f = varsT k f := by simp only [someVars]; rw [if_neg (by omega)]
  rw [e]
  constructor
  · refine Ev.fn (fun n => by simp only [telescope_Vars, fu_succ, telescope_Vars_e]; exact rfl) ?_
    have d4 : decide ((0 : Int) ≤ k) = true := by simp
    have d5 : decide (k * 80 ≤ 17592186044416) = true := by simp; omega
    have d6 : decide ((k : Int) < 2 ^ 62) = true := by simp; omega
    have d7 : (k == 0) = false := by simp; omega
    simp only [d1, d2, d3, d4, d5, d6, d7, cond_true, cond_false, Int.toNat_natCast]
    refine Tot.ev ?_
    refine Tot.of2 (F := fun n m => telescope_Vars_l1 n m k f k 0 (List.replicate k (Term.mk 0 0 [] [] []))) ?_
    refine Tot2.up (S := List Term) (L := fun n m i s => telescope_Vars_l1 n m k f k i s) k (fun i s => s = (varsT k f).take i ++ List.replicate (k - i) (Term.mk 0 0 [] [] [])) (· = varsT k f) ?_ ?_ 0 _ (by omega) (by simp)
    · intro i s hi hs next
      refine Tot2.lp (fun n m => by simp only [telescope_Vars_l1_s, telescope_Vars_b1]; exact rfl) ?_
      have hlt : ((varsT k f).take i).length = i := by rw [List.length_take, varsT_len]; omega
      have hlen : s.length = k := by rw [hs, List.length_append, hlt, List.length_replicate]; omega
      have hi' : i < s.length := by omega
      simp only [hi, Int.ofNat_lt, decide_true, cond_true, idxA_at hi', Option.bind_some, Int.toNat_natCast, List.getElem?_eq_getElem hi', hi']
      rw [wrap_next (by omega), wrap_small (n := f + (k : Int)) (by omega) (by omega), wrap_small (n := f + (k : Int) - 1) (by omega) (by omega), wrap_small (n := f + (k : Int) - 1 - i) (by omega) (by omega)]
      refine next _ ?_
      rw [hs, List.set_append_right _ _ (by omega), hlt, Nat.sub_self, varsT_take k f i hi]
      have : k - i = (k - (i + 1)) + 1 := by omega
      rw [this, List.replicate_succ, List.set_cons_zero]
      simp
    · intro s hs
      refine Tot2.lp (fun n m => by simp only [telescope_Vars_l1_s, telescope_Vars_b1]; exact rfl) ?_
      simp only [Int.lt_irrefl, decide_false, cond_false]
      refine Tot2.pure ?_
      rw [hs]
      have : (varsT k f).take k = varsT k f := by rw [List.take_of_length_le]; rw [varsT_len]; omega
      rw [this]; simp
  · refine Ev.fn (fun n => by simp only [ref05_Vars, fu_succ, ref05_Vars_e]; exact rfl) ?_
    simp only [d1, d2, d3, cond_false]
    rw [wrap_small (by omega) (by omega)]
    have key : ∀ j : Nat, j ≤ k → Ev2 (fun n m => ref05_Vars_l1 n m f ((j : Int) - 1) ((varsT k f).take (k - j))) (varsT k f) := by
      intro j
      induction j with
      | zero =>
        intro _
        refine Ev2.lp (fun n m => by simp only [ref05_Vars_l1_s, ref05_Vars_b1]; exact rfl) ?_
        have : decide ((0 : Int) ≤ ((0 : Nat) : Int) - 1) = false := by simp
        simp only [this, cond_false]
        have e : (varsT k f).take (k - 0) = varsT k f := by rw [List.take_of_length_le]; rw [varsT_len]; omega
        rw [e]
        exact Ev2.pure
      | succ j ih =>
        intro hj
        refine Ev2.lp (fun n m => by simp only [ref05_Vars_l1_s, ref05_Vars_b1]; exact rfl) ?_
        have d : decide ((0 : Int) ≤ ((j + 1 : Nat) : Int) - 1) = true := by simp
        have hlt : ((varsT k f).take (k - (j + 1))).length = k - (j + 1) := by rw [List.length_take, varsT_len]; omega
        have hroom := room80 (k := ((varsT k f).take (k - (j + 1))).length) (by rw [hlt]; simp only [cap]; omega)
        simp only [d, cond_true, hroom]
        rw [wrap_small (n := f + (((j + 1 : Nat) : Int) - 1)) (by omega) (by omega), wrap_small (n := ((j + 1 : Nat) : Int) - 1 - 1) (by omega) (by omega)]
        have := ih (by omega)
        have e1 : k - j = (k - (j + 1)) + 1 := by omega
        rw [e1, varsT_take k f _ (by omega)] at this
        have e2 : f + (k : Int) - 1 - ((k - (j + 1) : Nat) : Int) = f + (((j + 1 : Nat) : Int) - 1) := by omega
        have e3 : ((j : Nat) : Int) - 1 = ((j + 1 : Nat) : Int) - 1 - 1 := by omega
        rw [e2, e3] at this
        exact this
    have := key k (Nat.le_refl _)
    rw [Nat.sub_self, List.take_zero] at this
    exact Ev.of2 this
def ownLevels (p : Nat) : List Level := (List.range p).map fun (i : Nat) => { const := 0, vars := [{ index := i, plus := 0 }] }
theorem ownLevels_succ (p : Nat) : ownLevels (p + 1) = ownLevels p ++ [{ const := 0, vars := [{ index := p, plus := 0 }] }] := by
  simp [ownLevels, List.range_succ]
theorem ownLevels_len (p : Nat) : (ownLevels p).length = p := by simp [ownLevels]
theorem family_itself_ev (s : Str) (p : Nat) (h : p ≤ 8) : Ev (fun n => family_itself n s p) (Term.mk 3 0 s (ownLevels p) []) := by
  refine Ev.fn (fun n => by simp only [family_itself, fu_succ, family_itself_e]; exact rfl) ?_
  refine Tot.ev ?_
  refine Tot.of2 (F := fun n m => family_itself_l1 n m p 0 3 s []) ?_
  refine Tot2.up (S := List Level) (L := fun n m i r => family_itself_l1 n m p i 3 s r) p (fun i r => r = ownLevels i) (· = Term.mk 3 0 s (ownLevels p) []) ?_ ?_ 0 _ (by omega) rfl
  · intro i r hi hr next
    refine Tot2.lp (fun n m => by simp only [family_itself_l1_s, family_itself_b1]; exact rfl) ?_
    have hroom : decide ((r.length + 1) * 32 ≤ 17592186044416) = true := by rw [hr, ownLevels_len]; simp; omega
    simp only [hi, Int.ofNat_lt, decide_true, cond_true, hroom]
    rw [wrap_next (by omega)]
    refine next _ ?_
    rw [hr, ownLevels_succ]
  · intro r hr
    refine Tot2.lp (fun n m => by simp only [family_itself_l1_s, family_itself_b1]; exact rfl) ?_
    simp only [Int.lt_irrefl, decide_false, cond_false]
    rw [hr]
    exact Tot2.pure rfl
theorem ref01_Var_ev (i : Nat) (h : i < 8) : Ev (fun n => ref01_Var n i 0) ({ const := 0, vars := [{ index := i, plus := 0 }] }, 0) := by
  refine Ev.fn (fun n => by simp only [ref01_Var, fu_succ, ref01_Var_e]; exact rfl) ?_
  have a : decide ((i : Int) < -65536) = false := decide_eq_false (by omega)
  have b : decide ((8 : Int) ≤ i) = false := by simp; omega
  have c : decide ((0 : Int) < 0) = false := rfl
  have d : decide ((100 : Int) < 0) = false := rfl
  simp only [a, b, c, d, cond_false]
  exact Ev.pure
theorem ref07_Params_ev (p : Nat) (h : p ≤ 8) : Ev (fun n => ref07_Params n p) (ownLevels p) := by
  refine Ev.fn (fun n => by simp only [ref07_Params, fu_succ, ref07_Params_e]; exact rfl) ?_
  refine Tot.ev ?_
  refine Tot.of2 (F := fun n m => ref07_Params_l1 n m p 0 []) ?_
  refine Tot2.up (S := List Level) (L := fun n m i r => ref07_Params_l1 n m p i r) p (fun i r => r = ownLevels i) (· = ownLevels p) ?_ ?_ 0 _ (by omega) rfl
  · intro i r hi hr next
    refine Tot2.lp (fun n m => by simp only [ref07_Params_l1_s, ref07_Params_b1]; exact rfl) ?_
    have hroom : decide ((r.length + 1) * 32 ≤ 17592186044416) = true := by rw [hr, ownLevels_len]; simp; omega
    simp only [hi, Int.ofNat_lt, decide_true, cond_true, hroom]
    rw [wrap_next (by omega)]
    refine Tot2.bind1 (Ev.tot (Q := fun x => x = ({ const := 0, vars := [{ index := i, plus := 0 }] }, 0)) (ref01_Var_ev i (by omega)) rfl) fun x hx => ?_
    subst hx
    refine next _ ?_
    rw [hr, ownLevels_succ]
  · intro r hr
    refine Tot2.lp (fun n m => by simp only [ref07_Params_l1_s, ref07_Params_b1]; exact rfl) ?_
    simp only [Int.lt_irrefl, decide_false, cond_false]
    exact Tot2.pure hr
theorem ref12_Own_ev (s : Str) (p : Nat) (h : p ≤ 8) : Ev (fun n => ref12_Own n s p) (Term.mk 3 0 s (ownLevels p) []) := by
  refine Ev.fn (fun n => by simp only [ref12_Own, fu_succ, ref12_Own_e]; exact rfl) ?_
  exact Ev.bind (ref07_Params_ev p h) Ev.pure
end Go.Abs
namespace Go.Abs
set_option maxRecDepth 100000
end Go.Abs
namespace Go.Abs
set_option linter.unusedVariables false
set_option linter.unusedSimpArgs false
noncomputable def allT (t : Term) : List Term × Term :=
  if h : t.kind = 6 ∧ t.kids.length = 2 then
    (t.kids[0]'(by omega) :: (allT (t.kids[1]'(by omega))).1, (allT (t.kids[1]'(by omega))).2)
  else ([], t)
termination_by t.bulk
decreasing_by all_goals exact Term.kid_lt (List.getElem_mem _)
theorem allT_pi {t x y : Term} (h : t.kind = 6) (hk : t.kids = [x, y]) : allT t = (x :: (allT y).1, (allT y).2) := by
  rw [allT, dif_pos ⟨h, by rw [hk]; rfl⟩]
  simp only [hk, List.getElem_cons_zero, List.getElem_cons_succ]
theorem allT_not {t : Term} (h : ¬ (t.kind = 6 ∧ t.kids.length = 2)) : allT t = ([], t) := by
  rw [allT, dif_neg h]
noncomputable def spineT (t : Term) : Term × List Term :=
  if h : t.kind = 4 ∧ t.kids.length = 2 then
    ((spineT (t.kids[0]'(by omega))).1, (spineT (t.kids[0]'(by omega))).2 ++ [t.kids[1]'(by omega)])
  else (t, [])
termination_by t.bulk
decreasing_by all_goals exact Term.kid_lt (List.getElem_mem _)
theorem spineT_app {t x y : Term} (h : t.kind = 4) (hk : t.kids = [x, y]) : spineT t = ((spineT x).1, (spineT x).2 ++ [y]) := by
  rw [spineT, dif_pos ⟨h, by rw [hk]; rfl⟩]
  simp only [hk, List.getElem_cons_zero, List.getElem_cons_succ]
theorem spineT_not {t : Term} (h : ¬ (t.kind = 4 ∧ t.kids.length = 2)) : spineT t = (t, []) := by
  rw [spineT, dif_neg h]
theorem len2 {t : Term} (h : t.kids.length = 2) : ∃ x y, t.kids = [x, y] := by
  match hk : t.kids, h with
  | [x, y], _ => exact ⟨x, y, rfl⟩
theorem beq2 (t : Term) (k : Int) (h : ¬ (t.kind = k ∧ t.kids.length = 2)) : (t.kind == k) = false ∨ ((t.kind == k) = true ∧ ((t.kids.length : Int) == 2) = false) := by
  by_cases h1 : t.kind = k
  · refine .inr ⟨by simp [h1], ?_⟩
    rw [beq_eq_false_iff_ne]; intro e; exact h ⟨h1, by omega⟩
  · exact .inl (by simpa using h1)
theorem allT_loop : ∀ (t : Term) (acc : List Term), acc.length + t.bulk ≤ cap * 2 → Ev2 (fun n m => telescope_All_l1 n m t acc) (acc ++ (allT t).1, (allT t).2) ∧ Ev2 (fun n m => ref05_All_l1 n m t acc) (acc ++ (allT t).1, (allT t).2) := by
  intro t
  induction h : t.bulk using Nat.strongRecOn generalizing t with
  | ind k ih =>
    intro acc ha
    by_cases hc : t.kind = 6 ∧ t.kids.length = 2
    · obtain ⟨x, y, hxy⟩ := len2 hc.2
      have hb := kids2_bulk hxy
      have h2 := ih y.bulk (by omega) y rfl (acc ++ [x]) (by have := x.bulk_pos; simp only [List.length_append, List.length_singleton]; omega)
      rw [List.append_assoc, List.singleton_append] at h2
      have i0 : idxA t.kids 0 = some x := by rw [hxy]; rfl
      have i1 : idxA t.kids 1 = some y := by rw [hxy]; rfl
      have hroom := room80 (k := acc.length) (by omega)
      have e1 : (t.kind == 6) = true := by simp [hc.1]
      have e2 : ((t.kids.length : Int) == 2) = true := by simp [hc.2]
      rw [allT_pi hc.1 hxy]
      refine ⟨?_, ?_⟩
      · refine Ev2.lp (fun n m => by simp only [telescope_All_l1_s, telescope_All_b1]; exact rfl) ?_
        simp only [e1, e2, cond_true, i0, i1, Option.bind_some, hroom]
        exact h2.1
      · refine Ev2.lp (fun n m => by simp only [ref05_All_l1_s, ref05_All_b1]; exact rfl) ?_
        simp only [e1, e2, cond_true, i0, i1, Option.bind_some, hroom]
        exact h2.2
    · rw [allT_not hc, List.append_nil]
      refine ⟨?_, ?_⟩
      · refine Ev2.lp (fun n m => by simp only [telescope_All_l1_s, telescope_All_b1]; exact rfl) ?_
        rcases beq2 t 6 hc with e | ⟨e, e'⟩
        · simp only [e, cond_false]; exact Ev2.pure
        · simp only [e, e', cond_true, cond_false]; exact Ev2.pure
      · refine Ev2.lp (fun n m => by simp only [ref05_All_l1_s, ref05_All_b1]; exact rfl) ?_
        rcases beq2 t 6 hc with e | ⟨e, e'⟩
        · simp only [e, cond_false]; exact Ev2.pure
        · simp only [e, e', cond_true, cond_false]; exact Ev2.pure
theorem All_sem (t : Term) (ht : t.bulk ≤ cap) : Ev (fun n => telescope_All n t) (allT t) ∧ Ev (fun n => ref05_All n t) (allT t) := by
  have := allT_loop t [] (by simp only [List.length_nil]; omega)
  simp only [List.nil_append] at this
  constructor
  · refine Ev.fn (fun n => by simp only [telescope_All, fu_succ, telescope_All_e]; exact rfl) ?_
    exact Ev.of2 this.1
  · refine Ev.fn (fun n => by simp only [ref05_All, fu_succ, ref05_All_e]; exact rfl) ?_
    exact Ev.of2 this.2
theorem allT_bulk : ∀ t : Term, sumB Term.bulk (allT t).1 + (allT t).2.bulk ≤ t.bulk + 1 := by
  intro t
  induction h : t.bulk using Nat.strongRecOn generalizing t with
  | ind k ih =>
    by_cases hc : t.kind = 6 ∧ t.kids.length = 2
    · obtain ⟨x, y, hxy⟩ := len2 hc.2
      have hb := kids2_bulk hxy
      have := ih y.bulk (by omega) y rfl
      rw [allT_pi hc.1 hxy]
      simp only [sumB]; omega
    · rw [allT_not hc]; simp only [sumB]; omega
theorem spineT_bulk : ∀ t : Term, sumB Term.bulk (spineT t).2 + (spineT t).1.bulk ≤ t.bulk + 1 := by
  intro t
  induction h : t.bulk using Nat.strongRecOn generalizing t with
  | ind k ih =>
    by_cases hc : t.kind = 4 ∧ t.kids.length = 2
    · obtain ⟨x, y, hxy⟩ := len2 hc.2
      have hb := kids2_bulk hxy
      have := ih x.bulk (by omega) x rfl
      rw [spineT_app hc.1 hxy]
      have e : ∀ xs : List Term, sumB Term.bulk (xs ++ [y]) = sumB Term.bulk xs + y.bulk := by
        intro xs
        induction xs with
        | nil => simp only [List.nil_append, sumB]; omega
        | cons z zs ih => simp only [List.cons_append, sumB, ih]; omega
      simp only [e]; omega
    · rw [spineT_not hc]; simp only [sumB]; omega
theorem Spine_sem (t : Term) (ht : t.bulk ≤ cap) : Ev (fun n => telescope_Spine n t) (spineT t) ∧ Ev (fun n => ref05_Spine_h n t) (((spineT t).2, ()), (spineT t).1, ()) := by
  have key : ∀ (t : Term), t.bulk ≤ cap → (∀ acc : List Term, acc.length + t.bulk ≤ cap * 2 → Ev2 (fun n m => telescope_Spine_l1 n m t acc) ((spineT t).1, (spineT t).2 ++ acc.reverse)) ∧ Ev (fun n => ref05_Spine_h n t) (((spineT t).2, ()), (spineT t).1, ()) := by
    intro t
    induction h : t.bulk using Nat.strongRecOn generalizing t with
    | ind k ih =>
      intro hcap
      by_cases hc : t.kind = 4 ∧ t.kids.length = 2
      · obtain ⟨x, y, hxy⟩ := len2 hc.2
        have hb := kids2_bulk hxy
        obtain ⟨hr, hs⟩ := ih x.bulk (by omega) x rfl (by omega)
        have i0 : idxA t.kids 0 = some x := by rw [hxy]; rfl
        have i1 : idxA t.kids 1 = some y := by rw [hxy]; rfl
        have e1 : (t.kind == 4) = true := by simp [hc.1]
        have e2 : ((t.kids.length : Int) == 2) = true := by simp [hc.2]
        have hsb := spineT_bulk x
        rw [spineT_app hc.1 hxy]
        refine ⟨fun acc ha => ?_, ?_⟩
        · have h2 := hr (acc ++ [y]) (by have := y.bulk_pos; simp only [List.length_append, List.length_singleton]; omega)
          have hroom := room80 (k := acc.length) (by omega)
          refine Ev2.lp (fun n m => by simp only [telescope_Spine_l1_s, telescope_Spine_b1]; exact rfl) ?_
          simp only [e1, e2, cond_true, i0, i1, Option.bind_some, hroom]
          simpa only [List.reverse_append, List.reverse_cons, List.reverse_nil, List.nil_append, List.append_assoc] using h2
        · refine Ev.fn (fun n => by simp only [ref05_Spine_h, fu_succ, ref05_Spine_h_e]; exact rfl) ?_
          simp only [bne, e1, e2, Bool.not_true, cond_false, i0, i1, Option.bind_some]
          have hlen := sumB_len Term.bulk_pos (spineT x).2
          have hroom := room80 (k := (spineT x).2.length) (by omega)
          refine Ev.bind hs ?_
          simp only [hroom, cond_true]
          exact Ev.pure
      · rw [spineT_not hc]
        refine ⟨fun acc ha => ?_, ?_⟩
        · refine Ev2.lp (fun n m => by simp only [telescope_Spine_l1_s, telescope_Spine_b1]; exact rfl) ?_
          have hrev := slices_Reverse_Term_ev acc (by unfold lim; simp only [cap] at ha; omega)
          rcases beq2 t 4 hc with e | ⟨e, e'⟩
          · simp only [e, cond_false]
            exact Ev2.bind1 hrev (by simp only [List.length_reverse, if_true, beq_self_eq_true, Bool.true_or, cond_true, Term.mapO_cells, Option.bind_some, List.nil_append]; exact Ev2.pure)
          · simp only [e, e', cond_true, cond_false]
            exact Ev2.bind1 hrev (by simp only [List.length_reverse, if_true, beq_self_eq_true, Bool.true_or, cond_true, Term.mapO_cells, Option.bind_some, List.nil_append]; exact Ev2.pure)
        · refine Ev.fn (fun n => by simp only [ref05_Spine_h, fu_succ, ref05_Spine_h_e]; exact rfl) ?_
          rcases beq2 t 4 hc with e | ⟨e, e'⟩
          · simp only [bne, e, Bool.not_false, cond_true]; exact Ev.pure
          · simp only [bne, e, e', Bool.not_true, Bool.not_false, cond_true, cond_false]; exact Ev.pure
  obtain ⟨h1, h2⟩ := key t ht
  refine ⟨?_, h2⟩
  refine Ev.fn (fun n => by simp only [telescope_Spine, fu_succ, telescope_Spine_e]; exact rfl) ?_
  have := h1 [] (by simp only [List.length_nil]; omega)
  rw [List.reverse_nil, List.append_nil] at this
  exact Ev.of2 this
def TL (xs : List Term) : Prop := xs.length ≤ cap ∧ ∀ x ∈ xs, x.bulk ≤ cap
theorem TL.take {xs : List Term} (h : TL xs) (n : Nat) : TL (xs.take n) := ⟨by have := h.1; rw [List.length_take]; omega, fun x hx => h.2 x (List.mem_of_mem_take hx)⟩
theorem TL.drop {xs : List Term} (h : TL xs) (n : Nat) : TL (xs.drop n) := ⟨by have := h.1; rw [List.length_drop]; omega, fun x hx => h.2 x (List.mem_of_mem_drop hx)⟩
theorem TL.nil : TL [] := ⟨by simp [cap], fun x hx => by cases hx⟩
theorem TL.lim {xs : List Term} (h : TL xs) : xs.length < lim ∧ ∀ x ∈ xs, x.bulk < lim := by
  refine ⟨?_, fun x hx => ?_⟩
  · have := h.1; simp only [cap] at this; unfold Go.Abs.lim; omega
  · have := h.2 x hx; simp only [cap] at this; unfold Go.Abs.lim; omega
theorem lim_of_cap {n : Nat} (h : n ≤ cap) : n < lim := by simp only [cap] at h; unfold lim; omega
theorem allT_tl (t : Term) (ht : t.bulk ≤ cap) : TL (allT t).1 ∧ (allT t).2.bulk ≤ cap := by
  have hb := allT_bulk t
  have hp := (allT t).2.bulk_pos
  have hs := sumB_pos (bk := Term.bulk) (allT t).1
  have hl := sumB_len Term.bulk_pos (allT t).1
  refine ⟨⟨by omega, fun x hx => ?_⟩, by omega⟩
  have := sumB_mem (f := Term.bulk) hx
  omega
theorem spineT_tl (t : Term) (ht : t.bulk ≤ cap) : TL (spineT t).2 ∧ (spineT t).1.bulk ≤ cap := by
  have hb := spineT_bulk t
  have hp := (spineT t).1.bulk_pos
  have hs := sumB_pos (bk := Term.bulk) (spineT t).2
  have hl := sumB_len Term.bulk_pos (spineT t).2
  refine ⟨⟨by omega, fun x hx => ?_⟩, by omega⟩
  have := sumB_mem (f := Term.bulk) hx
  omega
inductive Fine : Term → Prop
  | mk (t : Term) (h : t.kind = 6 ∨ t.kind = 4 → t.kids.length = 2 ∧ t.index = 0 ∧ t.name = [] ∧ t.levels = []) (hk : ∀ k, k ∈ t.kids → Fine k) : Fine t
theorem Fine.kid {t : Term} (h : Fine t) : ∀ k, k ∈ t.kids → Fine k := by cases h with | mk _ _ h => exact h
theorem allT_fine : ∀ t : Term, Fine t → (∀ x ∈ (allT t).1, Fine x) ∧ Fine (allT t).2 := by
  intro t
  induction h : t.bulk using Nat.strongRecOn generalizing t with
  | ind k ih =>
    intro hg
    by_cases hc : t.kind = 6 ∧ t.kids.length = 2
    · obtain ⟨x, y, hxy⟩ := len2 hc.2
      have hb := kids2_bulk hxy
      have h2 := ih y.bulk (by omega) y rfl (hg.kid y (by rw [hxy]; simp))
      rw [allT_pi hc.1 hxy]
      refine ⟨fun z hz => ?_, h2.2⟩
      rcases List.mem_cons.1 hz with rfl | hz
      · exact hg.kid z (by rw [hxy]; simp)
      · exact h2.1 z hz
    · rw [allT_not hc]
      exact ⟨fun x hx => (by cases hx), hg⟩
theorem spineT_fine : ∀ t : Term, Fine t → (∀ x ∈ (spineT t).2, Fine x) ∧ Fine (spineT t).1 := by
  intro t
  induction h : t.bulk using Nat.strongRecOn generalizing t with
  | ind k ih =>
    intro hg
    by_cases hc : t.kind = 4 ∧ t.kids.length = 2
    · obtain ⟨x, y, hxy⟩ := len2 hc.2
      have hb := kids2_bulk hxy
      have h2 := ih x.bulk (by omega) x rfl (hg.kid x (by rw [hxy]; simp))
      rw [spineT_app hc.1 hxy]
      refine ⟨fun z hz => ?_, h2.2⟩
      rcases List.mem_append.1 hz with hz | hz
      · exact h2.1 z hz
      · rw [List.mem_singleton] at hz; subst hz; exact hg.kid z (by rw [hxy]; simp)
    · rw [spineT_not hc]
      exact ⟨fun x hx => (by cases hx), hg⟩
end Go.Abs
namespace Go.Abs
set_option linter.unusedVariables false
set_option linter.unusedSimpArgs false
noncomputable def resultT (own : Term) (params : List Term) (k : Nat) (t : Term) (last : Int) : List Term × Bool :=
  bif (spineT t).2.length == params.length + k && (eqb (spineT t).1 own && eqb ((spineT t).2.take params.length) (someVars params.length last)) then ((spineT t).2.drop params.length, true) else ([], false)
theorem resultT_tl {own : Term} {params : List Term} {k : Nat} {t : Term} {last : Int} (ht : t.bulk ≤ cap) : TL (resultT own params k t last).1 := by
  unfold resultT
  cases ((spineT t).2.length == params.length + k && (eqb (spineT t).1 own && eqb ((spineT t).2.take params.length) (someVars params.length last))) with
  | true => exact (spineT_tl t ht).1.drop _
  | false => exact TL.nil
theorem result_sem (own : Term) (params : List Term) (k : Nat) (t : Term) (last : Int) (ht : t.bulk ≤ cap) (hp : params.length ≤ cap) (hk : k ≤ cap) (hl : last ≤ 4611686018427387904) :
    Ev (fun n => family_shape_result n ⟨own, params, k⟩ t last) (resultT own params k t last) ∧ Ev (fun n => ref12_result n own t params.length last k) (resultT own params k t last) := by
  obtain ⟨h1, h2⟩ := Spine_sem t ht
  obtain ⟨hc, hh⟩ := spineT_tl t ht
  generalize hs : spineT t = s at h1 h2 hc hh
  obtain ⟨h, c⟩ := s
  simp only at h1 h2 hc hh
  have hs1 := term_Same_ev h own (lim_of_cap hh)
  have hs2 := ref03_Same_ev h own (lim_of_cap hh)
  obtain ⟨hv1, hv2⟩ := Vars_ev params.length last hl
  have ha1 := family_alike_Term_term_Same_ev (c.take params.length) (someVars params.length last) (hc.take _).lim.1 (hc.take _).lim.2
  have ha2 := ref05_SameList_ev (c.take params.length) (someVars params.length last) (hc.take _).lim.1 (hc.take _).lim.2
  have hw : IntKind.i64.wrap ((params.length : Int) + k) = ((params.length + k : Nat) : Int) := by
    simp only [cap] at hp hk
    rw [wrap_small (by omega) (by omega)]; omega
  simp only [resultT, hs]
  by_cases hlen : c.length = params.length + k
  · have e0 : (c.length == params.length + k) = true := by simp [hlen]
    have e1 : ((c.length : Int) != ((params.length + k : Nat) : Int)) = false := by rw [hlen]; simp
    have d1 : decide ((params.length : Int) ≤ c.length ∧ (c.length : Int) ≤ c.length) = true := decide_eq_true ⟨by omega, by omega⟩
    have d2 : decide ((0 : Int) ≤ params.length ∧ (params.length : Int) ≤ c.length ∧ (c.length : Int) ≤ c.length) = true := decide_eq_true ⟨by omega, by omega, by omega⟩
    cases hso : eqb h own with
    | false =>
      rw [hso] at hs1 hs2
      simp only [e0, Bool.true_and, Bool.false_and, cond_false]
      refine ⟨?_, ?_⟩
      · refine Ev.fn (fun n => by simp only [family_shape_result, fu_succ, family_shape_result_e]; exact rfl) ?_
        refine Ev.bind h1 ?_
        simp only [hw, e1, cond_false]
        exact Ev.bind hs1 Ev.pure
      · refine Ev.fn (fun n => by simp only [ref12_result, fu_succ, ref12_result_e]; exact rfl) ?_
        refine Ev.bind h2 (Ev.bind hs2 Ev.pure)
    | true =>
      rw [hso] at hs1 hs2
      cases hal : eqb (c.take params.length) (someVars params.length last) with
      | false =>
        rw [hal] at ha1 ha2
        simp only [e0, Bool.true_and, cond_false]
        refine ⟨?_, ?_⟩
        · refine Ev.fn (fun n => by simp only [family_shape_result, fu_succ, family_shape_result_e]; exact rfl) ?_
          refine Ev.bind h1 ?_
          simp only [hw, e1, cond_false]
          refine Ev.bind hs1 ?_
          simp only [cond_true, d1]
          exact Ev.bind hv1 (Ev.bind ha1 Ev.pure)
        · refine Ev.fn (fun n => by simp only [ref12_result, fu_succ, ref12_result_e]; exact rfl) ?_
          refine Ev.bind h2 (Ev.bind hs2 ?_)
          simp only [hw, e1, cond_true, cond_false, d2, Int.toNat_natCast]
          exact Ev.bind hv2 (Ev.bind ha2 Ev.pure)
      | true =>
        rw [hal] at ha1 ha2
        simp only [e0, Bool.true_and, cond_true]
        refine ⟨?_, ?_⟩
        · refine Ev.fn (fun n => by simp only [family_shape_result, fu_succ, family_shape_result_e]; exact rfl) ?_
          refine Ev.bind h1 ?_
          simp only [hw, e1, cond_false]
          refine Ev.bind hs1 ?_
          simp only [cond_true, d1, List.take_length]
          exact Ev.bind hv1 (Ev.bind ha1 Ev.pure)
        · refine Ev.fn (fun n => by simp only [ref12_result, fu_succ, ref12_result_e]; exact rfl) ?_
          refine Ev.bind h2 (Ev.bind hs2 ?_)
          simp only [hw, e1, cond_true, cond_false, d2, Int.toNat_natCast, List.take_length]
          exact Ev.bind hv2 (Ev.bind ha2 Ev.pure)
  · have e0 : (c.length == params.length + k) = false := by simpa using hlen
    have e1 : ((c.length : Int) != ((params.length + k : Nat) : Int)) = true := by rw [bne_iff_ne]; omega
    simp only [e0, Bool.false_and, cond_false]
    refine ⟨?_, ?_⟩
    · refine Ev.fn (fun n => by simp only [family_shape_result, fu_succ, family_shape_result_e]; exact rfl) ?_
      refine Ev.bind h1 ?_
      simp only [hw, e1, cond_true]
      exact Ev.pure
    · refine Ev.fn (fun n => by simp only [ref12_result, fu_succ, ref12_result_e]; exact rfl) ?_
      refine Ev.bind h2 (Ev.bind hs2 ?_)
      simp only [hw, e1, cond_true]
      cases eqb h own <;> exact Ev.pure
def RecOK (r : Zs5) : Prop := TL r.args ∧ TL r.results
theorem room56 {k : Nat} (h : k ≤ cap) : decide ((k + 1) * 56 ≤ 17592186044416) = true := by
  simp only [cap] at h; simp only [decide_eq_true_eq]; omega
theorem room88 {k : Nat} (h : k ≤ cap) : decide ((k + 1) * 88 ≤ 17592186044416) = true := by
  simp only [cap] at h; simp only [decide_eq_true_eq]; omega
noncomputable def recsT (own : Term) (params : List Term) (k : Nat) : Nat → List Term → List Zs5
  | _, [] => []
  | i, t :: ts =>
    bif (resultT own params k (allT t).2 ((i + (allT t).1.length : Nat) : Int)).2 then
      { field := i, args := (allT t).1, results := (resultT own params k (allT t).2 ((i + (allT t).1.length : Nat) : Int)).1 } :: recsT own params k (i + 1) ts
    else recsT own params k (i + 1) ts
theorem recsT_len (own : Term) (params : List Term) (k : Nat) : ∀ (i : Nat) (ts : List Term), (recsT own params k i ts).length ≤ ts.length
  | _, [] => by simp [recsT]
  | i, t :: ts => by
    have := recsT_len own params k (i + 1) ts
    simp only [recsT]
    cases (resultT own params k (allT t).2 ((i + (allT t).1.length : Nat) : Int)).2 <;> simp only [cond_true, cond_false, List.length_cons] <;> omega
theorem recsT_ok (own : Term) (params : List Term) (k : Nat) : ∀ (i : Nat) (ts : List Term), (∀ t ∈ ts, t.bulk ≤ cap) → ∀ r ∈ recsT own params k i ts, RecOK r
  | _, [], _ => by simp [recsT]
  | i, t :: ts, h => by
    have ih := recsT_ok own params k (i + 1) ts (fun x hx => h x (by simp [hx]))
    have ht := allT_tl t (h t (by simp))
    simp only [recsT]
    cases (resultT own params k (allT t).2 ((i + (allT t).1.length : Nat) : Int)).2 with
    | true =>
      intro r hr
      rcases List.mem_cons.1 hr with rfl | hr
      · exact ⟨ht.1, resultT_tl ht.2⟩
      · exact ih r hr
    | false => exact ih
theorem recs_sem (own : Term) (params : List Term) (k : Nat) (name : Str) (fields results : List Term) (hf : TL fields) (hp : params.length ≤ cap) (hk : k ≤ cap) :
    Ev (fun n => family_shape_recursive n ⟨own, params, k⟩ fields) (recsT own params k 0 fields) ∧
      Ev (fun n => ref12_ctor_l1 n n params.length k 0 own name fields results []) ({ name := name, fields := fields, recu := recsT own params k 0 fields, results := results }, true) := by
  have key : ∀ (d i : Nat) (acc : List Zs5), d + i = fields.length → acc.length ≤ i →
      Ev2 (fun n m => family_shape_recursive_l1 n m fields fields.length i ⟨own, params, k⟩ acc) (acc ++ recsT own params k i (fields.drop i)) ∧
      Ev2 (fun n m => ref12_ctor_l1 n m params.length k i own name fields results acc) ({ name := name, fields := fields, recu := acc ++ recsT own params k i (fields.drop i), results := results }, true) := by
    intro d
    induction d with
    | zero =>
      intro i acc hi ha
      obtain rfl : i = fields.length := by omega
      rw [List.drop_length]
      simp only [recsT, List.append_nil]
      refine ⟨?_, ?_⟩
      · refine Ev2.lp (fun n m => by simp only [family_shape_recursive_l1_s, family_shape_recursive_b1]; exact rfl) ?_
        simp only [Int.lt_irrefl, decide_false, cond_false]
        exact Ev2.pure
      · refine Ev2.lp (fun n m => by simp only [ref12_ctor_l1_s, ref12_ctor_b1]; exact rfl) ?_
        simp only [Int.lt_irrefl, decide_false, cond_false]
        exact Ev2.pure
    | succ d ih =>
      intro i acc hi ha
      have hi' : i < fields.length := by omega
      have hlen := hf.1
      obtain ⟨hr1, hr2⟩ := All_sem fields[i] (hf.2 _ (List.getElem_mem hi'))
      obtain ⟨htl, hrb⟩ := allT_tl fields[i] (hf.2 _ (List.getElem_mem hi'))
      have hcap := htl.1
      have hw : IntKind.i64.wrap ((i : Int) + (allT fields[i]).1.length) = ((i + (allT fields[i]).1.length : Nat) : Int) := by
        simp only [cap] at hlen hcap
        rw [wrap_small (by omega) (by omega)]; omega
      obtain ⟨hq1, hq2⟩ := result_sem own params k (allT fields[i]).2 ((i + (allT fields[i]).1.length : Nat) : Int) hrb hp hk (by simp only [cap] at hlen hcap; omega)
      have hnext : IntKind.i64.wrap ((i : Int) + 1) = ((i + 1 : Nat) : Int) := wrap_next (by simp only [cap] at hlen; omega)
      have hroom := room56 (k := acc.length) (by omega)
      rw [List.drop_eq_getElem_cons hi']
      simp only [recsT]
      cases hb : (resultT own params k (allT fields[i]).2 ((i + (allT fields[i]).1.length : Nat) : Int)).2 with
      | true =>
        obtain ⟨h1, h2⟩ := ih (i + 1) (acc ++ [{ field := i, args := (allT fields[i]).1, results := (resultT own params k (allT fields[i]).2 ((i + (allT fields[i]).1.length : Nat) : Int)).1 }]) (by omega) (by simp; omega)
        simp only [List.append_assoc, List.singleton_append] at h1 h2
        simp only [cond_true]
        refine ⟨?_, ?_⟩
        · refine Ev2.lp (fun n m => by simp only [family_shape_recursive_l1_s, family_shape_recursive_b1]; exact rfl) ?_
          simp only [hi', Int.ofNat_lt, decide_true, cond_true]
          refine Ev2.idx hi' (Ev2.bind1 hr1 ?_)
          simp only [hw]
          refine Ev2.bind1 hq1 ?_
          simp only [hb, cond_true, hroom, hnext]
          exact h1
        · refine Ev2.lp (fun n m => by simp only [ref12_ctor_l1_s, ref12_ctor_b1]; exact rfl) ?_
          simp only [hi', Int.ofNat_lt, decide_true, cond_true]
          refine Ev2.idx hi' (Ev2.bind1 hr2 ?_)
          simp only [hw]
          refine Ev2.bind1 hq2 ?_
          simp only [hb, cond_true, hroom, hnext]
          exact h2
      | false =>
        obtain ⟨h1, h2⟩ := ih (i + 1) acc (by omega) (by omega)
        simp only [cond_false]
        refine ⟨?_, ?_⟩
        · refine Ev2.lp (fun n m => by simp only [family_shape_recursive_l1_s, family_shape_recursive_b1]; exact rfl) ?_
          simp only [hi', Int.ofNat_lt, decide_true, cond_true]
          refine Ev2.idx hi' (Ev2.bind1 hr1 ?_)
          simp only [hw]
          refine Ev2.bind1 hq1 ?_
          simp only [hb, cond_false, hnext]
          exact h1
        · refine Ev2.lp (fun n m => by simp only [ref12_ctor_l1_s, ref12_ctor_b1]; exact rfl) ?_
          simp only [hi', Int.ofNat_lt, decide_true, cond_true]
          refine Ev2.idx hi' (Ev2.bind1 hr2 ?_)
          simp only [hw]
          refine Ev2.bind1 hq2 ?_
          simp only [hb, cond_false, hnext]
          exact h2
  obtain ⟨h1, h2⟩ := key fields.length 0 [] (by omega) (by simp)
  simp only [List.nil_append, List.drop_zero] at h1 h2
  refine ⟨?_, Ev.of2 h2⟩
  refine Ev.fn (fun n => by simp only [family_shape_recursive, fu_succ, family_shape_recursive_e]; exact rfl) ?_
  exact Ev.of2 h1
def CtorOK (c : Zs4) : Prop := TL c.fields ∧ TL c.results ∧ c.recu.length ≤ cap ∧ ∀ r ∈ c.recu, RecOK r
def noCtor : Zs4 := { name := [], fields := [], recu := [], results := [] }
noncomputable def ctorT (own : Term) (params : List Term) (k : Nat) (c : Ctor) : Zs4 × Bool :=
  bif decide ((allT c.type).1.length < params.length) then (noCtor, false) else
  bif eqb ((allT c.type).1.take params.length) params then
    bif (resultT own params k (allT c.type).2 (((allT c.type).1.drop params.length).length : Int)).2 then
      ({ name := c.name, fields := (allT c.type).1.drop params.length, recu := recsT own params k 0 ((allT c.type).1.drop params.length),
         results := (resultT own params k (allT c.type).2 (((allT c.type).1.drop params.length).length : Int)).1 }, true)
    else (noCtor, false)
  else (noCtor, false)
theorem noCtor_ok : CtorOK noCtor := ⟨TL.nil, TL.nil, by simp [cap, noCtor], by simp [noCtor]⟩
theorem ctorT_ok {own : Term} {params : List Term} {k : Nat} {c : Ctor} (hc : c.type.bulk ≤ cap) : CtorOK (ctorT own params k c).1 := by
  obtain ⟨htl, hrb⟩ := allT_tl c.type hc
  unfold ctorT
  cases decide ((allT c.type).1.length < params.length) with
  | true => exact noCtor_ok
  | false =>
    cases eqb ((allT c.type).1.take params.length) params with
    | false => exact noCtor_ok
    | true =>
      cases (resultT own params k (allT c.type).2 (((allT c.type).1.drop params.length).length : Int)).2 with
      | false => exact noCtor_ok
      | true =>
        refine ⟨htl.drop _, resultT_tl hrb, ?_, recsT_ok _ _ _ _ _ (htl.drop _).2⟩
        exact Nat.le_trans (recsT_len _ _ _ _ _) (htl.drop _).1
theorem ctor_sem (own : Term) (fam : Family) (c : Ctor) (p : Nat) (hlv : fam.levels = p) (hp8 : p ≤ 8) (hown : own = Term.mk 3 0 fam.name (ownLevels p) []) (hc : c.type.bulk ≤ cap) (hp : TL fam.params) (hk : fam.indices.length ≤ cap) :
    Ev (fun n => family_shape_ctor n ⟨own, fam.params, fam.indices.length⟩ c) (ctorT own fam.params fam.indices.length c) ∧ Ev (fun n => ref12_ctor n fam c) (ctorT own fam.params fam.indices.length c) := by
  obtain ⟨hr1, hr2⟩ := All_sem c.type hc
  obtain ⟨htl, hrb⟩ := allT_tl c.type hc
  have hOwn := ref12_Own_ev fam.name p hp8
  rw [← hlv, ← hown] at hOwn
  have hcap := htl.1
  by_cases hlen : (allT c.type).1.length < fam.params.length
  · have d : decide (((allT c.type).1.length : Int) < (fam.params.length : Int)) = true := decide_eq_true (by omega)
    have d' : decide ((allT c.type).1.length < fam.params.length) = true := decide_eq_true hlen
    simp only [ctorT, d', cond_true]
    refine ⟨?_, ?_⟩
    · refine Ev.fn (fun n => by simp only [family_shape_ctor, fu_succ, family_shape_ctor_e]; exact rfl) ?_
      refine Ev.bind hr1 ?_
      simp only [d, cond_true]
      exact Ev.pure
    · refine Ev.fn (fun n => by simp only [ref12_ctor, fu_succ, ref12_ctor_e]; exact rfl) ?_
      refine Ev.bind hOwn (Ev.bind hr2 ?_)
      simp only [d, cond_true]
      exact Ev.pure
  have d' : decide ((allT c.type).1.length < fam.params.length) = false := decide_eq_false hlen
  have d0 : decide (((allT c.type).1.length : Int) < (fam.params.length : Int)) = false := decide_eq_false (by omega)
  have d1 : decide ((fam.params.length : Int) ≤ (allT c.type).1.length ∧ ((allT c.type).1.length : Int) ≤ (allT c.type).1.length) = true := decide_eq_true ⟨by omega, by omega⟩
  have ha1 := family_alike_Term_term_Same_ev ((allT c.type).1.take fam.params.length) fam.params (htl.take _).lim.1 (htl.take _).lim.2
  have ha2 := ref05_SameList_ev ((allT c.type).1.take fam.params.length) fam.params (htl.take _).lim.1 (htl.take _).lim.2
  cases hal : eqb ((allT c.type).1.take fam.params.length) fam.params with
  | false =>
    rw [hal] at ha1 ha2
    simp only [ctorT, d', hal, cond_false]
    refine ⟨?_, ?_⟩
    · refine Ev.fn (fun n => by simp only [family_shape_ctor, fu_succ, family_shape_ctor_e]; exact rfl) ?_
      refine Ev.bind hr1 ?_
      simp only [d0, d1, cond_true, cond_false]
      exact Ev.bind ha1 Ev.pure
    · refine Ev.fn (fun n => by simp only [ref12_ctor, fu_succ, ref12_ctor_e]; exact rfl) ?_
      refine Ev.bind hOwn (Ev.bind hr2 ?_)
      simp only [d0, d1, cond_true, cond_false]
      exact Ev.bind ha2 Ev.pure
  | true =>
    rw [hal] at ha1 ha2
    have hfl := (htl.drop fam.params.length).1
    obtain ⟨hq1, hq2⟩ := result_sem own fam.params fam.indices.length (allT c.type).2 (((allT c.type).1.drop fam.params.length).length : Int) hrb hp.1 hk (by simp only [cap] at hfl; omega)
    cases hb : (resultT own fam.params fam.indices.length (allT c.type).2 (((allT c.type).1.drop fam.params.length).length : Int)).2 with
    | false =>
      simp only [ctorT, d', hal, hb, cond_true, cond_false]
      refine ⟨?_, ?_⟩
      · refine Ev.fn (fun n => by simp only [family_shape_ctor, fu_succ, family_shape_ctor_e]; exact rfl) ?_
        refine Ev.bind hr1 ?_
        simp only [d0, d1, cond_true, cond_false, List.take_length]
        refine Ev.bind ha1 (Ev.bind hq1 ?_)
        simp only [hb, cond_false]
        exact Ev.pure
      · refine Ev.fn (fun n => by simp only [ref12_ctor, fu_succ, ref12_ctor_e]; exact rfl) ?_
        refine Ev.bind hOwn (Ev.bind hr2 ?_)
        simp only [d0, d1, cond_true, cond_false, List.take_length]
        refine Ev.bind ha2 (Ev.bind hq2 ?_)
        simp only [hb, cond_false]
        exact Ev.pure
    | true =>
      obtain ⟨g1, g2⟩ := recs_sem own fam.params fam.indices.length c.name ((allT c.type).1.drop fam.params.length) (resultT own fam.params fam.indices.length (allT c.type).2 (((allT c.type).1.drop fam.params.length).length : Int)).1 (htl.drop _) hp.1 hk
      simp only [ctorT, d', hal, hb, cond_true, cond_false]
      refine ⟨?_, ?_⟩
      · refine Ev.fn (fun n => by simp only [family_shape_ctor, fu_succ, family_shape_ctor_e]; exact rfl) ?_
        refine Ev.bind hr1 ?_
        simp only [d0, d1, cond_true, cond_false, List.take_length]
        refine Ev.bind ha1 (Ev.bind hq1 ?_)
        simp only [hb, cond_true]
        exact Ev.bind g1 Ev.pure
      · refine Ev.fn (fun n => by simp only [ref12_ctor, fu_succ, ref12_ctor_e]; exact rfl) ?_
        refine Ev.bind hOwn (Ev.bind hr2 ?_)
        simp only [d0, d1, cond_true, cond_false, List.take_length]
        refine Ev.bind ha2 (Ev.bind hq2 ?_)
        simp only [hb, cond_true]
        exact g2
end Go.Abs
namespace Go.Abs
set_option linter.unusedVariables false
set_option linter.unusedSimpArgs false
theorem Term.eta_mk (t : Term) : Term.mk t.kind t.index t.name t.levels t.kids = t := by cases t; rfl
def FamOK (f : Family) : Prop := TL f.params ∧ TL f.indices ∧ f.sort.bulk ≤ cap ∧ f.ctors.length ≤ cap ∧ ∀ c ∈ f.ctors, CtorOK c
def noFam : Family := { name := [], levels := 0, params := [], indices := [], sort := Term.mk 0 0 [] [] [], ctors := [] }
theorem noFam_ok : FamOK noFam := ⟨TL.nil, TL.nil, by simp [noFam, Term.bulk_eq, sumB, cap, Term.name, Term.levels, Term.kids], by simp [noFam, cap], by simp [noFam]⟩
theorem Ctor.bulk_pos (x : Ctor) : 1 ≤ x.bulk := by rw [Ctor.bulk]; omega
theorem Fun.bulk_pos (x : Fun) : 1 ≤ x.bulk := by rw [Fun.bulk]; omega
theorem Decl.ctor_le {d : Decl} {c : Ctor} (h : c ∈ d.ctors) : c.type.bulk ≤ d.bulk ∧ c.name.length ≤ d.bulk := by
  have := sumB_mem (f := Ctor.bulk) h
  rw [Ctor.bulk] at this
  rw [Decl.bulk]
  omega
theorem Decl.ctors_len (d : Decl) : d.ctors.length ≤ d.bulk := by
  have := sumB_len Ctor.bulk_pos d.ctors
  rw [Decl.bulk]; omega
noncomputable def ctorsT (own : Term) (params : List Term) (k : Nat) : List Ctor → Option (List Zs4)
  | [] => some []
  | c :: cs => bif (ctorT own params k c).2 then (ctorsT own params k cs).map ((ctorT own params k c).1 :: ·) else none
noncomputable def analyseT (d : Decl) : Family × Int :=
  bif d.kind != 3 then (noFam, 1) else
  bif decide (d.fixed < 0) || (decide ((allT d.type).1.length < d.fixed) || !((allT d.type).2.kind == 1 || (allT d.type).2.kind == 2)) then (noFam, 3) else
  match ctorsT (Term.mk 3 0 d.name (ownLevels d.params.toNat) []) ((allT d.type).1.take d.fixed.toNat) ((allT d.type).1.drop d.fixed.toNat).length d.ctors with
  | some cs => ({ name := d.name, levels := d.params, params := (allT d.type).1.take d.fixed.toNat, indices := (allT d.type).1.drop d.fixed.toNat, sort := (allT d.type).2, ctors := cs }, 0)
  | none => (noFam, 3)
theorem ctorsT_ok {own : Term} {params : List Term} {k : Nat} : ∀ {l : List Ctor} {cs : List Zs4}, (∀ c ∈ l, c.type.bulk ≤ cap) → ctorsT own params k l = some cs → cs.length = l.length ∧ ∀ c ∈ cs, CtorOK c
  | [], cs, _, h => by simp only [ctorsT, Option.some.injEq] at h; subst h; simp
  | c :: l, cs, hl, h => by
    simp only [ctorsT] at h
    cases hc : (ctorT own params k c).2 with
    | false => rw [hc] at h; cases h
    | true =>
      rw [hc, cond_true, Option.map_eq_some_iff] at h
      obtain ⟨cs', h', rfl⟩ := h
      obtain ⟨h1, h2⟩ := ctorsT_ok (fun c hc => hl c (by simp [hc])) h'
      refine ⟨by simp [h1], fun x hx => ?_⟩
      rcases List.mem_cons.1 hx with rfl | hx
      · exact ctorT_ok (hl c (by simp))
      · exact h2 x hx
theorem analyseT_ok {d : Decl} (hd : d.bulk ≤ cap) : FamOK (analyseT d).1 := by
  have ht : d.type.bulk ≤ cap := by rw [Decl.bulk] at hd; omega
  obtain ⟨htl, hrb⟩ := allT_tl d.type ht
  unfold analyseT
  cases d.kind != 3 with
  | true => exact noFam_ok
  | false =>
    cases decide (d.fixed < 0) || (decide ((allT d.type).1.length < d.fixed) || !((allT d.type).2.kind == 1 || (allT d.type).2.kind == 2)) with
    | true => exact noFam_ok
    | false =>
      simp only [cond_false]
      split
      · rename_i cs h
        obtain ⟨h1, h2⟩ := ctorsT_ok (fun c hc => Nat.le_trans (Decl.ctor_le hc).1 hd) h
        exact ⟨htl.take _, htl.drop _, hrb, by have := d.ctors_len; show cs.length ≤ cap; omega, h2⟩
      · exact noFam_ok
theorem loop_sem (d : Decl) (hd : d.bulk ≤ cap) (name : Str) (p : Nat) (hp : p ≤ 8) (params indices : List Term) (sort : Term) (h1 : TL params) (h2 : TL indices) (h3 : sort.bulk ≤ cap) (r : Family × Int)
    (hr : r = match ctorsT (Term.mk 3 0 name (ownLevels p) []) params indices.length d.ctors with
      | some cs => ({ name := name, levels := p, params := params, indices := indices, sort := sort, ctors := cs }, 0)
      | none => (noFam, 3)) :
    Ev (fun n => family_Analyse_l1 n n d.ctors d.ctors.length 0 name p params indices sort.kind sort.index sort.name sort.levels sort.kids ⟨Term.mk 3 0 name (ownLevels p) [], params, indices.length⟩ []) r ∧
      Ev (fun n => ref12_Analyse_l1 n n 0 d name p params indices sort.kind sort.index sort.name sort.levels sort.kids []) r := by
  have hlen := d.ctors_len
  have key : ∀ (k i : Nat) (acc : List Zs4), k + i = d.ctors.length → acc.length ≤ i → ∀ r : Family × Int,
      (r = match ctorsT (Term.mk 3 0 name (ownLevels p) []) params indices.length (d.ctors.drop i) with
        | some cs => ({ name := name, levels := p, params := params, indices := indices, sort := sort, ctors := acc ++ cs }, 0)
        | none => (noFam, 3)) →
      Ev2 (fun n m => family_Analyse_l1 n m d.ctors d.ctors.length i name p params indices sort.kind sort.index sort.name sort.levels sort.kids ⟨Term.mk 3 0 name (ownLevels p) [], params, indices.length⟩ acc) r ∧
      Ev2 (fun n m => ref12_Analyse_l1 n m i d name p params indices sort.kind sort.index sort.name sort.levels sort.kids acc) r := by
    intro k
    induction k with
    | zero =>
      intro i acc hi ha r hr
      obtain rfl : i = d.ctors.length := by omega
      rw [List.drop_length] at hr
      simp only [ctorsT, List.append_nil] at hr
      subst hr
      refine ⟨?_, ?_⟩
      · refine Ev2.lp (fun n m => by simp only [family_Analyse_l1_s, family_Analyse_b1]; exact rfl) ?_
        simp only [Int.lt_irrefl, decide_false, cond_false, Term.eta_mk]
        exact Ev2.pure
      · refine Ev2.lp (fun n m => by simp only [ref12_Analyse_l1_s, ref12_Analyse_b1]; exact rfl) ?_
        simp only [Int.lt_irrefl, decide_false, cond_false, Term.eta_mk]
        exact Ev2.pure
    | succ k ih =>
      intro i acc hi ha r hr
      have hi' : i < d.ctors.length := by omega
      have hct := (Decl.ctor_le (List.getElem_mem hi')).1
      obtain ⟨q1, q2⟩ := ctor_sem (Term.mk 3 0 name (ownLevels p) []) { name := name, levels := p, params := params, indices := indices, sort := sort, ctors := acc } d.ctors[i] p rfl hp rfl (by omega) h1 h2.1
      have hroom := room88 (k := acc.length) (by omega)
      have hnext : IntKind.i64.wrap ((i : Int) + 1) = ((i + 1 : Nat) : Int) := wrap_next (by simp only [cap] at hd; omega)
      rw [List.drop_eq_getElem_cons hi'] at hr
      simp only [ctorsT] at hr
      cases hb : (ctorT (Term.mk 3 0 name (ownLevels p) []) params indices.length d.ctors[i]).2 with
      | false =>
        rw [hb] at hr
        simp only [cond_false] at hr
        subst hr
        refine ⟨?_, ?_⟩
        · refine Ev2.lp (fun n m => by simp only [family_Analyse_l1_s, family_Analyse_b1]; exact rfl) ?_
          simp only [hi', Int.ofNat_lt, decide_true, cond_true]
          refine Ev2.idx hi' (Ev2.bind1 q1 ?_)
          simp only [hb, cond_false]
          exact Ev2.pure
        · refine Ev2.lp (fun n m => by simp only [ref12_Analyse_l1_s, ref12_Analyse_b1]; exact rfl) ?_
          simp only [hi', Int.ofNat_lt, decide_true, cond_true, Term.eta_mk]
          refine Ev2.idx hi' (Ev2.bind1 q2 ?_)
          simp only [hb, cond_false]
          exact Ev2.pure
      | true =>
        rw [hb] at hr
        simp only [cond_true] at hr
        obtain ⟨r1, r2⟩ := ih (i + 1) (acc ++ [(ctorT (Term.mk 3 0 name (ownLevels p) []) params indices.length d.ctors[i]).1]) (by omega) (by simp; omega) r (by
          rw [hr]
          cases ctorsT (Term.mk 3 0 name (ownLevels p) []) params indices.length (d.ctors.drop (i + 1)) with
          | none => rfl
          | some cs => simp)
        refine ⟨?_, ?_⟩
        · refine Ev2.lp (fun n m => by simp only [family_Analyse_l1_s, family_Analyse_b1]; exact rfl) ?_
          simp only [hi', Int.ofNat_lt, decide_true, cond_true]
          refine Ev2.idx hi' (Ev2.bind1 q1 ?_)
          simp only [hb, cond_true, hroom, hnext]
          exact r1
        · refine Ev2.lp (fun n m => by simp only [ref12_Analyse_l1_s, ref12_Analyse_b1]; exact rfl) ?_
          simp only [hi', Int.ofNat_lt, decide_true, cond_true, Term.eta_mk]
          refine Ev2.idx hi' (Ev2.bind1 q2 ?_)
          simp only [hb, cond_true, hroom, hnext]
          exact r2
  obtain ⟨r1, r2⟩ := key d.ctors.length 0 [] (by omega) (by simp) r (by simpa using hr)
  exact ⟨Ev.of2 r1, Ev.of2 r2⟩
theorem Analyse_sem (d : Decl) (hd : d.bulk ≤ cap) (hp0 : 0 ≤ d.params) (hp8 : d.params ≤ 8) : Ev (fun n => family_Analyse n d) (analyseT d) ∧ Ev (fun n => ref12_Analyse n d) (analyseT d) := by
  have ht : d.type.bulk ≤ cap := by rw [Decl.bulk] at hd; omega
  obtain ⟨hr1, hr2⟩ := All_sem d.type ht
  obtain ⟨htl, hrb⟩ := allT_tl d.type ht
  obtain ⟨p, hp⟩ : ∃ p : Nat, d.params = p := ⟨d.params.toNat, by omega⟩
  have hpp : d.params.toNat = p := by omega
  by_cases hk : d.kind ≠ 3
  · have e : (d.kind != 3) = true := by rw [bne_iff_ne]; exact hk
    simp only [analyseT, e, cond_true]
    refine ⟨?_, ?_⟩
    · refine Ev.fn (fun n => by simp only [family_Analyse, fu_succ, family_Analyse_e]; exact rfl) ?_
      simp only [e, cond_true]
      exact Ev.pure
    · refine Ev.fn (fun n => by simp only [ref12_Analyse, fu_succ, ref12_Analyse_e]; exact rfl) ?_
      simp only [e, cond_true]
      exact Ev.pure
  have hk : d.kind = 3 := Classical.not_not.1 hk
  have e0 : (d.kind != 3) = false := by rw [hk]; rfl
  by_cases hf : d.fixed < 0
  · have e : decide (d.fixed < 0) = true := decide_eq_true hf
    simp only [analyseT, e0, e, Bool.true_or, cond_true, cond_false]
    refine ⟨?_, ?_⟩
    · refine Ev.fn (fun n => by simp only [family_Analyse, fu_succ, family_Analyse_e]; exact rfl) ?_
      simp only [e0, cond_false]
      refine Ev.bind hr1 ?_
      simp only [e, cond_true]
      exact Ev.pure
    · refine Ev.fn (fun n => by simp only [ref12_Analyse, fu_succ, ref12_Analyse_e]; exact rfl) ?_
      simp only [e0, cond_false]
      refine Ev.bind hr2 ?_
      simp only [e, cond_true]
      exact Ev.pure
  have e1 : decide (d.fixed < 0) = false := decide_eq_false hf
  by_cases hg : ((allT d.type).1.length : Int) < d.fixed
  · have e : decide (((allT d.type).1.length : Int) < d.fixed) = true := decide_eq_true hg
    simp only [analyseT, e0, e1, e, Bool.true_or, Bool.false_or, cond_true, cond_false]
    refine ⟨?_, ?_⟩
    · refine Ev.fn (fun n => by simp only [family_Analyse, fu_succ, family_Analyse_e]; exact rfl) ?_
      simp only [e0, cond_false]
      refine Ev.bind hr1 ?_
      simp only [e1, e, cond_true, cond_false]
      exact Ev.pure
    · refine Ev.fn (fun n => by simp only [ref12_Analyse, fu_succ, ref12_Analyse_e]; exact rfl) ?_
      simp only [e0, cond_false]
      refine Ev.bind hr2 ?_
      simp only [e1, e, cond_true, cond_false]
      exact Ev.pure
  have e2 : decide (((allT d.type).1.length : Int) < d.fixed) = false := decide_eq_false hg
  have e3 : decide (0 ≤ d.fixed ∧ d.fixed ≤ (allT d.type).1.length ∧ ((allT d.type).1.length : Int) ≤ (allT d.type).1.length) = true := decide_eq_true ⟨by omega, by omega, by omega⟩
  have hsort : Ev (fun n => ref12_sort n (allT d.type).2) ((allT d.type).2.kind == 1 || (allT d.type).2.kind == 2) := by
    refine Ev.fn (fun n => by simp only [ref12_sort, fu_succ, ref12_sort_e]; exact rfl) ?_
    cases (allT d.type).2.kind == 1 <;> exact Ev.pure
  obtain ⟨q1, q2⟩ := loop_sem d hd d.name p (by omega) ((allT d.type).1.take d.fixed.toNat) ((allT d.type).1.drop d.fixed.toNat) (allT d.type).2 (htl.take _) (htl.drop _) hrb _ rfl
  have hit := family_itself_ev d.name p (by omega)
  rw [← hp] at q1 q2 hit
  rw [← hpp] at q1 q2 hit
  cases hs : ((allT d.type).2.kind == 1 || (allT d.type).2.kind == 2) with
  | false =>
    rw [hs] at hsort
    simp only [analyseT, e0, e1, e2, hs, Bool.false_or, Bool.not_false, cond_true, cond_false]
    rw [Bool.or_eq_false_iff] at hs
    refine ⟨?_, ?_⟩
    · refine Ev.fn (fun n => by simp only [family_Analyse, fu_succ, family_Analyse_e]; exact rfl) ?_
      simp only [e0, cond_false]
      refine Ev.bind hr1 ?_
      simp only [e1, e2, bne, hs.1, hs.2, Bool.not_false, cond_true, cond_false]
      exact Ev.pure
    · refine Ev.fn (fun n => by simp only [ref12_Analyse, fu_succ, ref12_Analyse_e]; exact rfl) ?_
      simp only [e0, cond_false]
      refine Ev.bind hr2 ?_
      simp only [e1, e2, cond_false]
      refine Ev.bind hsort ?_
      simp only [cond_false]
      exact Ev.pure
  | true =>
    rw [hs] at hsort
    simp only [analyseT, e0, e1, e2, hs, Bool.false_or, Bool.not_true, cond_false]
    refine ⟨?_, ?_⟩
    · refine Ev.fn (fun n => by simp only [family_Analyse, fu_succ, family_Analyse_e]; exact rfl) ?_
      simp only [e0, cond_false]
      refine Ev.bind hr1 ?_
      cases hs1 : (allT d.type).2.kind == 1 with
      | true =>
        simp only [e1, e2, e3, bne, hs1, Bool.not_true, cond_true, cond_false, List.take_length]
        exact Ev.bind hit q1
      | false =>
        rw [hs1, Bool.false_or] at hs
        simp only [e1, e2, e3, bne, hs1, hs, Bool.not_true, Bool.not_false, cond_true, cond_false, List.take_length]
        exact Ev.bind hit q1
    · refine Ev.fn (fun n => by simp only [ref12_Analyse, fu_succ, ref12_Analyse_e]; exact rfl) ?_
      simp only [e0, cond_false]
      refine Ev.bind hr2 ?_
      simp only [e1, e2, cond_false]
      refine Ev.bind hsort ?_
      simp only [e3, cond_true, List.take_length]
      exact q2
end Go.Abs
namespace Go.Abs
set_option linter.unusedVariables false
set_option linter.unusedSimpArgs false
theorem ref03_Kids_fine (k : Int) : Tot (fun n => ref03_Kids n k) (fun x => k = 6 ∨ k = 4 → x = 2) := by
  refine Tot.fn (fun n => by simp only [ref03_Kids, fu_succ, ref03_Kids_e]; exact rfl) ?_
  refine Tot.cnd (fun _ => Tot.pure fun _ => rfl) fun h1 => ?_
  refine Tot.cnd (fun _ => Tot.pure fun _ => rfl) fun _ => ?_
  refine Tot.cnd (fun _ => Tot.pure fun _ => rfl) fun h2 => ?_
  refine Tot.imp (P := Yes) ?_ fun _ _ h => ?_
  · (repeat' (first | exact Tot.pure trivial | exact Tot2.pure trivial | refine Tot.cnd (fun _ => ?_) (fun _ => ?_) | refine Tot2.cnd (fun _ => ?_) (fun _ => ?_)))
  · rw [beq_eq_false_iff_ne] at h1 h2
    rcases h with h | h <;> contradiction
theorem ref03_form_fine (t : Term) : Tot (fun n => ref03_form n t) (fun r => r = true → t.kind = 6 ∨ t.kind = 4 → t.kids.length = 2 ∧ t.index = 0 ∧ t.name = [] ∧ t.levels = []) := by
  refine Tot.fn (fun n => by simp only [ref03_form, fu_succ, ref03_form_e]; exact rfl) ?_
  refine Tot.cnd (fun _ => Tot.pure (by simp)) fun _ => Tot.cnd (fun _ => Tot.pure (by simp)) fun _ => ?_
  refine Tot.bind (ref03_Kids_fine _) fun x hx => ?_
  refine Tot.cnd (fun _ => Tot.pure (by simp)) fun hl => ?_
  have h2 : t.kind = 6 ∨ t.kind = 4 → t.kids.length = 2 := by
    intro h
    have := hx h
    subst this
    have h2 := bne_eq_false_iff_eq.1 hl
    omega
  (repeat' (refine Tot.cnd (fun _ => ?_) (fun _ => ?_)))
  all_goals refine Tot.pure fun hr hk => ?_
  all_goals refine ⟨h2 hk, ?_⟩
  all_goals clear h2 hl hx
  all_goals rcases hk with hk | hk <;> simp_all
theorem ref03_check_fine : ∀ (t : Term) (a b c d e : Int), t.bulk < lim → Tot (fun n => ref03_check n t a b c d e) (fun r => r = 0 → Fine t) := by
  intro t
  induction h : t.bulk using Nat.strongRecOn generalizing t with
  | ind k ih =>
    intro a b c d e hk
    have hl := t.kids_len
    have hl2 := t.levels_len
    have hl3 := t.name_len
    refine Tot.fn (fun n => by simp only [ref03_check, fu_succ, ref03_check_e]; exact rfl) ?_
    have k1 : (t.kind = 6 ∨ t.kind = 4 → t.kids.length = 2 ∧ t.index = 0 ∧ t.name = [] ∧ t.levels = []) → Tot (fun n => ref03_check_l1 (ref03_check n) n n a b c d e 0 t) (fun r => r = 0 → Fine t) := by
      intro hf
      refine Tot.of2 (F := fun n m => ref03_check_l1 (ref03_check n) n m a b c d e 0 t) ?_
      refine Tot2.up (S := Unit) (L := fun n m i s => ref03_check_l1 (ref03_check n) n m a b c d e i t) t.kids.length (fun i _ => ∀ j (hj : j < t.kids.length), j < i → Fine t.kids[j]) (fun r => r = 0 → Fine t) ?_ ?_ 0 () (by omega) (fun j _ h => by omega)
      · intro i s hi hI next
        refine Tot2.lp (fun n m => by simp only [ref03_check_l1_s, ref03_check_b1]; exact rfl) ?_
        simp only [hi, Int.ofNat_lt, decide_true, cond_true]
        refine Tot2.idx hi ?_
        have hm := t.kid_lt (List.getElem_mem hi)
        rw [wrap_next (by unfold lim at hk; omega)]
        refine Tot2.bind1 (ref03_Below_tot _ _) fun x _ => ?_
        refine Tot2.bind1 (ih _ (by omega) _ rfl _ _ _ _ _ (by omega)) fun x hx => ?_
        refine Tot2.cnd (fun hc => Tot2.pure fun h0 => ?_) fun hc => ?_
        · subst h0; simp at hc
        · refine next s fun j hj hlt => ?_
          rcases Nat.lt_succ_iff_lt_or_eq.1 hlt with h | rfl
          · exact hI j hj h
          · exact hx (bne_eq_false_iff_eq.1 hc)
      · intro s hI
        refine Tot2.lp (fun n m => by simp only [ref03_check_l1_s, ref03_check_b1]; exact rfl) ?_
        simp only [Int.lt_irrefl, decide_false, cond_false]
        refine Tot2.pure fun _ => Fine.mk t hf fun k hk => ?_
        obtain ⟨j, hj, rfl⟩ := List.getElem_of_mem hk
        exact hI j hj hj
    have k2 : (t.kind = 6 ∨ t.kind = 4 → t.kids.length = 2 ∧ t.index = 0 ∧ t.name = [] ∧ t.levels = []) → Tot (fun n => ref03_check_l2 (ref03_check n) n n a b c d e 0 t) (fun r => r = 0 → Fine t) := by
      intro hf
      refine Tot.of2 (F := fun n m => ref03_check_l2 (ref03_check n) n m a b c d e 0 t) ?_
      refine Tot2.up (S := Unit) (L := fun n m i s => ref03_check_l2 (ref03_check n) n m a b c d e i t) t.levels.length (fun _ _ => True) (fun r => r = 0 → Fine t) ?_ ?_ 0 () (by omega) trivial
      · intro i s hi _ next
        refine Tot2.lp (fun n m => by simp only [ref03_check_l2_s, ref03_check_b2]; exact rfl) ?_
        simp only [hi, Int.ofNat_lt, decide_true, cond_true]
        refine Tot2.idx hi ?_
        have hm := t.level_lt (List.getElem_mem hi)
        rw [wrap_next (by unfold lim at hk; omega)]
        refine Tot2.bind1 (ref03_level_tot _ _ _ (by omega)) fun x _ => ?_
        refine Tot2.cnd (fun hc => Tot2.pure fun h0 => ?_) fun hc => ?_
        · subst h0; simp at hc
        · exact next s trivial
      · intro s _
        refine Tot2.lp (fun n m => by simp only [ref03_check_l2_s, ref03_check_b2]; exact rfl) ?_
        simp only [Int.lt_irrefl, decide_false, cond_false]
        (repeat' (first | exact Tot2.pure (by simp) | refine Tot2.cnd (fun _ => ?_) (fun _ => ?_)))
        all_goals exact Tot2.of1 (k1 hf)
    refine Tot.bind (ref03_form_fine _) fun x hx => ?_
    refine Tot.cnd (fun hc => ?_) fun hc => Tot.pure (by simp)
    subst hc
    have hf := hx rfl
    refine Tot.cnd (fun _ => ?_) fun _ => ?_
    · refine Tot.bind (ref03_Name_tot _ (by omega)) fun x _ => ?_
      (repeat' (first | exact Tot.pure (by simp) | refine Tot.cnd (fun _ => ?_) (fun _ => ?_)))
      exact k2 hf
    · (repeat' (first | exact Tot.pure (by simp) | refine Tot.cnd (fun _ => ?_) (fun _ => ?_)))
      exact k2 hf
theorem ref03_Check_fine (t : Term) (a b c d : Int) (hk : t.bulk < lim) : Tot (fun n => ref03_Check n t a b c d) (fun r => r = 0 → Fine t) := by
  refine Tot.fn (fun n => by simp only [ref03_Check, fu_succ, ref03_Check_e]; exact rfl) ?_
  refine Tot.bind (ref03_check_fine _ _ _ _ _ _ hk) fun x hx => ?_
  refine Tot.cnd (fun hc => Tot.pure fun h0 => ?_) fun hc => ?_
  · subst h0; simp at hc
  have hf := hx (bne_eq_false_iff_eq.1 hc)
  refine Tot.imp (P := Yes) ?_ fun _ _ _ => hf
  refine Tot.bind (ref03_Size_tot _ hk) fun x _ => ?_
  (repeat' (first | exact Tot.pure trivial | exact Tot2.pure trivial | refine Tot.cnd (fun _ => ?_) (fun _ => ?_) | refine Tot2.cnd (fun _ => ?_) (fun _ => ?_)))
  refine Tot.bind (ref03_Depth_tot _ hk) fun x _ => ?_
  (repeat' (first | exact Tot.pure trivial | exact Tot2.pure trivial | refine Tot.cnd (fun _ => ?_) (fun _ => ?_) | refine Tot2.cnd (fun _ => ?_) (fun _ => ?_)))
theorem law07_FewDecl_tot (d : Decl) (hd : d.bulk ≤ cap) : Tot (fun n => law07_FewDecl n d) Yes := by
  have hd' := hd
  rw [Decl.bulk] at hd'
  have hl1 := d.ctors_len
  have hl2 := sumB_len Fun.bulk_pos d.funs
  have hl3 : sumB Term.bulk d.recu.rules < d.recu.bulk := by rw [Zs3.bulk]; omega
  have hl4 := sumB_len Term.bulk_pos d.recu.rules
  have hl5 : d.recu.type.bulk < d.recu.bulk := by rw [Zs3.bulk]; omega
  have k1 : Tot (fun n => law07_FewDecl_l1 n n 0 d) Yes := by
    refine Tot.of2 (F := fun n m => law07_FewDecl_l1 n m 0 d) ?_
    refine Tot2.up (S := Unit) (L := fun n m i s => law07_FewDecl_l1 n m i d) d.funs.length (fun _ _ => True) Yes ?_ ?_ 0 () (by omega) trivial
    · intro i s hi _ next
      refine Tot2.lp (fun n m => by simp only [law07_FewDecl_l1_s, law07_FewDecl_b1]; exact rfl) ?_
      simp only [hi, Int.ofNat_lt, decide_true, cond_true]
      refine Tot2.idx hi ?_
      have hm := sumB_mem (f := Fun.bulk) (List.getElem_mem hi)
      rw [Fun.bulk] at hm
      (repeat' (first | exact Tot.pure trivial | exact Tot2.pure trivial | refine Tot.cnd (fun _ => ?_) (fun _ => ?_) | refine Tot2.cnd (fun _ => ?_) (fun _ => ?_)))
      refine Tot2.idx hi ?_
      refine Tot2.bind1 (law07_small_tot _ (lim_of_cap (by omega))) fun x _ => ?_
      (repeat' (first | exact Tot.pure trivial | exact Tot2.pure trivial | refine Tot.cnd (fun _ => ?_) (fun _ => ?_) | refine Tot2.cnd (fun _ => ?_) (fun _ => ?_)))
      refine Tot2.idx hi ?_
      refine Tot2.bind1 (law07_smallTree_tot _ _ (lim_of_cap (by omega))) fun x _ => ?_
      (repeat' (first | exact Tot.pure trivial | exact Tot2.pure trivial | refine Tot.cnd (fun _ => ?_) (fun _ => ?_) | refine Tot2.cnd (fun _ => ?_) (fun _ => ?_)))
      rw [wrap_next (by simp only [cap] at hd hd'; omega)]
      exact next s trivial
    · intro s _
      refine Tot2.lp (fun n m => by simp only [law07_FewDecl_l1_s, law07_FewDecl_b1]; exact rfl) ?_
      simp only [Int.lt_irrefl, decide_false, cond_false]
      exact Tot2.pure trivial
  have k2 : Tot (fun n => law07_FewDecl_l2 n n 0 d) Yes := by
    refine Tot.of2 (F := fun n m => law07_FewDecl_l2 n m 0 d) ?_
    refine Tot2.up (S := Unit) (L := fun n m i s => law07_FewDecl_l2 n m i d) d.recu.rules.length (fun _ _ => True) Yes ?_ ?_ 0 () (by omega) trivial
    · intro i s hi _ next
      refine Tot2.lp (fun n m => by simp only [law07_FewDecl_l2_s, law07_FewDecl_b2]; exact rfl) ?_
      simp only [hi, Int.ofNat_lt, decide_true, cond_true]
      refine Tot2.idx hi ?_
      have hm := sumB_mem (f := Term.bulk) (List.getElem_mem hi)
      refine Tot2.bind1 (law07_small_tot _ (lim_of_cap (by omega))) fun x _ => ?_
      (repeat' (first | exact Tot.pure trivial | exact Tot2.pure trivial | refine Tot.cnd (fun _ => ?_) (fun _ => ?_) | refine Tot2.cnd (fun _ => ?_) (fun _ => ?_)))
      rw [wrap_next (by simp only [cap] at hd hd'; omega)]
      exact next s trivial
    · intro s _
      refine Tot2.lp (fun n m => by simp only [law07_FewDecl_l2_s, law07_FewDecl_b2]; exact rfl) ?_
      simp only [Int.lt_irrefl, decide_false, cond_false]
      exact Tot2.of1 k1
  have k3 : Tot (fun n => law07_FewDecl_l3 n n 0 d) Yes := by
    refine Tot.of2 (F := fun n m => law07_FewDecl_l3 n m 0 d) ?_
    refine Tot2.up (S := Unit) (L := fun n m i s => law07_FewDecl_l3 n m i d) d.ctors.length (fun _ _ => True) Yes ?_ ?_ 0 () (by omega) trivial
    · intro i s hi _ next
      refine Tot2.lp (fun n m => by simp only [law07_FewDecl_l3_s, law07_FewDecl_b3]; exact rfl) ?_
      simp only [hi, Int.ofNat_lt, decide_true, cond_true]
      refine Tot2.idx hi ?_
      have hm := (Decl.ctor_le (List.getElem_mem hi)).1
      (repeat' (first | exact Tot.pure trivial | exact Tot2.pure trivial | refine Tot.cnd (fun _ => ?_) (fun _ => ?_) | refine Tot2.cnd (fun _ => ?_) (fun _ => ?_)))
      refine Tot2.idx hi ?_
      refine Tot2.bind1 (law07_small_tot _ (lim_of_cap (by omega))) fun x _ => ?_
      (repeat' (first | exact Tot.pure trivial | exact Tot2.pure trivial | refine Tot.cnd (fun _ => ?_) (fun _ => ?_) | refine Tot2.cnd (fun _ => ?_) (fun _ => ?_)))
      rw [wrap_next (by simp only [cap] at hd hd'; omega)]
      exact next s trivial
    · intro s _
      refine Tot2.lp (fun n m => by simp only [law07_FewDecl_l3_s, law07_FewDecl_b3]; exact rfl) ?_
      simp only [Int.lt_irrefl, decide_false, cond_false]
      exact Tot2.of1 k2
  refine Tot.fn (fun n => by simp only [law07_FewDecl, fu_succ, law07_FewDecl_e]; exact rfl) ?_
  (repeat' (first | exact Tot.pure trivial | exact Tot2.pure trivial | refine Tot.cnd (fun _ => ?_) (fun _ => ?_) | refine Tot2.cnd (fun _ => ?_) (fun _ => ?_)))
  refine Tot.bind (law07_small_tot _ (lim_of_cap (by omega))) fun x _ => ?_
  (repeat' (first | exact Tot.pure trivial | exact Tot2.pure trivial | refine Tot.cnd (fun _ => ?_) (fun _ => ?_) | refine Tot2.cnd (fun _ => ?_) (fun _ => ?_)))
  refine Tot.bind (law07_small_tot _ (lim_of_cap (by omega))) fun x _ => ?_
  (repeat' (first | exact Tot.pure trivial | exact Tot2.pure trivial | refine Tot.cnd (fun _ => ?_) (fun _ => ?_) | refine Tot2.cnd (fun _ => ?_) (fun _ => ?_)))
  refine Tot.bind (law07_small_tot _ (lim_of_cap (by omega))) fun x _ => ?_
  (repeat' (first | exact Tot.pure trivial | exact Tot2.pure trivial | refine Tot.cnd (fun _ => ?_) (fun _ => ?_) | refine Tot2.cnd (fun _ => ?_) (fun _ => ?_)))
  exact k3
structure Small (d : Decl) : Prop where
  p0 : 0 ≤ d.params
  p8 : d.params ≤ 8
  type : Fine d.type
  ctors : ∀ c ∈ d.ctors, Fine c.type
theorem ref12_Closed_fine (d : Decl) (hd : d.bulk ≤ cap) : Tot (fun n => ref12_Closed n d) (fun r => r = true → Small d) := by
  have hd' := hd
  rw [Decl.bulk] at hd'
  have hl1 := d.ctors_len
  refine Tot.fn (fun n => by simp only [ref12_Closed, fu_succ, ref12_Closed_e]; exact rfl) ?_
  refine Tot.cnd (fun _ => Tot.pure (by simp)) fun h0 => ?_
  refine Tot.cnd (fun _ => Tot.pure (by simp)) fun h8 => ?_
  have h0 : ¬ d.params < 0 := by simpa using h0
  have h8 : ¬ (8 : Int) < d.params := by simpa using h8
  refine Tot.bind (ref03_Check_fine _ _ _ _ _ (lim_of_cap (by omega))) fun x hx => ?_
  refine Tot.cnd (fun _ => Tot.pure (by simp)) fun hx0 => ?_
  have hty := hx (bne_eq_false_iff_eq.1 hx0)
  refine Tot.cnd (fun _ => Tot.pure (by simp)) fun _ => ?_
  refine Tot.of2 (F := fun n m => ref12_Closed_l1 n m 0 d) ?_
  refine Tot2.up (S := Unit) (L := fun n m i s => ref12_Closed_l1 n m i d) d.ctors.length (fun i _ => ∀ j (hj : j < d.ctors.length), j < i → Fine d.ctors[j].type) (fun r => r = true → Small d) ?_ ?_ 0 () (by omega) (fun j _ h => by omega)
  · intro i s hi hI next
    refine Tot2.lp (fun n m => by simp only [ref12_Closed_l1_s, ref12_Closed_b1]; exact rfl) ?_
    simp only [hi, Int.ofNat_lt, decide_true, cond_true]
    refine Tot2.idx hi ?_
    have hm := (Decl.ctor_le (List.getElem_mem hi)).1
    refine Tot2.bind1 (ref03_Check_fine _ _ _ _ _ (lim_of_cap (by omega))) fun x hx => ?_
    refine Tot2.cnd (fun _ => Tot2.pure (by simp)) fun hc => ?_
    rw [wrap_next (by simp only [cap] at hd hd'; omega)]
    refine next s fun j hj hlt => ?_
    rcases Nat.lt_succ_iff_lt_or_eq.1 hlt with h | rfl
    · exact hI j hj h
    · exact hx (bne_eq_false_iff_eq.1 hc)
  · intro s hI
    refine Tot2.lp (fun n m => by simp only [ref12_Closed_l1_s, ref12_Closed_b1]; exact rfl) ?_
    simp only [Int.lt_irrefl, decide_false, cond_false]
    refine Tot2.pure fun _ => ⟨by omega, by omega, hty, fun c hc => ?_⟩
    obtain ⟨j, hj, rfl⟩ := List.getElem_of_mem hc
    exact hI j hj hj
theorem law12_Few_fine (d : Decl) (hd : d.bulk ≤ cap) : Tot (fun n => law12_Few n d) (fun r => r = true → Small d) := by
  have hn : d.name.length ≤ cap := by rw [Decl.bulk] at hd; omega
  refine Tot.fn (fun n => by simp only [law12_Few, fu_succ, law12_Few_e]; exact rfl) ?_
  refine Tot.bind (law07_FewDecl_tot d hd) fun x _ => ?_
  refine Tot.cnd (fun _ => ?_) (fun _ => Tot.pure (by simp))
  refine Tot.bind (ref12_Closed_fine d hd) fun y hy => ?_
  refine Tot.cnd (fun h => ?_) (fun _ => Tot.pure (by simp))
  refine Tot.bind (ref03_Name_tot d.name (lim_of_cap hn)) fun z _ => ?_
  exact Tot.pure fun _ => hy h
theorem ctorsT_mem {own : Term} {params : List Term} {k : Nat} : ∀ {l : List Ctor} {cs : List Zs4}, ctorsT own params k l = some cs → ∀ x ∈ cs, ∃ c ∈ l, (ctorT own params k c).2 = true ∧ x = (ctorT own params k c).1
  | [], cs, h => by simp only [ctorsT, Option.some.injEq] at h; subst h; simp
  | c :: l, cs, h => by
    simp only [ctorsT] at h
    cases hc : (ctorT own params k c).2 with
    | false => rw [hc] at h; cases h
    | true =>
      rw [hc, cond_true, Option.map_eq_some_iff] at h
      obtain ⟨cs', h', rfl⟩ := h
      intro x hx
      rcases List.mem_cons.1 hx with rfl | hx
      · exact ⟨c, by simp, hc, rfl⟩
      · obtain ⟨c', h1, h2⟩ := ctorsT_mem h' x hx
        exact ⟨c', by simp [h1], h2⟩
theorem resultT_fine {own : Term} {params : List Term} {k : Nat} {t : Term} {last : Int} (ht : Fine t) : ∀ x ∈ (resultT own params k t last).1, Fine x := by
  unfold resultT
  cases ((spineT t).2.length == params.length + k && (eqb (spineT t).1 own && eqb ((spineT t).2.take params.length) (someVars params.length last))) with
  | true => exact fun x hx => (spineT_fine t ht).1 x (List.mem_of_mem_drop hx)
  | false => exact fun x hx => by cases hx
theorem ctorT_fine {own : Term} {params : List Term} {k : Nat} {c : Ctor} (hc : Fine c.type) : (∀ x ∈ (ctorT own params k c).1.fields, Fine x) ∧ ∀ x ∈ (ctorT own params k c).1.results, Fine x := by
  have hf := allT_fine _ hc
  have no : (∀ x ∈ noCtor.fields, Fine x) ∧ ∀ x ∈ noCtor.results, Fine x := ⟨fun x hx => (by cases hx), fun x hx => (by cases hx)⟩
  unfold ctorT
  cases decide ((allT c.type).1.length < params.length) with
  | true => exact no
  | false =>
    cases eqb ((allT c.type).1.take params.length) params with
    | false => exact no
    | true =>
      cases (resultT own params k (allT c.type).2 (((allT c.type).1.drop params.length).length : Int)).2 with
      | false => exact no
      | true => exact ⟨fun x hx => hf.1 x (List.mem_of_mem_drop hx), resultT_fine hf.2⟩
theorem analyseT_fine {d : Decl} (h : Small d) : ∀ c ∈ (analyseT d).1.ctors, (∀ x ∈ c.fields, Fine x) ∧ ∀ x ∈ c.results, Fine x := by
  unfold analyseT
  cases d.kind != 3 with
  | true => exact fun c hc => by cases hc
  | false =>
    cases decide (d.fixed < 0) || (decide ((allT d.type).1.length < d.fixed) || !((allT d.type).2.kind == 1 || (allT d.type).2.kind == 2)) with
    | true => exact fun c hc => by cases hc
    | false =>
      simp only [cond_false]
      split
      · rename_i cs hcs
        intro c hc
        obtain ⟨c', h1, _, rfl⟩ := ctorsT_mem hcs c hc
        exact ctorT_fine (h.ctors c' h1)
      · exact fun c hc => by cases hc
structure AnalyseOK (d : Decl) (cs : List Zs4) : Prop where
  kind : d.kind = 3
  f0 : 0 ≤ d.fixed
  f1 : d.fixed ≤ (allT d.type).1.length
  sort : (allT d.type).2.kind = 1 ∨ (allT d.type).2.kind = 2
  ctors : ctorsT (Term.mk 3 0 d.name (ownLevels d.params.toNat) []) ((allT d.type).1.take d.fixed.toNat) ((allT d.type).1.drop d.fixed.toNat).length d.ctors = some cs
noncomputable def famOf (d : Decl) (cs : List Zs4) : Family := { name := d.name, levels := d.params, params := (allT d.type).1.take d.fixed.toNat, indices := (allT d.type).1.drop d.fixed.toNat, sort := (allT d.type).2, ctors := cs }
theorem AnalyseOK.eq {d : Decl} {cs : List Zs4} (h : AnalyseOK d cs) : analyseT d = (famOf d cs, 0) := by
  unfold analyseT
  have e1 : (d.kind != 3) = false := by rw [h.kind]; rfl
  have e2 : decide (d.fixed < 0) = false := decide_eq_false (by have := h.f0; omega)
  have e3 : decide (((allT d.type).1.length : Int) < d.fixed) = false := decide_eq_false (by have := h.f1; omega)
  have e4 : ((allT d.type).2.kind == 1 || (allT d.type).2.kind == 2) = true := by
    rcases h.sort with e | e <;> rw [e] <;> rfl
  rw [e1, e2, e3, e4, h.ctors]
  rfl
theorem analyseT_inv {d : Decl} (h : (analyseT d).2 = 0) : ∃ cs, AnalyseOK d cs := by
  unfold analyseT at h
  cases hk : d.kind != 3 with
  | true => rw [hk] at h; simp at h
  | false =>
    rw [hk] at h
    cases hc : decide (d.fixed < 0) || (decide ((allT d.type).1.length < d.fixed) || !((allT d.type).2.kind == 1 || (allT d.type).2.kind == 2)) with
    | true => rw [hc] at h; simp at h
    | false =>
      rw [hc] at h
      simp only [cond_false] at h
      split at h
      · rename_i cs hcs
        simp only [Bool.or_eq_false_iff, decide_eq_false_iff_not, Bool.not_eq_false', Bool.or_eq_true, beq_iff_eq] at hc
        exact ⟨cs, bne_eq_false_iff_eq.1 hk, by omega, by omega, hc.2.2, hcs⟩
      · simp at h
end Go.Abs
namespace Go.Abs
set_option linter.unusedVariables false
set_option linter.unusedSimpArgs false
noncomputable def occT (s : Str) (t : Term) : Bool := (t.kind == 3 && t.name == s) || t.kids.attach.any (fun k => occT s k.1)
termination_by t.bulk
decreasing_by exact Term.kid_lt k.2
theorem occT_eq (s : Str) (t : Term) : occT s t = ((t.kind == 3 && t.name == s) || t.kids.any (occT s)) := by
  have h : ∀ xs : List Term, (xs.attach.any fun k => occT s k.1) = xs.any (occT s) := by
    intro xs
    have := congrArg (List.any · (occT s)) (List.attach_map_subtype_val xs)
    simp only [List.any_map] at this
    rw [← this]; rfl
  rw [occT, h]
theorem any_drop {α : Type} (p : α → Bool) (xs : List α) (i : Nat) (h : i < xs.length) : (xs.drop i).any p = (p xs[i] || (xs.drop (i + 1)).any p) := by
  rw [List.drop_eq_getElem_cons h, List.any_cons]
abbrev oS (s : Str) : (((Str × Unit) × Unit) × Unit) := (((s, ()), ()), ())
theorem IndexFunc_occ (s : Str) (xs : List Term) (hl : xs.length < lim) (h : ∀ x ∈ xs, Ev (fun n => positivity_occurs_1 n x s s) (oS s, occT s x, ())) :
    Tot (fun n => slices_IndexFunc_Term_positivity_occurs_1 n xs s s) (fun r => r.1 = oS s ∧ decide (0 ≤ r.2.1) = xs.any (occT s)) := by
  refine Tot.fn (fun n => by simp only [slices_IndexFunc_Term_positivity_occurs_1, fu_succ, slices_IndexFunc_Term_positivity_occurs_1_e]; exact rfl) ?_
  refine Tot.of2 (F := fun n m => slices_IndexFunc_Term_positivity_occurs_1_l1 (slices_ContainsFunc_Term_positivity_occurs_1 n) (slices_IndexFunc_Term_positivity_occurs_1 n) (positivity_occurs_1 n) n m xs s xs.length 0 s) ?_
  refine Tot2.up (S := Unit) (L := fun n m i _ => slices_IndexFunc_Term_positivity_occurs_1_l1 (slices_ContainsFunc_Term_positivity_occurs_1 n) (slices_IndexFunc_Term_positivity_occurs_1 n) (positivity_occurs_1 n) n m xs s xs.length i s) xs.length (fun i _ => xs.any (occT s) = (xs.drop i).any (occT s)) _ ?_ ?_ 0 () (by omega) rfl
  · intro i u hi hI next
    refine Tot2.lp (fun n m => by simp only [slices_IndexFunc_Term_positivity_occurs_1_l1_s, slices_IndexFunc_Term_positivity_occurs_1_b1]; exact rfl) ?_
    simp only [hi, Int.ofNat_lt, decide_true, cond_true]
    refine Tot2.idx hi ?_
    refine Tot2.bind1 ((h _ (List.getElem_mem hi)).tot (Q := (· = (oS s, occT s xs[i], ()))) rfl) fun x hx => ?_
    subst hx
    rw [any_drop _ _ _ hi] at hI
    refine Tot2.cnd (fun hc => Tot2.pure ⟨rfl, ?_⟩) fun hc => ?_
    · simp only at hc
      rw [hI, hc]; simp
    · rw [wrap_next (by unfold lim at hl; omega)]
      simp only at hc
      exact next u (by rw [hI, hc, Bool.false_or])
  · intro u hI
    refine Tot2.lp (fun n m => by simp only [slices_IndexFunc_Term_positivity_occurs_1_l1_s, slices_IndexFunc_Term_positivity_occurs_1_b1]; exact rfl) ?_
    simp only [Int.lt_irrefl, decide_false, cond_false]
    refine Tot2.pure ⟨rfl, ?_⟩
    rw [hI, List.drop_length]; rfl
theorem ContainsFunc_occ (s : Str) (xs : List Term) (hl : xs.length < lim) (h : ∀ x ∈ xs, Ev (fun n => positivity_occurs_1 n x s s) (oS s, occT s x, ())) :
    Ev (fun n => slices_ContainsFunc_Term_positivity_occurs_1 n xs s s) (oS s, xs.any (occT s), ()) := by
  refine Tot.ev ?_
  refine Tot.fn (fun n => by simp only [slices_ContainsFunc_Term_positivity_occurs_1, fu_succ, slices_ContainsFunc_Term_positivity_occurs_1_e]; exact rfl) ?_
  refine Tot.bind (IndexFunc_occ s xs hl h) fun x hx => ?_
  refine Tot.pure ?_
  rw [hx.1, hx.2]
theorem occurs_1_ev (s : Str) : ∀ t : Term, t.bulk < lim → Ev (fun n => positivity_occurs_1 n t s s) (oS s, occT s t, ()) := by
  intro t
  induction h : t.bulk using Nat.strongRecOn generalizing t with
  | ind k ih =>
    intro hk
    have hl := t.kids_len
    have hc := ContainsFunc_occ s t.kids (by omega) (fun x hx => ih x.bulk (by have := t.kid_lt hx; omega) x rfl (by have := t.kid_lt hx; omega))
    refine Ev.fn (fun n => by simp only [positivity_occurs_1, fu_succ, positivity_occurs_1_e]; exact rfl) ?_
    rw [occT_eq]
    cases h1 : (t.kind == 3) with
    | false =>
      simp only [cond_false, Bool.false_and, Bool.false_or]
      exact Ev.bind hc Ev.pure
    | true =>
      cases h2 : (t.name == s) with
      | false =>
        simp only [cond_true, cond_false, Bool.and_false, Bool.false_or]
        exact Ev.bind hc Ev.pure
      | true =>
        simp only [cond_true, Bool.and_true, Bool.true_or]
        exact Ev.pure
theorem positivity_occurs_ev (s : Str) (xs : List Term) (h : TL xs) : Ev (fun n => positivity_occurs n s xs) (xs.any (occT s)) := by
  refine Ev.fn (fun n => by simp only [positivity_occurs, fu_succ, positivity_occurs_e]; exact rfl) ?_
  exact Ev.bind (ContainsFunc_occ s xs h.lim.1 (fun x hx => occurs_1_ev s x (h.lim.2 x hx))) Ev.pure
theorem TL.one {t : Term} (h : t.bulk ≤ cap) : TL [t] := ⟨by simp [cap], fun x hx => by rw [List.mem_singleton] at hx; subst hx; exact h⟩
theorem positivity_occurs_one (s : Str) (t : Term) (h : t.bulk ≤ cap) : Ev (fun n => positivity_occurs n s [t]) (occT s t) := by
  have := positivity_occurs_ev s [t] (TL.one h)
  simpa using this
-- the reference
noncomputable def posT (s : Str) (t : Term) : Bool :=
  !occT s t || (if h : t.kind = 6 ∧ t.kids.length = 2 then !occT s (t.kids[0]'(by omega)) && posT s (t.kids[1]'(by omega))
    else (spineT t).1.kind == 3 && ((spineT t).1.name == s && !(spineT t).2.any (occT s)))
termination_by t.bulk
decreasing_by all_goals exact Term.kid_lt (List.getElem_mem _)
theorem posT_pi {s : Str} {t x y : Term} (h : t.kind = 6) (hk : t.kids = [x, y]) : posT s t = (!occT s t || (!occT s x && posT s y)) := by
  rw [posT, dif_pos ⟨h, by rw [hk]; rfl⟩]
  simp only [hk, List.getElem_cons_zero, List.getElem_cons_succ]
theorem posT_not {s : Str} {t : Term} (h : ¬ (t.kind = 6 ∧ t.kids.length = 2)) : posT s t = (!occT s t || ((spineT t).1.kind == 3 && ((spineT t).1.name == s && !(spineT t).2.any (occT s)))) := by
  rw [posT, dif_neg h]
theorem posT_of_not {s : Str} {t : Term} (h : occT s t = false) : posT s t = true := by
  rw [posT, h]; rfl
theorem occT_pi {s : Str} {t x y : Term} (h : t.kind = 6) (hk : t.kids = [x, y]) : occT s t = (occT s x || occT s y) := by
  rw [occT_eq, hk, h]; simp
theorem positivity_Positive_ev (s : Str) (t : Term) (ht : t.bulk ≤ cap) (hf : Fine t) : Ev (fun n => positivity_Positive n t s) (posT s t) := by
  refine Ev.fn (fun n => by simp only [positivity_Positive, fu_succ, positivity_Positive_e]; exact rfl) ?_
  refine Ev.of2 (F := fun n m => positivity_Positive_l1 n m s t) ?_
  have tail : ∀ t : Term, t.bulk ≤ cap → ∀ b : Bool, (b = (!occT s t || ((spineT t).1.kind == 3 && ((spineT t).1.name == s && !(spineT t).2.any (occT s))))) → Ev2 (fun n _ => (positivity_occurs n s [t]).bind fun x =>
          bif x then
            (telescope_Spine n t).bind fun x =>
              bif x.fst.kind == 3 then
                bif x.fst.name == s then (positivity_occurs n s x.snd).bind fun x => some !x else some false
              else some false
          else some true) b := by
    intro t ht b hb
    refine Ev2.of1 (Ev.bind (positivity_occurs_one s t ht) ?_)
    subst hb
    cases occT s t with
    | false => exact Ev.pure
    | true =>
      refine Ev.bind (Spine_sem t ht).1 ?_
      have hsp := positivity_occurs_ev s (spineT t).2 (spineT_tl t ht).1
      cases (spineT t).1.kind == 3 with
      | false => exact Ev.pure
      | true =>
        cases (spineT t).1.name == s with
        | false => exact Ev.pure
        | true => exact Ev.bind hsp Ev.pure
  induction h : t.bulk using Nat.strongRecOn generalizing t with
  | ind k ih =>
    refine Ev2.lp (fun n m => by simp only [positivity_Positive_l1_s, positivity_Positive_b1]; exact rfl) ?_
    by_cases hc : t.kind = 6 ∧ t.kids.length = 2
    · obtain ⟨x, y, hxy⟩ := len2 hc.2
      have hb := kids2_bulk hxy
      have i0 : idxA t.kids 0 = some x := by rw [hxy]; rfl
      have i1 : idxA t.kids 1 = some y := by rw [hxy]; rfl
      have e1 : (t.kind == 6) = true := by simp [hc.1]
      have e2 : ((t.kids.length : Int) == 2) = true := by simp [hc.2]
      simp only [e1, e2, cond_true, i0, i1, Option.bind_some]
      refine Ev2.bind1 (positivity_occurs_one s x (by omega)) ?_
      rw [posT_pi hc.1 hxy, occT_pi hc.1 hxy]
      cases hx : occT s x with
      | true =>
        refine tail t ht _ ?_
        rw [occT_pi hc.1 hxy, hx, spineT_not (by rw [hc.1]; simp), hc.1]; rfl
      | false =>
        have := ih y.bulk (by omega) y (by omega) (hf.kid y (by rw [hxy]; simp)) rfl
        simp only [cond_false, Bool.false_or, Bool.not_false, Bool.true_and]
        cases hy : occT s y with
        | false => rw [posT_of_not hy] at this; simpa using this
        | true => simpa using this
    · rw [posT_not hc]
      rcases beq2 t 6 hc with e | ⟨e, e'⟩
      · simp only [e, cond_false]; exact tail t ht _ rfl
      · simp only [e, e', cond_true, cond_false]; exact tail t ht _ rfl
end Go.Abs
namespace Go.Abs
set_option linter.unusedVariables false
set_option linter.unusedSimpArgs false
noncomputable def badF (s : Str) (c : Zs4) (k : Nat) (t : Term) : Bool := occT s t && (!(c.recu.any (fun r => r.field == (k : Int))) || !posT s t)
noncomputable def firstBad (s : Str) (c : Zs4) : Nat → List Term → Option Int
  | _, [] => none
  | k, t :: ts => bif badF s c k t then some k else firstBad s c (k + 1) ts
noncomputable def ctorBad (s : Str) (c : Zs4) : Option Int :=
  match firstBad s c 0 c.fields with
  | some k => some k
  | none => bif c.results.any (occT s) then some (c.fields.length : Int) else none
noncomputable def famBad (s : Str) : Nat → List Zs4 → Option (Int × Int)
  | _, [] => none
  | i, c :: cs => match ctorBad s c with
    | some k => some ((i : Int), k)
    | none => famBad s (i + 1) cs
noncomputable def checkT (d : Decl) : Int × Int × Int :=
  bif (analyseT d).2 != 0 then (0, 0, (analyseT d).2) else
  match famBad (analyseT d).1.name 0 (analyseT d).1.ctors with
  | some (i, k) => (i, k, 16)
  | none => (0, 0, 0)
theorem ContainsFunc_rec (xs : List Zs5) (k : Int) (hl : xs.length < lim) : Ev (fun n => slices_ContainsFunc_RecField_positivity_Check_1 n xs k) (((k, ()), ()), xs.any (fun r => r.field == k), ()) := by
  have h : Tot (fun n => slices_IndexFunc_RecField_positivity_Check_1 n xs k) (fun r => r.1 = ((k, ()), ()) ∧ decide (0 ≤ r.2.1) = xs.any (fun r => r.field == k)) := by
    refine Tot.fn (fun n => by simp only [slices_IndexFunc_RecField_positivity_Check_1, fu_succ, slices_IndexFunc_RecField_positivity_Check_1_e]; exact rfl) ?_
    refine Tot.of2 (F := fun n m => slices_IndexFunc_RecField_positivity_Check_1_l1 n m xs xs.length 0 k) ?_
    refine Tot2.up (S := Unit) (L := fun n m i _ => slices_IndexFunc_RecField_positivity_Check_1_l1 n m xs xs.length i k) xs.length (fun i _ => xs.any (fun r => r.field == k) = (xs.drop i).any (fun r => r.field == k)) _ ?_ ?_ 0 () (by omega) rfl
    · intro i u hi hI next
      refine Tot2.lp (fun n m => by simp only [slices_IndexFunc_RecField_positivity_Check_1_l1_s, slices_IndexFunc_RecField_positivity_Check_1_b1]; exact rfl) ?_
      simp only [hi, Int.ofNat_lt, decide_true, cond_true]
      refine Tot2.idx hi ?_
      have hc1 : Ev (fun n => positivity_Check_1 n xs[i] k) ((k, ()), xs[i].field == k, ()) := by
        refine Ev.fn (fun n => by simp only [positivity_Check_1, fu_succ, positivity_Check_1_e]; exact rfl) ?_
        exact Ev.pure
      refine Tot2.bind1 (hc1.tot (Q := (· = ((k, ()), xs[i].field == k, ()))) rfl) fun x hx => ?_
      subst hx
      rw [any_drop _ _ _ hi] at hI
      refine Tot2.cnd (fun hc => Tot2.pure ⟨rfl, ?_⟩) fun hc => ?_
      · simp only at hc
        rw [hI, hc]; simp
      · rw [wrap_next (by unfold lim at hl; omega)]
        simp only at hc
        exact next u (by rw [hI, hc, Bool.false_or])
    · intro u hI
      refine Tot2.lp (fun n m => by simp only [slices_IndexFunc_RecField_positivity_Check_1_l1_s, slices_IndexFunc_RecField_positivity_Check_1_b1]; exact rfl) ?_
      simp only [Int.lt_irrefl, decide_false, cond_false]
      refine Tot2.pure ⟨rfl, ?_⟩
      rw [hI, List.drop_length]; rfl
  refine Tot.ev ?_
  refine Tot.fn (fun n => by simp only [slices_ContainsFunc_RecField_positivity_Check_1, fu_succ, slices_ContainsFunc_RecField_positivity_Check_1_e]; exact rfl) ?_
  refine Tot.bind h fun x hx => ?_
  refine Tot.pure ?_
  rw [hx.1, hx.2]
def CtorFine (c : Zs4) : Prop := (∀ x ∈ c.fields, Fine x) ∧ ∀ x ∈ c.results, Fine x
abbrev outB : Option (Int × Int) → Int × Int × Int
  | some (i, k) => (i, k, 16)
  | none => (0, 0, 0)
theorem check1_sem (f : Family) (c : Zs4) (hc : CtorOK c) (hg : CtorFine c) (i : Nat) (v0 v1 v3 v4 : Int) (vs : List Zs4) (i0 : Nat) (hi0 : i0 = i) (X : Nat → Nat → Int → Int → List Zs4 → Int → Int → Family → Option (Int × Int × Int)) (r : Int × Int × Int)
    (hX : ctorBad f.name c = none → Ev2 (fun n m => X n m v0 v1 vs v3 (((i + 1 : Nat) : Int)) f) r) (hr : ∀ k, ctorBad f.name c = some k → r = ((i : Int), k, 16)) (hil : (i : Int) < 9223372036854775807) :
    Ev2 (fun n m => positivity_Check_l1 n (X n m) n v0 v1 i vs v3 i c.fields c.fields.length 0 f c) r := by
  obtain ⟨hf, hres, hrl, hrec⟩ := hc
  have hneg : decide ((i : Int) < 0) = false := decide_eq_false (by omega)
  have key : ∀ (d k : Nat), d + k = c.fields.length → ctorBad f.name c = (match firstBad f.name c k (c.fields.drop k) with | some k => some k | none => bif c.results.any (occT f.name) then some (c.fields.length : Int) else none) →
      ∃ N, ∀ n m j, N ≤ n → N ≤ m → N ≤ j → positivity_Check_l1 n (X n m) j v0 v1 i vs v3 i c.fields c.fields.length k f c = some r := by
    intro d
    induction d with
    | zero =>
      intro k hk hcb
      obtain rfl : k = c.fields.length := by omega
      rw [List.drop_length] at hcb
      simp only [firstBad] at hcb
      obtain ⟨N1, h1⟩ := positivity_occurs_ev f.name c.results hres
      cases ho : c.results.any (occT f.name) with
      | true =>
        rw [ho, cond_true] at hcb
        refine ⟨N1 + 1, fun n m j hn hm hj => ?_⟩
        obtain ⟨j, rfl⟩ : ∃ q, j = q + 1 := ⟨j - 1, by omega⟩
        simp only [positivity_Check_l1_s, positivity_Check_b1, Int.lt_irrefl, decide_false, cond_false, h1 n (by omega), Option.bind_some, ho, cond_true, hneg, hr _ hcb]
      | false =>
        rw [ho, cond_false] at hcb
        obtain ⟨N2, h2⟩ := hX hcb
        refine ⟨N1 + N2 + 1, fun n m j hn hm hj => ?_⟩
        obtain ⟨j, rfl⟩ : ∃ q, j = q + 1 := ⟨j - 1, by omega⟩
        simp only [positivity_Check_l1_s, positivity_Check_b1, Int.lt_irrefl, decide_false, cond_false, h1 n (by omega), Option.bind_some, ho]
        rw [wrap_next (by omega)]
        exact h2 n m (by omega) (by omega)
    | succ d ih =>
      intro k hk hcb
      have hk' : k < c.fields.length := by omega
      have hflen := hf.lim.1
      have hb := hf.2 _ (List.getElem_mem hk')
      obtain ⟨N1, h1⟩ := ContainsFunc_rec c.recu (k : Int) (lim_of_cap hrl)
      obtain ⟨N2, h2⟩ := positivity_occurs_one f.name c.fields[k] hb
      obtain ⟨N3, h3⟩ := positivity_Positive_ev f.name c.fields[k] hb (hg.1 _ (List.getElem_mem hk'))
      have hw : IntKind.i64.wrap ((k : Int) + 1) = ((k + 1 : Nat) : Int) := wrap_next (by unfold lim at hflen; omega)
      rw [List.drop_eq_getElem_cons hk'] at hcb
      simp only [firstBad] at hcb
      cases hbad : badF f.name c k c.fields[k] with
      | true =>
        rw [hbad, cond_true] at hcb
        refine ⟨N1 + N2 + N3 + 1, fun n m j hn hm hj => ?_⟩
        obtain ⟨j, rfl⟩ : ∃ q, j = q + 1 := ⟨j - 1, by omega⟩
        simp only [positivity_Check_l1_s, positivity_Check_b1, hk', Int.ofNat_lt, decide_true, cond_true, idxA_at hk', Option.bind_some, h1 n (by omega), h2 n (by omega), h3 n (by omega), hneg, cond_false]
        simp only [badF, Bool.and_eq_true, Bool.or_eq_true, Bool.not_eq_true'] at hbad
        rw [hbad.1, cond_true]
        rcases hbad.2 with e | e
        · rw [e, cond_false, hr _ hcb]
        · rw [e]
          cases c.recu.any fun r => r.field == (k : Int) <;> simp only [cond_true, cond_false, hr _ hcb]
      | false =>
        rw [hbad, cond_false] at hcb
        obtain ⟨N4, h4⟩ := ih (k + 1) (by omega) hcb
        refine ⟨N1 + N2 + N3 + N4 + 1, fun n m j hn hm hj => ?_⟩
        obtain ⟨j, rfl⟩ : ∃ q, j = q + 1 := ⟨j - 1, by omega⟩
        have h4' := h4 n m j (by omega) (by omega) (by omega)
        simp only [positivity_Check_l1_s, positivity_Check_b1, hk', Int.ofNat_lt, decide_true, cond_true, idxA_at hk', Option.bind_some, h1 n (by omega), h2 n (by omega), h3 n (by omega), hneg, cond_false, hw, h4']
        simp only [badF, Bool.and_eq_false_iff, Bool.or_eq_false_iff, Bool.not_eq_false'] at hbad
        rcases hbad with e | ⟨e1, e2⟩
        · rw [e, cond_false]
        · rw [e1, e2]; simp only [cond_true]
          cases occT f.name c.fields[k] <;> rfl
  obtain ⟨N, h⟩ := key c.fields.length 0 (by omega) (by rw [List.drop_zero]; rfl)
  exact ⟨N, fun n m hn hm => h n m n hn hm hn⟩
theorem positivity_Check_loop (f : Family) (hf : FamOK f) (hg : ∀ c ∈ f.ctors, CtorFine c) : Ev (fun n => positivity_Check_l2 n n (-1) 0 f.ctors f.ctors.length 0 f) (outB (famBad f.name 0 f.ctors)) := by
  obtain ⟨_, _, _, hl, hok⟩ := hf
  refine Ev.of2 (F := fun n m => positivity_Check_l2 n m (-1) 0 f.ctors f.ctors.length 0 f) ?_
  have key : ∀ (d i : Nat), d + i = f.ctors.length → Ev2 (fun n m => positivity_Check_l2 n m (-1) 0 f.ctors f.ctors.length i f) (outB (famBad f.name i (f.ctors.drop i))) := by
    intro d
    induction d with
    | zero =>
      intro i hi
      obtain rfl : i = f.ctors.length := by omega
      refine Ev2.lp (fun n m => by simp only [positivity_Check_l2_s, positivity_Check_b2]; exact rfl) ?_
      rw [List.drop_length]
      simp only [Int.lt_irrefl, decide_false, cond_false]
      exact Ev2.pure
    | succ d ih =>
      intro i hi
      have hi' : i < f.ctors.length := by omega
      have hmem := List.getElem_mem hi'
      refine Ev2.lp (fun n m => by simp only [positivity_Check_l2_s, positivity_Check_b2]; exact rfl) ?_
      simp only [hi', Int.ofNat_lt, decide_true, cond_true]
      refine Ev2.idx hi' ?_
      rw [List.drop_eq_getElem_cons hi']
      refine check1_sem f f.ctors[i] (hok _ hmem) (hg _ hmem) i (-1) 0 f.ctors.length i f.ctors i rfl (fun n m => positivity_Check_l2 n m) _ ?_ ?_ (by simp only [cap] at hl; omega)
      · intro hb
        simp only [famBad, hb]
        exact ih (i + 1) (by omega)
      · intro k hb
        simp only [famBad, hb]
  have := key f.ctors.length 0 (by omega)
  simpa using this
theorem positivity_Check_sem (d : Decl) (hd : d.bulk ≤ cap) (hs : Small d) : Ev (fun n => positivity_Check n d) (checkT d) := by
  refine Ev.fn (fun n => by simp only [positivity_Check, fu_succ, positivity_Check_e]; exact rfl) ?_
  refine Ev.bind (Analyse_sem d hd hs.p0 hs.p8).1 ?_
  unfold checkT
  cases he : ((analyseT d).2 != 0) with
  | true => simp only [cond_true]; exact Ev.pure
  | false =>
    simp only [cond_false]
    exact positivity_Check_loop _ (analyseT_ok hd) (analyseT_fine hs)
end Go.Abs
namespace Go.Abs
set_option linter.unusedVariables false
set_option linter.unusedSimpArgs false
noncomputable def pisT (ctx : List Term) (t : Term) : Term := ctx.foldr (fun a t => Term.mk 6 0 [] [] [a, t]) t
noncomputable def appsT (f : Term) (args : List Term) : Term := args.foldl (fun f a => Term.mk 4 0 [] [] [f, a]) f
theorem pisT_drop {ctx : List Term} {t : Term} {k : Nat} (hk : k < ctx.length) : pisT (ctx.drop k) t = Term.mk 6 0 [] [] [ctx[k], pisT (ctx.drop (k + 1)) t] := by
  rw [List.drop_eq_getElem_cons hk]; rfl
theorem appsT_take {f : Term} {args : List Term} {k : Nat} (hk : k < args.length) : appsT f (args.take (k + 1)) = Term.mk 4 0 [] [] [appsT f (args.take k), args[k]] := by
  rw [List.take_succ_eq_append_getElem hk]; simp only [appsT, List.foldl_append, List.foldl_cons, List.foldl_nil]
theorem mk2_bulk (k : Int) (x y : Term) : (Term.mk k 0 [] [] [x, y]).bulk = x.bulk + y.bulk + 6 := by
  simp only [Term.bulk_eq (Term.mk _ _ _ _ _), Term.name, Term.levels, Term.kids, sumB, List.length_nil]; omega
theorem appsT_bulk {K : Nat} : ∀ (args : List Term) (t : Term), (∀ x ∈ args, x.bulk ≤ K) → (appsT t args).bulk ≤ t.bulk + args.length * (K + 10)
  | [], t, _ => by simp [appsT]
  | x :: ctx, t, h => by
    have h1 := appsT_bulk ctx (Term.mk 4 0 [] [] [t, x]) fun y hy => h y (List.mem_cons_of_mem _ hy)
    have h2 := h x (List.mem_cons_self ..)
    show (appsT (Term.mk 4 0 [] [] [t, x]) ctx).bulk ≤ _
    rw [mk2_bulk] at h1
    rw [List.length_cons, Nat.succ_mul]; omega
theorem bind_loop (ctx : List Term) (t : Term) (hl : ctx.length < lim) : ∀ k : Nat, k ≤ ctx.length → Ev2 (fun n m => ref05_bind_i2_l1 n m 6 ctx ((k : Int) - 1) (pisT (ctx.drop k) t)) (pisT ctx t)
  | 0, _ => by
    refine Ev2.lp (fun n m => by simp only [ref05_bind_i2_l1_s, ref05_bind_i2_b1]; exact rfl) ?_
    have : decide ((0 : Int) ≤ ((0 : Nat) : Int) - 1) = false := by simp
    simp only [this, cond_false, List.drop_zero]
    exact Ev2.pure
  | k + 1, hk => by
    have e : ((k + 1 : Nat) : Int) - 1 = (k : Int) := by omega
    rw [e]
    refine Ev2.lp (fun n m => by simp only [ref05_bind_i2_l1_s, ref05_bind_i2_b1]; exact rfl) ?_
    have : decide ((0 : Int) ≤ (k : Int)) = true := by simp
    simp only [this, cond_true]
    refine Ev2.idx (by omega) ?_
    rw [wrap_small (by omega) (by unfold lim at hl; omega), ← pisT_drop (by omega)]
    exact bind_loop ctx t hl k (by omega)
theorem ref05_Pis_i2_ev (ctx : List Term) (t : Term) (hl : ctx.length < lim) : Ev (fun n => ref05_Pis_i2 n ctx t) (pisT ctx t) := by
  refine Ev.fn (fun n => by simp only [ref05_Pis_i2, fu_succ, ref05_Pis_i2_e]; exact rfl) ?_
  refine Ev.bind (x := pisT ctx t) ?_ Ev.pure
  refine Ev.fn (fun n => by simp only [ref05_bind_i2, fu_succ, ref05_bind_i2_e]; exact rfl) ?_
  rw [wrap_small (by omega) (by unfold lim at hl; omega)]
  have := bind_loop ctx t hl ctx.length (Nat.le_refl _)
  rw [List.drop_length] at this
  exact Ev.of2 this
theorem Apply_ev (f : Term) (args : List Term) (hl : args.length < lim) : Ev (fun n => ref05_Apply n f args) (appsT f args) := by
  refine Ev.fn (fun n => by simp only [ref05_Apply, fu_succ, ref05_Apply_e]; exact rfl) ?_
  refine Tot.ev ?_
  refine Tot.of2 (F := fun n m => ref05_Apply_l1 n m args 0 f) ?_
  refine Tot2.up (S := Term) (L := fun n m i s => ref05_Apply_l1 n m args i s) args.length (fun i s => s = appsT f (args.take i)) (· = appsT f args) ?_ ?_ 0 _ (by omega) (by simp [appsT])
  · intro i s hi hs next
    refine Tot2.lp (fun n m => by simp only [ref05_Apply_l1_s, ref05_Apply_b1]; exact rfl) ?_
    simp only [hi, Int.ofNat_lt, decide_true, cond_true]
    refine Tot2.idx hi ?_
    rw [wrap_next (by unfold lim at hl; omega)]
    refine next _ ?_
    rw [hs, appsT_take hi]
  · intro s hs
    refine Tot2.lp (fun n m => by simp only [ref05_Apply_l1_s, ref05_Apply_b1]; exact rfl) ?_
    simp only [Int.lt_irrefl, decide_false, cond_false]
    refine Tot2.pure ?_
    rw [hs, List.take_length]
theorem someVars_len (k : Nat) (f : Int) : (someVars k f).length ≤ 4096 := by
  unfold someVars
  split
  · simp
  · rw [varsT_len]; omega
theorem ownLevels_bulk (p : Nat) : sumB Level.bulk (ownLevels p) ≤ 1 + p * 20 := by
  induction p with
  | zero => simp [ownLevels, sumB]
  | succ p ih =>
    have : ∀ (xs : List Level) (y : Level), sumB Level.bulk (xs ++ [y]) = sumB Level.bulk xs + y.bulk := by
      intro xs y
      induction xs with
      | nil => simp only [List.nil_append, sumB]; omega
      | cons x xs ih => simp only [List.cons_append, sumB, ih]; omega
    rw [ownLevels_succ, this]
    simp only [Level.bulk, Zs2.bulk, sumB]
    omega
end Go.Abs
namespace Go.Abs
set_option linter.unusedVariables false
set_option linter.unusedSimpArgs false
theorem allT_pisT (t : Term) : ∀ tel : List Term, allT (pisT tel t) = (tel ++ (allT t).1, (allT t).2)
  | [] => rfl
  | a :: tel => by
    show allT (Term.mk 6 0 [] [] [a, pisT tel t]) = _
    rw [allT_pi (x := a) (y := pisT tel t) rfl rfl, allT_pisT t tel]
    rfl
theorem spineT_appsT : ∀ (args : List Term) (f : Term), spineT (appsT f args) = ((spineT f).1, (spineT f).2 ++ args)
  | [], f => by simp [appsT]
  | a :: args, f => by
    show spineT (appsT (Term.mk 4 0 [] [] [f, a]) args) = _
    rw [spineT_appsT args, spineT_app (x := f) (y := a) rfl rfl]
    simp
theorem appsT_kind : ∀ (args : List Term) (f : Term), f.kind ≠ 6 → (appsT f args).kind ≠ 6
  | [], f, h => h
  | a :: args, f, _ => appsT_kind args (Term.mk 4 0 [] [] [f, a]) (show (4 : Int) ≠ 6 by decide)
theorem pisT_bulk_eq (t : Term) : ∀ tel : List Term, (pisT tel t).bulk = t.bulk + (sumB Term.bulk tel - 1) + tel.length * 6
  | [] => by simp [pisT, sumB]
  | a :: tel => by
    show (Term.mk 6 0 [] [] [a, pisT tel t]).bulk = _
    rw [mk2_bulk, pisT_bulk_eq t tel, sumB, List.length_cons, Nat.succ_mul]
    have := sumB_pos (bk := Term.bulk) tel
    omega
theorem sumB_app {α : Type} {f : α → Nat} (ys : List α) : ∀ xs : List α, sumB f (xs ++ ys) + 1 = sumB f xs + sumB f ys
  | [] => by simp only [List.nil_append, sumB]; omega
  | x :: xs => by have := sumB_app (f := f) ys xs; simp only [List.cons_append, sumB]; omega
def propT : Term := Term.mk 1 0 [] [] []
theorem propT_bulk : propT.bulk = 6 := by
  simp only [propT, Term.bulk_eq (Term.mk _ _ _ _ _), Term.name, Term.levels, Term.kids, sumB, List.length_nil]
theorem allT_propT : allT propT = ([], propT) := allT_not (by decide)
theorem Fine.bin {k : Int} {a b : Term} (ha : Fine a) (hb : Fine b) : Fine (Term.mk k 0 [] [] [a, b]) :=
  Fine.mk _ (fun _ => ⟨rfl, rfl, rfl, rfl⟩) fun x hx => by
    have : x = a ∨ x = b := by simpa [Term.kids] using hx
    rcases this with rfl | rfl
    · exact ha
    · exact hb
theorem Fine.leaf {k i : Int} {s : Str} {l : List Level} (h4 : k ≠ 4) (h6 : k ≠ 6) : Fine (Term.mk k i s l []) :=
  Fine.mk _ (fun h => by rcases h with h | h <;> simp only [Term.kind] at h <;> contradiction) fun x hx => by simp [Term.kids] at hx
theorem Fine.pis {t : Term} (ht : Fine t) : ∀ {tel : List Term}, (∀ x ∈ tel, Fine x) → Fine (pisT tel t)
  | [], _ => ht
  | a :: tel, h => Fine.bin (h a (List.mem_cons_self ..)) (Fine.pis ht fun x hx => h x (List.mem_cons_of_mem _ hx))
theorem Fine.apps : ∀ {args : List Term} {t : Term}, Fine t → (∀ x ∈ args, Fine x) → Fine (appsT t args)
  | [], _, ht, _ => ht
  | a :: args, t, ht, h => Fine.apps (t := Term.mk 4 0 [] [] [t, a]) (Fine.bin ht (h a (List.mem_cons_self ..))) fun x hx => h x (List.mem_cons_of_mem _ hx)
theorem someVars_mem {k : Nat} {f : Int} {x : Term} (h : x ∈ someVars k f) : ∃ i, x = Term.mk 0 i [] [] [] := by
  unfold someVars at h
  split at h
  · cases h
  · simp only [varsT, List.mem_map] at h
    obtain ⟨i, _, rfl⟩ := h
    exact ⟨_, rfl⟩
theorem someVars_length {k : Nat} {f : Int} (hk : k ≤ 60) (hf : 0 ≤ f) : (someVars k f).length = k := by
  unfold someVars
  split
  · rename_i h; simp only [List.length_nil]; omega
  · exact varsT_len k f
section
variable (s : Str) (p : Nat) (params : List Term)
noncomputable def ownT : Term := Term.mk 3 0 s (ownLevels p) []
noncomputable def selfT (f : Int) : Term := appsT (ownT s p) (someVars params.length f)
variable {s p params}
theorem selfT_spine (f : Int) : spineT (selfT s p params f) = (ownT s p, someVars params.length f) := by
  rw [selfT, spineT_appsT, spineT_not (by simp [ownT, Term.kind])]; rfl
theorem selfT_all (f : Int) : allT (selfT s p params f) = ([], selfT s p params f) :=
  allT_not fun h => appsT_kind (someVars params.length f) (ownT s p) (show (3 : Int) ≠ 6 by decide) h.1
theorem selfT_result {f : Int} (hp : params.length ≤ 60) (hf : 0 ≤ f) : resultT (ownT s p) params 0 (selfT s p params f) f = ([], true) := by
  unfold resultT
  rw [selfT_spine]
  have hl := someVars_length hp hf
  have h1 : ((someVars params.length f).length == params.length + 0) = true := by rw [hl]; simp
  have h2 : (someVars params.length f).take params.length = someVars params.length f := List.take_of_length_le (Nat.le_of_eq hl)
  have h3 : (someVars params.length f).drop params.length = [] := List.drop_eq_nil_of_le (Nat.le_of_eq hl)
  simp only [h1, h2, h3, eqb_self, Bool.and_true, cond_true]
theorem propT_result (f : Int) : (resultT (ownT s p) params 0 propT f).2 = false := by
  unfold resultT
  have he : eqb propT (ownT s p) = false := eqb_false fun e => by
    have := congrArg Term.kind e
    simp [propT, ownT, Term.kind] at this
  rw [spineT_not (by decide)]
  simp only [he, Bool.false_and, Bool.and_false, cond_false]
theorem occT_own : occT s (ownT s p) = true := by
  rw [occT_eq]; simp [ownT, Term.kind, Term.name]
theorem occT_app {f a : Term} : occT s (Term.mk 4 0 [] [] [f, a]) = (occT s f || occT s a) := by
  rw [occT_eq]; simp [Term.kind, Term.kids]
theorem occT_apps : ∀ (args : List Term) (f : Term), occT s f = true → occT s (appsT f args) = true
  | [], _, h => h
  | a :: args, f, h => occT_apps args (Term.mk 4 0 [] [] [f, a]) (by rw [occT_app, h]; rfl)
theorem occT_self (f : Int) : occT s (selfT s p params f) = true := occT_apps _ _ occT_own
theorem occT_prop : occT s propT = false := by rw [occT_eq]; simp [propT, Term.kind, Term.kids]
theorem occT_vars (k : Nat) (f : Int) : (someVars k f).any (occT s) = false := by
  rw [List.any_eq_false]
  intro x hx
  obtain ⟨i, rfl⟩ := someVars_mem hx
  rw [occT_eq]; simp [Term.kind, Term.kids]
noncomputable def fieldsT (n : Nat) (t : Term) : List Term := List.replicate n propT ++ [t]
theorem recsT_props (t : Term) : ∀ (n i : Nat), recsT (ownT s p) params 0 i (fieldsT n t) = recsT (ownT s p) params 0 (i + n) [t]
  | 0, i => rfl
  | n + 1, i => by
    show recsT (ownT s p) params 0 i (propT :: fieldsT n t) = _
    rw [recsT, allT_propT]
    simp only [propT_result, cond_false]
    rw [recsT_props t n (i + 1)]
    congr 1; omega
theorem firstBad_props (c : Zs4) (t : Term) : ∀ (n i : Nat), firstBad s c i (fieldsT n t) = firstBad s c (i + n) [t]
  | 0, i => rfl
  | n + 1, i => by
    show firstBad s c i (propT :: fieldsT n t) = _
    rw [firstBad]
    have : badF s c i propT = false := by unfold badF; rw [occT_prop]; rfl
    rw [this, cond_false, firstBad_props c t n (i + 1)]
    congr 1; omega
noncomputable abbrev piT (a b : Term) : Term := Term.mk 6 0 [] [] [a, b]
theorem ctorT_self {name : Str} {fields : List Term} (hp : params.length ≤ 60) :
    ctorT (ownT s p) params 0 { name := name, type := pisT params (pisT fields (selfT s p params fields.length)) } = ({ name := name, fields := fields, recu := recsT (ownT s p) params 0 0 fields, results := [] }, true) := by
  unfold ctorT
  simp only [allT_pisT, selfT_all, List.append_nil]
  have h1 : decide ((params ++ fields).length < params.length) = false := decide_eq_false (by simp)
  have h2 : (params ++ fields).take params.length = params := by simp
  have h3 : (params ++ fields).drop params.length = fields := by simp
  simp only [h1, h2, h3, eqb_self, cond_true, cond_false, selfT_result hp (Int.natCast_nonneg _)]
theorem ctorBad_first {name : Str} {n : Nat} {f : Int} :
    ctorBad s { name := name, fields := fieldsT n (piT (selfT s p params f) propT), recu := recsT (ownT s p) params 0 0 (fieldsT n (piT (selfT s p params f) propT)), results := [] } = some (n : Int) := by
  unfold ctorBad
  simp only
  rw [firstBad_props, recsT_props]
  have hr : recsT (ownT s p) params 0 (0 + n) [piT (selfT s p params f) propT] = [] := by
    rw [recsT, allT_pi (x := selfT s p params f) (y := propT) rfl rfl, allT_propT]
    simp only [propT_result, cond_false]
    rfl
  rw [hr, firstBad]
  have : badF s { name := name, fields := fieldsT n (piT (selfT s p params f) propT), recu := [], results := [] } (0 + n) (piT (selfT s p params f) propT) = true := by
    unfold badF
    rw [occT_pi (x := selfT s p params f) (y := propT) rfl rfl, occT_self]
    rfl
  rw [this]
  simp
theorem posT_self {f : Int} : posT s (selfT s p params f) = true := by
  have hk : ¬ ((selfT s p params f).kind = 6 ∧ (selfT s p params f).kids.length = 2) := fun h => appsT_kind (someVars params.length f) (ownT s p) (show (3 : Int) ≠ 6 by decide) h.1
  rw [posT_not hk, selfT_spine, occT_self, occT_vars]
  simp [ownT, Term.kind, Term.name]
theorem ctorBad_second {name : Str} {n : Nat} (hp : params.length ≤ 60) :
    ctorBad s { name := name, fields := fieldsT n (piT propT (selfT s p params ((n + 1 : Nat) : Int))), recu := recsT (ownT s p) params 0 0 (fieldsT n (piT propT (selfT s p params ((n + 1 : Nat) : Int)))), results := [] } = none := by
  unfold ctorBad
  simp only
  rw [firstBad_props, recsT_props]
  have hr : recsT (ownT s p) params 0 (0 + n) [piT propT (selfT s p params ((n + 1 : Nat) : Int))] = [{ field := n, args := [propT], results := [] }] := by
    rw [recsT, allT_pi (x := propT) (y := selfT s p params ((n + 1 : Nat) : Int)) rfl rfl, selfT_all]
    have e : ((0 + n + ([propT] : List Term).length : Nat) : Int) = ((n + 1 : Nat) : Int) := by simp
    simp only [e, selfT_result hp (Int.natCast_nonneg _), cond_true]
    simp [recsT]
  rw [hr, firstBad]
  have : badF s { name := name, fields := fieldsT n (piT propT (selfT s p params ((n + 1 : Nat) : Int))), recu := [{ field := n, args := [propT], results := [] }], results := [] } (0 + n) (piT propT (selfT s p params ((n + 1 : Nat) : Int))) = false := by
    unfold badF
    rw [posT_pi (x := propT) (y := selfT s p params ((n + 1 : Nat) : Int)) rfl rfl, occT_prop, posT_self]
    simp
  rw [this]
  simp [firstBad]
end
theorem ctorsT_append {own : Term} {params : List Term} {k : Nat} {c : Ctor} {cf : Zs4} (hc : ctorT own params k c = (cf, true)) : ∀ {l : List Ctor} {cs : List Zs4}, ctorsT own params k l = some cs → ctorsT own params k (l ++ [c]) = some (cs ++ [cf])
  | [], cs, h => by
    simp only [ctorsT, Option.some.injEq] at h
    subst h
    simp [ctorsT, hc]
  | x :: l, cs, h => by
    simp only [ctorsT] at h
    cases hx : (ctorT own params k x).2 with
    | false => rw [hx] at h; cases h
    | true =>
      rw [hx, cond_true, Option.map_eq_some_iff] at h
      obtain ⟨cs', h', rfl⟩ := h
      simp only [List.cons_append, ctorsT, hx, cond_true, ctorsT_append hc h', Option.map_some]
theorem ctorsT_len {own : Term} {params : List Term} {k : Nat} : ∀ {l : List Ctor} {cs : List Zs4}, ctorsT own params k l = some cs → cs.length = l.length
  | [], cs, h => by simp only [ctorsT, Option.some.injEq] at h; subst h; rfl
  | x :: l, cs, h => by
    simp only [ctorsT] at h
    cases hx : (ctorT own params k x).2 with
    | false => rw [hx] at h; cases h
    | true =>
      rw [hx, cond_true, Option.map_eq_some_iff] at h
      obtain ⟨cs', h', rfl⟩ := h
      rw [List.length_cons, List.length_cons, ctorsT_len h']
theorem famBad_append {s : Str} {cf : Zs4} : ∀ {cs : List Zs4} {i : Nat}, famBad s i cs = none → famBad s i (cs ++ [cf]) = (match ctorBad s cf with | some k => some (((i + cs.length : Nat) : Int), k) | none => none)
  | [], i, _ => by
    simp only [List.nil_append, famBad, List.length_nil, Nat.add_zero]
    all_goals (cases ctorBad s cf <;> rfl)
  | c :: cs, i, h => by
    simp only [famBad] at h
    cases hb : ctorBad s c with
    | some k => rw [hb] at h; cases h
    | none =>
      rw [hb] at h
      simp only [List.cons_append, famBad, hb, List.length_cons]
      rw [famBad_append h]
      have : i + 1 + cs.length = i + (cs.length + 1) := by omega
      rw [this]
noncomputable def Decl.more (d : Decl) (c : Ctor) : Decl := { kind := d.kind, name := d.name, params := d.params, type := d.type, value := d.value, fixed := d.fixed, ctors := d.ctors ++ [c], recu := d.recu, funs := d.funs }
theorem more_bulk (d : Decl) (c : Ctor) : (d.more c).bulk + 1 = d.bulk + sumB Ctor.bulk [c] := by
  rw [Decl.bulk, Decl.bulk]
  have := sumB_app (f := Ctor.bulk) [c] d.ctors
  simp only [Decl.more]
  omega
theorem more_small {d : Decl} {c : Ctor} (hs : Small d) (hc : Fine c.type) : Small (d.more c) :=
  ⟨hs.p0, hs.p8, hs.type, fun x hx => by
    rcases List.mem_append.1 hx with h | h
    · exact hs.ctors x h
    · rw [List.mem_singleton.1 h]; exact hc⟩
theorem more_check {d : Decl} {cs : List Zs4} (h : AnalyseOK d cs) (h0 : (checkT d).2.2 = 0) {c : Ctor} {cf : Zs4}
    (hc : ctorT (Term.mk 3 0 d.name (ownLevels d.params.toNat) []) ((allT d.type).1.take d.fixed.toNat) ((allT d.type).1.drop d.fixed.toNat).length c = (cf, true)) :
    checkT (d.more c) = (match ctorBad d.name cf with | some k => ((d.ctors.length : Int), k, 16) | none => (0, 0, 0)) := by
  have h' : AnalyseOK (d.more c) (cs ++ [cf]) := ⟨h.kind, h.f0, h.f1, h.sort, ctorsT_append hc h.ctors⟩
  have hlen := ctorsT_len h.ctors
  unfold checkT at h0 ⊢
  rw [h.eq] at h0
  rw [h'.eq]
  have hb : famBad d.name 0 cs = none := by
    simp only [famOf, bne_self_eq_false, cond_false] at h0
    cases hf : famBad d.name 0 cs with
    | none => rfl
    | some x => rw [hf] at h0; simp at h0
  have := famBad_append (cf := cf) hb
  simp only [famOf, bne_self_eq_false, cond_false, Decl.more]
  rw [this]
  cases ctorBad d.name cf with
  | none => rfl
  | some k => simp only [Nat.zero_add]; rw [hlen]
end Go.Abs
namespace Go.Abs
set_option linter.unusedVariables false
set_option linter.unusedSimpArgs false
theorem Ev.pc {R : Type} {F : Nat → Option R} {r : R} {p : Prop} (h : p) (hg : Ev F r) : Ev (fun n => pcond p (F n)) r := by
  have : p = True := eq_true h
  simp only [this, pcond_true]; exact hg
theorem bindX_loop (ctx : List Term) (t : Term) (hl : ctx.length < lim) : ∀ k : Nat, k ≤ ctx.length → Ev2 (fun n m => ref05_bind_l1 n m 6 ((k : Int) - 1) ctx (pisT (ctx.drop k) t)) ((ctx, ()), pisT ctx t, ())
  | 0, _ => by
    refine Ev2.lp (fun n m => by simp only [ref05_bind_l1_s, ref05_bind_b1]; exact rfl) ?_
    have : decide ((0 : Int) ≤ ((0 : Nat) : Int) - 1) = false := by simp
    simp only [this, cond_false, List.drop_zero]
    exact Ev2.pure
  | k + 1, hk => by
    have e : ((k + 1 : Nat) : Int) - 1 = (k : Int) := by omega
    rw [e]
    refine Ev2.lp (fun n m => by simp only [ref05_bind_l1_s, ref05_bind_b1]; exact rfl) ?_
    have : decide ((0 : Int) ≤ (k : Int)) = true := by simp
    have hk' : k < ctx.length := by omega
    simp only [this, cond_true, Int.toNat_natCast, List.getElem?_eq_getElem hk', Option.bind_some]
    refine Ev2.idx (by omega) ?_
    rw [wrap_small (by omega) (by unfold lim at hl; omega), ← pisT_drop (by omega)]
    exact bindX_loop ctx t hl k (by omega)
theorem PisX_ev (ctx : List Term) (t : Term) (hl : ctx.length < lim) : Ev (fun n => ref05_Pis n t ctx) ((ctx, ()), pisT ctx t, ()) := by
  refine Ev.fn (fun n => by simp only [ref05_Pis, fu_succ, ref05_Pis_e]; exact rfl) ?_
  refine Ev.bind (x := ((ctx, ()), pisT ctx t, ())) ?_ Ev.pure
  refine Ev.fn (fun n => by simp only [ref05_bind, fu_succ, ref05_bind_e]; exact rfl) ?_
  rw [wrap_small (by omega) (by unfold lim at hl; omega)]
  have := bindX_loop ctx t hl ctx.length (Nat.le_refl _)
  rw [List.drop_length] at this
  exact Ev.of2 this
theorem Result_ev (d : Decl) (cs : List Zs4) (hs : Small d) (hP : (famOf d cs).params.length ≤ 60) (k : Nat) (hk : k < 10) :
    Ev (fun n => ref12_Result n (famOf d cs) k []) (selfT d.name d.params.toNat (famOf d cs).params k) := by
  have hp0 := hs.p0
  have hp8 := hs.p8
  obtain ⟨p, hp⟩ : ∃ p : Nat, d.params = p := ⟨d.params.toNat, by omega⟩
  refine Ev.fn (fun n => by simp only [ref12_Result, fu_succ, ref12_Result_e]; exact rfl) ?_
  have e1 : (famOf d cs).levels = (p : Int) := hp
  have e2 : (famOf d cs).name = d.name := rfl
  rw [e1, e2, hp, Int.toNat_natCast]
  refine Ev.bind (ref12_Own_ev d.name p (by omega)) (Ev.bind (Vars_ev (famOf d cs).params.length k (by omega)).2 (Ev.bind (Apply_ev _ _ ?_) (Ev.bind (Apply_ev _ [] (by simp [lim])) Ev.pure)))
  have := someVars_len (famOf d cs).params.length k
  unfold lim; omega
theorem arrow_ev (a b : Term) : Ev (fun n => law13_arrow n a b) (piT a b) := by
  refine Ev.fn (fun n => by simp only [law13_arrow, fu_succ, law13_arrow_e]; exact rfl) ?_
  exact Ev.pure
theorem awake13_k (k : Nat) : law13_awake (k + 60) = some true := by kernel_rfl
theorem law13_awake_ev : Ev (fun n => law13_awake n) true := by
  refine ⟨60, fun n hn => ?_⟩
  obtain ⟨k, rfl⟩ : ∃ k, n = k + 60 := ⟨n - 60, by omega⟩
  exact awake13_k k
theorem mp_snoc {α β : Type} (f : α → β) (xs : List α) (x : α) : mp f xs ++ [f x] = mp f (xs ++ [x]) := by
  rw [mp_eq, mp_eq, List.map_append]; rfl
theorem set_end {α : Type} (xs : List α) (x y : α) : (xs ++ [x]).set xs.length y = xs ++ [y] := by
  rw [List.set_append_right _ _ (Nat.le_refl _), Nat.sub_self]; rfl
theorem get_end {α : Type} (xs : List α) (x : α) : (xs ++ [x])[xs.length]? = some x := by
  rw [List.getElem?_append_right (Nat.le_refl _), Nat.sub_self]; rfl
theorem cells_len (x y : Term) : x.cells.length = y.cells.length := by rw [Term.cells_eq, Term.cells_eq]; rfl
theorem selfT_bulk (s : Str) (p : Nat) (hp : p ≤ 8) (params : List Term) (hP : params.length ≤ 60) (f : Int) : (selfT s p params f).bulk ≤ s.length + 2000 := by
  have h1 := appsT_bulk (K := 6) (someVars params.length f) (ownT s p) (by
    intro x hx
    obtain ⟨i, rfl⟩ := someVars_mem hx
    simp [Term.bulk_eq, Term.name, Term.levels, Term.kids, sumB])
  have h2 : (someVars params.length f).length ≤ 60 := by
    unfold someVars
    split
    · simp
    · rw [varsT_len]; exact hP
  have h3 := ownLevels_bulk p
  have h4 : (ownT s p).bulk ≤ s.length + sumB Level.bulk (ownLevels p) + 5 := by
    simp only [ownT, Term.bulk_eq (Term.mk _ _ _ _ _), Term.name, Term.levels, Term.kids, sumB]; omega
  unfold selfT
  omega
theorem room96 {k : Nat} (h : k ≤ cap) : decide (k * 96 ≤ 17592186044416) = true := by
  simp only [cap] at h; simp only [decide_eq_true_eq]; omega
theorem sumB_repl (n : Nat) : sumB Term.bulk (List.replicate n propT) = 1 + n * 6 := by
  induction n with
  | zero => rfl
  | succ n ih => rw [List.replicate_succ, sumB, ih, propT_bulk]; omega
theorem fields_bulk (n : Nat) (hn : n < 4) (t : Term) : sumB Term.bulk (fieldsT n t) ≤ t.bulk + 40 := by
  unfold fieldsT
  have := sumB_app (f := Term.bulk) [t] (List.replicate n propT)
  rw [sumB_repl] at this
  simp only [sumB] at this
  omega
theorem fields_fine (n : Nat) {t : Term} (h : Fine t) : ∀ x ∈ fieldsT n t, Fine x := by
  intro x hx
  rcases List.mem_append.1 hx with hx | hx
  · rw [List.eq_of_mem_replicate hx]; exact Fine.leaf (by decide) (by decide)
  · rw [List.mem_singleton.1 hx]; exact h
theorem self_fine (s : Str) (p : Nat) (params : List Term) (f : Int) : Fine (selfT s p params f) :=
  Fine.apps (Fine.leaf (by decide) (by decide)) fun x hx => by
    obtain ⟨i, rfl⟩ := someVars_mem hx
    exact Fine.leaf (by decide) (by decide)
noncomputable def ctypeT (d : Decl) (cs : List Zs4) (n : Nat) (t : Term) : Term :=
  pisT (famOf d cs).params (pisT (fieldsT n t) (selfT d.name d.params.toNat (famOf d cs).params ((n + 1 : Nat) : Int)))
theorem Check_more (d : Decl) (hd : d.bulk ≤ 1048576) (hs : Small d) {cs : List Zs4} (hA : AnalyseOK d cs) (h0 : (checkT d).2.2 = 0) (hI : (famOf d cs).indices.length = 0) (hP : (famOf d cs).params.length ≤ 60) (n : Nat) (hn : n < 4) (t : Term)
    (ht : Fine t) (htb : t.bulk ≤ d.name.length + 2100) (name : Str) (hnm : name.length ≤ 10) (r : Int × Int × Int)
    (hr : r = match ctorBad d.name { name := name, fields := fieldsT n t, recu := recsT (ownT d.name d.params.toNat) (famOf d cs).params 0 0 (fieldsT n t), results := [] } with | some k => ((d.ctors.length : Int), k, 16) | none => (0, 0, 0)) :
    Ev (fun m => positivity_Check m (d.more { name := name, type := ctypeT d cs n t })) r ∧ (ctypeT d cs n t).bulk ≤ 4000000 := by
  have hnl : d.name.length ≤ d.bulk := by rw [Decl.bulk]; omega
  have hflen : (fieldsT n t).length = n + 1 := by simp [fieldsT]
  have hsub : ∀ x ∈ (famOf d cs).params, x ∈ (allT d.type).1 := fun x hx => List.mem_of_mem_take hx
  have hfine : Fine (ctypeT d cs n t) := by
    refine Fine.pis (Fine.pis (self_fine _ _ _ _) (fields_fine n ht)) fun x hx => ?_
    exact (allT_fine d.type hs.type).1 x (hsub x hx)
  have hpar : sumB Term.bulk (famOf d cs).params ≤ d.bulk + 1 := by
    have h1 := allT_bulk d.type
    have h2 : sumB Term.bulk (famOf d cs).params ≤ sumB Term.bulk (allT d.type).1 := by
      have h3 := sumB_app (f := Term.bulk) ((allT d.type).1.drop d.fixed.toNat) ((allT d.type).1.take d.fixed.toNat)
      rw [List.take_append_drop] at h3
      have h4 := sumB_pos (bk := Term.bulk) ((allT d.type).1.drop d.fixed.toNat)
      show sumB Term.bulk ((allT d.type).1.take d.fixed.toNat) ≤ _
      omega
    have h5 : d.type.bulk ≤ d.bulk := by rw [Decl.bulk]; omega
    have h6 := (allT d.type).2.bulk_pos
    omega
  have hb : (ctypeT d cs n t).bulk ≤ 2 * d.bulk + d.bulk + 10000 := by
    unfold ctypeT
    have hself := selfT_bulk d.name d.params.toNat (by have := hs.p8; omega) (famOf d cs).params hP ((n + 1 : Nat) : Int)
    have hfb := fields_bulk n hn t
    rw [pisT_bulk_eq, pisT_bulk_eq, hflen]
    omega
  refine ⟨?_, by omega⟩
  have hct : ctorT (Term.mk 3 0 d.name (ownLevels d.params.toNat) []) ((allT d.type).1.take d.fixed.toNat) ((allT d.type).1.drop d.fixed.toNat).length { name := name, type := ctypeT d cs n t } =
      ({ name := name, fields := fieldsT n t, recu := recsT (ownT d.name d.params.toNat) (famOf d cs).params 0 0 (fieldsT n t), results := [] }, true) := by
    have h1 : ((allT d.type).1.drop d.fixed.toNat).length = 0 := hI
    rw [h1]
    have := ctorT_self (s := d.name) (p := d.params.toNat) (params := (famOf d cs).params) (name := name) (fields := fieldsT n t) hP
    rw [hflen] at this
    exact this
  have hmb : (d.more { name := name, type := ctypeT d cs n t }).bulk ≤ cap := by
    have := more_bulk d { name := name, type := ctypeT d cs n t }
    simp only [sumB, Ctor.bulk] at this
    simp only [cap]
    omega
  have hck := positivity_Check_sem (d.more { name := name, type := ctypeT d cs n t }) hmb (more_small hs hfine)
  rw [more_check hA h0 hct] at hck
  rw [hr]
  exact hck
theorem Refuses_end (d : Decl) (hd : d.bulk ≤ 1048576) (hs : Small d) {cs : List Zs4} (hA : AnalyseOK d cs) (h0 : (checkT d).2.2 = 0) (hI : (famOf d cs).indices.length = 0) (hP : (famOf d cs).params.length ≤ 60) (k : Nat) (hk : k < 4) :
    Ev2 (fun n m => law13_PositivityRefuses_l1 n m k k d (famOf d cs) (List.replicate k propT)) true := by
  refine Ev2.lp (fun n m => by simp only [law13_PositivityRefuses_l1_s, law13_PositivityRefuses_b1]; exact rfl) ?_
  simp only [Int.lt_irrefl, decide_false, cond_false]
  have hw : IntKind.i64.wrap ((k : Int) + 1) = ((k + 1 : Nat) : Int) := wrap_next (by omega)
  have hself : ∀ f, (selfT d.name d.params.toNat (famOf d cs).params f).bulk ≤ d.name.length + 2000 := selfT_bulk d.name d.params.toNat (by have := hs.p8; omega) (famOf d cs).params hP
  have c1 := Check_more d hd hs hA h0 hI hP k hk (piT (selfT d.name d.params.toNat (famOf d cs).params k) propT) (Fine.bin (self_fine _ _ _ _) (Fine.leaf (by decide) (by decide))) (by have := hself k; rw [mk2_bulk, propT_bulk]; omega) [98, 97, 100] (by decide) ((d.ctors.length : Int), (k : Int), 16) (by rw [ctorBad_first])
  have c2 := Check_more d hd hs hA h0 hI hP k hk (piT propT (selfT d.name d.params.toNat (famOf d cs).params ((k + 1 : Nat) : Int))) (Fine.bin (Fine.leaf (by decide) (by decide)) (self_fine _ _ _ _)) (by have := hself ((k + 1 : Nat) : Int); rw [mk2_bulk, propT_bulk]; omega) [98, 97, 100] (by decide) (0, 0, 0) (by rw [ctorBad_second hP])
  have r1 := Result_ev d cs hs hP k (by omega)
  have r2 := Result_ev d cs hs hP (k + 1) (by omega)
  have hcl := d.ctors_len
  have l1 : (List.replicate k propT).length = k := List.length_replicate
  have hroom := room80 (k := (List.replicate k propT).length) (by rw [l1]; simp only [cap]; omega)
  have hr1 := room96 (k := d.ctors.length) (by simp only [cap]; omega)
  have hr2 := room96 (k := d.ctors.length + 1) (by simp only [cap]; omega)
  have hpl : (famOf d cs).params.length < lim := by unfold lim; omega
  have hfl : ∀ t : Term, (List.replicate k propT ++ [t]).length < lim := fun t => by rw [List.length_append, l1]; unfold lim; simp only [List.length_singleton]; omega
  refine Ev2.of1 ?_
  simp only [hw]
  refine Ev.bind r1 (Ev.bind (arrow_ev _ _) ?_)
  simp only [show Term.mk 1 0 [] [] [] = propT from rfl, hroom, hr1, hr2, cond_true]
  refine Ev.bind r2 (Ev.bind (PisX_ev _ _ (hfl _)) (Ev.pc rfl (Ev.bind (ref05_Pis_i2_ev _ _ hpl) (Ev.bind c1.1 (Ev.bind r2 (Ev.bind (arrow_ev _ _) ?_))))))
  generalize hR1 : selfT d.name d.params.toNat (famOf d cs).params (k : Int) = R1 at *
  generalize hR2 : selfT d.name d.params.toNat (famOf d cs).params ((k + 1 : Nat) : Int) = R2 at *
  have e1 : idxA (mp Term.cells (List.replicate k propT) ++ [(piT R1 propT).cells]) (k : Int) = some (piT R1 propT).cells := by
    have := get_end (mp Term.cells (List.replicate k propT)) (piT R1 propT).cells
    rw [mp_length, l1] at this
    simp only [idxA, Int.natCast_nonneg, if_true, Int.toNat_natCast, this]
  have e2 : (mp Term.cells (List.replicate k propT) ++ [(piT R1 propT).cells])[((k : Int)).toNat]? = some (piT R1 propT).cells := by
    have := get_end (mp Term.cells (List.replicate k propT)) (piT R1 propT).cells
    rw [mp_length, l1] at this
    rw [Int.toNat_natCast, this]
  have e3 : (mp Term.cells (List.replicate k propT) ++ [(piT R1 propT).cells]).set ((k : Int)).toNat (piT propT R2).cells = mp Term.cells (List.replicate k propT ++ [piT propT R2]) := by
    have := set_end (mp Term.cells (List.replicate k propT)) (piT R1 propT).cells (piT propT R2).cells
    rw [mp_length, l1] at this
    rw [Int.toNat_natCast, this, mp_snoc]
  simp only [e1, e2, Option.bind_some, splice_all (cells_len (piT propT R2) (piT R1 propT)), e3, Term.mapO_cells]
  refine Ev.bind r2 (Ev.pc (by rw [List.length_append, l1]; rfl) (Ev.pc trivial (Ev.bind (PisX_ev _ _ (hfl _)) (Ev.pc rfl (Ev.bind (ref05_Pis_i2_ev _ _ hpl) ?_)))))
  have c1' := c1.1
  have c2' := c2.1
  change Ev (fun m => positivity_Check m { kind := d.kind, name := d.name, params := d.params, type := d.type, value := d.value, fixed := d.fixed, ctors := d.ctors ++ [{ name := [98, 97, 100], type := pisT (famOf d cs).params (pisT (List.replicate k propT ++ [piT propT R2]) (selfT d.name d.params.toNat (famOf d cs).params ((k + 1 : Nat) : Int))) }], recu := d.recu, funs := d.funs }) (0, 0, 0) at c2'
  rw [hR2] at c2'
  simp only
  generalize pisT (famOf d cs).params (pisT (List.replicate k propT ++ [piT R1 propT]) R2) = T1
  generalize pisT (famOf d cs).params (pisT (List.replicate k propT ++ [piT propT R2]) R2) = T2 at c2' ⊢
  have g0 : [AV.str (sb [98, 97, 100]), AV.int IntKind.i64 T1.kind, AV.int IntKind.i64 T1.index, AV.str (sb T1.name), AV.lst false 2 (mp Level.cells T1.levels), AV.lst false 5 (mp Term.cells T1.kids)] = ({ name := [98, 97, 100], type := T1 } : Ctor).cells := (Ctor.cells_eq { name := [98, 97, 100], type := T1 }).symm
  have g1 : idxA (mp Ctor.cells d.ctors ++ [({ name := [98, 97, 100], type := T1 } : Ctor).cells]) (d.ctors.length : Int) = some ({ name := [98, 97, 100], type := T1 } : Ctor).cells := by
    have := get_end (mp Ctor.cells d.ctors) ({ name := [98, 97, 100], type := T1 } : Ctor).cells
    rw [mp_length] at this
    simp only [idxA, Int.natCast_nonneg, if_true, Int.toNat_natCast, this]
  have g2 : (mp Ctor.cells d.ctors ++ [({ name := [98, 97, 100], type := T1 } : Ctor).cells])[d.ctors.length]? = some ({ name := [98, 97, 100], type := T1 } : Ctor).cells := by
    have := get_end (mp Ctor.cells d.ctors) ({ name := [98, 97, 100], type := T1 } : Ctor).cells
    rw [mp_length] at this
    exact this
  have g3 : splice ({ name := [98, 97, 100], type := T1 } : Ctor).cells 1 T2.cells = ({ name := [98, 97, 100], type := T2 } : Ctor).cells := by
    rw [Ctor.cells_eq, Ctor.cells_eq, Term.cells_eq]; rfl
  have g4 : (mp Ctor.cells d.ctors ++ [({ name := [98, 97, 100], type := T1 } : Ctor).cells]).set d.ctors.length ({ name := [98, 97, 100], type := T2 } : Ctor).cells = mp Ctor.cells (d.ctors ++ [{ name := [98, 97, 100], type := T2 }]) := by
    have := set_end (mp Ctor.cells d.ctors) ({ name := [98, 97, 100], type := T1 } : Ctor).cells ({ name := [98, 97, 100], type := T2 } : Ctor).cells
    rw [mp_length] at this
    rw [this, mp_snoc]
  simp only [g0, g1, g2, g3, g4, Option.bind_some, Ctor.mapO_cells, Ctor.nbs.2, pcond_true]
  refine Ev.bind c2' (Ev.bind law13_awake_ev ?_)
  simp only [beq_self_eq_true, cond_true]
  exact Ev.pure
theorem Refuses_loop (d : Decl) (hd : d.bulk ≤ 1048576) (hs : Small d) {cs : List Zs4} (hA : AnalyseOK d cs) (h0 : (checkT d).2.2 = 0) (hI : (famOf d cs).indices.length = 0) (hP : (famOf d cs).params.length ≤ 60) (k : Nat) (hk : k < 4) :
    Ev (fun n => law13_PositivityRefuses_l1 n n k 0 d (famOf d cs) []) true := by
  refine Ev.of2 (F := fun n m => law13_PositivityRefuses_l1 n m k 0 d (famOf d cs) []) ?_
  have key : ∀ (j i : Nat), j + i = k → Ev2 (fun n m => law13_PositivityRefuses_l1 n m k i d (famOf d cs) (List.replicate i propT)) true := by
    intro j
    induction j with
    | zero =>
      intro i hi
      obtain rfl : i = k := by omega
      exact Refuses_end d hd hs hA h0 hI hP i hk
    | succ j ih =>
      intro i hi
      refine Ev2.lp (fun n m => by simp only [law13_PositivityRefuses_l1_s, law13_PositivityRefuses_b1]; exact rfl) ?_
      have hlt : decide ((i : Int) < (k : Int)) = true := decide_eq_true (by omega)
      have hroom := room80 (k := (List.replicate i propT).length) (by rw [List.length_replicate]; simp only [cap]; omega)
      simp only [hlt, hroom, cond_true]
      rw [wrap_next (by omega)]
      have := ih (i + 1) (by omega)
      rw [List.replicate_succ'] at this
      exact this
  exact key k 0 (by omega)
theorem PositivityRefuses_ev (d : Decl) (w : Int) (h0 : 0 ≤ w) (h1 : w < 256) (hd : d.bulk ≤ 1048576) : Ev (fun n => law13_PositivityRefuses n d w) true := by
  have hd' : d.bulk ≤ cap := by simp only [cap]; omega
  refine Tot.ev ?_
  refine Tot.fn (fun n => by simp only [law13_PositivityRefuses, fu_succ, law13_PositivityRefuses_e]; exact rfl) ?_
  have awk : ∀ {Q : Bool → Prop}, Q true → Tot (fun n => (law13_awake n).bind fun x => some x) Q := fun q => Ev.tot (Ev.bind law13_awake_ev Ev.pure) q
  refine Tot.bind (law12_Few_fine d hd') fun x hx => ?_
  refine Tot.cnd (fun h => ?_) (fun _ => awk rfl)
  have hs := hx h
  refine Tot.cnd (fun _ => awk rfl) (fun _ => ?_)
  refine Tot.bind ((positivity_Check_sem d hd' hs).tot (Q := (· = checkT d)) rfl) fun y hy => ?_
  subst hy
  refine Tot.cnd (fun _ => awk rfl) (fun hc => ?_)
  have hc0 : (checkT d).2.2 = 0 := bne_eq_false_iff_eq.1 hc
  refine Tot.bind ((Analyse_sem d hd' hs.p0 hs.p8).2.tot (Q := (· = analyseT d)) rfl) fun y hy => ?_
  subst hy
  refine Tot.cnd (fun _ => awk rfl) (fun he => ?_)
  obtain ⟨cs, hA⟩ := analyseT_inv (bne_eq_false_iff_eq.1 he)
  rw [hA.eq]
  refine Tot.cnd (fun _ => awk rfl) (fun hI => ?_)
  refine Tot.cnd (fun _ => awk rfl) (fun hP => ?_)
  have hI : (famOf d cs).indices.length = 0 := by have h := of_decide_eq_false hI; change ¬ (0 < ((famOf d cs).indices.length : Int)) at h; omega
  have hP : (famOf d cs).params.length ≤ 60 := by have h := of_decide_eq_false hP; change ¬ (60 < ((famOf d cs).params.length : Int)) at h; omega
  obtain ⟨k, hkw, hk⟩ : ∃ k : Nat, IntKind.i64.wrap (w.tmod 4) = (k : Int) ∧ k < 4 := by
    obtain ⟨m, rfl⟩ : ∃ m : Nat, w = m := ⟨w.toNat, by omega⟩
    refine ⟨m % 4, ?_, Nat.mod_lt _ (by omega)⟩
    have : ((m : Int)).tmod 4 = ((m % 4 : Nat) : Int) := (Int.ofNat_tmod m 4).symm
    rw [this, wrap_small (by omega) (by omega)]
  rw [hkw]
  exact (Refuses_loop d hd hs hA hc0 hI hP k hk).tot rfl
theorem law13_PositivityRefuses_plain (x0 : Decl) (x1 : Int) (hb : x0.bulk + 1 ≤ 1048576) (hw : x0.wf) (hw1 : wfI .u8 x1) : ∃ n, law13_PositivityRefuses n x0 x1 = some true := by
  have := wfI_u8 hw1
  obtain ⟨N, h⟩ := PositivityRefuses_ev x0 x1 (by omega) (by omega) (by omega)
  exact ⟨N, h N (Nat.le_refl _)⟩
end Go.Abs
