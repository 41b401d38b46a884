/- A part of the proof: plain facts. -/
import Derived.Test.YtgimdhmoloobkaaCoreC
import Derived.Test.YtgimdhmoloobkaaReadA
set_option linter.all false
namespace Go.Abs
set_option linter.unusedVariables false
variable {R S T : Type}
def Ev (F : Nat → Option R) (r : R) : Prop := ∃ N, ∀ n, N ≤ n → F n = some r
def Ev2 (F : Nat → Nat → Option R) (r : R) : Prop := ∃ N, ∀ n m, N ≤ n → N ≤ m → F n m = some r
theorem Ev.fn {F G : Nat → Option R} {r : R} (h : ∀ n, F (n + 1) = G n) (hg : Ev G r) : Ev F r := by
  obtain ⟨N, hN⟩ := hg
  refine ⟨N + 1, fun n hn => ?_⟩
  obtain ⟨k, rfl⟩ : ∃ k, n = k + 1 := ⟨n - 1, by omega⟩
  rw [h]; exact hN k (by omega)
theorem Ev.of2 {F : Nat → Nat → Option R} {r : R} (h : Ev2 F r) : Ev (fun n => F n n) r := by
  obtain ⟨N, hN⟩ := h
  exact ⟨N, fun n hn => hN n n hn hn⟩
theorem Ev2.of1 {F : Nat → Option R} {r : R} (h : Ev F r) : Ev2 (fun n _ => F n) r := by
  obtain ⟨N, hN⟩ := h
  exact ⟨N, fun n m hn _ => hN n hn⟩
theorem Ev2.lp {F G : Nat → Nat → Option R} {r : R} (h : ∀ n m, F n (m + 1) = G n m) (hg : Ev2 G r) : Ev2 F r := by
  obtain ⟨N, hN⟩ := hg
  refine ⟨N + 1, fun n m hn hm => ?_⟩
  obtain ⟨k, rfl⟩ : ∃ k, m = k + 1 := ⟨m - 1, by omega⟩
  rw [h]; exact hN n k (by omega) (by omega)
theorem Ev.pure {r : R} : Ev (fun _ => some r) r := ⟨0, fun _ _ => rfl⟩
theorem Ev2.pure {r : R} : Ev2 (fun _ _ => some r) r := ⟨0, fun _ _ _ _ => rfl⟩
theorem Ev.bind {F : Nat → Option S} {G : Nat → S → Option R} {x : S} {r : R} (h : Ev F x) (hg : Ev (fun n => G n x) r) : Ev (fun n => (F n).bind (G n)) r := by
  obtain ⟨N, hN⟩ := h
  obtain ⟨M, hM⟩ := hg
  refine ⟨max N M, fun n hn => ?_⟩
  show (F n).bind (G n) = some r
  rw [hN n (by omega)]; exact hM n (by omega)
theorem Ev2.bind {F : Nat → Nat → Option S} {G : Nat → Nat → S → Option R} {x : S} {r : R} (h : Ev2 F x) (hg : Ev2 (fun n m => G n m x) r) : Ev2 (fun n m => (F n m).bind (G n m)) r := by
  obtain ⟨N, hN⟩ := h
  obtain ⟨M, hM⟩ := hg
  refine ⟨max N M, fun n m hn hm => ?_⟩
  show (F n m).bind (G n m) = some r
  rw [hN n m (by omega) (by omega)]; exact hM n m (by omega) (by omega)
theorem Ev2.bind1 {F : Nat → Option S} {G : Nat → Nat → S → Option R} {x : S} {r : R} (h : Ev F x) (hg : Ev2 (fun n m => G n m x) r) : Ev2 (fun n m => (F n).bind (G n m)) r :=
  Ev2.bind (F := fun n _ => F n) (Ev2.of1 h) hg
def Tot (F : Nat → Option R) (Q : R → Prop) : Prop := ∃ r, Q r ∧ Ev F r
def Tot2 (F : Nat → Nat → Option R) (Q : R → Prop) : Prop := ∃ r, Q r ∧ Ev2 F r
theorem Tot.fn {F G : Nat → Option R} {Q : R → Prop} (h : ∀ n, F (n + 1) = G n) (hg : Tot G Q) : Tot F Q := Exists.imp (fun _ k => ⟨k.1, Ev.fn h k.2⟩) hg
theorem Tot.of2 {F : Nat → Nat → Option R} {Q : R → Prop} (h : Tot2 F Q) : Tot (fun n => F n n) Q := Exists.imp (fun _ k => ⟨k.1, Ev.of2 k.2⟩) h
theorem Tot2.of1 {F : Nat → Option R} {Q : R → Prop} (h : Tot F Q) : Tot2 (fun n _ => F n) Q := Exists.imp (fun _ k => ⟨k.1, Ev2.of1 k.2⟩) h
theorem Tot2.lp {F G : Nat → Nat → Option R} {Q : R → Prop} (h : ∀ n m, F n (m + 1) = G n m) (hg : Tot2 G Q) : Tot2 F Q := Exists.imp (fun _ k => ⟨k.1, Ev2.lp h k.2⟩) hg
theorem Tot.pure {r : R} {Q : R → Prop} (h : Q r) : Tot (fun _ => some r) Q := ⟨r, h, Ev.pure⟩
theorem Tot2.pure {r : R} {Q : R → Prop} (h : Q r) : Tot2 (fun _ _ => some r) Q := ⟨r, h, Ev2.pure⟩
theorem Tot.bind {F : Nat → Option S} {G : Nat → S → Option R} {P : S → Prop} {Q : R → Prop} (h : Tot F P) (hg : ∀ x, P x → Tot (fun n => G n x) Q) : Tot (fun n => (F n).bind (G n)) Q := by
  obtain ⟨x, hx, hF⟩ := h
  obtain ⟨r, hr, hG⟩ := hg x hx
  exact ⟨r, hr, Ev.bind hF hG⟩
theorem Tot2.bind {F : Nat → Nat → Option S} {G : Nat → Nat → S → Option R} {P : S → Prop} {Q : R → Prop} (h : Tot2 F P) (hg : ∀ x, P x → Tot2 (fun n m => G n m x) Q) : Tot2 (fun n m => (F n m).bind (G n m)) Q := by
  obtain ⟨x, hx, hF⟩ := h
  obtain ⟨r, hr, hG⟩ := hg x hx
  exact ⟨r, hr, Ev2.bind hF hG⟩
theorem Tot2.bind1 {F : Nat → Option S} {G : Nat → Nat → S → Option R} {P : S → Prop} {Q : R → Prop} (h : Tot F P) (hg : ∀ x, P x → Tot2 (fun n m => G n m x) Q) : Tot2 (fun n m => (F n).bind (G n m)) Q :=
  Tot2.bind (F := fun n _ => F n) (Tot2.of1 h) hg
theorem Tot.idx {xs : List S} {i : Nat} {G : Nat → S → Option R} {Q : R → Prop} (hi : i < xs.length) (hg : Tot (fun n => G n xs[i]) Q) : Tot (fun n => (idxA xs (i : Int)).bind (G n)) Q := by
  have : idxA xs (i : Int) = some xs[i] := by simp [idxA, hi]
  simp only [this]; exact hg
theorem Tot2.idx {xs : List S} {i : Nat} {G : Nat → Nat → S → Option R} {Q : R → Prop} (hi : i < xs.length) (hg : Tot2 (fun n m => G n m xs[i]) Q) : Tot2 (fun n m => (idxA xs (i : Int)).bind (G n m)) Q := by
  have : idxA xs (i : Int) = some xs[i] := by simp [idxA, hi]
  simp only [this]; exact hg
theorem Tot.cnd {c : Bool} {A B : Nat → Option R} {Q : R → Prop} (h1 : c = true → Tot A Q) (h2 : c = false → Tot B Q) : Tot (fun n => bif c then A n else B n) Q := by
  cases c with
  | true => exact h1 rfl
  | false => exact h2 rfl
theorem Tot2.cnd {c : Bool} {A B : Nat → Nat → Option R} {Q : R → Prop} (h1 : c = true → Tot2 A Q) (h2 : c = false → Tot2 B Q) : Tot2 (fun n m => bif c then A n m else B n m) Q := by
  cases c with
  | true => exact h1 rfl
  | false => exact h2 rfl
theorem Tot.imp {F : Nat → Option R} {P Q : R → Prop} (h : Tot F P) (k : ∀ r, P r → Q r) : Tot F Q := Exists.imp (fun r x => ⟨k r x.1, x.2⟩) h
theorem Tot2.imp {F : Nat → Nat → Option R} {P Q : R → Prop} (h : Tot2 F P) (k : ∀ r, P r → Q r) : Tot2 F Q := Exists.imp (fun r x => ⟨k r x.1, x.2⟩) h
theorem Tot.ev {F : Nat → Option R} {r : R} (h : Tot F (· = r)) : Ev F r := by obtain ⟨s, rfl, h⟩ := h; exact h
theorem Ev.tot {F : Nat → Option R} {r : R} {Q : R → Prop} (h : Ev F r) (q : Q r) : Tot F Q := ⟨r, q, h⟩
theorem Ev2.tot {F : Nat → Nat → Option R} {r : R} {Q : R → Prop} (h : Ev2 F r) (q : Q r) : Tot2 F Q := ⟨r, q, h⟩
theorem Tot2.up {L : Nat → Nat → Int → S → Option R} (len : Nat) (I : Nat → S → Prop) (Q : R → Prop)
    (h1 : ∀ i s, i < len → I i s → (∀ s', I (i + 1) s' → Tot2 (fun n m => L n m ((i + 1 : Nat) : Int) s') Q) → Tot2 (fun n m => L n m (i : Int) s) Q)
    (h2 : ∀ s, I len s → Tot2 (fun n m => L n m (len : Int) s) Q) : ∀ (i : Nat) (s : S), i ≤ len → I i s → Tot2 (fun n m => L n m (i : Int) s) Q := by
  intro i s hi h
  obtain ⟨k, hk⟩ : ∃ k, k = len - i := ⟨_, rfl⟩
  induction k generalizing i s with
  | zero => obtain rfl : i = len := by omega
            exact h2 s h
  | succ k ih => exact h1 i s (by omega) h fun s' hs => ih (i + 1) s' (by omega) hs (by omega)
theorem wrap_small {n : Int} (h : -9223372036854775808 ≤ n) (h2 : n ≤ 9223372036854775807) : IntKind.i64.wrap n = n := by
  simp only [IntKind.wrap, IntKind.signed, IntKind.bits, Bool.true_and, decide_eq_true_eq]
  split <;> rename_i h3 <;> simp only [decide_eq_true_eq, ge_iff_le] at h3 <;> omega
theorem wrap_next {i : Nat} (h : i < 9223372036854775807) : IntKind.i64.wrap ((i : Int) + 1) = ((i + 1 : Nat) : Int) := by
  rw [wrap_small (by omega) (by omega)]; rfl
theorem idxA_at {xs : List S} {i : Nat} (hi : i < xs.length) : idxA xs (i : Int) = some xs[i] := by simp [idxA, hi]
theorem Ev2.idx {xs : List S} {i : Nat} {G : Nat → Nat → S → Option R} {r : R} (hi : i < xs.length) (hg : Ev2 (fun n m => G n m xs[i]) r) : Ev2 (fun n m => (idxA xs (i : Int)).bind (G n m)) r := by
  simp only [idxA_at hi]; exact hg
noncomputable def eqb {α : Type} (a b : α) : Bool := @decide (a = b) (Classical.propDecidable _)
theorem eqb_iff {α : Type} {a b : α} : eqb a b = true ↔ a = b := by
  unfold eqb; exact @decide_eq_true_iff _ (Classical.propDecidable _)
theorem eqb_self {α : Type} (a : α) : eqb a a = true := eqb_iff.2 rfl
theorem eqb_false {α : Type} {a b : α} (h : a ≠ b) : eqb a b = false := by
  cases hc : eqb a b with
  | false => rfl
  | true => exact absurd (eqb_iff.1 hc) h
theorem eqb_cons {α : Type} (x y : α) (xs ys : List α) : eqb (x :: xs) (y :: ys) = (eqb x y && eqb xs ys) := by
  rw [Bool.eq_iff_iff, Bool.and_eq_true, eqb_iff, eqb_iff, eqb_iff, List.cons.injEq]
theorem eqb_len {α : Type} {xs ys : List α} (h : xs.length ≠ ys.length) : eqb xs ys = false := eqb_false fun e => h (by rw [e])
theorem Ev2.andThen {F : Nat → Nat → Option Bool} {c r : Bool} (h : Ev2 F r) : Ev2 (fun n m => bif c then F n m else some false) (c && r) := by
  cases c with
  | true => exact h
  | false => exact Ev2.pure
theorem Ev.andThen {F : Nat → Option Bool} {c r : Bool} (h : Ev F r) : Ev (fun n => bif c then F n else some false) (c && r) := by
  cases c with
  | true => exact h
  | false => exact Ev.pure
theorem Ev2.same {α : Type} {L : Nat → Nat → Int → Option Bool} (xs ys : List α) (hl : xs.length = ys.length)
    (h1 : ∀ (i : Nat) (hi : i < xs.length) (hj : i < ys.length) (r : Bool), Ev2 (fun n m => L n m ((i + 1 : Nat) : Int)) r → Ev2 (fun n m => L n m (i : Int)) (eqb xs[i] ys[i] && r))
    (h2 : Ev2 (fun n m => L n m (xs.length : Int)) true) : Ev2 (fun n m => L n m 0) (eqb xs ys) := by
  have key : ∀ (k i : Nat), k + i = xs.length → Ev2 (fun n m => L n m (i : Int)) (eqb (xs.drop i) (ys.drop i)) := by
    intro k
    induction k with
    | zero =>
      intro i hi
      obtain rfl : i = xs.length := by omega
      rw [List.drop_length, hl, List.drop_length, eqb_self, ← hl]
      exact h2
    | succ k ih =>
      intro i hi
      have hi1 : i < xs.length := by omega
      have hi2 : i < ys.length := by omega
      rw [List.drop_eq_getElem_cons hi1, List.drop_eq_getElem_cons hi2, eqb_cons]
      exact h1 i hi1 hi2 _ (ih (i + 1) (by omega))
  have := key xs.length 0 (by omega)
  simpa using this
end Go.Abs
namespace Go.Abs
set_option linter.unusedVariables false
set_option linter.unusedSimpArgs false
theorem sumB_mem {α : Type} {f : α → Nat} : ∀ {xs : List α} {x : α}, x ∈ xs → f x ≤ sumB f xs
  | y :: ys, x, h => by
    simp only [sumB]
    rcases List.mem_cons.mp h with rfl | h
    · omega
    · have := sumB_mem (f := f) h; omega
theorem sumB_len {α : Type} {f : α → Nat} (h : ∀ x, 1 ≤ f x) : ∀ xs : List α, xs.length ≤ sumB f xs
  | [] => by simp [sumB]
  | y :: ys => by have := sumB_len h ys; have := h y; simp only [sumB, List.length_cons]; omega
theorem Term.bulk_pos (x : Term) : 1 ≤ x.bulk := by rw [Term.bulk_eq]; omega
theorem Level.bulk_pos (x : Level) : 1 ≤ x.bulk := by rw [Level.bulk]; omega
theorem LevelVar.bulk_pos (x : LevelVar) : 1 ≤ x.bulk := by rw [LevelVar.bulk]; omega
theorem Branch.bulk_pos (x : Branch) : 1 ≤ x.bulk := by rw [Branch.bulk_eq]; omega
theorem Term.kids_len (x : Term) : x.kids.length < x.bulk := by rw [Term.bulk_eq]; have := sumB_len Term.bulk_pos x.kids; omega
theorem Term.levels_len (x : Term) : x.levels.length < x.bulk := by rw [Term.bulk_eq]; have := sumB_len Level.bulk_pos x.levels; omega
theorem Term.name_len (x : Term) : x.name.length < x.bulk := by rw [Term.bulk_eq]; omega
theorem Level.vars_len (x : Level) : x.vars.length < x.bulk := by rw [Level.bulk]; have := sumB_len LevelVar.bulk_pos x.vars; omega
theorem Term.kid_lt {x t : Term} (h : t ∈ x.kids) : t.bulk < x.bulk := by rw [Term.bulk_eq x]; have := sumB_mem (f := Term.bulk) h; omega
theorem Term.level_lt {x : Term} {l : Level} (h : l ∈ x.levels) : l.bulk < x.bulk := by rw [Term.bulk_eq x]; have := sumB_mem (f := Level.bulk) h; omega
def lim : Nat := 9223372036854775807
abbrev Yes {R : Type} : R → Prop := fun _ => True
theorem z1q_tot : ∀ (t : Term), t.bulk < lim → Tot (fun n => z1q n t) Yes := by
  intro t
  induction h : t.bulk using Nat.strongRecOn generalizing t with
  | ind k ih =>
    intro hk
    have hl := t.kids_len
    refine Tot.fn (fun n => by simp only [z1q, z1q_e]; exact rfl) ?_
    refine Tot.of2 (F := fun n m => z1q_l1 (z1q n) n m 1 0 t) ?_
    refine Tot2.up (S := Int) (L := fun n m i s => z1q_l1 (z1q n) n m s i t) t.kids.length (fun _ _ => True) Yes ?_ ?_ 0 1 (by omega) trivial
    · intro i s hi _ next
      refine Tot2.lp (fun n m => by simp only [z1q_l1, z1q_b1]; exact rfl) ?_
      simp only [hi, Int.ofNat_lt, decide_true, cond_true]
      refine Tot2.idx hi ?_
      have hm := t.kid_lt (List.getElem_mem hi)
      refine Tot2.bind1 (ih _ (by omega) _ rfl (by omega)) fun x _ => ?_
      rw [wrap_next (by unfold lim at hk; omega)]
      exact next _ trivial
    · intro s _
      refine Tot2.lp (fun n m => by simp only [z1q_l1, z1q_b1]; exact rfl) ?_
      simp only [Int.lt_irrefl, decide_false, cond_false]
      exact Tot2.pure trivial
theorem z1d_tot : ∀ (t : Term), t.bulk < lim → Tot (fun n => z1d n t) Yes := by
  intro t
  induction h : t.bulk using Nat.strongRecOn generalizing t with
  | ind k ih =>
    intro hk
    have hl := t.kids_len
    refine Tot.fn (fun n => by simp only [z1d, z1d_e]; exact rfl) ?_
    refine Tot.of2 (F := fun n m => z1d_l1 (z1d n) n m 0 0 t) ?_
    refine Tot2.up (S := Int) (L := fun n m i s => z1d_l1 (z1d n) n m s i t) t.kids.length (fun _ _ => True) Yes ?_ ?_ 0 0 (by omega) trivial
    · intro i s hi _ next
      refine Tot2.lp (fun n m => by simp only [z1d_l1, z1d_b1]; exact rfl) ?_
      simp only [hi, Int.ofNat_lt, decide_true, cond_true]
      refine Tot2.idx hi ?_
      have hm := t.kid_lt (List.getElem_mem hi)
      refine Tot2.bind1 (ih _ (by omega) _ rfl (by omega)) fun x _ => ?_
      rw [wrap_next (by unfold lim at hk; omega)]
      exact next _ trivial
    · intro s _
      refine Tot2.lp (fun n m => by simp only [z1d_l1, z1d_b1]; exact rfl) ?_
      simp only [Int.lt_irrefl, decide_false, cond_false]
      exact Tot2.pure trivial
theorem z1n_tot (k : Int) : Tot (fun n => z1n n k) Yes := by
  refine Tot.fn (fun n => by simp only [z1n, z1n_e]; exact rfl) ?_
  (repeat' (first | exact Tot.pure trivial | exact Tot2.pure trivial | refine Tot.cnd (fun _ => ?_) (fun _ => ?_) | refine Tot2.cnd (fun _ => ?_) (fun _ => ?_)))
theorem z1b_tot (k i : Int) : Tot (fun n => z1b n k i) Yes := by
  refine Tot.fn (fun n => by simp only [z1b, z1b_e]; exact rfl) ?_
  (repeat' (first | exact Tot.pure trivial | exact Tot2.pure trivial | refine Tot.cnd (fun _ => ?_) (fun _ => ?_) | refine Tot2.cnd (fun _ => ?_) (fun _ => ?_)))
theorem z0x_tot (k : Int) : Tot (fun n => z0x n k) Yes := by
  refine Tot.fn (fun n => by simp only [z0x, z0x_e]; exact rfl) ?_
  (repeat' (first | exact Tot.pure trivial | exact Tot2.pure trivial | refine Tot.cnd (fun _ => ?_) (fun _ => ?_) | refine Tot2.cnd (fun _ => ?_) (fun _ => ?_)))
theorem z1a_tot (l : Level) (hk : l.bulk < lim) : Tot (fun n => z1a n l) Yes := by
  have hl := l.vars_len
  refine Tot.fn (fun n => by simp only [z1a, z1a_e]; exact rfl) ?_
  (repeat' (first | exact Tot.pure trivial | exact Tot2.pure trivial | refine Tot.cnd (fun _ => ?_) (fun _ => ?_) | refine Tot2.cnd (fun _ => ?_) (fun _ => ?_)))
  refine Tot.of2 (F := fun n m => z1a_l1 n m 0 l) ?_
  refine Tot2.up (S := Unit) (L := fun n m i s => z1a_l1 n m i l) l.vars.length (fun _ _ => True) Yes ?_ ?_ 0 () (by omega) trivial
  · intro i s hi _ next
    refine Tot2.lp (fun n m => by simp only [z1a_l1, z1a_b1]; exact rfl) ?_
    simp only [hi, Int.ofNat_lt, decide_true, cond_true]
    refine Tot2.idx hi ?_
    (repeat' (first | exact Tot.pure trivial | exact Tot2.pure trivial | refine Tot.cnd (fun _ => ?_) (fun _ => ?_) | refine Tot2.cnd (fun _ => ?_) (fun _ => ?_)))
    · rename_i h0
      have h0 : 0 < (i : Int) := by simpa using h0
      have e : IntKind.i64.wrap ((i : Int) - 1) = ((i - 1 : Nat) : Int) := by rw [wrap_small (by omega) (by unfold lim at hk; omega)]; omega
      simp only [e]
      refine Tot2.idx (by omega) ?_
      rw [wrap_next (by unfold lim at hk; omega)]
      (repeat' (first | exact Tot.pure trivial | exact Tot2.pure trivial | refine Tot.cnd (fun _ => ?_) (fun _ => ?_) | refine Tot2.cnd (fun _ => ?_) (fun _ => ?_)))
      all_goals exact next s trivial
    all_goals (rw [wrap_next (by unfold lim at hk; omega)]; exact next s trivial)
  · intro s _
    refine Tot2.lp (fun n m => by simp only [z1a_l1, z1a_b1]; exact rfl) ?_
    simp only [Int.lt_irrefl, decide_false, cond_false]
    exact Tot2.pure trivial
theorem z1o_tot (s : Str) (hk : s.length < lim) : Tot (fun n => z1o n s) Yes := by
  refine Tot.fn (fun n => by simp only [z1o, z1o_e]; exact rfl) ?_
  (repeat' (first | exact Tot.pure trivial | exact Tot2.pure trivial | refine Tot.cnd (fun _ => ?_) (fun _ => ?_) | refine Tot2.cnd (fun _ => ?_) (fun _ => ?_)))
  refine Tot.of2 (F := fun n m => z1o_l1 n m s true 0) ?_
  refine Tot2.up (S := Bool) (L := fun n m i b => z1o_l1 n m s b i) s.length (fun _ _ => True) Yes ?_ ?_ 0 true (by omega) trivial
  · intro i b hi _ next
    refine Tot2.lp (fun n m => by simp only [z1o_l1, z1o_b1]; exact rfl) ?_
    simp only [hi, Int.ofNat_lt, decide_true, cond_true]
    refine Tot2.idx hi ?_
    rw [wrap_next (by unfold lim at hk; omega)]
    (repeat' (first | exact Tot.pure trivial | exact Tot2.pure trivial | refine Tot.cnd (fun _ => ?_) (fun _ => ?_) | refine Tot2.cnd (fun _ => ?_) (fun _ => ?_)))
    · refine Tot2.bind1 (z0x_tot _) fun x _ => ?_
      (repeat' (first | exact Tot.pure trivial | exact Tot2.pure trivial | refine Tot.cnd (fun _ => ?_) (fun _ => ?_) | refine Tot2.cnd (fun _ => ?_) (fun _ => ?_)))
      exact next _ trivial
    · exact next _ trivial
    · refine Tot2.bind1 (z0x_tot _) fun x _ => ?_
      (repeat' (first | exact Tot.pure trivial | exact Tot2.pure trivial | refine Tot.cnd (fun _ => ?_) (fun _ => ?_) | refine Tot2.cnd (fun _ => ?_) (fun _ => ?_)))
      all_goals exact next _ trivial
  · intro s _
    refine Tot2.lp (fun n m => by simp only [z1o_l1, z1o_b1]; exact rfl) ?_
    simp only [Int.lt_irrefl, decide_false, cond_false]
    exact Tot2.pure trivial
theorem z1f_tot (l : Level) (p q : Int) (hk : l.bulk < lim) : Tot (fun n => z1f n l p q) Yes := by
  have hl := l.vars_len
  refine Tot.fn (fun n => by simp only [z1f, z1f_e]; exact rfl) ?_
  refine Tot.bind (z1a_tot l hk) fun x _ => ?_
  (repeat' (first | exact Tot.pure trivial | exact Tot2.pure trivial | refine Tot.cnd (fun _ => ?_) (fun _ => ?_) | refine Tot2.cnd (fun _ => ?_) (fun _ => ?_)))
  have k1 : Tot (fun n => z1f_l1 n n q 0 l) Yes := by
    refine Tot.of2 (F := fun n m => z1f_l1 n m q 0 l) ?_
    refine Tot2.up (S := Unit) (L := fun n m i s => z1f_l1 n m q i l) l.vars.length (fun _ _ => True) Yes ?_ ?_ 0 () (by omega) trivial
    · intro i s hi _ next
      refine Tot2.lp (fun n m => by simp only [z1f_l1, z1f_b1]; exact rfl) ?_
      simp only [hi, Int.ofNat_lt, decide_true, cond_true]
      refine Tot2.idx hi ?_
      rw [wrap_next (by unfold lim at hk; omega)]
      (repeat' (first | exact Tot.pure trivial | exact Tot2.pure trivial | refine Tot.cnd (fun _ => ?_) (fun _ => ?_) | refine Tot2.cnd (fun _ => ?_) (fun _ => ?_)))
      · refine Tot2.idx hi ?_
        (repeat' (first | exact Tot.pure trivial | exact Tot2.pure trivial | refine Tot.cnd (fun _ => ?_) (fun _ => ?_) | refine Tot2.cnd (fun _ => ?_) (fun _ => ?_)))
        exact next s trivial
      · exact next s trivial
    · intro s _
      refine Tot2.lp (fun n m => by simp only [z1f_l1, z1f_b1]; exact rfl) ?_
      simp only [Int.lt_irrefl, decide_false, cond_false]
      exact Tot2.pure trivial
  refine Tot.of2 (F := fun n m => z1f_l2 n m p q 0 l) ?_
  refine Tot2.up (S := Unit) (L := fun n m i s => z1f_l2 n m p q i l) l.vars.length (fun _ _ => True) Yes ?_ ?_ 0 () (by omega) trivial
  · intro i s hi _ next
    refine Tot2.lp (fun n m => by simp only [z1f_l2, z1f_b2]; exact rfl) ?_
    simp only [hi, Int.ofNat_lt, decide_true, cond_true]
    refine Tot2.idx hi ?_
    rw [wrap_next (by unfold lim at hk; omega)]
    (repeat' (first | exact Tot.pure trivial | exact Tot2.pure trivial | refine Tot.cnd (fun _ => ?_) (fun _ => ?_) | refine Tot2.cnd (fun _ => ?_) (fun _ => ?_)))
    · refine Tot2.idx hi ?_
      (repeat' (first | exact Tot.pure trivial | exact Tot2.pure trivial | refine Tot.cnd (fun _ => ?_) (fun _ => ?_) | refine Tot2.cnd (fun _ => ?_) (fun _ => ?_)))
      exact next s trivial
    · exact next s trivial
  · intro s _
    refine Tot2.lp (fun n m => by simp only [z1f_l2, z1f_b2]; exact rfl) ?_
    simp only [Int.lt_irrefl, decide_false, cond_false]
    exact Tot2.of1 k1
theorem z1r_tot (t : Term) : Tot (fun n => z1r n t) Yes := by
  refine Tot.fn (fun n => by simp only [z1r, z1r_e]; exact rfl) ?_
  (repeat' (first | exact Tot.pure trivial | exact Tot2.pure trivial | refine Tot.cnd (fun _ => ?_) (fun _ => ?_) | refine Tot2.cnd (fun _ => ?_) (fun _ => ?_)))
  refine Tot.bind (z1n_tot _) fun x _ => ?_
  (repeat' (first | exact Tot.pure trivial | exact Tot2.pure trivial | refine Tot.cnd (fun _ => ?_) (fun _ => ?_) | refine Tot2.cnd (fun _ => ?_) (fun _ => ?_)))
theorem z1e_tot : ∀ (t : Term) (a b c d e : Int), t.bulk < lim → Tot (fun n => z1e n t a b c d e) Yes := by
  intro t
  induction h : t.bulk using Nat.strongRecOn generalizing t with
  | ind k ih =>
    intro a b c d e hk
    have hl := t.kids_len
    have hl2 := t.levels_len
    have hl3 := t.name_len
    refine Tot.fn (fun n => by simp only [z1e, z1e_e]; exact rfl) ?_
    have k1 : Tot (fun n => z1e_l1 (z1e n) n n a b c d e 0 t) Yes := by
      refine Tot.of2 (F := fun n m => z1e_l1 (z1e n) n m a b c d e 0 t) ?_
      refine Tot2.up (S := Unit) (L := fun n m i s => z1e_l1 (z1e n) n m a b c d e i t) t.kids.length (fun _ _ => True) Yes ?_ ?_ 0 () (by omega) trivial
      · intro i s hi _ next
        refine Tot2.lp (fun n m => by simp only [z1e_l1, z1e_b1]; exact rfl) ?_
        simp only [hi, Int.ofNat_lt, decide_true, cond_true]
        refine Tot2.idx hi ?_
        have hm := t.kid_lt (List.getElem_mem hi)
        rw [wrap_next (by unfold lim at hk; omega)]
        refine Tot2.bind1 (z1b_tot _ _) fun x _ => ?_
        refine Tot2.bind1 (ih _ (by omega) _ rfl _ _ _ _ _ (by omega)) fun x _ => ?_
        (repeat' (first | exact Tot.pure trivial | exact Tot2.pure trivial | refine Tot.cnd (fun _ => ?_) (fun _ => ?_) | refine Tot2.cnd (fun _ => ?_) (fun _ => ?_)))
        exact next s trivial
      · intro s _
        refine Tot2.lp (fun n m => by simp only [z1e_l1, z1e_b1]; exact rfl) ?_
        simp only [Int.lt_irrefl, decide_false, cond_false]
        exact Tot2.pure trivial
    have k2 : Tot (fun n => z1e_l2 (z1e n) n n a b c d e 0 t) Yes := by
      refine Tot.of2 (F := fun n m => z1e_l2 (z1e n) n m a b c d e 0 t) ?_
      refine Tot2.up (S := Unit) (L := fun n m i s => z1e_l2 (z1e n) n m a b c d e i t) t.levels.length (fun _ _ => True) Yes ?_ ?_ 0 () (by omega) trivial
      · intro i s hi _ next
        refine Tot2.lp (fun n m => by simp only [z1e_l2, z1e_b2]; exact rfl) ?_
        simp only [hi, Int.ofNat_lt, decide_true, cond_true]
        refine Tot2.idx hi ?_
        have hm := t.level_lt (List.getElem_mem hi)
        rw [wrap_next (by unfold lim at hk; omega)]
        refine Tot2.bind1 (z1f_tot _ _ _ (by omega)) fun x _ => ?_
        (repeat' (first | exact Tot.pure trivial | exact Tot2.pure trivial | refine Tot.cnd (fun _ => ?_) (fun _ => ?_) | refine Tot2.cnd (fun _ => ?_) (fun _ => ?_)))
        exact next s trivial
      · intro s _
        refine Tot2.lp (fun n m => by simp only [z1e_l2, z1e_b2]; exact rfl) ?_
        simp only [Int.lt_irrefl, decide_false, cond_false]
        (repeat' (first | exact Tot.pure trivial | exact Tot2.pure trivial | refine Tot.cnd (fun _ => ?_) (fun _ => ?_) | refine Tot2.cnd (fun _ => ?_) (fun _ => ?_)))
        all_goals exact Tot2.of1 k1
    refine Tot.bind (z1r_tot _) fun x _ => ?_
    (repeat' (first | exact Tot.pure trivial | exact Tot2.pure trivial | refine Tot.cnd (fun _ => ?_) (fun _ => ?_) | refine Tot2.cnd (fun _ => ?_) (fun _ => ?_)))
    · refine Tot.bind (z1o_tot _ (by omega)) fun x _ => ?_
      (repeat' (first | exact Tot.pure trivial | exact Tot2.pure trivial | refine Tot.cnd (fun _ => ?_) (fun _ => ?_) | refine Tot2.cnd (fun _ => ?_) (fun _ => ?_)))
      exact k2
    · exact k2
theorem z1c_tot (t : Term) (a b c d : Int) (hk : t.bulk < lim) : Tot (fun n => z1c n t a b c d) Yes := by
  refine Tot.fn (fun n => by simp only [z1c, z1c_e]; exact rfl) ?_
  refine Tot.bind (z1e_tot _ _ _ _ _ _ hk) fun x _ => ?_
  (repeat' (first | exact Tot.pure trivial | exact Tot2.pure trivial | refine Tot.cnd (fun _ => ?_) (fun _ => ?_) | refine Tot2.cnd (fun _ => ?_) (fun _ => ?_)))
  refine Tot.bind (z1q_tot _ hk) fun x _ => ?_
  (repeat' (first | exact Tot.pure trivial | exact Tot2.pure trivial | refine Tot.cnd (fun _ => ?_) (fun _ => ?_) | refine Tot2.cnd (fun _ => ?_) (fun _ => ?_)))
  refine Tot.bind (z1d_tot _ hk) fun x _ => ?_
  (repeat' (first | exact Tot.pure trivial | exact Tot2.pure trivial | refine Tot.cnd (fun _ => ?_) (fun _ => ?_) | refine Tot2.cnd (fun _ => ?_) (fun _ => ?_)))
theorem z14_tot (t : Term) (hk : t.bulk < lim) : Tot (fun n => z14 n t) Yes := by
  refine Tot.fn (fun n => by simp only [z14, z14_e]; exact rfl) ?_
  refine Tot.bind (z1q_tot _ hk) fun x _ => ?_
  (repeat' (first | exact Tot.pure trivial | exact Tot2.pure trivial | refine Tot.cnd (fun _ => ?_) (fun _ => ?_) | refine Tot2.cnd (fun _ => ?_) (fun _ => ?_)))
  refine Tot.bind (z1d_tot _ hk) fun x _ => ?_
  (repeat' (first | exact Tot.pure trivial | exact Tot2.pure trivial | refine Tot.cnd (fun _ => ?_) (fun _ => ?_) | refine Tot2.cnd (fun _ => ?_) (fun _ => ?_)))
theorem Tree.branches_len (x : Tree) : x.branches.length < x.bulk := by rw [Tree.bulk_eq]; have := sumB_len Branch.bulk_pos x.branches; omega
theorem Tree.body_lt (x : Tree) : x.body.bulk < x.bulk := by rw [Tree.bulk_eq]; omega
theorem Tree.kid_lt {x : Tree} {b : Branch} (h : b ∈ x.branches) : b.tree.bulk < x.bulk := by rw [Tree.bulk_eq x]; have := sumB_mem (f := Branch.bulk) h; rw [Branch.bulk_eq] at this; omega
theorem z0d_tot : ∀ (t : Tree) (a : Int), t.bulk < lim → Tot (fun n => z0d n t a) Yes := by
  intro t
  induction h : t.bulk using Nat.strongRecOn generalizing t with
  | ind k ih =>
    intro a hk
    have hl := t.branches_len
    have hl2 := t.body_lt
    refine Tot.fn (fun n => by simp only [z0d, z0d_e]; exact rfl) ?_
    (repeat' (first | exact Tot.pure trivial | exact Tot2.pure trivial | refine Tot.cnd (fun _ => ?_) (fun _ => ?_) | refine Tot2.cnd (fun _ => ?_) (fun _ => ?_)))
    refine Tot.bind (z14_tot _ (by omega)) fun x _ => ?_
    (repeat' (first | exact Tot.pure trivial | exact Tot2.pure trivial | refine Tot.cnd (fun _ => ?_) (fun _ => ?_) | refine Tot2.cnd (fun _ => ?_) (fun _ => ?_)))
    refine Tot.of2 (F := fun n m => z0d_l1 (z0d n) n m a 0 t) ?_
    refine Tot2.up (S := Unit) (L := fun n m i s => z0d_l1 (z0d n) n m a i t) t.branches.length (fun _ _ => True) Yes ?_ ?_ 0 () (by omega) trivial
    · intro i s hi _ next
      refine Tot2.lp (fun n m => by simp only [z0d_l1, z0d_b1]; exact rfl) ?_
      simp only [hi, Int.ofNat_lt, decide_true, cond_true]
      refine Tot2.idx hi ?_
      have hm := t.kid_lt (List.getElem_mem hi)
      rw [wrap_next (by unfold lim at hk; omega)]
      refine Tot2.bind1 (ih _ (by omega) _ rfl _ (by omega)) fun x _ => ?_
      (repeat' (first | exact Tot.pure trivial | exact Tot2.pure trivial | refine Tot.cnd (fun _ => ?_) (fun _ => ?_) | refine Tot2.cnd (fun _ => ?_) (fun _ => ?_)))
      refine Tot2.idx hi ?_
      (repeat' (first | exact Tot.pure trivial | exact Tot2.pure trivial | refine Tot.cnd (fun _ => ?_) (fun _ => ?_) | refine Tot2.cnd (fun _ => ?_) (fun _ => ?_)))
      exact next s trivial
    · intro s _
      refine Tot2.lp (fun n m => by simp only [z0d_l1, z0d_b1]; exact rfl) ?_
      simp only [Int.lt_irrefl, decide_false, cond_false]
      exact Tot2.pure trivial
end Go.Abs
namespace Go.Abs
set_option linter.unusedVariables false
set_option linter.unusedSimpArgs false
theorem eqb_LevelVar (a b : LevelVar) : eqb a b = (a.index == b.index && a.plus == b.plus) := by
  rw [Bool.eq_iff_iff, eqb_iff, Bool.and_eq_true, beq_iff_eq, beq_iff_eq]
  cases a; cases b; simp
theorem eqb_Level (a b : Level) : eqb a b = (a.const == b.const && eqb a.vars b.vars) := by
  rw [Bool.eq_iff_iff, eqb_iff, Bool.and_eq_true, beq_iff_eq, eqb_iff]
  cases a; cases b; simp
theorem eqb_Term (a b : Term) : eqb a b = (a.kind == b.kind && (a.index == b.index && (a.name == b.name && (eqb a.levels b.levels && eqb a.kids b.kids)))) := by
  rw [Bool.eq_iff_iff, eqb_iff]
  simp only [Bool.and_eq_true, beq_iff_eq, eqb_iff]
  cases a; cases b
  simp only [Term.mk.injEq, Term.kind, Term.index, Term.name, Term.levels, Term.kids]
theorem intlen {α β : Type} (xs : List α) (ys : List β) : ((xs.length : Int) != (ys.length : Int)) = (xs.length != ys.length) := by
  rw [Bool.eq_iff_iff, bne_iff_ne, bne_iff_ne]; omega
theorem z1m_ev (a b : Level) (hk : a.bulk < lim) : Ev (fun n => z1m n a b) (eqb a b) := by
  have h1 := a.vars_len
  refine Ev.fn (fun n => by simp only [z1m, z1m_e]; exact rfl) ?_
  rw [eqb_Level]
  cases hc : (a.const == b.const) with
  | false =>
    have e : (a.const != b.const) = true := by simp only [bne, hc, Bool.not_false]
    simp only [e, cond_true, Bool.false_and]
    exact Ev.pure
  | true =>
    have e : (a.const != b.const) = false := by simp only [bne, hc, Bool.not_true]
    simp only [e, cond_false, Bool.true_and]
    by_cases hl : a.vars.length = b.vars.length
    · have e : ((a.vars.length : Int) != (b.vars.length : Int)) = false := by rw [intlen, hl]; simp
      simp only [e, cond_false]
      refine Ev.of2 (F := fun n m => z1m_l1 n m 0 a b) ?_
      refine Ev2.same (L := fun n m i => z1m_l1 n m i a b) a.vars b.vars hl ?_ ?_
      · intro i hi hj r hr
        refine Ev2.lp (fun n m => by simp only [z1m_l1, z1m_b1]; exact rfl) ?_
        simp only [hi, Int.ofNat_lt, decide_true, cond_true]
        rw [wrap_next (by unfold lim at hk; omega), eqb_LevelVar]
        exact Ev2.idx hi (Ev2.idx hj (Ev2.andThen hr))
      · refine Ev2.lp (fun n m => by simp only [z1m_l1, z1m_b1]; exact rfl) ?_
        simp only [Int.lt_irrefl, decide_false, cond_false]
        exact Ev2.pure
    · have e : ((a.vars.length : Int) != (b.vars.length : Int)) = true := by rw [intlen]; simpa using hl
      simp only [e, cond_true]
      rw [eqb_len hl]
      exact Ev.pure
theorem z0e_ev (a b : List Level) (hk : a.length < lim) (hb : ∀ l ∈ a, l.bulk < lim) : Ev (fun n => z0e n a b) (eqb a b) := by
  refine Ev.fn (fun n => by simp only [z0e, z0e_e]; exact rfl) ?_
  by_cases hl : a.length = b.length
  · have e : ((a.length : Int) != (b.length : Int)) = false := by rw [intlen, hl]; simp
    simp only [e, cond_false]
    refine Ev.of2 (F := fun n m => z0e_l1 n m a b 0) ?_
    refine Ev2.same (L := fun n m i => z0e_l1 n m a b i) a b hl ?_ ?_
    · intro i hi hj r hr
      refine Ev2.lp (fun n m => by simp only [z0e_l1, z0e_b1]; exact rfl) ?_
      simp only [hi, Int.ofNat_lt, decide_true, cond_true]
      rw [wrap_next (by unfold lim at hk; omega)]
      exact Ev2.idx hi (Ev2.idx hj (Ev2.bind1 (z1m_ev _ _ (hb _ (List.getElem_mem hi))) (Ev2.andThen hr)))
    · refine Ev2.lp (fun n m => by simp only [z0e_l1, z0e_b1]; exact rfl) ?_
      simp only [Int.lt_irrefl, decide_false, cond_false]
      exact Ev2.pure
  · have e : ((a.length : Int) != (b.length : Int)) = true := by rw [intlen]; simpa using hl
    simp only [e, cond_true]
    rw [eqb_len hl]
    exact Ev.pure
theorem Ev.orElse {F : Nat → Option Bool} {c : Bool} {r : Bool} (h : Ev F r) : Ev (fun n => bif !c then some false else F n) (c && r) := by
  cases c with
  | true => exact h
  | false => exact Ev.pure
theorem z1p_ev : ∀ (a b : Term), a.bulk < lim → Ev (fun n => z1p n a b) (eqb a b) := by
  intro a
  induction h : a.bulk using Nat.strongRecOn generalizing a with
  | ind k ih =>
    intro b hk
    have h1 := a.kids_len
    have h2 := a.levels_len
    refine Ev.fn (fun n => by simp only [z1p, z1p_e]; exact rfl) ?_
    rw [eqb_Term]
    refine Ev.orElse (Ev.orElse (Ev.andThen (Ev.bind (z0e_ev _ _ (by omega) ?_) (Ev.andThen ?_))))
    · intro l hl; have := a.level_lt hl; omega
    · by_cases hl : a.kids.length = b.kids.length
      · have e : ((a.kids.length : Int) != (b.kids.length : Int)) = false := by rw [intlen, hl]; simp
        simp only [e, cond_false]
        refine Ev.of2 (F := fun n m => z1p_l1 (z1p n) n m 0 a b) ?_
        refine Ev2.same (L := fun n m i => z1p_l1 (z1p n) n m i a b) a.kids b.kids hl ?_ ?_
        · intro i hi hj r hr
          refine Ev2.lp (fun n m => by simp only [z1p_l1, z1p_b1]; exact rfl) ?_
          simp only [hi, Int.ofNat_lt, decide_true, cond_true]
          have := a.kid_lt (List.getElem_mem hi)
          rw [wrap_next (by unfold lim at hk; omega)]
          exact Ev2.idx hi (Ev2.idx hj (Ev2.bind1 (ih _ (by omega) _ rfl _ (by omega)) (Ev2.andThen hr)))
        · refine Ev2.lp (fun n m => by simp only [z1p_l1, z1p_b1]; exact rfl) ?_
          simp only [Int.lt_irrefl, decide_false, cond_false]
          exact Ev2.pure
      · have e : ((a.kids.length : Int) != (b.kids.length : Int)) = true := by rw [intlen]; simpa using hl
        simp only [e, cond_true]
        rw [eqb_len hl]
        exact Ev.pure
theorem z0k_ev (a b : List Term) (hk : a.length < lim) (hb : ∀ x ∈ a, x.bulk < lim) : Ev (fun n => z0k n a b) (eqb a b) := by
  refine Ev.fn (fun n => by simp only [z0k, z0k_e]; exact rfl) ?_
  by_cases hl : a.length = b.length
  · have e : ((a.length : Int) != (b.length : Int)) = false := by rw [intlen, hl]; simp
    simp only [e, cond_false]
    refine Ev.of2 (F := fun n m => z0k_l1 n m a b 0) ?_
    refine Ev2.same (L := fun n m i => z0k_l1 n m a b i) a b hl ?_ ?_
    · intro i hi hj r hr
      refine Ev2.lp (fun n m => by simp only [z0k_l1, z0k_b1]; exact rfl) ?_
      simp only [hi, Int.ofNat_lt, decide_true, cond_true]
      rw [wrap_next (by unfold lim at hk; omega)]
      exact Ev2.idx hi (Ev2.idx hj (Ev2.bind1 (z1p_ev _ _ (hb _ (List.getElem_mem hi))) (Ev2.andThen hr)))
    · refine Ev2.lp (fun n m => by simp only [z0k_l1, z0k_b1]; exact rfl) ?_
      simp only [Int.lt_irrefl, decide_false, cond_false]
      exact Ev2.pure
  · have e : ((a.length : Int) != (b.length : Int)) = true := by rw [intlen]; simpa using hl
    simp only [e, cond_true]
    rw [eqb_len hl]
    exact Ev.pure
end Go.Abs
namespace Go.Abs
set_option linter.unusedVariables false
set_option linter.unusedSimpArgs false
abbrev cap : Nat := 1048640
theorem two_kids {t : Term} (h : ((t.kids.length : Int) == 2) = true) : ∃ x y, t.kids = [x, y] := by
  have h : t.kids.length = 2 := by have := beq_iff_eq.1 h; omega
  match hk : t.kids, h with
  | [x, y], _ => exact ⟨x, y, rfl⟩
theorem kids2_bulk {t x y : Term} (h : t.kids = [x, y]) : x.bulk + y.bulk < t.bulk := by
  rw [Term.bulk_eq t, h]; simp only [sumB]; omega
theorem room80 {k : Nat} (h : k ≤ cap * 2) : decide ((k + 1) * 80 ≤ 17592186044416) = true := by
  simp only [cap] at h; simp only [decide_eq_true_eq]; omega
theorem All_ex : ∀ (t : Term), ∃ r : List Term × Term, (∀ acc : List Term, acc.length + t.bulk ≤ cap * 2 → Ev2 (fun n m => z0w_l1 n m t acc) (acc ++ r.1, r.2) ∧ Ev2 (fun n m => z1y_l1 n m t acc) (acc ++ r.1, r.2)) ∧ sumB Term.bulk r.1 + r.2.bulk ≤ t.bulk + 1 := by
  intro t
  induction h : t.bulk using Nat.strongRecOn generalizing t with
  | ind k ih =>
    cases hc : (t.kind == 6 && ((t.kids.length : Int) == 2)) with
    | false =>
      refine ⟨([], t), fun acc ha => ⟨?_, ?_⟩, by simp only [sumB]; omega⟩
      · refine Ev2.lp (fun n m => by simp only [z0w_l1, z0w_b1]; exact rfl) ?_
        rw [List.append_nil]
        cases h1 : (t.kind == 6) with
        | false => simp only [cond_false]; exact Ev2.pure
        | true =>
          rw [h1, Bool.true_and] at hc
          simp only [hc, cond_true, cond_false]; exact Ev2.pure
      · refine Ev2.lp (fun n m => by simp only [z1y_l1, z1y_b1]; exact rfl) ?_
        rw [List.append_nil]
        cases h1 : (t.kind == 6) with
        | false => simp only [cond_false]; exact Ev2.pure
        | true =>
          rw [h1, Bool.true_and] at hc
          simp only [hc, cond_true, cond_false]; exact Ev2.pure
    | true =>
      rw [Bool.and_eq_true] at hc
      obtain ⟨x, y, hxy⟩ := two_kids hc.2
      have hb := kids2_bulk hxy
      obtain ⟨r, hr, hrb⟩ := ih y.bulk (by omega) y rfl
      refine ⟨(x :: r.1, r.2), fun acc ha => ?_, by simp only [sumB]; omega⟩
      have h2 := hr (acc ++ [x]) (by have := x.bulk_pos; simp only [List.length_append, List.length_singleton]; omega)
      rw [List.append_assoc, List.singleton_append] at h2
      have i0 : idxA t.kids 0 = some x := by rw [hxy]; rfl
      have i1 : idxA t.kids 1 = some y := by rw [hxy]; rfl
      have hroom := room80 (k := acc.length) (by omega)
      refine ⟨?_, ?_⟩
      · refine Ev2.lp (fun n m => by simp only [z0w_l1, z0w_b1]; exact rfl) ?_
        simp only [hc.1, hc.2, cond_true, i0, i1, Option.bind_some, hroom]
        exact h2.1
      · refine Ev2.lp (fun n m => by simp only [z1y_l1, z1y_b1]; exact rfl) ?_
        simp only [hc.1, hc.2, cond_true, i0, i1, Option.bind_some, hroom]
        exact h2.2
theorem All_ev (t : Term) (ht : t.bulk ≤ cap) : ∃ r : List Term × Term, Ev (fun n => z0w n t) r ∧ Ev (fun n => z1y n t) r ∧ sumB Term.bulk r.1 + r.2.bulk ≤ t.bulk + 1 := by
  obtain ⟨r, hr, hb⟩ := All_ex t
  have := hr [] (by simp only [List.length_nil]; omega)
  refine ⟨r, ?_, ?_, hb⟩
  · refine Ev.fn (fun n => by simp only [z0w, z0w_e]; exact rfl) ?_
    exact Ev.of2 this.1
  · refine Ev.fn (fun n => by simp only [z1y, z1y_e]; exact rfl) ?_
    exact Ev.of2 this.2
theorem rev_loop : ∀ (k : Nat) (pre mid suf : List Term), mid.length = k → pre.length + k < lim → Ev2 (fun n m => z09_l1 n m pre.length ((pre.length : Int) + mid.length - 1) (pre ++ (mid ++ suf))) ((pre ++ (mid.reverse ++ suf), ()), ()) := by
  intro k
  induction k using Nat.strongRecOn with
  | ind k ih =>
    intro pre mid suf hk hlim
    refine Ev2.lp (fun n m => by simp only [z09_l1, z09_b1]; exact rfl) ?_
    match mid, hk with
    | [], hk =>
      have : decide ((pre.length : Int) < (pre.length : Int) + ([] : List Term).length - 1) = false := by simp; omega
      simp only [this, cond_false]
      exact Ev2.pure
    | [x], hk =>
      have : decide ((pre.length : Int) < (pre.length : Int) + ([x] : List Term).length - 1) = false := by simp
      simp only [this, cond_false]
      exact Ev2.pure
    | x :: y' :: rest, hk =>
      obtain ⟨mid', y, hy⟩ : ∃ mid' y, y' :: rest = mid' ++ [y] := ⟨(y' :: rest).dropLast, (y' :: rest).getLast (by simp), (List.dropLast_concat_getLast (by simp)).symm⟩
      rw [hy] at hk ⊢
      simp only [List.length_cons, List.length_append, List.length_nil] at hk
      have hd : decide ((pre.length : Int) < (pre.length : Int) + (x :: (mid' ++ [y])).length - 1) = true := by simp only [List.length_cons, List.length_append, List.length_nil, decide_eq_true_eq]; omega
      have e1 : ((pre.length : Int) + (x :: (mid' ++ [y])).length - 1) = ((pre.length + mid'.length + 1 : Nat) : Int) := by simp only [List.length_cons, List.length_append, List.length_nil]; omega
      have g1 : (pre ++ (x :: (mid' ++ [y]) ++ suf))[pre.length + mid'.length + 1]? = some y := by
        rw [List.getElem?_append_right (by omega)]
        have : pre.length + mid'.length + 1 - pre.length = mid'.length + 1 := by omega
        rw [this]
        simp
      have g0 : (pre ++ (x :: (mid' ++ [y]) ++ suf))[pre.length]? = some x := by
        rw [List.getElem?_append_right (by omega)]; simp
      have s0 : (pre ++ (x :: (mid' ++ [y]) ++ suf)).set pre.length y = pre ++ (y :: (mid' ++ [y]) ++ suf) := by
        rw [List.set_append_right _ _ (by omega)]; simp
      have g2 : (pre ++ (y :: (mid' ++ [y]) ++ suf))[pre.length + mid'.length + 1]? = some y := by
        rw [List.getElem?_append_right (by omega)]
        have : pre.length + mid'.length + 1 - pre.length = mid'.length + 1 := by omega
        rw [this]
        simp
      have s1 : (pre ++ (y :: (mid' ++ [y]) ++ suf)).set (pre.length + mid'.length + 1) x = (pre ++ [y]) ++ (mid' ++ (x :: suf)) := by
        rw [List.set_append_right _ _ (by omega)]
        have : pre.length + mid'.length + 1 - pre.length = mid'.length + 1 := by omega
        rw [this]
        simp only [List.cons_append, List.set_cons_succ, List.append_assoc]
        rw [List.set_append_right _ _ (by omega)]
        simp
      rw [e1] at hd
      simp only [e1]
      simp only [hd, cond_true]
      have n0 : (0 : Int) ≤ ((pre.length + mid'.length + 1 : Nat) : Int) := by omega
      have n1 : (0 : Int) ≤ (pre.length : Int) := by omega
      simp only [idxA, n0, n1, if_true, Int.toNat_natCast, g1, g0, g2, s0, s1, Option.bind_some]
      have w1 : IntKind.i64.wrap ((pre.length : Int) + 1) = ((pre ++ [y]).length : Int) := by
        unfold lim at hlim
        rw [wrap_next (by omega)]; simp
      have w2 : IntKind.i64.wrap (((pre.length + mid'.length + 1 : Nat) : Int) - 1) = ((pre ++ [y]).length : Int) + mid'.length - 1 := by
        unfold lim at hlim
        rw [wrap_small (by omega) (by omega)]; simp; omega
      rw [w1, w2]
      have := ih mid'.length (by omega) (pre ++ [y]) mid' (x :: suf) rfl (by simp; omega)
      have e : pre ++ ((x :: (mid' ++ [y])).reverse ++ suf) = (pre ++ [y]) ++ (mid'.reverse ++ (x :: suf)) := by simp
      rw [e]
      exact this
theorem z09_ev (r : List Term) (h : r.length < lim) : Ev (fun n => z09 n r) ((r.reverse, ()), ()) := by
  refine Ev.fn (fun n => by simp only [z09, z09_e]; exact rfl) ?_
  have := rev_loop r.length [] r [] rfl (by simpa using h)
  simp only [List.nil_append, List.append_nil, List.length_nil] at this
  have w : IntKind.i64.wrap ((r.length : Int) - 1) = (0 : Nat) + (r.length : Int) - 1 := by unfold lim at h; rw [wrap_small (by omega) (by omega)]; omega
  rw [w]
  exact Ev.of2 this
end Go.Abs
namespace Go.Abs
set_option linter.unusedVariables false
set_option linter.unusedSimpArgs false
theorem Spine_ex : ∀ (t : Term), t.bulk ≤ cap → ∃ (h : Term) (c : List Term), (∀ acc : List Term, acc.length + t.bulk ≤ cap * 2 → Ev2 (fun n m => z0h_l1 n m t acc) (h, (acc ++ c).reverse)) ∧ Ev (fun n => z0s n t) ((c.reverse, ()), h, ()) ∧ sumB Term.bulk c + h.bulk ≤ t.bulk + 1 := by
  intro t
  induction h : t.bulk using Nat.strongRecOn generalizing t with
  | ind k ih =>
    intro hcap
    cases hc : (t.kind == 4 && ((t.kids.length : Int) == 2)) with
    | false =>
      refine ⟨t, [], fun acc ha => ?_, ?_, by simp only [sumB]; omega⟩
      · refine Ev2.lp (fun n m => by simp only [z0h_l1, z0h_b1]; exact rfl) ?_
        rw [List.append_nil]
        have hrev := z09_ev acc (by unfold lim; simp only [cap] at ha; omega)
        cases h1 : (t.kind == 4) with
        | false =>
          simp only [cond_false]
          exact Ev2.bind1 hrev (by simp only [List.length_reverse, if_true, beq_self_eq_true, Bool.true_or, cond_true, Term.mapO_cells, Option.bind_some]; exact Ev2.pure)
        | true =>
          rw [h1, Bool.true_and] at hc
          simp only [hc, cond_true, cond_false]
          exact Ev2.bind1 hrev (by simp only [List.length_reverse, if_true, beq_self_eq_true, Bool.true_or, cond_true, Term.mapO_cells, Option.bind_some]; exact Ev2.pure)
      · refine Ev.fn (fun n => by simp only [z0s, z0s_e]; exact rfl) ?_
        cases h1 : (t.kind == 4) with
        | false =>
          simp only [bne, h1, Bool.not_false, cond_true]
          exact Ev.pure
        | true =>
          rw [h1, Bool.true_and] at hc
          simp only [bne, h1, hc, Bool.not_true, Bool.not_false, cond_true, cond_false]
          exact Ev.pure
    | true =>
      rw [Bool.and_eq_true] at hc
      obtain ⟨x, y, hxy⟩ := two_kids hc.2
      have hb := kids2_bulk hxy
      obtain ⟨hd, c, hr, hs, hrb⟩ := ih x.bulk (by omega) x rfl (by omega)
      have i0 : idxA t.kids 0 = some x := by rw [hxy]; rfl
      have i1 : idxA t.kids 1 = some y := by rw [hxy]; rfl
      refine ⟨hd, y :: c, fun acc ha => ?_, ?_, by simp only [sumB]; omega⟩
      · have h2 := hr (acc ++ [y]) (by have := y.bulk_pos; simp only [List.length_append, List.length_singleton]; omega)
        rw [List.append_assoc, List.singleton_append] at h2
        have hroom := room80 (k := acc.length) (by omega)
        refine Ev2.lp (fun n m => by simp only [z0h_l1, z0h_b1]; exact rfl) ?_
        simp only [hc.1, hc.2, cond_true, i0, i1, Option.bind_some, hroom]
        exact h2
      · refine Ev.fn (fun n => by simp only [z0s, z0s_e]; exact rfl) ?_
        simp only [bne, hc.1, hc.2, Bool.not_true, cond_false, i0, i1, Option.bind_some]
        have hlen := sumB_len Term.bulk_pos c
        have hroom := room80 (k := c.reverse.length) (by rw [List.length_reverse]; omega)
        refine Ev.bind hs ?_
        simp only [hroom, cond_true, List.reverse_cons]
        exact Ev.pure
theorem Spine_ev (t : Term) (ht : t.bulk ≤ cap) : ∃ (h : Term) (c : List Term), Ev (fun n => z0h n t) (h, c) ∧ Ev (fun n => z0s n t) ((c, ()), h, ()) ∧ (∀ x ∈ c, x.bulk ≤ cap) ∧ c.length ≤ cap ∧ h.bulk ≤ cap := by
  obtain ⟨h, c, h1, h2, hb⟩ := Spine_ex t ht
  have hlen := sumB_len Term.bulk_pos c
  have hpos := h.bulk_pos
  have hs1 : 1 ≤ sumB Term.bulk c := sumB_pos c
  refine ⟨h, c.reverse, ?_, h2, ?_, ?_, by omega⟩
  · refine Ev.fn (fun n => by simp only [z0h, z0h_e]; exact rfl) ?_
    have := h1 [] (by simp only [List.length_nil]; omega)
    rw [List.nil_append] at this
    exact Ev.of2 this
  · intro x hx
    have := sumB_mem (f := Term.bulk) (List.mem_reverse.1 hx)
    omega
  · rw [List.length_reverse]; omega
end Go.Abs
namespace Go.Abs
set_option maxRecDepth 100000
theorem awake_k (k : Nat) : z15 (k + 60) = some true := by kernel_rfl
end Go.Abs
namespace Go.Abs
set_option linter.unusedVariables false
set_option linter.unusedSimpArgs false
def TL (xs : List Term) : Prop := xs.length ≤ cap ∧ ∀ x ∈ xs, x.bulk ≤ cap
theorem TL.take {xs : List Term} (h : TL xs) (n : Nat) : TL (xs.take n) := ⟨by have := h.1; rw [List.length_take]; omega, fun x hx => h.2 x (List.mem_of_mem_take hx)⟩
theorem TL.drop {xs : List Term} (h : TL xs) (n : Nat) : TL (xs.drop n) := ⟨by have := h.1; rw [List.length_drop]; omega, fun x hx => h.2 x (List.mem_of_mem_drop hx)⟩
theorem TL.lim {xs : List Term} (h : TL xs) : xs.length < lim ∧ ∀ x ∈ xs, x.bulk < lim := by
  refine ⟨?_, fun x hx => ?_⟩
  · have := h.1; simp only [cap] at this; unfold Go.Abs.lim; omega
  · have := h.2 x hx; simp only [cap] at this; unfold Go.Abs.lim; omega
theorem lim_of_cap {n : Nat} (h : n ≤ cap) : n < lim := by simp only [cap] at h; unfold lim; omega
end Go.Abs
namespace Go.Abs
set_option linter.unusedVariables false
set_option linter.unusedSimpArgs false
end Go.Abs
namespace Go.Abs
set_option linter.unusedVariables false
set_option linter.unusedSimpArgs false
theorem Ctor.bulk_pos (x : Ctor) : 1 ≤ x.bulk := by rw [Ctor.bulk]; omega
theorem Fun.bulk_pos (x : Fun) : 1 ≤ x.bulk := by rw [Fun.bulk]; omega
theorem Decl.ctor_le {d : Decl} {c : Ctor} (h : c ∈ d.ctors) : c.type.bulk ≤ d.bulk ∧ c.name.length ≤ d.bulk := by
  have := sumB_mem (f := Ctor.bulk) h
  rw [Ctor.bulk] at this
  rw [Decl.bulk]
  omega
theorem Decl.ctors_len (d : Decl) : d.ctors.length ≤ d.bulk := by
  have := sumB_len Ctor.bulk_pos d.ctors
  rw [Decl.bulk]; omega
end Go.Abs
namespace Go.Abs
set_option linter.unusedVariables false
set_option linter.unusedSimpArgs false
theorem z0r_tot (d : Decl) (hd : d.bulk ≤ cap) : Tot (fun n => z0r n d) Yes := by
  have hd' := hd
  rw [Decl.bulk] at hd'
  have hl1 := d.ctors_len
  have hl2 := sumB_len Fun.bulk_pos d.funs
  have hl3 : sumB Term.bulk d.recu.rules < d.recu.bulk := by rw [Recursor.bulk]; omega
  have hl4 := sumB_len Term.bulk_pos d.recu.rules
  have hl5 : d.recu.type.bulk < d.recu.bulk := by rw [Recursor.bulk]; omega
  have k1 : Tot (fun n => z0r_l1 n n 0 d) Yes := by
    refine Tot.of2 (F := fun n m => z0r_l1 n m 0 d) ?_
    refine Tot2.up (S := Unit) (L := fun n m i s => z0r_l1 n m i d) d.funs.length (fun _ _ => True) Yes ?_ ?_ 0 () (by omega) trivial
    · intro i s hi _ next
      refine Tot2.lp (fun n m => by simp only [z0r_l1, z0r_b1]; exact rfl) ?_
      simp only [hi, Int.ofNat_lt, decide_true, cond_true]
      refine Tot2.idx hi ?_
      have hm := sumB_mem (f := Fun.bulk) (List.getElem_mem hi)
      rw [Fun.bulk] at hm
      (repeat' (first | exact Tot.pure trivial | exact Tot2.pure trivial | refine Tot.cnd (fun _ => ?_) (fun _ => ?_) | refine Tot2.cnd (fun _ => ?_) (fun _ => ?_)))
      refine Tot2.idx hi ?_
      refine Tot2.bind1 (z14_tot _ (lim_of_cap (by omega))) fun x _ => ?_
      (repeat' (first | exact Tot.pure trivial | exact Tot2.pure trivial | refine Tot.cnd (fun _ => ?_) (fun _ => ?_) | refine Tot2.cnd (fun _ => ?_) (fun _ => ?_)))
      refine Tot2.idx hi ?_
      refine Tot2.bind1 (z0d_tot _ _ (lim_of_cap (by omega))) fun x _ => ?_
      (repeat' (first | exact Tot.pure trivial | exact Tot2.pure trivial | refine Tot.cnd (fun _ => ?_) (fun _ => ?_) | refine Tot2.cnd (fun _ => ?_) (fun _ => ?_)))
      rw [wrap_next (by simp only [cap] at hd hd'; omega)]
      exact next s trivial
    · intro s _
      refine Tot2.lp (fun n m => by simp only [z0r_l1, z0r_b1]; exact rfl) ?_
      simp only [Int.lt_irrefl, decide_false, cond_false]
      exact Tot2.pure trivial
  have k2 : Tot (fun n => z0r_l2 n n 0 d) Yes := by
    refine Tot.of2 (F := fun n m => z0r_l2 n m 0 d) ?_
    refine Tot2.up (S := Unit) (L := fun n m i s => z0r_l2 n m i d) d.recu.rules.length (fun _ _ => True) Yes ?_ ?_ 0 () (by omega) trivial
    · intro i s hi _ next
      refine Tot2.lp (fun n m => by simp only [z0r_l2, z0r_b2]; exact rfl) ?_
      simp only [hi, Int.ofNat_lt, decide_true, cond_true]
      refine Tot2.idx hi ?_
      have hm := sumB_mem (f := Term.bulk) (List.getElem_mem hi)
      refine Tot2.bind1 (z14_tot _ (lim_of_cap (by omega))) fun x _ => ?_
      (repeat' (first | exact Tot.pure trivial | exact Tot2.pure trivial | refine Tot.cnd (fun _ => ?_) (fun _ => ?_) | refine Tot2.cnd (fun _ => ?_) (fun _ => ?_)))
      rw [wrap_next (by simp only [cap] at hd hd'; omega)]
      exact next s trivial
    · intro s _
      refine Tot2.lp (fun n m => by simp only [z0r_l2, z0r_b2]; exact rfl) ?_
      simp only [Int.lt_irrefl, decide_false, cond_false]
      exact Tot2.of1 k1
  have k3 : Tot (fun n => z0r_l3 n n 0 d) Yes := by
    refine Tot.of2 (F := fun n m => z0r_l3 n m 0 d) ?_
    refine Tot2.up (S := Unit) (L := fun n m i s => z0r_l3 n m i d) d.ctors.length (fun _ _ => True) Yes ?_ ?_ 0 () (by omega) trivial
    · intro i s hi _ next
      refine Tot2.lp (fun n m => by simp only [z0r_l3, z0r_b3]; exact rfl) ?_
      simp only [hi, Int.ofNat_lt, decide_true, cond_true]
      refine Tot2.idx hi ?_
      have hm := (Decl.ctor_le (List.getElem_mem hi)).1
      (repeat' (first | exact Tot.pure trivial | exact Tot2.pure trivial | refine Tot.cnd (fun _ => ?_) (fun _ => ?_) | refine Tot2.cnd (fun _ => ?_) (fun _ => ?_)))
      refine Tot2.idx hi ?_
      refine Tot2.bind1 (z14_tot _ (lim_of_cap (by omega))) fun x _ => ?_
      (repeat' (first | exact Tot.pure trivial | exact Tot2.pure trivial | refine Tot.cnd (fun _ => ?_) (fun _ => ?_) | refine Tot2.cnd (fun _ => ?_) (fun _ => ?_)))
      rw [wrap_next (by simp only [cap] at hd hd'; omega)]
      exact next s trivial
    · intro s _
      refine Tot2.lp (fun n m => by simp only [z0r_l3, z0r_b3]; exact rfl) ?_
      simp only [Int.lt_irrefl, decide_false, cond_false]
      exact Tot2.of1 k2
  refine Tot.fn (fun n => by simp only [z0r, z0r_e]; exact rfl) ?_
  (repeat' (first | exact Tot.pure trivial | exact Tot2.pure trivial | refine Tot.cnd (fun _ => ?_) (fun _ => ?_) | refine Tot2.cnd (fun _ => ?_) (fun _ => ?_)))
  refine Tot.bind (z14_tot _ (lim_of_cap (by omega))) fun x _ => ?_
  (repeat' (first | exact Tot.pure trivial | exact Tot2.pure trivial | refine Tot.cnd (fun _ => ?_) (fun _ => ?_) | refine Tot2.cnd (fun _ => ?_) (fun _ => ?_)))
  refine Tot.bind (z14_tot _ (lim_of_cap (by omega))) fun x _ => ?_
  (repeat' (first | exact Tot.pure trivial | exact Tot2.pure trivial | refine Tot.cnd (fun _ => ?_) (fun _ => ?_) | refine Tot2.cnd (fun _ => ?_) (fun _ => ?_)))
  refine Tot.bind (z14_tot _ (lim_of_cap (by omega))) fun x _ => ?_
  (repeat' (first | exact Tot.pure trivial | exact Tot2.pure trivial | refine Tot.cnd (fun _ => ?_) (fun _ => ?_) | refine Tot2.cnd (fun _ => ?_) (fun _ => ?_)))
  exact k3
theorem z15_ev : Ev (fun n => z15 n) true := by
  refine ⟨60, fun n hn => ?_⟩
  obtain ⟨k, rfl⟩ : ∃ k, n = k + 60 := ⟨n - 60, by omega⟩
  exact awake_k k
end Go.Abs
namespace Go.Abs
set_option linter.unusedVariables false
set_option linter.unusedSimpArgs false
theorem any_drop {α : Type} (p : α → Bool) (xs : List α) (i : Nat) (h : i < xs.length) : (xs.drop i).any p = (p xs[i] || (xs.drop (i + 1)).any p) := by
  rw [List.drop_eq_getElem_cons h, List.any_cons]
theorem TL.one {t : Term} (h : t.bulk ≤ cap) : TL [t] := ⟨by simp [cap], fun x hx => by rw [List.mem_singleton] at hx; subst hx; exact h⟩
-- the reference
theorem z1z_ev (l : List Str) (s : Str) (hl : l.length < lim) : Ev (fun n => z1z n l s) (l.any (· == s)) := by
  refine Tot.ev ?_
  refine Tot.fn (fun n => by simp only [z1z, z1z_e]; exact rfl) ?_
  refine Tot.of2 (F := fun n m => z1z_l1 n m l s 0) ?_
  refine Tot2.up (S := Unit) (L := fun n m i _ => z1z_l1 n m l s i) l.length (fun i _ => l.any (· == s) = (l.drop i).any (· == s)) _ ?_ ?_ 0 () (by omega) rfl
  · intro i u hi hI next
    refine Tot2.lp (fun n m => by simp only [z1z_l1, z1z_b1]; exact rfl) ?_
    simp only [hi, Int.ofNat_lt, decide_true, cond_true]
    refine Tot2.idx hi ?_
    rw [any_drop _ _ _ hi] at hI
    refine Tot2.cnd (fun hc => Tot2.pure ?_) fun hc => ?_
    · rw [hI, hc, Bool.true_or]
    · rw [wrap_next (by unfold lim at hl; omega)]
      exact next u (by rw [hI, hc, Bool.false_or])
  · intro u hI
    refine Tot2.lp (fun n m => by simp only [z1z_l1, z1z_b1]; exact rfl) ?_
    simp only [Int.lt_irrefl, decide_false, cond_false]
    refine Tot2.pure ?_
    rw [hI, List.drop_length]; rfl
end Go.Abs
namespace Go.Abs
set_option linter.unusedVariables false
set_option linter.unusedSimpArgs false
end Go.Abs
namespace Go.Abs
end Go.Abs
namespace Go.Abs
set_option linter.unusedVariables false
set_option linter.unusedSimpArgs false
end Go.Abs
namespace Go.Abs
set_option linter.unusedVariables false
set_option linter.unusedSimpArgs false
theorem room16w {k : Nat} (h : k ≤ cap * 4) : decide ((k + 1) * 16 ≤ 17592186044416) = true := by
  simp only [cap] at h; simp only [decide_eq_true_eq]; omega
def recN : Str := [46, 114, 101, 99]
def namesT (d : Decl) : List Str :=
  bif d.kind == 0 then [d.name] else bif d.kind == 1 then [d.name] else bif d.kind == 2 then [d.name] else
  bif d.kind == 3 then d.name :: d.ctors.map (·.name) ++ [d.name ++ recN] else bif d.kind == 4 then d.funs.map (·.name) else []
structure DOK (d : Decl) : Prop where
  ctors : d.ctors.length ≤ cap
  funs : d.funs.length ≤ cap
  name : d.name.length ≤ cap
theorem DOK.of {d : Decl} (h : d.bulk ≤ cap) : DOK d := by
  rw [Decl.bulk] at h
  have h1 := d.ctors_len
  have h2 := sumB_len Fun.bulk_pos d.funs
  have h3 := sumB_len Ctor.bulk_pos d.ctors
  exact ⟨by omega, by omega, by omega⟩
theorem namesT_len {d : Decl} (h : DOK d) : (namesT d).length ≤ cap + 2 := by
  obtain ⟨h1, h2, _⟩ := h
  unfold namesT
  cases d.kind == 0 <;> cases d.kind == 1 <;> cases d.kind == 2 <;> cases d.kind == 3 <;> cases d.kind == 4 <;> simp [cap] <;> simp only [cap] at h1 h2 <;> omega
theorem map_take_succ {α β : Type} (f : α → β) (l : List α) (i : Nat) (h : i < l.length) : (l.take (i + 1)).map f = (l.take i).map f ++ [f l[i]] := by
  rw [List.take_succ_eq_append_getElem h, List.map_append]; rfl
theorem ref_Names_ev (d : Decl) (h : DOK d) : Ev (fun n => z1h n d) (namesT d) := by
  obtain ⟨h1, h2, h3⟩ := h
  have hn : decide (d.name.length ≤ 9223372036854775803) = true := by simp only [cap] at h3; simp only [decide_eq_true_eq]; omega
  refine Ev.fn (fun n => by simp only [z1h, z1h_e]; exact rfl) ?_
  unfold namesT
  cases d.kind == 0 with
  | true => exact Ev.pure
  | false =>
  cases d.kind == 1 with
  | true => exact Ev.pure
  | false =>
  cases d.kind == 2 with
  | true => exact Ev.pure
  | false =>
  cases d.kind == 3 with
  | true =>
    simp only [cond_true, cond_false]
    have loop : ∀ (i : Nat) (s : List Str), i ≤ d.ctors.length → s = d.name :: (d.ctors.take i).map (·.name) → Tot2 (fun n m => z1h_l1 n m i d s) (· = d.name :: d.ctors.map (·.name) ++ [d.name ++ recN]) := by
      refine Tot2.up (S := List Str) (L := fun n m i s => z1h_l1 n m i d s) d.ctors.length (fun i s => s = d.name :: (d.ctors.take i).map (·.name)) _ ?_ ?_
      · intro i s hi hs next
        refine Tot2.lp (fun n m => by simp only [z1h_l1, z1h_b1]; exact rfl) ?_
        have hl : s.length ≤ cap * 4 := by rw [hs]; simp only [List.length_cons, List.length_map, List.length_take, cap] at *; omega
        simp only [hi, Int.ofNat_lt, decide_true, cond_true, room16w hl]
        refine Tot2.idx hi ?_
        rw [wrap_next (by simp only [cap] at h1; omega)]
        exact next _ (by rw [hs, map_take_succ _ _ _ hi]; rfl)
      · intro s hs
        refine Tot2.lp (fun n m => by simp only [z1h_l1, z1h_b1]; exact rfl) ?_
        have hl : s.length ≤ cap * 4 := by rw [hs]; simp only [List.length_cons, List.length_map, List.length_take, cap] at *; omega
        simp only [Int.lt_irrefl, decide_false, cond_false, hn, cond_true, room16w hl]
        exact Tot2.pure (by rw [hs, List.take_length]; rfl)
    refine Tot.ev (Tot.of2 (F := fun n m => z1h_p1 n m [d.name] 0 d) ?_)
    refine Tot2.lp (fun n m => by simp only [z1h_p1, z1h_b1p]; exact rfl) ?_
    have hl : [d.name].length ≤ cap * 4 := by simp [cap]
    refine Tot2.cnd (fun hc => ?_) fun hc => ?_
    · have hi : 0 < d.ctors.length := by have := of_decide_eq_true hc; omega
      refine Tot2.idx (i := 0) hi ?_
      simp only [room16w hl, cond_true]
      have e : IntKind.i64.wrap (0 + 1) = ((1 : Nat) : Int) := rfl
      rw [e]
      refine loop 1 _ hi ?_
      rw [map_take_succ _ _ _ hi]; rfl
    · have hz : d.ctors = [] := by
        have := of_decide_eq_false hc
        exact List.eq_nil_of_length_eq_zero (by omega)
      simp only [hn, cond_true, room16w hl]
      exact Tot2.pure (by rw [hz]; rfl)
  | false =>
  cases d.kind == 4 with
  | true =>
    simp only [cond_true, cond_false]
    refine Tot.ev (Tot.of2 (F := fun n m => z1h_l2 n m 0 d []) ?_)
    refine Tot2.up (S := List Str) (L := fun n m i s => z1h_l2 n m i d s) d.funs.length (fun i s => s = (d.funs.take i).map (·.name)) _ ?_ ?_ 0 _ (by omega) rfl
    · intro i s hi hs next
      refine Tot2.lp (fun n m => by simp only [z1h_l2, z1h_b2]; exact rfl) ?_
      have hl : s.length ≤ cap * 4 := by rw [hs]; simp only [List.length_cons, List.length_map, List.length_take, cap] at *; omega
      simp only [hi, Int.ofNat_lt, decide_true, cond_true, room16w hl]
      refine Tot2.idx hi ?_
      rw [wrap_next (by simp only [cap] at h2; omega)]
      exact next _ (by rw [hs, map_take_succ _ _ _ hi])
    · intro s hs
      refine Tot2.lp (fun n m => by simp only [z1h_l2, z1h_b2]; exact rfl) ?_
      simp only [Int.lt_irrefl, decide_false, cond_false]
      exact Tot2.pure (by rw [hs, List.take_length])
  | false => exact Ev.pure
def ctorE (i : Int) (p : Int) (name : Str) : Nat → List Ctor → Option Entry
  | _, [] => none
  | k, c :: cs => bif c.name == name then some { kind := 4, decl := i, item := k, params := p, type := c.type } else ctorE i p name (k + 1) cs
def funE (i : Int) (p : Int) (name : Str) : Nat → List Fun → Option Entry
  | _, [] => none
  | k, c :: cs => bif c.name == name then some { kind := 6, decl := i, item := k, params := p, type := c.type } else funE i p name (k + 1) cs
def entryT (d : Decl) (i : Int) (name : Str) : Entry :=
  bif d.kind == 0 then { kind := 0, decl := i, item := 0, params := d.params, type := d.type } else
  bif d.kind == 1 then { kind := 1, decl := i, item := 0, params := d.params, type := d.type } else
  bif d.kind == 2 then { kind := 2, decl := i, item := 0, params := d.params, type := d.type } else
  bif d.kind == 3 then bif name == d.name then { kind := 3, decl := i, item := 0, params := d.params, type := d.type } else
    (ctorE i d.params name 0 d.ctors).getD { kind := 5, decl := i, item := 0, params := d.recu.params, type := d.recu.type }
  else (funE i d.params name 0 d.funs).getD { kind := 0, decl := i, item := 0, params := d.params, type := d.type }
theorem ref_entry_ev (d : Decl) (h : DOK d) (i : Int) (name : Str) : Ev (fun n => z1j n d i name) (entryT d i name) := by
  obtain ⟨h1, h2, h3⟩ := h
  refine Ev.fn (fun n => by simp only [z1j, z1j_e]; exact rfl) ?_
  unfold entryT
  cases d.kind == 0 with
  | true => exact Ev.pure
  | false =>
  cases d.kind == 1 with
  | true => exact Ev.pure
  | false =>
  cases d.kind == 2 with
  | true => exact Ev.pure
  | false =>
  simp only [cond_false]
  cases d.kind == 3 with
  | true =>
    cases name == d.name with
    | true => exact Ev.pure
    | false =>
      simp only [cond_true, cond_false]
      refine Tot.ev (Tot.of2 (F := fun n m => z1j_l1 n m i name 0 d) ?_)
      refine Tot2.up (S := Unit) (L := fun n m k _ => z1j_l1 n m i name k d) d.ctors.length (fun k _ => ctorE i d.params name 0 d.ctors = ctorE i d.params name k (d.ctors.drop k)) _ ?_ ?_ 0 () (by omega) rfl
      · intro k s hk hs next
        refine Tot2.lp (fun n m => by simp only [z1j_l1, z1j_b1]; exact rfl) ?_
        simp only [hk, Int.ofNat_lt, decide_true, cond_true]
        refine Tot2.idx hk ?_
        rw [wrap_next (by simp only [cap] at h1; omega)]
        rw [List.drop_eq_getElem_cons hk, ctorE] at hs
        refine Tot2.cnd (fun hc => ?_) fun hc => ?_
        · refine Tot2.idx hk (Tot2.pure ?_)
          rw [hs, hc]; rfl
        · exact next () (by rw [hs, hc]; rfl)
      · intro s hs
        refine Tot2.lp (fun n m => by simp only [z1j_l1, z1j_b1]; exact rfl) ?_
        simp only [Int.lt_irrefl, decide_false, cond_false]
        refine Tot2.pure ?_
        rw [hs, List.drop_length]; rfl
  | false =>
    simp only [cond_false]
    have ety : d.type = Term.mk d.type.kind d.type.index d.type.name d.type.levels d.type.kids := by cases d.type; rfl
    refine Tot.ev (Tot.of2 (F := fun n m => z1j_l2 n m i name 0 d i d.params d.type.kind d.type.index d.type.name d.type.levels d.type.kids) ?_)
    refine Tot2.up (S := Unit) (L := fun n m k _ => z1j_l2 n m i name k d i d.params d.type.kind d.type.index d.type.name d.type.levels d.type.kids) d.funs.length (fun k _ => funE i d.params name 0 d.funs = funE i d.params name k (d.funs.drop k)) _ ?_ ?_ 0 () (by omega) rfl
    · intro k s hk hs next
      refine Tot2.lp (fun n m => by simp only [z1j_l2, z1j_b2]; exact rfl) ?_
      simp only [hk, Int.ofNat_lt, decide_true, cond_true]
      refine Tot2.idx hk ?_
      rw [wrap_next (by simp only [cap] at h2; omega)]
      rw [List.drop_eq_getElem_cons hk, funE] at hs
      refine Tot2.cnd (fun hc => ?_) fun hc => ?_
      · refine Tot2.idx hk (Tot2.pure ?_)
        rw [hs, hc]; rfl
      · exact next () (by rw [hs, hc]; rfl)
    · intro s hs
      refine Tot2.lp (fun n m => by simp only [z1j_l2, z1j_b2]; exact rfl) ?_
      simp only [Int.lt_irrefl, decide_false, cond_false]
      refine Tot2.pure ?_
      rw [hs, List.drop_length, ← ety]; rfl
def noEntry : Entry := { kind := 0, decl := 0, item := 0, params := 0, type := Term.mk 0 0 [] [] [] }
def findT (name : Str) : Nat → List Decl → Entry × Int
  | _, [] => (noEntry, 9)
  | i, d :: ds => bif (namesT d).any (· == name) then (entryT d i name, 0) else findT name (i + 1) ds
structure EOK (env : List Decl) : Prop where
  len : env.length ≤ cap
  ds : ∀ d ∈ env, d.bulk ≤ cap
theorem ref_Find_ev (env : List Decl) (h : EOK env) (name : Str) : Ev (fun n => z1t n env name) (findT name 0 env) := by
  have hl := h.len
  refine Ev.fn (fun n => by simp only [z1t, z1t_e]; exact rfl) ?_
  refine Tot.ev (Tot.of2 (F := fun n m => z1t_l1 n m env name 0) ?_)
  refine Tot2.up (S := Unit) (L := fun n m k _ => z1t_l1 n m env name k) env.length (fun k _ => findT name 0 env = findT name k (env.drop k)) _ ?_ ?_ 0 () (by omega) rfl
  · intro k s hk hs next
    refine Tot2.lp (fun n m => by simp only [z1t_l1, z1t_b1]; exact rfl) ?_
    simp only [hk, Int.ofNat_lt, decide_true, cond_true]
    refine Tot2.idx hk ?_
    have hd := DOK.of (h.ds _ (List.getElem_mem hk))
    rw [wrap_next (by simp only [cap] at hl; omega)]
    rw [List.drop_eq_getElem_cons hk, findT] at hs
    refine Tot2.bind1 ((ref_Names_ev _ hd).tot (Q := (· = namesT env[k])) rfl) fun x hx => ?_
    subst hx
    refine Tot2.bind1 ((z1z_ev _ name (by have := namesT_len hd; simp only [cap, lim] at *; omega)).tot (Q := (· = (namesT env[k]).any (· == name))) rfl) fun x hx => ?_
    subst hx
    refine Tot2.cnd (fun hc => ?_) fun hc => ?_
    · refine Tot2.idx hk ?_
      refine Tot2.bind1 ((ref_entry_ev _ hd k name).tot (Q := (· = entryT env[k] k name)) rfl) fun x hx => Tot2.pure ?_
      rw [hs, hc, hx]; rfl
    · exact next () (by rw [hs, hc]; rfl)
  · intro s hs
    refine Tot2.lp (fun n m => by simp only [z1t_l1, z1t_b1]; exact rfl) ?_
    simp only [Int.lt_irrefl, decide_false, cond_false]
    refine Tot2.pure ?_
    rw [hs, List.drop_length]; rfl
theorem ctorE_at {i p : Int} {name : Str} : ∀ {k : Nat} {cs : List Ctor} {e : Entry}, ctorE i p name k cs = some e → e.kind = 4 ∧ e.decl = i ∧ ∃ j : Nat, e.item = j ∧ k ≤ j ∧ j < k + cs.length
  | k, [], e, h => by simp [ctorE] at h
  | k, c :: cs, e, h => by
    rw [ctorE] at h
    cases hc : c.name == name with
    | true =>
      rw [hc, cond_true, Option.some.injEq] at h
      subst h
      exact ⟨rfl, rfl, k, rfl, Nat.le_refl _, by simp⟩
    | false =>
      rw [hc, cond_false] at h
      obtain ⟨h1, h2, j, h3, h4, h5⟩ := ctorE_at h
      exact ⟨h1, h2, j, h3, by omega, by rw [List.length_cons]; omega⟩
theorem funE_at {i p : Int} {name : Str} : ∀ {k : Nat} {cs : List Fun} {e : Entry}, funE i p name k cs = some e → e.kind = 6 ∧ e.decl = i
  | k, [], e, h => by simp [funE] at h
  | k, c :: cs, e, h => by
    rw [funE] at h
    cases hc : c.name == name with
    | true =>
      rw [hc, cond_true, Option.some.injEq] at h
      subst h
      exact ⟨rfl, rfl⟩
    | false =>
      rw [hc, cond_false] at h
      exact funE_at h
theorem entryT_at (d : Decl) (i : Int) (name : Str) : (entryT d i name).decl = i ∧ ((entryT d i name).kind = 4 → ∃ j : Nat, (entryT d i name).item = j ∧ j < d.ctors.length) ∧ ((entryT d i name).kind = 3 → d.kind = 3 ∧ name = d.name) := by
  unfold entryT
  cases h0 : d.kind == 0 with
  | true => exact ⟨rfl, fun h => by simp at h, fun h => by simp at h⟩
  | false =>
  cases h1 : d.kind == 1 with
  | true => exact ⟨rfl, fun h => by simp at h, fun h => by simp at h⟩
  | false =>
  cases h2 : d.kind == 2 with
  | true => exact ⟨rfl, fun h => by simp at h, fun h => by simp at h⟩
  | false =>
  cases h3 : d.kind == 3 with
  | true =>
    simp only [cond_true, cond_false]
    cases hn : name == d.name with
    | true => exact ⟨rfl, fun h => by simp at h, fun _ => ⟨beq_iff_eq.1 h3, beq_iff_eq.1 hn⟩⟩
    | false =>
      simp only [cond_false]
      cases hc : ctorE i d.params name 0 d.ctors with
      | none => exact ⟨rfl, fun h => by simp at h, fun h => by simp at h⟩
      | some e =>
        obtain ⟨e1, e2, j, e3, e4, e5⟩ := ctorE_at hc
        exact ⟨e2, fun _ => ⟨j, e3, by omega⟩, fun h => absurd (e1.symm.trans h) (by decide)⟩
  | false =>
    simp only [cond_false]
    cases hc : funE i d.params name 0 d.funs with
    | none => exact ⟨rfl, fun h => by simp at h, fun h => by simp at h⟩
    | some e =>
      obtain ⟨e1, e2⟩ := funE_at hc
      exact ⟨e2, fun h => absurd (e1.symm.trans h) (by decide), fun h => absurd (e1.symm.trans h) (by decide)⟩
theorem findT_at {name : Str} : ∀ {k : Nat} {env : List Decl}, (findT name k env).2 = 0 → ∃ (j : Nat) (hj : j < env.length), (findT name k env).1.decl = (k + j : Nat) ∧ (findT name k env).1 = entryT env[j] (k + j : Nat) name ∧ (namesT env[j]).any (· == name) = true
  | k, [], h => by simp [findT] at h
  | k, d :: ds, h => by
    rw [findT] at h ⊢
    cases hc : (namesT d).any (· == name) with
    | true =>
      simp only [cond_true]
      exact ⟨0, by simp, (entryT_at d k name).1, rfl, hc⟩
    | false =>
      rw [hc, cond_false] at h
      simp only [cond_false]
      obtain ⟨j, hj, h1, h2, h3⟩ := findT_at h
      refine ⟨j + 1, by simp; omega, ?_, ?_, h3⟩
      · rw [h1]; omega
      · rw [h2]
        have : ((k + 1 + j : Nat) : Int) = ((k + (j + 1) : Nat) : Int) := by omega
        rw [this]; rfl
end Go.Abs
namespace Go.Abs
set_option linter.unusedVariables false
set_option linter.unusedSimpArgs false
theorem zero_tot (t : Term) (h : t.bulk ≤ cap) : Tot (fun n => z1u n t) Yes := by
  refine Tot.fn (fun n => by simp only [z1u, z1u_e]; exact rfl) ?_
  exact Tot.bind ((z1p_ev t (Term.mk 0 0 [] [] []) (lim_of_cap h)).tot (Q := Yes) trivial) fun x _ => Tot.pure trivial
structure DOK2 (d : Decl) : Prop extends DOK d where
  type : d.type.bulk ≤ cap
  value : d.value.bulk ≤ cap
  rtype : d.recu.type.bulk ≤ cap
  rl : d.recu.rules.length ≤ cap
  rules : ∀ t ∈ d.recu.rules, t.bulk ≤ cap
  cts : ∀ c ∈ d.ctors, c.type.bulk ≤ cap
  fns : ∀ f ∈ d.funs, f.type.bulk ≤ cap ∧ f.tree.bulk ≤ cap ∧ f.name.length ≤ cap
  cns : ∀ c ∈ d.ctors, c.name.length ≤ cap
theorem DOK2.of {d : Decl} (h : d.bulk ≤ cap) : DOK2 d := by
  have h0 := DOK.of h
  rw [Decl.bulk] at h
  have hl3 : sumB Term.bulk d.recu.rules < d.recu.bulk := by rw [Recursor.bulk]; omega
  have hl4 := sumB_len Term.bulk_pos d.recu.rules
  have hl5 : d.recu.type.bulk < d.recu.bulk := by rw [Recursor.bulk]; omega
  refine { toDOK := h0, type := by omega, value := by omega, rtype := by omega, rl := by omega, rules := fun t ht => ?_, cts := fun c hc => ?_, fns := fun f hf => ?_, cns := fun c hc => ?_ }
  · have := sumB_mem (f := Term.bulk) ht; omega
  · have := sumB_mem (f := Ctor.bulk) hc; rw [Ctor.bulk] at this; omega
  · have := sumB_mem (f := Fun.bulk) hf; rw [Fun.bulk] at this; exact ⟨by omega, by omega, by omega⟩
  · have := sumB_mem (f := Ctor.bulk) hc; rw [Ctor.bulk] at this; omega
theorem unused_tot (d : Decl) (h : DOK2 d) : Tot (fun n => z13 n d) Yes := by
  refine Tot.fn (fun n => by simp only [z13, z13_e]; exact rfl) ?_
  repeat' (first | exact Tot.pure trivial | refine Tot.cnd (fun _ => ?_) (fun _ => ?_) | refine Tot.bind (zero_tot _ h.rtype) (fun x _ => ?_) | refine Tot.bind (zero_tot _ h.value) (fun x _ => ?_) | refine Tot.bind (zero_tot _ h.type) (fun x _ => ?_))
theorem leading_tot (t : Term) : Tot (fun n => z0u n t) Yes := by
  refine Tot.fn (fun n => by simp only [z0u, z0u_e]; exact rfl) ?_
  have key : ∀ (t : Term) (v : Int), Tot2 (fun n m => z0u_l1 n m v t) Yes := by
    intro t
    induction h : t.bulk using Nat.strongRecOn generalizing t with
    | ind k ih =>
      intro v
      refine Tot2.lp (fun n m => by simp only [z0u_l1, z0u_b1]; exact rfl) ?_
      refine Tot2.cnd (fun _ => ?_) fun _ => Tot2.pure trivial
      refine Tot2.cnd (fun hc => ?_) fun _ => Tot2.pure trivial
      have hl : 1 < t.kids.length := by have := beq_iff_eq.1 hc; omega
      refine Tot2.idx (i := 1) hl ?_
      exact ih _ (by rw [← h]; exact t.kid_lt (List.getElem_mem hl)) _ rfl _
  exact Tot.of2 (F := fun n m => z0u_l1 n m 0 t) (key t 0)
theorem fixed_tot (d : Decl) (h : DOK2 d) : Tot (fun n => z1k n d) Yes := by
  have h1 := h.ctors
  refine Tot.fn (fun n => by simp only [z1k, z1k_e]; exact rfl) ?_
  refine Tot.bind (leading_tot _) fun x _ => ?_
  refine Tot.of2 (F := fun n m => z1k_l1 n m (decide (d.fixed ≤ x)) 0 d) ?_
  refine Tot2.up (S := Bool) (L := fun n m i s => z1k_l1 n m s i d) d.ctors.length (fun _ _ => True) Yes ?_ ?_ 0 _ (by omega) trivial
  · intro i s hi _ next
    refine Tot2.lp (fun n m => by simp only [z1k_l1, z1k_b1]; exact rfl) ?_
    simp only [hi, Int.ofNat_lt, decide_true, cond_true]
    rw [wrap_next (by simp only [cap] at h1; omega)]
    refine Tot2.cnd (fun _ => ?_) fun _ => next _ trivial
    refine Tot2.idx hi ?_
    exact Tot2.bind1 (leading_tot _) fun y _ => next _ trivial
  · intro s _
    refine Tot2.lp (fun n m => by simp only [z1k_l1, z1k_b1]; exact rfl) ?_
    simp only [Int.lt_irrefl, decide_false, cond_false]
    exact Tot2.pure trivial
theorem counts_tot (d : Decl) (h : DOK2 d) : Tot (fun n => z10 n d) (fun r => r = 0 → 0 ≤ d.fixed ∧ 0 ≤ d.params ∧ d.params ≤ 8) := by
  have h1 := h.funs
  refine Tot.fn (fun n => by simp only [z10, z10_e]; exact rfl) ?_
  have bad : ∀ k : Int, k ≠ 0 → (k = 0 → 0 ≤ d.fixed ∧ 0 ≤ d.params ∧ d.params ≤ 8) := fun k hk e => absurd e hk
  refine Tot.cnd (fun _ => Tot.pure (bad 2 (by decide))) fun hp => ?_
  refine Tot.cnd (fun _ => Tot.pure (bad 2 (by decide))) fun hp8 => ?_
  refine Tot.cnd (fun _ => Tot.pure (bad 2 (by decide))) fun hf => ?_
  have good : 0 ≤ d.fixed ∧ 0 ≤ d.params ∧ d.params ≤ 8 := by
    have a := of_decide_eq_false hp
    have b := of_decide_eq_false hp8
    have c := of_decide_eq_false hf
    omega
  refine Tot.imp (P := Yes) ?_ fun _ _ _ => good
  have loop : Tot (fun n => z10_l1 n n 0 d) Yes := by
    refine Tot.of2 (F := fun n m => z10_l1 n m 0 d) ?_
    refine Tot2.up (S := Unit) (L := fun n m i _ => z10_l1 n m i d) d.funs.length (fun _ _ => True) Yes ?_ ?_ 0 () (by omega) trivial
    · intro i s hi _ next
      refine Tot2.lp (fun n m => by simp only [z10_l1, z10_b1]; exact rfl) ?_
      simp only [hi, Int.ofNat_lt, decide_true, cond_true]
      rw [wrap_next (by simp only [cap] at h1; omega)]
      refine Tot2.idx hi ?_
      refine Tot2.cnd (fun _ => Tot2.pure trivial) fun _ => ?_
      refine Tot2.idx hi ?_
      exact Tot2.cnd (fun _ => Tot2.pure trivial) fun _ => next s trivial
    · intro s _
      refine Tot2.lp (fun n m => by simp only [z10_l1, z10_b1]; exact rfl) ?_
      simp only [Int.lt_irrefl, decide_false, cond_false]
      repeat' (first | exact Tot2.pure trivial | refine Tot2.cnd (fun _ => ?_) (fun _ => ?_) | refine Tot2.bind1 (fixed_tot d h) (fun x _ => ?_))
  repeat' (first | exact Tot.pure trivial | exact loop | refine Tot.cnd (fun _ => ?_) (fun _ => ?_))
theorem namesT_mem {d : Decl} (h : DOK2 d) : ∀ s ∈ namesT d, s.length ≤ cap + 4 := by
  have hn := h.name
  intro s hs
  have one : ∀ {p : Prop}, s = d.name → s.length ≤ cap + 4 := fun e => by rw [e]; omega
  unfold namesT at hs
  cases h0 : d.kind == 0 with
  | true => rw [h0] at hs; simp only [cond_true, List.mem_singleton] at hs; rw [hs]; omega
  | false =>
  cases h1 : d.kind == 1 with
  | true => rw [h0, h1] at hs; simp only [cond_true, cond_false, List.mem_singleton] at hs; rw [hs]; omega
  | false =>
  cases h2 : d.kind == 2 with
  | true => rw [h0, h1, h2] at hs; simp only [cond_true, cond_false, List.mem_singleton] at hs; rw [hs]; omega
  | false =>
  cases h3 : d.kind == 3 with
  | true =>
    rw [h0, h1, h2, h3] at hs
    simp only [cond_true, cond_false, List.cons_append, List.mem_cons, List.mem_append, List.mem_map, List.mem_singleton, List.not_mem_nil, or_false] at hs
    rcases hs with rfl | ⟨c, hc, rfl⟩ | rfl
    · omega
    · have := h.cns c hc; omega
    · rw [List.length_append]; simp only [recN, List.length_cons, List.length_nil]; omega
  | false =>
  cases h4 : d.kind == 4 with
  | true =>
    rw [h0, h1, h2, h3, h4] at hs
    simp only [cond_true, cond_false, List.mem_map] at hs
    obtain ⟨c, hc, rfl⟩ := hs
    have := (h.fns c hc).2.2; omega
  | false => rw [h0, h1, h2, h3, h4] at hs; simp at hs
theorem DeclNames_tot (env : List Decl) (he : EOK env) (d : Decl) (h : DOK2 d) : Tot (fun n => z0f n env d) Yes := by
  refine Tot.fn (fun n => by simp only [z0f, z0f_e]; exact rfl) ?_
  refine Tot.bind ((ref_Names_ev d h.toDOK).tot (Q := (· = namesT d)) rfl) fun x hx => ?_
  subst hx
  have hl := namesT_len h.toDOK
  have hm := namesT_mem h
  generalize namesT d = l at hl hm
  refine Tot.of2 (F := fun n m => z0f_l1 n m env l 0) ?_
  refine Tot2.up (S := Unit) (L := fun n m i _ => z0f_l1 n m env l i) l.length (fun _ _ => True) Yes ?_ ?_ 0 () (by omega) trivial
  · intro i s hi _ next
    refine Tot2.lp (fun n m => by simp only [z0f_l1, z0f_b1]; exact rfl) ?_
    have d2 : decide ((0 : Int) ≤ (i : Int) ∧ (i : Int) ≤ (l.length : Int) ∧ (l.length : Int) ≤ (l.length : Int)) = true := decide_eq_true (by omega)
    simp only [hi, Int.ofNat_lt, decide_true, cond_true, d2, Int.toNat_natCast]
    rw [wrap_next (by simp only [cap] at hl; omega)]
    refine Tot2.idx hi ?_
    have hs := hm _ (List.getElem_mem hi)
    refine Tot2.bind1 (z1o_tot _ (by simp only [cap, lim] at *; omega)) fun x _ => ?_
    refine Tot2.cnd (fun _ => ?_) fun _ => Tot2.pure trivial
    refine Tot2.idx hi ?_
    refine Tot2.bind1 ((ref_Find_ev env he l[i]).tot (Q := Yes) trivial) fun x _ => ?_
    refine Tot2.cnd (fun _ => Tot2.pure trivial) fun _ => ?_
    refine Tot2.idx hi ?_
    refine Tot2.bind1 ((z1z_ev (l.take i) l[i] (by rw [List.length_take]; simp only [cap, lim] at *; omega)).tot (Q := Yes) trivial) fun x _ => ?_
    exact Tot2.cnd (fun _ => Tot2.pure trivial) fun _ => next s trivial
  · intro s _
    refine Tot2.lp (fun n m => by simp only [z0f_l1, z0f_b1]; exact rfl) ?_
    simp only [Int.lt_irrefl, decide_false, cond_false]
    exact Tot2.pure trivial
structure ZOK (z : Ref07Scope) : Prop where
  env : EOK z.env
  own : z.own.length ≤ cap + 2
  d : DOK2 z.d
theorem constants_tot (z : Ref07Scope) (h : ZOK z) : ∀ t : Term, t.bulk ≤ cap → Tot (fun n => z0g n z t) Yes := by
  have ho := h.own
  intro t
  induction hb : t.bulk using Nat.strongRecOn generalizing t with
  | ind k ih =>
    intro hk
    have hl := t.kids_len
    refine Tot.fn (fun n => by simp only [z0g, z0g_e]; exact rfl) ?_
    have loop : Tot (fun n => z0g_l1 (z0g n) n n 0 z t) Yes := by
      refine Tot.of2 (F := fun n m => z0g_l1 (z0g n) n m 0 z t) ?_
      refine Tot2.up (S := Unit) (L := fun n m i _ => z0g_l1 (z0g n) n m i z t) t.kids.length (fun _ _ => True) Yes ?_ ?_ 0 () (by omega) trivial
      · intro i s hi _ next
        refine Tot2.lp (fun n m => by simp only [z0g_l1, z0g_b1]; exact rfl) ?_
        simp only [hi, Int.ofNat_lt, decide_true, cond_true]
        rw [wrap_next (by simp only [cap] at hk; omega)]
        refine Tot2.idx hi ?_
        have hm := t.kid_lt (List.getElem_mem hi)
        refine Tot2.bind1 (ih _ (by omega) _ rfl (by omega)) fun x _ => ?_
        exact Tot2.cnd (fun _ => Tot2.pure trivial) fun _ => next s trivial
      · intro s _
        refine Tot2.lp (fun n m => by simp only [z0g_l1, z0g_b1]; exact rfl) ?_
        simp only [Int.lt_irrefl, decide_false, cond_false]
        exact Tot2.pure trivial
    repeat' (first | exact Tot.pure trivial | exact loop | refine Tot.cnd (fun _ => ?_) (fun _ => ?_) | refine Tot.bind ((ref_Find_ev z.env h.env t.name).tot (Q := Yes) trivial) (fun x _ => ?_) | refine Tot.bind ((z1z_ev z.own t.name (by simp only [cap, lim] at *; omega)).tot (Q := Yes) trivial) (fun x _ => ?_) | refine Tot.bind ((ref_entry_ev z.d h.d.toDOK _ t.name).tot (Q := Yes) trivial) (fun x _ => ?_))
theorem ofTerm_tot (z : Ref07Scope) (h : ZOK z) (t : Term) (a b : Int) (hk : t.bulk ≤ cap) : Tot (fun n => z11 n z t a b) Yes := by
  refine Tot.fn (fun n => by simp only [z11, z11_e]; exact rfl) ?_
  refine Tot.bind (z1c_tot t a b 0 0 (lim_of_cap hk)) fun x _ => ?_
  refine Tot.cnd (fun _ => Tot.pure trivial) fun _ => ?_
  exact Tot.bind (constants_tot z h t hk) fun x _ => Tot.pure trivial
theorem SameTree_tot : ∀ (t u : Tree), t.bulk ≤ cap → Tot (fun n => z0m n t u) Yes := by
  intro t
  induction h : t.bulk using Nat.strongRecOn generalizing t with
  | ind k ih =>
    intro u hk
    have hl := t.branches_len
    have hl2 := t.body_lt
    refine Tot.fn (fun n => by simp only [z0m, z0m_e]; exact rfl) ?_
    refine Tot.cnd (fun _ => Tot.pure trivial) fun _ => ?_
    refine Tot.cnd (fun _ => Tot.pure trivial) fun _ => ?_
    refine Tot.bind ((z1p_ev t.body u.body (lim_of_cap (by omega))).tot (Q := Yes) trivial) fun x _ => ?_
    refine Tot.cnd (fun _ => ?_) fun _ => Tot.pure trivial
    refine Tot.cnd (fun _ => Tot.pure trivial) fun hlen => ?_
    have hlen : t.branches.length = u.branches.length := by
      have := hlen
      rw [bne, Bool.not_eq_false', beq_iff_eq] at this
      omega
    refine Tot.of2 (F := fun n m => z0m_l1 (z0m n) n m 0 t u) ?_
    refine Tot2.up (S := Unit) (L := fun n m i s => z0m_l1 (z0m n) n m i t u) t.branches.length (fun _ _ => True) Yes ?_ ?_ 0 () (by omega) trivial
    · intro i s hi _ next
      refine Tot2.lp (fun n m => by simp only [z0m_l1, z0m_b1]; exact rfl) ?_
      simp only [hi, Int.ofNat_lt, decide_true, cond_true]
      rw [wrap_next (by simp only [cap] at hk; omega)]
      refine Tot2.idx hi (Tot2.idx (by omega) ?_)
      have hm := t.kid_lt (List.getElem_mem hi)
      refine Tot2.cnd (fun _ => ?_) fun _ => Tot2.pure trivial
      refine Tot2.cnd (fun _ => ?_) fun _ => Tot2.pure trivial
      refine Tot2.bind1 (ih _ (by omega) _ rfl _ (by omega)) fun x _ => ?_
      exact Tot2.cnd (fun _ => next s trivial) fun _ => Tot2.pure trivial
    · intro s _
      refine Tot2.lp (fun n m => by simp only [z0m_l1, z0m_b1]; exact rfl) ?_
      simp only [Int.lt_irrefl, decide_false, cond_false]
      exact Tot2.pure trivial
theorem Fields_tot (d : Decl) (h : DOK2 d) (j : Nat) (hj : j < d.ctors.length) : Tot (fun n => z0z n d j) Yes := by
  refine Tot.fn (fun n => by simp only [z0z, z0z_e]; exact rfl) ?_
  refine Tot.idx hj ?_
  obtain ⟨r, _, hr, _⟩ := All_ev d.ctors[j].type (h.cts _ (List.getElem_mem hj))
  exact Tot.bind (hr.tot (Q := Yes) trivial) fun x _ => Tot.pure trivial
theorem ofTree_tot (z : Ref07Scope) (h : ZOK z) : ∀ (t : Tree) (a b : Int), t.bulk ≤ cap → Tot (fun n => z12 n z t a b) Yes := by
  intro t
  induction hb : t.bulk using Nat.strongRecOn generalizing t with
  | ind k ih =>
    intro a b hk
    have hl := t.branches_len
    have hl2 := t.body_lt
    refine Tot.fn (fun n => by simp only [z12, z12_e]; exact rfl) ?_
    refine Tot.cnd (fun _ => Tot.pure trivial) fun _ => ?_
    refine Tot.cnd (fun _ => ?_) fun _ => ?_
    · refine Tot.cnd (fun _ => Tot.pure trivial) fun _ => ?_
      refine Tot.cnd (fun _ => Tot.pure trivial) fun _ => ?_
      exact Tot.bind (ofTerm_tot z h _ _ _ (by omega)) fun x _ => Tot.pure trivial
    refine Tot.cnd (fun _ => ?_) fun _ => Tot.pure trivial
    refine Tot.bind (zero_tot _ (by omega)) fun x _ => ?_
    refine Tot.cnd (fun _ => ?_) fun _ => Tot.pure trivial
    refine Tot.cnd (fun _ => Tot.pure trivial) fun _ => ?_
    refine Tot.cnd (fun _ => Tot.pure trivial) fun _ => ?_
    refine Tot.cnd (fun _ => Tot.pure trivial) fun _ => ?_
    refine Tot.of2 (F := fun n m => z12_l1 (z12 n) n m a b 0 z t) ?_
    refine Tot2.up (S := Unit) (L := fun n m i s => z12_l1 (z12 n) n m a b i z t) t.branches.length (fun _ _ => True) Yes ?_ ?_ 0 () (by omega) trivial
    · intro i s hi _ next
      refine Tot2.lp (fun n m => by simp only [z12_l1, z12_b1]; exact rfl) ?_
      simp only [hi, Int.ofNat_lt, decide_true, cond_true]
      rw [wrap_next (by simp only [cap] at hk; omega)]
      refine Tot2.idx hi ?_
      have hm := t.kid_lt (List.getElem_mem hi)
      refine Tot2.bind1 ((ref_Find_ev z.env h.env t.branches[i].ctor).tot (Q := (· = findT t.branches[i].ctor 0 z.env)) rfl) fun x hx => ?_
      refine Tot2.cnd (fun _ => Tot2.pure trivial) fun h0 => ?_
      refine Tot2.cnd (fun _ => Tot2.pure trivial) fun h4 => ?_
      refine Tot2.cnd (fun _ => ?_) fun _ => ?_
      · refine Tot2.bind1 (SameTree_tot _ _ (by omega)) fun y _ => ?_
        exact Tot2.cnd (fun _ => next s trivial) fun _ => Tot2.pure trivial
      · rw [bne, Bool.not_eq_false', beq_iff_eq] at h0 h4
        rw [hx] at h0 h4 ⊢
        obtain ⟨j, hj, e1, e2, _⟩ := findT_at h0
        have hat := (entryT_at z.env[j] (0 + j : Nat) t.branches[i].ctor).2.1
        rw [← e2] at hat
        obtain ⟨q, hq, hql⟩ := hat h4
        have ej : (findT t.branches[i].ctor 0 z.env).1.decl = (j : Int) := by rw [e1]; omega
        rw [ej, hq]
        refine Tot2.idx hj ?_
        refine Tot2.bind1 (Fields_tot _ (DOK2.of (h.env.ds _ (List.getElem_mem hj))) q hql) fun y _ => ?_
        refine Tot2.bind1 (ih _ (by omega) _ rfl _ _ (by omega)) fun y _ => ?_
        exact Tot2.cnd (fun _ => Tot2.pure trivial) fun _ => next s trivial
    · intro s _
      refine Tot2.lp (fun n m => by simp only [z12_l1, z12_b1]; exact rfl) ?_
      simp only [Int.lt_irrefl, decide_false, cond_false]
      exact Tot2.pure trivial
end Go.Abs
namespace Go.Abs
set_option linter.unusedVariables false
set_option linter.unusedSimpArgs false
theorem Decl.eta2 (d : Decl) : ({ kind := d.kind, name := d.name, params := d.params, type := Term.mk d.type.kind d.type.index d.type.name d.type.levels d.type.kids, value := Term.mk d.value.kind d.value.index d.value.name d.value.levels d.value.kids, fixed := d.fixed, ctors := d.ctors, recu := { params := d.recu.params, type := Term.mk d.recu.type.kind d.recu.type.index d.recu.type.name d.recu.type.levels d.recu.type.kids, rules := d.recu.rules }, funs := d.funs } : Decl) = d := by
  have h : ∀ t : Term, Term.mk t.kind t.index t.name t.levels t.kids = t := fun t => by cases t; rfl
  rw [h, h, h]
theorem Terms1_tot (d : Decl) (h : DOK2 d) (z : Ref07Scope) (hz : ZOK z) : Tot (fun n => z1i_l1 n n 0 d z) Yes := by
  have hr := h.rl
  refine Tot.of2 (F := fun n m => z1i_l1 n m 0 d z) ?_
  refine Tot2.up (S := Unit) (L := fun n m i _ => z1i_l1 n m i d z) d.recu.rules.length (fun _ _ => True) Yes ?_ ?_ 0 () (by omega) trivial
  · intro i s hi _ next
    refine Tot2.lp (fun n m => by simp only [z1i_l1, z1i_b1]; exact rfl) ?_
    simp only [hi, Int.ofNat_lt, decide_true, cond_true]
    rw [wrap_next (by simp only [cap] at hr; omega)]
    refine Tot2.idx hi ?_
    refine Tot2.bind1 (ofTerm_tot z hz _ _ _ (h.rules _ (List.getElem_mem hi))) fun x _ => ?_
    exact Tot2.cnd (fun _ => Tot2.pure trivial) fun _ => next s trivial
  · intro s _
    refine Tot2.lp (fun n m => by simp only [z1i_l1, z1i_b1]; exact rfl) ?_
    simp only [Int.lt_irrefl, decide_false, cond_false]
    exact Tot2.pure trivial
theorem Terms2_tot (env : List Decl) (he : EOK env) (d : Decl) (h : DOK2 d) (h3 : d.kind = 3) : Tot (fun n => z1i_l2 n n 0 d { env := env, own := [d.name], d := d }) Yes := by
  have hr := h.ctors
  have hz : ZOK { env := env, own := [d.name], d := d } := ⟨he, by simp [cap], h⟩
  refine Tot.of2 (F := fun n m => z1i_l2 n m 0 d { env := env, own := [d.name], d := d }) ?_
  refine Tot2.up (S := Unit) (L := fun n m i _ => z1i_l2 n m i d { env := env, own := [d.name], d := d }) d.ctors.length (fun _ _ => True) Yes ?_ ?_ 0 () (by omega) trivial
  · intro i s hi _ next
    refine Tot2.lp (fun n m => by simp only [z1i_l2, z1i_b2]; exact rfl) ?_
    simp only [hi, Int.ofNat_lt, decide_true, cond_true]
    rw [wrap_next (by simp only [cap] at hr; omega)]
    refine Tot2.idx hi ?_
    refine Tot2.bind1 (ofTerm_tot _ hz _ _ _ (h.cts _ (List.getElem_mem hi))) fun x _ => ?_
    exact Tot2.cnd (fun _ => Tot2.pure trivial) fun _ => next s trivial
  · intro s _
    refine Tot2.lp (fun n m => by simp only [z1i_l2, z1i_b2]; exact rfl) ?_
    simp only [Int.lt_irrefl, decide_false, cond_false]
    refine Tot2.bind1 ((ref_Names_ev d h.toDOK).tot (Q := (· = namesT d)) rfl) fun x hx => ?_
    subst hx
    have hl := namesT_len h.toDOK
    have hpos : 1 ≤ (namesT d).length := by
      unfold namesT
      rw [h3]
      show 1 ≤ (d.name :: d.ctors.map (·.name) ++ [d.name ++ recN]).length
      simp
    generalize hL : namesT d = l at hl hpos
    have hw : IntKind.i64.wrap ((l.length : Int) - 1) = ((l.length - 1 : Nat) : Int) := by
      rw [wrap_small (by omega) (by simp only [cap] at hl; omega)]; omega
    have d2 : decide ((0 : Int) ≤ ((l.length - 1 : Nat) : Int) ∧ ((l.length - 1 : Nat) : Int) ≤ (l.length : Int) ∧ (l.length : Int) ≤ (l.length : Int)) = true := decide_eq_true (by omega)
    simp only [hw, d2, cond_true, Int.toNat_natCast]
    refine Tot2.bind1 (ofTerm_tot { env := env, own := l.take (l.length - 1), d := d } ⟨he, by rw [List.length_take]; show min _ _ ≤ _; omega, h⟩ _ _ _ h.rtype) fun x _ => ?_
    refine Tot2.cnd (fun _ => Tot2.pure trivial) fun _ => ?_
    exact Tot2.of1 (Terms1_tot d h { env := env, own := l, d := d } ⟨he, hl, h⟩)
theorem Terms3_tot (d : Decl) (h : DOK2 d) (z : Ref07Scope) (hz : ZOK z) : Tot (fun n => z1i_l3 n n 0 d z) Yes := by
  have hr := h.funs
  refine Tot.of2 (F := fun n m => z1i_l3 n m 0 d z) ?_
  refine Tot2.up (S := Unit) (L := fun n m i _ => z1i_l3 n m i d z) d.funs.length (fun _ _ => True) Yes ?_ ?_ 0 () (by omega) trivial
  · intro i s hi _ next
    refine Tot2.lp (fun n m => by simp only [z1i_l3, z1i_b3]; exact rfl) ?_
    simp only [hi, Int.ofNat_lt, decide_true, cond_true]
    rw [wrap_next (by simp only [cap] at hr; omega)]
    refine Tot2.idx hi (Tot2.idx hi ?_)
    refine Tot2.bind1 (ofTree_tot z hz _ _ _ (h.fns _ (List.getElem_mem hi)).2.1) fun x _ => ?_
    exact Tot2.cnd (fun _ => Tot2.pure trivial) fun _ => next s trivial
  · intro s _
    refine Tot2.lp (fun n m => by simp only [z1i_l3, z1i_b3]; exact rfl) ?_
    simp only [Int.lt_irrefl, decide_false, cond_false]
    exact Tot2.pure trivial
theorem Terms4_tot (env : List Decl) (he : EOK env) (d : Decl) (h : DOK2 d) : Tot (fun n => z1i_l4 n n 0 d env d.kind d.name d.params d.type.kind d.type.index d.type.name d.type.levels d.type.kids d.value.kind d.value.index d.value.name d.value.levels d.value.kids d.fixed d.ctors d.recu.params d.recu.type.kind d.recu.type.index d.recu.type.name d.recu.type.levels d.recu.type.kids d.recu.rules d.funs) Yes := by
  have hr := h.funs
  have hz : ZOK { env := env, own := [], d := d } := ⟨he, by simp, h⟩
  refine Tot.of2 (F := fun n m => z1i_l4 n m 0 d env d.kind d.name d.params d.type.kind d.type.index d.type.name d.type.levels d.type.kids d.value.kind d.value.index d.value.name d.value.levels d.value.kids d.fixed d.ctors d.recu.params d.recu.type.kind d.recu.type.index d.recu.type.name d.recu.type.levels d.recu.type.kids d.recu.rules d.funs) ?_
  refine Tot2.up (S := Unit) (L := fun n m i _ => z1i_l4 n m i d env d.kind d.name d.params d.type.kind d.type.index d.type.name d.type.levels d.type.kids d.value.kind d.value.index d.value.name d.value.levels d.value.kids d.fixed d.ctors d.recu.params d.recu.type.kind d.recu.type.index d.recu.type.name d.recu.type.levels d.recu.type.kids d.recu.rules d.funs) d.funs.length (fun _ _ => True) Yes ?_ ?_ 0 () (by omega) trivial
  · intro i s hi _ next
    refine Tot2.lp (fun n m => by simp only [z1i_l4, z1i_b4]; exact rfl) ?_
    simp only [hi, Int.ofNat_lt, decide_true, cond_true, Decl.eta2]
    rw [wrap_next (by simp only [cap] at hr; omega)]
    refine Tot2.idx hi ?_
    refine Tot2.bind1 (ofTerm_tot _ hz _ _ _ (h.fns _ (List.getElem_mem hi)).1) fun x _ => ?_
    exact Tot2.cnd (fun _ => Tot2.pure trivial) fun _ => next s trivial
  · intro s _
    refine Tot2.lp (fun n m => by simp only [z1i_l4, z1i_b4]; exact rfl) ?_
    simp only [Int.lt_irrefl, decide_false, cond_false, Decl.eta2]
    refine Tot2.bind1 ((ref_Names_ev d h.toDOK).tot (Q := (· = namesT d)) rfl) fun x hx => ?_
    subst hx
    exact Tot2.of1 (Terms3_tot d h { env := env, own := namesT d, d := d } ⟨he, namesT_len h.toDOK, h⟩)
theorem Terms_tot (env : List Decl) (he : EOK env) (d : Decl) (h : DOK2 d) : Tot (fun n => z1i n env d) Yes := by
  have hz : ZOK { env := env, own := [], d := d } := ⟨he, by simp, h⟩
  have v := ofTerm_tot { env := env, own := [], d := d } hz d.value 0 d.params h.value
  refine Tot.fn (fun n => by simp only [z1i, z1i_e]; exact rfl) ?_
  refine Tot.cnd (fun _ => Tot.bind (ofTerm_tot _ hz _ _ _ h.type) fun x _ => Tot.cnd (fun _ => Tot.pure trivial) fun _ => ?_) fun _ => ?_
  all_goals
    refine Tot.cnd (fun _ => Tot.bind v fun x _ => Tot.pure trivial) fun _ => ?_
    refine Tot.cnd (fun _ => Tot.bind v fun x _ => Tot.pure trivial) fun _ => ?_
    refine Tot.cnd (fun h3 => Terms2_tot env he d h (beq_iff_eq.1 h3)) fun _ => ?_
    exact Tot.cnd (fun _ => Terms4_tot env he d h) fun _ => Tot.pure trivial
def Good1 (d : Decl) : Prop := 0 ≤ d.fixed ∧ 0 ≤ d.params ∧ d.params ≤ 8
theorem Decl_tot (env : List Decl) (he : EOK env) (d : Decl) (h : DOK2 d) : Tot (fun n => z1s n env d) (fun r => r = 0 → Good1 d) := by
  refine Tot.fn (fun n => by simp only [z1s, z1s_e]; exact rfl) ?_
  refine Tot.cnd (fun _ => Tot.pure (by intro e; cases e)) fun _ => ?_
  refine Tot.cnd (fun _ => Tot.pure (by intro e; cases e)) fun _ => ?_
  refine Tot.bind (unused_tot d h) fun x _ => ?_
  refine Tot.cnd (fun _ => ?_) fun _ => Tot.pure (by intro e; cases e)
  refine Tot.bind (counts_tot d h) fun y hy => ?_
  refine Tot.cnd (fun hc => Tot.pure fun e => hy e) fun hc => ?_
  have good : Good1 d := by
    rw [bne, Bool.not_eq_false', beq_iff_eq] at hc
    exact hy hc
  refine Tot.bind (DeclNames_tot env he d h) fun y _ => ?_
  refine Tot.cnd (fun _ => Tot.pure fun _ => good) fun _ => ?_
  exact Tot.bind (Terms_tot env he d h) fun x _ => Tot.pure fun _ => good
theorem EOK.take {env : List Decl} (h : EOK env) (k : Nat) : EOK (env.take k) := ⟨by rw [List.length_take]; have := h.len; omega, fun d hd => h.ds d (List.mem_of_mem_take hd)⟩
theorem Check_tot (env : List Decl) (he : EOK env) : Tot (fun n => z1g n env) (fun r => r.2 = 0 → ∀ d ∈ env, Good1 d) := by
  have hl := he.len
  refine Tot.fn (fun n => by simp only [z1g, z1g_e]; exact rfl) ?_
  refine Tot.cnd (fun _ => Tot.pure (by intro e; cases e)) fun _ => ?_
  refine Tot.of2 (F := fun n m => z1g_l1 n m env 0) ?_
  refine Tot2.up (S := Unit) (L := fun n m i _ => z1g_l1 n m env i) env.length (fun i _ => ∀ d ∈ env.take i, Good1 d) _ ?_ ?_ 0 () (by omega) (by simp)
  · intro i s hi hI next
    refine Tot2.lp (fun n m => by simp only [z1g_l1, z1g_b1]; exact rfl) ?_
    have d2 : decide ((0 : Int) ≤ (i : Int) ∧ (i : Int) ≤ (env.length : Int) ∧ (env.length : Int) ≤ (env.length : Int)) = true := decide_eq_true (by omega)
    simp only [hi, Int.ofNat_lt, decide_true, cond_true, d2, Int.toNat_natCast]
    rw [wrap_next (by simp only [cap] at hl; omega)]
    refine Tot2.idx hi ?_
    refine Tot2.bind1 (Decl_tot _ (he.take i) _ (DOK2.of (he.ds _ (List.getElem_mem hi)))) fun x hx => ?_
    refine Tot2.cnd (fun hc => Tot2.pure fun e => ?_) fun hc => next () ?_
    · have e : x = 0 := e
      rw [e] at hc; cases hc
    · rw [bne, Bool.not_eq_false', beq_iff_eq] at hc
      intro d hd
      rw [List.take_succ_eq_append_getElem hi, List.mem_append, List.mem_singleton] at hd
      rcases hd with hd | rfl
      · exact hI d hd
      · exact hx hc
  · intro s hI
    refine Tot2.lp (fun n m => by simp only [z1g_l1, z1g_b1]; exact rfl) ?_
    simp only [Int.lt_irrefl, decide_false, cond_false]
    rw [List.take_length] at hI
    exact Tot2.pure fun _ => hI
theorem Few7_tot (env : List Decl) (he : EOK env) : Tot (fun n => z1w n env) Yes := by
  have hl := he.len
  refine Tot.fn (fun n => by simp only [z1w, z1w_e]; exact rfl) ?_
  refine Tot.of2 (F := fun n m => z1w_l1 n m env 0) ?_
  refine Tot2.up (S := Unit) (L := fun n m i _ => z1w_l1 n m env i) env.length (fun _ _ => True) Yes ?_ ?_ 0 () (by omega) trivial
  · intro i s hi _ next
    refine Tot2.lp (fun n m => by simp only [z1w_l1, z1w_b1]; exact rfl) ?_
    simp only [hi, Int.ofNat_lt, decide_true, cond_true]
    rw [wrap_next (by simp only [cap] at hl; omega)]
    refine Tot2.cnd (fun _ => ?_) fun _ => Tot2.pure trivial
    refine Tot2.idx hi ?_
    refine Tot2.bind1 (z0r_tot _ (he.ds _ (List.getElem_mem hi))) fun x _ => ?_
    exact Tot2.cnd (fun _ => next () trivial) fun _ => Tot2.pure trivial
  · intro s _
    refine Tot2.lp (fun n m => by simp only [z1w_l1, z1w_b1]; exact rfl) ?_
    simp only [Int.lt_irrefl, decide_false, cond_false]
    exact Tot2.pure trivial
theorem Good_tot (env : List Decl) (he : EOK env) : Tot (fun n => z1l n env) (fun r => r = true → ∀ d ∈ env, Good1 d) := by
  refine Tot.fn (fun n => by simp only [z1l, z1l_e]; exact rfl) ?_
  refine Tot.bind (Few7_tot env he) fun x _ => ?_
  refine Tot.cnd (fun _ => ?_) fun _ => Tot.pure (by intro e; cases e)
  exact Tot.bind (Check_tot env he) fun x hx => Tot.pure fun e => hx (beq_iff_eq.1 e)
theorem Few5_tot (t : Term) (k : Int) (h : t.bulk ≤ cap) : Tot (fun n => z1v n t k) Yes := by
  refine Tot.fn (fun n => by simp only [z1v, z1v_e]; exact rfl) ?_
  refine Tot.bind (z1q_tot t (lim_of_cap h)) fun x _ => ?_
  refine Tot.cnd (fun _ => ?_) fun _ => Tot.pure trivial
  refine Tot.bind (z1d_tot t (lim_of_cap h)) fun x _ => ?_
  refine Tot.cnd (fun _ => ?_) fun _ => Tot.pure trivial
  exact Tot.bind (z1c_tot t k 8 100 100 (lim_of_cap h)) fun x _ => Tot.pure trivial
end Go.Abs
namespace Go.Abs
set_option linter.unusedVariables false
set_option linter.unusedSimpArgs false
def sigR (name : Str) (e : Option Entry) (e0 : Entry) (err : Int) : ((Unit × Int) × (Str × Unit) × (Entry × Unit) × (Int × Unit) × Unit) × Unit :=
  match e with
  | some e => ((((), 1), (name, ()), (e, ()), (0, ()), ()), ())
  | none => ((((), 0), (name, ()), (e0, ()), (err, ()), ()), ())
def sigE (d : Decl) (i : Int) (name : Str) : Option Entry :=
  bif d.kind == 0 then (bif d.name == name then some { kind := 0, decl := i, item := 0, params := d.params, type := d.type } else none) else
  bif d.kind == 1 then (bif d.name == name then some { kind := 1, decl := i, item := 0, params := d.params, type := d.type } else none) else
  bif d.kind == 2 then (bif d.name == name then some { kind := 2, decl := i, item := 0, params := d.params, type := d.type } else none) else
  bif d.kind == 3 then (bif d.name == name then some { kind := 3, decl := i, item := 0, params := d.params, type := d.type } else
    match ctorE i d.params name 0 d.ctors with
    | some e => some e
    | none => bif d.name ++ recN == name then some { kind := 5, decl := i, item := 0, params := d.recu.params, type := d.recu.type } else none)
  else bif d.kind == 4 then funE i d.params name 0 d.funs else none
theorem ctorE_some (i p : Int) (name : Str) : ∀ (k : Nat) (cs : List Ctor), (ctorE i p name k cs).isSome = (cs.map (·.name)).any (· == name)
  | k, [] => rfl
  | k, c :: cs => by
    rw [ctorE, List.map_cons, List.any_cons]
    cases c.name == name with
    | true => rfl
    | false => exact ctorE_some i p name (k + 1) cs
theorem funE_some (i p : Int) (name : Str) : ∀ (k : Nat) (cs : List Fun), (funE i p name k cs).isSome = (cs.map (·.name)).any (· == name)
  | k, [] => rfl
  | k, c :: cs => by
    rw [funE, List.map_cons, List.any_cons]
    cases c.name == name with
    | true => rfl
    | false => exact funE_some i p name (k + 1) cs
theorem beq_symm {α : Type} [BEq α] [LawfulBEq α] (a b : α) : (a == b) = (b == a) := by
  rw [Bool.eq_iff_iff, beq_iff_eq, beq_iff_eq]; exact eq_comm
theorem sigE_eq (d : Decl) (i : Int) (name : Str) : sigE d i name = bif (namesT d).any (· == name) then some (entryT d i name) else none := by
  unfold sigE namesT entryT
  cases d.kind == 0 with
  | true => simp only [cond_true, List.any_cons, List.any_nil, Bool.or_false]
  | false =>
  cases d.kind == 1 with
  | true => simp only [cond_true, cond_false, List.any_cons, List.any_nil, Bool.or_false]
  | false =>
  cases d.kind == 2 with
  | true => simp only [cond_true, cond_false, List.any_cons, List.any_nil, Bool.or_false]
  | false =>
  cases d.kind == 3 with
  | true =>
    simp only [cond_true, cond_false, List.cons_append, List.any_cons, List.any_append, List.any_nil, Bool.or_false]
    rw [beq_symm name d.name]
    cases d.name == name with
    | true => rfl
    | false =>
      simp only [cond_false, Bool.false_or]
      rw [← ctorE_some i d.params name 0 d.ctors]
      cases ctorE i d.params name 0 d.ctors with
      | some e => rfl
      | none =>
        simp only [Option.isSome_none, Bool.false_or, Option.getD_none]
  | false =>
  cases h4 : d.kind == 4 with
  | true =>
    simp only [cond_true, cond_false]
    rw [← funE_some i d.params name 0 d.funs]
    cases funE i d.params name 0 d.funs <;> rfl
  | false => rfl
theorem sround_ev (a : Str) (e : Entry) (name : Str) (e0 : Entry) (err : Int) : Ev (fun n => z00 n a e name e0 err) (bif a == name then ((((), 1), (name, ()), (e, ()), (0, ()), ()), false, ()) else ((((), 0), (name, ()), (e0, ()), (err, ()), ()), true, ())) := by
  refine Ev.fn (fun n => by simp only [z00, z00_e]; exact rfl) ?_
  cases a == name <;> exact Ev.pure
theorem sig_ctors (d : Decl) (h : DOK2 d) (i : Int) (name : Str) (e0 : Entry) (err : Int) : ∀ q k : Nat, q + k = d.ctors.length → Ev2 (fun n m => z08_l1 n m i d d.ctors d.ctors.length k 0 name e0 err)
    (sigR name (match ctorE i d.params name k (d.ctors.drop k) with
      | some e => some e
      | none => bif d.name ++ recN == name then some { kind := 5, decl := i, item := 0, params := d.recu.params, type := d.recu.type } else none) e0 err) := by
  have h1 := h.ctors
  have hn : decide (d.name.length ≤ 9223372036854775803) = true := by have := h.name; simp only [cap] at this; simp only [decide_eq_true_eq]; omega
  intro q
  induction q with
  | zero =>
    intro k hk
    obtain rfl : k = d.ctors.length := by omega
    refine Ev2.lp (fun n m => by simp only [z08_l1, z08_b1]; exact rfl) ?_
    simp only [Int.lt_irrefl, decide_false, cond_false, hn, cond_true, beq_self_eq_true]
    rw [List.drop_length, ctorE]
    refine Ev2.bind1 (sround_ev _ _ name e0 err) ?_
    show Ev2 _ (sigR name (bif d.name ++ recN == name then some _ else none) e0 err)
    cases hc : d.name ++ [46, 114, 101, 99] == name with
    | true =>
      have hc' : (d.name ++ recN == name) = true := hc
      rw [hc']; exact Ev2.pure
    | false =>
      have hc' : (d.name ++ recN == name) = false := hc
      rw [hc']; exact Ev2.pure
  | succ q ih =>
    intro k hk
    have hk' : k < d.ctors.length := by omega
    refine Ev2.lp (fun n m => by simp only [z08_l1, z08_b1]; exact rfl) ?_
    simp only [hk', Int.ofNat_lt, decide_true, cond_true, beq_self_eq_true]
    refine Ev2.idx hk' ?_
    refine Ev2.bind1 (sround_ev _ _ name e0 err) ?_
    rw [List.drop_eq_getElem_cons hk', ctorE]
    cases hc : d.ctors[k].name == name with
    | true => exact Ev2.pure
    | false =>
      simp only [cond_false, cond_true]
      rw [wrap_next (by simp only [cap] at h1; omega)]
      exact ih (k + 1) (by omega)
theorem sig_funs (d : Decl) (h : DOK2 d) (i : Int) (name : Str) (e0 : Entry) (err : Int) : ∀ q k : Nat, q + k = d.funs.length → Ev2 (fun n m => z08_l2 n m i d d.funs d.funs.length k 0 name e0 err)
    (sigR name (funE i d.params name k (d.funs.drop k)) e0 err) := by
  have h1 := h.funs
  intro q
  induction q with
  | zero =>
    intro k hk
    obtain rfl : k = d.funs.length := by omega
    refine Ev2.lp (fun n m => by simp only [z08_l2, z08_b2]; exact rfl) ?_
    simp only [Int.lt_irrefl, decide_false, cond_false]
    rw [List.drop_length, funE]
    exact Ev2.pure
  | succ q ih =>
    intro k hk
    have hk' : k < d.funs.length := by omega
    refine Ev2.lp (fun n m => by simp only [z08_l2, z08_b2]; exact rfl) ?_
    simp only [hk', Int.ofNat_lt, decide_true, cond_true, beq_self_eq_true]
    refine Ev2.idx hk' ?_
    refine Ev2.bind1 (sround_ev _ _ name e0 err) ?_
    rw [List.drop_eq_getElem_cons hk', funE]
    cases hc : d.funs[k].name == name with
    | true => exact Ev2.pure
    | false =>
      simp only [cond_false, cond_true]
      rw [wrap_next (by simp only [cap] at h1; omega)]
      exact ih (k + 1) (by omega)
theorem sig_ev (d : Decl) (h : DOK2 d) (i : Int) (name : Str) (e0 : Entry) (err : Int) : Ev (fun n => z08 n i d name e0 err) (sigR name (sigE d i name) e0 err) := by
  refine Ev.fn (fun n => by simp only [z08, z08_e]; exact rfl) ?_
  unfold sigE
  cases h0 : d.kind == 0 with
  | true =>
    simp only [cond_true]
    refine Ev.bind (sround_ev _ _ name e0 err) ?_
    cases d.name == name <;> exact Ev.pure
  | false =>
  cases h1 : d.kind == 1 with
  | true =>
    simp only [cond_true, cond_false]
    refine Ev.bind (sround_ev _ _ name e0 err) ?_
    cases d.name == name <;> exact Ev.pure
  | false =>
  cases h2 : d.kind == 2 with
  | true =>
    simp only [cond_true, cond_false]
    refine Ev.bind (sround_ev _ _ name e0 err) ?_
    cases d.name == name <;> exact Ev.pure
  | false =>
  cases h3 : d.kind == 3 with
  | true =>
    simp only [cond_true, cond_false]
    refine Ev.bind (sround_ev _ _ name e0 err) ?_
    cases d.name == name with
    | true => exact Ev.pure
    | false =>
      simp only [cond_true, cond_false]
      have := sig_ctors d h i name e0 err d.ctors.length 0 (by omega)
      rw [List.drop_zero] at this
      exact Ev.of2 this
  | false =>
  cases h4 : d.kind == 4 with
  | true =>
    simp only [cond_true, cond_false]
    have := sig_funs d h i name e0 err d.funs.length 0 (by omega)
    rw [List.drop_zero] at this
    exact Ev.of2 this
  | false => exact Ev.pure
theorem Find_ev (env : List Decl) (he : EOK env) (name : Str) : Ev (fun n => z0n n env name) (findT name 0 env) := by
  have hl := he.len
  refine Ev.fn (fun n => by simp only [z0n, z0n_e]; exact rfl) ?_
  have loop : ∀ (q k : Nat) (e0 : Entry) (err : Int), q + k = env.length → Ev2 (fun n m => z0n_l1 n m env env.length k name e0 err) (findT name k (env.drop k)) := by
    intro q
    induction q with
    | zero =>
      intro k e0 err hk
      obtain rfl : k = env.length := by omega
      refine Ev2.lp (fun n m => by simp only [z0n_l1, z0n_b1]; exact rfl) ?_
      simp only [Int.lt_irrefl, decide_false, cond_false]
      rw [List.drop_length]
      exact Ev2.pure
    | succ q ih =>
      intro k e0 err hk
      have hk' : k < env.length := by omega
      have hd := DOK2.of (he.ds _ (List.getElem_mem hk'))
      refine Ev2.lp (fun n m => by simp only [z0n_l1, z0n_b1]; exact rfl) ?_
      simp only [hk', Int.ofNat_lt, decide_true, cond_true]
      refine Ev2.idx hk' ?_
      have h1 : Ev (fun n => z0b n env[k] k) ((k : Int), env[k]) := by refine Ev.fn (fun n => by simp only [z0b, z0b_e]; exact rfl) ?_; exact Ev.pure
      refine Ev2.bind1 h1 (Ev2.bind1 (sig_ev env[k] hd k name e0 err) ?_)
      rw [sigE_eq, List.drop_eq_getElem_cons hk', findT]
      cases hc : (namesT env[k]).any (· == name) with
      | true => exact Ev2.pure
      | false =>
        simp only [cond_false, sigR, beq_self_eq_true, cond_true]
        rw [wrap_next (by simp only [cap] at hl; omega)]
        exact ih (k + 1) _ _ (by omega)
  have := loop env.length 0 { kind := 0, decl := 0, item := 0, params := 0, type := Term.mk 0 0 [] [] [] } 0 (by omega)
  rw [List.drop_zero] at this
  exact Ev.of2 this
end Go.Abs
namespace Go.Abs
set_option linter.unusedVariables false
set_option linter.unusedSimpArgs false
theorem SameTree_ev : ∀ t : Tree, t.bulk ≤ cap → Ev (fun n => z0m n t t) true := by
  intro t
  induction h : t.bulk using Nat.strongRecOn generalizing t with
  | ind k ih =>
    intro hk
    have hl := t.branches_len
    have hl2 := t.body_lt
    refine Tot.ev ?_
    refine Tot.fn (fun n => by simp only [z0m, z0m_e]; exact rfl) ?_
    simp only [bne_self_eq_false, cond_false]
    refine Tot.bind ((z1p_ev t.body t.body (lim_of_cap (by omega))).tot (Q := (· = true)) (eqb_self _)) fun x hx => ?_
    subst hx
    simp only [cond_true]
    refine Tot.of2 (F := fun n m => z0m_l1 (z0m n) n m 0 t t) ?_
    refine Tot2.up (S := Unit) (L := fun n m i s => z0m_l1 (z0m n) n m i t t) t.branches.length (fun _ _ => True) _ ?_ ?_ 0 () (by omega) trivial
    · intro i s hi _ next
      refine Tot2.lp (fun n m => by simp only [z0m_l1, z0m_b1]; exact rfl) ?_
      simp only [hi, Int.ofNat_lt, decide_true, cond_true]
      rw [wrap_next (by simp only [cap] at hk; omega)]
      refine Tot2.idx hi (Tot2.idx hi ?_)
      have hm := t.kid_lt (List.getElem_mem hi)
      simp only [beq_self_eq_true, cond_true]
      refine Tot2.bind1 ((ih _ (by omega) _ rfl (by omega)).tot (Q := (· = true)) rfl) fun x hx => ?_
      subst hx
      exact next s trivial
    · intro s _
      refine Tot2.lp (fun n m => by simp only [z0m_l1, z0m_b1]; exact rfl) ?_
      simp only [Int.lt_irrefl, decide_false, cond_false]
      exact Tot2.pure rfl
theorem SameRec_ev (d : Decl) (h : DOK2 d) : Ev (fun n => z0t n d.recu d.recu) true := by
  refine Ev.fn (fun n => by simp only [z0t, z0t_e]; exact rfl) ?_
  simp only [beq_self_eq_true, cond_true]
  refine Ev.bind (x := true) ?_ ?_
  · have := z1p_ev d.recu.type d.recu.type (lim_of_cap h.rtype)
    rwa [eqb_self] at this
  simp only [cond_true]
  refine Ev.bind (x := true) ?_ Ev.pure
  have := z0k_ev d.recu.rules d.recu.rules (lim_of_cap h.rl) (fun x hx => lim_of_cap (h.rules x hx))
  rwa [eqb_self] at this
theorem SameDecl_ev (d : Decl) (h : DOK2 d) : Ev (fun n => z0l n d d) true := by
  have h1 := h.ctors
  have h2 := h.funs
  have same : ∀ t : Term, t.bulk ≤ cap → Ev (fun n => z1p n t t) true := fun t ht => by
    have := z1p_ev t t (lim_of_cap ht)
    rwa [eqb_self] at this
  refine Ev.fn (fun n => by simp only [z0l, z0l_e]; exact rfl) ?_
  simp only [bne_self_eq_false, beq_self_eq_true, cond_true, cond_false]
  refine Ev.bind (same _ h.type) ?_
  simp only [cond_true]
  refine Ev.bind (same _ h.value) ?_
  simp only [cond_true]
  refine Ev.bind (SameRec_ev d h) ?_
  simp only [cond_true]
  have k1 : Ev (fun n => z0l_l1 n n 0 d d) true := by
    refine Tot.ev (Tot.of2 (F := fun n m => z0l_l1 n m 0 d d) ?_)
    refine Tot2.up (S := Unit) (L := fun n m i _ => z0l_l1 n m i d d) d.funs.length (fun _ _ => True) _ ?_ ?_ 0 () (by omega) trivial
    · intro i s hi _ next
      refine Tot2.lp (fun n m => by simp only [z0l_l1, z0l_b1]; exact rfl) ?_
      simp only [hi, Int.ofNat_lt, decide_true, cond_true]
      rw [wrap_next (by simp only [cap] at h2; omega)]
      refine Tot2.idx hi (Tot2.idx hi ?_)
      have hf := h.fns _ (List.getElem_mem hi)
      simp only [beq_self_eq_true, bne_self_eq_false, cond_true, cond_false]
      refine Tot2.bind1 ((same _ hf.1).tot (Q := (· = true)) rfl) fun x hx => ?_
      subst hx
      simp only [cond_true]
      refine Tot2.bind1 ((SameTree_ev _ hf.2.1).tot (Q := (· = true)) rfl) fun x hx => ?_
      subst hx
      exact next s trivial
    · intro s _
      refine Tot2.lp (fun n m => by simp only [z0l_l1, z0l_b1]; exact rfl) ?_
      simp only [Int.lt_irrefl, decide_false, cond_false]
      exact Tot2.pure rfl
  refine Tot.ev (Tot.of2 (F := fun n m => z0l_l2 n m 0 d d) ?_)
  refine Tot2.up (S := Unit) (L := fun n m i _ => z0l_l2 n m i d d) d.ctors.length (fun _ _ => True) _ ?_ ?_ 0 () (by omega) trivial
  · intro i s hi _ next
    refine Tot2.lp (fun n m => by simp only [z0l_l2, z0l_b2]; exact rfl) ?_
    simp only [hi, Int.ofNat_lt, decide_true, cond_true]
    rw [wrap_next (by simp only [cap] at h1; omega)]
    refine Tot2.idx hi (Tot2.idx hi ?_)
    simp only [beq_self_eq_true, cond_true]
    refine Tot2.idx hi (Tot2.idx hi ?_)
    refine Tot2.bind1 ((same _ (h.cts _ (List.getElem_mem hi))).tot (Q := (· = true)) rfl) fun x hx => ?_
    subst hx
    exact next s trivial
  · intro s _
    refine Tot2.lp (fun n m => by simp only [z0l_l2, z0l_b2]; exact rfl) ?_
    simp only [Int.lt_irrefl, decide_false, cond_false]
    exact Tot2.of1 (k1.tot rfl)
def zeroD : Decl := { kind := 0, name := [], params := 0, type := Term.mk 0 0 [] [] [], value := Term.mk 0 0 [] [] [], fixed := 0, ctors := [], recu := { params := 0, type := Term.mk 0 0 [] [] [], rules := [] }, funs := [] }
theorem zeroD_ok : DOK2 zeroD := DOK2.of (by rw [Decl.bulk]; simp [zeroD, Term.bulk_eq, Term.name, Term.levels, Term.kids, Recursor.bulk, sumB, cap])
theorem Family_ev (env : List Decl) (he : EOK env) (name : Str) :
    (∃ (j : Nat) (hj : j < env.length), (findT name 0 env).2 = 0 ∧ (findT name 0 env).1.kind = 3 ∧ (findT name 0 env).1.decl = (j : Int) ∧ Ev (fun n => z0y n env name) (env[j], -1, true)) ∨
    ((((findT name 0 env).2 != 0) = true ∨ ((findT name 0 env).2 = 0 ∧ ((findT name 0 env).1.kind != 3) = true)) ∧ ∃ (d : Decl) (i : Int) (b : Bool), d.type.bulk ≤ cap ∧ Ev (fun n => z0y n env name) (d, i, b) ∧ (b = false ∨ (i != -1) = true)) := by
  have hf := ref_Find_ev env he name
  cases h0 : (findT name 0 env).2 != 0 with
  | true =>
    refine Or.inr ⟨Or.inl rfl, zeroD, 0, false, zeroD_ok.type, ?_, Or.inl rfl⟩
    refine Ev.fn (fun n => by simp only [z0y, z0y_e]; exact rfl) ?_
    refine Ev.bind hf ?_
    simp only [h0, cond_true]
    exact Ev.pure
  | false =>
    have h00 : (findT name 0 env).2 = 0 := by rw [bne, Bool.not_eq_false', beq_iff_eq] at h0; exact h0
    obtain ⟨j, hj, e1, e2, _⟩ := findT_at h00
    have ej : (findT name 0 env).1.decl = (j : Int) := by rw [e1]; omega
    have hdt : env[j].type.bulk ≤ cap := (DOK2.of (he.ds _ (List.getElem_mem hj))).type
    cases h3 : (findT name 0 env).1.kind == 3 with
    | true =>
      refine Or.inl ⟨j, hj, h00, beq_iff_eq.1 h3, ej, ?_⟩
      refine Ev.fn (fun n => by simp only [z0y, z0y_e]; exact rfl) ?_
      refine Ev.bind hf ?_
      simp only [h0, cond_false, h3, cond_true, ej, idxA_at hj, Option.bind_some]
      exact Ev.pure
    | false =>
      have hn3 : ((findT name 0 env).1.kind != 3) = true := by rw [bne, h3]; rfl
      refine Or.inr ⟨Or.inr ⟨h00, hn3⟩, ?_⟩
      cases h4 : (findT name 0 env).1.kind == 4 with
      | true =>
        have hat := (entryT_at env[j] (0 + j : Nat) name).2.1
        rw [← e2] at hat
        obtain ⟨q, hq, _⟩ := hat (beq_iff_eq.1 h4)
        refine ⟨env[j], (q : Int), true, hdt, ?_, Or.inr ?_⟩
        · refine Ev.fn (fun n => by simp only [z0y, z0y_e]; exact rfl) ?_
          refine Ev.bind hf ?_
          simp only [h0, cond_false, h3, h4, cond_true, ej, idxA_at hj, Option.bind_some, hq]
          exact Ev.pure
        · rw [bne, Bool.not_eq_true', beq_eq_false_iff_ne]; omega
      | false =>
        cases h5 : (findT name 0 env).1.kind == 5 with
        | true =>
          refine ⟨env[j], -2, true, hdt, ?_, Or.inr rfl⟩
          refine Ev.fn (fun n => by simp only [z0y, z0y_e]; exact rfl) ?_
          refine Ev.bind hf ?_
          simp only [h0, cond_false, h3, h4, h5, cond_true, ej, idxA_at hj, Option.bind_some]
          exact Ev.pure
        | false =>
          refine ⟨zeroD, 0, false, zeroD_ok.type, ?_, Or.inl rfl⟩
          refine Ev.fn (fun n => by simp only [z0y, z0y_e]; exact rfl) ?_
          refine Ev.bind hf ?_
          simp only [h0, cond_false, h3, h4, h5]
          exact Ev.pure
abbrev AppR : Type := Decl × List Level × List Term × List Term × Bool
def noApp : AppR := (zeroD, [], [], [], false)
structure AOK (r : AppR) : Prop where
  d : DOK2 r.1
  l : (Term.mk 3 0 [] r.2.1 []).bulk < lim
  p : TL r.2.2.1
  i : TL r.2.2.2.1
theorem TL_nil : TL [] := ⟨by simp, by simp⟩
theorem noApp_ok : AOK noApp := ⟨zeroD_ok, by simp [noApp, Term.bulk_eq, Term.name, Term.levels, Term.kids, sumB, lim], TL_nil, TL_nil⟩
theorem Applied_ev (env : List Decl) (he : EOK env) (hg : ∀ d ∈ env, Good1 d) (t : Term) (ht : t.bulk ≤ cap) : ∃ r : AppR, Ev (fun n => z0j n env t) r ∧ Ev (fun n => z0v n env t) r ∧ AOK r := by
  obtain ⟨h, c, e1, e2, hc, hcl, hh⟩ := Spine_ev t ht
  cases hk : h.kind != 3 with
  | true =>
    refine ⟨noApp, ?_, ?_, noApp_ok⟩
    · refine Ev.fn (fun n => by simp only [z0j, z0j_e]; exact rfl) ?_
      refine Ev.bind e1 ?_
      simp only [hk, cond_true]
      exact Ev.pure
    · refine Ev.fn (fun n => by simp only [z0v, z0v_e]; exact rfl) ?_
      refine Ev.bind e2 ?_
      simp only [hk, cond_true]
      exact Ev.pure
  | false =>
    have hf := Find_ev env he h.name
    rcases Family_ev env he h.name with ⟨j, hj, h0, h3, hd, hF⟩ | ⟨hno, d, i, b, hdt, hF, hbi⟩
    · have h0' : ((findT h.name 0 env).2 != 0) = false := by rw [h0]; rfl
      have h3' : ((findT h.name 0 env).1.kind != 3) = false := by rw [h3]; rfl
      have hdd := DOK2.of (he.ds _ (List.getElem_mem hj))
      have hfx := (hg _ (List.getElem_mem hj)).1
      obtain ⟨r, a1, a2, _⟩ := All_ev env[j].type hdd.type
      have hix : idxA env (j : Int) = some env[j] := idxA_at hj
      have hF' : Ev (fun n => z0y n env h.name) (env[j], -1, true) := hF
      generalize env[j] = d at hdd hfx a1 a2 hix hF'
      have em1 : ((-1 : Int) != -1) = false := rfl
      cases hlen : ((c.length : Int) != (r.1.length : Int)) with
      | true =>
        refine ⟨noApp, ?_, ?_, noApp_ok⟩
        · refine Ev.fn (fun n => by simp only [z0j, z0j_e]; exact rfl) ?_
          refine Ev.bind e1 ?_
          simp only [hk, cond_false]
          refine Ev.bind hf ?_
          simp only [h0', h3', cond_false, hd, hix, Option.bind_some]
          refine Ev.bind a1 ?_
          simp only [hlen, cond_true]
          exact Ev.pure
        · refine Ev.fn (fun n => by simp only [z0v, z0v_e]; exact rfl) ?_
          refine Ev.bind e2 ?_
          simp only [hk, cond_false]
          refine Ev.bind hF' (Ev.bind a2 ?_)
          simp only [em1, hlen, cond_true, cond_false]
          exact Ev.pure
      | false =>
        cases hfl : decide ((c.length : Int) < d.fixed) with
        | true =>
          refine ⟨noApp, ?_, ?_, noApp_ok⟩
          · refine Ev.fn (fun n => by simp only [z0j, z0j_e]; exact rfl) ?_
            refine Ev.bind e1 ?_
            simp only [hk, cond_false]
            refine Ev.bind hf ?_
            simp only [h0', h3', cond_false, hd, hix, Option.bind_some]
            refine Ev.bind a1 ?_
            simp only [hlen, hfl, cond_true, cond_false]
            exact Ev.pure
          · refine Ev.fn (fun n => by simp only [z0v, z0v_e]; exact rfl) ?_
            refine Ev.bind e2 ?_
            simp only [hk, cond_false]
            refine Ev.bind hF' (Ev.bind a2 ?_)
            simp only [em1, hlen, hfl, cond_true, cond_false]
            exact Ev.pure
        | false =>
          have hfl' := of_decide_eq_false hfl
          have d2 : decide (0 ≤ d.fixed ∧ d.fixed ≤ (c.length : Int) ∧ (c.length : Int) ≤ (c.length : Int)) = true := decide_eq_true (by omega)
          refine ⟨(d, h.levels, c.take d.fixed.toNat, (c.take c.length).drop d.fixed.toNat, true), ?_, ?_, ?_⟩
          · refine Ev.fn (fun n => by simp only [z0j, z0j_e]; exact rfl) ?_
            refine Ev.bind e1 ?_
            simp only [hk, cond_false]
            refine Ev.bind hf ?_
            simp only [h0', h3', cond_false, hd, hix, Option.bind_some]
            refine Ev.bind a1 ?_
            simp only [hlen, hfl, d2, cond_true, cond_false]
            exact Ev.pure
          · refine Ev.fn (fun n => by simp only [z0v, z0v_e]; exact rfl) ?_
            refine Ev.bind e2 ?_
            simp only [hk, cond_false]
            refine Ev.bind hF' (Ev.bind a2 ?_)
            simp only [em1, hlen, hfl, d2, cond_true, cond_false]
            exact Ev.pure
          · refine ⟨hdd, ?_, ⟨by rw [List.length_take]; omega, fun x hx => hc x (List.mem_of_mem_take hx)⟩, ⟨?_, fun x hx => hc x (List.mem_of_mem_take (List.mem_of_mem_drop hx))⟩⟩
            · have := h.bulk_pos
              rw [Term.bulk_eq] at hh
              simp only [Term.bulk_eq, Term.name, Term.levels, Term.kids, sumB, lim, List.length_nil, cap] at hh ⊢
              omega
            · rw [List.length_drop, List.length_take]; omega
    · refine ⟨noApp, ?_, ?_, noApp_ok⟩
      · refine Ev.fn (fun n => by simp only [z0j, z0j_e]; exact rfl) ?_
        refine Ev.bind e1 ?_
        simp only [hk, cond_false]
        refine Ev.bind hf ?_
        rcases hno with hno | ⟨h0, hno⟩
        · simp only [hno, cond_true]; exact Ev.pure
        · have h0' : ((findT h.name 0 env).2 != 0) = false := by rw [h0]; rfl
          simp only [h0', hno, cond_true, cond_false]; exact Ev.pure
      · refine Ev.fn (fun n => by simp only [z0v, z0v_e]; exact rfl) ?_
        refine Ev.bind e2 ?_
        simp only [hk, cond_false]
        obtain ⟨r, _, a2, _⟩ := All_ev d.type hdt
        refine Ev.bind hF (Ev.bind a2 ?_)
        rcases hbi with rfl | hi
        · exact Ev.pure
        · cases b with
          | false => exact Ev.pure
          | true => simp only [cond_true, hi]; exact Ev.pure
theorem SameLevels_ev (l : List Level) (h : (Term.mk 3 0 [] l []).bulk < lim) : Ev (fun n => z0c n l l) true := by
  refine Ev.fn (fun n => by simp only [z0c, z0c_e]; exact rfl) ?_
  refine Ev.bind (x := true) ?_ Ev.pure
  have := z1p_ev (Term.mk 3 0 [] l []) (Term.mk 3 0 [] l []) h
  rwa [eqb_self] at this
theorem SameL_ev (l : List Term) (h : TL l) : Ev (fun n => z0k n l l) true := by
  have := z0k_ev l l (lim_of_cap h.1) (fun x hx => lim_of_cap (h.2 x hx))
  rwa [eqb_self] at this
theorem Ev.ex {F : Nat → Option Bool} {r : Bool} (h : Ev F r) : ∃ n, F n = some r := by
  obtain ⟨N, h⟩ := h
  exact ⟨N, h N (Nat.le_refl _)⟩
theorem EOK.of {env : List Decl} (h : sumB Decl.bulk env ≤ cap) : EOK env := by
  have h1 := sumB_len (f := Decl.bulk) (fun x => by rw [Decl.bulk]; omega) env
  exact ⟨by omega, fun d hd => by have := sumB_mem (f := Decl.bulk) hd; omega⟩
theorem wake12 : Ev (fun n => (z15 n).bind fun x => some x) true := Ev.bind z15_ev Ev.pure
theorem z07_plain (x0 : List Decl) (x1 : Term) (hb : sumB Decl.bulk x0 + x1.bulk ≤ 1048576) (hw : ∀ y ∈ x0, y.wf) (hw1 : x1.wf) : ∃ n, z07 n x0 x1 = some true := by
  have he : EOK x0 := EOK.of (by simp only [cap]; omega)
  have ht : x1.bulk ≤ cap := by simp only [cap]; omega
  refine Ev.ex (Tot.ev ?_)
  refine Tot.fn (fun n => by simp only [z07, z07_e]; exact rfl) ?_
  refine Tot.bind (Good_tot x0 he) fun g hg => ?_
  refine Tot.cnd (fun hgt => ?_) fun _ => wake12.tot rfl
  refine Tot.bind (Few5_tot x1 8 ht) fun f _ => ?_
  refine Tot.cnd (fun _ => ?_) fun _ => wake12.tot rfl
  obtain ⟨r, h1, h2, hr⟩ := Applied_ev x0 he (hg hgt) x1 ht
  refine Ev.tot (r := true) ?_ rfl
  refine Ev.bind h1 (Ev.bind h2 (Ev.bind z15_ev ?_))
  simp only [cond_true]
  refine Ev.bind (SameDecl_ev _ hr.d) ?_
  simp only [cond_true]
  refine Ev.bind (SameLevels_ev _ hr.l) ?_
  simp only [cond_true]
  refine Ev.bind (SameL_ev _ hr.p) ?_
  simp only [cond_true]
  refine Ev.bind (SameL_ev _ hr.i) ?_
  simp only [cond_true, beq_self_eq_true]
  exact Ev.pure
end Go.Abs
