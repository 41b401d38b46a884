/- A part of the proof: plain facts. -/
import Derived.Test.YtgimdhmoloobkaaCoreC
import Derived.Test.YtgimdhmoloobkaaReadA
set_option linter.all false
namespace Go.Abs
set_option linter.unusedVariables false
variable {R S T : Type}
def Ev (F : Nat → Option R) (r : R) : Prop := ∃ N, ∀ n, N ≤ n → F n = some r
def Ev2 (F : Nat → Nat → Option R) (r : R) : Prop := ∃ N, ∀ n m, N ≤ n → N ≤ m → F n m = some r
theorem Ev.fn {F G : Nat → Option R} {r : R} (h : ∀ n, F (n + 1) = G n) (hg : Ev G r) : Ev F r := by
  obtain ⟨N, hN⟩ := hg
  refine ⟨N + 1, fun n hn => ?_⟩
  obtain ⟨k, rfl⟩ : ∃ k, n = k + 1 := ⟨n - 1, by omega⟩
  rw [h]; exact hN k (by omega)
theorem Ev.of2 {F : Nat → Nat → Option R} {r : R} (h : Ev2 F r) : Ev (fun n => F n n) r := by
  obtain ⟨N, hN⟩ := h
  exact ⟨N, fun n hn => hN n n hn hn⟩
theorem Ev2.of1 {F : Nat → Option R} {r : R} (h : Ev F r) : Ev2 (fun n _ => F n) r := by
  obtain ⟨N, hN⟩ := h
  exact ⟨N, fun n m hn _ => hN n hn⟩
theorem Ev2.lp {F G : Nat → Nat → Option R} {r : R} (h : ∀ n m, F n (m + 1) = G n m) (hg : Ev2 G r) : Ev2 F r := by
  obtain ⟨N, hN⟩ := hg
  refine ⟨N + 1, fun n m hn hm => ?_⟩
  obtain ⟨k, rfl⟩ : ∃ k, m = k + 1 := ⟨m - 1, by omega⟩
  rw [h]; exact hN n k (by omega) (by omega)
theorem Ev.pure {r : R} : Ev (fun _ => some r) r := ⟨0, fun _ _ => rfl⟩
theorem Ev2.pure {r : R} : Ev2 (fun _ _ => some r) r := ⟨0, fun _ _ _ _ => rfl⟩
theorem Ev.bind {F : Nat → Option S} {G : Nat → S → Option R} {x : S} {r : R} (h : Ev F x) (hg : Ev (fun n => G n x) r) : Ev (fun n => (F n).bind (G n)) r := by
  obtain ⟨N, hN⟩ := h
  obtain ⟨M, hM⟩ := hg
  refine ⟨max N M, fun n hn => ?_⟩
  show (F n).bind (G n) = some r
  rw [hN n (by omega)]; exact hM n (by omega)
theorem Ev2.bind {F : Nat → Nat → Option S} {G : Nat → Nat → S → Option R} {x : S} {r : R} (h : Ev2 F x) (hg : Ev2 (fun n m => G n m x) r) : Ev2 (fun n m => (F n m).bind (G n m)) r := by
  obtain ⟨N, hN⟩ := h
  obtain ⟨M, hM⟩ := hg
  refine ⟨max N M, fun n m hn hm => ?_⟩
  show (F n m).bind (G n m) = some r
  rw [hN n m (by omega) (by omega)]; exact hM n m (by omega) (by omega)
theorem Ev2.bind1 {F : Nat → Option S} {G : Nat → Nat → S → Option R} {x : S} {r : R} (h : Ev F x) (hg : Ev2 (fun n m => G n m x) r) : Ev2 (fun n m => (F n).bind (G n m)) r :=
  Ev2.bind (F := fun n _ => F n) (Ev2.of1 h) hg
def Tot (F : Nat → Option R) (Q : R → Prop) : Prop := ∃ r, Q r ∧ Ev F r
def Tot2 (F : Nat → Nat → Option R) (Q : R → Prop) : Prop := ∃ r, Q r ∧ Ev2 F r
theorem Tot.fn {F G : Nat → Option R} {Q : R → Prop} (h : ∀ n, F (n + 1) = G n) (hg : Tot G Q) : Tot F Q := Exists.imp (fun _ k => ⟨k.1, Ev.fn h k.2⟩) hg
theorem Tot.of2 {F : Nat → Nat → Option R} {Q : R → Prop} (h : Tot2 F Q) : Tot (fun n => F n n) Q := Exists.imp (fun _ k => ⟨k.1, Ev.of2 k.2⟩) h
theorem Tot2.of1 {F : Nat → Option R} {Q : R → Prop} (h : Tot F Q) : Tot2 (fun n _ => F n) Q := Exists.imp (fun _ k => ⟨k.1, Ev2.of1 k.2⟩) h
theorem Tot2.lp {F G : Nat → Nat → Option R} {Q : R → Prop} (h : ∀ n m, F n (m + 1) = G n m) (hg : Tot2 G Q) : Tot2 F Q := Exists.imp (fun _ k => ⟨k.1, Ev2.lp h k.2⟩) hg
theorem Tot.pure {r : R} {Q : R → Prop} (h : Q r) : Tot (fun _ => some r) Q := ⟨r, h, Ev.pure⟩
theorem Tot2.pure {r : R} {Q : R → Prop} (h : Q r) : Tot2 (fun _ _ => some r) Q := ⟨r, h, Ev2.pure⟩
theorem Tot.bind {F : Nat → Option S} {G : Nat → S → Option R} {P : S → Prop} {Q : R → Prop} (h : Tot F P) (hg : ∀ x, P x → Tot (fun n => G n x) Q) : Tot (fun n => (F n).bind (G n)) Q := by
  obtain ⟨x, hx, hF⟩ := h
  obtain ⟨r, hr, hG⟩ := hg x hx
  exact ⟨r, hr, Ev.bind hF hG⟩
theorem Tot2.bind {F : Nat → Nat → Option S} {G : Nat → Nat → S → Option R} {P : S → Prop} {Q : R → Prop} (h : Tot2 F P) (hg : ∀ x, P x → Tot2 (fun n m => G n m x) Q) : Tot2 (fun n m => (F n m).bind (G n m)) Q := by
  obtain ⟨x, hx, hF⟩ := h
  obtain ⟨r, hr, hG⟩ := hg x hx
  exact ⟨r, hr, Ev2.bind hF hG⟩
theorem Tot2.bind1 {F : Nat → Option S} {G : Nat → Nat → S → Option R} {P : S → Prop} {Q : R → Prop} (h : Tot F P) (hg : ∀ x, P x → Tot2 (fun n m => G n m x) Q) : Tot2 (fun n m => (F n).bind (G n m)) Q :=
  Tot2.bind (F := fun n _ => F n) (Tot2.of1 h) hg
theorem Tot.idx {xs : List S} {i : Nat} {G : Nat → S → Option R} {Q : R → Prop} (hi : i < xs.length) (hg : Tot (fun n => G n xs[i]) Q) : Tot (fun n => (idxA xs (i : Int)).bind (G n)) Q := by
  have : idxA xs (i : Int) = some xs[i] := by simp [idxA, hi]
  simp only [this]; exact hg
theorem Tot2.idx {xs : List S} {i : Nat} {G : Nat → Nat → S → Option R} {Q : R → Prop} (hi : i < xs.length) (hg : Tot2 (fun n m => G n m xs[i]) Q) : Tot2 (fun n m => (idxA xs (i : Int)).bind (G n m)) Q := by
  have : idxA xs (i : Int) = some xs[i] := by simp [idxA, hi]
  simp only [this]; exact hg
theorem Tot.cnd {c : Bool} {A B : Nat → Option R} {Q : R → Prop} (h1 : c = true → Tot A Q) (h2 : c = false → Tot B Q) : Tot (fun n => bif c then A n else B n) Q := by
  cases c with
  | true => exact h1 rfl
  | false => exact h2 rfl
theorem Tot2.cnd {c : Bool} {A B : Nat → Nat → Option R} {Q : R → Prop} (h1 : c = true → Tot2 A Q) (h2 : c = false → Tot2 B Q) : Tot2 (fun n m => bif c then A n m else B n m) Q := by
  cases c with
  | true => exact h1 rfl
  | false => exact h2 rfl
theorem Tot.imp {F : Nat → Option R} {P Q : R → Prop} (h : Tot F P) (k : ∀ r, P r → Q r) : Tot F Q := Exists.imp (fun r x => ⟨k r x.1, x.2⟩) h
theorem Tot.ev {F : Nat → Option R} {r : R} (h : Tot F (· = r)) : Ev F r := by obtain ⟨s, rfl, h⟩ := h; exact h
theorem Ev.tot {F : Nat → Option R} {r : R} {Q : R → Prop} (h : Ev F r) (q : Q r) : Tot F Q := ⟨r, q, h⟩
theorem Tot2.up {L : Nat → Nat → Int → S → Option R} (len : Nat) (I : Nat → S → Prop) (Q : R → Prop)
    (h1 : ∀ i s, i < len → I i s → (∀ s', I (i + 1) s' → Tot2 (fun n m => L n m ((i + 1 : Nat) : Int) s') Q) → Tot2 (fun n m => L n m (i : Int) s) Q)
    (h2 : ∀ s, I len s → Tot2 (fun n m => L n m (len : Int) s) Q) : ∀ (i : Nat) (s : S), i ≤ len → I i s → Tot2 (fun n m => L n m (i : Int) s) Q := by
  intro i s hi h
  obtain ⟨k, hk⟩ : ∃ k, k = len - i := ⟨_, rfl⟩
  induction k generalizing i s with
  | zero => obtain rfl : i = len := by omega
            exact h2 s h
  | succ k ih => exact h1 i s (by omega) h fun s' hs => ih (i + 1) s' (by omega) hs (by omega)
theorem wrap_small {n : Int} (h : -9223372036854775808 ≤ n) (h2 : n ≤ 9223372036854775807) : IntKind.i64.wrap n = n := by
  simp only [IntKind.wrap, IntKind.signed, IntKind.bits, Bool.true_and, decide_eq_true_eq]
  split <;> rename_i h3 <;> simp only [decide_eq_true_eq, ge_iff_le] at h3 <;> omega
theorem wrap_next {i : Nat} (h : i < 9223372036854775807) : IntKind.i64.wrap ((i : Int) + 1) = ((i + 1 : Nat) : Int) := by
  rw [wrap_small (by omega) (by omega)]; rfl
theorem idxA_at {xs : List S} {i : Nat} (hi : i < xs.length) : idxA xs (i : Int) = some xs[i] := by simp [idxA, hi]
theorem Ev2.idx {xs : List S} {i : Nat} {G : Nat → Nat → S → Option R} {r : R} (hi : i < xs.length) (hg : Ev2 (fun n m => G n m xs[i]) r) : Ev2 (fun n m => (idxA xs (i : Int)).bind (G n m)) r := by
  simp only [idxA_at hi]; exact hg
noncomputable def eqb {α : Type} (a b : α) : Bool := @decide (a = b) (Classical.propDecidable _)
theorem eqb_iff {α : Type} {a b : α} : eqb a b = true ↔ a = b := by
  unfold eqb; exact @decide_eq_true_iff _ (Classical.propDecidable _)
theorem eqb_self {α : Type} (a : α) : eqb a a = true := eqb_iff.2 rfl
theorem eqb_false {α : Type} {a b : α} (h : a ≠ b) : eqb a b = false := by
  cases hc : eqb a b with
  | false => rfl
  | true => exact absurd (eqb_iff.1 hc) h
theorem eqb_cons {α : Type} (x y : α) (xs ys : List α) : eqb (x :: xs) (y :: ys) = (eqb x y && eqb xs ys) := by
  rw [Bool.eq_iff_iff, Bool.and_eq_true, eqb_iff, eqb_iff, eqb_iff, List.cons.injEq]
theorem eqb_len {α : Type} {xs ys : List α} (h : xs.length ≠ ys.length) : eqb xs ys = false := eqb_false fun e => h (by rw [e])
theorem Ev2.andThen {F : Nat → Nat → Option Bool} {c r : Bool} (h : Ev2 F r) : Ev2 (fun n m => bif c then F n m else some false) (c && r) := by
  cases c with
  | true => exact h
  | false => exact Ev2.pure
theorem Ev.andThen {F : Nat → Option Bool} {c r : Bool} (h : Ev F r) : Ev (fun n => bif c then F n else some false) (c && r) := by
  cases c with
  | true => exact h
  | false => exact Ev.pure
theorem Ev2.same {α : Type} {L : Nat → Nat → Int → Option Bool} (xs ys : List α) (hl : xs.length = ys.length)
    (h1 : ∀ (i : Nat) (hi : i < xs.length) (hj : i < ys.length) (r : Bool), Ev2 (fun n m => L n m ((i + 1 : Nat) : Int)) r → Ev2 (fun n m => L n m (i : Int)) (eqb xs[i] ys[i] && r))
    (h2 : Ev2 (fun n m => L n m (xs.length : Int)) true) : Ev2 (fun n m => L n m 0) (eqb xs ys) := by
  have key : ∀ (k i : Nat), k + i = xs.length → Ev2 (fun n m => L n m (i : Int)) (eqb (xs.drop i) (ys.drop i)) := by
    intro k
    induction k with
    | zero =>
      intro i hi
      obtain rfl : i = xs.length := by omega
      rw [List.drop_length, hl, List.drop_length, eqb_self, ← hl]
      exact h2
    | succ k ih =>
      intro i hi
      have hi1 : i < xs.length := by omega
      have hi2 : i < ys.length := by omega
      rw [List.drop_eq_getElem_cons hi1, List.drop_eq_getElem_cons hi2, eqb_cons]
      exact h1 i hi1 hi2 _ (ih (i + 1) (by omega))
  have := key xs.length 0 (by omega)
  simpa using this
end Go.Abs
namespace Go.Abs
set_option linter.unusedVariables false
set_option linter.unusedSimpArgs false
theorem sumB_mem {α : Type} {f : α → Nat} : ∀ {xs : List α} {x : α}, x ∈ xs → f x ≤ sumB f xs
  | y :: ys, x, h => by
    simp only [sumB]
    rcases List.mem_cons.mp h with rfl | h
    · omega
    · have := sumB_mem (f := f) h; omega
theorem sumB_len {α : Type} {f : α → Nat} (h : ∀ x, 1 ≤ f x) : ∀ xs : List α, xs.length ≤ sumB f xs
  | [] => by simp [sumB]
  | y :: ys => by have := sumB_len h ys; have := h y; simp only [sumB, List.length_cons]; omega
theorem Term.bulk_pos (x : Term) : 1 ≤ x.bulk := by rw [Term.bulk_eq]; omega
theorem Level.bulk_pos (x : Level) : 1 ≤ x.bulk := by rw [Level.bulk]; omega
theorem Zs2.bulk_pos (x : Zs2) : 1 ≤ x.bulk := by rw [Zs2.bulk]; omega
theorem Branch.bulk_pos (x : Branch) : 1 ≤ x.bulk := by rw [Branch.bulk_eq]; omega
theorem Term.kids_len (x : Term) : x.kids.length < x.bulk := by rw [Term.bulk_eq]; have := sumB_len Term.bulk_pos x.kids; omega
theorem Term.levels_len (x : Term) : x.levels.length < x.bulk := by rw [Term.bulk_eq]; have := sumB_len Level.bulk_pos x.levels; omega
theorem Term.name_len (x : Term) : x.name.length < x.bulk := by rw [Term.bulk_eq]; omega
theorem Level.vars_len (x : Level) : x.vars.length < x.bulk := by rw [Level.bulk]; have := sumB_len Zs2.bulk_pos x.vars; omega
theorem Term.kid_lt {x t : Term} (h : t ∈ x.kids) : t.bulk < x.bulk := by rw [Term.bulk_eq x]; have := sumB_mem (f := Term.bulk) h; omega
theorem Term.level_lt {x : Term} {l : Level} (h : l ∈ x.levels) : l.bulk < x.bulk := by rw [Term.bulk_eq x]; have := sumB_mem (f := Level.bulk) h; omega
def lim : Nat := 9223372036854775807
abbrev Yes {R : Type} : R → Prop := fun _ => True
theorem z15_tot : ∀ (t : Term), t.bulk < lim → Tot (fun n => z15 n t) Yes := by
  intro t
  induction h : t.bulk using Nat.strongRecOn generalizing t with
  | ind k ih =>
    intro hk
    have hl := t.kids_len
    refine Tot.fn (fun n => by simp only [z15, z15_e]; exact rfl) ?_
    refine Tot.of2 (F := fun n m => z15_l1 (z15 n) n m 1 0 t) ?_
    refine Tot2.up (S := Int) (L := fun n m i s => z15_l1 (z15 n) n m s i t) t.kids.length (fun _ _ => True) Yes ?_ ?_ 0 1 (by omega) trivial
    · intro i s hi _ next
      refine Tot2.lp (fun n m => by simp only [z15_l1, z15_b1]; exact rfl) ?_
      simp only [hi, Int.ofNat_lt, decide_true, cond_true]
      refine Tot2.idx hi ?_
      have hm := t.kid_lt (List.getElem_mem hi)
      refine Tot2.bind1 (ih _ (by omega) _ rfl (by omega)) fun x _ => ?_
      rw [wrap_next (by unfold lim at hk; omega)]
      exact next _ trivial
    · intro s _
      refine Tot2.lp (fun n m => by simp only [z15_l1, z15_b1]; exact rfl) ?_
      simp only [Int.lt_irrefl, decide_false, cond_false]
      exact Tot2.pure trivial
theorem z0y_tot : ∀ (t : Term), t.bulk < lim → Tot (fun n => z0y n t) Yes := by
  intro t
  induction h : t.bulk using Nat.strongRecOn generalizing t with
  | ind k ih =>
    intro hk
    have hl := t.kids_len
    refine Tot.fn (fun n => by simp only [z0y, z0y_e]; exact rfl) ?_
    refine Tot.of2 (F := fun n m => z0y_l1 (z0y n) n m 0 0 t) ?_
    refine Tot2.up (S := Int) (L := fun n m i s => z0y_l1 (z0y n) n m s i t) t.kids.length (fun _ _ => True) Yes ?_ ?_ 0 0 (by omega) trivial
    · intro i s hi _ next
      refine Tot2.lp (fun n m => by simp only [z0y_l1, z0y_b1]; exact rfl) ?_
      simp only [hi, Int.ofNat_lt, decide_true, cond_true]
      refine Tot2.idx hi ?_
      have hm := t.kid_lt (List.getElem_mem hi)
      refine Tot2.bind1 (ih _ (by omega) _ rfl (by omega)) fun x _ => ?_
      rw [wrap_next (by unfold lim at hk; omega)]
      exact next _ trivial
    · intro s _
      refine Tot2.lp (fun n m => by simp only [z0y_l1, z0y_b1]; exact rfl) ?_
      simp only [Int.lt_irrefl, decide_false, cond_false]
      exact Tot2.pure trivial
theorem z0w_tot (k i : Int) : Tot (fun n => z0w n k i) Yes := by
  refine Tot.fn (fun n => by simp only [z0w, z0w_e]; exact rfl) ?_
  (repeat' (first | exact Tot.pure trivial | exact Tot2.pure trivial | refine Tot.cnd (fun _ => ?_) (fun _ => ?_) | refine Tot2.cnd (fun _ => ?_) (fun _ => ?_)))
theorem z0l_tot (k : Int) : Tot (fun n => z0l n k) Yes := by
  refine Tot.fn (fun n => by simp only [z0l, z0l_e]; exact rfl) ?_
  (repeat' (first | exact Tot.pure trivial | exact Tot2.pure trivial | refine Tot.cnd (fun _ => ?_) (fun _ => ?_) | refine Tot2.cnd (fun _ => ?_) (fun _ => ?_)))
theorem z0v_tot (l : Level) (hk : l.bulk < lim) : Tot (fun n => z0v n l) Yes := by
  have hl := l.vars_len
  refine Tot.fn (fun n => by simp only [z0v, z0v_e]; exact rfl) ?_
  (repeat' (first | exact Tot.pure trivial | exact Tot2.pure trivial | refine Tot.cnd (fun _ => ?_) (fun _ => ?_) | refine Tot2.cnd (fun _ => ?_) (fun _ => ?_)))
  refine Tot.of2 (F := fun n m => z0v_l1 n m 0 l) ?_
  refine Tot2.up (S := Unit) (L := fun n m i s => z0v_l1 n m i l) l.vars.length (fun _ _ => True) Yes ?_ ?_ 0 () (by omega) trivial
  · intro i s hi _ next
    refine Tot2.lp (fun n m => by simp only [z0v_l1, z0v_b1]; exact rfl) ?_
    simp only [hi, Int.ofNat_lt, decide_true, cond_true]
    refine Tot2.idx hi ?_
    (repeat' (first | exact Tot.pure trivial | exact Tot2.pure trivial | refine Tot.cnd (fun _ => ?_) (fun _ => ?_) | refine Tot2.cnd (fun _ => ?_) (fun _ => ?_)))
    · rename_i h0
      have h0 : 0 < (i : Int) := by simpa using h0
      have e : IntKind.i64.wrap ((i : Int) - 1) = ((i - 1 : Nat) : Int) := by rw [wrap_small (by omega) (by unfold lim at hk; omega)]; omega
      simp only [e]
      refine Tot2.idx (by omega) ?_
      rw [wrap_next (by unfold lim at hk; omega)]
      (repeat' (first | exact Tot.pure trivial | exact Tot2.pure trivial | refine Tot.cnd (fun _ => ?_) (fun _ => ?_) | refine Tot2.cnd (fun _ => ?_) (fun _ => ?_)))
      all_goals exact next s trivial
    all_goals (rw [wrap_next (by unfold lim at hk; omega)]; exact next s trivial)
  · intro s _
    refine Tot2.lp (fun n m => by simp only [z0v_l1, z0v_b1]; exact rfl) ?_
    simp only [Int.lt_irrefl, decide_false, cond_false]
    exact Tot2.pure trivial
theorem z13_tot (s : Str) (hk : s.length < lim) : Tot (fun n => z13 n s) Yes := by
  refine Tot.fn (fun n => by simp only [z13, z13_e]; exact rfl) ?_
  (repeat' (first | exact Tot.pure trivial | exact Tot2.pure trivial | refine Tot.cnd (fun _ => ?_) (fun _ => ?_) | refine Tot2.cnd (fun _ => ?_) (fun _ => ?_)))
  refine Tot.of2 (F := fun n m => z13_l1 n m s true 0) ?_
  refine Tot2.up (S := Bool) (L := fun n m i b => z13_l1 n m s b i) s.length (fun _ _ => True) Yes ?_ ?_ 0 true (by omega) trivial
  · intro i b hi _ next
    refine Tot2.lp (fun n m => by simp only [z13_l1, z13_b1]; exact rfl) ?_
    simp only [hi, Int.ofNat_lt, decide_true, cond_true]
    refine Tot2.idx hi ?_
    rw [wrap_next (by unfold lim at hk; omega)]
    (repeat' (first | exact Tot.pure trivial | exact Tot2.pure trivial | refine Tot.cnd (fun _ => ?_) (fun _ => ?_) | refine Tot2.cnd (fun _ => ?_) (fun _ => ?_)))
    · refine Tot2.bind1 (z0l_tot _) fun x _ => ?_
      (repeat' (first | exact Tot.pure trivial | exact Tot2.pure trivial | refine Tot.cnd (fun _ => ?_) (fun _ => ?_) | refine Tot2.cnd (fun _ => ?_) (fun _ => ?_)))
      exact next _ trivial
    · exact next _ trivial
    · refine Tot2.bind1 (z0l_tot _) fun x _ => ?_
      (repeat' (first | exact Tot.pure trivial | exact Tot2.pure trivial | refine Tot.cnd (fun _ => ?_) (fun _ => ?_) | refine Tot2.cnd (fun _ => ?_) (fun _ => ?_)))
      all_goals exact next _ trivial
  · intro s _
    refine Tot2.lp (fun n m => by simp only [z13_l1, z13_b1]; exact rfl) ?_
    simp only [Int.lt_irrefl, decide_false, cond_false]
    exact Tot2.pure trivial
theorem z10_tot (l : Level) (p q : Int) (hk : l.bulk < lim) : Tot (fun n => z10 n l p q) Yes := by
  have hl := l.vars_len
  refine Tot.fn (fun n => by simp only [z10, z10_e]; exact rfl) ?_
  refine Tot.bind (z0v_tot l hk) fun x _ => ?_
  (repeat' (first | exact Tot.pure trivial | exact Tot2.pure trivial | refine Tot.cnd (fun _ => ?_) (fun _ => ?_) | refine Tot2.cnd (fun _ => ?_) (fun _ => ?_)))
  have k1 : Tot (fun n => z10_l1 n n q 0 l) Yes := by
    refine Tot.of2 (F := fun n m => z10_l1 n m q 0 l) ?_
    refine Tot2.up (S := Unit) (L := fun n m i s => z10_l1 n m q i l) l.vars.length (fun _ _ => True) Yes ?_ ?_ 0 () (by omega) trivial
    · intro i s hi _ next
      refine Tot2.lp (fun n m => by simp only [z10_l1, z10_b1]; exact rfl) ?_
      simp only [hi, Int.ofNat_lt, decide_true, cond_true]
      refine Tot2.idx hi ?_
      rw [wrap_next (by unfold lim at hk; omega)]
      (repeat' (first | exact Tot.pure trivial | exact Tot2.pure trivial | refine Tot.cnd (fun _ => ?_) (fun _ => ?_) | refine Tot2.cnd (fun _ => ?_) (fun _ => ?_)))
      · refine Tot2.idx hi ?_
        (repeat' (first | exact Tot.pure trivial | exact Tot2.pure trivial | refine Tot.cnd (fun _ => ?_) (fun _ => ?_) | refine Tot2.cnd (fun _ => ?_) (fun _ => ?_)))
        exact next s trivial
      · exact next s trivial
    · intro s _
      refine Tot2.lp (fun n m => by simp only [z10_l1, z10_b1]; exact rfl) ?_
      simp only [Int.lt_irrefl, decide_false, cond_false]
      exact Tot2.pure trivial
  refine Tot.of2 (F := fun n m => z10_l2 n m p q 0 l) ?_
  refine Tot2.up (S := Unit) (L := fun n m i s => z10_l2 n m p q i l) l.vars.length (fun _ _ => True) Yes ?_ ?_ 0 () (by omega) trivial
  · intro i s hi _ next
    refine Tot2.lp (fun n m => by simp only [z10_l2, z10_b2]; exact rfl) ?_
    simp only [hi, Int.ofNat_lt, decide_true, cond_true]
    refine Tot2.idx hi ?_
    rw [wrap_next (by unfold lim at hk; omega)]
    (repeat' (first | exact Tot.pure trivial | exact Tot2.pure trivial | refine Tot.cnd (fun _ => ?_) (fun _ => ?_) | refine Tot2.cnd (fun _ => ?_) (fun _ => ?_)))
    · refine Tot2.idx hi ?_
      (repeat' (first | exact Tot.pure trivial | exact Tot2.pure trivial | refine Tot.cnd (fun _ => ?_) (fun _ => ?_) | refine Tot2.cnd (fun _ => ?_) (fun _ => ?_)))
      exact next s trivial
    · exact next s trivial
  · intro s _
    refine Tot2.lp (fun n m => by simp only [z10_l2, z10_b2]; exact rfl) ?_
    simp only [Int.lt_irrefl, decide_false, cond_false]
    exact Tot2.of1 k1
theorem z0p_tot (t : Term) (hk : t.bulk < lim) : Tot (fun n => z0p n t) Yes := by
  refine Tot.fn (fun n => by simp only [z0p, z0p_e]; exact rfl) ?_
  refine Tot.bind (z15_tot _ hk) fun x _ => ?_
  (repeat' (first | exact Tot.pure trivial | exact Tot2.pure trivial | refine Tot.cnd (fun _ => ?_) (fun _ => ?_) | refine Tot2.cnd (fun _ => ?_) (fun _ => ?_)))
  refine Tot.bind (z0y_tot _ hk) fun x _ => ?_
  (repeat' (first | exact Tot.pure trivial | exact Tot2.pure trivial | refine Tot.cnd (fun _ => ?_) (fun _ => ?_) | refine Tot2.cnd (fun _ => ?_) (fun _ => ?_)))
theorem Tree.branches_len (x : Tree) : x.branches.length < x.bulk := by rw [Tree.bulk_eq]; have := sumB_len Branch.bulk_pos x.branches; omega
theorem Tree.body_lt (x : Tree) : x.body.bulk < x.bulk := by rw [Tree.bulk_eq]; omega
theorem Tree.kid_lt {x : Tree} {b : Branch} (h : b ∈ x.branches) : b.tree.bulk < x.bulk := by rw [Tree.bulk_eq x]; have := sumB_mem (f := Branch.bulk) h; rw [Branch.bulk_eq] at this; omega
theorem z09_tot : ∀ (t : Tree) (a : Int), t.bulk < lim → Tot (fun n => z09 n t a) Yes := by
  intro t
  induction h : t.bulk using Nat.strongRecOn generalizing t with
  | ind k ih =>
    intro a hk
    have hl := t.branches_len
    have hl2 := t.body_lt
    refine Tot.fn (fun n => by simp only [z09, z09_e]; exact rfl) ?_
    (repeat' (first | exact Tot.pure trivial | exact Tot2.pure trivial | refine Tot.cnd (fun _ => ?_) (fun _ => ?_) | refine Tot2.cnd (fun _ => ?_) (fun _ => ?_)))
    refine Tot.bind (z0p_tot _ (by omega)) fun x _ => ?_
    (repeat' (first | exact Tot.pure trivial | exact Tot2.pure trivial | refine Tot.cnd (fun _ => ?_) (fun _ => ?_) | refine Tot2.cnd (fun _ => ?_) (fun _ => ?_)))
    refine Tot.of2 (F := fun n m => z09_l1 (z09 n) n m a 0 t) ?_
    refine Tot2.up (S := Unit) (L := fun n m i s => z09_l1 (z09 n) n m a i t) t.branches.length (fun _ _ => True) Yes ?_ ?_ 0 () (by omega) trivial
    · intro i s hi _ next
      refine Tot2.lp (fun n m => by simp only [z09_l1, z09_b1]; exact rfl) ?_
      simp only [hi, Int.ofNat_lt, decide_true, cond_true]
      refine Tot2.idx hi ?_
      have hm := t.kid_lt (List.getElem_mem hi)
      rw [wrap_next (by unfold lim at hk; omega)]
      refine Tot2.bind1 (ih _ (by omega) _ rfl _ (by omega)) fun x _ => ?_
      (repeat' (first | exact Tot.pure trivial | exact Tot2.pure trivial | refine Tot.cnd (fun _ => ?_) (fun _ => ?_) | refine Tot2.cnd (fun _ => ?_) (fun _ => ?_)))
      refine Tot2.idx hi ?_
      (repeat' (first | exact Tot.pure trivial | exact Tot2.pure trivial | refine Tot.cnd (fun _ => ?_) (fun _ => ?_) | refine Tot2.cnd (fun _ => ?_) (fun _ => ?_)))
      exact next s trivial
    · intro s _
      refine Tot2.lp (fun n m => by simp only [z09_l1, z09_b1]; exact rfl) ?_
      simp only [Int.lt_irrefl, decide_false, cond_false]
      exact Tot2.pure trivial
end Go.Abs
namespace Go.Abs
set_option linter.unusedVariables false
set_option linter.unusedSimpArgs false
theorem eqb_LevelVar (a b : Zs2) : eqb a b = (a.index == b.index && a.plus == b.plus) := by
  rw [Bool.eq_iff_iff, eqb_iff, Bool.and_eq_true, beq_iff_eq, beq_iff_eq]
  cases a; cases b; simp
theorem eqb_Level (a b : Level) : eqb a b = (a.const == b.const && eqb a.vars b.vars) := by
  rw [Bool.eq_iff_iff, eqb_iff, Bool.and_eq_true, beq_iff_eq, eqb_iff]
  cases a; cases b; simp
theorem eqb_Term (a b : Term) : eqb a b = (a.kind == b.kind && (a.index == b.index && (a.name == b.name && (eqb a.levels b.levels && eqb a.kids b.kids)))) := by
  rw [Bool.eq_iff_iff, eqb_iff]
  simp only [Bool.and_eq_true, beq_iff_eq, eqb_iff]
  cases a; cases b
  simp only [Term.mk.injEq, Term.kind, Term.index, Term.name, Term.levels, Term.kids]
theorem intlen {α β : Type} (xs : List α) (ys : List β) : ((xs.length : Int) != (ys.length : Int)) = (xs.length != ys.length) := by
  rw [Bool.eq_iff_iff, bne_iff_ne, bne_iff_ne]; omega
theorem z05_ev (a b : List Zs2) (hk : a.length < lim) : Ev (fun n => z05 n a b) (eqb a b) := by
  refine Ev.fn (fun n => by simp only [z05, z05_e]; exact rfl) ?_
  by_cases hl : a.length = b.length
  · have e : ((a.length : Int) != (b.length : Int)) = false := by rw [intlen, hl]; simp
    simp only [e, cond_false]
    refine Ev.of2 (F := fun n m => z05_l1 n m a b a.length 0) ?_
    refine Ev2.same (L := fun n m i => z05_l1 n m a b a.length i) a b hl ?_ ?_
    · intro i hi hj r hr
      refine Ev2.lp (fun n m => by simp only [z05_l1, z05_b1]; exact rfl) ?_
      simp only [hi, Int.ofNat_lt, decide_true, cond_true]
      rw [wrap_next (by unfold lim at hk; omega), eqb_LevelVar]
      exact Ev2.idx hi (Ev2.idx hj (Ev2.andThen hr))
    · refine Ev2.lp (fun n m => by simp only [z05_l1, z05_b1]; exact rfl) ?_
      simp only [Int.lt_irrefl, decide_false, cond_false]
      exact Ev2.pure
  · have e : ((a.length : Int) != (b.length : Int)) = true := by rw [intlen]; simpa using hl
    simp only [e, cond_true]
    rw [eqb_len hl]
    exact Ev.pure
theorem z0f_ev (a b : Level) (hk : a.bulk < lim) : Ev (fun n => z0f n a b) (eqb a b) := by
  have := a.vars_len
  refine Ev.fn (fun n => by simp only [z0f, z0f_e]; exact rfl) ?_
  rw [eqb_Level]
  exact Ev.andThen (Ev.bind (z05_ev _ _ (by omega)) Ev.pure)
theorem z00_ev (a b : List Level) (hk : a.length < lim) (hb : ∀ l ∈ a, l.bulk < lim) : Ev (fun n => z00 n a b ()) (eqb a b) := by
  refine Ev.fn (fun n => by simp only [z00, z00_e]; exact rfl) ?_
  by_cases hl : a.length = b.length
  · have e : ((a.length : Int) != (b.length : Int)) = false := by rw [intlen, hl]; simp
    simp only [e, cond_false]
    refine Ev.of2 (F := fun n m => z00_l1 n m b a a.length 0) ?_
    refine Ev2.same (L := fun n m i => z00_l1 n m b a a.length i) a b hl ?_ ?_
    · intro i hi hj r hr
      refine Ev2.lp (fun n m => by simp only [z00_l1, z00_b1]; exact rfl) ?_
      simp only [hi, Int.ofNat_lt, decide_true, cond_true]
      rw [wrap_next (by unfold lim at hk; omega)]
      exact Ev2.idx hi (Ev2.idx hj (Ev2.bind1 (z0f_ev _ _ (hb _ (List.getElem_mem hi))) (Ev2.andThen hr)))
    · refine Ev2.lp (fun n m => by simp only [z00_l1, z00_b1]; exact rfl) ?_
      simp only [Int.lt_irrefl, decide_false, cond_false]
      exact Ev2.pure
  · have e : ((a.length : Int) != (b.length : Int)) = true := by rw [intlen]; simpa using hl
    simp only [e, cond_true]
    rw [eqb_len hl]
    exact Ev.pure
theorem z01_of (a b : List Term) (hk : a.length < lim) (hb : ∀ x ∈ a, ∀ y, Ev (fun n => z1h n x y) (eqb x y)) : Ev (fun n => z01 n a b ()) (eqb a b) := by
  refine Ev.fn (fun n => by simp only [z01, z01_e]; exact rfl) ?_
  by_cases hl : a.length = b.length
  · have e : ((a.length : Int) != (b.length : Int)) = false := by rw [intlen, hl]; simp
    simp only [e, cond_false]
    refine Ev.of2 (F := fun n m => z01_l1 (z1h n) (z01 n) n m b a a.length 0) ?_
    refine Ev2.same (L := fun n m i => z01_l1 (z1h n) (z01 n) n m b a a.length i) a b hl ?_ ?_
    · intro i hi hj r hr
      refine Ev2.lp (fun n m => by simp only [z01_l1, z01_b1]; exact rfl) ?_
      simp only [hi, Int.ofNat_lt, decide_true, cond_true]
      rw [wrap_next (by unfold lim at hk; omega)]
      exact Ev2.idx hi (Ev2.idx hj (Ev2.bind1 (hb _ (List.getElem_mem hi) _) (Ev2.andThen hr)))
    · refine Ev2.lp (fun n m => by simp only [z01_l1, z01_b1]; exact rfl) ?_
      simp only [Int.lt_irrefl, decide_false, cond_false]
      exact Ev2.pure
  · have e : ((a.length : Int) != (b.length : Int)) = true := by rw [intlen]; simpa using hl
    simp only [e, cond_true]
    rw [eqb_len hl]
    exact Ev.pure
theorem z1h_ev : ∀ (a b : Term), a.bulk < lim → Ev (fun n => z1h n a b) (eqb a b) := by
  intro a
  induction h : a.bulk using Nat.strongRecOn generalizing a with
  | ind k ih =>
    intro b hk
    have h1 := a.kids_len
    have h2 := a.levels_len
    refine Ev.fn (fun n => by simp only [z1h, z1h_e]; exact rfl) ?_
    rw [eqb_Term]
    refine Ev.andThen (Ev.andThen (Ev.andThen (Ev.bind (z00_ev _ _ (by omega) ?_) (Ev.andThen (Ev.bind (z01_of _ _ (by omega) ?_) Ev.pure)))))
    · intro l hl; have := a.level_lt hl; omega
    · intro x hx y; have := a.kid_lt hx; exact ih x.bulk (by omega) x rfl y (by omega)
theorem z01_ev (a b : List Term) (hk : a.length < lim) (hb : ∀ x ∈ a, x.bulk < lim) : Ev (fun n => z01 n a b ()) (eqb a b) :=
  z01_of a b hk fun x hx y => z1h_ev x y (hb x hx)
theorem z02_ev (a b : List Term) (hk : a.length < lim) (hb : ∀ x ∈ a, x.bulk < lim) : Ev (fun n => z02 n a b ()) (eqb a b) := by
  refine Ev.fn (fun n => by simp only [z02, z02_e]; exact rfl) ?_
  have e : eqb a b = (((a.length : Int) == (b.length : Int)) && eqb a b) := by
    by_cases hl : a.length = b.length
    · rw [hl]; simp
    · rw [eqb_len hl]; simp
  rw [e]
  exact Ev.andThen (Ev.bind (z01_ev a b hk hb) Ev.pure)
theorem z11_ev (a b : Level) (hk : a.bulk < lim) : Ev (fun n => z11 n a b) (eqb a b) := by
  have h1 := a.vars_len
  refine Ev.fn (fun n => by simp only [z11, z11_e]; exact rfl) ?_
  rw [eqb_Level]
  cases hc : (a.const == b.const) with
  | false =>
    have e : (a.const != b.const) = true := by simp only [bne, hc, Bool.not_false]
    simp only [e, cond_true, Bool.false_and]
    exact Ev.pure
  | true =>
    have e : (a.const != b.const) = false := by simp only [bne, hc, Bool.not_true]
    simp only [e, cond_false, Bool.true_and]
    by_cases hl : a.vars.length = b.vars.length
    · have e : ((a.vars.length : Int) != (b.vars.length : Int)) = false := by rw [intlen, hl]; simp
      simp only [e, cond_false]
      refine Ev.of2 (F := fun n m => z11_l1 n m 0 a b) ?_
      refine Ev2.same (L := fun n m i => z11_l1 n m i a b) a.vars b.vars hl ?_ ?_
      · intro i hi hj r hr
        refine Ev2.lp (fun n m => by simp only [z11_l1, z11_b1]; exact rfl) ?_
        simp only [hi, Int.ofNat_lt, decide_true, cond_true]
        rw [wrap_next (by unfold lim at hk; omega), eqb_LevelVar]
        exact Ev2.idx hi (Ev2.idx hj (Ev2.andThen hr))
      · refine Ev2.lp (fun n m => by simp only [z11_l1, z11_b1]; exact rfl) ?_
        simp only [Int.lt_irrefl, decide_false, cond_false]
        exact Ev2.pure
    · have e : ((a.vars.length : Int) != (b.vars.length : Int)) = true := by rw [intlen]; simpa using hl
      simp only [e, cond_true]
      rw [eqb_len hl]
      exact Ev.pure
theorem z0a_ev (a b : List Level) (hk : a.length < lim) (hb : ∀ l ∈ a, l.bulk < lim) : Ev (fun n => z0a n a b) (eqb a b) := by
  refine Ev.fn (fun n => by simp only [z0a, z0a_e]; exact rfl) ?_
  by_cases hl : a.length = b.length
  · have e : ((a.length : Int) != (b.length : Int)) = false := by rw [intlen, hl]; simp
    simp only [e, cond_false]
    refine Ev.of2 (F := fun n m => z0a_l1 n m a b 0) ?_
    refine Ev2.same (L := fun n m i => z0a_l1 n m a b i) a b hl ?_ ?_
    · intro i hi hj r hr
      refine Ev2.lp (fun n m => by simp only [z0a_l1, z0a_b1]; exact rfl) ?_
      simp only [hi, Int.ofNat_lt, decide_true, cond_true]
      rw [wrap_next (by unfold lim at hk; omega)]
      exact Ev2.idx hi (Ev2.idx hj (Ev2.bind1 (z11_ev _ _ (hb _ (List.getElem_mem hi))) (Ev2.andThen hr)))
    · refine Ev2.lp (fun n m => by simp only [z0a_l1, z0a_b1]; exact rfl) ?_
      simp only [Int.lt_irrefl, decide_false, cond_false]
      exact Ev2.pure
  · have e : ((a.length : Int) != (b.length : Int)) = true := by rw [intlen]; simpa using hl
    simp only [e, cond_true]
    rw [eqb_len hl]
    exact Ev.pure
theorem Ev.orElse {F : Nat → Option Bool} {c : Bool} {r : Bool} (h : Ev F r) : Ev (fun n => bif !c then some false else F n) (c && r) := by
  cases c with
  | true => exact h
  | false => exact Ev.pure
theorem z14_ev : ∀ (a b : Term), a.bulk < lim → Ev (fun n => z14 n a b) (eqb a b) := by
  intro a
  induction h : a.bulk using Nat.strongRecOn generalizing a with
  | ind k ih =>
    intro b hk
    have h1 := a.kids_len
    have h2 := a.levels_len
    refine Ev.fn (fun n => by simp only [z14, z14_e]; exact rfl) ?_
    rw [eqb_Term]
    refine Ev.orElse (Ev.orElse (Ev.andThen (Ev.bind (z0a_ev _ _ (by omega) ?_) (Ev.andThen ?_))))
    · intro l hl; have := a.level_lt hl; omega
    · by_cases hl : a.kids.length = b.kids.length
      · have e : ((a.kids.length : Int) != (b.kids.length : Int)) = false := by rw [intlen, hl]; simp
        simp only [e, cond_false]
        refine Ev.of2 (F := fun n m => z14_l1 (z14 n) n m 0 a b) ?_
        refine Ev2.same (L := fun n m i => z14_l1 (z14 n) n m i a b) a.kids b.kids hl ?_ ?_
        · intro i hi hj r hr
          refine Ev2.lp (fun n m => by simp only [z14_l1, z14_b1]; exact rfl) ?_
          simp only [hi, Int.ofNat_lt, decide_true, cond_true]
          have := a.kid_lt (List.getElem_mem hi)
          rw [wrap_next (by unfold lim at hk; omega)]
          exact Ev2.idx hi (Ev2.idx hj (Ev2.bind1 (ih _ (by omega) _ rfl _ (by omega)) (Ev2.andThen hr)))
        · refine Ev2.lp (fun n m => by simp only [z14_l1, z14_b1]; exact rfl) ?_
          simp only [Int.lt_irrefl, decide_false, cond_false]
          exact Ev2.pure
      · have e : ((a.kids.length : Int) != (b.kids.length : Int)) = true := by rw [intlen]; simpa using hl
        simp only [e, cond_true]
        rw [eqb_len hl]
        exact Ev.pure
theorem z0d_ev (a b : List Term) (hk : a.length < lim) (hb : ∀ x ∈ a, x.bulk < lim) : Ev (fun n => z0d n a b) (eqb a b) := by
  refine Ev.fn (fun n => by simp only [z0d, z0d_e]; exact rfl) ?_
  by_cases hl : a.length = b.length
  · have e : ((a.length : Int) != (b.length : Int)) = false := by rw [intlen, hl]; simp
    simp only [e, cond_false]
    refine Ev.of2 (F := fun n m => z0d_l1 n m a b 0) ?_
    refine Ev2.same (L := fun n m i => z0d_l1 n m a b i) a b hl ?_ ?_
    · intro i hi hj r hr
      refine Ev2.lp (fun n m => by simp only [z0d_l1, z0d_b1]; exact rfl) ?_
      simp only [hi, Int.ofNat_lt, decide_true, cond_true]
      rw [wrap_next (by unfold lim at hk; omega)]
      exact Ev2.idx hi (Ev2.idx hj (Ev2.bind1 (z14_ev _ _ (hb _ (List.getElem_mem hi))) (Ev2.andThen hr)))
    · refine Ev2.lp (fun n m => by simp only [z0d_l1, z0d_b1]; exact rfl) ?_
      simp only [Int.lt_irrefl, decide_false, cond_false]
      exact Ev2.pure
  · have e : ((a.length : Int) != (b.length : Int)) = true := by rw [intlen]; simpa using hl
    simp only [e, cond_true]
    rw [eqb_len hl]
    exact Ev.pure
end Go.Abs
namespace Go.Abs
set_option linter.unusedVariables false
set_option linter.unusedSimpArgs false
abbrev cap : Nat := 1048640
theorem kids2_bulk {t x y : Term} (h : t.kids = [x, y]) : x.bulk + y.bulk < t.bulk := by
  rw [Term.bulk_eq t, h]; simp only [sumB]; omega
theorem room80 {k : Nat} (h : k ≤ cap * 2) : decide ((k + 1) * 80 ≤ 17592186044416) = true := by
  simp only [cap] at h; simp only [decide_eq_true_eq]; omega
theorem rev_loop : ∀ (k : Nat) (pre mid suf : List Term), mid.length = k → pre.length + k < lim → Ev2 (fun n m => z07_l1 n m pre.length ((pre.length : Int) + mid.length - 1) (pre ++ (mid ++ suf))) ((pre ++ (mid.reverse ++ suf), ()), ()) := by
  intro k
  induction k using Nat.strongRecOn with
  | ind k ih =>
    intro pre mid suf hk hlim
    refine Ev2.lp (fun n m => by simp only [z07_l1, z07_b1]; exact rfl) ?_
    match mid, hk with
    | [], hk =>
      have : decide ((pre.length : Int) < (pre.length : Int) + ([] : List Term).length - 1) = false := by simp; omega
      simp only [this, cond_false]
      exact Ev2.pure
    | [x], hk =>
      have : decide ((pre.length : Int) < (pre.length : Int) + ([x] : List Term).length - 1) = false := by simp
      simp only [this, cond_false]
      exact Ev2.pure
    | x :: y' :: rest, hk =>
      obtain ⟨mid', y, hy⟩ : ∃ mid' y, y' :: rest = mid' ++ [y] := ⟨(y' :: rest).dropLast, (y' :: rest).getLast (by simp), (List.dropLast_concat_getLast (by simp)).symm⟩
      rw [hy] at hk ⊢
      simp only [List.length_cons, List.length_append, List.length_nil] at hk
      have hd : decide ((pre.length : Int) < (pre.length : Int) + (x :: (mid' ++ [y])).length - 1) = true := by simp only [List.length_cons, List.length_append, List.length_nil, decide_eq_true_eq]; omega
      have e1 : ((pre.length : Int) + (x :: (mid' ++ [y])).length - 1) = ((pre.length + mid'.length + 1 : Nat) : Int) := by simp only [List.length_cons, List.length_append, List.length_nil]; omega
      have g1 : (pre ++ (x :: (mid' ++ [y]) ++ suf))[pre.length + mid'.length + 1]? = some y := by
        rw [List.getElem?_append_right (by omega)]
        have : pre.length + mid'.length + 1 - pre.length = mid'.length + 1 := by omega
        rw [this]
        simp
      have g0 : (pre ++ (x :: (mid' ++ [y]) ++ suf))[pre.length]? = some x := by
        rw [List.getElem?_append_right (by omega)]; simp
      have s0 : (pre ++ (x :: (mid' ++ [y]) ++ suf)).set pre.length y = pre ++ (y :: (mid' ++ [y]) ++ suf) := by
        rw [List.set_append_right _ _ (by omega)]; simp
      have g2 : (pre ++ (y :: (mid' ++ [y]) ++ suf))[pre.length + mid'.length + 1]? = some y := by
        rw [List.getElem?_append_right (by omega)]
        have : pre.length + mid'.length + 1 - pre.length = mid'.length + 1 := by omega
        rw [this]
        simp
      have s1 : (pre ++ (y :: (mid' ++ [y]) ++ suf)).set (pre.length + mid'.length + 1) x = (pre ++ [y]) ++ (mid' ++ (x :: suf)) := by
        rw [List.set_append_right _ _ (by omega)]
        have : pre.length + mid'.length + 1 - pre.length = mid'.length + 1 := by omega
        rw [this]
        simp only [List.cons_append, List.set_cons_succ, List.append_assoc]
        rw [List.set_append_right _ _ (by omega)]
        simp
      rw [e1] at hd
      simp only [e1]
      simp only [hd, cond_true]
      have n0 : (0 : Int) ≤ ((pre.length + mid'.length + 1 : Nat) : Int) := by omega
      have n1 : (0 : Int) ≤ (pre.length : Int) := by omega
      simp only [idxA, n0, n1, if_true, Int.toNat_natCast, g1, g0, g2, s0, s1, Option.bind_some]
      have w1 : IntKind.i64.wrap ((pre.length : Int) + 1) = ((pre ++ [y]).length : Int) := by
        unfold lim at hlim
        rw [wrap_next (by omega)]; simp
      have w2 : IntKind.i64.wrap (((pre.length + mid'.length + 1 : Nat) : Int) - 1) = ((pre ++ [y]).length : Int) + mid'.length - 1 := by
        unfold lim at hlim
        rw [wrap_small (by omega) (by omega)]; simp; omega
      rw [w1, w2]
      have := ih mid'.length (by omega) (pre ++ [y]) mid' (x :: suf) rfl (by simp; omega)
      have e : pre ++ ((x :: (mid' ++ [y])).reverse ++ suf) = (pre ++ [y]) ++ (mid'.reverse ++ (x :: suf)) := by simp
      rw [e]
      exact this
theorem z07_ev (r : List Term) (h : r.length < lim) : Ev (fun n => z07 n r) ((r.reverse, ()), ()) := by
  refine Ev.fn (fun n => by simp only [z07, z07_e]; exact rfl) ?_
  have := rev_loop r.length [] r [] rfl (by simpa using h)
  simp only [List.nil_append, List.append_nil, List.length_nil] at this
  have w : IntKind.i64.wrap ((r.length : Int) - 1) = (0 : Nat) + (r.length : Int) - 1 := by unfold lim at h; rw [wrap_small (by omega) (by omega)]; omega
  rw [w]
  exact Ev.of2 this
end Go.Abs
namespace Go.Abs
set_option linter.unusedVariables false
set_option linter.unusedSimpArgs false
def varsT (k : Nat) (f : Int) : List Term := (List.range k).map fun (i : Nat) => Term.mk 0 (f + k - 1 - i) [] [] []
theorem varsT_len (k : Nat) (f : Int) : (varsT k f).length = k := by simp [varsT]
theorem varsT_get (k : Nat) (f : Int) (i : Nat) (h : i < k) : (varsT k f)[i]? = some (Term.mk 0 (f + k - 1 - i) [] [] []) := by simp [varsT, h]
theorem varsT_take (k : Nat) (f : Int) (i : Nat) (h : i < k) : (varsT k f).take (i + 1) = (varsT k f).take i ++ [Term.mk 0 (f + k - 1 - i) [] [] []] := by
  rw [List.take_add_one, varsT_get k f i h]; rfl
def someVars (k : Nat) (f : Int) : List Term := if k < 1 ∨ 4096 < k ∨ f < 0 then [] else varsT k f
theorem Vars_ev (k : Nat) (f : Int) (hf : f ≤ 4611686018427387904) : Ev (fun n => z0e n k f) (someVars k f) ∧ Ev (fun n => z17 n k f) (someVars k f) := by
  by_cases h1 : k < 1
  · have d : decide ((k : Int) < 1) = true := by simp; omega
    have e : someVars k f = [] := by simp [someVars, h1]
    rw [e]
    constructor
    · refine Ev.fn (fun n => by simp only [z0e, z0e_e]; exact rfl) ?_
      simp only [d, cond_true]; exact Ev.pure
    · refine Ev.fn (fun n => by simp only [z17, z17_e]; exact rfl) ?_
      simp only [d, cond_true]; exact Ev.pure
  have d1 : decide ((k : Int) < 1) = false := by simp; omega
  by_cases h2 : 4096 < k
  · have d : decide ((4096 : Int) < k) = true := by simp; omega
    have e : someVars k f = [] := by simp [someVars, h2]
    rw [e]
    constructor
    · refine Ev.fn (fun n => by simp only [z0e, z0e_e]; exact rfl) ?_
      simp only [d1, d, cond_true, cond_false]; exact Ev.pure
    · refine Ev.fn (fun n => by simp only [z17, z17_e]; exact rfl) ?_
      simp only [d1, d, cond_true, cond_false]; exact Ev.pure
  have d2 : decide ((4096 : Int) < k) = false := by simp; omega
  by_cases h3 : f < 0
  · have d : decide (f < 0) = true := by simpa using h3
    have e : someVars k f = [] := by simp [someVars, h3]
    rw [e]
    constructor
    · refine Ev.fn (fun n => by simp only [z0e, z0e_e]; exact rfl) ?_
      simp only [d1, d2, d, cond_true, cond_false]; exact Ev.pure
    · refine Ev.fn (fun n => by simp only [z17, z17_e]; exact rfl) ?_
      simp only [d1, d2, d, cond_true, cond_false]; exact Ev.pure
  have d3 : decide (f < 0) = false := by simpa using h3
  have e : someVars k f = varsT k f := by simp only [someVars]; rw [if_neg (by omega)]
  rw [e]
  constructor
  · refine Ev.fn (fun n => by simp only [z0e, z0e_e]; exact rfl) ?_
    have d4 : decide ((0 : Int) ≤ k) = true := by simp
    have d5 : decide (k * 80 ≤ 17592186044416) = true := by simp; omega
    have d6 : decide ((k : Int) < 2 ^ 62) = true := by simp; omega
    have d7 : (k == 0) = false := by simp; omega
    simp only [d1, d2, d3, d4, d5, d6, d7, cond_true, cond_false, Int.toNat_natCast]
    refine Tot.ev ?_
    refine Tot.of2 (F := fun n m => z0e_l1 n m k f k 0 (List.replicate k (Term.mk 0 0 [] [] []))) ?_
    refine Tot2.up (S := List Term) (L := fun n m i s => z0e_l1 n m k f k i s) k (fun i s => s = (varsT k f).take i ++ List.replicate (k - i) (Term.mk 0 0 [] [] [])) (· = varsT k f) ?_ ?_ 0 _ (by omega) (by simp)
    · intro i s hi hs next
      refine Tot2.lp (fun n m => by simp only [z0e_l1, z0e_b1]; exact rfl) ?_
      have hlt : ((varsT k f).take i).length = i := by rw [List.length_take, varsT_len]; omega
      have hlen : s.length = k := by rw [hs, List.length_append, hlt, List.length_replicate]; omega
      have hi' : i < s.length := by omega
      simp only [hi, Int.ofNat_lt, decide_true, cond_true, idxA_at hi', Option.bind_some, Int.toNat_natCast, List.getElem?_eq_getElem hi', hi']
      rw [wrap_next (by omega), wrap_small (n := f + (k : Int)) (by omega) (by omega), wrap_small (n := f + (k : Int) - 1) (by omega) (by omega), wrap_small (n := f + (k : Int) - 1 - i) (by omega) (by omega)]
      refine next _ ?_
      rw [hs, List.set_append_right _ _ (by omega), hlt, Nat.sub_self, varsT_take k f i hi]
      have : k - i = (k - (i + 1)) + 1 := by omega
      rw [this, List.replicate_succ, List.set_cons_zero]
      simp
    · intro s hs
      refine Tot2.lp (fun n m => by simp only [z0e_l1, z0e_b1]; exact rfl) ?_
      simp only [Int.lt_irrefl, decide_false, cond_false]
      refine Tot2.pure ?_
      rw [hs]
      have : (varsT k f).take k = varsT k f := by rw [List.take_of_length_le]; rw [varsT_len]; omega
      rw [this]; simp
  · refine Ev.fn (fun n => by simp only [z17, z17_e]; exact rfl) ?_
    simp only [d1, d2, d3, cond_false]
    rw [wrap_small (by omega) (by omega)]
    have key : ∀ j : Nat, j ≤ k → Ev2 (fun n m => z17_l1 n m f ((j : Int) - 1) ((varsT k f).take (k - j))) (varsT k f) := by
      intro j
      induction j with
      | zero =>
        intro _
        refine Ev2.lp (fun n m => by simp only [z17_l1, z17_b1]; exact rfl) ?_
        have : decide ((0 : Int) ≤ ((0 : Nat) : Int) - 1) = false := by simp
        simp only [this, cond_false]
        have e : (varsT k f).take (k - 0) = varsT k f := by rw [List.take_of_length_le]; rw [varsT_len]; omega
        rw [e]
        exact Ev2.pure
      | succ j ih =>
        intro hj
        refine Ev2.lp (fun n m => by simp only [z17_l1, z17_b1]; exact rfl) ?_
        have d : decide ((0 : Int) ≤ ((j + 1 : Nat) : Int) - 1) = true := by simp
        have hlt : ((varsT k f).take (k - (j + 1))).length = k - (j + 1) := by rw [List.length_take, varsT_len]; omega
        have hroom := room80 (k := ((varsT k f).take (k - (j + 1))).length) (by rw [hlt]; simp only [cap]; omega)
        simp only [d, cond_true, hroom]
        rw [wrap_small (n := f + (((j + 1 : Nat) : Int) - 1)) (by omega) (by omega), wrap_small (n := ((j + 1 : Nat) : Int) - 1 - 1) (by omega) (by omega)]
        have := ih (by omega)
        have e1 : k - j = (k - (j + 1)) + 1 := by omega
        rw [e1, varsT_take k f _ (by omega)] at this
        have e2 : f + (k : Int) - 1 - ((k - (j + 1) : Nat) : Int) = f + (((j + 1 : Nat) : Int) - 1) := by omega
        have e3 : ((j : Nat) : Int) - 1 = ((j + 1 : Nat) : Int) - 1 - 1 := by omega
        rw [e2, e3] at this
        exact this
    have := key k (Nat.le_refl _)
    rw [Nat.sub_self, List.take_zero] at this
    exact Ev.of2 this
def ownLevels (p : Nat) : List Level := (List.range p).map fun (i : Nat) => { const := 0, vars := [{ index := i, plus := 0 }] }
theorem ownLevels_succ (p : Nat) : ownLevels (p + 1) = ownLevels p ++ [{ const := 0, vars := [{ index := p, plus := 0 }] }] := by
  simp [ownLevels, List.range_succ]
theorem ownLevels_len (p : Nat) : (ownLevels p).length = p := by simp [ownLevels]
theorem z0g_ev (s : Str) (p : Nat) (h : p ≤ 8) : Ev (fun n => z0g n s p) (Term.mk 3 0 s (ownLevels p) []) := by
  refine Ev.fn (fun n => by simp only [z0g, z0g_e]; exact rfl) ?_
  refine Tot.ev ?_
  refine Tot.of2 (F := fun n m => z0g_l1 n m p 0 3 s []) ?_
  refine Tot2.up (S := List Level) (L := fun n m i r => z0g_l1 n m p i 3 s r) p (fun i r => r = ownLevels i) (· = Term.mk 3 0 s (ownLevels p) []) ?_ ?_ 0 _ (by omega) rfl
  · intro i r hi hr next
    refine Tot2.lp (fun n m => by simp only [z0g_l1, z0g_b1]; exact rfl) ?_
    have hroom : decide ((r.length + 1) * 32 ≤ 17592186044416) = true := by rw [hr, ownLevels_len]; simp; omega
    simp only [hi, Int.ofNat_lt, decide_true, cond_true, hroom]
    rw [wrap_next (by omega)]
    refine next _ ?_
    rw [hr, ownLevels_succ]
  · intro r hr
    refine Tot2.lp (fun n m => by simp only [z0g_l1, z0g_b1]; exact rfl) ?_
    simp only [Int.lt_irrefl, decide_false, cond_false]
    rw [hr]
    exact Tot2.pure rfl
theorem z1d_ev (i : Nat) (h : i < 8) : Ev (fun n => z1d n i 0) ({ const := 0, vars := [{ index := i, plus := 0 }] }, 0) := by
  refine Ev.fn (fun n => by simp only [z1d, z1d_e]; exact rfl) ?_
  have a : decide ((i : Int) < -65536) = false := decide_eq_false (by omega)
  have b : decide ((8 : Int) ≤ i) = false := by simp; omega
  have c : decide ((0 : Int) < 0) = false := rfl
  have d : decide ((100 : Int) < 0) = false := rfl
  simp only [a, b, c, d, cond_false]
  exact Ev.pure
theorem z0m_ev (p : Nat) (h : p ≤ 8) : Ev (fun n => z0m n p) (ownLevels p) := by
  refine Ev.fn (fun n => by simp only [z0m, z0m_e]; exact rfl) ?_
  refine Tot.ev ?_
  refine Tot.of2 (F := fun n m => z0m_l1 n m p 0 []) ?_
  refine Tot2.up (S := List Level) (L := fun n m i r => z0m_l1 n m p i r) p (fun i r => r = ownLevels i) (· = ownLevels p) ?_ ?_ 0 _ (by omega) rfl
  · intro i r hi hr next
    refine Tot2.lp (fun n m => by simp only [z0m_l1, z0m_b1]; exact rfl) ?_
    have hroom : decide ((r.length + 1) * 32 ≤ 17592186044416) = true := by rw [hr, ownLevels_len]; simp; omega
    simp only [hi, Int.ofNat_lt, decide_true, cond_true, hroom]
    rw [wrap_next (by omega)]
    refine Tot2.bind1 (Ev.tot (Q := fun x => x = ({ const := 0, vars := [{ index := i, plus := 0 }] }, 0)) (z1d_ev i (by omega)) rfl) fun x hx => ?_
    subst hx
    refine next _ ?_
    rw [hr, ownLevels_succ]
  · intro r hr
    refine Tot2.lp (fun n m => by simp only [z0m_l1, z0m_b1]; exact rfl) ?_
    simp only [Int.lt_irrefl, decide_false, cond_false]
    exact Tot2.pure hr
theorem z1g_ev (s : Str) (p : Nat) (h : p ≤ 8) : Ev (fun n => z1g n s p) (Term.mk 3 0 s (ownLevels p) []) := by
  refine Ev.fn (fun n => by simp only [z1g, z1g_e]; exact rfl) ?_
  exact Ev.bind (z0m_ev p h) Ev.pure
end Go.Abs
namespace Go.Abs
set_option maxRecDepth 100000
theorem awake_k (k : Nat) : z0q (k + 60) = some true := by kernel_rfl
end Go.Abs
namespace Go.Abs
set_option linter.unusedVariables false
set_option linter.unusedSimpArgs false
noncomputable def allT (t : Term) : List Term × Term :=
  if h : t.kind = 6 ∧ t.kids.length = 2 then
    (t.kids[0]'(by omega) :: (allT (t.kids[1]'(by omega))).1, (allT (t.kids[1]'(by omega))).2)
  else ([], t)
termination_by t.bulk
decreasing_by all_goals exact Term.kid_lt (List.getElem_mem _)
theorem allT_pi {t x y : Term} (h : t.kind = 6) (hk : t.kids = [x, y]) : allT t = (x :: (allT y).1, (allT y).2) := by
  rw [allT, dif_pos ⟨h, by rw [hk]; rfl⟩]
  simp only [hk, List.getElem_cons_zero, List.getElem_cons_succ]
theorem allT_not {t : Term} (h : ¬ (t.kind = 6 ∧ t.kids.length = 2)) : allT t = ([], t) := by
  rw [allT, dif_neg h]
noncomputable def spineT (t : Term) : Term × List Term :=
  if h : t.kind = 4 ∧ t.kids.length = 2 then
    ((spineT (t.kids[0]'(by omega))).1, (spineT (t.kids[0]'(by omega))).2 ++ [t.kids[1]'(by omega)])
  else (t, [])
termination_by t.bulk
decreasing_by all_goals exact Term.kid_lt (List.getElem_mem _)
theorem spineT_app {t x y : Term} (h : t.kind = 4) (hk : t.kids = [x, y]) : spineT t = ((spineT x).1, (spineT x).2 ++ [y]) := by
  rw [spineT, dif_pos ⟨h, by rw [hk]; rfl⟩]
  simp only [hk, List.getElem_cons_zero, List.getElem_cons_succ]
theorem spineT_not {t : Term} (h : ¬ (t.kind = 4 ∧ t.kids.length = 2)) : spineT t = (t, []) := by
  rw [spineT, dif_neg h]
theorem len2 {t : Term} (h : t.kids.length = 2) : ∃ x y, t.kids = [x, y] := by
  match hk : t.kids, h with
  | [x, y], _ => exact ⟨x, y, rfl⟩
theorem beq2 (t : Term) (k : Int) (h : ¬ (t.kind = k ∧ t.kids.length = 2)) : (t.kind == k) = false ∨ ((t.kind == k) = true ∧ ((t.kids.length : Int) == 2) = false) := by
  by_cases h1 : t.kind = k
  · refine .inr ⟨by simp [h1], ?_⟩
    rw [beq_eq_false_iff_ne]; intro e; exact h ⟨h1, by omega⟩
  · exact .inl (by simpa using h1)
theorem allT_loop : ∀ (t : Term) (acc : List Term), acc.length + t.bulk ≤ cap * 2 → Ev2 (fun n m => z0k_l1 n m t acc) (acc ++ (allT t).1, (allT t).2) ∧ Ev2 (fun n m => z1e_l1 n m t acc) (acc ++ (allT t).1, (allT t).2) := by
  intro t
  induction h : t.bulk using Nat.strongRecOn generalizing t with
  | ind k ih =>
    intro acc ha
    by_cases hc : t.kind = 6 ∧ t.kids.length = 2
    · obtain ⟨x, y, hxy⟩ := len2 hc.2
      have hb := kids2_bulk hxy
      have h2 := ih y.bulk (by omega) y rfl (acc ++ [x]) (by have := x.bulk_pos; simp only [List.length_append, List.length_singleton]; omega)
      rw [List.append_assoc, List.singleton_append] at h2
      have i0 : idxA t.kids 0 = some x := by rw [hxy]; rfl
      have i1 : idxA t.kids 1 = some y := by rw [hxy]; rfl
      have hroom := room80 (k := acc.length) (by omega)
      have e1 : (t.kind == 6) = true := by simp [hc.1]
      have e2 : ((t.kids.length : Int) == 2) = true := by simp [hc.2]
      rw [allT_pi hc.1 hxy]
      refine ⟨?_, ?_⟩
      · refine Ev2.lp (fun n m => by simp only [z0k_l1, z0k_b1]; exact rfl) ?_
        simp only [e1, e2, cond_true, i0, i1, Option.bind_some, hroom]
        exact h2.1
      · refine Ev2.lp (fun n m => by simp only [z1e_l1, z1e_b1]; exact rfl) ?_
        simp only [e1, e2, cond_true, i0, i1, Option.bind_some, hroom]
        exact h2.2
    · rw [allT_not hc, List.append_nil]
      refine ⟨?_, ?_⟩
      · refine Ev2.lp (fun n m => by simp only [z0k_l1, z0k_b1]; exact rfl) ?_
        rcases beq2 t 6 hc with e | ⟨e, e'⟩
        · simp only [e, cond_false]; exact Ev2.pure
        · simp only [e, e', cond_true, cond_false]; exact Ev2.pure
      · refine Ev2.lp (fun n m => by simp only [z1e_l1, z1e_b1]; exact rfl) ?_
        rcases beq2 t 6 hc with e | ⟨e, e'⟩
        · simp only [e, cond_false]; exact Ev2.pure
        · simp only [e, e', cond_true, cond_false]; exact Ev2.pure
theorem All_sem (t : Term) (ht : t.bulk ≤ cap) : Ev (fun n => z0k n t) (allT t) ∧ Ev (fun n => z1e n t) (allT t) := by
  have := allT_loop t [] (by simp only [List.length_nil]; omega)
  simp only [List.nil_append] at this
  constructor
  · refine Ev.fn (fun n => by simp only [z0k, z0k_e]; exact rfl) ?_
    exact Ev.of2 this.1
  · refine Ev.fn (fun n => by simp only [z1e, z1e_e]; exact rfl) ?_
    exact Ev.of2 this.2
theorem allT_bulk : ∀ t : Term, sumB Term.bulk (allT t).1 + (allT t).2.bulk ≤ t.bulk + 1 := by
  intro t
  induction h : t.bulk using Nat.strongRecOn generalizing t with
  | ind k ih =>
    by_cases hc : t.kind = 6 ∧ t.kids.length = 2
    · obtain ⟨x, y, hxy⟩ := len2 hc.2
      have hb := kids2_bulk hxy
      have := ih y.bulk (by omega) y rfl
      rw [allT_pi hc.1 hxy]
      simp only [sumB]; omega
    · rw [allT_not hc]; simp only [sumB]; omega
theorem spineT_bulk : ∀ t : Term, sumB Term.bulk (spineT t).2 + (spineT t).1.bulk ≤ t.bulk + 1 := by
  intro t
  induction h : t.bulk using Nat.strongRecOn generalizing t with
  | ind k ih =>
    by_cases hc : t.kind = 4 ∧ t.kids.length = 2
    · obtain ⟨x, y, hxy⟩ := len2 hc.2
      have hb := kids2_bulk hxy
      have := ih x.bulk (by omega) x rfl
      rw [spineT_app hc.1 hxy]
      have e : ∀ xs : List Term, sumB Term.bulk (xs ++ [y]) = sumB Term.bulk xs + y.bulk := by
        intro xs
        induction xs with
        | nil => simp only [List.nil_append, sumB]; omega
        | cons z zs ih => simp only [List.cons_append, sumB, ih]; omega
      simp only [e]; omega
    · rw [spineT_not hc]; simp only [sumB]; omega
theorem Spine_sem (t : Term) (ht : t.bulk ≤ cap) : Ev (fun n => z0b n t) (spineT t) ∧ Ev (fun n => z0i n t) (((spineT t).2, ()), (spineT t).1, ()) := by
  have key : ∀ (t : Term), t.bulk ≤ cap → (∀ acc : List Term, acc.length + t.bulk ≤ cap * 2 → Ev2 (fun n m => z0b_l1 n m t acc) ((spineT t).1, (spineT t).2 ++ acc.reverse)) ∧ Ev (fun n => z0i n t) (((spineT t).2, ()), (spineT t).1, ()) := by
    intro t
    induction h : t.bulk using Nat.strongRecOn generalizing t with
    | ind k ih =>
      intro hcap
      by_cases hc : t.kind = 4 ∧ t.kids.length = 2
      · obtain ⟨x, y, hxy⟩ := len2 hc.2
        have hb := kids2_bulk hxy
        obtain ⟨hr, hs⟩ := ih x.bulk (by omega) x rfl (by omega)
        have i0 : idxA t.kids 0 = some x := by rw [hxy]; rfl
        have i1 : idxA t.kids 1 = some y := by rw [hxy]; rfl
        have e1 : (t.kind == 4) = true := by simp [hc.1]
        have e2 : ((t.kids.length : Int) == 2) = true := by simp [hc.2]
        have hsb := spineT_bulk x
        rw [spineT_app hc.1 hxy]
        refine ⟨fun acc ha => ?_, ?_⟩
        · have h2 := hr (acc ++ [y]) (by have := y.bulk_pos; simp only [List.length_append, List.length_singleton]; omega)
          have hroom := room80 (k := acc.length) (by omega)
          refine Ev2.lp (fun n m => by simp only [z0b_l1, z0b_b1]; exact rfl) ?_
          simp only [e1, e2, cond_true, i0, i1, Option.bind_some, hroom]
          simpa only [List.reverse_append, List.reverse_cons, List.reverse_nil, List.nil_append, List.append_assoc] using h2
        · refine Ev.fn (fun n => by simp only [z0i, z0i_e]; exact rfl) ?_
          simp only [bne, e1, e2, Bool.not_true, cond_false, i0, i1, Option.bind_some]
          have hlen := sumB_len Term.bulk_pos (spineT x).2
          have hroom := room80 (k := (spineT x).2.length) (by omega)
          refine Ev.bind hs ?_
          simp only [hroom, cond_true]
          exact Ev.pure
      · rw [spineT_not hc]
        refine ⟨fun acc ha => ?_, ?_⟩
        · refine Ev2.lp (fun n m => by simp only [z0b_l1, z0b_b1]; exact rfl) ?_
          have hrev := z07_ev acc (by unfold lim; simp only [cap] at ha; omega)
          rcases beq2 t 4 hc with e | ⟨e, e'⟩
          · simp only [e, cond_false]
            exact Ev2.bind1 hrev (by simp only [List.length_reverse, if_true, beq_self_eq_true, Bool.true_or, cond_true, Term.mapO_cells, Option.bind_some, List.nil_append]; exact Ev2.pure)
          · simp only [e, e', cond_true, cond_false]
            exact Ev2.bind1 hrev (by simp only [List.length_reverse, if_true, beq_self_eq_true, Bool.true_or, cond_true, Term.mapO_cells, Option.bind_some, List.nil_append]; exact Ev2.pure)
        · refine Ev.fn (fun n => by simp only [z0i, z0i_e]; exact rfl) ?_
          rcases beq2 t 4 hc with e | ⟨e, e'⟩
          · simp only [bne, e, Bool.not_false, cond_true]; exact Ev.pure
          · simp only [bne, e, e', Bool.not_true, Bool.not_false, cond_true, cond_false]; exact Ev.pure
  obtain ⟨h1, h2⟩ := key t ht
  refine ⟨?_, h2⟩
  refine Ev.fn (fun n => by simp only [z0b, z0b_e]; exact rfl) ?_
  have := h1 [] (by simp only [List.length_nil]; omega)
  rw [List.reverse_nil, List.append_nil] at this
  exact Ev.of2 this
def TL (xs : List Term) : Prop := xs.length ≤ cap ∧ ∀ x ∈ xs, x.bulk ≤ cap
theorem TL.take {xs : List Term} (h : TL xs) (n : Nat) : TL (xs.take n) := ⟨by have := h.1; rw [List.length_take]; omega, fun x hx => h.2 x (List.mem_of_mem_take hx)⟩
theorem TL.drop {xs : List Term} (h : TL xs) (n : Nat) : TL (xs.drop n) := ⟨by have := h.1; rw [List.length_drop]; omega, fun x hx => h.2 x (List.mem_of_mem_drop hx)⟩
theorem TL.lim {xs : List Term} (h : TL xs) : xs.length < lim ∧ ∀ x ∈ xs, x.bulk < lim := by
  refine ⟨?_, fun x hx => ?_⟩
  · have := h.1; simp only [cap] at this; unfold Go.Abs.lim; omega
  · have := h.2 x hx; simp only [cap] at this; unfold Go.Abs.lim; omega
theorem lim_of_cap {n : Nat} (h : n ≤ cap) : n < lim := by simp only [cap] at h; unfold lim; omega
theorem allT_tl (t : Term) (ht : t.bulk ≤ cap) : TL (allT t).1 ∧ (allT t).2.bulk ≤ cap := by
  have hb := allT_bulk t
  have hp := (allT t).2.bulk_pos
  have hs := sumB_pos (bk := Term.bulk) (allT t).1
  have hl := sumB_len Term.bulk_pos (allT t).1
  refine ⟨⟨by omega, fun x hx => ?_⟩, by omega⟩
  have := sumB_mem (f := Term.bulk) hx
  omega
theorem spineT_tl (t : Term) (ht : t.bulk ≤ cap) : TL (spineT t).2 ∧ (spineT t).1.bulk ≤ cap := by
  have hb := spineT_bulk t
  have hp := (spineT t).1.bulk_pos
  have hs := sumB_pos (bk := Term.bulk) (spineT t).2
  have hl := sumB_len Term.bulk_pos (spineT t).2
  refine ⟨⟨by omega, fun x hx => ?_⟩, by omega⟩
  have := sumB_mem (f := Term.bulk) hx
  omega
inductive Fine : Term → Prop
  | mk (t : Term) (h : t.kind = 6 ∨ t.kind = 4 → t.kids.length = 2 ∧ t.index = 0 ∧ t.name = [] ∧ t.levels = []) (hk : ∀ k, k ∈ t.kids → Fine k) : Fine t
theorem Fine.bare {t : Term} (h : Fine t) : t.kind = 6 ∨ t.kind = 4 → t.kids.length = 2 ∧ t.index = 0 ∧ t.name = [] ∧ t.levels = [] := by cases h with | mk _ h _ => exact h
theorem Fine.kid {t : Term} (h : Fine t) : ∀ k, k ∈ t.kids → Fine k := by cases h with | mk _ _ h => exact h
end Go.Abs
namespace Go.Abs
set_option linter.unusedVariables false
set_option linter.unusedSimpArgs false
noncomputable def resultT (own : Term) (params : List Term) (k : Nat) (t : Term) (last : Int) : List Term × Bool :=
  bif (spineT t).2.length == params.length + k && (eqb (spineT t).1 own && eqb ((spineT t).2.take params.length) (someVars params.length last)) then ((spineT t).2.drop params.length, true) else ([], false)
theorem result_sem (own : Term) (params : List Term) (k : Nat) (t : Term) (last : Int) (ht : t.bulk ≤ cap) (hp : params.length ≤ cap) (hk : k ≤ cap) (hl : last ≤ 4611686018427387904) :
    Ev (fun n => z06 n ⟨own, params, k⟩ t last) (resultT own params k t last) ∧ Ev (fun n => z0o n own t params.length last k) (resultT own params k t last) := by
  obtain ⟨h1, h2⟩ := Spine_sem t ht
  obtain ⟨hc, hh⟩ := spineT_tl t ht
  generalize hs : spineT t = s at h1 h2 hc hh
  obtain ⟨h, c⟩ := s
  simp only at h1 h2 hc hh
  have hs1 := z1h_ev h own (lim_of_cap hh)
  have hs2 := z14_ev h own (lim_of_cap hh)
  obtain ⟨hv1, hv2⟩ := Vars_ev params.length last hl
  have ha1 := z02_ev (c.take params.length) (someVars params.length last) (hc.take _).lim.1 (hc.take _).lim.2
  have ha2 := z0d_ev (c.take params.length) (someVars params.length last) (hc.take _).lim.1 (hc.take _).lim.2
  have hw : IntKind.i64.wrap ((params.length : Int) + k) = ((params.length + k : Nat) : Int) := by
    simp only [cap] at hp hk
    rw [wrap_small (by omega) (by omega)]; omega
  simp only [resultT, hs]
  by_cases hlen : c.length = params.length + k
  · have e0 : (c.length == params.length + k) = true := by simp [hlen]
    have e1 : ((c.length : Int) != ((params.length + k : Nat) : Int)) = false := by rw [hlen]; simp
    have d1 : decide ((params.length : Int) ≤ c.length ∧ (c.length : Int) ≤ c.length) = true := decide_eq_true ⟨by omega, by omega⟩
    have d2 : decide ((0 : Int) ≤ params.length ∧ (params.length : Int) ≤ c.length ∧ (c.length : Int) ≤ c.length) = true := decide_eq_true ⟨by omega, by omega, by omega⟩
    cases hso : eqb h own with
    | false =>
      rw [hso] at hs1 hs2
      simp only [e0, Bool.true_and, Bool.false_and, cond_false]
      refine ⟨?_, ?_⟩
      · refine Ev.fn (fun n => by simp only [z06, z06_e]; exact rfl) ?_
        refine Ev.bind h1 ?_
        simp only [hw, e1, cond_false]
        exact Ev.bind hs1 Ev.pure
      · refine Ev.fn (fun n => by simp only [z0o, z0o_e]; exact rfl) ?_
        refine Ev.bind h2 (Ev.bind hs2 Ev.pure)
    | true =>
      rw [hso] at hs1 hs2
      cases hal : eqb (c.take params.length) (someVars params.length last) with
      | false =>
        rw [hal] at ha1 ha2
        simp only [e0, Bool.true_and, cond_false]
        refine ⟨?_, ?_⟩
        · refine Ev.fn (fun n => by simp only [z06, z06_e]; exact rfl) ?_
          refine Ev.bind h1 ?_
          simp only [hw, e1, cond_false]
          refine Ev.bind hs1 ?_
          simp only [cond_true, d1]
          exact Ev.bind hv1 (Ev.bind ha1 Ev.pure)
        · refine Ev.fn (fun n => by simp only [z0o, z0o_e]; exact rfl) ?_
          refine Ev.bind h2 (Ev.bind hs2 ?_)
          simp only [hw, e1, cond_true, cond_false, d2, Int.toNat_natCast]
          exact Ev.bind hv2 (Ev.bind ha2 Ev.pure)
      | true =>
        rw [hal] at ha1 ha2
        simp only [e0, Bool.true_and, cond_true]
        refine ⟨?_, ?_⟩
        · refine Ev.fn (fun n => by simp only [z06, z06_e]; exact rfl) ?_
          refine Ev.bind h1 ?_
          simp only [hw, e1, cond_false]
          refine Ev.bind hs1 ?_
          simp only [cond_true, d1, List.take_length]
          exact Ev.bind hv1 (Ev.bind ha1 Ev.pure)
        · refine Ev.fn (fun n => by simp only [z0o, z0o_e]; exact rfl) ?_
          refine Ev.bind h2 (Ev.bind hs2 ?_)
          simp only [hw, e1, cond_true, cond_false, d2, Int.toNat_natCast, List.take_length]
          exact Ev.bind hv2 (Ev.bind ha2 Ev.pure)
  · have e0 : (c.length == params.length + k) = false := by simpa using hlen
    have e1 : ((c.length : Int) != ((params.length + k : Nat) : Int)) = true := by rw [bne_iff_ne]; omega
    simp only [e0, Bool.false_and, cond_false]
    refine ⟨?_, ?_⟩
    · refine Ev.fn (fun n => by simp only [z06, z06_e]; exact rfl) ?_
      refine Ev.bind h1 ?_
      simp only [hw, e1, cond_true]
      exact Ev.pure
    · refine Ev.fn (fun n => by simp only [z0o, z0o_e]; exact rfl) ?_
      refine Ev.bind h2 (Ev.bind hs2 ?_)
      simp only [hw, e1, cond_true]
      cases eqb h own <;> exact Ev.pure
theorem room56 {k : Nat} (h : k ≤ cap) : decide ((k + 1) * 56 ≤ 17592186044416) = true := by
  simp only [cap] at h; simp only [decide_eq_true_eq]; omega
theorem room88 {k : Nat} (h : k ≤ cap) : decide ((k + 1) * 88 ≤ 17592186044416) = true := by
  simp only [cap] at h; simp only [decide_eq_true_eq]; omega
noncomputable def recsT (own : Term) (params : List Term) (k : Nat) : Nat → List Term → List Zs5
  | _, [] => []
  | i, t :: ts =>
    bif (resultT own params k (allT t).2 ((i + (allT t).1.length : Nat) : Int)).2 then
      { field := i, args := (allT t).1, results := (resultT own params k (allT t).2 ((i + (allT t).1.length : Nat) : Int)).1 } :: recsT own params k (i + 1) ts
    else recsT own params k (i + 1) ts
theorem recs_sem (own : Term) (params : List Term) (k : Nat) (name : Str) (fields results : List Term) (hf : TL fields) (hp : params.length ≤ cap) (hk : k ≤ cap) :
    Ev (fun n => z03 n ⟨own, params, k⟩ fields) (recsT own params k 0 fields) ∧
      Ev (fun n => z19_l1 n n params.length k 0 own name fields results []) ({ name := name, fields := fields, recu := recsT own params k 0 fields, results := results }, true) := by
  have key : ∀ (d i : Nat) (acc : List Zs5), d + i = fields.length → acc.length ≤ i →
      Ev2 (fun n m => z03_l1 n m fields fields.length i ⟨own, params, k⟩ acc) (acc ++ recsT own params k i (fields.drop i)) ∧
      Ev2 (fun n m => z19_l1 n m params.length k i own name fields results acc) ({ name := name, fields := fields, recu := acc ++ recsT own params k i (fields.drop i), results := results }, true) := by
    intro d
    induction d with
    | zero =>
      intro i acc hi ha
      obtain rfl : i = fields.length := by omega
      rw [List.drop_length]
      simp only [recsT, List.append_nil]
      refine ⟨?_, ?_⟩
      · refine Ev2.lp (fun n m => by simp only [z03_l1, z03_b1]; exact rfl) ?_
        simp only [Int.lt_irrefl, decide_false, cond_false]
        exact Ev2.pure
      · refine Ev2.lp (fun n m => by simp only [z19_l1, z19_b1]; exact rfl) ?_
        simp only [Int.lt_irrefl, decide_false, cond_false]
        exact Ev2.pure
    | succ d ih =>
      intro i acc hi ha
      have hi' : i < fields.length := by omega
      have hlen := hf.1
      obtain ⟨hr1, hr2⟩ := All_sem fields[i] (hf.2 _ (List.getElem_mem hi'))
      obtain ⟨htl, hrb⟩ := allT_tl fields[i] (hf.2 _ (List.getElem_mem hi'))
      have hcap := htl.1
      have hw : IntKind.i64.wrap ((i : Int) + (allT fields[i]).1.length) = ((i + (allT fields[i]).1.length : Nat) : Int) := by
        simp only [cap] at hlen hcap
        rw [wrap_small (by omega) (by omega)]; omega
      obtain ⟨hq1, hq2⟩ := result_sem own params k (allT fields[i]).2 ((i + (allT fields[i]).1.length : Nat) : Int) hrb hp hk (by simp only [cap] at hlen hcap; omega)
      have hnext : IntKind.i64.wrap ((i : Int) + 1) = ((i + 1 : Nat) : Int) := wrap_next (by simp only [cap] at hlen; omega)
      have hroom := room56 (k := acc.length) (by omega)
      rw [List.drop_eq_getElem_cons hi']
      simp only [recsT]
      cases hb : (resultT own params k (allT fields[i]).2 ((i + (allT fields[i]).1.length : Nat) : Int)).2 with
      | true =>
        obtain ⟨h1, h2⟩ := ih (i + 1) (acc ++ [{ field := i, args := (allT fields[i]).1, results := (resultT own params k (allT fields[i]).2 ((i + (allT fields[i]).1.length : Nat) : Int)).1 }]) (by omega) (by simp; omega)
        simp only [List.append_assoc, List.singleton_append] at h1 h2
        simp only [cond_true]
        refine ⟨?_, ?_⟩
        · refine Ev2.lp (fun n m => by simp only [z03_l1, z03_b1]; exact rfl) ?_
          simp only [hi', Int.ofNat_lt, decide_true, cond_true]
          refine Ev2.idx hi' (Ev2.bind1 hr1 ?_)
          simp only [hw]
          refine Ev2.bind1 hq1 ?_
          simp only [hb, cond_true, hroom, hnext]
          exact h1
        · refine Ev2.lp (fun n m => by simp only [z19_l1, z19_b1]; exact rfl) ?_
          simp only [hi', Int.ofNat_lt, decide_true, cond_true]
          refine Ev2.idx hi' (Ev2.bind1 hr2 ?_)
          simp only [hw]
          refine Ev2.bind1 hq2 ?_
          simp only [hb, cond_true, hroom, hnext]
          exact h2
      | false =>
        obtain ⟨h1, h2⟩ := ih (i + 1) acc (by omega) (by omega)
        simp only [cond_false]
        refine ⟨?_, ?_⟩
        · refine Ev2.lp (fun n m => by simp only [z03_l1, z03_b1]; exact rfl) ?_
          simp only [hi', Int.ofNat_lt, decide_true, cond_true]
          refine Ev2.idx hi' (Ev2.bind1 hr1 ?_)
          simp only [hw]
          refine Ev2.bind1 hq1 ?_
          simp only [hb, cond_false, hnext]
          exact h1
        · refine Ev2.lp (fun n m => by simp only [z19_l1, z19_b1]; exact rfl) ?_
          simp only [hi', Int.ofNat_lt, decide_true, cond_true]
          refine Ev2.idx hi' (Ev2.bind1 hr2 ?_)
          simp only [hw]
          refine Ev2.bind1 hq2 ?_
          simp only [hb, cond_false, hnext]
          exact h2
  obtain ⟨h1, h2⟩ := key fields.length 0 [] (by omega) (by simp)
  simp only [List.nil_append, List.drop_zero] at h1 h2
  refine ⟨?_, Ev.of2 h2⟩
  refine Ev.fn (fun n => by simp only [z03, z03_e]; exact rfl) ?_
  exact Ev.of2 h1
def noCtor : Zs4 := { name := [], fields := [], recu := [], results := [] }
noncomputable def ctorT (own : Term) (params : List Term) (k : Nat) (c : Ctor) : Zs4 × Bool :=
  bif decide ((allT c.type).1.length < params.length) then (noCtor, false) else
  bif eqb ((allT c.type).1.take params.length) params then
    bif (resultT own params k (allT c.type).2 (((allT c.type).1.drop params.length).length : Int)).2 then
      ({ name := c.name, fields := (allT c.type).1.drop params.length, recu := recsT own params k 0 ((allT c.type).1.drop params.length),
         results := (resultT own params k (allT c.type).2 (((allT c.type).1.drop params.length).length : Int)).1 }, true)
    else (noCtor, false)
  else (noCtor, false)
theorem ctor_sem (own : Term) (fam : Family) (c : Ctor) (p : Nat) (hlv : fam.levels = p) (hp8 : p ≤ 8) (hown : own = Term.mk 3 0 fam.name (ownLevels p) []) (hc : c.type.bulk ≤ cap) (hp : TL fam.params) (hk : fam.indices.length ≤ cap) :
    Ev (fun n => z08 n ⟨own, fam.params, fam.indices.length⟩ c) (ctorT own fam.params fam.indices.length c) ∧ Ev (fun n => z19 n fam c) (ctorT own fam.params fam.indices.length c) := by
  obtain ⟨hr1, hr2⟩ := All_sem c.type hc
  obtain ⟨htl, hrb⟩ := allT_tl c.type hc
  have hOwn := z1g_ev fam.name p hp8
  rw [← hlv, ← hown] at hOwn
  have hcap := htl.1
  by_cases hlen : (allT c.type).1.length < fam.params.length
  · have d : decide (((allT c.type).1.length : Int) < (fam.params.length : Int)) = true := decide_eq_true (by omega)
    have d' : decide ((allT c.type).1.length < fam.params.length) = true := decide_eq_true hlen
    simp only [ctorT, d', cond_true]
    refine ⟨?_, ?_⟩
    · refine Ev.fn (fun n => by simp only [z08, z08_e]; exact rfl) ?_
      refine Ev.bind hr1 ?_
      simp only [d, cond_true]
      exact Ev.pure
    · refine Ev.fn (fun n => by simp only [z19, z19_e]; exact rfl) ?_
      refine Ev.bind hOwn (Ev.bind hr2 ?_)
      simp only [d, cond_true]
      exact Ev.pure
  have d' : decide ((allT c.type).1.length < fam.params.length) = false := decide_eq_false hlen
  have d0 : decide (((allT c.type).1.length : Int) < (fam.params.length : Int)) = false := decide_eq_false (by omega)
  have d1 : decide ((fam.params.length : Int) ≤ (allT c.type).1.length ∧ ((allT c.type).1.length : Int) ≤ (allT c.type).1.length) = true := decide_eq_true ⟨by omega, by omega⟩
  have ha1 := z02_ev ((allT c.type).1.take fam.params.length) fam.params (htl.take _).lim.1 (htl.take _).lim.2
  have ha2 := z0d_ev ((allT c.type).1.take fam.params.length) fam.params (htl.take _).lim.1 (htl.take _).lim.2
  cases hal : eqb ((allT c.type).1.take fam.params.length) fam.params with
  | false =>
    rw [hal] at ha1 ha2
    simp only [ctorT, d', hal, cond_false]
    refine ⟨?_, ?_⟩
    · refine Ev.fn (fun n => by simp only [z08, z08_e]; exact rfl) ?_
      refine Ev.bind hr1 ?_
      simp only [d0, d1, cond_true, cond_false]
      exact Ev.bind ha1 Ev.pure
    · refine Ev.fn (fun n => by simp only [z19, z19_e]; exact rfl) ?_
      refine Ev.bind hOwn (Ev.bind hr2 ?_)
      simp only [d0, d1, cond_true, cond_false]
      exact Ev.bind ha2 Ev.pure
  | true =>
    rw [hal] at ha1 ha2
    have hfl := (htl.drop fam.params.length).1
    obtain ⟨hq1, hq2⟩ := result_sem own fam.params fam.indices.length (allT c.type).2 (((allT c.type).1.drop fam.params.length).length : Int) hrb hp.1 hk (by simp only [cap] at hfl; omega)
    cases hb : (resultT own fam.params fam.indices.length (allT c.type).2 (((allT c.type).1.drop fam.params.length).length : Int)).2 with
    | false =>
      simp only [ctorT, d', hal, hb, cond_true, cond_false]
      refine ⟨?_, ?_⟩
      · refine Ev.fn (fun n => by simp only [z08, z08_e]; exact rfl) ?_
        refine Ev.bind hr1 ?_
        simp only [d0, d1, cond_true, cond_false, List.take_length]
        refine Ev.bind ha1 (Ev.bind hq1 ?_)
        simp only [hb, cond_false]
        exact Ev.pure
      · refine Ev.fn (fun n => by simp only [z19, z19_e]; exact rfl) ?_
        refine Ev.bind hOwn (Ev.bind hr2 ?_)
        simp only [d0, d1, cond_true, cond_false, List.take_length]
        refine Ev.bind ha2 (Ev.bind hq2 ?_)
        simp only [hb, cond_false]
        exact Ev.pure
    | true =>
      obtain ⟨g1, g2⟩ := recs_sem own fam.params fam.indices.length c.name ((allT c.type).1.drop fam.params.length) (resultT own fam.params fam.indices.length (allT c.type).2 (((allT c.type).1.drop fam.params.length).length : Int)).1 (htl.drop _) hp.1 hk
      simp only [ctorT, d', hal, hb, cond_true, cond_false]
      refine ⟨?_, ?_⟩
      · refine Ev.fn (fun n => by simp only [z08, z08_e]; exact rfl) ?_
        refine Ev.bind hr1 ?_
        simp only [d0, d1, cond_true, cond_false, List.take_length]
        refine Ev.bind ha1 (Ev.bind hq1 ?_)
        simp only [hb, cond_true]
        exact Ev.bind g1 Ev.pure
      · refine Ev.fn (fun n => by simp only [z19, z19_e]; exact rfl) ?_
        refine Ev.bind hOwn (Ev.bind hr2 ?_)
        simp only [d0, d1, cond_true, cond_false, List.take_length]
        refine Ev.bind ha2 (Ev.bind hq2 ?_)
        simp only [hb, cond_true]
        exact g2
end Go.Abs
namespace Go.Abs
set_option linter.unusedVariables false
set_option linter.unusedSimpArgs false
theorem Term.eta_mk (t : Term) : Term.mk t.kind t.index t.name t.levels t.kids = t := by cases t; rfl
def noFam : Family := { name := [], levels := 0, params := [], indices := [], sort := Term.mk 0 0 [] [] [], ctors := [] }
theorem Ctor.bulk_pos (x : Ctor) : 1 ≤ x.bulk := by rw [Ctor.bulk]; omega
theorem Fun.bulk_pos (x : Fun) : 1 ≤ x.bulk := by rw [Fun.bulk]; omega
theorem Decl.ctor_le {d : Decl} {c : Ctor} (h : c ∈ d.ctors) : c.type.bulk ≤ d.bulk ∧ c.name.length ≤ d.bulk := by
  have := sumB_mem (f := Ctor.bulk) h
  rw [Ctor.bulk] at this
  rw [Decl.bulk]
  omega
theorem Decl.ctors_len (d : Decl) : d.ctors.length ≤ d.bulk := by
  have := sumB_len Ctor.bulk_pos d.ctors
  rw [Decl.bulk]; omega
noncomputable def ctorsT (own : Term) (params : List Term) (k : Nat) : List Ctor → Option (List Zs4)
  | [] => some []
  | c :: cs => bif (ctorT own params k c).2 then (ctorsT own params k cs).map ((ctorT own params k c).1 :: ·) else none
noncomputable def analyseT (d : Decl) : Family × Int :=
  bif d.kind != 3 then (noFam, 1) else
  bif decide (d.fixed < 0) || (decide ((allT d.type).1.length < d.fixed) || !((allT d.type).2.kind == 1 || (allT d.type).2.kind == 2)) then (noFam, 3) else
  match ctorsT (Term.mk 3 0 d.name (ownLevels d.params.toNat) []) ((allT d.type).1.take d.fixed.toNat) ((allT d.type).1.drop d.fixed.toNat).length d.ctors with
  | some cs => ({ name := d.name, levels := d.params, params := (allT d.type).1.take d.fixed.toNat, indices := (allT d.type).1.drop d.fixed.toNat, sort := (allT d.type).2, ctors := cs }, 0)
  | none => (noFam, 3)
theorem loop_sem (d : Decl) (hd : d.bulk ≤ cap) (name : Str) (p : Nat) (hp : p ≤ 8) (params indices : List Term) (sort : Term) (h1 : TL params) (h2 : TL indices) (h3 : sort.bulk ≤ cap) (r : Family × Int)
    (hr : r = match ctorsT (Term.mk 3 0 name (ownLevels p) []) params indices.length d.ctors with
      | some cs => ({ name := name, levels := p, params := params, indices := indices, sort := sort, ctors := cs }, 0)
      | none => (noFam, 3)) :
    Ev (fun n => z0c_l1 n n d.ctors d.ctors.length 0 name p params indices sort.kind sort.index sort.name sort.levels sort.kids ⟨Term.mk 3 0 name (ownLevels p) [], params, indices.length⟩ []) r ∧
      Ev (fun n => z0j_l1 n n 0 d name p params indices sort.kind sort.index sort.name sort.levels sort.kids []) r := by
  have hlen := d.ctors_len
  have key : ∀ (k i : Nat) (acc : List Zs4), k + i = d.ctors.length → acc.length ≤ i → ∀ r : Family × Int,
      (r = match ctorsT (Term.mk 3 0 name (ownLevels p) []) params indices.length (d.ctors.drop i) with
        | some cs => ({ name := name, levels := p, params := params, indices := indices, sort := sort, ctors := acc ++ cs }, 0)
        | none => (noFam, 3)) →
      Ev2 (fun n m => z0c_l1 n m d.ctors d.ctors.length i name p params indices sort.kind sort.index sort.name sort.levels sort.kids ⟨Term.mk 3 0 name (ownLevels p) [], params, indices.length⟩ acc) r ∧
      Ev2 (fun n m => z0j_l1 n m i d name p params indices sort.kind sort.index sort.name sort.levels sort.kids acc) r := by
    intro k
    induction k with
    | zero =>
      intro i acc hi ha r hr
      obtain rfl : i = d.ctors.length := by omega
      rw [List.drop_length] at hr
      simp only [ctorsT, List.append_nil] at hr
      subst hr
      refine ⟨?_, ?_⟩
      · refine Ev2.lp (fun n m => by simp only [z0c_l1, z0c_b1]; exact rfl) ?_
        simp only [Int.lt_irrefl, decide_false, cond_false, Term.eta_mk]
        exact Ev2.pure
      · refine Ev2.lp (fun n m => by simp only [z0j_l1, z0j_b1]; exact rfl) ?_
        simp only [Int.lt_irrefl, decide_false, cond_false, Term.eta_mk]
        exact Ev2.pure
    | succ k ih =>
      intro i acc hi ha r hr
      have hi' : i < d.ctors.length := by omega
      have hct := (Decl.ctor_le (List.getElem_mem hi')).1
      obtain ⟨q1, q2⟩ := ctor_sem (Term.mk 3 0 name (ownLevels p) []) { name := name, levels := p, params := params, indices := indices, sort := sort, ctors := acc } d.ctors[i] p rfl hp rfl (by omega) h1 h2.1
      have hroom := room88 (k := acc.length) (by omega)
      have hnext : IntKind.i64.wrap ((i : Int) + 1) = ((i + 1 : Nat) : Int) := wrap_next (by simp only [cap] at hd; omega)
      rw [List.drop_eq_getElem_cons hi'] at hr
      simp only [ctorsT] at hr
      cases hb : (ctorT (Term.mk 3 0 name (ownLevels p) []) params indices.length d.ctors[i]).2 with
      | false =>
        rw [hb] at hr
        simp only [cond_false] at hr
        subst hr
        refine ⟨?_, ?_⟩
        · refine Ev2.lp (fun n m => by simp only [z0c_l1, z0c_b1]; exact rfl) ?_
          simp only [hi', Int.ofNat_lt, decide_true, cond_true]
          refine Ev2.idx hi' (Ev2.bind1 q1 ?_)
          simp only [hb, cond_false]
          exact Ev2.pure
        · refine Ev2.lp (fun n m => by simp only [z0j_l1, z0j_b1]; exact rfl) ?_
          simp only [hi', Int.ofNat_lt, decide_true, cond_true, Term.eta_mk]
          refine Ev2.idx hi' (Ev2.bind1 q2 ?_)
          simp only [hb, cond_false]
          exact Ev2.pure
      | true =>
        rw [hb] at hr
        simp only [cond_true] at hr
        obtain ⟨r1, r2⟩ := ih (i + 1) (acc ++ [(ctorT (Term.mk 3 0 name (ownLevels p) []) params indices.length d.ctors[i]).1]) (by omega) (by simp; omega) r (by
          rw [hr]
          cases ctorsT (Term.mk 3 0 name (ownLevels p) []) params indices.length (d.ctors.drop (i + 1)) with
          | none => rfl
          | some cs => simp)
        refine ⟨?_, ?_⟩
        · refine Ev2.lp (fun n m => by simp only [z0c_l1, z0c_b1]; exact rfl) ?_
          simp only [hi', Int.ofNat_lt, decide_true, cond_true]
          refine Ev2.idx hi' (Ev2.bind1 q1 ?_)
          simp only [hb, cond_true, hroom, hnext]
          exact r1
        · refine Ev2.lp (fun n m => by simp only [z0j_l1, z0j_b1]; exact rfl) ?_
          simp only [hi', Int.ofNat_lt, decide_true, cond_true, Term.eta_mk]
          refine Ev2.idx hi' (Ev2.bind1 q2 ?_)
          simp only [hb, cond_true, hroom, hnext]
          exact r2
  obtain ⟨r1, r2⟩ := key d.ctors.length 0 [] (by omega) (by simp) r (by simpa using hr)
  exact ⟨Ev.of2 r1, Ev.of2 r2⟩
theorem Analyse_sem (d : Decl) (hd : d.bulk ≤ cap) (hp0 : 0 ≤ d.params) (hp8 : d.params ≤ 8) : Ev (fun n => z0c n d) (analyseT d) ∧ Ev (fun n => z0j n d) (analyseT d) := by
  have ht : d.type.bulk ≤ cap := by rw [Decl.bulk] at hd; omega
  obtain ⟨hr1, hr2⟩ := All_sem d.type ht
  obtain ⟨htl, hrb⟩ := allT_tl d.type ht
  obtain ⟨p, hp⟩ : ∃ p : Nat, d.params = p := ⟨d.params.toNat, by omega⟩
  have hpp : d.params.toNat = p := by omega
  by_cases hk : d.kind ≠ 3
  · have e : (d.kind != 3) = true := by rw [bne_iff_ne]; exact hk
    simp only [analyseT, e, cond_true]
    refine ⟨?_, ?_⟩
    · refine Ev.fn (fun n => by simp only [z0c, z0c_e]; exact rfl) ?_
      simp only [e, cond_true]
      exact Ev.pure
    · refine Ev.fn (fun n => by simp only [z0j, z0j_e]; exact rfl) ?_
      simp only [e, cond_true]
      exact Ev.pure
  have hk : d.kind = 3 := Classical.not_not.1 hk
  have e0 : (d.kind != 3) = false := by rw [hk]; rfl
  by_cases hf : d.fixed < 0
  · have e : decide (d.fixed < 0) = true := decide_eq_true hf
    simp only [analyseT, e0, e, Bool.true_or, cond_true, cond_false]
    refine ⟨?_, ?_⟩
    · refine Ev.fn (fun n => by simp only [z0c, z0c_e]; exact rfl) ?_
      simp only [e0, cond_false]
      refine Ev.bind hr1 ?_
      simp only [e, cond_true]
      exact Ev.pure
    · refine Ev.fn (fun n => by simp only [z0j, z0j_e]; exact rfl) ?_
      simp only [e0, cond_false]
      refine Ev.bind hr2 ?_
      simp only [e, cond_true]
      exact Ev.pure
  have e1 : decide (d.fixed < 0) = false := decide_eq_false hf
  by_cases hg : ((allT d.type).1.length : Int) < d.fixed
  · have e : decide (((allT d.type).1.length : Int) < d.fixed) = true := decide_eq_true hg
    simp only [analyseT, e0, e1, e, Bool.true_or, Bool.false_or, cond_true, cond_false]
    refine ⟨?_, ?_⟩
    · refine Ev.fn (fun n => by simp only [z0c, z0c_e]; exact rfl) ?_
      simp only [e0, cond_false]
      refine Ev.bind hr1 ?_
      simp only [e1, e, cond_true, cond_false]
      exact Ev.pure
    · refine Ev.fn (fun n => by simp only [z0j, z0j_e]; exact rfl) ?_
      simp only [e0, cond_false]
      refine Ev.bind hr2 ?_
      simp only [e1, e, cond_true, cond_false]
      exact Ev.pure
  have e2 : decide (((allT d.type).1.length : Int) < d.fixed) = false := decide_eq_false hg
  have e3 : decide (0 ≤ d.fixed ∧ d.fixed ≤ (allT d.type).1.length ∧ ((allT d.type).1.length : Int) ≤ (allT d.type).1.length) = true := decide_eq_true ⟨by omega, by omega, by omega⟩
  have hsort : Ev (fun n => z1a n (allT d.type).2) ((allT d.type).2.kind == 1 || (allT d.type).2.kind == 2) := by
    refine Ev.fn (fun n => by simp only [z1a, z1a_e]; exact rfl) ?_
    cases (allT d.type).2.kind == 1 <;> exact Ev.pure
  obtain ⟨q1, q2⟩ := loop_sem d hd d.name p (by omega) ((allT d.type).1.take d.fixed.toNat) ((allT d.type).1.drop d.fixed.toNat) (allT d.type).2 (htl.take _) (htl.drop _) hrb _ rfl
  have hit := z0g_ev d.name p (by omega)
  rw [← hp] at q1 q2 hit
  rw [← hpp] at q1 q2 hit
  cases hs : ((allT d.type).2.kind == 1 || (allT d.type).2.kind == 2) with
  | false =>
    rw [hs] at hsort
    simp only [analyseT, e0, e1, e2, hs, Bool.false_or, Bool.not_false, cond_true, cond_false]
    rw [Bool.or_eq_false_iff] at hs
    refine ⟨?_, ?_⟩
    · refine Ev.fn (fun n => by simp only [z0c, z0c_e]; exact rfl) ?_
      simp only [e0, cond_false]
      refine Ev.bind hr1 ?_
      simp only [e1, e2, bne, hs.1, hs.2, Bool.not_false, cond_true, cond_false]
      exact Ev.pure
    · refine Ev.fn (fun n => by simp only [z0j, z0j_e]; exact rfl) ?_
      simp only [e0, cond_false]
      refine Ev.bind hr2 ?_
      simp only [e1, e2, cond_false]
      refine Ev.bind hsort ?_
      simp only [cond_false]
      exact Ev.pure
  | true =>
    rw [hs] at hsort
    simp only [analyseT, e0, e1, e2, hs, Bool.false_or, Bool.not_true, cond_false]
    refine ⟨?_, ?_⟩
    · refine Ev.fn (fun n => by simp only [z0c, z0c_e]; exact rfl) ?_
      simp only [e0, cond_false]
      refine Ev.bind hr1 ?_
      cases hs1 : (allT d.type).2.kind == 1 with
      | true =>
        simp only [e1, e2, e3, bne, hs1, Bool.not_true, cond_true, cond_false, List.take_length]
        exact Ev.bind hit q1
      | false =>
        rw [hs1, Bool.false_or] at hs
        simp only [e1, e2, e3, bne, hs1, hs, Bool.not_true, Bool.not_false, cond_true, cond_false, List.take_length]
        exact Ev.bind hit q1
    · refine Ev.fn (fun n => by simp only [z0j, z0j_e]; exact rfl) ?_
      simp only [e0, cond_false]
      refine Ev.bind hr2 ?_
      simp only [e1, e2, cond_false]
      refine Ev.bind hsort ?_
      simp only [e3, cond_true, List.take_length]
      exact q2
end Go.Abs
namespace Go.Abs
set_option linter.unusedVariables false
set_option linter.unusedSimpArgs false
theorem z12_fine (k : Int) : Tot (fun n => z12 n k) (fun x => k = 6 ∨ k = 4 → x = 2) := by
  refine Tot.fn (fun n => by simp only [z12, z12_e]; exact rfl) ?_
  refine Tot.cnd (fun _ => Tot.pure fun _ => rfl) fun h1 => ?_
  refine Tot.cnd (fun _ => Tot.pure fun _ => rfl) fun _ => ?_
  refine Tot.cnd (fun _ => Tot.pure fun _ => rfl) fun h2 => ?_
  refine Tot.imp (P := Yes) ?_ fun _ _ h => ?_
  · (repeat' (first | exact Tot.pure trivial | exact Tot2.pure trivial | refine Tot.cnd (fun _ => ?_) (fun _ => ?_) | refine Tot2.cnd (fun _ => ?_) (fun _ => ?_)))
  · rw [beq_eq_false_iff_ne] at h1 h2
    rcases h with h | h <;> contradiction
theorem z16_fine (t : Term) : Tot (fun n => z16 n t) (fun r => r = true → t.kind = 6 ∨ t.kind = 4 → t.kids.length = 2 ∧ t.index = 0 ∧ t.name = [] ∧ t.levels = []) := by
  refine Tot.fn (fun n => by simp only [z16, z16_e]; exact rfl) ?_
  refine Tot.cnd (fun _ => Tot.pure (by simp)) fun _ => Tot.cnd (fun _ => Tot.pure (by simp)) fun _ => ?_
  refine Tot.bind (z12_fine _) fun x hx => ?_
  refine Tot.cnd (fun _ => Tot.pure (by simp)) fun hl => ?_
  have h2 : t.kind = 6 ∨ t.kind = 4 → t.kids.length = 2 := by
    intro h
    have := hx h
    subst this
    have h2 := bne_eq_false_iff_eq.1 hl
    omega
  (repeat' (refine Tot.cnd (fun _ => ?_) (fun _ => ?_)))
  all_goals refine Tot.pure fun hr hk => ?_
  all_goals refine ⟨h2 hk, ?_⟩
  all_goals clear h2 hl hx
  all_goals rcases hk with hk | hk <;> simp_all
theorem z0z_fine : ∀ (t : Term) (a b c d e : Int), t.bulk < lim → Tot (fun n => z0z n t a b c d e) (fun r => r = 0 → Fine t) := by
  intro t
  induction h : t.bulk using Nat.strongRecOn generalizing t with
  | ind k ih =>
    intro a b c d e hk
    have hl := t.kids_len
    have hl2 := t.levels_len
    have hl3 := t.name_len
    refine Tot.fn (fun n => by simp only [z0z, z0z_e]; exact rfl) ?_
    have k1 : (t.kind = 6 ∨ t.kind = 4 → t.kids.length = 2 ∧ t.index = 0 ∧ t.name = [] ∧ t.levels = []) → Tot (fun n => z0z_l1 (z0z n) n n a b c d e 0 t) (fun r => r = 0 → Fine t) := by
      intro hf
      refine Tot.of2 (F := fun n m => z0z_l1 (z0z n) n m a b c d e 0 t) ?_
      refine Tot2.up (S := Unit) (L := fun n m i s => z0z_l1 (z0z n) n m a b c d e i t) t.kids.length (fun i _ => ∀ j (hj : j < t.kids.length), j < i → Fine t.kids[j]) (fun r => r = 0 → Fine t) ?_ ?_ 0 () (by omega) (fun j _ h => by omega)
      · intro i s hi hI next
        refine Tot2.lp (fun n m => by simp only [z0z_l1, z0z_b1]; exact rfl) ?_
        simp only [hi, Int.ofNat_lt, decide_true, cond_true]
        refine Tot2.idx hi ?_
        have hm := t.kid_lt (List.getElem_mem hi)
        rw [wrap_next (by unfold lim at hk; omega)]
        refine Tot2.bind1 (z0w_tot _ _) fun x _ => ?_
        refine Tot2.bind1 (ih _ (by omega) _ rfl _ _ _ _ _ (by omega)) fun x hx => ?_
        refine Tot2.cnd (fun hc => Tot2.pure fun h0 => ?_) fun hc => ?_
        · subst h0; simp at hc
        · refine next s fun j hj hlt => ?_
          rcases Nat.lt_succ_iff_lt_or_eq.1 hlt with h | rfl
          · exact hI j hj h
          · exact hx (bne_eq_false_iff_eq.1 hc)
      · intro s hI
        refine Tot2.lp (fun n m => by simp only [z0z_l1, z0z_b1]; exact rfl) ?_
        simp only [Int.lt_irrefl, decide_false, cond_false]
        refine Tot2.pure fun _ => Fine.mk t hf fun k hk => ?_
        obtain ⟨j, hj, rfl⟩ := List.getElem_of_mem hk
        exact hI j hj hj
    have k2 : (t.kind = 6 ∨ t.kind = 4 → t.kids.length = 2 ∧ t.index = 0 ∧ t.name = [] ∧ t.levels = []) → Tot (fun n => z0z_l2 (z0z n) n n a b c d e 0 t) (fun r => r = 0 → Fine t) := by
      intro hf
      refine Tot.of2 (F := fun n m => z0z_l2 (z0z n) n m a b c d e 0 t) ?_
      refine Tot2.up (S := Unit) (L := fun n m i s => z0z_l2 (z0z n) n m a b c d e i t) t.levels.length (fun _ _ => True) (fun r => r = 0 → Fine t) ?_ ?_ 0 () (by omega) trivial
      · intro i s hi _ next
        refine Tot2.lp (fun n m => by simp only [z0z_l2, z0z_b2]; exact rfl) ?_
        simp only [hi, Int.ofNat_lt, decide_true, cond_true]
        refine Tot2.idx hi ?_
        have hm := t.level_lt (List.getElem_mem hi)
        rw [wrap_next (by unfold lim at hk; omega)]
        refine Tot2.bind1 (z10_tot _ _ _ (by omega)) fun x _ => ?_
        refine Tot2.cnd (fun hc => Tot2.pure fun h0 => ?_) fun hc => ?_
        · subst h0; simp at hc
        · exact next s trivial
      · intro s _
        refine Tot2.lp (fun n m => by simp only [z0z_l2, z0z_b2]; exact rfl) ?_
        simp only [Int.lt_irrefl, decide_false, cond_false]
        (repeat' (first | exact Tot2.pure (by simp) | refine Tot2.cnd (fun _ => ?_) (fun _ => ?_)))
        all_goals exact Tot2.of1 (k1 hf)
    refine Tot.bind (z16_fine _) fun x hx => ?_
    refine Tot.cnd (fun hc => ?_) fun hc => Tot.pure (by simp)
    subst hc
    have hf := hx rfl
    refine Tot.cnd (fun _ => ?_) fun _ => ?_
    · refine Tot.bind (z13_tot _ (by omega)) fun x _ => ?_
      (repeat' (first | exact Tot.pure (by simp) | refine Tot.cnd (fun _ => ?_) (fun _ => ?_)))
      exact k2 hf
    · (repeat' (first | exact Tot.pure (by simp) | refine Tot.cnd (fun _ => ?_) (fun _ => ?_)))
      exact k2 hf
theorem z0x_fine (t : Term) (a b c d : Int) (hk : t.bulk < lim) : Tot (fun n => z0x n t a b c d) (fun r => r = 0 → Fine t) := by
  refine Tot.fn (fun n => by simp only [z0x, z0x_e]; exact rfl) ?_
  refine Tot.bind (z0z_fine _ _ _ _ _ _ hk) fun x hx => ?_
  refine Tot.cnd (fun hc => Tot.pure fun h0 => ?_) fun hc => ?_
  · subst h0; simp at hc
  have hf := hx (bne_eq_false_iff_eq.1 hc)
  refine Tot.imp (P := Yes) ?_ fun _ _ _ => hf
  refine Tot.bind (z15_tot _ hk) fun x _ => ?_
  (repeat' (first | exact Tot.pure trivial | exact Tot2.pure trivial | refine Tot.cnd (fun _ => ?_) (fun _ => ?_) | refine Tot2.cnd (fun _ => ?_) (fun _ => ?_)))
  refine Tot.bind (z0y_tot _ hk) fun x _ => ?_
  (repeat' (first | exact Tot.pure trivial | exact Tot2.pure trivial | refine Tot.cnd (fun _ => ?_) (fun _ => ?_) | refine Tot2.cnd (fun _ => ?_) (fun _ => ?_)))
theorem z0h_tot (d : Decl) (hd : d.bulk ≤ cap) : Tot (fun n => z0h n d) Yes := by
  have hd' := hd
  rw [Decl.bulk] at hd'
  have hl1 := d.ctors_len
  have hl2 := sumB_len Fun.bulk_pos d.funs
  have hl3 : sumB Term.bulk d.recu.rules < d.recu.bulk := by rw [Zs3.bulk]; omega
  have hl4 := sumB_len Term.bulk_pos d.recu.rules
  have hl5 : d.recu.type.bulk < d.recu.bulk := by rw [Zs3.bulk]; omega
  have k1 : Tot (fun n => z0h_l1 n n 0 d) Yes := by
    refine Tot.of2 (F := fun n m => z0h_l1 n m 0 d) ?_
    refine Tot2.up (S := Unit) (L := fun n m i s => z0h_l1 n m i d) d.funs.length (fun _ _ => True) Yes ?_ ?_ 0 () (by omega) trivial
    · intro i s hi _ next
      refine Tot2.lp (fun n m => by simp only [z0h_l1, z0h_b1]; exact rfl) ?_
      simp only [hi, Int.ofNat_lt, decide_true, cond_true]
      refine Tot2.idx hi ?_
      have hm := sumB_mem (f := Fun.bulk) (List.getElem_mem hi)
      rw [Fun.bulk] at hm
      (repeat' (first | exact Tot.pure trivial | exact Tot2.pure trivial | refine Tot.cnd (fun _ => ?_) (fun _ => ?_) | refine Tot2.cnd (fun _ => ?_) (fun _ => ?_)))
      refine Tot2.idx hi ?_
      refine Tot2.bind1 (z0p_tot _ (lim_of_cap (by omega))) fun x _ => ?_
      (repeat' (first | exact Tot.pure trivial | exact Tot2.pure trivial | refine Tot.cnd (fun _ => ?_) (fun _ => ?_) | refine Tot2.cnd (fun _ => ?_) (fun _ => ?_)))
      refine Tot2.idx hi ?_
      refine Tot2.bind1 (z09_tot _ _ (lim_of_cap (by omega))) fun x _ => ?_
      (repeat' (first | exact Tot.pure trivial | exact Tot2.pure trivial | refine Tot.cnd (fun _ => ?_) (fun _ => ?_) | refine Tot2.cnd (fun _ => ?_) (fun _ => ?_)))
      rw [wrap_next (by simp only [cap] at hd hd'; omega)]
      exact next s trivial
    · intro s _
      refine Tot2.lp (fun n m => by simp only [z0h_l1, z0h_b1]; exact rfl) ?_
      simp only [Int.lt_irrefl, decide_false, cond_false]
      exact Tot2.pure trivial
  have k2 : Tot (fun n => z0h_l2 n n 0 d) Yes := by
    refine Tot.of2 (F := fun n m => z0h_l2 n m 0 d) ?_
    refine Tot2.up (S := Unit) (L := fun n m i s => z0h_l2 n m i d) d.recu.rules.length (fun _ _ => True) Yes ?_ ?_ 0 () (by omega) trivial
    · intro i s hi _ next
      refine Tot2.lp (fun n m => by simp only [z0h_l2, z0h_b2]; exact rfl) ?_
      simp only [hi, Int.ofNat_lt, decide_true, cond_true]
      refine Tot2.idx hi ?_
      have hm := sumB_mem (f := Term.bulk) (List.getElem_mem hi)
      refine Tot2.bind1 (z0p_tot _ (lim_of_cap (by omega))) fun x _ => ?_
      (repeat' (first | exact Tot.pure trivial | exact Tot2.pure trivial | refine Tot.cnd (fun _ => ?_) (fun _ => ?_) | refine Tot2.cnd (fun _ => ?_) (fun _ => ?_)))
      rw [wrap_next (by simp only [cap] at hd hd'; omega)]
      exact next s trivial
    · intro s _
      refine Tot2.lp (fun n m => by simp only [z0h_l2, z0h_b2]; exact rfl) ?_
      simp only [Int.lt_irrefl, decide_false, cond_false]
      exact Tot2.of1 k1
  have k3 : Tot (fun n => z0h_l3 n n 0 d) Yes := by
    refine Tot.of2 (F := fun n m => z0h_l3 n m 0 d) ?_
    refine Tot2.up (S := Unit) (L := fun n m i s => z0h_l3 n m i d) d.ctors.length (fun _ _ => True) Yes ?_ ?_ 0 () (by omega) trivial
    · intro i s hi _ next
      refine Tot2.lp (fun n m => by simp only [z0h_l3, z0h_b3]; exact rfl) ?_
      simp only [hi, Int.ofNat_lt, decide_true, cond_true]
      refine Tot2.idx hi ?_
      have hm := (Decl.ctor_le (List.getElem_mem hi)).1
      (repeat' (first | exact Tot.pure trivial | exact Tot2.pure trivial | refine Tot.cnd (fun _ => ?_) (fun _ => ?_) | refine Tot2.cnd (fun _ => ?_) (fun _ => ?_)))
      refine Tot2.idx hi ?_
      refine Tot2.bind1 (z0p_tot _ (lim_of_cap (by omega))) fun x _ => ?_
      (repeat' (first | exact Tot.pure trivial | exact Tot2.pure trivial | refine Tot.cnd (fun _ => ?_) (fun _ => ?_) | refine Tot2.cnd (fun _ => ?_) (fun _ => ?_)))
      rw [wrap_next (by simp only [cap] at hd hd'; omega)]
      exact next s trivial
    · intro s _
      refine Tot2.lp (fun n m => by simp only [z0h_l3, z0h_b3]; exact rfl) ?_
      simp only [Int.lt_irrefl, decide_false, cond_false]
      exact Tot2.of1 k2
  refine Tot.fn (fun n => by simp only [z0h, z0h_e]; exact rfl) ?_
  (repeat' (first | exact Tot.pure trivial | exact Tot2.pure trivial | refine Tot.cnd (fun _ => ?_) (fun _ => ?_) | refine Tot2.cnd (fun _ => ?_) (fun _ => ?_)))
  refine Tot.bind (z0p_tot _ (lim_of_cap (by omega))) fun x _ => ?_
  (repeat' (first | exact Tot.pure trivial | exact Tot2.pure trivial | refine Tot.cnd (fun _ => ?_) (fun _ => ?_) | refine Tot2.cnd (fun _ => ?_) (fun _ => ?_)))
  refine Tot.bind (z0p_tot _ (lim_of_cap (by omega))) fun x _ => ?_
  (repeat' (first | exact Tot.pure trivial | exact Tot2.pure trivial | refine Tot.cnd (fun _ => ?_) (fun _ => ?_) | refine Tot2.cnd (fun _ => ?_) (fun _ => ?_)))
  refine Tot.bind (z0p_tot _ (lim_of_cap (by omega))) fun x _ => ?_
  (repeat' (first | exact Tot.pure trivial | exact Tot2.pure trivial | refine Tot.cnd (fun _ => ?_) (fun _ => ?_) | refine Tot2.cnd (fun _ => ?_) (fun _ => ?_)))
  exact k3
structure Small (d : Decl) : Prop where
  p0 : 0 ≤ d.params
  p8 : d.params ≤ 8
  type : Fine d.type
  ctors : ∀ c ∈ d.ctors, Fine c.type
theorem z0n_fine (d : Decl) (hd : d.bulk ≤ cap) : Tot (fun n => z0n n d) (fun r => r = true → Small d) := by
  have hd' := hd
  rw [Decl.bulk] at hd'
  have hl1 := d.ctors_len
  refine Tot.fn (fun n => by simp only [z0n, z0n_e]; exact rfl) ?_
  refine Tot.cnd (fun _ => Tot.pure (by simp)) fun h0 => ?_
  refine Tot.cnd (fun _ => Tot.pure (by simp)) fun h8 => ?_
  have h0 : ¬ d.params < 0 := by simpa using h0
  have h8 : ¬ (8 : Int) < d.params := by simpa using h8
  refine Tot.bind (z0x_fine _ _ _ _ _ (lim_of_cap (by omega))) fun x hx => ?_
  refine Tot.cnd (fun _ => Tot.pure (by simp)) fun hx0 => ?_
  have hty := hx (bne_eq_false_iff_eq.1 hx0)
  refine Tot.cnd (fun _ => Tot.pure (by simp)) fun _ => ?_
  refine Tot.of2 (F := fun n m => z0n_l1 n m 0 d) ?_
  refine Tot2.up (S := Unit) (L := fun n m i s => z0n_l1 n m i d) d.ctors.length (fun i _ => ∀ j (hj : j < d.ctors.length), j < i → Fine d.ctors[j].type) (fun r => r = true → Small d) ?_ ?_ 0 () (by omega) (fun j _ h => by omega)
  · intro i s hi hI next
    refine Tot2.lp (fun n m => by simp only [z0n_l1, z0n_b1]; exact rfl) ?_
    simp only [hi, Int.ofNat_lt, decide_true, cond_true]
    refine Tot2.idx hi ?_
    have hm := (Decl.ctor_le (List.getElem_mem hi)).1
    refine Tot2.bind1 (z0x_fine _ _ _ _ _ (lim_of_cap (by omega))) fun x hx => ?_
    refine Tot2.cnd (fun _ => Tot2.pure (by simp)) fun hc => ?_
    rw [wrap_next (by simp only [cap] at hd hd'; omega)]
    refine next s fun j hj hlt => ?_
    rcases Nat.lt_succ_iff_lt_or_eq.1 hlt with h | rfl
    · exact hI j hj h
    · exact hx (bne_eq_false_iff_eq.1 hc)
  · intro s hI
    refine Tot2.lp (fun n m => by simp only [z0n_l1, z0n_b1]; exact rfl) ?_
    simp only [Int.lt_irrefl, decide_false, cond_false]
    refine Tot2.pure fun _ => ⟨by omega, by omega, hty, fun c hc => ?_⟩
    obtain ⟨j, hj, rfl⟩ := List.getElem_of_mem hc
    exact hI j hj hj
theorem z1b_fine (d : Decl) (hd : d.bulk ≤ cap) : Tot (fun n => z1b n d) (fun r => r = true → Small d) := by
  have hn : d.name.length ≤ cap := by rw [Decl.bulk] at hd; omega
  refine Tot.fn (fun n => by simp only [z1b, z1b_e]; exact rfl) ?_
  refine Tot.bind (z0h_tot d hd) fun x _ => ?_
  refine Tot.cnd (fun _ => ?_) (fun _ => Tot.pure (by simp))
  refine Tot.bind (z0n_fine d hd) fun y hy => ?_
  refine Tot.cnd (fun h => ?_) (fun _ => Tot.pure (by simp))
  refine Tot.bind (z13_tot d.name (lim_of_cap hn)) fun z _ => ?_
  exact Tot.pure fun _ => hy h
theorem z0q_ev : Ev (fun n => z0q n) true := by
  refine ⟨60, fun n hn => ?_⟩
  obtain ⟨k, rfl⟩ : ∃ k, n = k + 60 := ⟨n - 60, by omega⟩
  exact awake_k k
structure AnalyseOK (d : Decl) (cs : List Zs4) : Prop where
  kind : d.kind = 3
  f0 : 0 ≤ d.fixed
  f1 : d.fixed ≤ (allT d.type).1.length
  sort : (allT d.type).2.kind = 1 ∨ (allT d.type).2.kind = 2
  ctors : ctorsT (Term.mk 3 0 d.name (ownLevels d.params.toNat) []) ((allT d.type).1.take d.fixed.toNat) ((allT d.type).1.drop d.fixed.toNat).length d.ctors = some cs
noncomputable def famOf (d : Decl) (cs : List Zs4) : Family := { name := d.name, levels := d.params, params := (allT d.type).1.take d.fixed.toNat, indices := (allT d.type).1.drop d.fixed.toNat, sort := (allT d.type).2, ctors := cs }
theorem AnalyseOK.eq {d : Decl} {cs : List Zs4} (h : AnalyseOK d cs) : analyseT d = (famOf d cs, 0) := by
  unfold analyseT
  have e1 : (d.kind != 3) = false := by rw [h.kind]; rfl
  have e2 : decide (d.fixed < 0) = false := decide_eq_false (by have := h.f0; omega)
  have e3 : decide (((allT d.type).1.length : Int) < d.fixed) = false := decide_eq_false (by have := h.f1; omega)
  have e4 : ((allT d.type).2.kind == 1 || (allT d.type).2.kind == 2) = true := by
    rcases h.sort with e | e <;> rw [e] <;> rfl
  rw [e1, e2, e3, e4, h.ctors]
  rfl
theorem analyseT_inv {d : Decl} (h : (analyseT d).2 = 0) : ∃ cs, AnalyseOK d cs := by
  unfold analyseT at h
  cases hk : d.kind != 3 with
  | true => rw [hk] at h; simp at h
  | false =>
    rw [hk] at h
    cases hc : decide (d.fixed < 0) || (decide ((allT d.type).1.length < d.fixed) || !((allT d.type).2.kind == 1 || (allT d.type).2.kind == 2)) with
    | true => rw [hc] at h; simp at h
    | false =>
      rw [hc] at h
      simp only [cond_false] at h
      split at h
      · rename_i cs hcs
        simp only [Bool.or_eq_false_iff, decide_eq_false_iff_not, Bool.not_eq_false', Bool.or_eq_true, beq_iff_eq] at hc
        exact ⟨cs, bne_eq_false_iff_eq.1 hk, by omega, by omega, hc.2.2, hcs⟩
      · simp at h
theorem analyseT_cases (d : Decl) : analyseT d = (noFam, 1) ∨ analyseT d = (noFam, 3) ∨ ∃ cs, AnalyseOK d cs := by
  by_cases h : (analyseT d).2 = 0
  · exact .inr (.inr (analyseT_inv h))
  · unfold analyseT at h ⊢
    cases hk : d.kind != 3 with
    | true => exact .inl rfl
    | false =>
      rw [hk] at h
      cases hc : decide (d.fixed < 0) || (decide ((allT d.type).1.length < d.fixed) || !((allT d.type).2.kind == 1 || (allT d.type).2.kind == 2)) with
      | true => exact .inr (.inl rfl)
      | false =>
        rw [hc] at h
        simp only [cond_false] at h ⊢
        split
        · rename_i cs hcs; rw [hcs] at h; exact absurd rfl h
        · exact .inr (.inl rfl)
end Go.Abs
namespace Go.Abs
set_option linter.unusedVariables false
set_option linter.unusedSimpArgs false
-- the reference
end Go.Abs
namespace Go.Abs
set_option linter.unusedVariables false
set_option linter.unusedSimpArgs false
end Go.Abs
namespace Go.Abs
set_option linter.unusedVariables false
set_option linter.unusedSimpArgs false
theorem ctorsT_get {own : Term} {params : List Term} {k : Nat} : ∀ {l : List Ctor} {cs : List Zs4}, ctorsT own params k l = some cs → ∀ (i : Nat) (hi : i < l.length), (ctorT own params k l[i]).2 = true ∧ cs[i]? = some (ctorT own params k l[i]).1
  | [], _, _, i, hi => by simp at hi
  | c :: l, cs, h, i, hi => by
    simp only [ctorsT] at h
    cases hc : (ctorT own params k c).2 with
    | false => rw [hc] at h; cases h
    | true =>
      rw [hc, cond_true, Option.map_eq_some_iff] at h
      obtain ⟨cs', h', rfl⟩ := h
      cases i with
      | zero => exact ⟨hc, rfl⟩
      | succ i => simpa using ctorsT_get h' i (by simpa using hi)
end Go.Abs
namespace Go.Abs
set_option linter.unusedVariables false
set_option linter.unusedSimpArgs false
noncomputable def pisT (ctx : List Term) (t : Term) : Term := ctx.foldr (fun a t => Term.mk 6 0 [] [] [a, t]) t
theorem pisT_drop {ctx : List Term} {t : Term} {k : Nat} (hk : k < ctx.length) : pisT (ctx.drop k) t = Term.mk 6 0 [] [] [ctx[k], pisT (ctx.drop (k + 1)) t] := by
  rw [List.drop_eq_getElem_cons hk]; rfl
theorem mk2_bulk (k : Int) (x y : Term) : (Term.mk k 0 [] [] [x, y]).bulk = x.bulk + y.bulk + 6 := by
  simp only [Term.bulk_eq (Term.mk _ _ _ _ _), Term.name, Term.levels, Term.kids, sumB, List.length_nil]; omega
theorem bind_loop (ctx : List Term) (t : Term) (hl : ctx.length < lim) : ∀ k : Nat, k ≤ ctx.length → Ev2 (fun n m => z18_l1 n m 6 ctx ((k : Int) - 1) (pisT (ctx.drop k) t)) (pisT ctx t)
  | 0, _ => by
    refine Ev2.lp (fun n m => by simp only [z18_l1, z18_b1]; exact rfl) ?_
    have : decide ((0 : Int) ≤ ((0 : Nat) : Int) - 1) = false := by simp
    simp only [this, cond_false, List.drop_zero]
    exact Ev2.pure
  | k + 1, hk => by
    have e : ((k + 1 : Nat) : Int) - 1 = (k : Int) := by omega
    rw [e]
    refine Ev2.lp (fun n m => by simp only [z18_l1, z18_b1]; exact rfl) ?_
    have : decide ((0 : Int) ≤ (k : Int)) = true := by simp
    simp only [this, cond_true]
    refine Ev2.idx (by omega) ?_
    rw [wrap_small (by omega) (by unfold lim at hl; omega), ← pisT_drop (by omega)]
    exact bind_loop ctx t hl k (by omega)
theorem z1f_ev (ctx : List Term) (t : Term) (hl : ctx.length < lim) : Ev (fun n => z1f n ctx t) (pisT ctx t) := by
  refine Ev.fn (fun n => by simp only [z1f, z1f_e]; exact rfl) ?_
  refine Ev.bind (x := pisT ctx t) ?_ Ev.pure
  refine Ev.fn (fun n => by simp only [z18, z18_e]; exact rfl) ?_
  rw [wrap_small (by omega) (by unfold lim at hl; omega)]
  have := bind_loop ctx t hl ctx.length (Nat.le_refl _)
  rw [List.drop_length] at this
  exact Ev.of2 this
end Go.Abs
namespace Go.Abs
set_option linter.unusedVariables false
set_option linter.unusedSimpArgs false
theorem Term.eta2 {t x y : Term} (hk : t.kids = [x, y]) (h1 : t.index = 0) (h2 : t.name = []) (h3 : t.levels = []) : Term.mk t.kind 0 [] [] [x, y] = t := by
  rw [← hk, ← h1, ← h2, ← h3]
  have := Term.eta_mk t
  rw [h1, h2, h3] at this ⊢
  exact this
theorem pisT_all : ∀ t : Term, Fine t → pisT (allT t).1 (allT t).2 = t := by
  intro t
  induction h : t.bulk using Nat.strongRecOn generalizing t with
  | ind k ih =>
    intro hf
    by_cases hp : t.kind = 6 ∧ t.kids.length = 2
    · obtain ⟨x, y, hk⟩ := len2 hp.2
      obtain ⟨_, b1, b2, b3⟩ := hf.bare (.inl hp.1)
      rw [allT_pi hp.1 hk]
      have hlt : y.bulk < k := by rw [← h]; exact Term.kid_lt (by rw [hk]; simp)
      have := ih _ hlt y rfl (hf.kid y (by rw [hk]; simp))
      show Term.mk 6 0 [] [] [x, pisT (allT y).1 (allT y).2] = t
      rw [this]
      have e := Term.eta2 hk b1 b2 b3
      rw [hp.1] at e
      exact e
    · rw [allT_not hp]; rfl
end Go.Abs
namespace Go.Abs
set_option linter.unusedVariables false
set_option linter.unusedSimpArgs false
theorem allT_pisT (t : Term) : ∀ tel : List Term, allT (pisT tel t) = (tel ++ (allT t).1, (allT t).2)
  | [] => rfl
  | a :: tel => by
    show allT (Term.mk 6 0 [] [] [a, pisT tel t]) = _
    rw [allT_pi (x := a) (y := pisT tel t) rfl rfl, allT_pisT t tel]
    rfl
theorem ctorsT_none {own : Term} {params : List Term} {k : Nat} : ∀ {l : List Ctor} {i : Nat} (hi : i < l.length), (ctorT own params k l[i]).2 = false → ctorsT own params k l = none
  | [], i, hi, _ => by simp at hi
  | c :: l, i, hi, h => by
    simp only [ctorsT]
    cases hc : (ctorT own params k c).2 with
    | false => rfl
    | true =>
      cases i with
      | zero => rw [List.getElem_cons_zero, hc] at h; cases h
      | succ i =>
        simp only [cond_true]
        rw [ctorsT_none (i := i) (by simpa using hi) (by simpa using h)]
        rfl
theorem analyse_bad (d : Decl) {cs : List Zs4} (h : AnalyseOK d cs) (l : List Ctor) {i : Nat} (hi : i < l.length)
    (hbad : (ctorT (Term.mk 3 0 d.name (ownLevels d.params.toNat) []) ((allT d.type).1.take d.fixed.toNat) ((allT d.type).1.drop d.fixed.toNat).length l[i]).2 = false) :
    analyseT { d with ctors := l } = (noFam, 3) := by
  unfold analyseT
  have e1 : (d.kind != 3) = false := by rw [h.kind]; rfl
  have e2 : decide (d.fixed < 0) = false := decide_eq_false (by have := h.f0; omega)
  have e3 : decide (((allT d.type).1.length : Int) < d.fixed) = false := decide_eq_false (by have := h.f1; omega)
  have e4 : ((allT d.type).2.kind == 1 || (allT d.type).2.kind == 2) = true := by
    rcases h.sort with e | e <;> rw [e] <;> rfl
  simp only [e1, e2, e3, e4, cond_false, Bool.false_or, Bool.not_true]
  rw [ctorsT_none hi hbad]
theorem ctorT_prop {own : Term} {params : List Term} {k : Nat} {c : Ctor} {tel : List Term} {t : Term} (ht : c.type = pisT tel t) (ha : allT t = ([], t)) (hs : spineT t = (t, [])) (hk : t.kind ≠ own.kind) : (ctorT own params k c).2 = false := by
  unfold ctorT
  rw [ht, allT_pisT, ha, List.append_nil]
  simp only
  cases decide (tel.length < params.length) with
  | true => rfl
  | false =>
    cases eqb (tel.take params.length) params with
    | false => rfl
    | true =>
      have : (resultT own params k t ((tel.drop params.length).length : Int)).2 = false := by
        unfold resultT
        rw [hs]
        have he : eqb t own = false := eqb_false fun e => hk (by rw [e])
        simp only [he, Bool.false_and, Bool.and_false, cond_false]
      simp only [cond_true, cond_false, this]
theorem ctorT_params {own : Term} {params : List Term} {k : Nat} {c : Ctor} (h : (allT c.type).1.take params.length ≠ params) : (ctorT own params k c).2 = false := by
  unfold ctorT
  cases decide ((allT c.type).1.length < params.length) with
  | true => rfl
  | false =>
    have : eqb ((allT c.type).1.take params.length) params = false := eqb_false h
    simp only [this, cond_false]
end Go.Abs
namespace Go.Abs
set_option linter.unusedVariables false
set_option linter.unusedSimpArgs false
theorem pisT_bulk_eq (t : Term) : ∀ tel : List Term, (pisT tel t).bulk = t.bulk + (sumB Term.bulk tel - 1) + tel.length * 6
  | [] => by simp [pisT, sumB]
  | a :: tel => by
    show (Term.mk 6 0 [] [] [a, pisT tel t]).bulk = _
    rw [mk2_bulk, pisT_bulk_eq t tel, sumB, List.length_cons, Nat.succ_mul]
    have := sumB_pos (bk := Term.bulk) tel
    omega
theorem sumB_set {α : Type} {f : α → Nat} (y : α) : ∀ {xs : List α} {i : Nat} (h : i < xs.length), sumB f (xs.set i y) + f xs[i] = sumB f xs + f y
  | x :: xs, 0, _ => by simp only [List.set_cons_zero, List.getElem_cons_zero, sumB]; omega
  | x :: xs, i + 1, h => by
    have := sumB_set (f := f) y (xs := xs) (i := i) (by simpa using h)
    simp only [List.set_cons_succ, List.getElem_cons_succ, sumB]; omega
def propT : Term := Term.mk 1 0 [] [] []
def sortT : Term := Term.mk 2 0 [] [{ const := 0, vars := [] }] []
theorem propT_bulk : propT.bulk = 6 := by
  simp only [propT, Term.bulk_eq (Term.mk _ _ _ _ _), Term.name, Term.levels, Term.kids, sumB, List.length_nil]
theorem sortT_bulk : sortT.bulk ≤ 10 := by
  simp only [sortT, Term.bulk_eq (Term.mk _ _ _ _ _), Term.name, Term.levels, Term.kids, sumB, List.length_nil, Level.bulk]; omega
theorem set_bulk (d : Decl) {k : Nat} (hk : k < d.ctors.length) (c : Ctor) {m : Nat} (h : c.bulk ≤ d.ctors[k].bulk + m) : ({ d with ctors := d.ctors.set k c } : Decl).bulk ≤ d.bulk + m := by
  have := sumB_set (f := Ctor.bulk) c hk
  rw [Decl.bulk, Decl.bulk]
  simp only
  omega
theorem allT_propT : allT propT = ([], propT) := allT_not (by decide)
theorem FamilyParameters_ev (d : Decl) (w : Int) (h0 : 0 ≤ w) (h1 : w < 256) (hd : d.bulk ≤ 1048576) : Ev (fun n => z04 n d w) true := by
  have hd' : d.bulk ≤ cap := by simp only [cap]; omega
  have hdl : d.bulk < lim := lim_of_cap hd'
  refine Tot.ev ?_
  refine Tot.fn (fun n => by simp only [z04, z04_e]; exact rfl) ?_
  have awk : ∀ {Q : Bool → Prop}, Q true → Tot (fun n => (z0q n).bind fun x => some x) Q := fun q => Ev.tot (Ev.bind z0q_ev Ev.pure) q
  refine Tot.bind (z1b_fine d hd') fun x hx => ?_
  refine Tot.cnd (fun h => ?_) (fun _ => awk rfl)
  have hs := hx h
  refine Tot.cnd (fun _ => awk rfl) (fun hne => ?_)
  have hlen : 0 < d.ctors.length := by
    have : ((d.ctors.length : Int) == 0) = false := hne
    rw [beq_eq_false_iff_ne] at this
    omega
  obtain ⟨a1, a2⟩ := Analyse_sem d hd' hs.p0 hs.p8
  refine Tot.bind (a1.tot (Q := (· = analyseT d)) rfl) fun y hy => ?_
  subst hy
  refine Tot.cnd (fun he => ?_) fun he => ?_
  · refine Ev.tot (r := true) (Ev.bind z0q_ev ?_) rfl
    rcases analyseT_cases d with h | h | ⟨cs, h⟩
    · rw [h]; exact Ev.pure
    · rw [h]; exact Ev.pure
    · rw [h.eq] at he; simp at he
  have he0 : (analyseT d).2 = 0 := bne_eq_false_iff_eq.1 he
  obtain ⟨cs, hc⟩ := analyseT_inv he0
  obtain ⟨k, hkw, hk⟩ : ∃ k : Nat, (IntKind.i64.wrap w).tmod (d.ctors.length : Int) = (k : Int) ∧ k < d.ctors.length := by
    refine ⟨w.toNat % d.ctors.length, ?_, Nat.mod_lt _ hlen⟩
    rw [wrap_small (by omega) (by omega)]
    obtain ⟨m, rfl⟩ : ∃ m : Nat, w = m := ⟨w.toNat, by omega⟩
    rw [Int.toNat_natCast]
    exact (Int.ofNat_tmod m d.ctors.length).symm
  have hcl := d.ctors_len
  have hroom : decide (d.ctors.length * 96 ≤ 17592186044416) = true := decide_eq_true (by omega)
  have hz : decide ((d.ctors.length : Int) = 0) = false := decide_eq_false (by omega)
  simp only [hkw, hz, hroom, cond_true, cond_false, Int.toNat_natCast, List.getElem?_eq_getElem hk, decide_eq_true hk, Option.bind_some]
  have hcm : d.ctors[k] ∈ d.ctors := List.getElem_mem hk
  have hct := (Decl.ctor_le hcm).1
  have hfine := hs.ctors _ hcm
  have htype := pisT_all _ hfine
  refine Tot.idx hk ?_
  obtain ⟨_, b2⟩ := All_sem d.ctors[k].type (by omega)
  refine Tot.bind (b2.tot (Q := (· = allT d.ctors[k].type)) rfl) fun y hy => ?_
  subst hy
  obtain ⟨htl, hend⟩ := allT_tl d.ctors[k].type (by omega)
  generalize hT : (allT d.ctors[k].type).1 = tel at *
  generalize hE : (allT d.ctors[k].type).2 = fin at *
  have hbulk : d.ctors[k].type.bulk = fin.bulk + (sumB Term.bulk tel - 1) + tel.length * 6 := by rw [← pisT_bulk_eq, htype]
  have hpos := sumB_pos (bk := Term.bulk) tel
  have htlen : tel.length < lim := htl.lim.1
  have htlen2 : tel.length ≤ sumB Term.bulk tel := sumB_len Term.bulk_pos tel
  refine Tot.bind ((z1f_ev tel propT htlen).tot (Q := (· = pisT tel propT)) rfl) fun y hy => ?_
  subst hy
  refine Tot.idx hk ?_
  have bad : ∀ (c : Ctor), c.bulk ≤ d.ctors[k].bulk + 32 → (ctorT (Term.mk 3 0 d.name (ownLevels d.params.toNat) []) ((allT d.type).1.take d.fixed.toNat) ((allT d.type).1.drop d.fixed.toNat).length c).2 = false →
      Ev (fun n => z0c n { d with ctors := d.ctors.set k c }) (noFam, 3) := by
    intro c hb hf
    have hb' := set_bulk d hk c hb
    have := (Analyse_sem { d with ctors := d.ctors.set k c } (by simp only [cap]; omega) hs.p0 hs.p8).1
    rw [analyse_bad d hc (d.ctors.set k c) (i := k) (by rw [List.length_set]; exact hk) (by rw [List.getElem_set_self]; exact hf)] at this
    exact this
  have e1 := bad { name := d.ctors[k].name, type := pisT tel propT } (by
    rw [Ctor.bulk, Ctor.bulk, pisT_bulk_eq, propT_bulk]; simp only; omega) (ctorT_prop (t := propT) (tel := tel) rfl allT_propT (spineT_not (by decide)) (show (1 : Int) ≠ 3 by decide))
  refine Tot.bind (e1.tot (Q := (· = (noFam, 3))) rfl) fun y hy => ?_
  subst hy
  simp only [bne_self_eq_false, cond_false]
  refine Tot.cnd (fun _ => awk rfl) fun hf0 => ?_
  have hf0 : d.fixed ≠ 0 := beq_eq_false_iff_ne.1 hf0
  refine Tot.cnd (fun _ => awk rfl) fun ht0 => ?_
  have ht0 : 0 < tel.length := by
    have : (tel.length : Int) ≠ 0 := beq_eq_false_iff_ne.1 ht0
    omega
  obtain ⟨a, rest, rfl⟩ : ∃ a rest, tel = a :: rest := by
    cases tel with
    | nil => simp at ht0
    | cons a rest => exact ⟨a, rest, rfl⟩
  have hab : a.bulk ≤ cap := htl.2 a (List.mem_cons_self ..)
  have hi0 : idxA (a :: rest) 0 = some a := rfl
  simp only [hi0, Option.bind_some]
  refine Tot.bind ((z14_ev a propT (lim_of_cap hab)).tot (Q := (· = eqb a propT)) rfl) fun y hy => ?_
  subst hy
  have hdr : List.drop 1 (List.take (a :: rest).length (a :: rest)) = rest := by rw [List.take_length]; rfl
  have hle : decide (1 ≤ ((a :: rest).length : Int) ∧ ((a :: rest).length : Int) ≤ ((a :: rest).length : Int)) = true := decide_eq_true ⟨by simp only [List.length_cons]; omega, Int.le_refl _⟩
  have hrl : rest.length + 1 ≤ d.bulk := by
    rw [sumB] at hbulk htlen2
    simp only [List.length_cons] at htlen2 hbulk
    omega
  have hroom2 : decide ((1 + rest.length) * 80 ≤ 17592186044416) = true := decide_eq_true (by omega)
  have hnn : (decide (0 ≤ (k : Int)) && decide (k < d.ctors.length)) = true := by rw [decide_eq_true (Int.natCast_nonneg k), decide_eq_true hk]; rfl
  simp only [hdr, hle, hroom2, hnn, cond_true]
  -- the parameters of what was accepted
  have hacc := (ctorsT_get hc.ctors k hk).1
  have f0 := hc.f0
  have f1 := hc.f1
  have last : ∀ other : Term, other ≠ a → other.bulk ≤ 10 → Tot (fun n => (z1f n (other :: rest) fin).bind fun x => (z0c n { d with ctors := d.ctors.set k { name := d.ctors[k].name, type := x } }).bind fun x =>
      (z0q n).bind fun x_7 => bif x_7 then some (x.snd == 3) else some false) (· = true) := by
    intro other ho hb
    refine Tot.bind ((z1f_ev (other :: rest) fin htlen).tot (Q := (· = pisT (other :: rest) fin)) rfl) fun y hy => ?_
    subst hy
    have e2 := bad { name := d.ctors[k].name, type := pisT (other :: rest) fin } (by
      rw [Ctor.bulk, Ctor.bulk, pisT_bulk_eq, hbulk]; simp only [sumB, List.length_cons]
      have := sumB_pos (bk := Term.bulk) rest
      have := Term.bulk_pos a
      omega) (ctorT_params (by
        intro heq
        have hr : (allT (pisT (other :: rest) fin)).1 = other :: (rest ++ (allT fin).1) := by rw [allT_pisT]; rfl
        simp only [hr] at heq
        have hac : ((allT d.ctors[k].type).1.take ((allT d.type).1.take d.fixed.toNat).length) = (allT d.type).1.take d.fixed.toNat := by
          unfold ctorT at hacc
          cases hlt : decide ((allT d.ctors[k].type).1.length < ((allT d.type).1.take d.fixed.toNat).length) with
          | true => rw [hlt] at hacc; cases hacc
          | false =>
            rw [hlt, cond_false] at hacc
            cases hq : eqb ((allT d.ctors[k].type).1.take ((allT d.type).1.take d.fixed.toNat).length) ((allT d.type).1.take d.fixed.toNat) with
            | false => rw [hq] at hacc; cases hacc
            | true => exact eqb_iff.1 hq
        rw [hT, ← heq] at hac
        have hpl : 0 < ((allT d.type).1.take d.fixed.toNat).length := by rw [List.length_take]; omega
        obtain ⟨p, hp⟩ : ∃ p, ((allT d.type).1.take d.fixed.toNat).length = p + 1 := ⟨_, (Nat.succ_pred_eq_of_pos hpl).symm⟩
        simp only [hp, List.take_succ_cons, List.length_cons] at hac
        injection hac with h1 _
        exact ho h1.symm))
    refine Ev.tot (r := true) (Ev.bind e2 (Ev.bind z0q_ev ?_)) rfl
    simp only [cond_true, beq_self_eq_true]
    exact Ev.pure
  have both : ∀ other : Term, other ≠ a → other.bulk ≤ 10 → Tot (fun n => bif decide (0 < rest.length) then (z1f n (other :: rest) fin).bind fun x => (z0c n { d with ctors := d.ctors.set k { name := d.ctors[k].name, type := x } }).bind fun x =>
        (z0q n).bind fun x_7 => bif x_7 then some (x.snd == 3) else some false
      else (z1f n [other] fin).bind fun x => (z0c n { d with ctors := d.ctors.set k { name := d.ctors[k].name, type := x } }).bind fun x =>
        (z0q n).bind fun x_7 => bif x_7 then some (x.snd == 3) else some false) (· = true) := by
    intro other ho hb
    refine Tot.cnd (fun _ => last other ho hb) fun hz => ?_
    have hr : rest = [] := by
      have := of_decide_eq_false hz
      exact List.eq_nil_of_length_eq_zero (by omega)
    have := last other ho hb
    rw [hr] at this
    exact this
  refine Tot.cnd (fun hq => ?_) fun hq => ?_
  · have hq := eqb_iff.1 hq
    exact both sortT (by rw [hq]; exact fun e => absurd (congrArg Term.kind e) (show ¬ (2 : Int) = 1 by decide)) sortT_bulk
  · have hq : propT ≠ a := fun e => by rw [← e, eqb_self] at hq; cases hq
    exact both propT hq (by rw [propT_bulk]; omega)
theorem z04_plain (x0 : Decl) (x1 : Int) (hb : x0.bulk + 1 ≤ 1048576) (hw : x0.wf) (hw1 : wfI .u8 x1) : ∃ n, z04 n x0 x1 = some true := by
  have := wfI_u8 hw1
  obtain ⟨N, h⟩ := FamilyParameters_ev x0 x1 (by omega) (by omega) (by omega)
  exact ⟨N, h N (Nat.le_refl _)⟩
end Go.Abs
