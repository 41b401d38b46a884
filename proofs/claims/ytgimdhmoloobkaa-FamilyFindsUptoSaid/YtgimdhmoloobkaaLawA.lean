/- A part of the proof: plain facts. -/
import Derived.Test.YtgimdhmoloobkaaCoreC
import Derived.Test.YtgimdhmoloobkaaReadA
set_option linter.all false
namespace Go.Abs
set_option linter.unusedVariables false
variable {R S T : Type}
def Ev (F : Nat → Option R) (r : R) : Prop := ∃ N, ∀ n, N ≤ n → F n = some r
def Ev2 (F : Nat → Nat → Option R) (r : R) : Prop := ∃ N, ∀ n m, N ≤ n → N ≤ m → F n m = some r
theorem Ev.fn {F G : Nat → Option R} {r : R} (h : ∀ n, F (n + 1) = G n) (hg : Ev G r) : Ev F r := by
  obtain ⟨N, hN⟩ := hg
  refine ⟨N + 1, fun n hn => ?_⟩
  obtain ⟨k, rfl⟩ : ∃ k, n = k + 1 := ⟨n - 1, by omega⟩
  rw [h]; exact hN k (by omega)
theorem Ev.of2 {F : Nat → Nat → Option R} {r : R} (h : Ev2 F r) : Ev (fun n => F n n) r := by
  obtain ⟨N, hN⟩ := h
  exact ⟨N, fun n hn => hN n n hn hn⟩
theorem Ev2.of1 {F : Nat → Option R} {r : R} (h : Ev F r) : Ev2 (fun n _ => F n) r := by
  obtain ⟨N, hN⟩ := h
  exact ⟨N, fun n m hn _ => hN n hn⟩
theorem Ev2.lp {F G : Nat → Nat → Option R} {r : R} (h : ∀ n m, F n (m + 1) = G n m) (hg : Ev2 G r) : Ev2 F r := by
  obtain ⟨N, hN⟩ := hg
  refine ⟨N + 1, fun n m hn hm => ?_⟩
  obtain ⟨k, rfl⟩ : ∃ k, m = k + 1 := ⟨m - 1, by omega⟩
  rw [h]; exact hN n k (by omega) (by omega)
theorem Ev.pure {r : R} : Ev (fun _ => some r) r := ⟨0, fun _ _ => rfl⟩
theorem Ev2.pure {r : R} : Ev2 (fun _ _ => some r) r := ⟨0, fun _ _ _ _ => rfl⟩
theorem Ev.bind {F : Nat → Option S} {G : Nat → S → Option R} {x : S} {r : R} (h : Ev F x) (hg : Ev (fun n => G n x) r) : Ev (fun n => (F n).bind (G n)) r := by
  obtain ⟨N, hN⟩ := h
  obtain ⟨M, hM⟩ := hg
  refine ⟨max N M, fun n hn => ?_⟩
  show (F n).bind (G n) = some r
  rw [hN n (by omega)]; exact hM n (by omega)
theorem Ev2.bind {F : Nat → Nat → Option S} {G : Nat → Nat → S → Option R} {x : S} {r : R} (h : Ev2 F x) (hg : Ev2 (fun n m => G n m x) r) : Ev2 (fun n m => (F n m).bind (G n m)) r := by
  obtain ⟨N, hN⟩ := h
  obtain ⟨M, hM⟩ := hg
  refine ⟨max N M, fun n m hn hm => ?_⟩
  show (F n m).bind (G n m) = some r
  rw [hN n m (by omega) (by omega)]; exact hM n m (by omega) (by omega)
theorem Ev2.bind1 {F : Nat → Option S} {G : Nat → Nat → S → Option R} {x : S} {r : R} (h : Ev F x) (hg : Ev2 (fun n m => G n m x) r) : Ev2 (fun n m => (F n).bind (G n m)) r :=
  Ev2.bind (F := fun n _ => F n) (Ev2.of1 h) hg
def Tot (F : Nat → Option R) (Q : R → Prop) : Prop := ∃ r, Q r ∧ Ev F r
def Tot2 (F : Nat → Nat → Option R) (Q : R → Prop) : Prop := ∃ r, Q r ∧ Ev2 F r
theorem Tot.fn {F G : Nat → Option R} {Q : R → Prop} (h : ∀ n, F (n + 1) = G n) (hg : Tot G Q) : Tot F Q := Exists.imp (fun _ k => ⟨k.1, Ev.fn h k.2⟩) hg
theorem Tot.of2 {F : Nat → Nat → Option R} {Q : R → Prop} (h : Tot2 F Q) : Tot (fun n => F n n) Q := Exists.imp (fun _ k => ⟨k.1, Ev.of2 k.2⟩) h
theorem Tot2.of1 {F : Nat → Option R} {Q : R → Prop} (h : Tot F Q) : Tot2 (fun n _ => F n) Q := Exists.imp (fun _ k => ⟨k.1, Ev2.of1 k.2⟩) h
theorem Tot2.lp {F G : Nat → Nat → Option R} {Q : R → Prop} (h : ∀ n m, F n (m + 1) = G n m) (hg : Tot2 G Q) : Tot2 F Q := Exists.imp (fun _ k => ⟨k.1, Ev2.lp h k.2⟩) hg
theorem Tot.pure {r : R} {Q : R → Prop} (h : Q r) : Tot (fun _ => some r) Q := ⟨r, h, Ev.pure⟩
theorem Tot2.pure {r : R} {Q : R → Prop} (h : Q r) : Tot2 (fun _ _ => some r) Q := ⟨r, h, Ev2.pure⟩
theorem Tot.bind {F : Nat → Option S} {G : Nat → S → Option R} {P : S → Prop} {Q : R → Prop} (h : Tot F P) (hg : ∀ x, P x → Tot (fun n => G n x) Q) : Tot (fun n => (F n).bind (G n)) Q := by
  obtain ⟨x, hx, hF⟩ := h
  obtain ⟨r, hr, hG⟩ := hg x hx
  exact ⟨r, hr, Ev.bind hF hG⟩
theorem Tot2.bind {F : Nat → Nat → Option S} {G : Nat → Nat → S → Option R} {P : S → Prop} {Q : R → Prop} (h : Tot2 F P) (hg : ∀ x, P x → Tot2 (fun n m => G n m x) Q) : Tot2 (fun n m => (F n m).bind (G n m)) Q := by
  obtain ⟨x, hx, hF⟩ := h
  obtain ⟨r, hr, hG⟩ := hg x hx
  exact ⟨r, hr, Ev2.bind hF hG⟩
theorem Tot2.bind1 {F : Nat → Option S} {G : Nat → Nat → S → Option R} {P : S → Prop} {Q : R → Prop} (h : Tot F P) (hg : ∀ x, P x → Tot2 (fun n m => G n m x) Q) : Tot2 (fun n m => (F n).bind (G n m)) Q :=
  Tot2.bind (F := fun n _ => F n) (Tot2.of1 h) hg
theorem Tot.idx {xs : List S} {i : Nat} {G : Nat → S → Option R} {Q : R → Prop} (hi : i < xs.length) (hg : Tot (fun n => G n xs[i]) Q) : Tot (fun n => (idxA xs (i : Int)).bind (G n)) Q := by
  have : idxA xs (i : Int) = some xs[i] := by simp [idxA, hi]
  simp only [this]; exact hg
theorem Tot2.idx {xs : List S} {i : Nat} {G : Nat → Nat → S → Option R} {Q : R → Prop} (hi : i < xs.length) (hg : Tot2 (fun n m => G n m xs[i]) Q) : Tot2 (fun n m => (idxA xs (i : Int)).bind (G n m)) Q := by
  have : idxA xs (i : Int) = some xs[i] := by simp [idxA, hi]
  simp only [this]; exact hg
theorem Tot.cnd {c : Bool} {A B : Nat → Option R} {Q : R → Prop} (h1 : c = true → Tot A Q) (h2 : c = false → Tot B Q) : Tot (fun n => bif c then A n else B n) Q := by
  cases c with
  | true => exact h1 rfl
  | false => exact h2 rfl
theorem Tot2.cnd {c : Bool} {A B : Nat → Nat → Option R} {Q : R → Prop} (h1 : c = true → Tot2 A Q) (h2 : c = false → Tot2 B Q) : Tot2 (fun n m => bif c then A n m else B n m) Q := by
  cases c with
  | true => exact h1 rfl
  | false => exact h2 rfl
theorem Tot.imp {F : Nat → Option R} {P Q : R → Prop} (h : Tot F P) (k : ∀ r, P r → Q r) : Tot F Q := Exists.imp (fun r x => ⟨k r x.1, x.2⟩) h
theorem Tot2.imp {F : Nat → Nat → Option R} {P Q : R → Prop} (h : Tot2 F P) (k : ∀ r, P r → Q r) : Tot2 F Q := Exists.imp (fun r x => ⟨k r x.1, x.2⟩) h
theorem Tot.ev {F : Nat → Option R} {r : R} (h : Tot F (· = r)) : Ev F r := by obtain ⟨s, rfl, h⟩ := h; exact h
theorem Ev.tot {F : Nat → Option R} {r : R} {Q : R → Prop} (h : Ev F r) (q : Q r) : Tot F Q := ⟨r, q, h⟩
theorem Tot2.up {L : Nat → Nat → Int → S → Option R} (len : Nat) (I : Nat → S → Prop) (Q : R → Prop)
    (h1 : ∀ i s, i < len → I i s → (∀ s', I (i + 1) s' → Tot2 (fun n m => L n m ((i + 1 : Nat) : Int) s') Q) → Tot2 (fun n m => L n m (i : Int) s) Q)
    (h2 : ∀ s, I len s → Tot2 (fun n m => L n m (len : Int) s) Q) : ∀ (i : Nat) (s : S), i ≤ len → I i s → Tot2 (fun n m => L n m (i : Int) s) Q := by
  intro i s hi h
  obtain ⟨k, hk⟩ : ∃ k, k = len - i := ⟨_, rfl⟩
  induction k generalizing i s with
  | zero => obtain rfl : i = len := by omega
            exact h2 s h
  | succ k ih => exact h1 i s (by omega) h fun s' hs => ih (i + 1) s' (by omega) hs (by omega)
theorem wrap_small {n : Int} (h : -9223372036854775808 ≤ n) (h2 : n ≤ 9223372036854775807) : IntKind.i64.wrap n = n := by
  simp only [IntKind.wrap, IntKind.signed, IntKind.bits, Bool.true_and, decide_eq_true_eq]
  split <;> rename_i h3 <;> simp only [decide_eq_true_eq, ge_iff_le] at h3 <;> omega
theorem wrap_next {i : Nat} (h : i < 9223372036854775807) : IntKind.i64.wrap ((i : Int) + 1) = ((i + 1 : Nat) : Int) := by
  rw [wrap_small (by omega) (by omega)]; rfl
theorem idxA_at {xs : List S} {i : Nat} (hi : i < xs.length) : idxA xs (i : Int) = some xs[i] := by simp [idxA, hi]
theorem Ev2.idx {xs : List S} {i : Nat} {G : Nat → Nat → S → Option R} {r : R} (hi : i < xs.length) (hg : Ev2 (fun n m => G n m xs[i]) r) : Ev2 (fun n m => (idxA xs (i : Int)).bind (G n m)) r := by
  simp only [idxA_at hi]; exact hg
noncomputable def eqb {α : Type} (a b : α) : Bool := @decide (a = b) (Classical.propDecidable _)
theorem eqb_iff {α : Type} {a b : α} : eqb a b = true ↔ a = b := by
  unfold eqb; exact @decide_eq_true_iff _ (Classical.propDecidable _)
theorem eqb_self {α : Type} (a : α) : eqb a a = true := eqb_iff.2 rfl
theorem eqb_false {α : Type} {a b : α} (h : a ≠ b) : eqb a b = false := by
  cases hc : eqb a b with
  | false => rfl
  | true => exact absurd (eqb_iff.1 hc) h
theorem eqb_cons {α : Type} (x y : α) (xs ys : List α) : eqb (x :: xs) (y :: ys) = (eqb x y && eqb xs ys) := by
  rw [Bool.eq_iff_iff, Bool.and_eq_true, eqb_iff, eqb_iff, eqb_iff, List.cons.injEq]
theorem eqb_len {α : Type} {xs ys : List α} (h : xs.length ≠ ys.length) : eqb xs ys = false := eqb_false fun e => h (by rw [e])
theorem Ev2.andThen {F : Nat → Nat → Option Bool} {c r : Bool} (h : Ev2 F r) : Ev2 (fun n m => bif c then F n m else some false) (c && r) := by
  cases c with
  | true => exact h
  | false => exact Ev2.pure
theorem Ev.andThen {F : Nat → Option Bool} {c r : Bool} (h : Ev F r) : Ev (fun n => bif c then F n else some false) (c && r) := by
  cases c with
  | true => exact h
  | false => exact Ev.pure
theorem Ev2.same {α : Type} {L : Nat → Nat → Int → Option Bool} (xs ys : List α) (hl : xs.length = ys.length)
    (h1 : ∀ (i : Nat) (hi : i < xs.length) (hj : i < ys.length) (r : Bool), Ev2 (fun n m => L n m ((i + 1 : Nat) : Int)) r → Ev2 (fun n m => L n m (i : Int)) (eqb xs[i] ys[i] && r))
    (h2 : Ev2 (fun n m => L n m (xs.length : Int)) true) : Ev2 (fun n m => L n m 0) (eqb xs ys) := by
  have key : ∀ (k i : Nat), k + i = xs.length → Ev2 (fun n m => L n m (i : Int)) (eqb (xs.drop i) (ys.drop i)) := by
    intro k
    induction k with
    | zero =>
      intro i hi
      obtain rfl : i = xs.length := by omega
      rw [List.drop_length, hl, List.drop_length, eqb_self, ← hl]
      exact h2
    | succ k ih =>
      intro i hi
      have hi1 : i < xs.length := by omega
      have hi2 : i < ys.length := by omega
      rw [List.drop_eq_getElem_cons hi1, List.drop_eq_getElem_cons hi2, eqb_cons]
      exact h1 i hi1 hi2 _ (ih (i + 1) (by omega))
  have := key xs.length 0 (by omega)
  simpa using this
end Go.Abs
namespace Go.Abs
set_option linter.unusedVariables false
set_option linter.unusedSimpArgs false
theorem sumB_mem {α : Type} {f : α → Nat} : ∀ {xs : List α} {x : α}, x ∈ xs → f x ≤ sumB f xs
  | y :: ys, x, h => by
    simp only [sumB]
    rcases List.mem_cons.mp h with rfl | h
    · omega
    · have := sumB_mem (f := f) h; omega
theorem sumB_len {α : Type} {f : α → Nat} (h : ∀ x, 1 ≤ f x) : ∀ xs : List α, xs.length ≤ sumB f xs
  | [] => by simp [sumB]
  | y :: ys => by have := sumB_len h ys; have := h y; simp only [sumB, List.length_cons]; omega
theorem Term.bulk_pos (x : Term) : 1 ≤ x.bulk := by rw [Term.bulk_eq]; omega
theorem Level.bulk_pos (x : Level) : 1 ≤ x.bulk := by rw [Level.bulk]; omega
theorem Zs2.bulk_pos (x : Zs2) : 1 ≤ x.bulk := by rw [Zs2.bulk]; omega
theorem Branch.bulk_pos (x : Branch) : 1 ≤ x.bulk := by rw [Branch.bulk_eq]; omega
theorem Term.kids_len (x : Term) : x.kids.length < x.bulk := by rw [Term.bulk_eq]; have := sumB_len Term.bulk_pos x.kids; omega
theorem Term.levels_len (x : Term) : x.levels.length < x.bulk := by rw [Term.bulk_eq]; have := sumB_len Level.bulk_pos x.levels; omega
theorem Term.name_len (x : Term) : x.name.length < x.bulk := by rw [Term.bulk_eq]; omega
theorem Level.vars_len (x : Level) : x.vars.length < x.bulk := by rw [Level.bulk]; have := sumB_len Zs2.bulk_pos x.vars; omega
theorem Term.kid_lt {x t : Term} (h : t ∈ x.kids) : t.bulk < x.bulk := by rw [Term.bulk_eq x]; have := sumB_mem (f := Term.bulk) h; omega
theorem Term.level_lt {x : Term} {l : Level} (h : l ∈ x.levels) : l.bulk < x.bulk := by rw [Term.bulk_eq x]; have := sumB_mem (f := Level.bulk) h; omega
def lim : Nat := 9223372036854775807
abbrev Yes {R : Type} : R → Prop := fun _ => True
theorem z1v_tot : ∀ (t : Term), t.bulk < lim → Tot (fun n => z1v n t) Yes := by
  intro t
  induction h : t.bulk using Nat.strongRecOn generalizing t with
  | ind k ih =>
    intro hk
    have hl := t.kids_len
    refine Tot.fn (fun n => by simp only [z1v, z1v_e]; exact rfl) ?_
    refine Tot.of2 (F := fun n m => z1v_l1 (z1v n) n m 1 0 t) ?_
    refine Tot2.up (S := Int) (L := fun n m i s => z1v_l1 (z1v n) n m s i t) t.kids.length (fun _ _ => True) Yes ?_ ?_ 0 1 (by omega) trivial
    · intro i s hi _ next
      refine Tot2.lp (fun n m => by simp only [z1v_l1, z1v_b1]; exact rfl) ?_
      simp only [hi, Int.ofNat_lt, decide_true, cond_true]
      refine Tot2.idx hi ?_
      have hm := t.kid_lt (List.getElem_mem hi)
      refine Tot2.bind1 (ih _ (by omega) _ rfl (by omega)) fun x _ => ?_
      rw [wrap_next (by unfold lim at hk; omega)]
      exact next _ trivial
    · intro s _
      refine Tot2.lp (fun n m => by simp only [z1v_l1, z1v_b1]; exact rfl) ?_
      simp only [Int.lt_irrefl, decide_false, cond_false]
      exact Tot2.pure trivial
theorem z1i_tot : ∀ (t : Term), t.bulk < lim → Tot (fun n => z1i n t) Yes := by
  intro t
  induction h : t.bulk using Nat.strongRecOn generalizing t with
  | ind k ih =>
    intro hk
    have hl := t.kids_len
    refine Tot.fn (fun n => by simp only [z1i, z1i_e]; exact rfl) ?_
    refine Tot.of2 (F := fun n m => z1i_l1 (z1i n) n m 0 0 t) ?_
    refine Tot2.up (S := Int) (L := fun n m i s => z1i_l1 (z1i n) n m s i t) t.kids.length (fun _ _ => True) Yes ?_ ?_ 0 0 (by omega) trivial
    · intro i s hi _ next
      refine Tot2.lp (fun n m => by simp only [z1i_l1, z1i_b1]; exact rfl) ?_
      simp only [hi, Int.ofNat_lt, decide_true, cond_true]
      refine Tot2.idx hi ?_
      have hm := t.kid_lt (List.getElem_mem hi)
      refine Tot2.bind1 (ih _ (by omega) _ rfl (by omega)) fun x _ => ?_
      rw [wrap_next (by unfold lim at hk; omega)]
      exact next _ trivial
    · intro s _
      refine Tot2.lp (fun n m => by simp only [z1i_l1, z1i_b1]; exact rfl) ?_
      simp only [Int.lt_irrefl, decide_false, cond_false]
      exact Tot2.pure trivial
theorem z1s_tot (k : Int) : Tot (fun n => z1s n k) Yes := by
  refine Tot.fn (fun n => by simp only [z1s, z1s_e]; exact rfl) ?_
  (repeat' (first | exact Tot.pure trivial | exact Tot2.pure trivial | refine Tot.cnd (fun _ => ?_) (fun _ => ?_) | refine Tot2.cnd (fun _ => ?_) (fun _ => ?_)))
theorem z1g_tot (k i : Int) : Tot (fun n => z1g n k i) Yes := by
  refine Tot.fn (fun n => by simp only [z1g, z1g_e]; exact rfl) ?_
  (repeat' (first | exact Tot.pure trivial | exact Tot2.pure trivial | refine Tot.cnd (fun _ => ?_) (fun _ => ?_) | refine Tot2.cnd (fun _ => ?_) (fun _ => ?_)))
theorem z12_tot (k : Int) : Tot (fun n => z12 n k) Yes := by
  refine Tot.fn (fun n => by simp only [z12, z12_e]; exact rfl) ?_
  (repeat' (first | exact Tot.pure trivial | exact Tot2.pure trivial | refine Tot.cnd (fun _ => ?_) (fun _ => ?_) | refine Tot2.cnd (fun _ => ?_) (fun _ => ?_)))
theorem z1f_tot (l : Level) (hk : l.bulk < lim) : Tot (fun n => z1f n l) Yes := by
  have hl := l.vars_len
  refine Tot.fn (fun n => by simp only [z1f, z1f_e]; exact rfl) ?_
  (repeat' (first | exact Tot.pure trivial | exact Tot2.pure trivial | refine Tot.cnd (fun _ => ?_) (fun _ => ?_) | refine Tot2.cnd (fun _ => ?_) (fun _ => ?_)))
  refine Tot.of2 (F := fun n m => z1f_l1 n m 0 l) ?_
  refine Tot2.up (S := Unit) (L := fun n m i s => z1f_l1 n m i l) l.vars.length (fun _ _ => True) Yes ?_ ?_ 0 () (by omega) trivial
  · intro i s hi _ next
    refine Tot2.lp (fun n m => by simp only [z1f_l1, z1f_b1]; exact rfl) ?_
    simp only [hi, Int.ofNat_lt, decide_true, cond_true]
    refine Tot2.idx hi ?_
    (repeat' (first | exact Tot.pure trivial | exact Tot2.pure trivial | refine Tot.cnd (fun _ => ?_) (fun _ => ?_) | refine Tot2.cnd (fun _ => ?_) (fun _ => ?_)))
    · rename_i h0
      have h0 : 0 < (i : Int) := by simpa using h0
      have e : IntKind.i64.wrap ((i : Int) - 1) = ((i - 1 : Nat) : Int) := by rw [wrap_small (by omega) (by unfold lim at hk; omega)]; omega
      simp only [e]
      refine Tot2.idx (by omega) ?_
      rw [wrap_next (by unfold lim at hk; omega)]
      (repeat' (first | exact Tot.pure trivial | exact Tot2.pure trivial | refine Tot.cnd (fun _ => ?_) (fun _ => ?_) | refine Tot2.cnd (fun _ => ?_) (fun _ => ?_)))
      all_goals exact next s trivial
    all_goals (rw [wrap_next (by unfold lim at hk; omega)]; exact next s trivial)
  · intro s _
    refine Tot2.lp (fun n m => by simp only [z1f_l1, z1f_b1]; exact rfl) ?_
    simp only [Int.lt_irrefl, decide_false, cond_false]
    exact Tot2.pure trivial
theorem z1t_tot (s : Str) (hk : s.length < lim) : Tot (fun n => z1t n s) Yes := by
  refine Tot.fn (fun n => by simp only [z1t, z1t_e]; exact rfl) ?_
  (repeat' (first | exact Tot.pure trivial | exact Tot2.pure trivial | refine Tot.cnd (fun _ => ?_) (fun _ => ?_) | refine Tot2.cnd (fun _ => ?_) (fun _ => ?_)))
  refine Tot.of2 (F := fun n m => z1t_l1 n m s true 0) ?_
  refine Tot2.up (S := Bool) (L := fun n m i b => z1t_l1 n m s b i) s.length (fun _ _ => True) Yes ?_ ?_ 0 true (by omega) trivial
  · intro i b hi _ next
    refine Tot2.lp (fun n m => by simp only [z1t_l1, z1t_b1]; exact rfl) ?_
    simp only [hi, Int.ofNat_lt, decide_true, cond_true]
    refine Tot2.idx hi ?_
    rw [wrap_next (by unfold lim at hk; omega)]
    (repeat' (first | exact Tot.pure trivial | exact Tot2.pure trivial | refine Tot.cnd (fun _ => ?_) (fun _ => ?_) | refine Tot2.cnd (fun _ => ?_) (fun _ => ?_)))
    · refine Tot2.bind1 (z12_tot _) fun x _ => ?_
      (repeat' (first | exact Tot.pure trivial | exact Tot2.pure trivial | refine Tot.cnd (fun _ => ?_) (fun _ => ?_) | refine Tot2.cnd (fun _ => ?_) (fun _ => ?_)))
      exact next _ trivial
    · exact next _ trivial
    · refine Tot2.bind1 (z12_tot _) fun x _ => ?_
      (repeat' (first | exact Tot.pure trivial | exact Tot2.pure trivial | refine Tot.cnd (fun _ => ?_) (fun _ => ?_) | refine Tot2.cnd (fun _ => ?_) (fun _ => ?_)))
      all_goals exact next _ trivial
  · intro s _
    refine Tot2.lp (fun n m => by simp only [z1t_l1, z1t_b1]; exact rfl) ?_
    simp only [Int.lt_irrefl, decide_false, cond_false]
    exact Tot2.pure trivial
theorem z1k_tot (l : Level) (p q : Int) (hk : l.bulk < lim) : Tot (fun n => z1k n l p q) Yes := by
  have hl := l.vars_len
  refine Tot.fn (fun n => by simp only [z1k, z1k_e]; exact rfl) ?_
  refine Tot.bind (z1f_tot l hk) fun x _ => ?_
  (repeat' (first | exact Tot.pure trivial | exact Tot2.pure trivial | refine Tot.cnd (fun _ => ?_) (fun _ => ?_) | refine Tot2.cnd (fun _ => ?_) (fun _ => ?_)))
  have k1 : Tot (fun n => z1k_l1 n n q 0 l) Yes := by
    refine Tot.of2 (F := fun n m => z1k_l1 n m q 0 l) ?_
    refine Tot2.up (S := Unit) (L := fun n m i s => z1k_l1 n m q i l) l.vars.length (fun _ _ => True) Yes ?_ ?_ 0 () (by omega) trivial
    · intro i s hi _ next
      refine Tot2.lp (fun n m => by simp only [z1k_l1, z1k_b1]; exact rfl) ?_
      simp only [hi, Int.ofNat_lt, decide_true, cond_true]
      refine Tot2.idx hi ?_
      rw [wrap_next (by unfold lim at hk; omega)]
      (repeat' (first | exact Tot.pure trivial | exact Tot2.pure trivial | refine Tot.cnd (fun _ => ?_) (fun _ => ?_) | refine Tot2.cnd (fun _ => ?_) (fun _ => ?_)))
      · refine Tot2.idx hi ?_
        (repeat' (first | exact Tot.pure trivial | exact Tot2.pure trivial | refine Tot.cnd (fun _ => ?_) (fun _ => ?_) | refine Tot2.cnd (fun _ => ?_) (fun _ => ?_)))
        exact next s trivial
      · exact next s trivial
    · intro s _
      refine Tot2.lp (fun n m => by simp only [z1k_l1, z1k_b1]; exact rfl) ?_
      simp only [Int.lt_irrefl, decide_false, cond_false]
      exact Tot2.pure trivial
  refine Tot.of2 (F := fun n m => z1k_l2 n m p q 0 l) ?_
  refine Tot2.up (S := Unit) (L := fun n m i s => z1k_l2 n m p q i l) l.vars.length (fun _ _ => True) Yes ?_ ?_ 0 () (by omega) trivial
  · intro i s hi _ next
    refine Tot2.lp (fun n m => by simp only [z1k_l2, z1k_b2]; exact rfl) ?_
    simp only [hi, Int.ofNat_lt, decide_true, cond_true]
    refine Tot2.idx hi ?_
    rw [wrap_next (by unfold lim at hk; omega)]
    (repeat' (first | exact Tot.pure trivial | exact Tot2.pure trivial | refine Tot.cnd (fun _ => ?_) (fun _ => ?_) | refine Tot2.cnd (fun _ => ?_) (fun _ => ?_)))
    · refine Tot2.idx hi ?_
      (repeat' (first | exact Tot.pure trivial | exact Tot2.pure trivial | refine Tot.cnd (fun _ => ?_) (fun _ => ?_) | refine Tot2.cnd (fun _ => ?_) (fun _ => ?_)))
      exact next s trivial
    · exact next s trivial
  · intro s _
    refine Tot2.lp (fun n m => by simp only [z1k_l2, z1k_b2]; exact rfl) ?_
    simp only [Int.lt_irrefl, decide_false, cond_false]
    exact Tot2.of1 k1
theorem z1w_tot (t : Term) : Tot (fun n => z1w n t) Yes := by
  refine Tot.fn (fun n => by simp only [z1w, z1w_e]; exact rfl) ?_
  (repeat' (first | exact Tot.pure trivial | exact Tot2.pure trivial | refine Tot.cnd (fun _ => ?_) (fun _ => ?_) | refine Tot2.cnd (fun _ => ?_) (fun _ => ?_)))
  refine Tot.bind (z1s_tot _) fun x _ => ?_
  (repeat' (first | exact Tot.pure trivial | exact Tot2.pure trivial | refine Tot.cnd (fun _ => ?_) (fun _ => ?_) | refine Tot2.cnd (fun _ => ?_) (fun _ => ?_)))
theorem z1j_tot : ∀ (t : Term) (a b c d e : Int), t.bulk < lim → Tot (fun n => z1j n t a b c d e) Yes := by
  intro t
  induction h : t.bulk using Nat.strongRecOn generalizing t with
  | ind k ih =>
    intro a b c d e hk
    have hl := t.kids_len
    have hl2 := t.levels_len
    have hl3 := t.name_len
    refine Tot.fn (fun n => by simp only [z1j, z1j_e]; exact rfl) ?_
    have k1 : Tot (fun n => z1j_l1 (z1j n) n n a b c d e 0 t) Yes := by
      refine Tot.of2 (F := fun n m => z1j_l1 (z1j n) n m a b c d e 0 t) ?_
      refine Tot2.up (S := Unit) (L := fun n m i s => z1j_l1 (z1j n) n m a b c d e i t) t.kids.length (fun _ _ => True) Yes ?_ ?_ 0 () (by omega) trivial
      · intro i s hi _ next
        refine Tot2.lp (fun n m => by simp only [z1j_l1, z1j_b1]; exact rfl) ?_
        simp only [hi, Int.ofNat_lt, decide_true, cond_true]
        refine Tot2.idx hi ?_
        have hm := t.kid_lt (List.getElem_mem hi)
        rw [wrap_next (by unfold lim at hk; omega)]
        refine Tot2.bind1 (z1g_tot _ _) fun x _ => ?_
        refine Tot2.bind1 (ih _ (by omega) _ rfl _ _ _ _ _ (by omega)) fun x _ => ?_
        (repeat' (first | exact Tot.pure trivial | exact Tot2.pure trivial | refine Tot.cnd (fun _ => ?_) (fun _ => ?_) | refine Tot2.cnd (fun _ => ?_) (fun _ => ?_)))
        exact next s trivial
      · intro s _
        refine Tot2.lp (fun n m => by simp only [z1j_l1, z1j_b1]; exact rfl) ?_
        simp only [Int.lt_irrefl, decide_false, cond_false]
        exact Tot2.pure trivial
    have k2 : Tot (fun n => z1j_l2 (z1j n) n n a b c d e 0 t) Yes := by
      refine Tot.of2 (F := fun n m => z1j_l2 (z1j n) n m a b c d e 0 t) ?_
      refine Tot2.up (S := Unit) (L := fun n m i s => z1j_l2 (z1j n) n m a b c d e i t) t.levels.length (fun _ _ => True) Yes ?_ ?_ 0 () (by omega) trivial
      · intro i s hi _ next
        refine Tot2.lp (fun n m => by simp only [z1j_l2, z1j_b2]; exact rfl) ?_
        simp only [hi, Int.ofNat_lt, decide_true, cond_true]
        refine Tot2.idx hi ?_
        have hm := t.level_lt (List.getElem_mem hi)
        rw [wrap_next (by unfold lim at hk; omega)]
        refine Tot2.bind1 (z1k_tot _ _ _ (by omega)) fun x _ => ?_
        (repeat' (first | exact Tot.pure trivial | exact Tot2.pure trivial | refine Tot.cnd (fun _ => ?_) (fun _ => ?_) | refine Tot2.cnd (fun _ => ?_) (fun _ => ?_)))
        exact next s trivial
      · intro s _
        refine Tot2.lp (fun n m => by simp only [z1j_l2, z1j_b2]; exact rfl) ?_
        simp only [Int.lt_irrefl, decide_false, cond_false]
        (repeat' (first | exact Tot.pure trivial | exact Tot2.pure trivial | refine Tot.cnd (fun _ => ?_) (fun _ => ?_) | refine Tot2.cnd (fun _ => ?_) (fun _ => ?_)))
        all_goals exact Tot2.of1 k1
    refine Tot.bind (z1w_tot _) fun x _ => ?_
    (repeat' (first | exact Tot.pure trivial | exact Tot2.pure trivial | refine Tot.cnd (fun _ => ?_) (fun _ => ?_) | refine Tot2.cnd (fun _ => ?_) (fun _ => ?_)))
    · refine Tot.bind (z1t_tot _ (by omega)) fun x _ => ?_
      (repeat' (first | exact Tot.pure trivial | exact Tot2.pure trivial | refine Tot.cnd (fun _ => ?_) (fun _ => ?_) | refine Tot2.cnd (fun _ => ?_) (fun _ => ?_)))
      exact k2
    · exact k2
theorem z1h_tot (t : Term) (a b c d : Int) (hk : t.bulk < lim) : Tot (fun n => z1h n t a b c d) Yes := by
  refine Tot.fn (fun n => by simp only [z1h, z1h_e]; exact rfl) ?_
  refine Tot.bind (z1j_tot _ _ _ _ _ _ hk) fun x _ => ?_
  (repeat' (first | exact Tot.pure trivial | exact Tot2.pure trivial | refine Tot.cnd (fun _ => ?_) (fun _ => ?_) | refine Tot2.cnd (fun _ => ?_) (fun _ => ?_)))
  refine Tot.bind (z1v_tot _ hk) fun x _ => ?_
  (repeat' (first | exact Tot.pure trivial | exact Tot2.pure trivial | refine Tot.cnd (fun _ => ?_) (fun _ => ?_) | refine Tot2.cnd (fun _ => ?_) (fun _ => ?_)))
  refine Tot.bind (z1i_tot _ hk) fun x _ => ?_
  (repeat' (first | exact Tot.pure trivial | exact Tot2.pure trivial | refine Tot.cnd (fun _ => ?_) (fun _ => ?_) | refine Tot2.cnd (fun _ => ?_) (fun _ => ?_)))
theorem z19_tot (t : Term) (hk : t.bulk < lim) : Tot (fun n => z19 n t) Yes := by
  refine Tot.fn (fun n => by simp only [z19, z19_e]; exact rfl) ?_
  refine Tot.bind (z1v_tot _ hk) fun x _ => ?_
  (repeat' (first | exact Tot.pure trivial | exact Tot2.pure trivial | refine Tot.cnd (fun _ => ?_) (fun _ => ?_) | refine Tot2.cnd (fun _ => ?_) (fun _ => ?_)))
  refine Tot.bind (z1i_tot _ hk) fun x _ => ?_
  (repeat' (first | exact Tot.pure trivial | exact Tot2.pure trivial | refine Tot.cnd (fun _ => ?_) (fun _ => ?_) | refine Tot2.cnd (fun _ => ?_) (fun _ => ?_)))
theorem Tree.branches_len (x : Tree) : x.branches.length < x.bulk := by rw [Tree.bulk_eq]; have := sumB_len Branch.bulk_pos x.branches; omega
theorem Tree.body_lt (x : Tree) : x.body.bulk < x.bulk := by rw [Tree.bulk_eq]; omega
theorem Tree.kid_lt {x : Tree} {b : Branch} (h : b ∈ x.branches) : b.tree.bulk < x.bulk := by rw [Tree.bulk_eq x]; have := sumB_mem (f := Branch.bulk) h; rw [Branch.bulk_eq] at this; omega
theorem z0j_tot : ∀ (t : Tree) (a : Int), t.bulk < lim → Tot (fun n => z0j n t a) Yes := by
  intro t
  induction h : t.bulk using Nat.strongRecOn generalizing t with
  | ind k ih =>
    intro a hk
    have hl := t.branches_len
    have hl2 := t.body_lt
    refine Tot.fn (fun n => by simp only [z0j, z0j_e]; exact rfl) ?_
    (repeat' (first | exact Tot.pure trivial | exact Tot2.pure trivial | refine Tot.cnd (fun _ => ?_) (fun _ => ?_) | refine Tot2.cnd (fun _ => ?_) (fun _ => ?_)))
    refine Tot.bind (z19_tot _ (by omega)) fun x _ => ?_
    (repeat' (first | exact Tot.pure trivial | exact Tot2.pure trivial | refine Tot.cnd (fun _ => ?_) (fun _ => ?_) | refine Tot2.cnd (fun _ => ?_) (fun _ => ?_)))
    refine Tot.of2 (F := fun n m => z0j_l1 (z0j n) n m a 0 t) ?_
    refine Tot2.up (S := Unit) (L := fun n m i s => z0j_l1 (z0j n) n m a i t) t.branches.length (fun _ _ => True) Yes ?_ ?_ 0 () (by omega) trivial
    · intro i s hi _ next
      refine Tot2.lp (fun n m => by simp only [z0j_l1, z0j_b1]; exact rfl) ?_
      simp only [hi, Int.ofNat_lt, decide_true, cond_true]
      refine Tot2.idx hi ?_
      have hm := t.kid_lt (List.getElem_mem hi)
      rw [wrap_next (by unfold lim at hk; omega)]
      refine Tot2.bind1 (ih _ (by omega) _ rfl _ (by omega)) fun x _ => ?_
      (repeat' (first | exact Tot.pure trivial | exact Tot2.pure trivial | refine Tot.cnd (fun _ => ?_) (fun _ => ?_) | refine Tot2.cnd (fun _ => ?_) (fun _ => ?_)))
      refine Tot2.idx hi ?_
      (repeat' (first | exact Tot.pure trivial | exact Tot2.pure trivial | refine Tot.cnd (fun _ => ?_) (fun _ => ?_) | refine Tot2.cnd (fun _ => ?_) (fun _ => ?_)))
      exact next s trivial
    · intro s _
      refine Tot2.lp (fun n m => by simp only [z0j_l1, z0j_b1]; exact rfl) ?_
      simp only [Int.lt_irrefl, decide_false, cond_false]
      exact Tot2.pure trivial
end Go.Abs
namespace Go.Abs
set_option linter.unusedVariables false
set_option linter.unusedSimpArgs false
theorem eqb_LevelVar (a b : Zs2) : eqb a b = (a.index == b.index && a.plus == b.plus) := by
  rw [Bool.eq_iff_iff, eqb_iff, Bool.and_eq_true, beq_iff_eq, beq_iff_eq]
  cases a; cases b; simp
theorem eqb_Level (a b : Level) : eqb a b = (a.const == b.const && eqb a.vars b.vars) := by
  rw [Bool.eq_iff_iff, eqb_iff, Bool.and_eq_true, beq_iff_eq, eqb_iff]
  cases a; cases b; simp
theorem eqb_Term (a b : Term) : eqb a b = (a.kind == b.kind && (a.index == b.index && (a.name == b.name && (eqb a.levels b.levels && eqb a.kids b.kids)))) := by
  rw [Bool.eq_iff_iff, eqb_iff]
  simp only [Bool.and_eq_true, beq_iff_eq, eqb_iff]
  cases a; cases b
  simp only [Term.mk.injEq, Term.kind, Term.index, Term.name, Term.levels, Term.kids]
theorem intlen {α β : Type} (xs : List α) (ys : List β) : ((xs.length : Int) != (ys.length : Int)) = (xs.length != ys.length) := by
  rw [Bool.eq_iff_iff, bne_iff_ne, bne_iff_ne]; omega
theorem z07_ev (a b : List Zs2) (hk : a.length < lim) : Ev (fun n => z07 n a b) (eqb a b) := by
  refine Ev.fn (fun n => by simp only [z07, z07_e]; exact rfl) ?_
  by_cases hl : a.length = b.length
  · have e : ((a.length : Int) != (b.length : Int)) = false := by rw [intlen, hl]; simp
    simp only [e, cond_false]
    refine Ev.of2 (F := fun n m => z07_l1 n m a b a.length 0) ?_
    refine Ev2.same (L := fun n m i => z07_l1 n m a b a.length i) a b hl ?_ ?_
    · intro i hi hj r hr
      refine Ev2.lp (fun n m => by simp only [z07_l1, z07_b1]; exact rfl) ?_
      simp only [hi, Int.ofNat_lt, decide_true, cond_true]
      rw [wrap_next (by unfold lim at hk; omega), eqb_LevelVar]
      exact Ev2.idx hi (Ev2.idx hj (Ev2.andThen hr))
    · refine Ev2.lp (fun n m => by simp only [z07_l1, z07_b1]; exact rfl) ?_
      simp only [Int.lt_irrefl, decide_false, cond_false]
      exact Ev2.pure
  · have e : ((a.length : Int) != (b.length : Int)) = true := by rw [intlen]; simpa using hl
    simp only [e, cond_true]
    rw [eqb_len hl]
    exact Ev.pure
theorem z0w_ev (a b : Level) (hk : a.bulk < lim) : Ev (fun n => z0w n a b) (eqb a b) := by
  have := a.vars_len
  refine Ev.fn (fun n => by simp only [z0w, z0w_e]; exact rfl) ?_
  rw [eqb_Level]
  exact Ev.andThen (Ev.bind (z07_ev _ _ (by omega)) Ev.pure)
theorem z01_ev (a b : List Level) (hk : a.length < lim) (hb : ∀ l ∈ a, l.bulk < lim) : Ev (fun n => z01 n a b ()) (eqb a b) := by
  refine Ev.fn (fun n => by simp only [z01, z01_e]; exact rfl) ?_
  by_cases hl : a.length = b.length
  · have e : ((a.length : Int) != (b.length : Int)) = false := by rw [intlen, hl]; simp
    simp only [e, cond_false]
    refine Ev.of2 (F := fun n m => z01_l1 n m b a a.length 0) ?_
    refine Ev2.same (L := fun n m i => z01_l1 n m b a a.length i) a b hl ?_ ?_
    · intro i hi hj r hr
      refine Ev2.lp (fun n m => by simp only [z01_l1, z01_b1]; exact rfl) ?_
      simp only [hi, Int.ofNat_lt, decide_true, cond_true]
      rw [wrap_next (by unfold lim at hk; omega)]
      exact Ev2.idx hi (Ev2.idx hj (Ev2.bind1 (z0w_ev _ _ (hb _ (List.getElem_mem hi))) (Ev2.andThen hr)))
    · refine Ev2.lp (fun n m => by simp only [z01_l1, z01_b1]; exact rfl) ?_
      simp only [Int.lt_irrefl, decide_false, cond_false]
      exact Ev2.pure
  · have e : ((a.length : Int) != (b.length : Int)) = true := by rw [intlen]; simpa using hl
    simp only [e, cond_true]
    rw [eqb_len hl]
    exact Ev.pure
theorem z02_of (a b : List Term) (hk : a.length < lim) (hb : ∀ x ∈ a, ∀ y, Ev (fun n => z25 n x y) (eqb x y)) : Ev (fun n => z02 n a b ()) (eqb a b) := by
  refine Ev.fn (fun n => by simp only [z02, z02_e]; exact rfl) ?_
  by_cases hl : a.length = b.length
  · have e : ((a.length : Int) != (b.length : Int)) = false := by rw [intlen, hl]; simp
    simp only [e, cond_false]
    refine Ev.of2 (F := fun n m => z02_l1 (z25 n) (z02 n) n m b a a.length 0) ?_
    refine Ev2.same (L := fun n m i => z02_l1 (z25 n) (z02 n) n m b a a.length i) a b hl ?_ ?_
    · intro i hi hj r hr
      refine Ev2.lp (fun n m => by simp only [z02_l1, z02_b1]; exact rfl) ?_
      simp only [hi, Int.ofNat_lt, decide_true, cond_true]
      rw [wrap_next (by unfold lim at hk; omega)]
      exact Ev2.idx hi (Ev2.idx hj (Ev2.bind1 (hb _ (List.getElem_mem hi) _) (Ev2.andThen hr)))
    · refine Ev2.lp (fun n m => by simp only [z02_l1, z02_b1]; exact rfl) ?_
      simp only [Int.lt_irrefl, decide_false, cond_false]
      exact Ev2.pure
  · have e : ((a.length : Int) != (b.length : Int)) = true := by rw [intlen]; simpa using hl
    simp only [e, cond_true]
    rw [eqb_len hl]
    exact Ev.pure
theorem z25_ev : ∀ (a b : Term), a.bulk < lim → Ev (fun n => z25 n a b) (eqb a b) := by
  intro a
  induction h : a.bulk using Nat.strongRecOn generalizing a with
  | ind k ih =>
    intro b hk
    have h1 := a.kids_len
    have h2 := a.levels_len
    refine Ev.fn (fun n => by simp only [z25, z25_e]; exact rfl) ?_
    rw [eqb_Term]
    refine Ev.andThen (Ev.andThen (Ev.andThen (Ev.bind (z01_ev _ _ (by omega) ?_) (Ev.andThen (Ev.bind (z02_of _ _ (by omega) ?_) Ev.pure)))))
    · intro l hl; have := a.level_lt hl; omega
    · intro x hx y; have := a.kid_lt hx; exact ih x.bulk (by omega) x rfl y (by omega)
theorem z02_ev (a b : List Term) (hk : a.length < lim) (hb : ∀ x ∈ a, x.bulk < lim) : Ev (fun n => z02 n a b ()) (eqb a b) :=
  z02_of a b hk fun x hx y => z25_ev x y (hb x hx)
theorem z03_ev (a b : List Term) (hk : a.length < lim) (hb : ∀ x ∈ a, x.bulk < lim) : Ev (fun n => z03 n a b ()) (eqb a b) := by
  refine Ev.fn (fun n => by simp only [z03, z03_e]; exact rfl) ?_
  have e : eqb a b = (((a.length : Int) == (b.length : Int)) && eqb a b) := by
    by_cases hl : a.length = b.length
    · rw [hl]; simp
    · rw [eqb_len hl]; simp
  rw [e]
  exact Ev.andThen (Ev.bind (z02_ev a b hk hb) Ev.pure)
theorem z1r_ev (a b : Level) (hk : a.bulk < lim) : Ev (fun n => z1r n a b) (eqb a b) := by
  have h1 := a.vars_len
  refine Ev.fn (fun n => by simp only [z1r, z1r_e]; exact rfl) ?_
  rw [eqb_Level]
  cases hc : (a.const == b.const) with
  | false =>
    have e : (a.const != b.const) = true := by simp only [bne, hc, Bool.not_false]
    simp only [e, cond_true, Bool.false_and]
    exact Ev.pure
  | true =>
    have e : (a.const != b.const) = false := by simp only [bne, hc, Bool.not_true]
    simp only [e, cond_false, Bool.true_and]
    by_cases hl : a.vars.length = b.vars.length
    · have e : ((a.vars.length : Int) != (b.vars.length : Int)) = false := by rw [intlen, hl]; simp
      simp only [e, cond_false]
      refine Ev.of2 (F := fun n m => z1r_l1 n m 0 a b) ?_
      refine Ev2.same (L := fun n m i => z1r_l1 n m i a b) a.vars b.vars hl ?_ ?_
      · intro i hi hj r hr
        refine Ev2.lp (fun n m => by simp only [z1r_l1, z1r_b1]; exact rfl) ?_
        simp only [hi, Int.ofNat_lt, decide_true, cond_true]
        rw [wrap_next (by unfold lim at hk; omega), eqb_LevelVar]
        exact Ev2.idx hi (Ev2.idx hj (Ev2.andThen hr))
      · refine Ev2.lp (fun n m => by simp only [z1r_l1, z1r_b1]; exact rfl) ?_
        simp only [Int.lt_irrefl, decide_false, cond_false]
        exact Ev2.pure
    · have e : ((a.vars.length : Int) != (b.vars.length : Int)) = true := by rw [intlen]; simpa using hl
      simp only [e, cond_true]
      rw [eqb_len hl]
      exact Ev.pure
theorem z0k_ev (a b : List Level) (hk : a.length < lim) (hb : ∀ l ∈ a, l.bulk < lim) : Ev (fun n => z0k n a b) (eqb a b) := by
  refine Ev.fn (fun n => by simp only [z0k, z0k_e]; exact rfl) ?_
  by_cases hl : a.length = b.length
  · have e : ((a.length : Int) != (b.length : Int)) = false := by rw [intlen, hl]; simp
    simp only [e, cond_false]
    refine Ev.of2 (F := fun n m => z0k_l1 n m a b 0) ?_
    refine Ev2.same (L := fun n m i => z0k_l1 n m a b i) a b hl ?_ ?_
    · intro i hi hj r hr
      refine Ev2.lp (fun n m => by simp only [z0k_l1, z0k_b1]; exact rfl) ?_
      simp only [hi, Int.ofNat_lt, decide_true, cond_true]
      rw [wrap_next (by unfold lim at hk; omega)]
      exact Ev2.idx hi (Ev2.idx hj (Ev2.bind1 (z1r_ev _ _ (hb _ (List.getElem_mem hi))) (Ev2.andThen hr)))
    · refine Ev2.lp (fun n m => by simp only [z0k_l1, z0k_b1]; exact rfl) ?_
      simp only [Int.lt_irrefl, decide_false, cond_false]
      exact Ev2.pure
  · have e : ((a.length : Int) != (b.length : Int)) = true := by rw [intlen]; simpa using hl
    simp only [e, cond_true]
    rw [eqb_len hl]
    exact Ev.pure
theorem Ev.orElse {F : Nat → Option Bool} {c : Bool} {r : Bool} (h : Ev F r) : Ev (fun n => bif !c then some false else F n) (c && r) := by
  cases c with
  | true => exact h
  | false => exact Ev.pure
theorem z1u_ev : ∀ (a b : Term), a.bulk < lim → Ev (fun n => z1u n a b) (eqb a b) := by
  intro a
  induction h : a.bulk using Nat.strongRecOn generalizing a with
  | ind k ih =>
    intro b hk
    have h1 := a.kids_len
    have h2 := a.levels_len
    refine Ev.fn (fun n => by simp only [z1u, z1u_e]; exact rfl) ?_
    rw [eqb_Term]
    refine Ev.orElse (Ev.orElse (Ev.andThen (Ev.bind (z0k_ev _ _ (by omega) ?_) (Ev.andThen ?_))))
    · intro l hl; have := a.level_lt hl; omega
    · by_cases hl : a.kids.length = b.kids.length
      · have e : ((a.kids.length : Int) != (b.kids.length : Int)) = false := by rw [intlen, hl]; simp
        simp only [e, cond_false]
        refine Ev.of2 (F := fun n m => z1u_l1 (z1u n) n m 0 a b) ?_
        refine Ev2.same (L := fun n m i => z1u_l1 (z1u n) n m i a b) a.kids b.kids hl ?_ ?_
        · intro i hi hj r hr
          refine Ev2.lp (fun n m => by simp only [z1u_l1, z1u_b1]; exact rfl) ?_
          simp only [hi, Int.ofNat_lt, decide_true, cond_true]
          have := a.kid_lt (List.getElem_mem hi)
          rw [wrap_next (by unfold lim at hk; omega)]
          exact Ev2.idx hi (Ev2.idx hj (Ev2.bind1 (ih _ (by omega) _ rfl _ (by omega)) (Ev2.andThen hr)))
        · refine Ev2.lp (fun n m => by simp only [z1u_l1, z1u_b1]; exact rfl) ?_
          simp only [Int.lt_irrefl, decide_false, cond_false]
          exact Ev2.pure
      · have e : ((a.kids.length : Int) != (b.kids.length : Int)) = true := by rw [intlen]; simpa using hl
        simp only [e, cond_true]
        rw [eqb_len hl]
        exact Ev.pure
theorem z0r_ev (a b : List Term) (hk : a.length < lim) (hb : ∀ x ∈ a, x.bulk < lim) : Ev (fun n => z0r n a b) (eqb a b) := by
  refine Ev.fn (fun n => by simp only [z0r, z0r_e]; exact rfl) ?_
  by_cases hl : a.length = b.length
  · have e : ((a.length : Int) != (b.length : Int)) = false := by rw [intlen, hl]; simp
    simp only [e, cond_false]
    refine Ev.of2 (F := fun n m => z0r_l1 n m a b 0) ?_
    refine Ev2.same (L := fun n m i => z0r_l1 n m a b i) a b hl ?_ ?_
    · intro i hi hj r hr
      refine Ev2.lp (fun n m => by simp only [z0r_l1, z0r_b1]; exact rfl) ?_
      simp only [hi, Int.ofNat_lt, decide_true, cond_true]
      rw [wrap_next (by unfold lim at hk; omega)]
      exact Ev2.idx hi (Ev2.idx hj (Ev2.bind1 (z1u_ev _ _ (hb _ (List.getElem_mem hi))) (Ev2.andThen hr)))
    · refine Ev2.lp (fun n m => by simp only [z0r_l1, z0r_b1]; exact rfl) ?_
      simp only [Int.lt_irrefl, decide_false, cond_false]
      exact Ev2.pure
  · have e : ((a.length : Int) != (b.length : Int)) = true := by rw [intlen]; simpa using hl
    simp only [e, cond_true]
    rw [eqb_len hl]
    exact Ev.pure
end Go.Abs
namespace Go.Abs
set_option linter.unusedVariables false
set_option linter.unusedSimpArgs false
abbrev cap : Nat := 1048640
theorem two_kids {t : Term} (h : ((t.kids.length : Int) == 2) = true) : ∃ x y, t.kids = [x, y] := by
  have h : t.kids.length = 2 := by have := beq_iff_eq.1 h; omega
  match hk : t.kids, h with
  | [x, y], _ => exact ⟨x, y, rfl⟩
theorem kids2_bulk {t x y : Term} (h : t.kids = [x, y]) : x.bulk + y.bulk < t.bulk := by
  rw [Term.bulk_eq t, h]; simp only [sumB]; omega
theorem room80 {k : Nat} (h : k ≤ cap * 2) : decide ((k + 1) * 80 ≤ 17592186044416) = true := by
  simp only [cap] at h; simp only [decide_eq_true_eq]; omega
theorem All_ex : ∀ (t : Term), ∃ r : List Term × Term, (∀ acc : List Term, acc.length + t.bulk ≤ cap * 2 → Ev2 (fun n m => z10_l1 n m t acc) (acc ++ r.1, r.2) ∧ Ev2 (fun n m => z23_l1 n m t acc) (acc ++ r.1, r.2)) ∧ sumB Term.bulk r.1 + r.2.bulk ≤ t.bulk + 1 := by
  intro t
  induction h : t.bulk using Nat.strongRecOn generalizing t with
  | ind k ih =>
    cases hc : (t.kind == 6 && ((t.kids.length : Int) == 2)) with
    | false =>
      refine ⟨([], t), fun acc ha => ⟨?_, ?_⟩, by simp only [sumB]; omega⟩
      · refine Ev2.lp (fun n m => by simp only [z10_l1, z10_b1]; exact rfl) ?_
        rw [List.append_nil]
        cases h1 : (t.kind == 6) with
        | false => simp only [cond_false]; exact Ev2.pure
        | true =>
          rw [h1, Bool.true_and] at hc
          simp only [hc, cond_true, cond_false]; exact Ev2.pure
      · refine Ev2.lp (fun n m => by simp only [z23_l1, z23_b1]; exact rfl) ?_
        rw [List.append_nil]
        cases h1 : (t.kind == 6) with
        | false => simp only [cond_false]; exact Ev2.pure
        | true =>
          rw [h1, Bool.true_and] at hc
          simp only [hc, cond_true, cond_false]; exact Ev2.pure
    | true =>
      rw [Bool.and_eq_true] at hc
      obtain ⟨x, y, hxy⟩ := two_kids hc.2
      have hb := kids2_bulk hxy
      obtain ⟨r, hr, hrb⟩ := ih y.bulk (by omega) y rfl
      refine ⟨(x :: r.1, r.2), fun acc ha => ?_, by simp only [sumB]; omega⟩
      have h2 := hr (acc ++ [x]) (by have := x.bulk_pos; simp only [List.length_append, List.length_singleton]; omega)
      rw [List.append_assoc, List.singleton_append] at h2
      have i0 : idxA t.kids 0 = some x := by rw [hxy]; rfl
      have i1 : idxA t.kids 1 = some y := by rw [hxy]; rfl
      have hroom := room80 (k := acc.length) (by omega)
      refine ⟨?_, ?_⟩
      · refine Ev2.lp (fun n m => by simp only [z10_l1, z10_b1]; exact rfl) ?_
        simp only [hc.1, hc.2, cond_true, i0, i1, Option.bind_some, hroom]
        exact h2.1
      · refine Ev2.lp (fun n m => by simp only [z23_l1, z23_b1]; exact rfl) ?_
        simp only [hc.1, hc.2, cond_true, i0, i1, Option.bind_some, hroom]
        exact h2.2
theorem All_ev (t : Term) (ht : t.bulk ≤ cap) : ∃ r : List Term × Term, Ev (fun n => z10 n t) r ∧ Ev (fun n => z23 n t) r ∧ sumB Term.bulk r.1 + r.2.bulk ≤ t.bulk + 1 := by
  obtain ⟨r, hr, hb⟩ := All_ex t
  have := hr [] (by simp only [List.length_nil]; omega)
  refine ⟨r, ?_, ?_, hb⟩
  · refine Ev.fn (fun n => by simp only [z10, z10_e]; exact rfl) ?_
    exact Ev.of2 this.1
  · refine Ev.fn (fun n => by simp only [z23, z23_e]; exact rfl) ?_
    exact Ev.of2 this.2
theorem rev_loop : ∀ (k : Nat) (pre mid suf : List Term), mid.length = k → pre.length + k < lim → Ev2 (fun n m => z0b_l1 n m pre.length ((pre.length : Int) + mid.length - 1) (pre ++ (mid ++ suf))) ((pre ++ (mid.reverse ++ suf), ()), ()) := by
  intro k
  induction k using Nat.strongRecOn with
  | ind k ih =>
    intro pre mid suf hk hlim
    refine Ev2.lp (fun n m => by simp only [z0b_l1, z0b_b1]; exact rfl) ?_
    match mid, hk with
    | [], hk =>
      have : decide ((pre.length : Int) < (pre.length : Int) + ([] : List Term).length - 1) = false := by simp; omega
      simp only [this, cond_false]
      exact Ev2.pure
    | [x], hk =>
      have : decide ((pre.length : Int) < (pre.length : Int) + ([x] : List Term).length - 1) = false := by simp
      simp only [this, cond_false]
      exact Ev2.pure
    | x :: y' :: rest, hk =>
      obtain ⟨mid', y, hy⟩ : ∃ mid' y, y' :: rest = mid' ++ [y] := ⟨(y' :: rest).dropLast, (y' :: rest).getLast (by simp), (List.dropLast_concat_getLast (by simp)).symm⟩
      rw [hy] at hk ⊢
      simp only [List.length_cons, List.length_append, List.length_nil] at hk
      have hd : decide ((pre.length : Int) < (pre.length : Int) + (x :: (mid' ++ [y])).length - 1) = true := by simp only [List.length_cons, List.length_append, List.length_nil, decide_eq_true_eq]; omega
      have e1 : ((pre.length : Int) + (x :: (mid' ++ [y])).length - 1) = ((pre.length + mid'.length + 1 : Nat) : Int) := by simp only [List.length_cons, List.length_append, List.length_nil]; omega
      have g1 : (pre ++ (x :: (mid' ++ [y]) ++ suf))[pre.length + mid'.length + 1]? = some y := by
        rw [List.getElem?_append_right (by omega)]
        have : pre.length + mid'.length + 1 - pre.length = mid'.length + 1 := by omega
        rw [this]
        simp
      have g0 : (pre ++ (x :: (mid' ++ [y]) ++ suf))[pre.length]? = some x := by
        rw [List.getElem?_append_right (by omega)]; simp
      have s0 : (pre ++ (x :: (mid' ++ [y]) ++ suf)).set pre.length y = pre ++ (y :: (mid' ++ [y]) ++ suf) := by
        rw [List.set_append_right _ _ (by omega)]; simp
      have g2 : (pre ++ (y :: (mid' ++ [y]) ++ suf))[pre.length + mid'.length + 1]? = some y := by
        rw [List.getElem?_append_right (by omega)]
        have : pre.length + mid'.length + 1 - pre.length = mid'.length + 1 := by omega
        rw [this]
        simp
      have s1 : (pre ++ (y :: (mid' ++ [y]) ++ suf)).set (pre.length + mid'.length + 1) x = (pre ++ [y]) ++ (mid' ++ (x :: suf)) := by
        rw [List.set_append_right _ _ (by omega)]
        have : pre.length + mid'.length + 1 - pre.length = mid'.length + 1 := by omega
        rw [this]
        simp only [List.cons_append, List.set_cons_succ, List.append_assoc]
        rw [List.set_append_right _ _ (by omega)]
        simp
      rw [e1] at hd
      simp only [e1]
      simp only [hd, cond_true]
      have n0 : (0 : Int) ≤ ((pre.length + mid'.length + 1 : Nat) : Int) := by omega
      have n1 : (0 : Int) ≤ (pre.length : Int) := by omega
      simp only [idxA, n0, n1, if_true, Int.toNat_natCast, g1, g0, g2, s0, s1, Option.bind_some]
      have w1 : IntKind.i64.wrap ((pre.length : Int) + 1) = ((pre ++ [y]).length : Int) := by
        unfold lim at hlim
        rw [wrap_next (by omega)]; simp
      have w2 : IntKind.i64.wrap (((pre.length + mid'.length + 1 : Nat) : Int) - 1) = ((pre ++ [y]).length : Int) + mid'.length - 1 := by
        unfold lim at hlim
        rw [wrap_small (by omega) (by omega)]; simp; omega
      rw [w1, w2]
      have := ih mid'.length (by omega) (pre ++ [y]) mid' (x :: suf) rfl (by simp; omega)
      have e : pre ++ ((x :: (mid' ++ [y])).reverse ++ suf) = (pre ++ [y]) ++ (mid'.reverse ++ (x :: suf)) := by simp
      rw [e]
      exact this
theorem z0b_ev (r : List Term) (h : r.length < lim) : Ev (fun n => z0b n r) ((r.reverse, ()), ()) := by
  refine Ev.fn (fun n => by simp only [z0b, z0b_e]; exact rfl) ?_
  have := rev_loop r.length [] r [] rfl (by simpa using h)
  simp only [List.nil_append, List.append_nil, List.length_nil] at this
  have w : IntKind.i64.wrap ((r.length : Int) - 1) = (0 : Nat) + (r.length : Int) - 1 := by unfold lim at h; rw [wrap_small (by omega) (by omega)]; omega
  rw [w]
  exact Ev.of2 this
end Go.Abs
namespace Go.Abs
set_option linter.unusedVariables false
set_option linter.unusedSimpArgs false
def varsT (k : Nat) (f : Int) : List Term := (List.range k).map fun (i : Nat) => Term.mk 0 (f + k - 1 - i) [] [] []
theorem varsT_len (k : Nat) (f : Int) : (varsT k f).length = k := by simp [varsT]
theorem varsT_get (k : Nat) (f : Int) (i : Nat) (h : i < k) : (varsT k f)[i]? = some (Term.mk 0 (f + k - 1 - i) [] [] []) := by simp [varsT, h]
theorem varsT_take (k : Nat) (f : Int) (i : Nat) (h : i < k) : (varsT k f).take (i + 1) = (varsT k f).take i ++ [Term.mk 0 (f + k - 1 - i) [] [] []] := by
  rw [List.take_add_one, varsT_get k f i h]; rfl
def someVars (k : Nat) (f : Int) : List Term := if k < 1 ∨ 4096 < k ∨ f < 0 then [] else varsT k f
theorem Vars_ev (k : Nat) (f : Int) (hf : f ≤ 4611686018427387904) : Ev (fun n => z0u n k f) (someVars k f) ∧ True := by
  by_cases h1 : k < 1
  · have d : decide ((k : Int) < 1) = true := by simp; omega
    have e : someVars k f = [] := by simp [someVars, h1]
    rw [e]
    constructor
    · refine Ev.fn (fun n => by simp only [z0u, z0u_e]; exact rfl) ?_
      simp only [d, cond_true]; exact Ev.pure
    · trivial
  have d1 : decide ((k : Int) < 1) = false := by simp; omega
  by_cases h2 : 4096 < k
  · have d : decide ((4096 : Int) < k) = true := by simp; omega
    have e : someVars k f = [] := by simp [someVars, h2]
    rw [e]
    constructor
    · refine Ev.fn (fun n => by simp only [z0u, z0u_e]; exact rfl) ?_
      simp only [d1, d, cond_true, cond_false]; exact Ev.pure
    · trivial
  have d2 : decide ((4096 : Int) < k) = false := by simp; omega
  by_cases h3 : f < 0
  · have d : decide (f < 0) = true := by simpa using h3
    have e : someVars k f = [] := by simp [someVars, h3]
    rw [e]
    constructor
    · refine Ev.fn (fun n => by simp only [z0u, z0u_e]; exact rfl) ?_
      simp only [d1, d2, d, cond_true, cond_false]; exact Ev.pure
    · trivial
  have d3 : decide (f < 0) = false := by simpa using h3
  have e : someVars k f = varsT k f := by simp only [someVars]; rw [if_neg (by omega)]
  rw [e]
  constructor
  · refine Ev.fn (fun n => by simp only [z0u, z0u_e]; exact rfl) ?_
    have d4 : decide ((0 : Int) ≤ k) = true := by simp
    have d5 : decide (k * 80 ≤ 17592186044416) = true := by simp; omega
    have d6 : decide ((k : Int) < 2 ^ 62) = true := by simp; omega
    have d7 : (k == 0) = false := by simp; omega
    simp only [d1, d2, d3, d4, d5, d6, d7, cond_true, cond_false, Int.toNat_natCast]
    refine Tot.ev ?_
    refine Tot.of2 (F := fun n m => z0u_l1 n m k f k 0 (List.replicate k (Term.mk 0 0 [] [] []))) ?_
    refine Tot2.up (S := List Term) (L := fun n m i s => z0u_l1 n m k f k i s) k (fun i s => s = (varsT k f).take i ++ List.replicate (k - i) (Term.mk 0 0 [] [] [])) (· = varsT k f) ?_ ?_ 0 _ (by omega) (by simp)
    · intro i s hi hs next
      refine Tot2.lp (fun n m => by simp only [z0u_l1, z0u_b1]; exact rfl) ?_
      have hlt : ((varsT k f).take i).length = i := by rw [List.length_take, varsT_len]; omega
      have hlen : s.length = k := by rw [hs, List.length_append, hlt, List.length_replicate]; omega
      have hi' : i < s.length := by omega
      simp only [hi, Int.ofNat_lt, decide_true, cond_true, idxA_at hi', Option.bind_some, Int.toNat_natCast, List.getElem?_eq_getElem hi', hi']
      rw [wrap_next (by omega), wrap_small (n := f + (k : Int)) (by omega) (by omega), wrap_small (n := f + (k : Int) - 1) (by omega) (by omega), wrap_small (n := f + (k : Int) - 1 - i) (by omega) (by omega)]
      refine next _ ?_
      rw [hs, List.set_append_right _ _ (by omega), hlt, Nat.sub_self, varsT_take k f i hi]
      have : k - i = (k - (i + 1)) + 1 := by omega
      rw [this, List.replicate_succ, List.set_cons_zero]
      simp
    · intro s hs
      refine Tot2.lp (fun n m => by simp only [z0u_l1, z0u_b1]; exact rfl) ?_
      simp only [Int.lt_irrefl, decide_false, cond_false]
      refine Tot2.pure ?_
      rw [hs]
      have : (varsT k f).take k = varsT k f := by rw [List.take_of_length_le]; rw [varsT_len]; omega
      rw [this]; simp
  · trivial
def ownLevels (p : Nat) : List Level := (List.range p).map fun (i : Nat) => { const := 0, vars := [{ index := i, plus := 0 }] }
theorem ownLevels_succ (p : Nat) : ownLevels (p + 1) = ownLevels p ++ [{ const := 0, vars := [{ index := p, plus := 0 }] }] := by
  simp [ownLevels, List.range_succ]
theorem ownLevels_len (p : Nat) : (ownLevels p).length = p := by simp [ownLevels]
theorem z0x_ev (s : Str) (p : Nat) (h : p ≤ 8) : Ev (fun n => z0x n s p) (Term.mk 3 0 s (ownLevels p) []) := by
  refine Ev.fn (fun n => by simp only [z0x, z0x_e]; exact rfl) ?_
  refine Tot.ev ?_
  refine Tot.of2 (F := fun n m => z0x_l1 n m p 0 3 s []) ?_
  refine Tot2.up (S := List Level) (L := fun n m i r => z0x_l1 n m p i 3 s r) p (fun i r => r = ownLevels i) (· = Term.mk 3 0 s (ownLevels p) []) ?_ ?_ 0 _ (by omega) rfl
  · intro i r hi hr next
    refine Tot2.lp (fun n m => by simp only [z0x_l1, z0x_b1]; exact rfl) ?_
    have hroom : decide ((r.length + 1) * 32 ≤ 17592186044416) = true := by rw [hr, ownLevels_len]; simp; omega
    simp only [hi, Int.ofNat_lt, decide_true, cond_true, hroom]
    rw [wrap_next (by omega)]
    refine next _ ?_
    rw [hr, ownLevels_succ]
  · intro r hr
    refine Tot2.lp (fun n m => by simp only [z0x_l1, z0x_b1]; exact rfl) ?_
    simp only [Int.lt_irrefl, decide_false, cond_false]
    rw [hr]
    exact Tot2.pure rfl
theorem z22_ev (i : Nat) (h : i < 8) : Ev (fun n => z22 n i 0) ({ const := 0, vars := [{ index := i, plus := 0 }] }, 0) := by
  refine Ev.fn (fun n => by simp only [z22, z22_e]; exact rfl) ?_
  have a : decide ((i : Int) < -65536) = false := decide_eq_false (by omega)
  have b : decide ((8 : Int) ≤ i) = false := by simp; omega
  have c : decide ((0 : Int) < 0) = false := rfl
  have d : decide ((100 : Int) < 0) = false := rfl
  simp only [a, b, c, d, cond_false]
  exact Ev.pure
theorem z14_ev (p : Nat) (h : p ≤ 8) : Ev (fun n => z14 n p) (ownLevels p) := by
  refine Ev.fn (fun n => by simp only [z14, z14_e]; exact rfl) ?_
  refine Tot.ev ?_
  refine Tot.of2 (F := fun n m => z14_l1 n m p 0 []) ?_
  refine Tot2.up (S := List Level) (L := fun n m i r => z14_l1 n m p i r) p (fun i r => r = ownLevels i) (· = ownLevels p) ?_ ?_ 0 _ (by omega) rfl
  · intro i r hi hr next
    refine Tot2.lp (fun n m => by simp only [z14_l1, z14_b1]; exact rfl) ?_
    have hroom : decide ((r.length + 1) * 32 ≤ 17592186044416) = true := by rw [hr, ownLevels_len]; simp; omega
    simp only [hi, Int.ofNat_lt, decide_true, cond_true, hroom]
    rw [wrap_next (by omega)]
    refine Tot2.bind1 (Ev.tot (Q := fun x => x = ({ const := 0, vars := [{ index := i, plus := 0 }] }, 0)) (z22_ev i (by omega)) rfl) fun x hx => ?_
    subst hx
    refine next _ ?_
    rw [hr, ownLevels_succ]
  · intro r hr
    refine Tot2.lp (fun n m => by simp only [z14_l1, z14_b1]; exact rfl) ?_
    simp only [Int.lt_irrefl, decide_false, cond_false]
    exact Tot2.pure hr
end Go.Abs
namespace Go.Abs
set_option maxRecDepth 100000
theorem awake_k (k : Nat) : z1a (k + 60) = some true := by kernel_rfl
end Go.Abs
namespace Go.Abs
set_option linter.unusedVariables false
set_option linter.unusedSimpArgs false
noncomputable def allT (t : Term) : List Term × Term :=
  if h : t.kind = 6 ∧ t.kids.length = 2 then
    (t.kids[0]'(by omega) :: (allT (t.kids[1]'(by omega))).1, (allT (t.kids[1]'(by omega))).2)
  else ([], t)
termination_by t.bulk
decreasing_by all_goals exact Term.kid_lt (List.getElem_mem _)
theorem allT_pi {t x y : Term} (h : t.kind = 6) (hk : t.kids = [x, y]) : allT t = (x :: (allT y).1, (allT y).2) := by
  rw [allT, dif_pos ⟨h, by rw [hk]; rfl⟩]
  simp only [hk, List.getElem_cons_zero, List.getElem_cons_succ]
theorem allT_not {t : Term} (h : ¬ (t.kind = 6 ∧ t.kids.length = 2)) : allT t = ([], t) := by
  rw [allT, dif_neg h]
noncomputable def spineT (t : Term) : Term × List Term :=
  if h : t.kind = 4 ∧ t.kids.length = 2 then
    ((spineT (t.kids[0]'(by omega))).1, (spineT (t.kids[0]'(by omega))).2 ++ [t.kids[1]'(by omega)])
  else (t, [])
termination_by t.bulk
decreasing_by all_goals exact Term.kid_lt (List.getElem_mem _)
theorem spineT_app {t x y : Term} (h : t.kind = 4) (hk : t.kids = [x, y]) : spineT t = ((spineT x).1, (spineT x).2 ++ [y]) := by
  rw [spineT, dif_pos ⟨h, by rw [hk]; rfl⟩]
  simp only [hk, List.getElem_cons_zero, List.getElem_cons_succ]
theorem spineT_not {t : Term} (h : ¬ (t.kind = 4 ∧ t.kids.length = 2)) : spineT t = (t, []) := by
  rw [spineT, dif_neg h]
theorem len2 {t : Term} (h : t.kids.length = 2) : ∃ x y, t.kids = [x, y] := by
  match hk : t.kids, h with
  | [x, y], _ => exact ⟨x, y, rfl⟩
theorem beq2 (t : Term) (k : Int) (h : ¬ (t.kind = k ∧ t.kids.length = 2)) : (t.kind == k) = false ∨ ((t.kind == k) = true ∧ ((t.kids.length : Int) == 2) = false) := by
  by_cases h1 : t.kind = k
  · refine .inr ⟨by simp [h1], ?_⟩
    rw [beq_eq_false_iff_ne]; intro e; exact h ⟨h1, by omega⟩
  · exact .inl (by simpa using h1)
theorem allT_loop : ∀ (t : Term) (acc : List Term), acc.length + t.bulk ≤ cap * 2 → Ev2 (fun n m => z10_l1 n m t acc) (acc ++ (allT t).1, (allT t).2) ∧ Ev2 (fun n m => z23_l1 n m t acc) (acc ++ (allT t).1, (allT t).2) := by
  intro t
  induction h : t.bulk using Nat.strongRecOn generalizing t with
  | ind k ih =>
    intro acc ha
    by_cases hc : t.kind = 6 ∧ t.kids.length = 2
    · obtain ⟨x, y, hxy⟩ := len2 hc.2
      have hb := kids2_bulk hxy
      have h2 := ih y.bulk (by omega) y rfl (acc ++ [x]) (by have := x.bulk_pos; simp only [List.length_append, List.length_singleton]; omega)
      rw [List.append_assoc, List.singleton_append] at h2
      have i0 : idxA t.kids 0 = some x := by rw [hxy]; rfl
      have i1 : idxA t.kids 1 = some y := by rw [hxy]; rfl
      have hroom := room80 (k := acc.length) (by omega)
      have e1 : (t.kind == 6) = true := by simp [hc.1]
      have e2 : ((t.kids.length : Int) == 2) = true := by simp [hc.2]
      rw [allT_pi hc.1 hxy]
      refine ⟨?_, ?_⟩
      · refine Ev2.lp (fun n m => by simp only [z10_l1, z10_b1]; exact rfl) ?_
        simp only [e1, e2, cond_true, i0, i1, Option.bind_some, hroom]
        exact h2.1
      · refine Ev2.lp (fun n m => by simp only [z23_l1, z23_b1]; exact rfl) ?_
        simp only [e1, e2, cond_true, i0, i1, Option.bind_some, hroom]
        exact h2.2
    · rw [allT_not hc, List.append_nil]
      refine ⟨?_, ?_⟩
      · refine Ev2.lp (fun n m => by simp only [z10_l1, z10_b1]; exact rfl) ?_
        rcases beq2 t 6 hc with e | ⟨e, e'⟩
        · simp only [e, cond_false]; exact Ev2.pure
        · simp only [e, e', cond_true, cond_false]; exact Ev2.pure
      · refine Ev2.lp (fun n m => by simp only [z23_l1, z23_b1]; exact rfl) ?_
        rcases beq2 t 6 hc with e | ⟨e, e'⟩
        · simp only [e, cond_false]; exact Ev2.pure
        · simp only [e, e', cond_true, cond_false]; exact Ev2.pure
theorem All_sem (t : Term) (ht : t.bulk ≤ cap) : Ev (fun n => z10 n t) (allT t) ∧ Ev (fun n => z23 n t) (allT t) := by
  have := allT_loop t [] (by simp only [List.length_nil]; omega)
  simp only [List.nil_append] at this
  constructor
  · refine Ev.fn (fun n => by simp only [z10, z10_e]; exact rfl) ?_
    exact Ev.of2 this.1
  · refine Ev.fn (fun n => by simp only [z23, z23_e]; exact rfl) ?_
    exact Ev.of2 this.2
theorem allT_bulk : ∀ t : Term, sumB Term.bulk (allT t).1 + (allT t).2.bulk ≤ t.bulk + 1 := by
  intro t
  induction h : t.bulk using Nat.strongRecOn generalizing t with
  | ind k ih =>
    by_cases hc : t.kind = 6 ∧ t.kids.length = 2
    · obtain ⟨x, y, hxy⟩ := len2 hc.2
      have hb := kids2_bulk hxy
      have := ih y.bulk (by omega) y rfl
      rw [allT_pi hc.1 hxy]
      simp only [sumB]; omega
    · rw [allT_not hc]; simp only [sumB]; omega
theorem spineT_bulk : ∀ t : Term, sumB Term.bulk (spineT t).2 + (spineT t).1.bulk ≤ t.bulk + 1 := by
  intro t
  induction h : t.bulk using Nat.strongRecOn generalizing t with
  | ind k ih =>
    by_cases hc : t.kind = 4 ∧ t.kids.length = 2
    · obtain ⟨x, y, hxy⟩ := len2 hc.2
      have hb := kids2_bulk hxy
      have := ih x.bulk (by omega) x rfl
      rw [spineT_app hc.1 hxy]
      have e : ∀ xs : List Term, sumB Term.bulk (xs ++ [y]) = sumB Term.bulk xs + y.bulk := by
        intro xs
        induction xs with
        | nil => simp only [List.nil_append, sumB]; omega
        | cons z zs ih => simp only [List.cons_append, sumB, ih]; omega
      simp only [e]; omega
    · rw [spineT_not hc]; simp only [sumB]; omega
theorem Spine_sem (t : Term) (ht : t.bulk ≤ cap) : Ev (fun n => z0o n t) (spineT t) ∧ True := by
  have key : ∀ (t : Term), t.bulk ≤ cap → (∀ acc : List Term, acc.length + t.bulk ≤ cap * 2 → Ev2 (fun n m => z0o_l1 n m t acc) ((spineT t).1, (spineT t).2 ++ acc.reverse)) ∧ True := by
    intro t
    induction h : t.bulk using Nat.strongRecOn generalizing t with
    | ind k ih =>
      intro hcap
      by_cases hc : t.kind = 4 ∧ t.kids.length = 2
      · obtain ⟨x, y, hxy⟩ := len2 hc.2
        have hb := kids2_bulk hxy
        obtain ⟨hr, hs⟩ := ih x.bulk (by omega) x rfl (by omega)
        have i0 : idxA t.kids 0 = some x := by rw [hxy]; rfl
        have i1 : idxA t.kids 1 = some y := by rw [hxy]; rfl
        have e1 : (t.kind == 4) = true := by simp [hc.1]
        have e2 : ((t.kids.length : Int) == 2) = true := by simp [hc.2]
        have hsb := spineT_bulk x
        rw [spineT_app hc.1 hxy]
        refine ⟨fun acc ha => ?_, ?_⟩
        · have h2 := hr (acc ++ [y]) (by have := y.bulk_pos; simp only [List.length_append, List.length_singleton]; omega)
          have hroom := room80 (k := acc.length) (by omega)
          refine Ev2.lp (fun n m => by simp only [z0o_l1, z0o_b1]; exact rfl) ?_
          simp only [e1, e2, cond_true, i0, i1, Option.bind_some, hroom]
          simpa only [List.reverse_append, List.reverse_cons, List.reverse_nil, List.nil_append, List.append_assoc] using h2
        · trivial
      · rw [spineT_not hc]
        refine ⟨fun acc ha => ?_, ?_⟩
        · refine Ev2.lp (fun n m => by simp only [z0o_l1, z0o_b1]; exact rfl) ?_
          have hrev := z0b_ev acc (by unfold lim; simp only [cap] at ha; omega)
          rcases beq2 t 4 hc with e | ⟨e, e'⟩
          · simp only [e, cond_false]
            exact Ev2.bind1 hrev (by simp only [List.length_reverse, if_true, beq_self_eq_true, Bool.true_or, cond_true, Term.mapO_cells, Option.bind_some, List.nil_append]; exact Ev2.pure)
          · simp only [e, e', cond_true, cond_false]
            exact Ev2.bind1 hrev (by simp only [List.length_reverse, if_true, beq_self_eq_true, Bool.true_or, cond_true, Term.mapO_cells, Option.bind_some, List.nil_append]; exact Ev2.pure)
        · trivial
  obtain ⟨h1, h2⟩ := key t ht
  refine ⟨?_, h2⟩
  refine Ev.fn (fun n => by simp only [z0o, z0o_e]; exact rfl) ?_
  have := h1 [] (by simp only [List.length_nil]; omega)
  rw [List.reverse_nil, List.append_nil] at this
  exact Ev.of2 this
def TL (xs : List Term) : Prop := xs.length ≤ cap ∧ ∀ x ∈ xs, x.bulk ≤ cap
theorem TL.take {xs : List Term} (h : TL xs) (n : Nat) : TL (xs.take n) := ⟨by have := h.1; rw [List.length_take]; omega, fun x hx => h.2 x (List.mem_of_mem_take hx)⟩
theorem TL.drop {xs : List Term} (h : TL xs) (n : Nat) : TL (xs.drop n) := ⟨by have := h.1; rw [List.length_drop]; omega, fun x hx => h.2 x (List.mem_of_mem_drop hx)⟩
theorem TL.nil : TL [] := ⟨by simp [cap], fun x hx => by cases hx⟩
theorem TL.lim {xs : List Term} (h : TL xs) : xs.length < lim ∧ ∀ x ∈ xs, x.bulk < lim := by
  refine ⟨?_, fun x hx => ?_⟩
  · have := h.1; simp only [cap] at this; unfold Go.Abs.lim; omega
  · have := h.2 x hx; simp only [cap] at this; unfold Go.Abs.lim; omega
theorem lim_of_cap {n : Nat} (h : n ≤ cap) : n < lim := by simp only [cap] at h; unfold lim; omega
theorem allT_tl (t : Term) (ht : t.bulk ≤ cap) : TL (allT t).1 ∧ (allT t).2.bulk ≤ cap := by
  have hb := allT_bulk t
  have hp := (allT t).2.bulk_pos
  have hs := sumB_pos (bk := Term.bulk) (allT t).1
  have hl := sumB_len Term.bulk_pos (allT t).1
  refine ⟨⟨by omega, fun x hx => ?_⟩, by omega⟩
  have := sumB_mem (f := Term.bulk) hx
  omega
theorem spineT_tl (t : Term) (ht : t.bulk ≤ cap) : TL (spineT t).2 ∧ (spineT t).1.bulk ≤ cap := by
  have hb := spineT_bulk t
  have hp := (spineT t).1.bulk_pos
  have hs := sumB_pos (bk := Term.bulk) (spineT t).2
  have hl := sumB_len Term.bulk_pos (spineT t).2
  refine ⟨⟨by omega, fun x hx => ?_⟩, by omega⟩
  have := sumB_mem (f := Term.bulk) hx
  omega
inductive Fine : Term → Prop
  | mk (t : Term) (h : t.kind = 6 ∨ t.kind = 4 → t.kids.length = 2 ∧ t.index = 0 ∧ t.name = [] ∧ t.levels = []) (hk : ∀ k, k ∈ t.kids → Fine k) : Fine t
theorem Fine.bare {t : Term} (h : Fine t) : t.kind = 6 ∨ t.kind = 4 → t.kids.length = 2 ∧ t.index = 0 ∧ t.name = [] ∧ t.levels = [] := by cases h with | mk _ h _ => exact h
theorem Fine.kid {t : Term} (h : Fine t) : ∀ k, k ∈ t.kids → Fine k := by cases h with | mk _ _ h => exact h
theorem allT_fine : ∀ t : Term, Fine t → (∀ x ∈ (allT t).1, Fine x) ∧ Fine (allT t).2 := by
  intro t
  induction h : t.bulk using Nat.strongRecOn generalizing t with
  | ind k ih =>
    intro hg
    by_cases hc : t.kind = 6 ∧ t.kids.length = 2
    · obtain ⟨x, y, hxy⟩ := len2 hc.2
      have hb := kids2_bulk hxy
      have h2 := ih y.bulk (by omega) y rfl (hg.kid y (by rw [hxy]; simp))
      rw [allT_pi hc.1 hxy]
      refine ⟨fun z hz => ?_, h2.2⟩
      rcases List.mem_cons.1 hz with rfl | hz
      · exact hg.kid z (by rw [hxy]; simp)
      · exact h2.1 z hz
    · rw [allT_not hc]
      exact ⟨fun x hx => (by cases hx), hg⟩
end Go.Abs
namespace Go.Abs
set_option linter.unusedVariables false
set_option linter.unusedSimpArgs false
noncomputable def resultT (own : Term) (params : List Term) (k : Nat) (t : Term) (last : Int) : List Term × Bool :=
  bif (spineT t).2.length == params.length + k && (eqb (spineT t).1 own && eqb ((spineT t).2.take params.length) (someVars params.length last)) then ((spineT t).2.drop params.length, true) else ([], false)
theorem resultT_tl {own : Term} {params : List Term} {k : Nat} {t : Term} {last : Int} (ht : t.bulk ≤ cap) : TL (resultT own params k t last).1 := by
  unfold resultT
  cases ((spineT t).2.length == params.length + k && (eqb (spineT t).1 own && eqb ((spineT t).2.take params.length) (someVars params.length last))) with
  | true => exact (spineT_tl t ht).1.drop _
  | false => exact TL.nil
theorem result_sem (own : Term) (params : List Term) (k : Nat) (t : Term) (last : Int) (ht : t.bulk ≤ cap) (hp : params.length ≤ cap) (hk : k ≤ cap) (hl : last ≤ 4611686018427387904) :
    Ev (fun n => z09 n ⟨own, params, k⟩ t last) (resultT own params k t last) ∧ True := by
  obtain ⟨h1, h2⟩ := Spine_sem t ht
  obtain ⟨hc, hh⟩ := spineT_tl t ht
  generalize hs : spineT t = s at h1 h2 hc hh
  obtain ⟨h, c⟩ := s
  simp only at h1 h2 hc hh
  have hs1 := z25_ev h own (lim_of_cap hh)
  have hs2 := z1u_ev h own (lim_of_cap hh)
  obtain ⟨hv1, hv2⟩ := Vars_ev params.length last hl
  have ha1 := z03_ev (c.take params.length) (someVars params.length last) (hc.take _).lim.1 (hc.take _).lim.2
  have ha2 := z0r_ev (c.take params.length) (someVars params.length last) (hc.take _).lim.1 (hc.take _).lim.2
  have hw : IntKind.i64.wrap ((params.length : Int) + k) = ((params.length + k : Nat) : Int) := by
    simp only [cap] at hp hk
    rw [wrap_small (by omega) (by omega)]; omega
  simp only [resultT, hs]
  by_cases hlen : c.length = params.length + k
  · have e0 : (c.length == params.length + k) = true := by simp [hlen]
    have e1 : ((c.length : Int) != ((params.length + k : Nat) : Int)) = false := by rw [hlen]; simp
    have d1 : decide ((params.length : Int) ≤ c.length ∧ (c.length : Int) ≤ c.length) = true := decide_eq_true ⟨by omega, by omega⟩
    have d2 : decide ((0 : Int) ≤ params.length ∧ (params.length : Int) ≤ c.length ∧ (c.length : Int) ≤ c.length) = true := decide_eq_true ⟨by omega, by omega, by omega⟩
    cases hso : eqb h own with
    | false =>
      rw [hso] at hs1 hs2
      simp only [e0, Bool.true_and, Bool.false_and, cond_false]
      refine ⟨?_, ?_⟩
      · refine Ev.fn (fun n => by simp only [z09, z09_e]; exact rfl) ?_
        refine Ev.bind h1 ?_
        simp only [hw, e1, cond_false]
        exact Ev.bind hs1 Ev.pure
      · trivial
    | true =>
      rw [hso] at hs1 hs2
      cases hal : eqb (c.take params.length) (someVars params.length last) with
      | false =>
        rw [hal] at ha1 ha2
        simp only [e0, Bool.true_and, cond_false]
        refine ⟨?_, ?_⟩
        · refine Ev.fn (fun n => by simp only [z09, z09_e]; exact rfl) ?_
          refine Ev.bind h1 ?_
          simp only [hw, e1, cond_false]
          refine Ev.bind hs1 ?_
          simp only [cond_true, d1]
          exact Ev.bind hv1 (Ev.bind ha1 Ev.pure)
        · trivial
      | true =>
        rw [hal] at ha1 ha2
        simp only [e0, Bool.true_and, cond_true]
        refine ⟨?_, ?_⟩
        · refine Ev.fn (fun n => by simp only [z09, z09_e]; exact rfl) ?_
          refine Ev.bind h1 ?_
          simp only [hw, e1, cond_false]
          refine Ev.bind hs1 ?_
          simp only [cond_true, d1, List.take_length]
          exact Ev.bind hv1 (Ev.bind ha1 Ev.pure)
        · trivial
  · have e0 : (c.length == params.length + k) = false := by simpa using hlen
    have e1 : ((c.length : Int) != ((params.length + k : Nat) : Int)) = true := by rw [bne_iff_ne]; omega
    simp only [e0, Bool.false_and, cond_false]
    refine ⟨?_, ?_⟩
    · refine Ev.fn (fun n => by simp only [z09, z09_e]; exact rfl) ?_
      refine Ev.bind h1 ?_
      simp only [hw, e1, cond_true]
      exact Ev.pure
    · trivial
def RecOK (r : Zs5) : Prop := TL r.args ∧ TL r.results
theorem room56 {k : Nat} (h : k ≤ cap) : decide ((k + 1) * 56 ≤ 17592186044416) = true := by
  simp only [cap] at h; simp only [decide_eq_true_eq]; omega
theorem room88 {k : Nat} (h : k ≤ cap) : decide ((k + 1) * 88 ≤ 17592186044416) = true := by
  simp only [cap] at h; simp only [decide_eq_true_eq]; omega
noncomputable def recsT (own : Term) (params : List Term) (k : Nat) : Nat → List Term → List Zs5
  | _, [] => []
  | i, t :: ts =>
    bif (resultT own params k (allT t).2 ((i + (allT t).1.length : Nat) : Int)).2 then
      { field := i, args := (allT t).1, results := (resultT own params k (allT t).2 ((i + (allT t).1.length : Nat) : Int)).1 } :: recsT own params k (i + 1) ts
    else recsT own params k (i + 1) ts
theorem recsT_len (own : Term) (params : List Term) (k : Nat) : ∀ (i : Nat) (ts : List Term), (recsT own params k i ts).length ≤ ts.length
  | _, [] => by simp [recsT]
  | i, t :: ts => by
    have := recsT_len own params k (i + 1) ts
    simp only [recsT]
    cases (resultT own params k (allT t).2 ((i + (allT t).1.length : Nat) : Int)).2 <;> simp only [cond_true, cond_false, List.length_cons] <;> omega
theorem recsT_ok (own : Term) (params : List Term) (k : Nat) : ∀ (i : Nat) (ts : List Term), (∀ t ∈ ts, t.bulk ≤ cap) → ∀ r ∈ recsT own params k i ts, RecOK r
  | _, [], _ => by simp [recsT]
  | i, t :: ts, h => by
    have ih := recsT_ok own params k (i + 1) ts (fun x hx => h x (by simp [hx]))
    have ht := allT_tl t (h t (by simp))
    simp only [recsT]
    cases (resultT own params k (allT t).2 ((i + (allT t).1.length : Nat) : Int)).2 with
    | true =>
      intro r hr
      rcases List.mem_cons.1 hr with rfl | hr
      · exact ⟨ht.1, resultT_tl ht.2⟩
      · exact ih r hr
    | false => exact ih
theorem recs_sem (own : Term) (params : List Term) (k : Nat) (name : Str) (fields results : List Term) (hf : TL fields) (hp : params.length ≤ cap) (hk : k ≤ cap) :
    Ev (fun n => z05 n ⟨own, params, k⟩ fields) (recsT own params k 0 fields) ∧
      True := by
  have key : ∀ (d i : Nat) (acc : List Zs5), d + i = fields.length → acc.length ≤ i →
      Ev2 (fun n m => z05_l1 n m fields fields.length i ⟨own, params, k⟩ acc) (acc ++ recsT own params k i (fields.drop i)) ∧
      True := by
    intro d
    induction d with
    | zero =>
      intro i acc hi ha
      obtain rfl : i = fields.length := by omega
      rw [List.drop_length]
      simp only [recsT, List.append_nil]
      refine ⟨?_, ?_⟩
      · refine Ev2.lp (fun n m => by simp only [z05_l1, z05_b1]; exact rfl) ?_
        simp only [Int.lt_irrefl, decide_false, cond_false]
        exact Ev2.pure
      · trivial
    | succ d ih =>
      intro i acc hi ha
      have hi' : i < fields.length := by omega
      have hlen := hf.1
      obtain ⟨hr1, hr2⟩ := All_sem fields[i] (hf.2 _ (List.getElem_mem hi'))
      obtain ⟨htl, hrb⟩ := allT_tl fields[i] (hf.2 _ (List.getElem_mem hi'))
      have hcap := htl.1
      have hw : IntKind.i64.wrap ((i : Int) + (allT fields[i]).1.length) = ((i + (allT fields[i]).1.length : Nat) : Int) := by
        simp only [cap] at hlen hcap
        rw [wrap_small (by omega) (by omega)]; omega
      obtain ⟨hq1, hq2⟩ := result_sem own params k (allT fields[i]).2 ((i + (allT fields[i]).1.length : Nat) : Int) hrb hp hk (by simp only [cap] at hlen hcap; omega)
      have hnext : IntKind.i64.wrap ((i : Int) + 1) = ((i + 1 : Nat) : Int) := wrap_next (by simp only [cap] at hlen; omega)
      have hroom := room56 (k := acc.length) (by omega)
      rw [List.drop_eq_getElem_cons hi']
      simp only [recsT]
      cases hb : (resultT own params k (allT fields[i]).2 ((i + (allT fields[i]).1.length : Nat) : Int)).2 with
      | true =>
        obtain ⟨h1, h2⟩ := ih (i + 1) (acc ++ [{ field := i, args := (allT fields[i]).1, results := (resultT own params k (allT fields[i]).2 ((i + (allT fields[i]).1.length : Nat) : Int)).1 }]) (by omega) (by simp; omega)
        simp only [List.append_assoc, List.singleton_append] at h1 h2
        simp only [cond_true]
        refine ⟨?_, ?_⟩
        · refine Ev2.lp (fun n m => by simp only [z05_l1, z05_b1]; exact rfl) ?_
          simp only [hi', Int.ofNat_lt, decide_true, cond_true]
          refine Ev2.idx hi' (Ev2.bind1 hr1 ?_)
          simp only [hw]
          refine Ev2.bind1 hq1 ?_
          simp only [hb, cond_true, hroom, hnext]
          exact h1
        · trivial
      | false =>
        obtain ⟨h1, h2⟩ := ih (i + 1) acc (by omega) (by omega)
        simp only [cond_false]
        refine ⟨?_, ?_⟩
        · refine Ev2.lp (fun n m => by simp only [z05_l1, z05_b1]; exact rfl) ?_
          simp only [hi', Int.ofNat_lt, decide_true, cond_true]
          refine Ev2.idx hi' (Ev2.bind1 hr1 ?_)
          simp only [hw]
          refine Ev2.bind1 hq1 ?_
          simp only [hb, cond_false, hnext]
          exact h1
        · trivial
  obtain ⟨h1, h2⟩ := key fields.length 0 [] (by omega) (by simp)
  simp only [List.nil_append, List.drop_zero] at h1 h2
  refine ⟨?_, trivial⟩
  refine Ev.fn (fun n => by simp only [z05, z05_e]; exact rfl) ?_
  exact Ev.of2 h1
def CtorOK (c : Zs4) : Prop := TL c.fields ∧ TL c.results ∧ c.recu.length ≤ cap ∧ ∀ r ∈ c.recu, RecOK r
def noCtor : Zs4 := { name := [], fields := [], recu := [], results := [] }
noncomputable def ctorT (own : Term) (params : List Term) (k : Nat) (c : Ctor) : Zs4 × Bool :=
  bif decide ((allT c.type).1.length < params.length) then (noCtor, false) else
  bif eqb ((allT c.type).1.take params.length) params then
    bif (resultT own params k (allT c.type).2 (((allT c.type).1.drop params.length).length : Int)).2 then
      ({ name := c.name, fields := (allT c.type).1.drop params.length, recu := recsT own params k 0 ((allT c.type).1.drop params.length),
         results := (resultT own params k (allT c.type).2 (((allT c.type).1.drop params.length).length : Int)).1 }, true)
    else (noCtor, false)
  else (noCtor, false)
theorem noCtor_ok : CtorOK noCtor := ⟨TL.nil, TL.nil, by simp [cap, noCtor], by simp [noCtor]⟩
theorem ctorT_ok {own : Term} {params : List Term} {k : Nat} {c : Ctor} (hc : c.type.bulk ≤ cap) : CtorOK (ctorT own params k c).1 := by
  obtain ⟨htl, hrb⟩ := allT_tl c.type hc
  unfold ctorT
  cases decide ((allT c.type).1.length < params.length) with
  | true => exact noCtor_ok
  | false =>
    cases eqb ((allT c.type).1.take params.length) params with
    | false => exact noCtor_ok
    | true =>
      cases (resultT own params k (allT c.type).2 (((allT c.type).1.drop params.length).length : Int)).2 with
      | false => exact noCtor_ok
      | true =>
        refine ⟨htl.drop _, resultT_tl hrb, ?_, recsT_ok _ _ _ _ _ (htl.drop _).2⟩
        exact Nat.le_trans (recsT_len _ _ _ _ _) (htl.drop _).1
theorem ctor_sem (own : Term) (fam : Family) (c : Ctor) (p : Nat) (hlv : fam.levels = p) (hp8 : p ≤ 8) (hown : own = Term.mk 3 0 fam.name (ownLevels p) []) (hc : c.type.bulk ≤ cap) (hp : TL fam.params) (hk : fam.indices.length ≤ cap) :
    Ev (fun n => z0c n ⟨own, fam.params, fam.indices.length⟩ c) (ctorT own fam.params fam.indices.length c) ∧ True := by
  obtain ⟨hr1, hr2⟩ := All_sem c.type hc
  obtain ⟨htl, hrb⟩ := allT_tl c.type hc
  have hcap := htl.1
  by_cases hlen : (allT c.type).1.length < fam.params.length
  · have d : decide (((allT c.type).1.length : Int) < (fam.params.length : Int)) = true := decide_eq_true (by omega)
    have d' : decide ((allT c.type).1.length < fam.params.length) = true := decide_eq_true hlen
    simp only [ctorT, d', cond_true]
    refine ⟨?_, ?_⟩
    · refine Ev.fn (fun n => by simp only [z0c, z0c_e]; exact rfl) ?_
      refine Ev.bind hr1 ?_
      simp only [d, cond_true]
      exact Ev.pure
    · trivial
  have d' : decide ((allT c.type).1.length < fam.params.length) = false := decide_eq_false hlen
  have d0 : decide (((allT c.type).1.length : Int) < (fam.params.length : Int)) = false := decide_eq_false (by omega)
  have d1 : decide ((fam.params.length : Int) ≤ (allT c.type).1.length ∧ ((allT c.type).1.length : Int) ≤ (allT c.type).1.length) = true := decide_eq_true ⟨by omega, by omega⟩
  have ha1 := z03_ev ((allT c.type).1.take fam.params.length) fam.params (htl.take _).lim.1 (htl.take _).lim.2
  have ha2 := z0r_ev ((allT c.type).1.take fam.params.length) fam.params (htl.take _).lim.1 (htl.take _).lim.2
  cases hal : eqb ((allT c.type).1.take fam.params.length) fam.params with
  | false =>
    rw [hal] at ha1 ha2
    simp only [ctorT, d', hal, cond_false]
    refine ⟨?_, ?_⟩
    · refine Ev.fn (fun n => by simp only [z0c, z0c_e]; exact rfl) ?_
      refine Ev.bind hr1 ?_
      simp only [d0, d1, cond_true, cond_false]
      exact Ev.bind ha1 Ev.pure
    · trivial
  | true =>
    rw [hal] at ha1 ha2
    have hfl := (htl.drop fam.params.length).1
    obtain ⟨hq1, hq2⟩ := result_sem own fam.params fam.indices.length (allT c.type).2 (((allT c.type).1.drop fam.params.length).length : Int) hrb hp.1 hk (by simp only [cap] at hfl; omega)
    cases hb : (resultT own fam.params fam.indices.length (allT c.type).2 (((allT c.type).1.drop fam.params.length).length : Int)).2 with
    | false =>
      simp only [ctorT, d', hal, hb, cond_true, cond_false]
      refine ⟨?_, ?_⟩
      · refine Ev.fn (fun n => by simp only [z0c, z0c_e]; exact rfl) ?_
        refine Ev.bind hr1 ?_
        simp only [d0, d1, cond_true, cond_false, List.take_length]
        refine Ev.bind ha1 (Ev.bind hq1 ?_)
        simp only [hb, cond_false]
        exact Ev.pure
      · trivial
    | true =>
      obtain ⟨g1, g2⟩ := recs_sem own fam.params fam.indices.length c.name ((allT c.type).1.drop fam.params.length) (resultT own fam.params fam.indices.length (allT c.type).2 (((allT c.type).1.drop fam.params.length).length : Int)).1 (htl.drop _) hp.1 hk
      simp only [ctorT, d', hal, hb, cond_true, cond_false]
      refine ⟨?_, ?_⟩
      · refine Ev.fn (fun n => by simp only [z0c, z0c_e]; exact rfl) ?_
        refine Ev.bind hr1 ?_
        simp only [d0, d1, cond_true, cond_false, List.take_length]
        refine Ev.bind ha1 (Ev.bind hq1 ?_)
        simp only [hb, cond_true]
        exact Ev.bind g1 Ev.pure
      · trivial
end Go.Abs
namespace Go.Abs
set_option linter.unusedVariables false
set_option linter.unusedSimpArgs false
theorem Term.eta_mk (t : Term) : Term.mk t.kind t.index t.name t.levels t.kids = t := by cases t; rfl
def FamOK (f : Family) : Prop := TL f.params ∧ TL f.indices ∧ f.sort.bulk ≤ cap ∧ f.ctors.length ≤ cap ∧ ∀ c ∈ f.ctors, CtorOK c
def noFam : Family := { name := [], levels := 0, params := [], indices := [], sort := Term.mk 0 0 [] [] [], ctors := [] }
theorem noFam_ok : FamOK noFam := ⟨TL.nil, TL.nil, by simp [noFam, Term.bulk_eq, sumB, cap, Term.name, Term.levels, Term.kids], by simp [noFam, cap], by simp [noFam]⟩
theorem Ctor.bulk_pos (x : Ctor) : 1 ≤ x.bulk := by rw [Ctor.bulk]; omega
theorem Fun.bulk_pos (x : Fun) : 1 ≤ x.bulk := by rw [Fun.bulk]; omega
theorem Decl.ctor_le {d : Decl} {c : Ctor} (h : c ∈ d.ctors) : c.type.bulk ≤ d.bulk ∧ c.name.length ≤ d.bulk := by
  have := sumB_mem (f := Ctor.bulk) h
  rw [Ctor.bulk] at this
  rw [Decl.bulk]
  omega
theorem Decl.ctors_len (d : Decl) : d.ctors.length ≤ d.bulk := by
  have := sumB_len Ctor.bulk_pos d.ctors
  rw [Decl.bulk]; omega
noncomputable def ctorsT (own : Term) (params : List Term) (k : Nat) : List Ctor → Option (List Zs4)
  | [] => some []
  | c :: cs => bif (ctorT own params k c).2 then (ctorsT own params k cs).map ((ctorT own params k c).1 :: ·) else none
noncomputable def analyseT (d : Decl) : Family × Int :=
  bif d.kind != 3 then (noFam, 1) else
  bif decide (d.fixed < 0) || (decide ((allT d.type).1.length < d.fixed) || !((allT d.type).2.kind == 1 || (allT d.type).2.kind == 2)) then (noFam, 3) else
  match ctorsT (Term.mk 3 0 d.name (ownLevels d.params.toNat) []) ((allT d.type).1.take d.fixed.toNat) ((allT d.type).1.drop d.fixed.toNat).length d.ctors with
  | some cs => ({ name := d.name, levels := d.params, params := (allT d.type).1.take d.fixed.toNat, indices := (allT d.type).1.drop d.fixed.toNat, sort := (allT d.type).2, ctors := cs }, 0)
  | none => (noFam, 3)
theorem ctorsT_ok {own : Term} {params : List Term} {k : Nat} : ∀ {l : List Ctor} {cs : List Zs4}, (∀ c ∈ l, c.type.bulk ≤ cap) → ctorsT own params k l = some cs → cs.length = l.length ∧ ∀ c ∈ cs, CtorOK c
  | [], cs, _, h => by simp only [ctorsT, Option.some.injEq] at h; subst h; simp
  | c :: l, cs, hl, h => by
    simp only [ctorsT] at h
    cases hc : (ctorT own params k c).2 with
    | false => rw [hc] at h; cases h
    | true =>
      rw [hc, cond_true, Option.map_eq_some_iff] at h
      obtain ⟨cs', h', rfl⟩ := h
      obtain ⟨h1, h2⟩ := ctorsT_ok (fun c hc => hl c (by simp [hc])) h'
      refine ⟨by simp [h1], fun x hx => ?_⟩
      rcases List.mem_cons.1 hx with rfl | hx
      · exact ctorT_ok (hl c (by simp))
      · exact h2 x hx
theorem analyseT_ok {d : Decl} (hd : d.bulk ≤ cap) : FamOK (analyseT d).1 := by
  have ht : d.type.bulk ≤ cap := by rw [Decl.bulk] at hd; omega
  obtain ⟨htl, hrb⟩ := allT_tl d.type ht
  unfold analyseT
  cases d.kind != 3 with
  | true => exact noFam_ok
  | false =>
    cases decide (d.fixed < 0) || (decide ((allT d.type).1.length < d.fixed) || !((allT d.type).2.kind == 1 || (allT d.type).2.kind == 2)) with
    | true => exact noFam_ok
    | false =>
      simp only [cond_false]
      split
      · rename_i cs h
        obtain ⟨h1, h2⟩ := ctorsT_ok (fun c hc => Nat.le_trans (Decl.ctor_le hc).1 hd) h
        exact ⟨htl.take _, htl.drop _, hrb, by have := d.ctors_len; show cs.length ≤ cap; omega, h2⟩
      · exact noFam_ok
theorem loop_sem (d : Decl) (hd : d.bulk ≤ cap) (name : Str) (p : Nat) (hp : p ≤ 8) (params indices : List Term) (sort : Term) (h1 : TL params) (h2 : TL indices) (h3 : sort.bulk ≤ cap) (r : Family × Int)
    (hr : r = match ctorsT (Term.mk 3 0 name (ownLevels p) []) params indices.length d.ctors with
      | some cs => ({ name := name, levels := p, params := params, indices := indices, sort := sort, ctors := cs }, 0)
      | none => (noFam, 3)) :
    Ev (fun n => z0p_l1 n n d.ctors d.ctors.length 0 name p params indices sort.kind sort.index sort.name sort.levels sort.kids ⟨Term.mk 3 0 name (ownLevels p) [], params, indices.length⟩ []) r ∧
      True := by
  have hlen := d.ctors_len
  have key : ∀ (k i : Nat) (acc : List Zs4), k + i = d.ctors.length → acc.length ≤ i → ∀ r : Family × Int,
      (r = match ctorsT (Term.mk 3 0 name (ownLevels p) []) params indices.length (d.ctors.drop i) with
        | some cs => ({ name := name, levels := p, params := params, indices := indices, sort := sort, ctors := acc ++ cs }, 0)
        | none => (noFam, 3)) →
      Ev2 (fun n m => z0p_l1 n m d.ctors d.ctors.length i name p params indices sort.kind sort.index sort.name sort.levels sort.kids ⟨Term.mk 3 0 name (ownLevels p) [], params, indices.length⟩ acc) r ∧
      True := by
    intro k
    induction k with
    | zero =>
      intro i acc hi ha r hr
      obtain rfl : i = d.ctors.length := by omega
      rw [List.drop_length] at hr
      simp only [ctorsT, List.append_nil] at hr
      subst hr
      refine ⟨?_, ?_⟩
      · refine Ev2.lp (fun n m => by simp only [z0p_l1, z0p_b1]; exact rfl) ?_
        simp only [Int.lt_irrefl, decide_false, cond_false, Term.eta_mk]
        exact Ev2.pure
      · trivial
    | succ k ih =>
      intro i acc hi ha r hr
      have hi' : i < d.ctors.length := by omega
      have hct := (Decl.ctor_le (List.getElem_mem hi')).1
      obtain ⟨q1, q2⟩ := ctor_sem (Term.mk 3 0 name (ownLevels p) []) { name := name, levels := p, params := params, indices := indices, sort := sort, ctors := acc } d.ctors[i] p rfl hp rfl (by omega) h1 h2.1
      have hroom := room88 (k := acc.length) (by omega)
      have hnext : IntKind.i64.wrap ((i : Int) + 1) = ((i + 1 : Nat) : Int) := wrap_next (by simp only [cap] at hd; omega)
      rw [List.drop_eq_getElem_cons hi'] at hr
      simp only [ctorsT] at hr
      cases hb : (ctorT (Term.mk 3 0 name (ownLevels p) []) params indices.length d.ctors[i]).2 with
      | false =>
        rw [hb] at hr
        simp only [cond_false] at hr
        subst hr
        refine ⟨?_, ?_⟩
        · refine Ev2.lp (fun n m => by simp only [z0p_l1, z0p_b1]; exact rfl) ?_
          simp only [hi', Int.ofNat_lt, decide_true, cond_true]
          refine Ev2.idx hi' (Ev2.bind1 q1 ?_)
          simp only [hb, cond_false]
          exact Ev2.pure
        · trivial
      | true =>
        rw [hb] at hr
        simp only [cond_true] at hr
        obtain ⟨r1, r2⟩ := ih (i + 1) (acc ++ [(ctorT (Term.mk 3 0 name (ownLevels p) []) params indices.length d.ctors[i]).1]) (by omega) (by simp; omega) r (by
          rw [hr]
          cases ctorsT (Term.mk 3 0 name (ownLevels p) []) params indices.length (d.ctors.drop (i + 1)) with
          | none => rfl
          | some cs => simp)
        refine ⟨?_, ?_⟩
        · refine Ev2.lp (fun n m => by simp only [z0p_l1, z0p_b1]; exact rfl) ?_
          simp only [hi', Int.ofNat_lt, decide_true, cond_true]
          refine Ev2.idx hi' (Ev2.bind1 q1 ?_)
          simp only [hb, cond_true, hroom, hnext]
          exact r1
        · trivial
  obtain ⟨r1, r2⟩ := key d.ctors.length 0 [] (by omega) (by simp) r (by simpa using hr)
  exact ⟨Ev.of2 r1, trivial⟩
theorem Analyse_sem (d : Decl) (hd : d.bulk ≤ cap) (hp0 : 0 ≤ d.params) (hp8 : d.params ≤ 8) : Ev (fun n => z0p n d) (analyseT d) ∧ True := by
  have ht : d.type.bulk ≤ cap := by rw [Decl.bulk] at hd; omega
  obtain ⟨hr1, hr2⟩ := All_sem d.type ht
  obtain ⟨htl, hrb⟩ := allT_tl d.type ht
  obtain ⟨p, hp⟩ : ∃ p : Nat, d.params = p := ⟨d.params.toNat, by omega⟩
  have hpp : d.params.toNat = p := by omega
  by_cases hk : d.kind ≠ 3
  · have e : (d.kind != 3) = true := by rw [bne_iff_ne]; exact hk
    simp only [analyseT, e, cond_true]
    refine ⟨?_, ?_⟩
    · refine Ev.fn (fun n => by simp only [z0p, z0p_e]; exact rfl) ?_
      simp only [e, cond_true]
      exact Ev.pure
    · trivial
  have hk : d.kind = 3 := Classical.not_not.1 hk
  have e0 : (d.kind != 3) = false := by rw [hk]; rfl
  by_cases hf : d.fixed < 0
  · have e : decide (d.fixed < 0) = true := decide_eq_true hf
    simp only [analyseT, e0, e, Bool.true_or, cond_true, cond_false]
    refine ⟨?_, ?_⟩
    · refine Ev.fn (fun n => by simp only [z0p, z0p_e]; exact rfl) ?_
      simp only [e0, cond_false]
      refine Ev.bind hr1 ?_
      simp only [e, cond_true]
      exact Ev.pure
    · trivial
  have e1 : decide (d.fixed < 0) = false := decide_eq_false hf
  by_cases hg : ((allT d.type).1.length : Int) < d.fixed
  · have e : decide (((allT d.type).1.length : Int) < d.fixed) = true := decide_eq_true hg
    simp only [analyseT, e0, e1, e, Bool.true_or, Bool.false_or, cond_true, cond_false]
    refine ⟨?_, ?_⟩
    · refine Ev.fn (fun n => by simp only [z0p, z0p_e]; exact rfl) ?_
      simp only [e0, cond_false]
      refine Ev.bind hr1 ?_
      simp only [e1, e, cond_true, cond_false]
      exact Ev.pure
    · trivial
  have e2 : decide (((allT d.type).1.length : Int) < d.fixed) = false := decide_eq_false hg
  have e3 : decide (0 ≤ d.fixed ∧ d.fixed ≤ (allT d.type).1.length ∧ ((allT d.type).1.length : Int) ≤ (allT d.type).1.length) = true := decide_eq_true ⟨by omega, by omega, by omega⟩
  obtain ⟨q1, q2⟩ := loop_sem d hd d.name p (by omega) ((allT d.type).1.take d.fixed.toNat) ((allT d.type).1.drop d.fixed.toNat) (allT d.type).2 (htl.take _) (htl.drop _) hrb _ rfl
  have hit := z0x_ev d.name p (by omega)
  rw [← hp] at q1 hit
  rw [← hpp] at q1 hit
  cases hs : ((allT d.type).2.kind == 1 || (allT d.type).2.kind == 2) with
  | false =>
    simp only [analyseT, e0, e1, e2, hs, Bool.false_or, Bool.not_false, cond_true, cond_false]
    rw [Bool.or_eq_false_iff] at hs
    refine ⟨?_, ?_⟩
    · refine Ev.fn (fun n => by simp only [z0p, z0p_e]; exact rfl) ?_
      simp only [e0, cond_false]
      refine Ev.bind hr1 ?_
      simp only [e1, e2, bne, hs.1, hs.2, Bool.not_false, cond_true, cond_false]
      exact Ev.pure
    · trivial
  | true =>
    simp only [analyseT, e0, e1, e2, hs, Bool.false_or, Bool.not_true, cond_false]
    refine ⟨?_, ?_⟩
    · refine Ev.fn (fun n => by simp only [z0p, z0p_e]; exact rfl) ?_
      simp only [e0, cond_false]
      refine Ev.bind hr1 ?_
      cases hs1 : (allT d.type).2.kind == 1 with
      | true =>
        simp only [e1, e2, e3, bne, hs1, Bool.not_true, cond_true, cond_false, List.take_length]
        exact Ev.bind hit q1
      | false =>
        rw [hs1, Bool.false_or] at hs
        simp only [e1, e2, e3, bne, hs1, hs, Bool.not_true, Bool.not_false, cond_true, cond_false, List.take_length]
        exact Ev.bind hit q1
    · trivial
end Go.Abs
namespace Go.Abs
set_option linter.unusedVariables false
set_option linter.unusedSimpArgs false
theorem z1s_fine (k : Int) : Tot (fun n => z1s n k) (fun x => k = 6 ∨ k = 4 → x = 2) := by
  refine Tot.fn (fun n => by simp only [z1s, z1s_e]; exact rfl) ?_
  refine Tot.cnd (fun _ => Tot.pure fun _ => rfl) fun h1 => ?_
  refine Tot.cnd (fun _ => Tot.pure fun _ => rfl) fun _ => ?_
  refine Tot.cnd (fun _ => Tot.pure fun _ => rfl) fun h2 => ?_
  refine Tot.imp (P := Yes) ?_ fun _ _ h => ?_
  · (repeat' (first | exact Tot.pure trivial | exact Tot2.pure trivial | refine Tot.cnd (fun _ => ?_) (fun _ => ?_) | refine Tot2.cnd (fun _ => ?_) (fun _ => ?_)))
  · rw [beq_eq_false_iff_ne] at h1 h2
    rcases h with h | h <;> contradiction
theorem z1w_fine (t : Term) : Tot (fun n => z1w n t) (fun r => r = true → t.kind = 6 ∨ t.kind = 4 → t.kids.length = 2 ∧ t.index = 0 ∧ t.name = [] ∧ t.levels = []) := by
  refine Tot.fn (fun n => by simp only [z1w, z1w_e]; exact rfl) ?_
  refine Tot.cnd (fun _ => Tot.pure (by simp)) fun _ => Tot.cnd (fun _ => Tot.pure (by simp)) fun _ => ?_
  refine Tot.bind (z1s_fine _) fun x hx => ?_
  refine Tot.cnd (fun _ => Tot.pure (by simp)) fun hl => ?_
  have h2 : t.kind = 6 ∨ t.kind = 4 → t.kids.length = 2 := by
    intro h
    have := hx h
    subst this
    have h2 := bne_eq_false_iff_eq.1 hl
    omega
  (repeat' (refine Tot.cnd (fun _ => ?_) (fun _ => ?_)))
  all_goals refine Tot.pure fun hr hk => ?_
  all_goals refine ⟨h2 hk, ?_⟩
  all_goals clear h2 hl hx
  all_goals rcases hk with hk | hk <;> simp_all
theorem z1j_fine : ∀ (t : Term) (a b c d e : Int), t.bulk < lim → Tot (fun n => z1j n t a b c d e) (fun r => r = 0 → Fine t) := by
  intro t
  induction h : t.bulk using Nat.strongRecOn generalizing t with
  | ind k ih =>
    intro a b c d e hk
    have hl := t.kids_len
    have hl2 := t.levels_len
    have hl3 := t.name_len
    refine Tot.fn (fun n => by simp only [z1j, z1j_e]; exact rfl) ?_
    have k1 : (t.kind = 6 ∨ t.kind = 4 → t.kids.length = 2 ∧ t.index = 0 ∧ t.name = [] ∧ t.levels = []) → Tot (fun n => z1j_l1 (z1j n) n n a b c d e 0 t) (fun r => r = 0 → Fine t) := by
      intro hf
      refine Tot.of2 (F := fun n m => z1j_l1 (z1j n) n m a b c d e 0 t) ?_
      refine Tot2.up (S := Unit) (L := fun n m i s => z1j_l1 (z1j n) n m a b c d e i t) t.kids.length (fun i _ => ∀ j (hj : j < t.kids.length), j < i → Fine t.kids[j]) (fun r => r = 0 → Fine t) ?_ ?_ 0 () (by omega) (fun j _ h => by omega)
      · intro i s hi hI next
        refine Tot2.lp (fun n m => by simp only [z1j_l1, z1j_b1]; exact rfl) ?_
        simp only [hi, Int.ofNat_lt, decide_true, cond_true]
        refine Tot2.idx hi ?_
        have hm := t.kid_lt (List.getElem_mem hi)
        rw [wrap_next (by unfold lim at hk; omega)]
        refine Tot2.bind1 (z1g_tot _ _) fun x _ => ?_
        refine Tot2.bind1 (ih _ (by omega) _ rfl _ _ _ _ _ (by omega)) fun x hx => ?_
        refine Tot2.cnd (fun hc => Tot2.pure fun h0 => ?_) fun hc => ?_
        · subst h0; simp at hc
        · refine next s fun j hj hlt => ?_
          rcases Nat.lt_succ_iff_lt_or_eq.1 hlt with h | rfl
          · exact hI j hj h
          · exact hx (bne_eq_false_iff_eq.1 hc)
      · intro s hI
        refine Tot2.lp (fun n m => by simp only [z1j_l1, z1j_b1]; exact rfl) ?_
        simp only [Int.lt_irrefl, decide_false, cond_false]
        refine Tot2.pure fun _ => Fine.mk t hf fun k hk => ?_
        obtain ⟨j, hj, rfl⟩ := List.getElem_of_mem hk
        exact hI j hj hj
    have k2 : (t.kind = 6 ∨ t.kind = 4 → t.kids.length = 2 ∧ t.index = 0 ∧ t.name = [] ∧ t.levels = []) → Tot (fun n => z1j_l2 (z1j n) n n a b c d e 0 t) (fun r => r = 0 → Fine t) := by
      intro hf
      refine Tot.of2 (F := fun n m => z1j_l2 (z1j n) n m a b c d e 0 t) ?_
      refine Tot2.up (S := Unit) (L := fun n m i s => z1j_l2 (z1j n) n m a b c d e i t) t.levels.length (fun _ _ => True) (fun r => r = 0 → Fine t) ?_ ?_ 0 () (by omega) trivial
      · intro i s hi _ next
        refine Tot2.lp (fun n m => by simp only [z1j_l2, z1j_b2]; exact rfl) ?_
        simp only [hi, Int.ofNat_lt, decide_true, cond_true]
        refine Tot2.idx hi ?_
        have hm := t.level_lt (List.getElem_mem hi)
        rw [wrap_next (by unfold lim at hk; omega)]
        refine Tot2.bind1 (z1k_tot _ _ _ (by omega)) fun x _ => ?_
        refine Tot2.cnd (fun hc => Tot2.pure fun h0 => ?_) fun hc => ?_
        · subst h0; simp at hc
        · exact next s trivial
      · intro s _
        refine Tot2.lp (fun n m => by simp only [z1j_l2, z1j_b2]; exact rfl) ?_
        simp only [Int.lt_irrefl, decide_false, cond_false]
        (repeat' (first | exact Tot2.pure (by simp) | refine Tot2.cnd (fun _ => ?_) (fun _ => ?_)))
        all_goals exact Tot2.of1 (k1 hf)
    refine Tot.bind (z1w_fine _) fun x hx => ?_
    refine Tot.cnd (fun hc => ?_) fun hc => Tot.pure (by simp)
    subst hc
    have hf := hx rfl
    refine Tot.cnd (fun _ => ?_) fun _ => ?_
    · refine Tot.bind (z1t_tot _ (by omega)) fun x _ => ?_
      (repeat' (first | exact Tot.pure (by simp) | refine Tot.cnd (fun _ => ?_) (fun _ => ?_)))
      exact k2 hf
    · (repeat' (first | exact Tot.pure (by simp) | refine Tot.cnd (fun _ => ?_) (fun _ => ?_)))
      exact k2 hf
theorem z1h_fine (t : Term) (a b c d : Int) (hk : t.bulk < lim) : Tot (fun n => z1h n t a b c d) (fun r => r = 0 → Fine t) := by
  refine Tot.fn (fun n => by simp only [z1h, z1h_e]; exact rfl) ?_
  refine Tot.bind (z1j_fine _ _ _ _ _ _ hk) fun x hx => ?_
  refine Tot.cnd (fun hc => Tot.pure fun h0 => ?_) fun hc => ?_
  · subst h0; simp at hc
  have hf := hx (bne_eq_false_iff_eq.1 hc)
  refine Tot.imp (P := Yes) ?_ fun _ _ _ => hf
  refine Tot.bind (z1v_tot _ hk) fun x _ => ?_
  (repeat' (first | exact Tot.pure trivial | exact Tot2.pure trivial | refine Tot.cnd (fun _ => ?_) (fun _ => ?_) | refine Tot2.cnd (fun _ => ?_) (fun _ => ?_)))
  refine Tot.bind (z1i_tot _ hk) fun x _ => ?_
  (repeat' (first | exact Tot.pure trivial | exact Tot2.pure trivial | refine Tot.cnd (fun _ => ?_) (fun _ => ?_) | refine Tot2.cnd (fun _ => ?_) (fun _ => ?_)))
theorem z0y_tot (d : Decl) (hd : d.bulk ≤ cap) : Tot (fun n => z0y n d) Yes := by
  have hd' := hd
  rw [Decl.bulk] at hd'
  have hl1 := d.ctors_len
  have hl2 := sumB_len Fun.bulk_pos d.funs
  have hl3 : sumB Term.bulk d.recu.rules < d.recu.bulk := by rw [Zs3.bulk]; omega
  have hl4 := sumB_len Term.bulk_pos d.recu.rules
  have hl5 : d.recu.type.bulk < d.recu.bulk := by rw [Zs3.bulk]; omega
  have k1 : Tot (fun n => z0y_l1 n n 0 d) Yes := by
    refine Tot.of2 (F := fun n m => z0y_l1 n m 0 d) ?_
    refine Tot2.up (S := Unit) (L := fun n m i s => z0y_l1 n m i d) d.funs.length (fun _ _ => True) Yes ?_ ?_ 0 () (by omega) trivial
    · intro i s hi _ next
      refine Tot2.lp (fun n m => by simp only [z0y_l1, z0y_b1]; exact rfl) ?_
      simp only [hi, Int.ofNat_lt, decide_true, cond_true]
      refine Tot2.idx hi ?_
      have hm := sumB_mem (f := Fun.bulk) (List.getElem_mem hi)
      rw [Fun.bulk] at hm
      (repeat' (first | exact Tot.pure trivial | exact Tot2.pure trivial | refine Tot.cnd (fun _ => ?_) (fun _ => ?_) | refine Tot2.cnd (fun _ => ?_) (fun _ => ?_)))
      refine Tot2.idx hi ?_
      refine Tot2.bind1 (z19_tot _ (lim_of_cap (by omega))) fun x _ => ?_
      (repeat' (first | exact Tot.pure trivial | exact Tot2.pure trivial | refine Tot.cnd (fun _ => ?_) (fun _ => ?_) | refine Tot2.cnd (fun _ => ?_) (fun _ => ?_)))
      refine Tot2.idx hi ?_
      refine Tot2.bind1 (z0j_tot _ _ (lim_of_cap (by omega))) fun x _ => ?_
      (repeat' (first | exact Tot.pure trivial | exact Tot2.pure trivial | refine Tot.cnd (fun _ => ?_) (fun _ => ?_) | refine Tot2.cnd (fun _ => ?_) (fun _ => ?_)))
      rw [wrap_next (by simp only [cap] at hd hd'; omega)]
      exact next s trivial
    · intro s _
      refine Tot2.lp (fun n m => by simp only [z0y_l1, z0y_b1]; exact rfl) ?_
      simp only [Int.lt_irrefl, decide_false, cond_false]
      exact Tot2.pure trivial
  have k2 : Tot (fun n => z0y_l2 n n 0 d) Yes := by
    refine Tot.of2 (F := fun n m => z0y_l2 n m 0 d) ?_
    refine Tot2.up (S := Unit) (L := fun n m i s => z0y_l2 n m i d) d.recu.rules.length (fun _ _ => True) Yes ?_ ?_ 0 () (by omega) trivial
    · intro i s hi _ next
      refine Tot2.lp (fun n m => by simp only [z0y_l2, z0y_b2]; exact rfl) ?_
      simp only [hi, Int.ofNat_lt, decide_true, cond_true]
      refine Tot2.idx hi ?_
      have hm := sumB_mem (f := Term.bulk) (List.getElem_mem hi)
      refine Tot2.bind1 (z19_tot _ (lim_of_cap (by omega))) fun x _ => ?_
      (repeat' (first | exact Tot.pure trivial | exact Tot2.pure trivial | refine Tot.cnd (fun _ => ?_) (fun _ => ?_) | refine Tot2.cnd (fun _ => ?_) (fun _ => ?_)))
      rw [wrap_next (by simp only [cap] at hd hd'; omega)]
      exact next s trivial
    · intro s _
      refine Tot2.lp (fun n m => by simp only [z0y_l2, z0y_b2]; exact rfl) ?_
      simp only [Int.lt_irrefl, decide_false, cond_false]
      exact Tot2.of1 k1
  have k3 : Tot (fun n => z0y_l3 n n 0 d) Yes := by
    refine Tot.of2 (F := fun n m => z0y_l3 n m 0 d) ?_
    refine Tot2.up (S := Unit) (L := fun n m i s => z0y_l3 n m i d) d.ctors.length (fun _ _ => True) Yes ?_ ?_ 0 () (by omega) trivial
    · intro i s hi _ next
      refine Tot2.lp (fun n m => by simp only [z0y_l3, z0y_b3]; exact rfl) ?_
      simp only [hi, Int.ofNat_lt, decide_true, cond_true]
      refine Tot2.idx hi ?_
      have hm := (Decl.ctor_le (List.getElem_mem hi)).1
      (repeat' (first | exact Tot.pure trivial | exact Tot2.pure trivial | refine Tot.cnd (fun _ => ?_) (fun _ => ?_) | refine Tot2.cnd (fun _ => ?_) (fun _ => ?_)))
      refine Tot2.idx hi ?_
      refine Tot2.bind1 (z19_tot _ (lim_of_cap (by omega))) fun x _ => ?_
      (repeat' (first | exact Tot.pure trivial | exact Tot2.pure trivial | refine Tot.cnd (fun _ => ?_) (fun _ => ?_) | refine Tot2.cnd (fun _ => ?_) (fun _ => ?_)))
      rw [wrap_next (by simp only [cap] at hd hd'; omega)]
      exact next s trivial
    · intro s _
      refine Tot2.lp (fun n m => by simp only [z0y_l3, z0y_b3]; exact rfl) ?_
      simp only [Int.lt_irrefl, decide_false, cond_false]
      exact Tot2.of1 k2
  refine Tot.fn (fun n => by simp only [z0y, z0y_e]; exact rfl) ?_
  (repeat' (first | exact Tot.pure trivial | exact Tot2.pure trivial | refine Tot.cnd (fun _ => ?_) (fun _ => ?_) | refine Tot2.cnd (fun _ => ?_) (fun _ => ?_)))
  refine Tot.bind (z19_tot _ (lim_of_cap (by omega))) fun x _ => ?_
  (repeat' (first | exact Tot.pure trivial | exact Tot2.pure trivial | refine Tot.cnd (fun _ => ?_) (fun _ => ?_) | refine Tot2.cnd (fun _ => ?_) (fun _ => ?_)))
  refine Tot.bind (z19_tot _ (lim_of_cap (by omega))) fun x _ => ?_
  (repeat' (first | exact Tot.pure trivial | exact Tot2.pure trivial | refine Tot.cnd (fun _ => ?_) (fun _ => ?_) | refine Tot2.cnd (fun _ => ?_) (fun _ => ?_)))
  refine Tot.bind (z19_tot _ (lim_of_cap (by omega))) fun x _ => ?_
  (repeat' (first | exact Tot.pure trivial | exact Tot2.pure trivial | refine Tot.cnd (fun _ => ?_) (fun _ => ?_) | refine Tot2.cnd (fun _ => ?_) (fun _ => ?_)))
  exact k3
theorem z1a_ev : Ev (fun n => z1a n) true := by
  refine ⟨60, fun n hn => ?_⟩
  obtain ⟨k, rfl⟩ : ∃ k, n = k + 60 := ⟨n - 60, by omega⟩
  exact awake_k k
structure AnalyseOK (d : Decl) (cs : List Zs4) : Prop where
  kind : d.kind = 3
  f0 : 0 ≤ d.fixed
  f1 : d.fixed ≤ (allT d.type).1.length
  sort : (allT d.type).2.kind = 1 ∨ (allT d.type).2.kind = 2
  ctors : ctorsT (Term.mk 3 0 d.name (ownLevels d.params.toNat) []) ((allT d.type).1.take d.fixed.toNat) ((allT d.type).1.drop d.fixed.toNat).length d.ctors = some cs
noncomputable def famOf (d : Decl) (cs : List Zs4) : Family := { name := d.name, levels := d.params, params := (allT d.type).1.take d.fixed.toNat, indices := (allT d.type).1.drop d.fixed.toNat, sort := (allT d.type).2, ctors := cs }
theorem AnalyseOK.eq {d : Decl} {cs : List Zs4} (h : AnalyseOK d cs) : analyseT d = (famOf d cs, 0) := by
  unfold analyseT
  have e1 : (d.kind != 3) = false := by rw [h.kind]; rfl
  have e2 : decide (d.fixed < 0) = false := decide_eq_false (by have := h.f0; omega)
  have e3 : decide (((allT d.type).1.length : Int) < d.fixed) = false := decide_eq_false (by have := h.f1; omega)
  have e4 : ((allT d.type).2.kind == 1 || (allT d.type).2.kind == 2) = true := by
    rcases h.sort with e | e <;> rw [e] <;> rfl
  rw [e1, e2, e3, e4, h.ctors]
  rfl
theorem analyseT_inv {d : Decl} (h : (analyseT d).2 = 0) : ∃ cs, AnalyseOK d cs := by
  unfold analyseT at h
  cases hk : d.kind != 3 with
  | true => rw [hk] at h; simp at h
  | false =>
    rw [hk] at h
    cases hc : decide (d.fixed < 0) || (decide ((allT d.type).1.length < d.fixed) || !((allT d.type).2.kind == 1 || (allT d.type).2.kind == 2)) with
    | true => rw [hc] at h; simp at h
    | false =>
      rw [hc] at h
      simp only [cond_false] at h
      split at h
      · rename_i cs hcs
        simp only [Bool.or_eq_false_iff, decide_eq_false_iff_not, Bool.not_eq_false', Bool.or_eq_true, beq_iff_eq] at hc
        exact ⟨cs, bne_eq_false_iff_eq.1 hk, by omega, by omega, hc.2.2, hcs⟩
      · simp at h
end Go.Abs
namespace Go.Abs
set_option linter.unusedVariables false
set_option linter.unusedSimpArgs false
theorem any_drop {α : Type} (p : α → Bool) (xs : List α) (i : Nat) (h : i < xs.length) : (xs.drop i).any p = (p xs[i] || (xs.drop (i + 1)).any p) := by
  rw [List.drop_eq_getElem_cons h, List.any_cons]
-- the reference
theorem z24_ev (l : List Str) (s : Str) (hl : l.length < lim) : Ev (fun n => z24 n l s) (l.any (· == s)) := by
  refine Tot.ev ?_
  refine Tot.fn (fun n => by simp only [z24, z24_e]; exact rfl) ?_
  refine Tot.of2 (F := fun n m => z24_l1 n m l s 0) ?_
  refine Tot2.up (S := Unit) (L := fun n m i _ => z24_l1 n m l s i) l.length (fun i _ => l.any (· == s) = (l.drop i).any (· == s)) _ ?_ ?_ 0 () (by omega) rfl
  · intro i u hi hI next
    refine Tot2.lp (fun n m => by simp only [z24_l1, z24_b1]; exact rfl) ?_
    simp only [hi, Int.ofNat_lt, decide_true, cond_true]
    refine Tot2.idx hi ?_
    rw [any_drop _ _ _ hi] at hI
    refine Tot2.cnd (fun hc => Tot2.pure ?_) fun hc => ?_
    · rw [hI, hc, Bool.true_or]
    · rw [wrap_next (by unfold lim at hl; omega)]
      exact next u (by rw [hI, hc, Bool.false_or])
  · intro u hI
    refine Tot2.lp (fun n m => by simp only [z24_l1, z24_b1]; exact rfl) ?_
    simp only [Int.lt_irrefl, decide_false, cond_false]
    refine Tot2.pure ?_
    rw [hI, List.drop_length]; rfl
end Go.Abs
namespace Go.Abs
set_option linter.unusedVariables false
set_option linter.unusedSimpArgs false
end Go.Abs
namespace Go.Abs
set_option linter.unusedVariables false
set_option linter.unusedSimpArgs false
theorem ctorsT_get {own : Term} {params : List Term} {k : Nat} : ∀ {l : List Ctor} {cs : List Zs4}, ctorsT own params k l = some cs → ∀ (i : Nat) (hi : i < l.length), (ctorT own params k l[i]).2 = true ∧ cs[i]? = some (ctorT own params k l[i]).1
  | [], _, _, i, hi => by simp at hi
  | c :: l, cs, h, i, hi => by
    simp only [ctorsT] at h
    cases hc : (ctorT own params k c).2 with
    | false => rw [hc] at h; cases h
    | true =>
      rw [hc, cond_true, Option.map_eq_some_iff] at h
      obtain ⟨cs', h', rfl⟩ := h
      cases i with
      | zero => exact ⟨hc, rfl⟩
      | succ i => simpa using ctorsT_get h' i (by simpa using hi)
end Go.Abs
namespace Go.Abs
end Go.Abs
namespace Go.Abs
set_option linter.unusedVariables false
set_option linter.unusedSimpArgs false
noncomputable def pisT (ctx : List Term) (t : Term) : Term := ctx.foldr (fun a t => Term.mk 6 0 [] [] [a, t]) t
noncomputable def appsT (f : Term) (args : List Term) : Term := args.foldl (fun f a => Term.mk 4 0 [] [] [f, a]) f
theorem pisT_drop {ctx : List Term} {t : Term} {k : Nat} (hk : k < ctx.length) : pisT (ctx.drop k) t = Term.mk 6 0 [] [] [ctx[k], pisT (ctx.drop (k + 1)) t] := by
  rw [List.drop_eq_getElem_cons hk]; rfl
theorem appsT_take {f : Term} {args : List Term} {k : Nat} (hk : k < args.length) : appsT f (args.take (k + 1)) = Term.mk 4 0 [] [] [appsT f (args.take k), args[k]] := by
  rw [List.take_succ_eq_append_getElem hk]; simp only [appsT, List.foldl_append, List.foldl_cons, List.foldl_nil]
theorem appsT_append (f : Term) (a b : List Term) : appsT f (a ++ b) = appsT (appsT f a) b := by simp [appsT]
theorem round_ev (i : Int) (x : Term) (k : Int) (o : Term) : Ev (fun n => z04 n i x k o) ((((k, ()), 0), (Term.mk k 0 [] [] [x, o], ()), ()), true, ()) := by
  refine Ev.fn (fun n => by simp only [z04, z04_e]; exact rfl) ?_
  exact Ev.pure
theorem Backward_loop (ctx : List Term) (t : Term) (hl : ctx.length < lim) : ∀ k : Nat, k ≤ ctx.length → Ev2 (fun n m => z06_l1 n m ctx ((k : Int) - 1) 6 0 (pisT (ctx.drop k) t)) ((((6, ()), 0), (pisT ctx t, ()), ()), ())
  | 0, _ => by
    refine Ev2.lp (fun n m => by simp only [z06_l1, z06_b1]; exact rfl) ?_
    have : decide ((0 : Int) ≤ ((0 : Nat) : Int) - 1) = false := by simp
    simp only [this, cond_false, List.drop_zero]
    exact Ev2.pure
  | k + 1, hk => by
    have e : ((k + 1 : Nat) : Int) - 1 = (k : Int) := by omega
    rw [e]
    refine Ev2.lp (fun n m => by simp only [z06_l1, z06_b1]; exact rfl) ?_
    have : decide ((0 : Int) ≤ (k : Int)) = true := by simp
    simp only [this, cond_true, beq_self_eq_true]
    refine Ev2.idx (by omega) ?_
    refine Ev2.bind1 (round_ev _ _ _ _) ?_
    simp only [cond_true]
    rw [wrap_small (by omega) (by unfold lim at hl; omega), ← pisT_drop (by omega)]
    exact Backward_loop ctx t hl k (by omega)
theorem z11_ev (ctx : List Term) (t : Term) (hl : ctx.length < lim) : Ev (fun n => z11 n ctx t) (pisT ctx t) := by
  refine Ev.fn (fun n => by simp only [z11, z11_e]; exact rfl) ?_
  have h1 : Ev (fun n => z0v n 6) 6 := by refine Ev.fn (fun n => by simp only [z0v, z0v_e]; exact rfl) ?_; exact Ev.pure
  refine Ev.bind h1 ?_
  refine Ev.bind (x := pisT ctx t) ?_ Ev.pure
  refine Ev.fn (fun n => by simp only [z0h, z0h_e]; exact rfl) ?_
  have h2 : Ev (fun n => z08 n ctx) ctx := by refine Ev.fn (fun n => by simp only [z08, z08_e]; exact rfl) ?_; exact Ev.pure
  refine Ev.bind h2 ?_
  refine Ev.bind (x := ((((6, ()), 0), (pisT ctx t, ()), ()), ())) ?_ Ev.pure
  refine Ev.fn (fun n => by simp only [z06, z06_e]; exact rfl) ?_
  rw [wrap_small (by omega) (by unfold lim at hl; omega)]
  have := Backward_loop ctx t hl ctx.length (Nat.le_refl _)
  rw [List.drop_length] at this
  exact Ev.of2 this
theorem Vars_h_ev (k : Nat) (f : Int) (hf : f ≤ 4611686018427387904) : Ev (fun n => z0g n k f) ((someVars k f, ()), ()) := by
  by_cases h1 : k < 1
  · have d : decide ((k : Int) < 1) = true := by simp; omega
    have e : someVars k f = [] := by simp [someVars, h1]
    rw [e]
    refine Ev.fn (fun n => by simp only [z0g, z0g_e]; exact rfl) ?_
    simp only [d, cond_true]; exact Ev.pure
  have d1 : decide ((k : Int) < 1) = false := by simp; omega
  by_cases h2 : 4096 < k
  · have d : decide ((4096 : Int) < k) = true := by simp; omega
    have e : someVars k f = [] := by simp [someVars, h2]
    rw [e]
    refine Ev.fn (fun n => by simp only [z0g, z0g_e]; exact rfl) ?_
    simp only [d1, d, cond_true, cond_false]; exact Ev.pure
  have d2 : decide ((4096 : Int) < k) = false := by simp; omega
  by_cases h3 : f < 0
  · have d : decide (f < 0) = true := by simpa using h3
    have e : someVars k f = [] := by simp [someVars, h3]
    rw [e]
    refine Ev.fn (fun n => by simp only [z0g, z0g_e]; exact rfl) ?_
    simp only [d1, d2, d, cond_true, cond_false]; exact Ev.pure
  have d3 : decide (f < 0) = false := by simpa using h3
  have e : someVars k f = varsT k f := by simp only [someVars]; rw [if_neg (by omega)]
  rw [e]
  refine Ev.fn (fun n => by simp only [z0g, z0g_e]; exact rfl) ?_
  have d4 : decide ((0 : Int) ≤ k) = true := by simp
  have d5 : decide (k * 80 ≤ 17592186044416) = true := by simp; omega
  have d6 : decide ((k : Int) < 2 ^ 62) = true := by simp; omega
  have d7 : (k == 0) = false := by simp; omega
  simp only [d1, d2, d3, d4, d5, d6, d7, cond_true, cond_false, Int.toNat_natCast]
  refine Tot.ev ?_
  refine Tot.of2 (F := fun n m => z0g_l1 n m k f k 0 (List.replicate k (Term.mk 0 0 [] [] []))) ?_
  refine Tot2.up (S := List Term) (L := fun n m i s => z0g_l1 n m k f k i s) k (fun i s => s = (varsT k f).take i ++ List.replicate (k - i) (Term.mk 0 0 [] [] [])) (· = ((varsT k f, ()), ())) ?_ ?_ 0 _ (by omega) (by simp)
  · intro i s hi hs next
    refine Tot2.lp (fun n m => by simp only [z0g_l1, z0g_b1]; exact rfl) ?_
    have hlt : ((varsT k f).take i).length = i := by rw [List.length_take, varsT_len]; omega
    have hlen : s.length = k := by rw [hs, List.length_append, hlt, List.length_replicate]; omega
    have hi' : i < s.length := by omega
    simp only [hi, Int.ofNat_lt, decide_true, cond_true, idxA_at hi', Option.bind_some, Int.toNat_natCast, List.getElem?_eq_getElem hi', hi']
    rw [wrap_next (by omega), wrap_small (n := f + (k : Int)) (by omega) (by omega), wrap_small (n := f + (k : Int) - 1) (by omega) (by omega), wrap_small (n := f + (k : Int) - 1 - i) (by omega) (by omega)]
    refine next _ ?_
    rw [hs, List.set_append_right _ _ (by omega), hlt, Nat.sub_self, varsT_take k f i hi]
    have : k - i = (k - (i + 1)) + 1 := by omega
    rw [this, List.replicate_succ, List.set_cons_zero]
    simp
  · intro s hs
    refine Tot2.lp (fun n m => by simp only [z0g_l1, z0g_b1]; exact rfl) ?_
    simp only [Int.lt_irrefl, decide_false, cond_false]
    refine Tot2.pure ?_
    rw [hs]
    have : (varsT k f).take k = varsT k f := by rw [List.take_of_length_le]; rw [varsT_len]; omega
    rw [this]; simp
theorem Apply_evs (f : Term) (args : List Term) (hl : args.length < lim) : Ev (fun n => z0n n f args) (appsT f args) ∧ True := by
  constructor
  · refine Ev.fn (fun n => by simp only [z0n, z0n_e]; exact rfl) ?_
    refine Tot.ev ?_
    refine Tot.of2 (F := fun n m => z0n_l1 n m args args.length 0 f) ?_
    refine Tot2.up (S := Term) (L := fun n m i s => z0n_l1 n m args args.length i s) args.length (fun i s => s = appsT f (args.take i)) (· = appsT f args) ?_ ?_ 0 _ (by omega) (by simp [appsT])
    · intro i s hi hs next
      refine Tot2.lp (fun n m => by simp only [z0n_l1, z0n_b1]; exact rfl) ?_
      simp only [hi, Int.ofNat_lt, decide_true, cond_true]
      refine Tot2.idx hi ?_
      rw [wrap_next (by unfold lim at hl; omega)]
      refine next _ ?_
      rw [hs, appsT_take hi]
    · intro s hs
      refine Tot2.lp (fun n m => by simp only [z0n_l1, z0n_b1]; exact rfl) ?_
      simp only [Int.lt_irrefl, decide_false, cond_false]
      refine Tot2.pure ?_
      rw [hs, List.take_length]
  · trivial
noncomputable def typeT (p : Nat) (f : Family) (c : Zs4) : Term := pisT f.params (pisT c.fields (appsT (Term.mk 3 0 f.name (ownLevels p) []) (someVars f.params.length c.fields.length ++ c.results)))
theorem someVars_len (k : Nat) (f : Int) : (someVars k f).length ≤ 4096 := by
  unfold someVars
  split
  · simp
  · rw [varsT_len]; omega
theorem room80' {a b : Nat} (ha : a ≤ 4096) (hb : b ≤ cap) : decide ((a + b) * 80 ≤ 17592186044416) = true := by
  simp only [cap] at hb; simp only [decide_eq_true_eq]; omega
theorem CtorType_at (f : Family) (hf : FamOK f) (p : Nat) (hlv : f.levels = p) (hp8 : p ≤ 8) (i : Nat) (hi : i < f.ctors.length) :
    Ev (fun n => z0i n f i) (typeT p f f.ctors[i], 0) ∧ True := by
  obtain ⟨h1, h2, h3, h4, h5⟩ := hf
  obtain ⟨c1, c2, _, _⟩ := h5 _ (List.getElem_mem hi)
  have d1 : decide ((i : Int) < 0) = false := by simp
  have d2 : decide ((f.ctors.length : Int) ≤ (i : Int)) = false := by simp; omega
  have hvl := someVars_len f.params.length (f.ctors[i].fields.length : Int)
  have hfl : ((f.ctors[i].fields.length : Nat) : Int) ≤ 4611686018427387904 := by have := c1.1; simp only [cap] at this; omega
  constructor
  · refine Ev.fn (fun n => by simp only [z0i, z0i_e]; exact rfl) ?_
    simp only [d1, d2, cond_false, idxA_at hi, Option.bind_some]
    refine Ev.bind (Vars_h_ev f.params.length (f.ctors[i].fields.length : Int) hfl) ?_
    simp only [room80' hvl c2.1, cond_true, hlv]
    refine Ev.bind (z0x_ev f.name p hp8) ?_
    refine Ev.bind (Apply_evs _ _ ?_).1 ?_
    · have := c2.1; simp only [cap] at this; unfold lim; rw [List.length_append]; omega
    refine Ev.bind (z11_ev _ _ c1.lim.1) (Ev.bind (z11_ev _ _ h1.lim.1) ?_)
    exact Ev.pure
  · trivial
theorem ownLevels_bulk (p : Nat) : sumB Level.bulk (ownLevels p) ≤ 1 + p * 20 := by
  induction p with
  | zero => simp [ownLevels, sumB]
  | succ p ih =>
    have : ∀ (xs : List Level) (y : Level), sumB Level.bulk (xs ++ [y]) = sumB Level.bulk xs + y.bulk := by
      intro xs y
      induction xs with
      | nil => simp only [List.nil_append, sumB]; omega
      | cons x xs ih => simp only [List.cons_append, sumB, ih]; omega
    rw [ownLevels_succ, this]
    simp only [Level.bulk, Zs2.bulk, sumB]
    omega
end Go.Abs
namespace Go.Abs
set_option linter.unusedVariables false
set_option linter.unusedSimpArgs false
theorem Term.eta2 {t x y : Term} (hk : t.kids = [x, y]) (h1 : t.index = 0) (h2 : t.name = []) (h3 : t.levels = []) : Term.mk t.kind 0 [] [] [x, y] = t := by
  rw [← hk, ← h1, ← h2, ← h3]
  have := Term.eta_mk t
  rw [h1, h2, h3] at this ⊢
  exact this
theorem pisT_append (a b : List Term) (t : Term) : pisT (a ++ b) t = pisT a (pisT b t) := by simp [pisT]
theorem pisT_all : ∀ t : Term, Fine t → pisT (allT t).1 (allT t).2 = t := by
  intro t
  induction h : t.bulk using Nat.strongRecOn generalizing t with
  | ind k ih =>
    intro hf
    by_cases hp : t.kind = 6 ∧ t.kids.length = 2
    · obtain ⟨x, y, hk⟩ := len2 hp.2
      obtain ⟨_, b1, b2, b3⟩ := hf.bare (.inl hp.1)
      rw [allT_pi hp.1 hk]
      have hlt : y.bulk < k := by rw [← h]; exact Term.kid_lt (by rw [hk]; simp)
      have := ih _ hlt y rfl (hf.kid y (by rw [hk]; simp))
      show Term.mk 6 0 [] [] [x, pisT (allT y).1 (allT y).2] = t
      rw [this]
      have e := Term.eta2 hk b1 b2 b3
      rw [hp.1] at e
      exact e
    · rw [allT_not hp]; rfl
theorem appsT_spine : ∀ t : Term, Fine t → appsT (spineT t).1 (spineT t).2 = t := by
  intro t
  induction h : t.bulk using Nat.strongRecOn generalizing t with
  | ind k ih =>
    intro hf
    by_cases hp : t.kind = 4 ∧ t.kids.length = 2
    · obtain ⟨x, y, hk⟩ := len2 hp.2
      obtain ⟨_, b1, b2, b3⟩ := hf.bare (.inr hp.1)
      rw [spineT_app hp.1 hk]
      have hlt : x.bulk < k := by rw [← h]; exact Term.kid_lt (by rw [hk]; simp)
      have := ih _ hlt x rfl (hf.kid x (by rw [hk]; simp))
      rw [appsT_append, this]
      show Term.mk 4 0 [] [] [x, y] = t
      have e := Term.eta2 hk b1 b2 b3
      rw [hp.1] at e
      exact e
    · rw [spineT_not hp]; rfl
theorem ctorT_type {own : Term} {params : List Term} {k : Nat} {c : Ctor} (hf : Fine c.type) (h : (ctorT own params k c).2 = true) :
    pisT params (pisT (ctorT own params k c).1.fields (appsT own (someVars params.length (ctorT own params k c).1.fields.length ++ (ctorT own params k c).1.results))) = c.type ∧ (ctorT own params k c).1.name = c.name := by
  have hfa := allT_fine c.type hf
  unfold ctorT at h ⊢
  cases h0 : decide ((allT c.type).1.length < params.length) with
  | true => rw [h0] at h; cases h
  | false =>
    rw [h0] at h
    cases h1 : eqb ((allT c.type).1.take params.length) params with
    | false => rw [h1] at h; cases h
    | true =>
      rw [h1] at h
      cases h2 : (resultT own params k (allT c.type).2 (((allT c.type).1.drop params.length).length : Int)).2 with
      | false => rw [h2] at h; cases h
      | true =>
        simp only [cond_false, cond_true]
        refine ⟨?_, trivial⟩
        unfold resultT at h2 ⊢
        cases h3 : ((spineT (allT c.type).2).2.length == params.length + k && (eqb (spineT (allT c.type).2).1 own && eqb ((spineT (allT c.type).2).2.take params.length) (someVars params.length (((allT c.type).1.drop params.length).length : Int)))) with
        | false => rw [h3] at h2; cases h2
        | true =>
          simp only [cond_true]
          simp only [Bool.and_eq_true, eqb_iff] at h3
          obtain ⟨_, e1, e2⟩ := h3
          rw [← e2, List.take_append_drop, ← e1, appsT_spine _ hfa.2]
          have e3 := eqb_iff.1 h1
          have e4 : pisT params (pisT ((allT c.type).1.drop params.length) (allT c.type).2) = pisT ((allT c.type).1.take params.length ++ (allT c.type).1.drop params.length) (allT c.type).2 := by
            rw [pisT_append, e3]
          rw [e4, List.take_append_drop]
          exact pisT_all _ hf
end Go.Abs
namespace Go.Abs
set_option linter.unusedVariables false
set_option linter.unusedSimpArgs false
theorem room16w {k : Nat} (h : k ≤ cap * 4) : decide ((k + 1) * 16 ≤ 17592186044416) = true := by
  simp only [cap] at h; simp only [decide_eq_true_eq]; omega
def recN : Str := [46, 114, 101, 99]
def namesT (d : Decl) : List Str :=
  bif d.kind == 0 then [d.name] else bif d.kind == 1 then [d.name] else bif d.kind == 2 then [d.name] else
  bif d.kind == 3 then d.name :: d.ctors.map (·.name) ++ [d.name ++ recN] else bif d.kind == 4 then d.funs.map (·.name) else []
structure DOK (d : Decl) : Prop where
  ctors : d.ctors.length ≤ cap
  funs : d.funs.length ≤ cap
  name : d.name.length ≤ cap
theorem DOK.of {d : Decl} (h : d.bulk ≤ cap) : DOK d := by
  rw [Decl.bulk] at h
  have h1 := d.ctors_len
  have h2 := sumB_len Fun.bulk_pos d.funs
  have h3 := sumB_len Ctor.bulk_pos d.ctors
  exact ⟨by omega, by omega, by omega⟩
theorem namesT_len {d : Decl} (h : DOK d) : (namesT d).length ≤ cap + 2 := by
  obtain ⟨h1, h2, _⟩ := h
  unfold namesT
  cases d.kind == 0 <;> cases d.kind == 1 <;> cases d.kind == 2 <;> cases d.kind == 3 <;> cases d.kind == 4 <;> simp [cap] <;> simp only [cap] at h1 h2 <;> omega
theorem map_take_succ {α β : Type} (f : α → β) (l : List α) (i : Nat) (h : i < l.length) : (l.take (i + 1)).map f = (l.take i).map f ++ [f l[i]] := by
  rw [List.take_succ_eq_append_getElem h, List.map_append]; rfl
theorem ref_Names_ev (d : Decl) (h : DOK d) : Ev (fun n => z1m n d) (namesT d) := by
  obtain ⟨h1, h2, h3⟩ := h
  have hn : decide (d.name.length ≤ 9223372036854775803) = true := by simp only [cap] at h3; simp only [decide_eq_true_eq]; omega
  refine Ev.fn (fun n => by simp only [z1m, z1m_e]; exact rfl) ?_
  unfold namesT
  cases d.kind == 0 with
  | true => exact Ev.pure
  | false =>
  cases d.kind == 1 with
  | true => exact Ev.pure
  | false =>
  cases d.kind == 2 with
  | true => exact Ev.pure
  | false =>
  cases d.kind == 3 with
  | true =>
    simp only [cond_true, cond_false]
    have loop : ∀ (i : Nat) (s : List Str), i ≤ d.ctors.length → s = d.name :: (d.ctors.take i).map (·.name) → Tot2 (fun n m => z1m_l1 n m i d s) (· = d.name :: d.ctors.map (·.name) ++ [d.name ++ recN]) := by
      refine Tot2.up (S := List Str) (L := fun n m i s => z1m_l1 n m i d s) d.ctors.length (fun i s => s = d.name :: (d.ctors.take i).map (·.name)) _ ?_ ?_
      · intro i s hi hs next
        refine Tot2.lp (fun n m => by simp only [z1m_l1, z1m_b1]; exact rfl) ?_
        have hl : s.length ≤ cap * 4 := by rw [hs]; simp only [List.length_cons, List.length_map, List.length_take, cap] at *; omega
        simp only [hi, Int.ofNat_lt, decide_true, cond_true, room16w hl]
        refine Tot2.idx hi ?_
        rw [wrap_next (by simp only [cap] at h1; omega)]
        exact next _ (by rw [hs, map_take_succ _ _ _ hi]; rfl)
      · intro s hs
        refine Tot2.lp (fun n m => by simp only [z1m_l1, z1m_b1]; exact rfl) ?_
        have hl : s.length ≤ cap * 4 := by rw [hs]; simp only [List.length_cons, List.length_map, List.length_take, cap] at *; omega
        simp only [Int.lt_irrefl, decide_false, cond_false, hn, cond_true, room16w hl]
        exact Tot2.pure (by rw [hs, List.take_length]; rfl)
    refine Tot.ev (Tot.of2 (F := fun n m => z1m_p1 n m [d.name] 0 d) ?_)
    refine Tot2.lp (fun n m => by simp only [z1m_p1, z1m_b1p]; exact rfl) ?_
    have hl : [d.name].length ≤ cap * 4 := by simp [cap]
    refine Tot2.cnd (fun hc => ?_) fun hc => ?_
    · have hi : 0 < d.ctors.length := by have := of_decide_eq_true hc; omega
      refine Tot2.idx (i := 0) hi ?_
      simp only [room16w hl, cond_true]
      have e : IntKind.i64.wrap (0 + 1) = ((1 : Nat) : Int) := rfl
      rw [e]
      refine loop 1 _ hi ?_
      rw [map_take_succ _ _ _ hi]; rfl
    · have hz : d.ctors = [] := by
        have := of_decide_eq_false hc
        exact List.eq_nil_of_length_eq_zero (by omega)
      simp only [hn, cond_true, room16w hl]
      exact Tot2.pure (by rw [hz]; rfl)
  | false =>
  cases d.kind == 4 with
  | true =>
    simp only [cond_true, cond_false]
    refine Tot.ev (Tot.of2 (F := fun n m => z1m_l2 n m 0 d []) ?_)
    refine Tot2.up (S := List Str) (L := fun n m i s => z1m_l2 n m i d s) d.funs.length (fun i s => s = (d.funs.take i).map (·.name)) _ ?_ ?_ 0 _ (by omega) rfl
    · intro i s hi hs next
      refine Tot2.lp (fun n m => by simp only [z1m_l2, z1m_b2]; exact rfl) ?_
      have hl : s.length ≤ cap * 4 := by rw [hs]; simp only [List.length_cons, List.length_map, List.length_take, cap] at *; omega
      simp only [hi, Int.ofNat_lt, decide_true, cond_true, room16w hl]
      refine Tot2.idx hi ?_
      rw [wrap_next (by simp only [cap] at h2; omega)]
      exact next _ (by rw [hs, map_take_succ _ _ _ hi])
    · intro s hs
      refine Tot2.lp (fun n m => by simp only [z1m_l2, z1m_b2]; exact rfl) ?_
      simp only [Int.lt_irrefl, decide_false, cond_false]
      exact Tot2.pure (by rw [hs, List.take_length])
  | false => exact Ev.pure
def ctorE (i : Int) (p : Int) (name : Str) : Nat → List Ctor → Option Entry
  | _, [] => none
  | k, c :: cs => bif c.name == name then some { kind := 4, decl := i, item := k, params := p, type := c.type } else ctorE i p name (k + 1) cs
def funE (i : Int) (p : Int) (name : Str) : Nat → List Fun → Option Entry
  | _, [] => none
  | k, c :: cs => bif c.name == name then some { kind := 6, decl := i, item := k, params := p, type := c.type } else funE i p name (k + 1) cs
def entryT (d : Decl) (i : Int) (name : Str) : Entry :=
  bif d.kind == 0 then { kind := 0, decl := i, item := 0, params := d.params, type := d.type } else
  bif d.kind == 1 then { kind := 1, decl := i, item := 0, params := d.params, type := d.type } else
  bif d.kind == 2 then { kind := 2, decl := i, item := 0, params := d.params, type := d.type } else
  bif d.kind == 3 then bif name == d.name then { kind := 3, decl := i, item := 0, params := d.params, type := d.type } else
    (ctorE i d.params name 0 d.ctors).getD { kind := 5, decl := i, item := 0, params := d.recu.params, type := d.recu.type }
  else (funE i d.params name 0 d.funs).getD { kind := 0, decl := i, item := 0, params := d.params, type := d.type }
theorem ref_entry_ev (d : Decl) (h : DOK d) (i : Int) (name : Str) : Ev (fun n => z1o n d i name) (entryT d i name) := by
  obtain ⟨h1, h2, h3⟩ := h
  refine Ev.fn (fun n => by simp only [z1o, z1o_e]; exact rfl) ?_
  unfold entryT
  cases d.kind == 0 with
  | true => exact Ev.pure
  | false =>
  cases d.kind == 1 with
  | true => exact Ev.pure
  | false =>
  cases d.kind == 2 with
  | true => exact Ev.pure
  | false =>
  simp only [cond_false]
  cases d.kind == 3 with
  | true =>
    cases name == d.name with
    | true => exact Ev.pure
    | false =>
      simp only [cond_true, cond_false]
      refine Tot.ev (Tot.of2 (F := fun n m => z1o_l1 n m i name 0 d) ?_)
      refine Tot2.up (S := Unit) (L := fun n m k _ => z1o_l1 n m i name k d) d.ctors.length (fun k _ => ctorE i d.params name 0 d.ctors = ctorE i d.params name k (d.ctors.drop k)) _ ?_ ?_ 0 () (by omega) rfl
      · intro k s hk hs next
        refine Tot2.lp (fun n m => by simp only [z1o_l1, z1o_b1]; exact rfl) ?_
        simp only [hk, Int.ofNat_lt, decide_true, cond_true]
        refine Tot2.idx hk ?_
        rw [wrap_next (by simp only [cap] at h1; omega)]
        rw [List.drop_eq_getElem_cons hk, ctorE] at hs
        refine Tot2.cnd (fun hc => ?_) fun hc => ?_
        · refine Tot2.idx hk (Tot2.pure ?_)
          rw [hs, hc]; rfl
        · exact next () (by rw [hs, hc]; rfl)
      · intro s hs
        refine Tot2.lp (fun n m => by simp only [z1o_l1, z1o_b1]; exact rfl) ?_
        simp only [Int.lt_irrefl, decide_false, cond_false]
        refine Tot2.pure ?_
        rw [hs, List.drop_length]; rfl
  | false =>
    simp only [cond_false]
    have ety : d.type = Term.mk d.type.kind d.type.index d.type.name d.type.levels d.type.kids := by cases d.type; rfl
    refine Tot.ev (Tot.of2 (F := fun n m => z1o_l2 n m i name 0 d i d.params d.type.kind d.type.index d.type.name d.type.levels d.type.kids) ?_)
    refine Tot2.up (S := Unit) (L := fun n m k _ => z1o_l2 n m i name k d i d.params d.type.kind d.type.index d.type.name d.type.levels d.type.kids) d.funs.length (fun k _ => funE i d.params name 0 d.funs = funE i d.params name k (d.funs.drop k)) _ ?_ ?_ 0 () (by omega) rfl
    · intro k s hk hs next
      refine Tot2.lp (fun n m => by simp only [z1o_l2, z1o_b2]; exact rfl) ?_
      simp only [hk, Int.ofNat_lt, decide_true, cond_true]
      refine Tot2.idx hk ?_
      rw [wrap_next (by simp only [cap] at h2; omega)]
      rw [List.drop_eq_getElem_cons hk, funE] at hs
      refine Tot2.cnd (fun hc => ?_) fun hc => ?_
      · refine Tot2.idx hk (Tot2.pure ?_)
        rw [hs, hc]; rfl
      · exact next () (by rw [hs, hc]; rfl)
    · intro s hs
      refine Tot2.lp (fun n m => by simp only [z1o_l2, z1o_b2]; exact rfl) ?_
      simp only [Int.lt_irrefl, decide_false, cond_false]
      refine Tot2.pure ?_
      rw [hs, List.drop_length, ← ety]; rfl
def noEntry : Entry := { kind := 0, decl := 0, item := 0, params := 0, type := Term.mk 0 0 [] [] [] }
def findT (name : Str) : Nat → List Decl → Entry × Int
  | _, [] => (noEntry, 9)
  | i, d :: ds => bif (namesT d).any (· == name) then (entryT d i name, 0) else findT name (i + 1) ds
structure EOK (env : List Decl) : Prop where
  len : env.length ≤ cap
  ds : ∀ d ∈ env, d.bulk ≤ cap
theorem ref_Find_ev (env : List Decl) (h : EOK env) (name : Str) : Ev (fun n => z1y n env name) (findT name 0 env) := by
  have hl := h.len
  refine Ev.fn (fun n => by simp only [z1y, z1y_e]; exact rfl) ?_
  refine Tot.ev (Tot.of2 (F := fun n m => z1y_l1 n m env name 0) ?_)
  refine Tot2.up (S := Unit) (L := fun n m k _ => z1y_l1 n m env name k) env.length (fun k _ => findT name 0 env = findT name k (env.drop k)) _ ?_ ?_ 0 () (by omega) rfl
  · intro k s hk hs next
    refine Tot2.lp (fun n m => by simp only [z1y_l1, z1y_b1]; exact rfl) ?_
    simp only [hk, Int.ofNat_lt, decide_true, cond_true]
    refine Tot2.idx hk ?_
    have hd := DOK.of (h.ds _ (List.getElem_mem hk))
    rw [wrap_next (by simp only [cap] at hl; omega)]
    rw [List.drop_eq_getElem_cons hk, findT] at hs
    refine Tot2.bind1 ((ref_Names_ev _ hd).tot (Q := (· = namesT env[k])) rfl) fun x hx => ?_
    subst hx
    refine Tot2.bind1 ((z24_ev _ name (by have := namesT_len hd; simp only [cap, lim] at *; omega)).tot (Q := (· = (namesT env[k]).any (· == name))) rfl) fun x hx => ?_
    subst hx
    refine Tot2.cnd (fun hc => ?_) fun hc => ?_
    · refine Tot2.idx hk ?_
      refine Tot2.bind1 ((ref_entry_ev _ hd k name).tot (Q := (· = entryT env[k] k name)) rfl) fun x hx => Tot2.pure ?_
      rw [hs, hc, hx]; rfl
    · exact next () (by rw [hs, hc]; rfl)
  · intro s hs
    refine Tot2.lp (fun n m => by simp only [z1y_l1, z1y_b1]; exact rfl) ?_
    simp only [Int.lt_irrefl, decide_false, cond_false]
    refine Tot2.pure ?_
    rw [hs, List.drop_length]; rfl
theorem ctorE_at {i p : Int} {name : Str} : ∀ {k : Nat} {cs : List Ctor} {e : Entry}, ctorE i p name k cs = some e → e.kind = 4 ∧ e.decl = i ∧ ∃ j : Nat, e.item = j ∧ k ≤ j ∧ j < k + cs.length
  | k, [], e, h => by simp [ctorE] at h
  | k, c :: cs, e, h => by
    rw [ctorE] at h
    cases hc : c.name == name with
    | true =>
      rw [hc, cond_true, Option.some.injEq] at h
      subst h
      exact ⟨rfl, rfl, k, rfl, Nat.le_refl _, by simp⟩
    | false =>
      rw [hc, cond_false] at h
      obtain ⟨h1, h2, j, h3, h4, h5⟩ := ctorE_at h
      exact ⟨h1, h2, j, h3, by omega, by rw [List.length_cons]; omega⟩
theorem funE_at {i p : Int} {name : Str} : ∀ {k : Nat} {cs : List Fun} {e : Entry}, funE i p name k cs = some e → e.kind = 6 ∧ e.decl = i
  | k, [], e, h => by simp [funE] at h
  | k, c :: cs, e, h => by
    rw [funE] at h
    cases hc : c.name == name with
    | true =>
      rw [hc, cond_true, Option.some.injEq] at h
      subst h
      exact ⟨rfl, rfl⟩
    | false =>
      rw [hc, cond_false] at h
      exact funE_at h
theorem entryT_at (d : Decl) (i : Int) (name : Str) : (entryT d i name).decl = i ∧ ((entryT d i name).kind = 4 → ∃ j : Nat, (entryT d i name).item = j ∧ j < d.ctors.length) ∧ ((entryT d i name).kind = 3 → d.kind = 3 ∧ name = d.name) := by
  unfold entryT
  cases h0 : d.kind == 0 with
  | true => exact ⟨rfl, fun h => by simp at h, fun h => by simp at h⟩
  | false =>
  cases h1 : d.kind == 1 with
  | true => exact ⟨rfl, fun h => by simp at h, fun h => by simp at h⟩
  | false =>
  cases h2 : d.kind == 2 with
  | true => exact ⟨rfl, fun h => by simp at h, fun h => by simp at h⟩
  | false =>
  cases h3 : d.kind == 3 with
  | true =>
    simp only [cond_true, cond_false]
    cases hn : name == d.name with
    | true => exact ⟨rfl, fun h => by simp at h, fun _ => ⟨beq_iff_eq.1 h3, beq_iff_eq.1 hn⟩⟩
    | false =>
      simp only [cond_false]
      cases hc : ctorE i d.params name 0 d.ctors with
      | none => exact ⟨rfl, fun h => by simp at h, fun h => by simp at h⟩
      | some e =>
        obtain ⟨e1, e2, j, e3, e4, e5⟩ := ctorE_at hc
        exact ⟨e2, fun _ => ⟨j, e3, by omega⟩, fun h => absurd (e1.symm.trans h) (by decide)⟩
  | false =>
    simp only [cond_false]
    cases hc : funE i d.params name 0 d.funs with
    | none => exact ⟨rfl, fun h => by simp at h, fun h => by simp at h⟩
    | some e =>
      obtain ⟨e1, e2⟩ := funE_at hc
      exact ⟨e2, fun h => absurd (e1.symm.trans h) (by decide), fun h => absurd (e1.symm.trans h) (by decide)⟩
theorem findT_at {name : Str} : ∀ {k : Nat} {env : List Decl}, (findT name k env).2 = 0 → ∃ (j : Nat) (hj : j < env.length), (findT name k env).1.decl = (k + j : Nat) ∧ (findT name k env).1 = entryT env[j] (k + j : Nat) name ∧ (namesT env[j]).any (· == name) = true
  | k, [], h => by simp [findT] at h
  | k, d :: ds, h => by
    rw [findT] at h ⊢
    cases hc : (namesT d).any (· == name) with
    | true =>
      simp only [cond_true]
      exact ⟨0, by simp, (entryT_at d k name).1, rfl, hc⟩
    | false =>
      rw [hc, cond_false] at h
      simp only [cond_false]
      obtain ⟨j, hj, h1, h2, h3⟩ := findT_at h
      refine ⟨j + 1, by simp; omega, ?_, ?_, h3⟩
      · rw [h1]; omega
      · rw [h2]
        have : ((k + 1 + j : Nat) : Int) = ((k + (j + 1) : Nat) : Int) := by omega
        rw [this]; rfl
end Go.Abs
namespace Go.Abs
set_option linter.unusedVariables false
set_option linter.unusedSimpArgs false
theorem zero_tot (t : Term) (h : t.bulk ≤ cap) : Tot (fun n => z1z n t) Yes := by
  refine Tot.fn (fun n => by simp only [z1z, z1z_e]; exact rfl) ?_
  exact Tot.bind ((z1u_ev t (Term.mk 0 0 [] [] []) (lim_of_cap h)).tot (Q := Yes) trivial) fun x _ => Tot.pure trivial
structure DOK2 (d : Decl) : Prop extends DOK d where
  type : d.type.bulk ≤ cap
  value : d.value.bulk ≤ cap
  rtype : d.recu.type.bulk ≤ cap
  rl : d.recu.rules.length ≤ cap
  rules : ∀ t ∈ d.recu.rules, t.bulk ≤ cap
  cts : ∀ c ∈ d.ctors, c.type.bulk ≤ cap
  fns : ∀ f ∈ d.funs, f.type.bulk ≤ cap ∧ f.tree.bulk ≤ cap ∧ f.name.length ≤ cap
  cns : ∀ c ∈ d.ctors, c.name.length ≤ cap
theorem DOK2.of {d : Decl} (h : d.bulk ≤ cap) : DOK2 d := by
  have h0 := DOK.of h
  rw [Decl.bulk] at h
  have hl3 : sumB Term.bulk d.recu.rules < d.recu.bulk := by rw [Zs3.bulk]; omega
  have hl4 := sumB_len Term.bulk_pos d.recu.rules
  have hl5 : d.recu.type.bulk < d.recu.bulk := by rw [Zs3.bulk]; omega
  refine { toDOK := h0, type := by omega, value := by omega, rtype := by omega, rl := by omega, rules := fun t ht => ?_, cts := fun c hc => ?_, fns := fun f hf => ?_, cns := fun c hc => ?_ }
  · have := sumB_mem (f := Term.bulk) ht; omega
  · have := sumB_mem (f := Ctor.bulk) hc; rw [Ctor.bulk] at this; omega
  · have := sumB_mem (f := Fun.bulk) hf; rw [Fun.bulk] at this; exact ⟨by omega, by omega, by omega⟩
  · have := sumB_mem (f := Ctor.bulk) hc; rw [Ctor.bulk] at this; omega
theorem unused_tot (d : Decl) (h : DOK2 d) : Tot (fun n => z18 n d) Yes := by
  refine Tot.fn (fun n => by simp only [z18, z18_e]; exact rfl) ?_
  repeat' (first | exact Tot.pure trivial | refine Tot.cnd (fun _ => ?_) (fun _ => ?_) | refine Tot.bind (zero_tot _ h.rtype) (fun x _ => ?_) | refine Tot.bind (zero_tot _ h.value) (fun x _ => ?_) | refine Tot.bind (zero_tot _ h.type) (fun x _ => ?_))
theorem leading_tot (t : Term) : Tot (fun n => z0z n t) Yes := by
  refine Tot.fn (fun n => by simp only [z0z, z0z_e]; exact rfl) ?_
  have key : ∀ (t : Term) (v : Int), Tot2 (fun n m => z0z_l1 n m v t) Yes := by
    intro t
    induction h : t.bulk using Nat.strongRecOn generalizing t with
    | ind k ih =>
      intro v
      refine Tot2.lp (fun n m => by simp only [z0z_l1, z0z_b1]; exact rfl) ?_
      refine Tot2.cnd (fun _ => ?_) fun _ => Tot2.pure trivial
      refine Tot2.cnd (fun hc => ?_) fun _ => Tot2.pure trivial
      have hl : 1 < t.kids.length := by have := beq_iff_eq.1 hc; omega
      refine Tot2.idx (i := 1) hl ?_
      exact ih _ (by rw [← h]; exact t.kid_lt (List.getElem_mem hl)) _ rfl _
  exact Tot.of2 (F := fun n m => z0z_l1 n m 0 t) (key t 0)
theorem fixed_tot (d : Decl) (h : DOK2 d) : Tot (fun n => z1p n d) Yes := by
  have h1 := h.ctors
  refine Tot.fn (fun n => by simp only [z1p, z1p_e]; exact rfl) ?_
  refine Tot.bind (leading_tot _) fun x _ => ?_
  refine Tot.of2 (F := fun n m => z1p_l1 n m (decide (d.fixed ≤ x)) 0 d) ?_
  refine Tot2.up (S := Bool) (L := fun n m i s => z1p_l1 n m s i d) d.ctors.length (fun _ _ => True) Yes ?_ ?_ 0 _ (by omega) trivial
  · intro i s hi _ next
    refine Tot2.lp (fun n m => by simp only [z1p_l1, z1p_b1]; exact rfl) ?_
    simp only [hi, Int.ofNat_lt, decide_true, cond_true]
    rw [wrap_next (by simp only [cap] at h1; omega)]
    refine Tot2.cnd (fun _ => ?_) fun _ => next _ trivial
    refine Tot2.idx hi ?_
    exact Tot2.bind1 (leading_tot _) fun y _ => next _ trivial
  · intro s _
    refine Tot2.lp (fun n m => by simp only [z1p_l1, z1p_b1]; exact rfl) ?_
    simp only [Int.lt_irrefl, decide_false, cond_false]
    exact Tot2.pure trivial
theorem counts_tot (d : Decl) (h : DOK2 d) : Tot (fun n => z15 n d) (fun r => r = 0 → 0 ≤ d.fixed ∧ 0 ≤ d.params ∧ d.params ≤ 8) := by
  have h1 := h.funs
  refine Tot.fn (fun n => by simp only [z15, z15_e]; exact rfl) ?_
  have bad : ∀ k : Int, k ≠ 0 → (k = 0 → 0 ≤ d.fixed ∧ 0 ≤ d.params ∧ d.params ≤ 8) := fun k hk e => absurd e hk
  refine Tot.cnd (fun _ => Tot.pure (bad 2 (by decide))) fun hp => ?_
  refine Tot.cnd (fun _ => Tot.pure (bad 2 (by decide))) fun hp8 => ?_
  refine Tot.cnd (fun _ => Tot.pure (bad 2 (by decide))) fun hf => ?_
  have good : 0 ≤ d.fixed ∧ 0 ≤ d.params ∧ d.params ≤ 8 := by
    have a := of_decide_eq_false hp
    have b := of_decide_eq_false hp8
    have c := of_decide_eq_false hf
    omega
  refine Tot.imp (P := Yes) ?_ fun _ _ _ => good
  have loop : Tot (fun n => z15_l1 n n 0 d) Yes := by
    refine Tot.of2 (F := fun n m => z15_l1 n m 0 d) ?_
    refine Tot2.up (S := Unit) (L := fun n m i _ => z15_l1 n m i d) d.funs.length (fun _ _ => True) Yes ?_ ?_ 0 () (by omega) trivial
    · intro i s hi _ next
      refine Tot2.lp (fun n m => by simp only [z15_l1, z15_b1]; exact rfl) ?_
      simp only [hi, Int.ofNat_lt, decide_true, cond_true]
      rw [wrap_next (by simp only [cap] at h1; omega)]
      refine Tot2.idx hi ?_
      refine Tot2.cnd (fun _ => Tot2.pure trivial) fun _ => ?_
      refine Tot2.idx hi ?_
      exact Tot2.cnd (fun _ => Tot2.pure trivial) fun _ => next s trivial
    · intro s _
      refine Tot2.lp (fun n m => by simp only [z15_l1, z15_b1]; exact rfl) ?_
      simp only [Int.lt_irrefl, decide_false, cond_false]
      repeat' (first | exact Tot2.pure trivial | refine Tot2.cnd (fun _ => ?_) (fun _ => ?_) | refine Tot2.bind1 (fixed_tot d h) (fun x _ => ?_))
  repeat' (first | exact Tot.pure trivial | exact loop | refine Tot.cnd (fun _ => ?_) (fun _ => ?_))
theorem namesT_mem {d : Decl} (h : DOK2 d) : ∀ s ∈ namesT d, s.length ≤ cap + 4 := by
  have hn := h.name
  intro s hs
  have one : ∀ {p : Prop}, s = d.name → s.length ≤ cap + 4 := fun e => by rw [e]; omega
  unfold namesT at hs
  cases h0 : d.kind == 0 with
  | true => rw [h0] at hs; simp only [cond_true, List.mem_singleton] at hs; rw [hs]; omega
  | false =>
  cases h1 : d.kind == 1 with
  | true => rw [h0, h1] at hs; simp only [cond_true, cond_false, List.mem_singleton] at hs; rw [hs]; omega
  | false =>
  cases h2 : d.kind == 2 with
  | true => rw [h0, h1, h2] at hs; simp only [cond_true, cond_false, List.mem_singleton] at hs; rw [hs]; omega
  | false =>
  cases h3 : d.kind == 3 with
  | true =>
    rw [h0, h1, h2, h3] at hs
    simp only [cond_true, cond_false, List.cons_append, List.mem_cons, List.mem_append, List.mem_map, List.mem_singleton, List.not_mem_nil, or_false] at hs
    rcases hs with rfl | ⟨c, hc, rfl⟩ | rfl
    · omega
    · have := h.cns c hc; omega
    · rw [List.length_append]; simp only [recN, List.length_cons, List.length_nil]; omega
  | false =>
  cases h4 : d.kind == 4 with
  | true =>
    rw [h0, h1, h2, h3, h4] at hs
    simp only [cond_true, cond_false, List.mem_map] at hs
    obtain ⟨c, hc, rfl⟩ := hs
    have := (h.fns c hc).2.2; omega
  | false => rw [h0, h1, h2, h3, h4] at hs; simp at hs
structure ZOK (z : Zs0) : Prop where
  env : EOK z.env
  own : z.own.length ≤ cap + 2
  d : DOK2 z.d
theorem constants_tot (z : Zs0) (h : ZOK z) : ∀ t : Term, t.bulk ≤ cap → Tot (fun n => z0m n z t) Yes := by
  have ho := h.own
  intro t
  induction hb : t.bulk using Nat.strongRecOn generalizing t with
  | ind k ih =>
    intro hk
    have hl := t.kids_len
    refine Tot.fn (fun n => by simp only [z0m, z0m_e]; exact rfl) ?_
    have loop : Tot (fun n => z0m_l1 (z0m n) n n 0 z t) Yes := by
      refine Tot.of2 (F := fun n m => z0m_l1 (z0m n) n m 0 z t) ?_
      refine Tot2.up (S := Unit) (L := fun n m i _ => z0m_l1 (z0m n) n m i z t) t.kids.length (fun _ _ => True) Yes ?_ ?_ 0 () (by omega) trivial
      · intro i s hi _ next
        refine Tot2.lp (fun n m => by simp only [z0m_l1, z0m_b1]; exact rfl) ?_
        simp only [hi, Int.ofNat_lt, decide_true, cond_true]
        rw [wrap_next (by simp only [cap] at hk; omega)]
        refine Tot2.idx hi ?_
        have hm := t.kid_lt (List.getElem_mem hi)
        refine Tot2.bind1 (ih _ (by omega) _ rfl (by omega)) fun x _ => ?_
        exact Tot2.cnd (fun _ => Tot2.pure trivial) fun _ => next s trivial
      · intro s _
        refine Tot2.lp (fun n m => by simp only [z0m_l1, z0m_b1]; exact rfl) ?_
        simp only [Int.lt_irrefl, decide_false, cond_false]
        exact Tot2.pure trivial
    repeat' (first | exact Tot.pure trivial | exact loop | refine Tot.cnd (fun _ => ?_) (fun _ => ?_) | refine Tot.bind ((ref_Find_ev z.env h.env t.name).tot (Q := Yes) trivial) (fun x _ => ?_) | refine Tot.bind ((z24_ev z.own t.name (by simp only [cap, lim] at *; omega)).tot (Q := Yes) trivial) (fun x _ => ?_) | refine Tot.bind ((ref_entry_ev z.d h.d.toDOK _ t.name).tot (Q := Yes) trivial) (fun x _ => ?_))
theorem ofTerm_tot (z : Zs0) (h : ZOK z) (t : Term) (a b : Int) (hk : t.bulk ≤ cap) : Tot (fun n => z16 n z t a b) Yes := by
  refine Tot.fn (fun n => by simp only [z16, z16_e]; exact rfl) ?_
  refine Tot.bind (z1h_tot t a b 0 0 (lim_of_cap hk)) fun x _ => ?_
  refine Tot.cnd (fun _ => Tot.pure trivial) fun _ => ?_
  exact Tot.bind (constants_tot z h t hk) fun x _ => Tot.pure trivial
theorem SameTree_tot : ∀ (t u : Tree), t.bulk ≤ cap → Tot (fun n => z0s n t u) Yes := by
  intro t
  induction h : t.bulk using Nat.strongRecOn generalizing t with
  | ind k ih =>
    intro u hk
    have hl := t.branches_len
    have hl2 := t.body_lt
    refine Tot.fn (fun n => by simp only [z0s, z0s_e]; exact rfl) ?_
    refine Tot.cnd (fun _ => Tot.pure trivial) fun _ => ?_
    refine Tot.cnd (fun _ => Tot.pure trivial) fun _ => ?_
    refine Tot.bind ((z1u_ev t.body u.body (lim_of_cap (by omega))).tot (Q := Yes) trivial) fun x _ => ?_
    refine Tot.cnd (fun _ => ?_) fun _ => Tot.pure trivial
    refine Tot.cnd (fun _ => Tot.pure trivial) fun hlen => ?_
    have hlen : t.branches.length = u.branches.length := by
      have := hlen
      rw [bne, Bool.not_eq_false', beq_iff_eq] at this
      omega
    refine Tot.of2 (F := fun n m => z0s_l1 (z0s n) n m 0 t u) ?_
    refine Tot2.up (S := Unit) (L := fun n m i s => z0s_l1 (z0s n) n m i t u) t.branches.length (fun _ _ => True) Yes ?_ ?_ 0 () (by omega) trivial
    · intro i s hi _ next
      refine Tot2.lp (fun n m => by simp only [z0s_l1, z0s_b1]; exact rfl) ?_
      simp only [hi, Int.ofNat_lt, decide_true, cond_true]
      rw [wrap_next (by simp only [cap] at hk; omega)]
      refine Tot2.idx hi (Tot2.idx (by omega) ?_)
      have hm := t.kid_lt (List.getElem_mem hi)
      refine Tot2.cnd (fun _ => ?_) fun _ => Tot2.pure trivial
      refine Tot2.cnd (fun _ => ?_) fun _ => Tot2.pure trivial
      refine Tot2.bind1 (ih _ (by omega) _ rfl _ (by omega)) fun x _ => ?_
      exact Tot2.cnd (fun _ => next s trivial) fun _ => Tot2.pure trivial
    · intro s _
      refine Tot2.lp (fun n m => by simp only [z0s_l1, z0s_b1]; exact rfl) ?_
      simp only [Int.lt_irrefl, decide_false, cond_false]
      exact Tot2.pure trivial
theorem Fields_tot (d : Decl) (h : DOK2 d) (j : Nat) (hj : j < d.ctors.length) : Tot (fun n => z13 n d j) Yes := by
  refine Tot.fn (fun n => by simp only [z13, z13_e]; exact rfl) ?_
  refine Tot.idx hj ?_
  obtain ⟨r, _, hr, _⟩ := All_ev d.ctors[j].type (h.cts _ (List.getElem_mem hj))
  exact Tot.bind (hr.tot (Q := Yes) trivial) fun x _ => Tot.pure trivial
theorem ofTree_tot (z : Zs0) (h : ZOK z) : ∀ (t : Tree) (a b : Int), t.bulk ≤ cap → Tot (fun n => z17 n z t a b) Yes := by
  intro t
  induction hb : t.bulk using Nat.strongRecOn generalizing t with
  | ind k ih =>
    intro a b hk
    have hl := t.branches_len
    have hl2 := t.body_lt
    refine Tot.fn (fun n => by simp only [z17, z17_e]; exact rfl) ?_
    refine Tot.cnd (fun _ => Tot.pure trivial) fun _ => ?_
    refine Tot.cnd (fun _ => ?_) fun _ => ?_
    · refine Tot.cnd (fun _ => Tot.pure trivial) fun _ => ?_
      refine Tot.cnd (fun _ => Tot.pure trivial) fun _ => ?_
      exact Tot.bind (ofTerm_tot z h _ _ _ (by omega)) fun x _ => Tot.pure trivial
    refine Tot.cnd (fun _ => ?_) fun _ => Tot.pure trivial
    refine Tot.bind (zero_tot _ (by omega)) fun x _ => ?_
    refine Tot.cnd (fun _ => ?_) fun _ => Tot.pure trivial
    refine Tot.cnd (fun _ => Tot.pure trivial) fun _ => ?_
    refine Tot.cnd (fun _ => Tot.pure trivial) fun _ => ?_
    refine Tot.cnd (fun _ => Tot.pure trivial) fun _ => ?_
    refine Tot.of2 (F := fun n m => z17_l1 (z17 n) n m a b 0 z t) ?_
    refine Tot2.up (S := Unit) (L := fun n m i s => z17_l1 (z17 n) n m a b i z t) t.branches.length (fun _ _ => True) Yes ?_ ?_ 0 () (by omega) trivial
    · intro i s hi _ next
      refine Tot2.lp (fun n m => by simp only [z17_l1, z17_b1]; exact rfl) ?_
      simp only [hi, Int.ofNat_lt, decide_true, cond_true]
      rw [wrap_next (by simp only [cap] at hk; omega)]
      refine Tot2.idx hi ?_
      have hm := t.kid_lt (List.getElem_mem hi)
      refine Tot2.bind1 ((ref_Find_ev z.env h.env t.branches[i].ctor).tot (Q := (· = findT t.branches[i].ctor 0 z.env)) rfl) fun x hx => ?_
      refine Tot2.cnd (fun _ => Tot2.pure trivial) fun h0 => ?_
      refine Tot2.cnd (fun _ => Tot2.pure trivial) fun h4 => ?_
      refine Tot2.cnd (fun _ => ?_) fun _ => ?_
      · refine Tot2.bind1 (SameTree_tot _ _ (by omega)) fun y _ => ?_
        exact Tot2.cnd (fun _ => next s trivial) fun _ => Tot2.pure trivial
      · rw [bne, Bool.not_eq_false', beq_iff_eq] at h0 h4
        rw [hx] at h0 h4 ⊢
        obtain ⟨j, hj, e1, e2, _⟩ := findT_at h0
        have hat := (entryT_at z.env[j] (0 + j : Nat) t.branches[i].ctor).2.1
        rw [← e2] at hat
        obtain ⟨q, hq, hql⟩ := hat h4
        have ej : (findT t.branches[i].ctor 0 z.env).1.decl = (j : Int) := by rw [e1]; omega
        rw [ej, hq]
        refine Tot2.idx hj ?_
        refine Tot2.bind1 (Fields_tot _ (DOK2.of (h.env.ds _ (List.getElem_mem hj))) q hql) fun y _ => ?_
        refine Tot2.bind1 (ih _ (by omega) _ rfl _ _ (by omega)) fun y _ => ?_
        exact Tot2.cnd (fun _ => Tot2.pure trivial) fun _ => next s trivial
    · intro s _
      refine Tot2.lp (fun n m => by simp only [z17_l1, z17_b1]; exact rfl) ?_
      simp only [Int.lt_irrefl, decide_false, cond_false]
      exact Tot2.pure trivial
end Go.Abs
namespace Go.Abs
set_option linter.unusedVariables false
set_option linter.unusedSimpArgs false
theorem Decl.eta2 (d : Decl) : ({ kind := d.kind, name := d.name, params := d.params, type := Term.mk d.type.kind d.type.index d.type.name d.type.levels d.type.kids, value := Term.mk d.value.kind d.value.index d.value.name d.value.levels d.value.kids, fixed := d.fixed, ctors := d.ctors, recu := { params := d.recu.params, type := Term.mk d.recu.type.kind d.recu.type.index d.recu.type.name d.recu.type.levels d.recu.type.kids, rules := d.recu.rules }, funs := d.funs } : Decl) = d := by
  have h : ∀ t : Term, Term.mk t.kind t.index t.name t.levels t.kids = t := fun t => by cases t; rfl
  rw [h, h, h]
theorem Terms1_tot (d : Decl) (h : DOK2 d) (z : Zs0) (hz : ZOK z) : Tot (fun n => z1n_l1 n n 0 d z) Yes := by
  have hr := h.rl
  refine Tot.of2 (F := fun n m => z1n_l1 n m 0 d z) ?_
  refine Tot2.up (S := Unit) (L := fun n m i _ => z1n_l1 n m i d z) d.recu.rules.length (fun _ _ => True) Yes ?_ ?_ 0 () (by omega) trivial
  · intro i s hi _ next
    refine Tot2.lp (fun n m => by simp only [z1n_l1, z1n_b1]; exact rfl) ?_
    simp only [hi, Int.ofNat_lt, decide_true, cond_true]
    rw [wrap_next (by simp only [cap] at hr; omega)]
    refine Tot2.idx hi ?_
    refine Tot2.bind1 (ofTerm_tot z hz _ _ _ (h.rules _ (List.getElem_mem hi))) fun x _ => ?_
    exact Tot2.cnd (fun _ => Tot2.pure trivial) fun _ => next s trivial
  · intro s _
    refine Tot2.lp (fun n m => by simp only [z1n_l1, z1n_b1]; exact rfl) ?_
    simp only [Int.lt_irrefl, decide_false, cond_false]
    exact Tot2.pure trivial
theorem Terms2_tot (env : List Decl) (he : EOK env) (d : Decl) (h : DOK2 d) (h3 : d.kind = 3) : Tot (fun n => z1n_l2 n n 0 d { env := env, own := [d.name], d := d }) Yes := by
  have hr := h.ctors
  have hz : ZOK { env := env, own := [d.name], d := d } := ⟨he, by simp [cap], h⟩
  refine Tot.of2 (F := fun n m => z1n_l2 n m 0 d { env := env, own := [d.name], d := d }) ?_
  refine Tot2.up (S := Unit) (L := fun n m i _ => z1n_l2 n m i d { env := env, own := [d.name], d := d }) d.ctors.length (fun _ _ => True) Yes ?_ ?_ 0 () (by omega) trivial
  · intro i s hi _ next
    refine Tot2.lp (fun n m => by simp only [z1n_l2, z1n_b2]; exact rfl) ?_
    simp only [hi, Int.ofNat_lt, decide_true, cond_true]
    rw [wrap_next (by simp only [cap] at hr; omega)]
    refine Tot2.idx hi ?_
    refine Tot2.bind1 (ofTerm_tot _ hz _ _ _ (h.cts _ (List.getElem_mem hi))) fun x _ => ?_
    exact Tot2.cnd (fun _ => Tot2.pure trivial) fun _ => next s trivial
  · intro s _
    refine Tot2.lp (fun n m => by simp only [z1n_l2, z1n_b2]; exact rfl) ?_
    simp only [Int.lt_irrefl, decide_false, cond_false]
    refine Tot2.bind1 ((ref_Names_ev d h.toDOK).tot (Q := (· = namesT d)) rfl) fun x hx => ?_
    subst hx
    have hl := namesT_len h.toDOK
    have hpos : 1 ≤ (namesT d).length := by
      unfold namesT
      rw [h3]
      show 1 ≤ (d.name :: d.ctors.map (·.name) ++ [d.name ++ recN]).length
      simp
    generalize hL : namesT d = l at hl hpos
    have hw : IntKind.i64.wrap ((l.length : Int) - 1) = ((l.length - 1 : Nat) : Int) := by
      rw [wrap_small (by omega) (by simp only [cap] at hl; omega)]; omega
    have d2 : decide ((0 : Int) ≤ ((l.length - 1 : Nat) : Int) ∧ ((l.length - 1 : Nat) : Int) ≤ (l.length : Int) ∧ (l.length : Int) ≤ (l.length : Int)) = true := decide_eq_true (by omega)
    simp only [hw, d2, cond_true, Int.toNat_natCast]
    refine Tot2.bind1 (ofTerm_tot { env := env, own := l.take (l.length - 1), d := d } ⟨he, by rw [List.length_take]; show min _ _ ≤ _; omega, h⟩ _ _ _ h.rtype) fun x _ => ?_
    refine Tot2.cnd (fun _ => Tot2.pure trivial) fun _ => ?_
    exact Tot2.of1 (Terms1_tot d h { env := env, own := l, d := d } ⟨he, hl, h⟩)
theorem Terms3_tot (d : Decl) (h : DOK2 d) (z : Zs0) (hz : ZOK z) : Tot (fun n => z1n_l3 n n 0 d z) Yes := by
  have hr := h.funs
  refine Tot.of2 (F := fun n m => z1n_l3 n m 0 d z) ?_
  refine Tot2.up (S := Unit) (L := fun n m i _ => z1n_l3 n m i d z) d.funs.length (fun _ _ => True) Yes ?_ ?_ 0 () (by omega) trivial
  · intro i s hi _ next
    refine Tot2.lp (fun n m => by simp only [z1n_l3, z1n_b3]; exact rfl) ?_
    simp only [hi, Int.ofNat_lt, decide_true, cond_true]
    rw [wrap_next (by simp only [cap] at hr; omega)]
    refine Tot2.idx hi (Tot2.idx hi ?_)
    refine Tot2.bind1 (ofTree_tot z hz _ _ _ (h.fns _ (List.getElem_mem hi)).2.1) fun x _ => ?_
    exact Tot2.cnd (fun _ => Tot2.pure trivial) fun _ => next s trivial
  · intro s _
    refine Tot2.lp (fun n m => by simp only [z1n_l3, z1n_b3]; exact rfl) ?_
    simp only [Int.lt_irrefl, decide_false, cond_false]
    exact Tot2.pure trivial
theorem Terms4_tot (env : List Decl) (he : EOK env) (d : Decl) (h : DOK2 d) : Tot (fun n => z1n_l4 n n 0 d env d.kind d.name d.params d.type.kind d.type.index d.type.name d.type.levels d.type.kids d.value.kind d.value.index d.value.name d.value.levels d.value.kids d.fixed d.ctors d.recu.params d.recu.type.kind d.recu.type.index d.recu.type.name d.recu.type.levels d.recu.type.kids d.recu.rules d.funs) Yes := by
  have hr := h.funs
  have hz : ZOK { env := env, own := [], d := d } := ⟨he, by simp, h⟩
  refine Tot.of2 (F := fun n m => z1n_l4 n m 0 d env d.kind d.name d.params d.type.kind d.type.index d.type.name d.type.levels d.type.kids d.value.kind d.value.index d.value.name d.value.levels d.value.kids d.fixed d.ctors d.recu.params d.recu.type.kind d.recu.type.index d.recu.type.name d.recu.type.levels d.recu.type.kids d.recu.rules d.funs) ?_
  refine Tot2.up (S := Unit) (L := fun n m i _ => z1n_l4 n m i d env d.kind d.name d.params d.type.kind d.type.index d.type.name d.type.levels d.type.kids d.value.kind d.value.index d.value.name d.value.levels d.value.kids d.fixed d.ctors d.recu.params d.recu.type.kind d.recu.type.index d.recu.type.name d.recu.type.levels d.recu.type.kids d.recu.rules d.funs) d.funs.length (fun _ _ => True) Yes ?_ ?_ 0 () (by omega) trivial
  · intro i s hi _ next
    refine Tot2.lp (fun n m => by simp only [z1n_l4, z1n_b4]; exact rfl) ?_
    simp only [hi, Int.ofNat_lt, decide_true, cond_true, Decl.eta2]
    rw [wrap_next (by simp only [cap] at hr; omega)]
    refine Tot2.idx hi ?_
    refine Tot2.bind1 (ofTerm_tot _ hz _ _ _ (h.fns _ (List.getElem_mem hi)).1) fun x _ => ?_
    exact Tot2.cnd (fun _ => Tot2.pure trivial) fun _ => next s trivial
  · intro s _
    refine Tot2.lp (fun n m => by simp only [z1n_l4, z1n_b4]; exact rfl) ?_
    simp only [Int.lt_irrefl, decide_false, cond_false, Decl.eta2]
    refine Tot2.bind1 ((ref_Names_ev d h.toDOK).tot (Q := (· = namesT d)) rfl) fun x hx => ?_
    subst hx
    exact Tot2.of1 (Terms3_tot d h { env := env, own := namesT d, d := d } ⟨he, namesT_len h.toDOK, h⟩)
theorem Terms_tot (env : List Decl) (he : EOK env) (d : Decl) (h : DOK2 d) : Tot (fun n => z1n n env d) Yes := by
  have hz : ZOK { env := env, own := [], d := d } := ⟨he, by simp, h⟩
  have v := ofTerm_tot { env := env, own := [], d := d } hz d.value 0 d.params h.value
  refine Tot.fn (fun n => by simp only [z1n, z1n_e]; exact rfl) ?_
  refine Tot.cnd (fun _ => Tot.bind (ofTerm_tot _ hz _ _ _ h.type) fun x _ => Tot.cnd (fun _ => Tot.pure trivial) fun _ => ?_) fun _ => ?_
  all_goals
    refine Tot.cnd (fun _ => Tot.bind v fun x _ => Tot.pure trivial) fun _ => ?_
    refine Tot.cnd (fun _ => Tot.bind v fun x _ => Tot.pure trivial) fun _ => ?_
    refine Tot.cnd (fun h3 => Terms2_tot env he d h (beq_iff_eq.1 h3)) fun _ => ?_
    exact Tot.cnd (fun _ => Terms4_tot env he d h) fun _ => Tot.pure trivial
def Good1 (d : Decl) : Prop := 0 ≤ d.fixed ∧ 0 ≤ d.params ∧ d.params ≤ 8
theorem EOK.take {env : List Decl} (h : EOK env) (k : Nat) : EOK (env.take k) := ⟨by rw [List.length_take]; have := h.len; omega, fun d hd => h.ds d (List.mem_of_mem_take hd)⟩
theorem Few7_tot (env : List Decl) (he : EOK env) : Tot (fun n => z20 n env) Yes := by
  have hl := he.len
  refine Tot.fn (fun n => by simp only [z20, z20_e]; exact rfl) ?_
  refine Tot.of2 (F := fun n m => z20_l1 n m env 0) ?_
  refine Tot2.up (S := Unit) (L := fun n m i _ => z20_l1 n m env i) env.length (fun _ _ => True) Yes ?_ ?_ 0 () (by omega) trivial
  · intro i s hi _ next
    refine Tot2.lp (fun n m => by simp only [z20_l1, z20_b1]; exact rfl) ?_
    simp only [hi, Int.ofNat_lt, decide_true, cond_true]
    rw [wrap_next (by simp only [cap] at hl; omega)]
    refine Tot2.cnd (fun _ => ?_) fun _ => Tot2.pure trivial
    refine Tot2.idx hi ?_
    refine Tot2.bind1 (z0y_tot _ (he.ds _ (List.getElem_mem hi))) fun x _ => ?_
    exact Tot2.cnd (fun _ => next () trivial) fun _ => Tot2.pure trivial
  · intro s _
    refine Tot2.lp (fun n m => by simp only [z20_l1, z20_b1]; exact rfl) ?_
    simp only [Int.lt_irrefl, decide_false, cond_false]
    exact Tot2.pure trivial
end Go.Abs
namespace Go.Abs
set_option linter.unusedVariables false
set_option linter.unusedSimpArgs false
def sigR (name : Str) (e : Option Entry) (e0 : Entry) (err : Int) : ((Unit × Int) × (Str × Unit) × (Entry × Unit) × (Int × Unit) × Unit) × Unit :=
  match e with
  | some e => ((((), 1), (name, ()), (e, ()), (0, ()), ()), ())
  | none => ((((), 0), (name, ()), (e0, ()), (err, ()), ()), ())
def sigE (d : Decl) (i : Int) (name : Str) : Option Entry :=
  bif d.kind == 0 then (bif d.name == name then some { kind := 0, decl := i, item := 0, params := d.params, type := d.type } else none) else
  bif d.kind == 1 then (bif d.name == name then some { kind := 1, decl := i, item := 0, params := d.params, type := d.type } else none) else
  bif d.kind == 2 then (bif d.name == name then some { kind := 2, decl := i, item := 0, params := d.params, type := d.type } else none) else
  bif d.kind == 3 then (bif d.name == name then some { kind := 3, decl := i, item := 0, params := d.params, type := d.type } else
    match ctorE i d.params name 0 d.ctors with
    | some e => some e
    | none => bif d.name ++ recN == name then some { kind := 5, decl := i, item := 0, params := d.recu.params, type := d.recu.type } else none)
  else bif d.kind == 4 then funE i d.params name 0 d.funs else none
theorem ctorE_some (i p : Int) (name : Str) : ∀ (k : Nat) (cs : List Ctor), (ctorE i p name k cs).isSome = (cs.map (·.name)).any (· == name)
  | k, [] => rfl
  | k, c :: cs => by
    rw [ctorE, List.map_cons, List.any_cons]
    cases c.name == name with
    | true => rfl
    | false => exact ctorE_some i p name (k + 1) cs
theorem funE_some (i p : Int) (name : Str) : ∀ (k : Nat) (cs : List Fun), (funE i p name k cs).isSome = (cs.map (·.name)).any (· == name)
  | k, [] => rfl
  | k, c :: cs => by
    rw [funE, List.map_cons, List.any_cons]
    cases c.name == name with
    | true => rfl
    | false => exact funE_some i p name (k + 1) cs
theorem beq_symm {α : Type} [BEq α] [LawfulBEq α] (a b : α) : (a == b) = (b == a) := by
  rw [Bool.eq_iff_iff, beq_iff_eq, beq_iff_eq]; exact eq_comm
theorem sigE_eq (d : Decl) (i : Int) (name : Str) : sigE d i name = bif (namesT d).any (· == name) then some (entryT d i name) else none := by
  unfold sigE namesT entryT
  cases d.kind == 0 with
  | true => simp only [cond_true, List.any_cons, List.any_nil, Bool.or_false]
  | false =>
  cases d.kind == 1 with
  | true => simp only [cond_true, cond_false, List.any_cons, List.any_nil, Bool.or_false]
  | false =>
  cases d.kind == 2 with
  | true => simp only [cond_true, cond_false, List.any_cons, List.any_nil, Bool.or_false]
  | false =>
  cases d.kind == 3 with
  | true =>
    simp only [cond_true, cond_false, List.cons_append, List.any_cons, List.any_append, List.any_nil, Bool.or_false]
    rw [beq_symm name d.name]
    cases d.name == name with
    | true => rfl
    | false =>
      simp only [cond_false, Bool.false_or]
      rw [← ctorE_some i d.params name 0 d.ctors]
      cases ctorE i d.params name 0 d.ctors with
      | some e => rfl
      | none =>
        simp only [Option.isSome_none, Bool.false_or, Option.getD_none]
  | false =>
  cases h4 : d.kind == 4 with
  | true =>
    simp only [cond_true, cond_false]
    rw [← funE_some i d.params name 0 d.funs]
    cases funE i d.params name 0 d.funs <;> rfl
  | false => rfl
theorem sround_ev (a : Str) (e : Entry) (name : Str) (e0 : Entry) (err : Int) : Ev (fun n => z00 n a e name e0 err) (bif a == name then ((((), 1), (name, ()), (e, ()), (0, ()), ()), false, ()) else ((((), 0), (name, ()), (e0, ()), (err, ()), ()), true, ())) := by
  refine Ev.fn (fun n => by simp only [z00, z00_e]; exact rfl) ?_
  cases a == name <;> exact Ev.pure
theorem sig_ctors (d : Decl) (h : DOK2 d) (i : Int) (name : Str) (e0 : Entry) (err : Int) : ∀ q k : Nat, q + k = d.ctors.length → Ev2 (fun n m => z0a_l1 n m i d d.ctors d.ctors.length k 0 name e0 err)
    (sigR name (match ctorE i d.params name k (d.ctors.drop k) with
      | some e => some e
      | none => bif d.name ++ recN == name then some { kind := 5, decl := i, item := 0, params := d.recu.params, type := d.recu.type } else none) e0 err) := by
  have h1 := h.ctors
  have hn : decide (d.name.length ≤ 9223372036854775803) = true := by have := h.name; simp only [cap] at this; simp only [decide_eq_true_eq]; omega
  intro q
  induction q with
  | zero =>
    intro k hk
    obtain rfl : k = d.ctors.length := by omega
    refine Ev2.lp (fun n m => by simp only [z0a_l1, z0a_b1]; exact rfl) ?_
    simp only [Int.lt_irrefl, decide_false, cond_false, hn, cond_true, beq_self_eq_true]
    rw [List.drop_length, ctorE]
    refine Ev2.bind1 (sround_ev _ _ name e0 err) ?_
    show Ev2 _ (sigR name (bif d.name ++ recN == name then some _ else none) e0 err)
    cases hc : d.name ++ [46, 114, 101, 99] == name with
    | true =>
      have hc' : (d.name ++ recN == name) = true := hc
      rw [hc']; exact Ev2.pure
    | false =>
      have hc' : (d.name ++ recN == name) = false := hc
      rw [hc']; exact Ev2.pure
  | succ q ih =>
    intro k hk
    have hk' : k < d.ctors.length := by omega
    refine Ev2.lp (fun n m => by simp only [z0a_l1, z0a_b1]; exact rfl) ?_
    simp only [hk', Int.ofNat_lt, decide_true, cond_true, beq_self_eq_true]
    refine Ev2.idx hk' ?_
    refine Ev2.bind1 (sround_ev _ _ name e0 err) ?_
    rw [List.drop_eq_getElem_cons hk', ctorE]
    cases hc : d.ctors[k].name == name with
    | true => exact Ev2.pure
    | false =>
      simp only [cond_false, cond_true]
      rw [wrap_next (by simp only [cap] at h1; omega)]
      exact ih (k + 1) (by omega)
theorem sig_funs (d : Decl) (h : DOK2 d) (i : Int) (name : Str) (e0 : Entry) (err : Int) : ∀ q k : Nat, q + k = d.funs.length → Ev2 (fun n m => z0a_l2 n m i d d.funs d.funs.length k 0 name e0 err)
    (sigR name (funE i d.params name k (d.funs.drop k)) e0 err) := by
  have h1 := h.funs
  intro q
  induction q with
  | zero =>
    intro k hk
    obtain rfl : k = d.funs.length := by omega
    refine Ev2.lp (fun n m => by simp only [z0a_l2, z0a_b2]; exact rfl) ?_
    simp only [Int.lt_irrefl, decide_false, cond_false]
    rw [List.drop_length, funE]
    exact Ev2.pure
  | succ q ih =>
    intro k hk
    have hk' : k < d.funs.length := by omega
    refine Ev2.lp (fun n m => by simp only [z0a_l2, z0a_b2]; exact rfl) ?_
    simp only [hk', Int.ofNat_lt, decide_true, cond_true, beq_self_eq_true]
    refine Ev2.idx hk' ?_
    refine Ev2.bind1 (sround_ev _ _ name e0 err) ?_
    rw [List.drop_eq_getElem_cons hk', funE]
    cases hc : d.funs[k].name == name with
    | true => exact Ev2.pure
    | false =>
      simp only [cond_false, cond_true]
      rw [wrap_next (by simp only [cap] at h1; omega)]
      exact ih (k + 1) (by omega)
theorem sig_ev (d : Decl) (h : DOK2 d) (i : Int) (name : Str) (e0 : Entry) (err : Int) : Ev (fun n => z0a n i d name e0 err) (sigR name (sigE d i name) e0 err) := by
  refine Ev.fn (fun n => by simp only [z0a, z0a_e]; exact rfl) ?_
  unfold sigE
  cases h0 : d.kind == 0 with
  | true =>
    simp only [cond_true]
    refine Ev.bind (sround_ev _ _ name e0 err) ?_
    cases d.name == name <;> exact Ev.pure
  | false =>
  cases h1 : d.kind == 1 with
  | true =>
    simp only [cond_true, cond_false]
    refine Ev.bind (sround_ev _ _ name e0 err) ?_
    cases d.name == name <;> exact Ev.pure
  | false =>
  cases h2 : d.kind == 2 with
  | true =>
    simp only [cond_true, cond_false]
    refine Ev.bind (sround_ev _ _ name e0 err) ?_
    cases d.name == name <;> exact Ev.pure
  | false =>
  cases h3 : d.kind == 3 with
  | true =>
    simp only [cond_true, cond_false]
    refine Ev.bind (sround_ev _ _ name e0 err) ?_
    cases d.name == name with
    | true => exact Ev.pure
    | false =>
      simp only [cond_true, cond_false]
      have := sig_ctors d h i name e0 err d.ctors.length 0 (by omega)
      rw [List.drop_zero] at this
      exact Ev.of2 this
  | false =>
  cases h4 : d.kind == 4 with
  | true =>
    simp only [cond_true, cond_false]
    have := sig_funs d h i name e0 err d.funs.length 0 (by omega)
    rw [List.drop_zero] at this
    exact Ev.of2 this
  | false => exact Ev.pure
theorem Find_ev (env : List Decl) (he : EOK env) (name : Str) : Ev (fun n => z0t n env name) (findT name 0 env) := by
  have hl := he.len
  refine Ev.fn (fun n => by simp only [z0t, z0t_e]; exact rfl) ?_
  have loop : ∀ (q k : Nat) (e0 : Entry) (err : Int), q + k = env.length → Ev2 (fun n m => z0t_l1 n m env env.length k name e0 err) (findT name k (env.drop k)) := by
    intro q
    induction q with
    | zero =>
      intro k e0 err hk
      obtain rfl : k = env.length := by omega
      refine Ev2.lp (fun n m => by simp only [z0t_l1, z0t_b1]; exact rfl) ?_
      simp only [Int.lt_irrefl, decide_false, cond_false]
      rw [List.drop_length]
      exact Ev2.pure
    | succ q ih =>
      intro k e0 err hk
      have hk' : k < env.length := by omega
      have hd := DOK2.of (he.ds _ (List.getElem_mem hk'))
      refine Ev2.lp (fun n m => by simp only [z0t_l1, z0t_b1]; exact rfl) ?_
      simp only [hk', Int.ofNat_lt, decide_true, cond_true]
      refine Ev2.idx hk' ?_
      have h1 : Ev (fun n => z0e n env[k] k) ((k : Int), env[k]) := by refine Ev.fn (fun n => by simp only [z0e, z0e_e]; exact rfl) ?_; exact Ev.pure
      refine Ev2.bind1 h1 (Ev2.bind1 (sig_ev env[k] hd k name e0 err) ?_)
      rw [sigE_eq, List.drop_eq_getElem_cons hk', findT]
      cases hc : (namesT env[k]).any (· == name) with
      | true => exact Ev2.pure
      | false =>
        simp only [cond_false, sigR, beq_self_eq_true, cond_true]
        rw [wrap_next (by simp only [cap] at hl; omega)]
        exact ih (k + 1) _ _ (by omega)
  have := loop env.length 0 { kind := 0, decl := 0, item := 0, params := 0, type := Term.mk 0 0 [] [] [] } 0 (by omega)
  rw [List.drop_zero] at this
  exact Ev.of2 this
end Go.Abs
namespace Go.Abs
set_option linter.unusedVariables false
set_option linter.unusedSimpArgs false
theorem SameLevels_ev (l : List Level) (h : (Term.mk 3 0 [] l []).bulk < lim) : Ev (fun n => z0f n l l) true := by
  refine Ev.fn (fun n => by simp only [z0f, z0f_e]; exact rfl) ?_
  refine Ev.bind (x := true) ?_ Ev.pure
  have := z1u_ev (Term.mk 3 0 [] l []) (Term.mk 3 0 [] l []) h
  rwa [eqb_self] at this
theorem SameL_ev (l : List Term) (h : TL l) : Ev (fun n => z0r n l l) true := by
  have := z0r_ev l l (lim_of_cap h.1) (fun x hx => lim_of_cap (h.2 x hx))
  rwa [eqb_self] at this
theorem Ev.ex {F : Nat → Option Bool} {r : Bool} (h : Ev F r) : ∃ n, F n = some r := by
  obtain ⟨N, h⟩ := h
  exact ⟨N, h N (Nat.le_refl _)⟩
theorem EOK.of {env : List Decl} (h : sumB Decl.bulk env ≤ cap) : EOK env := by
  have h1 := sumB_len (f := Decl.bulk) (fun x => by rw [Decl.bulk]; omega) env
  exact ⟨by omega, fun d hd => by have := sumB_mem (f := Decl.bulk) hd; omega⟩
theorem wake12 : Ev (fun n => (z1a n).bind fun x => some x) true := Ev.bind z1a_ev Ev.pure
end Go.Abs
namespace Go.Abs
set_option linter.unusedVariables false
set_option linter.unusedSimpArgs false
theorem DeclNames_new (env : List Decl) (he : EOK env) (d : Decl) (h : DOK2 d) : Tot (fun n => z0l n env d) (fun r => r = 0 → ∀ s ∈ namesT d, (findT s 0 env).2 ≠ 0) := by
  refine Tot.fn (fun n => by simp only [z0l, z0l_e]; exact rfl) ?_
  refine Tot.bind ((ref_Names_ev d h.toDOK).tot (Q := (· = namesT d)) rfl) fun x hx => ?_
  subst hx
  have hl := namesT_len h.toDOK
  have hm := namesT_mem h
  generalize namesT d = l at hl hm
  refine Tot.of2 (F := fun n m => z0l_l1 n m env l 0) ?_
  refine Tot2.up (S := Unit) (L := fun n m i _ => z0l_l1 n m env l i) l.length (fun i _ => ∀ s ∈ l.take i, (findT s 0 env).2 ≠ 0) _ ?_ ?_ 0 () (by omega) (by simp)
  · intro i s hi hI next
    refine Tot2.lp (fun n m => by simp only [z0l_l1, z0l_b1]; exact rfl) ?_
    have d2 : decide ((0 : Int) ≤ (i : Int) ∧ (i : Int) ≤ (l.length : Int) ∧ (l.length : Int) ≤ (l.length : Int)) = true := decide_eq_true (by omega)
    simp only [hi, Int.ofNat_lt, decide_true, cond_true, d2, Int.toNat_natCast]
    rw [wrap_next (by simp only [cap] at hl; omega)]
    refine Tot2.idx hi ?_
    have hs := hm _ (List.getElem_mem hi)
    refine Tot2.bind1 (z1t_tot _ (by simp only [cap, lim] at *; omega)) fun x _ => ?_
    refine Tot2.cnd (fun _ => ?_) fun _ => Tot2.pure (by intro e; cases e)
    refine Tot2.idx hi ?_
    refine Tot2.bind1 ((ref_Find_ev env he l[i]).tot (Q := (· = findT l[i] 0 env)) rfl) fun x hx => ?_
    refine Tot2.cnd (fun _ => Tot2.pure (by intro e; cases e)) fun hf => ?_
    refine Tot2.idx hi ?_
    refine Tot2.bind1 ((z24_ev (l.take i) l[i] (by rw [List.length_take]; simp only [cap, lim] at *; omega)).tot (Q := Yes) trivial) fun y _ => ?_
    refine Tot2.cnd (fun _ => Tot2.pure (by intro e; cases e)) fun _ => next s ?_
    intro t ht
    rw [List.take_succ_eq_append_getElem hi, List.mem_append, List.mem_singleton] at ht
    rcases ht with ht | rfl
    · exact hI t ht
    · rw [← hx]; exact beq_eq_false_iff_ne.1 hf
  · intro s hI
    refine Tot2.lp (fun n m => by simp only [z0l_l1, z0l_b1]; exact rfl) ?_
    simp only [Int.lt_irrefl, decide_false, cond_false]
    rw [List.take_length] at hI
    exact Tot2.pure fun _ => hI
theorem ofTerm_fine (z : Zs0) (h : ZOK z) (t : Term) (a b : Int) (hk : t.bulk ≤ cap) : Tot (fun n => z16 n z t a b) (fun r => r = 0 → Fine t) := by
  refine Tot.fn (fun n => by simp only [z16, z16_e]; exact rfl) ?_
  refine Tot.bind (z1h_fine t a b 0 0 (lim_of_cap hk)) fun x hx => ?_
  refine Tot.cnd (fun hc => Tot.pure fun e => hx e) fun hc => ?_
  rw [bne, Bool.not_eq_false', beq_iff_eq] at hc
  exact Tot.bind (constants_tot z h t hk) fun y _ => Tot.pure fun _ => hx hc
theorem Terms2_fine (env : List Decl) (he : EOK env) (d : Decl) (h : DOK2 d) (h3 : d.kind = 3) : Tot (fun n => z1n_l2 n n 0 d { env := env, own := [d.name], d := d }) (fun r => r = 0 → ∀ c ∈ d.ctors, Fine c.type) := by
  have hr := h.ctors
  have hz : ZOK { env := env, own := [d.name], d := d } := ⟨he, by simp [cap], h⟩
  refine Tot.of2 (F := fun n m => z1n_l2 n m 0 d { env := env, own := [d.name], d := d }) ?_
  refine Tot2.up (S := Unit) (L := fun n m i _ => z1n_l2 n m i d { env := env, own := [d.name], d := d }) d.ctors.length (fun i _ => ∀ c ∈ d.ctors.take i, Fine c.type) _ ?_ ?_ 0 () (by omega) (by simp)
  · intro i s hi hI next
    refine Tot2.lp (fun n m => by simp only [z1n_l2, z1n_b2]; exact rfl) ?_
    simp only [hi, Int.ofNat_lt, decide_true, cond_true]
    rw [wrap_next (by simp only [cap] at hr; omega)]
    refine Tot2.idx hi ?_
    refine Tot2.bind1 (ofTerm_fine _ hz _ _ _ (h.cts _ (List.getElem_mem hi))) fun x hx => ?_
    refine Tot2.cnd (fun hc => Tot2.pure fun e => ?_) fun hc => next s ?_
    · rw [e] at hc; cases hc
    · rw [bne, Bool.not_eq_false', beq_iff_eq] at hc
      intro c hcm
      rw [List.take_succ_eq_append_getElem hi, List.mem_append, List.mem_singleton] at hcm
      rcases hcm with hcm | rfl
      · exact hI c hcm
      · exact hx hc
  · intro s hI
    rw [List.take_length] at hI
    refine Tot2.lp (fun n m => by simp only [z1n_l2, z1n_b2]; exact rfl) ?_
    simp only [Int.lt_irrefl, decide_false, cond_false]
    refine Tot2.bind1 ((ref_Names_ev d h.toDOK).tot (Q := (· = namesT d)) rfl) fun x hx => ?_
    subst hx
    have hl := namesT_len h.toDOK
    have hpos : 1 ≤ (namesT d).length := by
      unfold namesT
      rw [h3]
      show 1 ≤ (d.name :: d.ctors.map (·.name) ++ [d.name ++ recN]).length
      simp
    generalize hL : namesT d = l at hl hpos
    have hw : IntKind.i64.wrap ((l.length : Int) - 1) = ((l.length - 1 : Nat) : Int) := by
      rw [wrap_small (by omega) (by simp only [cap] at hl; omega)]; omega
    have d2 : decide ((0 : Int) ≤ ((l.length - 1 : Nat) : Int) ∧ ((l.length - 1 : Nat) : Int) ≤ (l.length : Int) ∧ (l.length : Int) ≤ (l.length : Int)) = true := decide_eq_true (by omega)
    simp only [hw, d2, cond_true, Int.toNat_natCast]
    refine Tot2.bind1 (ofTerm_tot { env := env, own := l.take (l.length - 1), d := d } ⟨he, by rw [List.length_take]; show min _ _ ≤ _; omega, h⟩ _ _ _ h.rtype) fun x _ => ?_
    refine Tot2.cnd (fun _ => Tot2.pure fun _ => hI) fun _ => ?_
    exact (Tot2.of1 (Terms1_tot d h { env := env, own := l, d := d } ⟨he, hl, h⟩)).imp fun _ _ _ => hI
theorem Terms_fine (env : List Decl) (he : EOK env) (d : Decl) (h : DOK2 d) : Tot (fun n => z1n n env d) (fun r => r = 0 → d.kind = 3 → ∀ c ∈ d.ctors, Fine c.type) := by
  by_cases h3 : d.kind = 3
  · have hz : ZOK { env := env, own := [], d := d } := ⟨he, by simp, h⟩
    refine Tot.fn (fun n => by simp only [z1n, z1n_e]; exact rfl) ?_
    have e4 : (d.kind != 4) = true := by rw [h3]; rfl
    have e1 : (d.kind == 1) = false := by rw [h3]; rfl
    have e2 : (d.kind == 2) = false := by rw [h3]; rfl
    have e3 : (d.kind == 3) = true := by rw [h3]; rfl
    simp only [e1, e2, e3, e4, cond_true, cond_false]
    refine Tot.bind (ofTerm_tot _ hz _ _ _ h.type) fun x _ => ?_
    refine Tot.cnd (fun hc => Tot.pure fun e => ?_) fun _ => (Terms2_fine env he d h h3).imp fun _ hx e _ => hx e
    rw [e] at hc; cases hc
  · exact (Terms_tot env he d h).imp fun _ _ _ k => absurd k h3
structure Good2 (env : List Decl) (d : Decl) : Prop where
  g : Good1 d
  new : ∀ s ∈ namesT d, (findT s 0 env).2 ≠ 0
  fine : d.kind = 3 → ∀ c ∈ d.ctors, Fine c.type
theorem Decl_good (env : List Decl) (he : EOK env) (d : Decl) (h : DOK2 d) : Tot (fun n => z1x n env d) (fun r => r = 0 → Good2 env d) := by
  refine Tot.fn (fun n => by simp only [z1x, z1x_e]; exact rfl) ?_
  refine Tot.cnd (fun _ => Tot.pure (by intro e; cases e)) fun _ => ?_
  refine Tot.cnd (fun _ => Tot.pure (by intro e; cases e)) fun _ => ?_
  refine Tot.bind (unused_tot d h) fun x _ => ?_
  refine Tot.cnd (fun _ => ?_) fun _ => Tot.pure (by intro e; cases e)
  refine Tot.bind (counts_tot d h) fun y hy => ?_
  refine Tot.cnd (fun hc => Tot.pure fun e => ?_) fun hc => ?_
  · rw [e] at hc; cases hc
  rw [bne, Bool.not_eq_false', beq_iff_eq] at hc
  refine Tot.bind (DeclNames_new env he d h) fun z hz => ?_
  refine Tot.cnd (fun hd => Tot.pure fun e => ?_) fun hd => ?_
  · rw [e] at hd; cases hd
  rw [bne, Bool.not_eq_false', beq_iff_eq] at hd
  exact Tot.bind (Terms_fine env he d h) fun x hx => Tot.pure fun e => ⟨hy hc, hz hd, hx e⟩
theorem Check_good (env : List Decl) (he : EOK env) : Tot (fun n => z1l n env) (fun r => r.2 = 0 → ∀ (i : Nat) (hi : i < env.length), Good2 (env.take i) env[i]) := by
  have hl := he.len
  refine Tot.fn (fun n => by simp only [z1l, z1l_e]; exact rfl) ?_
  refine Tot.cnd (fun _ => Tot.pure (by intro e; cases e)) fun _ => ?_
  refine Tot.of2 (F := fun n m => z1l_l1 n m env 0) ?_
  refine Tot2.up (S := Unit) (L := fun n m i _ => z1l_l1 n m env i) env.length (fun k _ => ∀ (i : Nat) (hi : i < env.length), i < k → Good2 (env.take i) env[i]) _ ?_ ?_ 0 () (by omega) (fun i hi h => by omega)
  · intro i s hi hI next
    refine Tot2.lp (fun n m => by simp only [z1l_l1, z1l_b1]; exact rfl) ?_
    have d2 : decide ((0 : Int) ≤ (i : Int) ∧ (i : Int) ≤ (env.length : Int) ∧ (env.length : Int) ≤ (env.length : Int)) = true := decide_eq_true (by omega)
    simp only [hi, Int.ofNat_lt, decide_true, cond_true, d2, Int.toNat_natCast]
    rw [wrap_next (by simp only [cap] at hl; omega)]
    refine Tot2.idx hi ?_
    refine Tot2.bind1 (Decl_good _ (he.take i) _ (DOK2.of (he.ds _ (List.getElem_mem hi)))) fun x hx => ?_
    refine Tot2.cnd (fun hc => Tot2.pure fun e => ?_) fun hc => next () ?_
    · have e : x = 0 := e
      rw [e] at hc; cases hc
    · rw [bne, Bool.not_eq_false', beq_iff_eq] at hc
      intro j hj hjk
      by_cases e : j = i
      · subst e; exact hx hc
      · exact hI j hj (by omega)
  · intro s hI
    refine Tot2.lp (fun n m => by simp only [z1l_l1, z1l_b1]; exact rfl) ?_
    simp only [Int.lt_irrefl, decide_false, cond_false]
    exact Tot2.pure fun _ i hi => hI i hi hi
theorem Good_good (env : List Decl) (he : EOK env) : Tot (fun n => z1q n env) (fun r => r = true → ∀ (i : Nat) (hi : i < env.length), Good2 (env.take i) env[i]) := by
  refine Tot.fn (fun n => by simp only [z1q, z1q_e]; exact rfl) ?_
  refine Tot.bind (Few7_tot env he) fun x _ => ?_
  refine Tot.cnd (fun _ => ?_) fun _ => Tot.pure (by intro e; cases e)
  exact Tot.bind (Check_good env he) fun x hx => Tot.pure fun e => hx (beq_iff_eq.1 e)
theorem findT_here {name : Str} {d : Decl} {b : List Decl} : ∀ {k : Nat} {a : List Decl}, (findT name k a).2 ≠ 0 → (namesT d).any (· == name) = true → findT name k (a ++ d :: b) = (entryT d (k + a.length : Nat) name, 0)
  | k, [], _, h => by
    rw [List.nil_append, findT, h]; rfl
  | k, x :: a, hn, h => by
    rw [findT] at hn
    rw [List.cons_append, findT]
    cases hc : (namesT x).any (· == name) with
    | true => rw [hc] at hn; exact absurd rfl hn
    | false =>
      rw [hc, cond_false] at hn
      rw [cond_false, findT_here hn h]
      have : ((k + 1 + a.length : Nat) : Int) = ((k + (x :: a).length : Nat) : Int) := by rw [List.length_cons]; omega
      rw [this]
theorem find_own (env : List Decl) (i : Nat) (hi : i < env.length) (hg : Good2 (env.take i) env[i]) (h3 : env[i].kind = 3) :
    findT env[i].name 0 env = ({ kind := 3, decl := (i : Int), item := 0, params := env[i].params, type := env[i].type }, 0) := by
  have e : env = env.take i ++ env[i] :: env.drop (i + 1) := by rw [← List.drop_eq_getElem_cons hi, List.take_append_drop]
  have hn : env[i].name ∈ namesT env[i] := by
    unfold namesT
    rw [h3]
    show env[i].name ∈ env[i].name :: env[i].ctors.map (·.name) ++ [env[i].name ++ recN]
    simp
  have ha : (namesT env[i]).any (· == env[i].name) = true := List.any_eq_true.2 ⟨_, hn, beq_self_eq_true _⟩
  have hf := hg.new _ hn
  generalize env[i] = d at *
  conv => lhs; rw [e]
  rw [findT_here hf ha]
  have hl : ((0 + (env.take i).length : Nat) : Int) = (i : Int) := by rw [List.length_take]; omega
  rw [hl]
  unfold entryT
  have hs : (d.name == d.name) = true := beq_self_eq_true _
  rw [h3, hs]
  rfl
end Go.Abs
namespace Go.Abs
set_option linter.unusedVariables false
set_option linter.unusedSimpArgs false
theorem ctorT_spine {own : Term} {params : List Term} {k : Nat} {c : Ctor} (h : (ctorT own params k c).2 = true) :
    (spineT (allT c.type).2).1 = own ∧ (spineT (allT c.type).2).2.length = params.length + k ∧ (ctorT own params k c).1.results = (spineT (allT c.type).2).2.drop params.length := by
  unfold ctorT at h ⊢
  cases h0 : decide ((allT c.type).1.length < params.length) with
  | true => rw [h0] at h; cases h
  | false =>
    rw [h0] at h
    cases h1 : eqb ((allT c.type).1.take params.length) params with
    | false => rw [h1] at h; cases h
    | true =>
      rw [h1] at h
      cases h2 : (resultT own params k (allT c.type).2 (((allT c.type).1.drop params.length).length : Int)).2 with
      | false => rw [h2] at h; cases h
      | true =>
        simp only [cond_false, cond_true]
        unfold resultT at h2 ⊢
        cases h3 : ((spineT (allT c.type).2).2.length == params.length + k && (eqb (spineT (allT c.type).2).1 own && eqb ((spineT (allT c.type).2).2.take params.length) (someVars params.length (((allT c.type).1.drop params.length).length : Int)))) with
        | false => rw [h3] at h2; cases h2
        | true =>
          simp only [cond_true]
          simp only [Bool.and_eq_true, eqb_iff, beq_iff_eq] at h3
          exact ⟨h3.2.1, h3.1, trivial⟩
theorem Applied_at (env : List Decl) (he : EOK env) (i : Nat) (hi : i < env.length) (hg : Good2 (env.take i) env[i]) (h3 : env[i].kind = 3) (t : Term) (ht : t.bulk ≤ cap) (lv : List Level)
    (hs : (spineT t).1 = Term.mk 3 0 env[i].name lv []) (hl : (spineT t).2.length = (allT env[i].type).1.length) (hf : env[i].fixed ≤ ((spineT t).2.length : Int)) :
    Ev (fun n => z0q n env t) (env[i], lv, (spineT t).2.take env[i].fixed.toNat, (spineT t).2.drop env[i].fixed.toNat, true) := by
  have e1 := (Spine_sem t ht).1
  have hfd := Find_ev env he env[i].name
  rw [find_own env i hi hg h3] at hfd
  have hty := (DOK2.of (he.ds _ (List.getElem_mem hi))).type
  have a1 := (All_sem env[i].type hty).1
  have f0 := hg.g.1
  have hk : ((spineT t).1.kind != 3) = false := by rw [hs]; rfl
  have hnm : (spineT t).1.name = env[i].name := by rw [hs]; rfl
  have hlv : (spineT t).1.levels = lv := by rw [hs]; rfl
  have hlen : (((spineT t).2.length : Int) != ((allT env[i].type).1.length : Int)) = false := by rw [hl]; exact bne_self_eq_false _
  have hfl : decide (((spineT t).2.length : Int) < env[i].fixed) = false := decide_eq_false (by omega)
  have d2 : decide (0 ≤ env[i].fixed ∧ env[i].fixed ≤ ((spineT t).2.length : Int) ∧ ((spineT t).2.length : Int) ≤ ((spineT t).2.length : Int)) = true := decide_eq_true (by omega)
  have n0 : ((0 : Int) != 0) = false := rfl
  have n3 : ((3 : Int) != 3) = false := rfl
  refine Ev.fn (fun n => by simp only [z0q, z0q_e]; exact rfl) ?_
  refine Ev.bind e1 ?_
  simp only [hk, cond_false, hnm, hlv]
  refine Ev.bind hfd ?_
  simp only [n0, n3, cond_false, idxA_at hi, Option.bind_some]
  refine Ev.bind a1 ?_
  simp only [hlen, hfl, d2, cond_true, cond_false, List.take_length]
  exact Ev.pure
theorem z0d_plain (x0 : List Decl) (x1 : Int) (hb : sumB Decl.bulk x0 + 1 ≤ 1048576) (hw : ∀ y ∈ x0, y.wf) (hw1 : wfI .u8 x1) : ∃ n, z0d n x0 x1 = some true := by
  have he : EOK x0 := EOK.of (by simp only [cap]; omega)
  have hel := he.len
  obtain ⟨hx0, hx1⟩ := wfI_u8 hw1
  refine Ev.ex (Tot.ev ?_)
  refine Tot.fn (fun n => by simp only [z0d, z0d_e]; exact rfl) ?_
  refine Tot.bind (Good_good x0 he) fun g hg => ?_
  refine Tot.cnd (fun hgt => ?_) fun _ => wake12.tot rfl
  have hgood := hg hgt
  refine Tot.of2 (F := fun n m => z0d_l1 n m x0 x1 0) ?_
  refine Tot2.up (S := Unit) (L := fun n m i _ => z0d_l1 n m x0 x1 i) x0.length (fun _ _ => True) (· = true) ?_ ?_ 0 () (by omega) trivial
  · intro i s hi _ next
    refine Tot2.lp (fun n m => by simp only [z0d_l1, z0d_b1]; exact rfl) ?_
    simp only [hi, Int.ofNat_lt, decide_true, cond_true]
    have hgi := hgood i hi
    have hd : x0[i].bulk ≤ cap := he.ds _ (List.getElem_mem hi)
    have hdd := DOK2.of hd
    refine Tot2.idx hi ?_
    rw [wrap_next (by simp only [cap] at hel; omega)]
    have hA := (Analyse_sem x0[i] hd hgi.g.2.1 hgi.g.2.2).1
    refine Tot2.bind1 (hA.tot (Q := (· = analyseT x0[i])) rfl) fun y hy => ?_
    subst hy
    refine Tot2.cnd (fun _ => next s trivial) fun he0 => ?_
    rw [bne, Bool.not_eq_false', beq_iff_eq] at he0
    have hok := analyseT_ok hd
    obtain ⟨cs, hc⟩ := analyseT_inv he0
    have heq := hc.eq
    rw [heq] at hok ⊢
    refine Tot2.cnd (fun _ => next s trivial) fun hne => ?_
    have hcl := (ctorsT_ok (fun c hm => by have := (Decl.ctor_le hm).1; omega) hc.ctors).1
    have hfc : (famOf x0[i] cs).ctors.length = x0[i].ctors.length := hcl
    have hpos : 0 < (famOf x0[i] cs).ctors.length := by
      have := beq_eq_false_iff_ne.1 hne
      have e : ((famOf x0[i] cs, (0 : Int)).1).ctors.length = (famOf x0[i] cs).ctors.length := rfl
      rw [e] at this
      omega
    have hz0 : decide (((famOf x0[i] cs).ctors.length : Int) = 0) = false := decide_eq_false (by omega)
    obtain ⟨k, hk, hkw⟩ : ∃ k : Nat, k < (famOf x0[i] cs).ctors.length ∧ (IntKind.i64.wrap x1).tmod ((famOf x0[i] cs).ctors.length : Int) = (k : Int) := by
      rw [wrap_small (by omega) (by omega)]
      refine ⟨x1.toNat % (famOf x0[i] cs).ctors.length, Nat.mod_lt _ hpos, ?_⟩
      have : x1 = (x1.toNat : Int) := by omega
      rw [this, Int.ofNat_tmod, Int.toNat_natCast]
    simp only [hz0, cond_false, hkw]
    have hp0 := hgi.g.2.1
    have hp : ((x0[i].params.toNat : Nat) : Int) = x0[i].params := by omega
    have hlv : (famOf x0[i] cs).levels = ((x0[i].params.toNat : Nat) : Int) := by rw [hp]; rfl
    have hp8 : x0[i].params.toNat ≤ 8 := by have := hgi.g.2.2; omega
    have f0 := hc.f0
    have f1 := hc.f1
    have hkd : k < x0[i].ctors.length := by omega
    obtain ⟨g1, g2⟩ := ctorsT_get hc.ctors k hkd
    obtain ⟨k1, _⟩ := CtorType_at (famOf x0[i] cs) hok x0[i].params.toNat hlv hp8 k hk
    have hfine := hgi.fine hc.kind _ (List.getElem_mem hkd)
    obtain ⟨t1, t2⟩ := ctorT_type hfine g1
    obtain ⟨s1, s2, s3⟩ := ctorT_spine g1
    have hci : (famOf x0[i] cs).ctors[k] = (ctorT (Term.mk 3 0 x0[i].name (ownLevels x0[i].params.toNat) []) ((allT x0[i].type).1.take x0[i].fixed.toNat) ((allT x0[i].type).1.drop x0[i].fixed.toNat).length x0[i].ctors[k]).1 := by
      have : cs[k]? = some (famOf x0[i] cs).ctors[k] := List.getElem?_eq_getElem hk
      rw [this] at g2
      exact Option.some.inj g2
    have htype : typeT x0[i].params.toNat (famOf x0[i] cs) (famOf x0[i] cs).ctors[k] = x0[i].ctors[k].type := by
      rw [hci]; exact t1
    rw [htype] at k1
    refine Tot2.bind1 (k1.tot (Q := (· = (x0[i].ctors[k].type, 0))) rfl) fun x hx => ?_
    subst hx
    have hct := hdd.cts _ (List.getElem_mem hkd)
    refine Tot2.bind1 ((All_sem x0[i].ctors[k].type hct).1.tot (Q := (· = allT x0[i].ctors[k].type)) rfl) fun x hx => ?_
    subst hx
    have hplen : ((allT x0[i].type).1.take x0[i].fixed.toNat).length = x0[i].fixed.toNat := by rw [List.length_take]; omega
    have hilen : ((allT x0[i].type).1.drop x0[i].fixed.toNat).length = (allT x0[i].type).1.length - x0[i].fixed.toNat := List.length_drop
    rw [hplen, hilen] at s2
    rw [hplen] at s3
    have hsl : (spineT (allT x0[i].ctors[k].type).2).2.length = (allT x0[i].type).1.length := by rw [s2]; omega
    have hap := Applied_at x0 he i hi hgi hc.kind (allT x0[i].ctors[k].type).2 (allT_tl _ hct).2 (ownLevels x0[i].params.toNat) s1 hsl (by rw [hsl]; exact f1)
    refine Tot2.bind1 (hap.tot (Q := (· = _)) rfl) fun x hx => ?_
    subst hx
    have n0 : ((0 : Int) != 0) = false := rfl
    simp only [n0, cond_false, cond_true]
    refine Tot2.idx hi ?_
    simp only [beq_self_eq_true, cond_true]
    have hP := z14_ev x0[i].params.toNat hp8
    rw [hp] at hP
    refine Tot2.bind1 (hP.tot (Q := (· = ownLevels x0[i].params.toNat)) rfl) fun x hx => ?_
    subst hx
    have hlb : (Term.mk 3 0 [] (ownLevels x0[i].params.toNat) []).bulk < lim := by
      have := ownLevels_bulk x0[i].params.toNat
      simp only [Term.bulk_eq, Term.name, Term.levels, Term.kids, sumB, lim, List.length_nil]
      omega
    refine Tot2.bind1 ((SameLevels_ev _ hlb).tot (Q := (· = true)) rfl) fun x hx => ?_
    subst hx
    simp only [cond_true]
    have hff : ((((spineT (allT x0[i].ctors[k].type).2).2.take x0[i].fixed.toNat).length : Int) != x0[i].fixed) = false := by
      have : (((spineT (allT x0[i].ctors[k].type).2).2.take x0[i].fixed.toNat).length : Int) = x0[i].fixed := by rw [List.length_take, hsl]; omega
      rw [this]; exact bne_self_eq_false _
    simp only [hff, cond_false]
    refine Tot2.idx hk ?_
    have hres : (famOf x0[i] cs).ctors[k].results = (spineT (allT x0[i].ctors[k].type).2).2.drop x0[i].fixed.toNat := by rw [hci]; exact s3
    rw [hres]
    refine Tot2.bind1 ((SameL_ev _ ((spineT_tl _ (allT_tl _ hct).2).1.drop _)).tot (Q := (· = true)) rfl) fun x hx => ?_
    subst hx
    exact next s trivial
  · intro s _
    refine Tot2.lp (fun n m => by simp only [z0d_l1, z0d_b1]; exact rfl) ?_
    simp only [Int.lt_irrefl, decide_false, cond_false]
    exact Tot2.of1 (wake12.tot rfl)
end Go.Abs
