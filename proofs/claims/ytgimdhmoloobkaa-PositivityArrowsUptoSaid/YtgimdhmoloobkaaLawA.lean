/- A part of the proof: plain facts. -/
import Derived.Test.YtgimdhmoloobkaaCoreC
import Derived.Test.YtgimdhmoloobkaaReadA
set_option linter.all false
namespace Go.Abs
set_option linter.unusedVariables false
variable {R S T : Type}
def Ev (F : Nat → Option R) (r : R) : Prop := ∃ N, ∀ n, N ≤ n → F n = some r
def Ev2 (F : Nat → Nat → Option R) (r : R) : Prop := ∃ N, ∀ n m, N ≤ n → N ≤ m → F n m = some r
theorem Ev.fn {F G : Nat → Option R} {r : R} (h : ∀ n, F (n + 1) = G n) (hg : Ev G r) : Ev F r := by
  obtain ⟨N, hN⟩ := hg
  refine ⟨N + 1, fun n hn => ?_⟩
  obtain ⟨k, rfl⟩ : ∃ k, n = k + 1 := ⟨n - 1, by omega⟩
  rw [h]; exact hN k (by omega)
theorem Ev.of2 {F : Nat → Nat → Option R} {r : R} (h : Ev2 F r) : Ev (fun n => F n n) r := by
  obtain ⟨N, hN⟩ := h
  exact ⟨N, fun n hn => hN n n hn hn⟩
theorem Ev2.of1 {F : Nat → Option R} {r : R} (h : Ev F r) : Ev2 (fun n _ => F n) r := by
  obtain ⟨N, hN⟩ := h
  exact ⟨N, fun n m hn _ => hN n hn⟩
theorem Ev2.lp {F G : Nat → Nat → Option R} {r : R} (h : ∀ n m, F n (m + 1) = G n m) (hg : Ev2 G r) : Ev2 F r := by
  obtain ⟨N, hN⟩ := hg
  refine ⟨N + 1, fun n m hn hm => ?_⟩
  obtain ⟨k, rfl⟩ : ∃ k, m = k + 1 := ⟨m - 1, by omega⟩
  rw [h]; exact hN n k (by omega) (by omega)
theorem Ev.pure {r : R} : Ev (fun _ => some r) r := ⟨0, fun _ _ => rfl⟩
theorem Ev2.pure {r : R} : Ev2 (fun _ _ => some r) r := ⟨0, fun _ _ _ _ => rfl⟩
theorem Ev.bind {F : Nat → Option S} {G : Nat → S → Option R} {x : S} {r : R} (h : Ev F x) (hg : Ev (fun n => G n x) r) : Ev (fun n => (F n).bind (G n)) r := by
  obtain ⟨N, hN⟩ := h
  obtain ⟨M, hM⟩ := hg
  refine ⟨max N M, fun n hn => ?_⟩
  show (F n).bind (G n) = some r
  rw [hN n (by omega)]; exact hM n (by omega)
theorem Ev2.bind {F : Nat → Nat → Option S} {G : Nat → Nat → S → Option R} {x : S} {r : R} (h : Ev2 F x) (hg : Ev2 (fun n m => G n m x) r) : Ev2 (fun n m => (F n m).bind (G n m)) r := by
  obtain ⟨N, hN⟩ := h
  obtain ⟨M, hM⟩ := hg
  refine ⟨max N M, fun n m hn hm => ?_⟩
  show (F n m).bind (G n m) = some r
  rw [hN n m (by omega) (by omega)]; exact hM n m (by omega) (by omega)
theorem Ev2.bind1 {F : Nat → Option S} {G : Nat → Nat → S → Option R} {x : S} {r : R} (h : Ev F x) (hg : Ev2 (fun n m => G n m x) r) : Ev2 (fun n m => (F n).bind (G n m)) r :=
  Ev2.bind (F := fun n _ => F n) (Ev2.of1 h) hg
def Tot (F : Nat → Option R) (Q : R → Prop) : Prop := ∃ r, Q r ∧ Ev F r
def Tot2 (F : Nat → Nat → Option R) (Q : R → Prop) : Prop := ∃ r, Q r ∧ Ev2 F r
theorem Tot.fn {F G : Nat → Option R} {Q : R → Prop} (h : ∀ n, F (n + 1) = G n) (hg : Tot G Q) : Tot F Q := Exists.imp (fun _ k => ⟨k.1, Ev.fn h k.2⟩) hg
theorem Tot.of2 {F : Nat → Nat → Option R} {Q : R → Prop} (h : Tot2 F Q) : Tot (fun n => F n n) Q := Exists.imp (fun _ k => ⟨k.1, Ev.of2 k.2⟩) h
theorem Tot2.of1 {F : Nat → Option R} {Q : R → Prop} (h : Tot F Q) : Tot2 (fun n _ => F n) Q := Exists.imp (fun _ k => ⟨k.1, Ev2.of1 k.2⟩) h
theorem Tot2.lp {F G : Nat → Nat → Option R} {Q : R → Prop} (h : ∀ n m, F n (m + 1) = G n m) (hg : Tot2 G Q) : Tot2 F Q := Exists.imp (fun _ k => ⟨k.1, Ev2.lp h k.2⟩) hg
theorem Tot.pure {r : R} {Q : R → Prop} (h : Q r) : Tot (fun _ => some r) Q := ⟨r, h, Ev.pure⟩
theorem Tot2.pure {r : R} {Q : R → Prop} (h : Q r) : Tot2 (fun _ _ => some r) Q := ⟨r, h, Ev2.pure⟩
theorem Tot.bind {F : Nat → Option S} {G : Nat → S → Option R} {P : S → Prop} {Q : R → Prop} (h : Tot F P) (hg : ∀ x, P x → Tot (fun n => G n x) Q) : Tot (fun n => (F n).bind (G n)) Q := by
  obtain ⟨x, hx, hF⟩ := h
  obtain ⟨r, hr, hG⟩ := hg x hx
  exact ⟨r, hr, Ev.bind hF hG⟩
theorem Tot2.bind {F : Nat → Nat → Option S} {G : Nat → Nat → S → Option R} {P : S → Prop} {Q : R → Prop} (h : Tot2 F P) (hg : ∀ x, P x → Tot2 (fun n m => G n m x) Q) : Tot2 (fun n m => (F n m).bind (G n m)) Q := by
  obtain ⟨x, hx, hF⟩ := h
  obtain ⟨r, hr, hG⟩ := hg x hx
  exact ⟨r, hr, Ev2.bind hF hG⟩
theorem Tot2.bind1 {F : Nat → Option S} {G : Nat → Nat → S → Option R} {P : S → Prop} {Q : R → Prop} (h : Tot F P) (hg : ∀ x, P x → Tot2 (fun n m => G n m x) Q) : Tot2 (fun n m => (F n).bind (G n m)) Q :=
  Tot2.bind (F := fun n _ => F n) (Tot2.of1 h) hg
theorem Tot.idx {xs : List S} {i : Nat} {G : Nat → S → Option R} {Q : R → Prop} (hi : i < xs.length) (hg : Tot (fun n => G n xs[i]) Q) : Tot (fun n => (idxA xs (i : Int)).bind (G n)) Q := by
  have : idxA xs (i : Int) = some xs[i] := by simp [idxA, hi]
  simp only [this]; exact hg
theorem Tot2.idx {xs : List S} {i : Nat} {G : Nat → Nat → S → Option R} {Q : R → Prop} (hi : i < xs.length) (hg : Tot2 (fun n m => G n m xs[i]) Q) : Tot2 (fun n m => (idxA xs (i : Int)).bind (G n m)) Q := by
  have : idxA xs (i : Int) = some xs[i] := by simp [idxA, hi]
  simp only [this]; exact hg
theorem Tot.cnd {c : Bool} {A B : Nat → Option R} {Q : R → Prop} (h1 : c = true → Tot A Q) (h2 : c = false → Tot B Q) : Tot (fun n => bif c then A n else B n) Q := by
  cases c with
  | true => exact h1 rfl
  | false => exact h2 rfl
theorem Tot2.cnd {c : Bool} {A B : Nat → Nat → Option R} {Q : R → Prop} (h1 : c = true → Tot2 A Q) (h2 : c = false → Tot2 B Q) : Tot2 (fun n m => bif c then A n m else B n m) Q := by
  cases c with
  | true => exact h1 rfl
  | false => exact h2 rfl
theorem Tot.imp {F : Nat → Option R} {P Q : R → Prop} (h : Tot F P) (k : ∀ r, P r → Q r) : Tot F Q := Exists.imp (fun r x => ⟨k r x.1, x.2⟩) h
theorem Tot2.imp {F : Nat → Nat → Option R} {P Q : R → Prop} (h : Tot2 F P) (k : ∀ r, P r → Q r) : Tot2 F Q := Exists.imp (fun r x => ⟨k r x.1, x.2⟩) h
theorem Tot.ev {F : Nat → Option R} {r : R} (h : Tot F (· = r)) : Ev F r := by obtain ⟨s, rfl, h⟩ := h; exact h
theorem Ev.tot {F : Nat → Option R} {r : R} {Q : R → Prop} (h : Ev F r) (q : Q r) : Tot F Q := ⟨r, q, h⟩
theorem Ev2.tot {F : Nat → Nat → Option R} {r : R} {Q : R → Prop} (h : Ev2 F r) (q : Q r) : Tot2 F Q := ⟨r, q, h⟩
theorem Tot2.up {L : Nat → Nat → Int → S → Option R} (len : Nat) (I : Nat → S → Prop) (Q : R → Prop)
    (h1 : ∀ i s, i < len → I i s → (∀ s', I (i + 1) s' → Tot2 (fun n m => L n m ((i + 1 : Nat) : Int) s') Q) → Tot2 (fun n m => L n m (i : Int) s) Q)
    (h2 : ∀ s, I len s → Tot2 (fun n m => L n m (len : Int) s) Q) : ∀ (i : Nat) (s : S), i ≤ len → I i s → Tot2 (fun n m => L n m (i : Int) s) Q := by
  intro i s hi h
  obtain ⟨k, hk⟩ : ∃ k, k = len - i := ⟨_, rfl⟩
  induction k generalizing i s with
  | zero => obtain rfl : i = len := by omega
            exact h2 s h
  | succ k ih => exact h1 i s (by omega) h fun s' hs => ih (i + 1) s' (by omega) hs (by omega)
theorem wrap_small {n : Int} (h : -9223372036854775808 ≤ n) (h2 : n ≤ 9223372036854775807) : IntKind.i64.wrap n = n := by
  simp only [IntKind.wrap, IntKind.signed, IntKind.bits, Bool.true_and, decide_eq_true_eq]
  split <;> rename_i h3 <;> simp only [decide_eq_true_eq, ge_iff_le] at h3 <;> omega
theorem wrap_next {i : Nat} (h : i < 9223372036854775807) : IntKind.i64.wrap ((i : Int) + 1) = ((i + 1 : Nat) : Int) := by
  rw [wrap_small (by omega) (by omega)]; rfl
theorem idxA_at {xs : List S} {i : Nat} (hi : i < xs.length) : idxA xs (i : Int) = some xs[i] := by simp [idxA, hi]
theorem Ev2.idx {xs : List S} {i : Nat} {G : Nat → Nat → S → Option R} {r : R} (hi : i < xs.length) (hg : Ev2 (fun n m => G n m xs[i]) r) : Ev2 (fun n m => (idxA xs (i : Int)).bind (G n m)) r := by
  simp only [idxA_at hi]; exact hg
end Go.Abs
namespace Go.Abs
set_option linter.unusedVariables false
set_option linter.unusedSimpArgs false
theorem sumB_mem {α : Type} {f : α → Nat} : ∀ {xs : List α} {x : α}, x ∈ xs → f x ≤ sumB f xs
  | y :: ys, x, h => by
    simp only [sumB]
    rcases List.mem_cons.mp h with rfl | h
    · omega
    · have := sumB_mem (f := f) h; omega
theorem sumB_len {α : Type} {f : α → Nat} (h : ∀ x, 1 ≤ f x) : ∀ xs : List α, xs.length ≤ sumB f xs
  | [] => by simp [sumB]
  | y :: ys => by have := sumB_len h ys; have := h y; simp only [sumB, List.length_cons]; omega
theorem Term.bulk_pos (x : Term) : 1 ≤ x.bulk := by rw [Term.bulk_eq]; omega
theorem Level.bulk_pos (x : Level) : 1 ≤ x.bulk := by rw [Level.bulk]; omega
theorem LevelVar.bulk_pos (x : LevelVar) : 1 ≤ x.bulk := by rw [LevelVar.bulk]; omega
theorem Branch.bulk_pos (x : Branch) : 1 ≤ x.bulk := by rw [Branch.bulk_eq]; omega
theorem Term.kids_len (x : Term) : x.kids.length < x.bulk := by rw [Term.bulk_eq]; have := sumB_len Term.bulk_pos x.kids; omega
theorem Term.levels_len (x : Term) : x.levels.length < x.bulk := by rw [Term.bulk_eq]; have := sumB_len Level.bulk_pos x.levels; omega
theorem Term.name_len (x : Term) : x.name.length < x.bulk := by rw [Term.bulk_eq]; omega
theorem Level.vars_len (x : Level) : x.vars.length < x.bulk := by rw [Level.bulk]; have := sumB_len LevelVar.bulk_pos x.vars; omega
theorem Term.kid_lt {x t : Term} (h : t ∈ x.kids) : t.bulk < x.bulk := by rw [Term.bulk_eq x]; have := sumB_mem (f := Term.bulk) h; omega
theorem Term.level_lt {x : Term} {l : Level} (h : l ∈ x.levels) : l.bulk < x.bulk := by rw [Term.bulk_eq x]; have := sumB_mem (f := Level.bulk) h; omega
def lim : Nat := 9223372036854775807
abbrev Yes {R : Type} : R → Prop := fun _ => True
theorem ref03_Size_tot : ∀ (t : Term), t.bulk < lim → Tot (fun n => ref03_Size n t) Yes := by
  intro t
  induction h : t.bulk using Nat.strongRecOn generalizing t with
  | ind k ih =>
    intro hk
    have hl := t.kids_len
    refine Tot.fn (fun n => by simp only [ref03_Size, ref03_Size_e]; exact rfl) ?_
    refine Tot.of2 (F := fun n m => ref03_Size_l1 (ref03_Size n) n m 1 0 t) ?_
    refine Tot2.up (S := Int) (L := fun n m i s => ref03_Size_l1 (ref03_Size n) n m s i t) t.kids.length (fun _ _ => True) Yes ?_ ?_ 0 1 (by omega) trivial
    · intro i s hi _ next
      refine Tot2.lp (fun n m => by simp only [ref03_Size_l1, ref03_Size_b1]; exact rfl) ?_
      simp only [hi, Int.ofNat_lt, decide_true, cond_true]
      refine Tot2.idx hi ?_
      have hm := t.kid_lt (List.getElem_mem hi)
      refine Tot2.bind1 (ih _ (by omega) _ rfl (by omega)) fun x _ => ?_
      rw [wrap_next (by unfold lim at hk; omega)]
      exact next _ trivial
    · intro s _
      refine Tot2.lp (fun n m => by simp only [ref03_Size_l1, ref03_Size_b1]; exact rfl) ?_
      simp only [Int.lt_irrefl, decide_false, cond_false]
      exact Tot2.pure trivial
theorem ref03_Depth_tot : ∀ (t : Term), t.bulk < lim → Tot (fun n => ref03_Depth n t) Yes := by
  intro t
  induction h : t.bulk using Nat.strongRecOn generalizing t with
  | ind k ih =>
    intro hk
    have hl := t.kids_len
    refine Tot.fn (fun n => by simp only [ref03_Depth, ref03_Depth_e]; exact rfl) ?_
    refine Tot.of2 (F := fun n m => ref03_Depth_l1 (ref03_Depth n) n m 0 0 t) ?_
    refine Tot2.up (S := Int) (L := fun n m i s => ref03_Depth_l1 (ref03_Depth n) n m s i t) t.kids.length (fun _ _ => True) Yes ?_ ?_ 0 0 (by omega) trivial
    · intro i s hi _ next
      refine Tot2.lp (fun n m => by simp only [ref03_Depth_l1, ref03_Depth_b1]; exact rfl) ?_
      simp only [hi, Int.ofNat_lt, decide_true, cond_true]
      refine Tot2.idx hi ?_
      have hm := t.kid_lt (List.getElem_mem hi)
      refine Tot2.bind1 (ih _ (by omega) _ rfl (by omega)) fun x _ => ?_
      rw [wrap_next (by unfold lim at hk; omega)]
      exact next _ trivial
    · intro s _
      refine Tot2.lp (fun n m => by simp only [ref03_Depth_l1, ref03_Depth_b1]; exact rfl) ?_
      simp only [Int.lt_irrefl, decide_false, cond_false]
      exact Tot2.pure trivial
theorem ref03_Below_tot (k i : Int) : Tot (fun n => ref03_Below n k i) Yes := by
  refine Tot.fn (fun n => by simp only [ref03_Below, ref03_Below_e]; exact rfl) ?_
  (repeat' (first | exact Tot.pure trivial | exact Tot2.pure trivial | refine Tot.cnd (fun _ => ?_) (fun _ => ?_) | refine Tot2.cnd (fun _ => ?_) (fun _ => ?_)))
theorem ref03_letter_tot (k : Int) : Tot (fun n => ref03_letter n k) Yes := by
  refine Tot.fn (fun n => by simp only [ref03_letter, ref03_letter_e]; exact rfl) ?_
  (repeat' (first | exact Tot.pure trivial | exact Tot2.pure trivial | refine Tot.cnd (fun _ => ?_) (fun _ => ?_) | refine Tot2.cnd (fun _ => ?_) (fun _ => ?_)))
theorem ref01_Valid_tot (l : Level) (hk : l.bulk < lim) : Tot (fun n => ref01_Valid n l) Yes := by
  have hl := l.vars_len
  refine Tot.fn (fun n => by simp only [ref01_Valid, ref01_Valid_e]; exact rfl) ?_
  (repeat' (first | exact Tot.pure trivial | exact Tot2.pure trivial | refine Tot.cnd (fun _ => ?_) (fun _ => ?_) | refine Tot2.cnd (fun _ => ?_) (fun _ => ?_)))
  refine Tot.of2 (F := fun n m => ref01_Valid_l1 n m 0 l) ?_
  refine Tot2.up (S := Unit) (L := fun n m i s => ref01_Valid_l1 n m i l) l.vars.length (fun _ _ => True) Yes ?_ ?_ 0 () (by omega) trivial
  · intro i s hi _ next
    refine Tot2.lp (fun n m => by simp only [ref01_Valid_l1, ref01_Valid_b1]; exact rfl) ?_
    simp only [hi, Int.ofNat_lt, decide_true, cond_true]
    refine Tot2.idx hi ?_
    (repeat' (first | exact Tot.pure trivial | exact Tot2.pure trivial | refine Tot.cnd (fun _ => ?_) (fun _ => ?_) | refine Tot2.cnd (fun _ => ?_) (fun _ => ?_)))
    · rename_i h0
      have h0 : 0 < (i : Int) := by simpa using h0
      have e : IntKind.i64.wrap ((i : Int) - 1) = ((i - 1 : Nat) : Int) := by rw [wrap_small (by omega) (by unfold lim at hk; omega)]; omega
      simp only [e]
      refine Tot2.idx (by omega) ?_
      rw [wrap_next (by unfold lim at hk; omega)]
      (repeat' (first | exact Tot.pure trivial | exact Tot2.pure trivial | refine Tot.cnd (fun _ => ?_) (fun _ => ?_) | refine Tot2.cnd (fun _ => ?_) (fun _ => ?_)))
      all_goals exact next s trivial
    all_goals (rw [wrap_next (by unfold lim at hk; omega)]; exact next s trivial)
  · intro s _
    refine Tot2.lp (fun n m => by simp only [ref01_Valid_l1, ref01_Valid_b1]; exact rfl) ?_
    simp only [Int.lt_irrefl, decide_false, cond_false]
    exact Tot2.pure trivial
theorem ref03_Name_tot (s : Str) (hk : s.length < lim) : Tot (fun n => ref03_Name n s) Yes := by
  refine Tot.fn (fun n => by simp only [ref03_Name, ref03_Name_e]; exact rfl) ?_
  (repeat' (first | exact Tot.pure trivial | exact Tot2.pure trivial | refine Tot.cnd (fun _ => ?_) (fun _ => ?_) | refine Tot2.cnd (fun _ => ?_) (fun _ => ?_)))
  refine Tot.of2 (F := fun n m => ref03_Name_l1 n m s true 0) ?_
  refine Tot2.up (S := Bool) (L := fun n m i b => ref03_Name_l1 n m s b i) s.length (fun _ _ => True) Yes ?_ ?_ 0 true (by omega) trivial
  · intro i b hi _ next
    refine Tot2.lp (fun n m => by simp only [ref03_Name_l1, ref03_Name_b1]; exact rfl) ?_
    simp only [hi, Int.ofNat_lt, decide_true, cond_true]
    refine Tot2.idx hi ?_
    rw [wrap_next (by unfold lim at hk; omega)]
    (repeat' (first | exact Tot.pure trivial | exact Tot2.pure trivial | refine Tot.cnd (fun _ => ?_) (fun _ => ?_) | refine Tot2.cnd (fun _ => ?_) (fun _ => ?_)))
    · refine Tot2.bind1 (ref03_letter_tot _) fun x _ => ?_
      (repeat' (first | exact Tot.pure trivial | exact Tot2.pure trivial | refine Tot.cnd (fun _ => ?_) (fun _ => ?_) | refine Tot2.cnd (fun _ => ?_) (fun _ => ?_)))
      exact next _ trivial
    · exact next _ trivial
    · refine Tot2.bind1 (ref03_letter_tot _) fun x _ => ?_
      (repeat' (first | exact Tot.pure trivial | exact Tot2.pure trivial | refine Tot.cnd (fun _ => ?_) (fun _ => ?_) | refine Tot2.cnd (fun _ => ?_) (fun _ => ?_)))
      all_goals exact next _ trivial
  · intro s _
    refine Tot2.lp (fun n m => by simp only [ref03_Name_l1, ref03_Name_b1]; exact rfl) ?_
    simp only [Int.lt_irrefl, decide_false, cond_false]
    exact Tot2.pure trivial
theorem ref03_level_tot (l : Level) (p q : Int) (hk : l.bulk < lim) : Tot (fun n => ref03_level n l p q) Yes := by
  have hl := l.vars_len
  refine Tot.fn (fun n => by simp only [ref03_level, ref03_level_e]; exact rfl) ?_
  refine Tot.bind (ref01_Valid_tot l hk) fun x _ => ?_
  (repeat' (first | exact Tot.pure trivial | exact Tot2.pure trivial | refine Tot.cnd (fun _ => ?_) (fun _ => ?_) | refine Tot2.cnd (fun _ => ?_) (fun _ => ?_)))
  have k1 : Tot (fun n => ref03_level_l1 n n q 0 l) Yes := by
    refine Tot.of2 (F := fun n m => ref03_level_l1 n m q 0 l) ?_
    refine Tot2.up (S := Unit) (L := fun n m i s => ref03_level_l1 n m q i l) l.vars.length (fun _ _ => True) Yes ?_ ?_ 0 () (by omega) trivial
    · intro i s hi _ next
      refine Tot2.lp (fun n m => by simp only [ref03_level_l1, ref03_level_b1]; exact rfl) ?_
      simp only [hi, Int.ofNat_lt, decide_true, cond_true]
      refine Tot2.idx hi ?_
      rw [wrap_next (by unfold lim at hk; omega)]
      (repeat' (first | exact Tot.pure trivial | exact Tot2.pure trivial | refine Tot.cnd (fun _ => ?_) (fun _ => ?_) | refine Tot2.cnd (fun _ => ?_) (fun _ => ?_)))
      · refine Tot2.idx hi ?_
        (repeat' (first | exact Tot.pure trivial | exact Tot2.pure trivial | refine Tot.cnd (fun _ => ?_) (fun _ => ?_) | refine Tot2.cnd (fun _ => ?_) (fun _ => ?_)))
        exact next s trivial
      · exact next s trivial
    · intro s _
      refine Tot2.lp (fun n m => by simp only [ref03_level_l1, ref03_level_b1]; exact rfl) ?_
      simp only [Int.lt_irrefl, decide_false, cond_false]
      exact Tot2.pure trivial
  refine Tot.of2 (F := fun n m => ref03_level_l2 n m p q 0 l) ?_
  refine Tot2.up (S := Unit) (L := fun n m i s => ref03_level_l2 n m p q i l) l.vars.length (fun _ _ => True) Yes ?_ ?_ 0 () (by omega) trivial
  · intro i s hi _ next
    refine Tot2.lp (fun n m => by simp only [ref03_level_l2, ref03_level_b2]; exact rfl) ?_
    simp only [hi, Int.ofNat_lt, decide_true, cond_true]
    refine Tot2.idx hi ?_
    rw [wrap_next (by unfold lim at hk; omega)]
    (repeat' (first | exact Tot.pure trivial | exact Tot2.pure trivial | refine Tot.cnd (fun _ => ?_) (fun _ => ?_) | refine Tot2.cnd (fun _ => ?_) (fun _ => ?_)))
    · refine Tot2.idx hi ?_
      (repeat' (first | exact Tot.pure trivial | exact Tot2.pure trivial | refine Tot.cnd (fun _ => ?_) (fun _ => ?_) | refine Tot2.cnd (fun _ => ?_) (fun _ => ?_)))
      exact next s trivial
    · exact next s trivial
  · intro s _
    refine Tot2.lp (fun n m => by simp only [ref03_level_l2, ref03_level_b2]; exact rfl) ?_
    simp only [Int.lt_irrefl, decide_false, cond_false]
    exact Tot2.of1 k1
theorem Tree.kid_lt {x : Tree} {b : Branch} (h : b ∈ x.branches) : b.tree.bulk < x.bulk := by rw [Tree.bulk_eq x]; have := sumB_mem (f := Branch.bulk) h; rw [Branch.bulk_eq] at this; omega
end Go.Abs
namespace Go.Abs
set_option linter.unusedVariables false
set_option linter.unusedSimpArgs false
end Go.Abs
namespace Go.Abs
set_option linter.unusedVariables false
set_option linter.unusedSimpArgs false
abbrev cap : Nat := 1048640
theorem kids2_bulk {t x y : Term} (h : t.kids = [x, y]) : x.bulk + y.bulk < t.bulk := by
  rw [Term.bulk_eq t, h]; simp only [sumB]; omega
theorem room80 {k : Nat} (h : k ≤ cap * 2) : decide ((k + 1) * 80 ≤ 17592186044416) = true := by
  simp only [cap] at h; simp only [decide_eq_true_eq]; omega
theorem rev_loop : ∀ (k : Nat) (pre mid suf : List Term), mid.length = k → pre.length + k < lim → Ev2 (fun n m => slices_Reverse_Term_l1 n m pre.length ((pre.length : Int) + mid.length - 1) (pre ++ (mid ++ suf))) ((pre ++ (mid.reverse ++ suf), ()), ()) := by
  intro k
  induction k using Nat.strongRecOn with
  | ind k ih =>
    intro pre mid suf hk hlim
    refine Ev2.lp (fun n m => by simp only [slices_Reverse_Term_l1, slices_Reverse_Term_b1]; exact rfl) ?_
    match mid, hk with
    | [], hk =>
      have : decide ((pre.length : Int) < (pre.length : Int) + ([] : List Term).length - 1) = false := by simp; omega
      simp only [this, cond_false]
      exact Ev2.pure
    | [x], hk =>
      have : decide ((pre.length : Int) < (pre.length : Int) + ([x] : List Term).length - 1) = false := by simp
      simp only [this, cond_false]
      exact Ev2.pure
    | x :: y' :: rest, hk =>
      obtain ⟨mid', y, hy⟩ : ∃ mid' y, y' :: rest = mid' ++ [y] := ⟨(y' :: rest).dropLast, (y' :: rest).getLast (by simp), (List.dropLast_concat_getLast (by simp)).symm⟩
      rw [hy] at hk ⊢
      simp only [List.length_cons, List.length_append, List.length_nil] at hk
      have hd : decide ((pre.length : Int) < (pre.length : Int) + (x :: (mid' ++ [y])).length - 1) = true := by simp only [List.length_cons, List.length_append, List.length_nil, decide_eq_true_eq]; omega
      have e1 : ((pre.length : Int) + (x :: (mid' ++ [y])).length - 1) = ((pre.length + mid'.length + 1 : Nat) : Int) := by simp only [List.length_cons, List.length_append, List.length_nil]; omega
      have g1 : (pre ++ (x :: (mid' ++ [y]) ++ suf))[pre.length + mid'.length + 1]? = some y := by
        rw [List.getElem?_append_right (by omega)]
        have : pre.length + mid'.length + 1 - pre.length = mid'.length + 1 := by omega
        rw [this]
        simp
      have g0 : (pre ++ (x :: (mid' ++ [y]) ++ suf))[pre.length]? = some x := by
        rw [List.getElem?_append_right (by omega)]; simp
      have s0 : (pre ++ (x :: (mid' ++ [y]) ++ suf)).set pre.length y = pre ++ (y :: (mid' ++ [y]) ++ suf) := by
        rw [List.set_append_right _ _ (by omega)]; simp
      have g2 : (pre ++ (y :: (mid' ++ [y]) ++ suf))[pre.length + mid'.length + 1]? = some y := by
        rw [List.getElem?_append_right (by omega)]
        have : pre.length + mid'.length + 1 - pre.length = mid'.length + 1 := by omega
        rw [this]
        simp
      have s1 : (pre ++ (y :: (mid' ++ [y]) ++ suf)).set (pre.length + mid'.length + 1) x = (pre ++ [y]) ++ (mid' ++ (x :: suf)) := by
        rw [List.set_append_right _ _ (by omega)]
        have : pre.length + mid'.length + 1 - pre.length = mid'.length + 1 := by omega
        rw [this]
        simp only [List.cons_append, List.set_cons_succ, List.append_assoc]
        rw [List.set_append_right _ _ (by omega)]
        simp
      rw [e1] at hd
      simp only [e1]
      simp only [hd, cond_true]
      have n0 : (0 : Int) ≤ ((pre.length + mid'.length + 1 : Nat) : Int) := by omega
      have n1 : (0 : Int) ≤ (pre.length : Int) := by omega
      simp only [idxA, n0, n1, if_true, Int.toNat_natCast, g1, g0, g2, s0, s1, Option.bind_some]
      have w1 : IntKind.i64.wrap ((pre.length : Int) + 1) = ((pre ++ [y]).length : Int) := by
        unfold lim at hlim
        rw [wrap_next (by omega)]; simp
      have w2 : IntKind.i64.wrap (((pre.length + mid'.length + 1 : Nat) : Int) - 1) = ((pre ++ [y]).length : Int) + mid'.length - 1 := by
        unfold lim at hlim
        rw [wrap_small (by omega) (by omega)]; simp; omega
      rw [w1, w2]
      have := ih mid'.length (by omega) (pre ++ [y]) mid' (x :: suf) rfl (by simp; omega)
      have e : pre ++ ((x :: (mid' ++ [y])).reverse ++ suf) = (pre ++ [y]) ++ (mid'.reverse ++ (x :: suf)) := by simp
      rw [e]
      exact this
theorem slices_Reverse_Term_ev (r : List Term) (h : r.length < lim) : Ev (fun n => slices_Reverse_Term n r) ((r.reverse, ()), ()) := by
  refine Ev.fn (fun n => by simp only [slices_Reverse_Term, slices_Reverse_Term_e]; exact rfl) ?_
  have := rev_loop r.length [] r [] rfl (by simpa using h)
  simp only [List.nil_append, List.append_nil, List.length_nil] at this
  have w : IntKind.i64.wrap ((r.length : Int) - 1) = (0 : Nat) + (r.length : Int) - 1 := by unfold lim at h; rw [wrap_small (by omega) (by omega)]; omega
  rw [w]
  exact Ev.of2 this
end Go.Abs
namespace Go.Abs
set_option linter.unusedVariables false
set_option linter.unusedSimpArgs false
end Go.Abs
namespace Go.Abs
set_option maxRecDepth 100000
end Go.Abs
namespace Go.Abs
set_option linter.unusedVariables false
set_option linter.unusedSimpArgs false
noncomputable def spineT (t : Term) : Term × List Term :=
  if h : t.kind = 4 ∧ t.kids.length = 2 then
    ((spineT (t.kids[0]'(by omega))).1, (spineT (t.kids[0]'(by omega))).2 ++ [t.kids[1]'(by omega)])
  else (t, [])
termination_by t.bulk
decreasing_by all_goals exact Term.kid_lt (List.getElem_mem _)
theorem spineT_app {t x y : Term} (h : t.kind = 4) (hk : t.kids = [x, y]) : spineT t = ((spineT x).1, (spineT x).2 ++ [y]) := by
  rw [spineT, dif_pos ⟨h, by rw [hk]; rfl⟩]
  simp only [hk, List.getElem_cons_zero, List.getElem_cons_succ]
theorem spineT_not {t : Term} (h : ¬ (t.kind = 4 ∧ t.kids.length = 2)) : spineT t = (t, []) := by
  rw [spineT, dif_neg h]
theorem len2 {t : Term} (h : t.kids.length = 2) : ∃ x y, t.kids = [x, y] := by
  match hk : t.kids, h with
  | [x, y], _ => exact ⟨x, y, rfl⟩
theorem beq2 (t : Term) (k : Int) (h : ¬ (t.kind = k ∧ t.kids.length = 2)) : (t.kind == k) = false ∨ ((t.kind == k) = true ∧ ((t.kids.length : Int) == 2) = false) := by
  by_cases h1 : t.kind = k
  · refine .inr ⟨by simp [h1], ?_⟩
    rw [beq_eq_false_iff_ne]; intro e; exact h ⟨h1, by omega⟩
  · exact .inl (by simpa using h1)
theorem spineT_bulk : ∀ t : Term, sumB Term.bulk (spineT t).2 + (spineT t).1.bulk ≤ t.bulk + 1 := by
  intro t
  induction h : t.bulk using Nat.strongRecOn generalizing t with
  | ind k ih =>
    by_cases hc : t.kind = 4 ∧ t.kids.length = 2
    · obtain ⟨x, y, hxy⟩ := len2 hc.2
      have hb := kids2_bulk hxy
      have := ih x.bulk (by omega) x rfl
      rw [spineT_app hc.1 hxy]
      have e : ∀ xs : List Term, sumB Term.bulk (xs ++ [y]) = sumB Term.bulk xs + y.bulk := by
        intro xs
        induction xs with
        | nil => simp only [List.nil_append, sumB]; omega
        | cons z zs ih => simp only [List.cons_append, sumB, ih]; omega
      simp only [e]; omega
    · rw [spineT_not hc]; simp only [sumB]; omega
theorem Spine_sem (t : Term) (ht : t.bulk ≤ cap) : Ev (fun n => telescope_Spine n t) (spineT t) ∧ Ev (fun n => ref05_Spine_h n t) (((spineT t).2, ()), (spineT t).1, ()) := by
  have key : ∀ (t : Term), t.bulk ≤ cap → (∀ acc : List Term, acc.length + t.bulk ≤ cap * 2 → Ev2 (fun n m => telescope_Spine_l1 n m t acc) ((spineT t).1, (spineT t).2 ++ acc.reverse)) ∧ Ev (fun n => ref05_Spine_h n t) (((spineT t).2, ()), (spineT t).1, ()) := by
    intro t
    induction h : t.bulk using Nat.strongRecOn generalizing t with
    | ind k ih =>
      intro hcap
      by_cases hc : t.kind = 4 ∧ t.kids.length = 2
      · obtain ⟨x, y, hxy⟩ := len2 hc.2
        have hb := kids2_bulk hxy
        obtain ⟨hr, hs⟩ := ih x.bulk (by omega) x rfl (by omega)
        have i0 : idxA t.kids 0 = some x := by rw [hxy]; rfl
        have i1 : idxA t.kids 1 = some y := by rw [hxy]; rfl
        have e1 : (t.kind == 4) = true := by simp [hc.1]
        have e2 : ((t.kids.length : Int) == 2) = true := by simp [hc.2]
        have hsb := spineT_bulk x
        rw [spineT_app hc.1 hxy]
        refine ⟨fun acc ha => ?_, ?_⟩
        · have h2 := hr (acc ++ [y]) (by have := y.bulk_pos; simp only [List.length_append, List.length_singleton]; omega)
          have hroom := room80 (k := acc.length) (by omega)
          refine Ev2.lp (fun n m => by simp only [telescope_Spine_l1, telescope_Spine_b1]; exact rfl) ?_
          simp only [e1, e2, cond_true, i0, i1, Option.bind_some, hroom]
          simpa only [List.reverse_append, List.reverse_cons, List.reverse_nil, List.nil_append, List.append_assoc] using h2
        · refine Ev.fn (fun n => by simp only [ref05_Spine_h, ref05_Spine_h_e]; exact rfl) ?_
          simp only [bne, e1, e2, Bool.not_true, cond_false, i0, i1, Option.bind_some]
          have hlen := sumB_len Term.bulk_pos (spineT x).2
          have hroom := room80 (k := (spineT x).2.length) (by omega)
          refine Ev.bind hs ?_
          simp only [hroom, cond_true]
          exact Ev.pure
      · rw [spineT_not hc]
        refine ⟨fun acc ha => ?_, ?_⟩
        · refine Ev2.lp (fun n m => by simp only [telescope_Spine_l1, telescope_Spine_b1]; exact rfl) ?_
          have hrev := slices_Reverse_Term_ev acc (by unfold lim; simp only [cap] at ha; omega)
          rcases beq2 t 4 hc with e | ⟨e, e'⟩
          · simp only [e, cond_false]
            exact Ev2.bind1 hrev (by simp only [List.length_reverse, if_true, beq_self_eq_true, Bool.true_or, cond_true, Term.mapO_cells, Option.bind_some, List.nil_append]; exact Ev2.pure)
          · simp only [e, e', cond_true, cond_false]
            exact Ev2.bind1 hrev (by simp only [List.length_reverse, if_true, beq_self_eq_true, Bool.true_or, cond_true, Term.mapO_cells, Option.bind_some, List.nil_append]; exact Ev2.pure)
        · refine Ev.fn (fun n => by simp only [ref05_Spine_h, ref05_Spine_h_e]; exact rfl) ?_
          rcases beq2 t 4 hc with e | ⟨e, e'⟩
          · simp only [bne, e, Bool.not_false, cond_true]; exact Ev.pure
          · simp only [bne, e, e', Bool.not_true, Bool.not_false, cond_true, cond_false]; exact Ev.pure
  obtain ⟨h1, h2⟩ := key t ht
  refine ⟨?_, h2⟩
  refine Ev.fn (fun n => by simp only [telescope_Spine, telescope_Spine_e]; exact rfl) ?_
  have := h1 [] (by simp only [List.length_nil]; omega)
  rw [List.reverse_nil, List.append_nil] at this
  exact Ev.of2 this
def TL (xs : List Term) : Prop := xs.length ≤ cap ∧ ∀ x ∈ xs, x.bulk ≤ cap
theorem TL.drop {xs : List Term} (h : TL xs) (n : Nat) : TL (xs.drop n) := ⟨by have := h.1; rw [List.length_drop]; omega, fun x hx => h.2 x (List.mem_of_mem_drop hx)⟩
theorem TL.nil : TL [] := ⟨by simp [cap], fun x hx => by cases hx⟩
theorem TL.lim {xs : List Term} (h : TL xs) : xs.length < lim ∧ ∀ x ∈ xs, x.bulk < lim := by
  refine ⟨?_, fun x hx => ?_⟩
  · have := h.1; simp only [cap] at this; unfold Go.Abs.lim; omega
  · have := h.2 x hx; simp only [cap] at this; unfold Go.Abs.lim; omega
theorem lim_of_cap {n : Nat} (h : n ≤ cap) : n < lim := by simp only [cap] at h; unfold lim; omega
theorem spineT_tl (t : Term) (ht : t.bulk ≤ cap) : TL (spineT t).2 ∧ (spineT t).1.bulk ≤ cap := by
  have hb := spineT_bulk t
  have hp := (spineT t).1.bulk_pos
  have hs := sumB_pos (bk := Term.bulk) (spineT t).2
  have hl := sumB_len Term.bulk_pos (spineT t).2
  refine ⟨⟨by omega, fun x hx => ?_⟩, by omega⟩
  have := sumB_mem (f := Term.bulk) hx
  omega
inductive Fine : Term → Prop
  | mk (t : Term) (h : t.kind = 6 ∨ t.kind = 4 → t.kids.length = 2 ∧ t.index = 0 ∧ t.name = [] ∧ t.levels = []) (hk : ∀ k, k ∈ t.kids → Fine k) : Fine t
theorem Fine.kid {t : Term} (h : Fine t) : ∀ k, k ∈ t.kids → Fine k := by cases h with | mk _ _ h => exact h
end Go.Abs
namespace Go.Abs
set_option linter.unusedVariables false
set_option linter.unusedSimpArgs false
end Go.Abs
namespace Go.Abs
set_option linter.unusedVariables false
set_option linter.unusedSimpArgs false
theorem Ctor.bulk_pos (x : Ctor) : 1 ≤ x.bulk := by rw [Ctor.bulk]; omega
theorem Fun.bulk_pos (x : Fun) : 1 ≤ x.bulk := by rw [Fun.bulk]; omega
end Go.Abs
namespace Go.Abs
set_option linter.unusedVariables false
set_option linter.unusedSimpArgs false
theorem ref03_Kids_fine (k : Int) : Tot (fun n => ref03_Kids n k) (fun x => k = 6 ∨ k = 4 → x = 2) := by
  refine Tot.fn (fun n => by simp only [ref03_Kids, ref03_Kids_e]; exact rfl) ?_
  refine Tot.cnd (fun _ => Tot.pure fun _ => rfl) fun h1 => ?_
  refine Tot.cnd (fun _ => Tot.pure fun _ => rfl) fun _ => ?_
  refine Tot.cnd (fun _ => Tot.pure fun _ => rfl) fun h2 => ?_
  refine Tot.imp (P := Yes) ?_ fun _ _ h => ?_
  · (repeat' (first | exact Tot.pure trivial | exact Tot2.pure trivial | refine Tot.cnd (fun _ => ?_) (fun _ => ?_) | refine Tot2.cnd (fun _ => ?_) (fun _ => ?_)))
  · rw [beq_eq_false_iff_ne] at h1 h2
    rcases h with h | h <;> contradiction
theorem ref03_form_fine (t : Term) : Tot (fun n => ref03_form n t) (fun r => r = true → t.kind = 6 ∨ t.kind = 4 → t.kids.length = 2 ∧ t.index = 0 ∧ t.name = [] ∧ t.levels = []) := by
  refine Tot.fn (fun n => by simp only [ref03_form, ref03_form_e]; exact rfl) ?_
  refine Tot.cnd (fun _ => Tot.pure (by simp)) fun _ => Tot.cnd (fun _ => Tot.pure (by simp)) fun _ => ?_
  refine Tot.bind (ref03_Kids_fine _) fun x hx => ?_
  refine Tot.cnd (fun _ => Tot.pure (by simp)) fun hl => ?_
  have h2 : t.kind = 6 ∨ t.kind = 4 → t.kids.length = 2 := by
    intro h
    have := hx h
    subst this
    have h2 := bne_eq_false_iff_eq.1 hl
    omega
  (repeat' (refine Tot.cnd (fun _ => ?_) (fun _ => ?_)))
  all_goals refine Tot.pure fun hr hk => ?_
  all_goals refine ⟨h2 hk, ?_⟩
  all_goals clear h2 hl hx
  all_goals rcases hk with hk | hk <;> simp_all
theorem ref03_check_fine : ∀ (t : Term) (a b c d e : Int), t.bulk < lim → Tot (fun n => ref03_check n t a b c d e) (fun r => r = 0 → Fine t) := by
  intro t
  induction h : t.bulk using Nat.strongRecOn generalizing t with
  | ind k ih =>
    intro a b c d e hk
    have hl := t.kids_len
    have hl2 := t.levels_len
    have hl3 := t.name_len
    refine Tot.fn (fun n => by simp only [ref03_check, ref03_check_e]; exact rfl) ?_
    have k1 : (t.kind = 6 ∨ t.kind = 4 → t.kids.length = 2 ∧ t.index = 0 ∧ t.name = [] ∧ t.levels = []) → Tot (fun n => ref03_check_l1 (ref03_check n) n n a b c d e 0 t) (fun r => r = 0 → Fine t) := by
      intro hf
      refine Tot.of2 (F := fun n m => ref03_check_l1 (ref03_check n) n m a b c d e 0 t) ?_
      refine Tot2.up (S := Unit) (L := fun n m i s => ref03_check_l1 (ref03_check n) n m a b c d e i t) t.kids.length (fun i _ => ∀ j (hj : j < t.kids.length), j < i → Fine t.kids[j]) (fun r => r = 0 → Fine t) ?_ ?_ 0 () (by omega) (fun j _ h => by omega)
      · intro i s hi hI next
        refine Tot2.lp (fun n m => by simp only [ref03_check_l1, ref03_check_b1]; exact rfl) ?_
        simp only [hi, Int.ofNat_lt, decide_true, cond_true]
        refine Tot2.idx hi ?_
        have hm := t.kid_lt (List.getElem_mem hi)
        rw [wrap_next (by unfold lim at hk; omega)]
        refine Tot2.bind1 (ref03_Below_tot _ _) fun x _ => ?_
        refine Tot2.bind1 (ih _ (by omega) _ rfl _ _ _ _ _ (by omega)) fun x hx => ?_
        refine Tot2.cnd (fun hc => Tot2.pure fun h0 => ?_) fun hc => ?_
        · subst h0; simp at hc
        · refine next s fun j hj hlt => ?_
          rcases Nat.lt_succ_iff_lt_or_eq.1 hlt with h | rfl
          · exact hI j hj h
          · exact hx (bne_eq_false_iff_eq.1 hc)
      · intro s hI
        refine Tot2.lp (fun n m => by simp only [ref03_check_l1, ref03_check_b1]; exact rfl) ?_
        simp only [Int.lt_irrefl, decide_false, cond_false]
        refine Tot2.pure fun _ => Fine.mk t hf fun k hk => ?_
        obtain ⟨j, hj, rfl⟩ := List.getElem_of_mem hk
        exact hI j hj hj
    have k2 : (t.kind = 6 ∨ t.kind = 4 → t.kids.length = 2 ∧ t.index = 0 ∧ t.name = [] ∧ t.levels = []) → Tot (fun n => ref03_check_l2 (ref03_check n) n n a b c d e 0 t) (fun r => r = 0 → Fine t) := by
      intro hf
      refine Tot.of2 (F := fun n m => ref03_check_l2 (ref03_check n) n m a b c d e 0 t) ?_
      refine Tot2.up (S := Unit) (L := fun n m i s => ref03_check_l2 (ref03_check n) n m a b c d e i t) t.levels.length (fun _ _ => True) (fun r => r = 0 → Fine t) ?_ ?_ 0 () (by omega) trivial
      · intro i s hi _ next
        refine Tot2.lp (fun n m => by simp only [ref03_check_l2, ref03_check_b2]; exact rfl) ?_
        simp only [hi, Int.ofNat_lt, decide_true, cond_true]
        refine Tot2.idx hi ?_
        have hm := t.level_lt (List.getElem_mem hi)
        rw [wrap_next (by unfold lim at hk; omega)]
        refine Tot2.bind1 (ref03_level_tot _ _ _ (by omega)) fun x _ => ?_
        refine Tot2.cnd (fun hc => Tot2.pure fun h0 => ?_) fun hc => ?_
        · subst h0; simp at hc
        · exact next s trivial
      · intro s _
        refine Tot2.lp (fun n m => by simp only [ref03_check_l2, ref03_check_b2]; exact rfl) ?_
        simp only [Int.lt_irrefl, decide_false, cond_false]
        (repeat' (first | exact Tot2.pure (by simp) | refine Tot2.cnd (fun _ => ?_) (fun _ => ?_)))
        all_goals exact Tot2.of1 (k1 hf)
    refine Tot.bind (ref03_form_fine _) fun x hx => ?_
    refine Tot.cnd (fun hc => ?_) fun hc => Tot.pure (by simp)
    subst hc
    have hf := hx rfl
    refine Tot.cnd (fun _ => ?_) fun _ => ?_
    · refine Tot.bind (ref03_Name_tot _ (by omega)) fun x _ => ?_
      (repeat' (first | exact Tot.pure (by simp) | refine Tot.cnd (fun _ => ?_) (fun _ => ?_)))
      exact k2 hf
    · (repeat' (first | exact Tot.pure (by simp) | refine Tot.cnd (fun _ => ?_) (fun _ => ?_)))
      exact k2 hf
theorem ref03_Check_fine (t : Term) (a b c d : Int) (hk : t.bulk < lim) : Tot (fun n => ref03_Check n t a b c d) (fun r => r = 0 → Fine t) := by
  refine Tot.fn (fun n => by simp only [ref03_Check, ref03_Check_e]; exact rfl) ?_
  refine Tot.bind (ref03_check_fine _ _ _ _ _ _ hk) fun x hx => ?_
  refine Tot.cnd (fun hc => Tot.pure fun h0 => ?_) fun hc => ?_
  · subst h0; simp at hc
  have hf := hx (bne_eq_false_iff_eq.1 hc)
  refine Tot.imp (P := Yes) ?_ fun _ _ _ => hf
  refine Tot.bind (ref03_Size_tot _ hk) fun x _ => ?_
  (repeat' (first | exact Tot.pure trivial | exact Tot2.pure trivial | refine Tot.cnd (fun _ => ?_) (fun _ => ?_) | refine Tot2.cnd (fun _ => ?_) (fun _ => ?_)))
  refine Tot.bind (ref03_Depth_tot _ hk) fun x _ => ?_
  (repeat' (first | exact Tot.pure trivial | exact Tot2.pure trivial | refine Tot.cnd (fun _ => ?_) (fun _ => ?_) | refine Tot2.cnd (fun _ => ?_) (fun _ => ?_)))
end Go.Abs
namespace Go.Abs
set_option linter.unusedVariables false
set_option linter.unusedSimpArgs false
noncomputable def occT (s : Str) (t : Term) : Bool := (t.kind == 3 && t.name == s) || t.kids.attach.any (fun k => occT s k.1)
termination_by t.bulk
decreasing_by exact Term.kid_lt k.2
theorem occT_eq (s : Str) (t : Term) : occT s t = ((t.kind == 3 && t.name == s) || t.kids.any (occT s)) := by
  have h : ∀ xs : List Term, (xs.attach.any fun k => occT s k.1) = xs.any (occT s) := by
    intro xs
    have := congrArg (List.any · (occT s)) (List.attach_map_subtype_val xs)
    simp only [List.any_map] at this
    rw [← this]; rfl
  rw [occT, h]
theorem any_drop {α : Type} (p : α → Bool) (xs : List α) (i : Nat) (h : i < xs.length) : (xs.drop i).any p = (p xs[i] || (xs.drop (i + 1)).any p) := by
  rw [List.drop_eq_getElem_cons h, List.any_cons]
abbrev oS (s : Str) : (((Str × Unit) × Unit) × Unit) := (((s, ()), ()), ())
theorem IndexFunc_occ (s : Str) (xs : List Term) (hl : xs.length < lim) (h : ∀ x ∈ xs, Ev (fun n => positivity_occurs_1 n x s s) (oS s, occT s x, ())) :
    Tot (fun n => slices_IndexFunc_Term_positivity_occurs_1 n xs s s) (fun r => r.1 = oS s ∧ decide (0 ≤ r.2.1) = xs.any (occT s)) := by
  refine Tot.fn (fun n => by simp only [slices_IndexFunc_Term_positivity_occurs_1, slices_IndexFunc_Term_positivity_occurs_1_e]; exact rfl) ?_
  refine Tot.of2 (F := fun n m => slices_IndexFunc_Term_positivity_occurs_1_l1 (slices_ContainsFunc_Term_positivity_occurs_1 n) (slices_IndexFunc_Term_positivity_occurs_1 n) (positivity_occurs_1 n) n m xs s xs.length 0 s) ?_
  refine Tot2.up (S := Unit) (L := fun n m i _ => slices_IndexFunc_Term_positivity_occurs_1_l1 (slices_ContainsFunc_Term_positivity_occurs_1 n) (slices_IndexFunc_Term_positivity_occurs_1 n) (positivity_occurs_1 n) n m xs s xs.length i s) xs.length (fun i _ => xs.any (occT s) = (xs.drop i).any (occT s)) _ ?_ ?_ 0 () (by omega) rfl
  · intro i u hi hI next
    refine Tot2.lp (fun n m => by simp only [slices_IndexFunc_Term_positivity_occurs_1_l1, slices_IndexFunc_Term_positivity_occurs_1_b1]; exact rfl) ?_
    simp only [hi, Int.ofNat_lt, decide_true, cond_true]
    refine Tot2.idx hi ?_
    refine Tot2.bind1 ((h _ (List.getElem_mem hi)).tot (Q := (· = (oS s, occT s xs[i], ()))) rfl) fun x hx => ?_
    subst hx
    rw [any_drop _ _ _ hi] at hI
    refine Tot2.cnd (fun hc => Tot2.pure ⟨rfl, ?_⟩) fun hc => ?_
    · simp only at hc
      rw [hI, hc]; simp
    · rw [wrap_next (by unfold lim at hl; omega)]
      simp only at hc
      exact next u (by rw [hI, hc, Bool.false_or])
  · intro u hI
    refine Tot2.lp (fun n m => by simp only [slices_IndexFunc_Term_positivity_occurs_1_l1, slices_IndexFunc_Term_positivity_occurs_1_b1]; exact rfl) ?_
    simp only [Int.lt_irrefl, decide_false, cond_false]
    refine Tot2.pure ⟨rfl, ?_⟩
    rw [hI, List.drop_length]; rfl
theorem ContainsFunc_occ (s : Str) (xs : List Term) (hl : xs.length < lim) (h : ∀ x ∈ xs, Ev (fun n => positivity_occurs_1 n x s s) (oS s, occT s x, ())) :
    Ev (fun n => slices_ContainsFunc_Term_positivity_occurs_1 n xs s s) (oS s, xs.any (occT s), ()) := by
  refine Tot.ev ?_
  refine Tot.fn (fun n => by simp only [slices_ContainsFunc_Term_positivity_occurs_1, slices_ContainsFunc_Term_positivity_occurs_1_e]; exact rfl) ?_
  refine Tot.bind (IndexFunc_occ s xs hl h) fun x hx => ?_
  refine Tot.pure ?_
  rw [hx.1, hx.2]
theorem occurs_1_ev (s : Str) : ∀ t : Term, t.bulk < lim → Ev (fun n => positivity_occurs_1 n t s s) (oS s, occT s t, ()) := by
  intro t
  induction h : t.bulk using Nat.strongRecOn generalizing t with
  | ind k ih =>
    intro hk
    have hl := t.kids_len
    have hc := ContainsFunc_occ s t.kids (by omega) (fun x hx => ih x.bulk (by have := t.kid_lt hx; omega) x rfl (by have := t.kid_lt hx; omega))
    refine Ev.fn (fun n => by simp only [positivity_occurs_1, positivity_occurs_1_e]; exact rfl) ?_
    rw [occT_eq]
    cases h1 : (t.kind == 3) with
    | false =>
      simp only [cond_false, Bool.false_and, Bool.false_or]
      exact Ev.bind hc Ev.pure
    | true =>
      cases h2 : (t.name == s) with
      | false =>
        simp only [cond_true, cond_false, Bool.and_false, Bool.false_or]
        exact Ev.bind hc Ev.pure
      | true =>
        simp only [cond_true, Bool.and_true, Bool.true_or]
        exact Ev.pure
theorem positivity_occurs_ev (s : Str) (xs : List Term) (h : TL xs) : Ev (fun n => positivity_occurs n s xs) (xs.any (occT s)) := by
  refine Ev.fn (fun n => by simp only [positivity_occurs, positivity_occurs_e]; exact rfl) ?_
  exact Ev.bind (ContainsFunc_occ s xs h.lim.1 (fun x hx => occurs_1_ev s x (h.lim.2 x hx))) Ev.pure
theorem TL.one {t : Term} (h : t.bulk ≤ cap) : TL [t] := ⟨by simp [cap], fun x hx => by rw [List.mem_singleton] at hx; subst hx; exact h⟩
theorem positivity_occurs_one (s : Str) (t : Term) (h : t.bulk ≤ cap) : Ev (fun n => positivity_occurs n s [t]) (occT s t) := by
  have := positivity_occurs_ev s [t] (TL.one h)
  simpa using this
-- the reference
theorem ref07_Has_ev (l : List Str) (s : Str) (hl : l.length < lim) : Ev (fun n => ref07_Has n l s) (l.any (· == s)) := by
  refine Tot.ev ?_
  refine Tot.fn (fun n => by simp only [ref07_Has, ref07_Has_e]; exact rfl) ?_
  refine Tot.of2 (F := fun n m => ref07_Has_l1 n m l s 0) ?_
  refine Tot2.up (S := Unit) (L := fun n m i _ => ref07_Has_l1 n m l s i) l.length (fun i _ => l.any (· == s) = (l.drop i).any (· == s)) _ ?_ ?_ 0 () (by omega) rfl
  · intro i u hi hI next
    refine Tot2.lp (fun n m => by simp only [ref07_Has_l1, ref07_Has_b1]; exact rfl) ?_
    simp only [hi, Int.ofNat_lt, decide_true, cond_true]
    refine Tot2.idx hi ?_
    rw [any_drop _ _ _ hi] at hI
    refine Tot2.cnd (fun hc => Tot2.pure ?_) fun hc => ?_
    · rw [hI, hc, Bool.true_or]
    · rw [wrap_next (by unfold lim at hl; omega)]
      exact next u (by rw [hI, hc, Bool.false_or])
  · intro u hI
    refine Tot2.lp (fun n m => by simp only [ref07_Has_l1, ref07_Has_b1]; exact rfl) ?_
    simp only [Int.lt_irrefl, decide_false, cond_false]
    refine Tot2.pure ?_
    rw [hI, List.drop_length]; rfl
theorem room16 {k : Nat} (h : k ≤ cap * 2) : decide ((k + 1) * 16 ≤ 17592186044416) = true := by
  simp only [cap] at h; simp only [decide_eq_true_eq]; omega
noncomputable def posT (s : Str) (t : Term) : Bool :=
  !occT s t || (if h : t.kind = 6 ∧ t.kids.length = 2 then !occT s (t.kids[0]'(by omega)) && posT s (t.kids[1]'(by omega))
    else (spineT t).1.kind == 3 && ((spineT t).1.name == s && !(spineT t).2.any (occT s)))
termination_by t.bulk
decreasing_by all_goals exact Term.kid_lt (List.getElem_mem _)
theorem posT_pi {s : Str} {t x y : Term} (h : t.kind = 6) (hk : t.kids = [x, y]) : posT s t = (!occT s t || (!occT s x && posT s y)) := by
  rw [posT, dif_pos ⟨h, by rw [hk]; rfl⟩]
  simp only [hk, List.getElem_cons_zero, List.getElem_cons_succ]
theorem posT_not {s : Str} {t : Term} (h : ¬ (t.kind = 6 ∧ t.kids.length = 2)) : posT s t = (!occT s t || ((spineT t).1.kind == 3 && ((spineT t).1.name == s && !(spineT t).2.any (occT s)))) := by
  rw [posT, dif_neg h]
theorem posT_of_not {s : Str} {t : Term} (h : occT s t = false) : posT s t = true := by
  rw [posT, h]; rfl
theorem occT_pi {s : Str} {t x y : Term} (h : t.kind = 6) (hk : t.kids = [x, y]) : occT s t = (occT s x || occT s y) := by
  rw [occT_eq, hk, h]; simp
theorem positivity_Positive_ev (s : Str) (t : Term) (ht : t.bulk ≤ cap) (hf : Fine t) : Ev (fun n => positivity_Positive n t s) (posT s t) := by
  refine Ev.fn (fun n => by simp only [positivity_Positive, positivity_Positive_e]; exact rfl) ?_
  refine Ev.of2 (F := fun n m => positivity_Positive_l1 n m s t) ?_
  have tail : ∀ t : Term, t.bulk ≤ cap → ∀ b : Bool, (b = (!occT s t || ((spineT t).1.kind == 3 && ((spineT t).1.name == s && !(spineT t).2.any (occT s))))) → Ev2 (fun n _ => (positivity_occurs n s [t]).bind fun x =>
          bif x then
            (telescope_Spine n t).bind fun x =>
              bif x.fst.kind == 3 then
                bif x.fst.name == s then (positivity_occurs n s x.snd).bind fun x => some !x else some false
              else some false
          else some true) b := by
    intro t ht b hb
    refine Ev2.of1 (Ev.bind (positivity_occurs_one s t ht) ?_)
    subst hb
    cases occT s t with
    | false => exact Ev.pure
    | true =>
      refine Ev.bind (Spine_sem t ht).1 ?_
      have hsp := positivity_occurs_ev s (spineT t).2 (spineT_tl t ht).1
      cases (spineT t).1.kind == 3 with
      | false => exact Ev.pure
      | true =>
        cases (spineT t).1.name == s with
        | false => exact Ev.pure
        | true => exact Ev.bind hsp Ev.pure
  induction h : t.bulk using Nat.strongRecOn generalizing t with
  | ind k ih =>
    refine Ev2.lp (fun n m => by simp only [positivity_Positive_l1, positivity_Positive_b1]; exact rfl) ?_
    by_cases hc : t.kind = 6 ∧ t.kids.length = 2
    · obtain ⟨x, y, hxy⟩ := len2 hc.2
      have hb := kids2_bulk hxy
      have i0 : idxA t.kids 0 = some x := by rw [hxy]; rfl
      have i1 : idxA t.kids 1 = some y := by rw [hxy]; rfl
      have e1 : (t.kind == 6) = true := by simp [hc.1]
      have e2 : ((t.kids.length : Int) == 2) = true := by simp [hc.2]
      simp only [e1, e2, cond_true, i0, i1, Option.bind_some]
      refine Ev2.bind1 (positivity_occurs_one s x (by omega)) ?_
      rw [posT_pi hc.1 hxy, occT_pi hc.1 hxy]
      cases hx : occT s x with
      | true =>
        refine tail t ht _ ?_
        rw [occT_pi hc.1 hxy, hx, spineT_not (by rw [hc.1]; simp), hc.1]; rfl
      | false =>
        have := ih y.bulk (by omega) y (by omega) (hf.kid y (by rw [hxy]; simp)) rfl
        simp only [cond_false, Bool.false_or, Bool.not_false, Bool.true_and]
        cases hy : occT s y with
        | false => rw [posT_of_not hy] at this; simpa using this
        | true => simpa using this
    · rw [posT_not hc]
      rcases beq2 t 6 hc with e | ⟨e, e'⟩
      · simp only [e, cond_false]; exact tail t ht _ rfl
      · simp only [e, e', cond_true, cond_false]; exact tail t ht _ rfl
end Go.Abs
namespace Go.Abs
set_option linter.unusedVariables false
set_option linter.unusedSimpArgs false
theorem awake13_k (k : Nat) : law13_awake (k + 60) = some true := by kernel_rfl
theorem law13_awake_ev : Ev (fun n => law13_awake n) true := by
  refine ⟨60, fun n hn => ?_⟩
  obtain ⟨k, rfl⟩ : ∃ k, n = k + 60 := ⟨n - 60, by omega⟩
  exact awake13_k k
end Go.Abs
namespace Go.Abs
theorem law05_Few_fine (t : Term) (v : Int) (hk : t.bulk < lim) : Tot (fun n => law05_Few n t v) (fun r => r = true → Fine t) := by
  refine Tot.fn (fun n => by simp only [law05_Few, law05_Few_e]; exact rfl) ?_
  refine Tot.bind (ref03_Size_tot _ hk) fun x _ => ?_
  refine Tot.cnd (fun _ => ?_) fun _ => Tot.pure (by simp)
  refine Tot.bind (ref03_Depth_tot _ hk) fun x _ => ?_
  refine Tot.cnd (fun _ => ?_) fun _ => Tot.pure (by simp)
  refine Tot.bind (ref03_Check_fine _ _ _ _ _ hk) fun x hx => ?_
  exact Tot.pure fun h => hx (by simpa using h)
end Go.Abs
namespace Go.Abs
set_option linter.unusedVariables false
set_option linter.unusedSimpArgs false
theorem plFind_set {α : Type} (x s : Str) (v : α) : ∀ es : List (Str × α), plFind x (plSet s v es) = bif x == s then some v else plFind x es
  | [] => rfl
  | (k, u) :: es => by
    simp only [plSet]
    cases h : (s == k) with
    | true =>
      obtain rfl := beq_iff_eq.1 h
      simp only [cond_true, plFind]
      cases x == s <;> rfl
    | false =>
      simp only [cond_false, plFind, plFind_set x s v es]
      cases h2 : (x == k) with
      | true =>
        obtain rfl := beq_iff_eq.1 h2
        have : (x == s) = false := by
          cases h3 : (x == s) with
          | false => rfl
          | true => obtain rfl := beq_iff_eq.1 h3; rw [h2] at h; cases h
        rw [this]; rfl
      | false => rfl
theorem tupList_len {α : Type} : ∀ (n : Nat) (v : Tup α n), (tupList n v).length = n
  | 0, _ => rfl
  | n + 1, v => by rw [tupList, List.length_cons, tupList_len n v.2]
def Met (met : List (Str × Bool)) (out : List Str) : Prop := ∀ s, (plFind s met).getD false = out.any (· == s)
abbrev roundR (met : List (Str × Bool)) (out : List Str) : (((Unit × Int) × (Unit × (Unit × ((List (Str × Bool)) × ((List Str) × Unit))))) × (Bool × Unit)) := ((((), 0), (), (), met, out, ()), true, ())
theorem round_consts (d : Int) (t : Term) (met : List (Str × Bool)) (out : List Str) (hk : out.length ≤ cap * 2) (hm : Met met out) :
    Tot (fun n => term_Consts_k0_1_0_1_1_1_r n d t met out) (fun r => ∃ met' out', r = roundR met' out' ∧ out'.length ≤ out.length + 1 ∧ Met met' out' ∧ ∀ s, out'.any (· == s) = (out.any (· == s) || (t.kind == 3 && t.name == s))) := by
  refine Tot.fn (fun n => by simp only [term_Consts_k0_1_0_1_1_1_r, term_Consts_k0_1_0_1_1_1_r_e]; exact rfl) ?_
  refine Tot.cnd (fun h3 => ?_) fun h3 => ?_
  · refine Tot.cnd (fun hf => ?_) fun hf => ?_
    · refine Tot.pure ⟨met, out, rfl, by omega, hm, fun s => ?_⟩
      rw [h3, Bool.true_and]
      cases hs : (t.name == s) with
      | false => rw [Bool.or_false]
      | true =>
        have := beq_iff_eq.1 hs
        rw [← this, ← hm, hf]; rfl
    · rw [room16 hk, cond_true]
      refine Tot.pure ⟨_, _, rfl, by simp, fun s => ?_, fun s => ?_⟩
      · rw [plFind_set, List.any_append]
        cases hs : (s == t.name) with
        | true => obtain rfl := beq_iff_eq.1 hs; simp
        | false =>
          have : (t.name == s) = false := by
            cases h : (t.name == s) with
            | false => rfl
            | true => obtain rfl := beq_iff_eq.1 h; rw [hs] at h; cases h
          simp only [cond_false, List.any_cons, List.any_nil, this, Bool.or_false]
          exact hm s
      · rw [h3, Bool.true_and, List.any_append]; simp
  · exact Tot.pure ⟨met, out, rfl, by omega, hm, fun s => by rw [h3, Bool.false_and, Bool.or_false]⟩
abbrev nodesR (K : Tup TermUse 13) (met : List (Str × Bool)) (out : List Str) : ((Unit × ((((Tup TermUse 13) × Unit) × Unit) × ((Unit × Int) × (Unit × (Unit × ((List (Str × Bool)) × ((List Str) × Unit))))))) × (Bool × Unit)) := (((), ((K, ()), ()), ((), 0), (), (), met, out, ()), true, ())
theorem nodes_consts (K : Tup TermUse 13) : ∀ (t : Term) (d : Int) (met : List (Str × Bool)) (out : List Str), out.length + t.bulk ≤ cap * 2 → Met met out →
    Tot (fun n => term_nodes_1_1 n t d K K met out) (fun r => ∃ met' out', r = nodesR K met' out' ∧ out'.length ≤ out.length + t.bulk ∧ Met met' out' ∧ ∀ s, out'.any (· == s) = (out.any (· == s) || occT s t)) := by
  intro t
  induction h : t.bulk using Nat.strongRecOn generalizing t with
  | ind k ih =>
    intro d met out hk hm
    have hl := t.kids_len
    have hb : 1 + sumB Term.bulk t.kids ≤ t.bulk := by rw [Term.bulk_eq]; omega
    have loop : ∀ (below : Int) (met0 : List (Str × Bool)) (out0 : List Str), out0.length ≤ out.length + 1 → Met met0 out0 →
        Tot (fun n => term_nodes_1_1_l1 (term_nodes_1_1 n) n n d below t.kids t.kids.length 0 K 0 met0 out0) (fun r => ∃ met' out', r = nodesR K met' out' ∧ out'.length ≤ out.length + k ∧ Met met' out' ∧ ∀ s, out'.any (· == s) = (out0.any (· == s) || t.kids.any (occT s))) := by
      intro below met0 out0 hl0 hm0
      refine Tot.of2 (F := fun n m => term_nodes_1_1_l1 (term_nodes_1_1 n) n m d below t.kids t.kids.length 0 K 0 met0 out0) ?_
      refine Tot2.up (S := List (Str × Bool) × List Str) (L := fun n m i r => term_nodes_1_1_l1 (term_nodes_1_1 n) n m d below t.kids t.kids.length i K 0 r.1 r.2) t.kids.length
        (fun i r => r.2.length + sumB Term.bulk (t.kids.drop i) ≤ out.length + k ∧ Met r.1 r.2 ∧ ∀ s, (out0.any (· == s) || t.kids.any (occT s)) = (r.2.any (· == s) || (t.kids.drop i).any (occT s))) _ ?_ ?_ 0 (met0, out0) (by omega) ⟨by simp only [List.drop_zero]; omega, hm0, fun s => by simp⟩
      · rintro i ⟨m1, o1⟩ hi ⟨hI1, hI2, hI3⟩ next
        have e : sumB Term.bulk (t.kids.drop i) = t.kids[i].bulk + sumB Term.bulk (t.kids.drop (i + 1)) := by rw [List.drop_eq_getElem_cons hi]; simp only [sumB]
        have hpos : 1 ≤ sumB Term.bulk (t.kids.drop (i + 1)) := sumB_pos _
        have hlt := t.kid_lt (List.getElem_mem hi)
        simp only at hI1 hI2 hI3
        have step : ∀ d' : Int, Tot2 (fun n m => (term_nodes_1_1 n t.kids[i] d' K K m1 o1).bind fun x =>
              bif x.snd.fst then
                term_nodes_1_1_l1 (term_nodes_1_1 n) n m d below t.kids t.kids.length (IntKind.i64.wrap ((i : Int) + 1)) x.fst.snd.fst.fst.fst x.fst.snd.snd.fst.snd x.fst.snd.snd.snd.snd.snd.fst x.fst.snd.snd.snd.snd.snd.snd.fst
              else
                some (((), ((x.fst.snd.fst.fst.fst, ()), ()), ((), x.fst.snd.snd.fst.snd), (), (), x.fst.snd.snd.snd.snd.snd.fst, x.fst.snd.snd.snd.snd.snd.snd.fst, ()), false, ()))
            (fun r => ∃ met' out', r = nodesR K met' out' ∧ out'.length ≤ out.length + k ∧ Met met' out' ∧ ∀ s, out'.any (· == s) = (out0.any (· == s) || t.kids.any (occT s))) := by
          intro d'
          refine Tot2.bind1 (ih _ (by omega) _ rfl d' m1 o1 (by omega) hI2) fun x hx => ?_
          obtain ⟨m2, o2, rfl, h1, h2, h3⟩ := hx
          simp only [cond_true]
          rw [wrap_next (by simp only [cap] at hk; omega)]
          refine next (m2, o2) ⟨by simp only; omega, h2, fun s => ?_⟩
          rw [hI3 s, any_drop _ _ _ hi, h3 s, Bool.or_assoc]
        refine Tot2.lp (fun n m => by simp only [term_nodes_1_1_l1, term_nodes_1_1_b1]; exact rfl) ?_
        simp only [hi, Int.ofNat_lt, decide_true, cond_true, beq_self_eq_true]
        refine Tot2.idx hi ?_
        exact Tot2.cnd (fun _ => step _) (fun _ => step _)
      · rintro ⟨m1, o1⟩ ⟨hI1, hI2, hI3⟩
        refine Tot2.lp (fun n m => by simp only [term_nodes_1_1_l1, term_nodes_1_1_b1]; exact rfl) ?_
        simp only [Int.lt_irrefl, decide_false, cond_false]
        refine Tot2.pure ⟨m1, o1, rfl, by simp only at hI1; omega, hI2, fun s => ?_⟩
        rw [hI3 s, List.drop_length]
        simp
    refine Tot.fn (fun n => by simp only [term_nodes_1_1, term_nodes_1_1_e]; exact rfl) ?_
    refine Tot.bind (round_consts d t met out (by have := t.bulk_pos; omega) hm) fun x hx => ?_
    obtain ⟨m1, o1, rfl, h1, h2, h3⟩ := hx
    simp only [cond_true]
    have fin : ∀ below : Int, Tot (fun n => term_nodes_1_1_l1 (term_nodes_1_1 n) n n d below t.kids t.kids.length 0 K 0 m1 o1) (fun r => ∃ met' out', r = nodesR K met' out' ∧ out'.length ≤ out.length + k ∧ Met met' out' ∧ ∀ s, out'.any (· == s) = (out.any (· == s) || occT s t)) := by
      intro below
      refine (loop below m1 o1 h1 h2).imp fun r hr => ?_
      obtain ⟨m', o', e, a, b, c⟩ := hr
      exact ⟨m', o', e, a, b, fun s => by rw [c s, h3 s, occT_eq, Bool.or_assoc]⟩
    refine Tot.cnd (fun a => ?_) (fun _ => fin _)
    refine Tot.cnd (fun b => ?_) (fun _ => fin _)
    have a' := of_decide_eq_true a
    have b' := of_decide_eq_true b
    have hi : t.kind.toNat < (tupList 13 K).length := by rw [tupList_len]; omega
    simp only [a', b', and_self, decide_true, cond_true, List.getElem?_eq_getElem hi, Option.bind_some]
    exact fin _
theorem term_Consts_ev (t : Term) (h : t.bulk ≤ cap) : Tot (fun n => term_Consts n t) (fun r => r.length < lim ∧ ∀ s, r.any (· == s) = occT s t) := by
  refine Tot.fn (fun n => by simp only [term_Consts, term_Consts_e]; exact rfl) ?_
  have hn : Ev (fun n => term_nodes n t) t := by refine Ev.fn (fun n => by simp only [term_nodes, term_nodes_e]; exact rfl) ?_; exact Ev.pure
  refine Tot.bind (hn.tot (Q := (· = t)) rfl) fun x hx => ?_
  subst hx
  have hu : Tot (fun n => term_uses n) (fun _ => True) := by refine Tot.fn (fun n => by simp only [term_uses, term_uses_e]; exact rfl) ?_; exact Tot.pure trivial
  have h1 : Tot (fun n => term_nodes_1 n x [] []) (fun r => r.1.2.2.2.2.1.length < lim ∧ ∀ s, r.1.2.2.2.2.1.any (· == s) = occT s x) := by
    refine Tot.fn (fun n => by simp only [term_nodes_1, term_nodes_1_e]; exact rfl) ?_
    refine Tot.bind hu fun K _ => ?_
    refine Tot.bind (nodes_consts K x 0 [] [] (by simp only [List.length_nil]; omega) (fun s => rfl)) fun y hy => ?_
    obtain ⟨m, o, rfl, a, b, c⟩ := hy
    refine Tot.pure ⟨?_, fun s => by simp only [c s, List.any_nil, Bool.false_or]⟩
    show o.length < lim
    simp only [List.length_nil] at a
    unfold lim; simp only [cap] at h; omega
  refine Tot.bind h1 fun y hy => ?_
  exact Tot.pure hy
theorem occurs_law_ev (t : Term) (s : Str) (h : t.bulk ≤ cap) : Ev (fun n => law13_PositivityArrows_1 n t s) (occT s t) := by
  refine Tot.ev ?_
  refine Tot.fn (fun n => by simp only [law13_PositivityArrows_1, law13_PositivityArrows_1_e]; exact rfl) ?_
  refine Tot.bind (term_Consts_ev t h) fun x hx => ?_
  refine Tot.bind ((ref07_Has_ev x s hx.1).tot (Q := (· = occT s t)) (hx.2 s)) fun y hy => ?_
  exact Tot.pure hy
theorem Fine.pi {a b : Term} (ha : Fine a) (hb : Fine b) : Fine (Term.mk 6 0 [] [] [a, b]) :=
  .mk _ (fun _ => ⟨rfl, rfl, rfl, rfl⟩) (fun k hk => by
    simp only [Term.kids, List.mem_cons, List.mem_nil_iff, or_false] at hk
    rcases hk with rfl | rfl
    · exact ha
    · exact hb)
theorem const_positive : Ev (fun n => (law13_constant n [68]).bind fun x => (positivity_Positive n x [68]).bind fun x => some x) true := by
  have h1 : Ev (fun n => law13_constant n [68]) (Term.mk 3 0 [68] [] []) := by refine Ev.fn (fun n => by simp only [law13_constant, law13_constant_e]; exact rfl) ?_; exact Ev.pure
  refine Ev.bind h1 ?_
  have hf : Fine (Term.mk 3 0 [68] [] []) := .mk _ (by simp [Term.kind]) (by simp [Term.kids])
  have hb : (Term.mk 3 0 [68] [] []).bulk ≤ cap := by simp [Term.bulk_eq, Term.name, Term.levels, Term.kids, sumB, cap]
  have hp := positivity_Positive_ev [68] (Term.mk 3 0 [68] [] []) hb hf
  have hv : posT [68] (Term.mk 3 0 [68] [] []) = true := by
    rw [posT_not (by simp [Term.kind]), spineT_not (by simp [Term.kind])]
    simp [Term.kind, Term.name]
  rw [hv] at hp
  exact Ev.bind hp Ev.pure
theorem law13_PositivityArrows_plain (x0 x1 : Term) (x2 : Str) (hb : x0.bulk + (x1.bulk + (x2.length + 1)) ≤ 1048576) (hw : x0.wf) (hw1 : x1.wf) (hw2 : True) : ∃ n, law13_PositivityArrows n x0 x1 x2 = some true := by
  have hb0 : x0.bulk ≤ cap := by simp only [cap]; omega
  have hb1 : x1.bulk ≤ cap := by simp only [cap]; omega
  have h : Ev (fun n => law13_PositivityArrows n x0 x1 x2) true := by
    refine Tot.ev ?_
    refine Tot.fn (fun n => by simp only [law13_PositivityArrows, law13_PositivityArrows_e]; exact rfl) ?_
    refine Tot.bind (law05_Few_fine x0 8 (lim_of_cap hb0)) fun x hx => ?_
    refine Tot.cnd (fun h => ?_) (fun _ => Ev.tot (r := true) (Ev.bind law13_awake_ev Ev.pure) rfl)
    have hf0 := hx h
    refine Tot.bind (law05_Few_fine x1 9 (lim_of_cap hb1)) fun y hy => ?_
    refine Tot.cnd (fun h => ?_) (fun _ => Ev.tot (r := true) (Ev.bind law13_awake_ev Ev.pure) rfl)
    have hf1 := hy h
    refine Tot.cnd (fun _ => Ev.tot (r := true) (Ev.bind law13_awake_ev Ev.pure) rfl) (fun hlen => ?_)
    refine Ev.tot (r := true) ?_ rfl
    have hbt : (Term.mk 6 0 [] [] [x0, x1]).bulk ≤ cap := by
      rw [Term.bulk_eq]
      simp only [Term.name, Term.levels, Term.kids, sumB, List.length_nil, cap]
      omega
    have hA := occurs_law_ev x0 x2 hb0
    have hT := occurs_law_ev (Term.mk 6 0 [] [] [x0, x1]) x2 hbt
    have hpA := positivity_Positive_ev x2 x0 hb0 hf0
    have hpB := positivity_Positive_ev x2 x1 hb1 hf1
    have hpT := positivity_Positive_ev x2 _ hbt (hf0.pi hf1)
    have eT : occT x2 (Term.mk 6 0 [] [] [x0, x1]) = (occT x2 x0 || occT x2 x1) := occT_pi rfl rfl
    have eP : posT x2 (Term.mk 6 0 [] [] [x0, x1]) = (!(occT x2 x0 || occT x2 x1) || (!occT x2 x0 && posT x2 x1)) := by rw [posT_pi rfl rfl, eT]
    rw [eT] at hT
    rw [eP] at hpT
    have aw := law13_awake_ev
    have cp := const_positive
    refine Ev.bind hA ?_
    cases ha : occT x2 x0 with
    | true =>
      rw [ha] at hA hT hpT
      simp only [Bool.true_or, Bool.not_true, Bool.false_and, Bool.or_false, cond_true] at hA hT hpT ⊢
      refine Ev.bind hT ?_
      simp only [cond_true]
      refine Ev.bind hA ?_
      simp only [cond_true]
      refine Ev.bind aw ?_
      simp only [cond_true]
      refine Ev.bind hpT ?_
      simp only [cond_false]
      exact cp
    | false =>
      rw [ha] at hA hT hpT
      rw [posT_of_not ha] at hpA
      simp only [Bool.false_or, Bool.not_false, Bool.true_and, cond_false] at hA hT hpT ⊢
      refine Ev.bind hpA ?_
      simp only [cond_true]
      refine Ev.bind hT ?_
      cases hb2 : occT x2 x1 with
      | true =>
        rw [hb2] at hpT
        simp only [Bool.not_true, Bool.false_or, cond_true] at hpT ⊢
        refine Ev.bind hA ?_
        simp only [cond_false]
        refine Ev.bind hpB ?_
        refine Ev.bind aw ?_
        simp only [cond_true]
        refine Ev.bind hpT ?_
        simp only [beq_self_eq_true, cond_true]
        exact cp
      | false =>
        rw [hb2] at hpT
        simp only [Bool.not_false, Bool.true_or, cond_false] at hpT ⊢
        refine Ev.bind aw ?_
        simp only [cond_true]
        refine Ev.bind hpT ?_
        simp only [cond_true]
        exact cp
  obtain ⟨N, h⟩ := h
  exact ⟨N, h N (Nat.le_refl _)⟩
end Go.Abs
