/- A part of the proof: plain facts. -/
import Derived.Test.YtplbjppbollcjaaDoorCoreC
import Derived.Test.YtplbjppbollcjaaDoorReadA
set_option linter.all false
namespace Go.Abs
set_option linter.unusedVariables false
variable {R S T : Type}
def Ev (F : Nat → Option R) (r : R) : Prop := ∃ N, ∀ n, N ≤ n → F n = some r
def Ev2 (F : Nat → Nat → Option R) (r : R) : Prop := ∃ N, ∀ n m, N ≤ n → N ≤ m → F n m = some r
theorem Ev.fn {F G : Nat → Option R} {r : R} (h : ∀ n, F (n + 1) = G n) (hg : Ev G r) : Ev F r := by
  obtain ⟨N, hN⟩ := hg
  refine ⟨N + 1, fun n hn => ?_⟩
  obtain ⟨k, rfl⟩ : ∃ k, n = k + 1 := ⟨n - 1, by omega⟩
  rw [h]; exact hN k (by omega)
theorem Ev.of2 {F : Nat → Nat → Option R} {r : R} (h : Ev2 F r) : Ev (fun n => F n n) r := by
  obtain ⟨N, hN⟩ := h
  exact ⟨N, fun n hn => hN n n hn hn⟩
theorem Ev2.of1 {F : Nat → Option R} {r : R} (h : Ev F r) : Ev2 (fun n _ => F n) r := by
  obtain ⟨N, hN⟩ := h
  exact ⟨N, fun n m hn _ => hN n hn⟩
theorem Ev2.lp {F G : Nat → Nat → Option R} {r : R} (h : ∀ n m, F n (m + 1) = G n m) (hg : Ev2 G r) : Ev2 F r := by
  obtain ⟨N, hN⟩ := hg
  refine ⟨N + 1, fun n m hn hm => ?_⟩
  obtain ⟨k, rfl⟩ : ∃ k, m = k + 1 := ⟨m - 1, by omega⟩
  rw [h]; exact hN n k (by omega) (by omega)
theorem Ev.pure {r : R} : Ev (fun _ => some r) r := ⟨0, fun _ _ => rfl⟩
theorem Ev2.pure {r : R} : Ev2 (fun _ _ => some r) r := ⟨0, fun _ _ _ _ => rfl⟩
theorem Ev.bind {F : Nat → Option S} {G : Nat → S → Option R} {x : S} {r : R} (h : Ev F x) (hg : Ev (fun n => G n x) r) : Ev (fun n => (F n).bind (G n)) r := by
  obtain ⟨N, hN⟩ := h
  obtain ⟨M, hM⟩ := hg
  refine ⟨max N M, fun n hn => ?_⟩
  show (F n).bind (G n) = some r
  rw [hN n (by omega)]; exact hM n (by omega)
theorem Ev2.bind {F : Nat → Nat → Option S} {G : Nat → Nat → S → Option R} {x : S} {r : R} (h : Ev2 F x) (hg : Ev2 (fun n m => G n m x) r) : Ev2 (fun n m => (F n m).bind (G n m)) r := by
  obtain ⟨N, hN⟩ := h
  obtain ⟨M, hM⟩ := hg
  refine ⟨max N M, fun n m hn hm => ?_⟩
  show (F n m).bind (G n m) = some r
  rw [hN n m (by omega) (by omega)]; exact hM n m (by omega) (by omega)
theorem Ev2.bind1 {F : Nat → Option S} {G : Nat → Nat → S → Option R} {x : S} {r : R} (h : Ev F x) (hg : Ev2 (fun n m => G n m x) r) : Ev2 (fun n m => (F n).bind (G n m)) r :=
  Ev2.bind (F := fun n _ => F n) (Ev2.of1 h) hg
theorem Ev.congr {F G : Nat → Option R} {r : R} (hg : Ev G r) (h : ∀ n, F n = G n) : Ev F r := by
  rw [show F = G from funext h]; exact hg
theorem Ev2.congr {F G : Nat → Nat → Option R} {r : R} (hg : Ev2 G r) (h : ∀ n m, F n m = G n m) : Ev2 F r := by
  rw [show F = G from funext fun n => funext fun m => h n m]; exact hg
theorem Ev.uniq {F : Nat → Option R} {r s : R} (h : Ev F r) (k : Ev F s) : r = s := by
  obtain ⟨N, hN⟩ := h
  obtain ⟨M, hM⟩ := k
  have a := hN (max N M) (by omega)
  have b := hM (max N M) (by omega)
  rw [a] at b; exact Option.some.inj b
def Tot (F : Nat → Option R) (Q : R → Prop) : Prop := ∃ r, Q r ∧ Ev F r
def Tot2 (F : Nat → Nat → Option R) (Q : R → Prop) : Prop := ∃ r, Q r ∧ Ev2 F r
theorem Tot.fn {F G : Nat → Option R} {Q : R → Prop} (h : ∀ n, F (n + 1) = G n) (hg : Tot G Q) : Tot F Q := Exists.imp (fun _ k => ⟨k.1, Ev.fn h k.2⟩) hg
theorem Tot.of2 {F : Nat → Nat → Option R} {Q : R → Prop} (h : Tot2 F Q) : Tot (fun n => F n n) Q := Exists.imp (fun _ k => ⟨k.1, Ev.of2 k.2⟩) h
theorem Tot2.of1 {F : Nat → Option R} {Q : R → Prop} (h : Tot F Q) : Tot2 (fun n _ => F n) Q := Exists.imp (fun _ k => ⟨k.1, Ev2.of1 k.2⟩) h
theorem Tot2.lp {F G : Nat → Nat → Option R} {Q : R → Prop} (h : ∀ n m, F n (m + 1) = G n m) (hg : Tot2 G Q) : Tot2 F Q := Exists.imp (fun _ k => ⟨k.1, Ev2.lp h k.2⟩) hg
theorem Tot.pure {r : R} {Q : R → Prop} (h : Q r) : Tot (fun _ => some r) Q := ⟨r, h, Ev.pure⟩
theorem Tot2.pure {r : R} {Q : R → Prop} (h : Q r) : Tot2 (fun _ _ => some r) Q := ⟨r, h, Ev2.pure⟩
theorem Tot.bind {F : Nat → Option S} {G : Nat → S → Option R} {P : S → Prop} {Q : R → Prop} (h : Tot F P) (hg : ∀ x, P x → Tot (fun n => G n x) Q) : Tot (fun n => (F n).bind (G n)) Q := by
  obtain ⟨x, hx, hF⟩ := h
  obtain ⟨r, hr, hG⟩ := hg x hx
  exact ⟨r, hr, Ev.bind hF hG⟩
theorem Tot2.bind {F : Nat → Nat → Option S} {G : Nat → Nat → S → Option R} {P : S → Prop} {Q : R → Prop} (h : Tot2 F P) (hg : ∀ x, P x → Tot2 (fun n m => G n m x) Q) : Tot2 (fun n m => (F n m).bind (G n m)) Q := by
  obtain ⟨x, hx, hF⟩ := h
  obtain ⟨r, hr, hG⟩ := hg x hx
  exact ⟨r, hr, Ev2.bind hF hG⟩
theorem Tot2.bind1 {F : Nat → Option S} {G : Nat → Nat → S → Option R} {P : S → Prop} {Q : R → Prop} (h : Tot F P) (hg : ∀ x, P x → Tot2 (fun n m => G n m x) Q) : Tot2 (fun n m => (F n).bind (G n m)) Q :=
  Tot2.bind (F := fun n _ => F n) (Tot2.of1 h) hg
theorem Tot.idx {xs : List S} {i : Nat} {G : Nat → S → Option R} {Q : R → Prop} (hi : i < xs.length) (hg : Tot (fun n => G n xs[i]) Q) : Tot (fun n => (idxA xs (i : Int)).bind (G n)) Q := by
  have : idxA xs (i : Int) = some xs[i] := by simp [idxA, hi]
  simp only [this]; exact hg
theorem Tot2.idx {xs : List S} {i : Nat} {G : Nat → Nat → S → Option R} {Q : R → Prop} (hi : i < xs.length) (hg : Tot2 (fun n m => G n m xs[i]) Q) : Tot2 (fun n m => (idxA xs (i : Int)).bind (G n m)) Q := by
  have : idxA xs (i : Int) = some xs[i] := by simp [idxA, hi]
  simp only [this]; exact hg
theorem Tot.cnd {c : Bool} {A B : Nat → Option R} {Q : R → Prop} (h1 : c = true → Tot A Q) (h2 : c = false → Tot B Q) : Tot (fun n => bif c then A n else B n) Q := by
  cases c with
  | true => exact h1 rfl
  | false => exact h2 rfl
theorem Tot2.cnd {c : Bool} {A B : Nat → Nat → Option R} {Q : R → Prop} (h1 : c = true → Tot2 A Q) (h2 : c = false → Tot2 B Q) : Tot2 (fun n m => bif c then A n m else B n m) Q := by
  cases c with
  | true => exact h1 rfl
  | false => exact h2 rfl
theorem Tot.imp {F : Nat → Option R} {P Q : R → Prop} (h : Tot F P) (k : ∀ r, P r → Q r) : Tot F Q := Exists.imp (fun r x => ⟨k r x.1, x.2⟩) h
theorem Tot2.imp {F : Nat → Nat → Option R} {P Q : R → Prop} (h : Tot2 F P) (k : ∀ r, P r → Q r) : Tot2 F Q := Exists.imp (fun r x => ⟨k r x.1, x.2⟩) h
theorem Tot.ev {F : Nat → Option R} {r : R} (h : Tot F (· = r)) : Ev F r := by obtain ⟨s, rfl, h⟩ := h; exact h
theorem Ev.tot {F : Nat → Option R} {r : R} {Q : R → Prop} (h : Ev F r) (q : Q r) : Tot F Q := ⟨r, q, h⟩
theorem Ev2.tot {F : Nat → Nat → Option R} {r : R} {Q : R → Prop} (h : Ev2 F r) (q : Q r) : Tot2 F Q := ⟨r, q, h⟩
theorem Tot2.up {L : Nat → Nat → Int → S → Option R} (len : Nat) (I : Nat → S → Prop) (Q : R → Prop)
    (h1 : ∀ i s, i < len → I i s → (∀ s', I (i + 1) s' → Tot2 (fun n m => L n m ((i + 1 : Nat) : Int) s') Q) → Tot2 (fun n m => L n m (i : Int) s) Q)
    (h2 : ∀ s, I len s → Tot2 (fun n m => L n m (len : Int) s) Q) : ∀ (i : Nat) (s : S), i ≤ len → I i s → Tot2 (fun n m => L n m (i : Int) s) Q := by
  intro i s hi h
  obtain ⟨k, hk⟩ : ∃ k, k = len - i := ⟨_, rfl⟩
  induction k generalizing i s with
  | zero => obtain rfl : i = len := by omega
            exact h2 s h
  | succ k ih => exact h1 i s (by omega) h fun s' hs => ih (i + 1) s' (by omega) hs (by omega)
theorem wrap_small {n : Int} (h : -9223372036854775808 ≤ n) (h2 : n ≤ 9223372036854775807) : IntKind.i64.wrap n = n := by
  simp only [IntKind.wrap, IntKind.signed, IntKind.bits, Bool.true_and, decide_eq_true_eq]
  split <;> rename_i h3 <;> simp only [decide_eq_true_eq, ge_iff_le] at h3 <;> omega
theorem wrap_next {i : Nat} (h : i < 9223372036854775807) : IntKind.i64.wrap ((i : Int) + 1) = ((i + 1 : Nat) : Int) := by
  rw [wrap_small (by omega) (by omega)]; rfl
theorem idxA_at {xs : List S} {i : Nat} (hi : i < xs.length) : idxA xs (i : Int) = some xs[i] := by simp [idxA, hi]
theorem Ev2.idx {xs : List S} {i : Nat} {G : Nat → Nat → S → Option R} {r : R} (hi : i < xs.length) (hg : Ev2 (fun n m => G n m xs[i]) r) : Ev2 (fun n m => (idxA xs (i : Int)).bind (G n m)) r := by
  simp only [idxA_at hi]; exact hg
noncomputable def eqb {α : Type} (a b : α) : Bool := @decide (a = b) (Classical.propDecidable _)
theorem eqb_iff {α : Type} {a b : α} : eqb a b = true ↔ a = b := by
  unfold eqb; exact @decide_eq_true_iff _ (Classical.propDecidable _)
theorem eqb_self {α : Type} (a : α) : eqb a a = true := eqb_iff.2 rfl
theorem eqb_false {α : Type} {a b : α} (h : a ≠ b) : eqb a b = false := by
  cases hc : eqb a b with
  | false => rfl
  | true => exact absurd (eqb_iff.1 hc) h
theorem eqb_cons {α : Type} (x y : α) (xs ys : List α) : eqb (x :: xs) (y :: ys) = (eqb x y && eqb xs ys) := by
  rw [Bool.eq_iff_iff, Bool.and_eq_true, eqb_iff, eqb_iff, eqb_iff, List.cons.injEq]
theorem eqb_len {α : Type} {xs ys : List α} (h : xs.length ≠ ys.length) : eqb xs ys = false := eqb_false fun e => h (by rw [e])
theorem eqb_beq {α : Type} [BEq α] [LawfulBEq α] (x y : α) : eqb x y = (x == y) := by
  rw [Bool.eq_iff_iff, eqb_iff, beq_iff_eq]
theorem Ev2.andThen {F : Nat → Nat → Option Bool} {c r : Bool} (h : Ev2 F r) : Ev2 (fun n m => bif c then F n m else some false) (c && r) := by
  cases c with
  | true => exact h
  | false => exact Ev2.pure
theorem Ev.andThen {F : Nat → Option Bool} {c r : Bool} (h : Ev F r) : Ev (fun n => bif c then F n else some false) (c && r) := by
  cases c with
  | true => exact h
  | false => exact Ev.pure
theorem Ev2.same {α : Type} {L : Nat → Nat → Int → Option Bool} (xs ys : List α) (hl : xs.length = ys.length)
    (h1 : ∀ (i : Nat) (hi : i < xs.length) (hj : i < ys.length) (r : Bool), Ev2 (fun n m => L n m ((i + 1 : Nat) : Int)) r → Ev2 (fun n m => L n m (i : Int)) (eqb xs[i] ys[i] && r))
    (h2 : Ev2 (fun n m => L n m (xs.length : Int)) true) : Ev2 (fun n m => L n m 0) (eqb xs ys) := by
  have key : ∀ (k i : Nat), k + i = xs.length → Ev2 (fun n m => L n m (i : Int)) (eqb (xs.drop i) (ys.drop i)) := by
    intro k
    induction k with
    | zero =>
      intro i hi
      obtain rfl : i = xs.length := by omega
      rw [List.drop_length, hl, List.drop_length, eqb_self, ← hl]
      exact h2
    | succ k ih =>
      intro i hi
      have hi1 : i < xs.length := by omega
      have hi2 : i < ys.length := by omega
      rw [List.drop_eq_getElem_cons hi1, List.drop_eq_getElem_cons hi2, eqb_cons]
      exact h1 i hi1 hi2 _ (ih (i + 1) (by omega))
  have := key xs.length 0 (by omega)
  simpa using this
end Go.Abs
namespace Go.Abs
set_option linter.unusedVariables false
set_option linter.unusedSimpArgs false
abbrev cap : Nat := 1048640
abbrev lim : Nat := 9223372036854775807
def joinT (l : List Str) (name : Str) : Str := l.foldr (fun x a => x ++ 46 :: a) name
theorem joinT_cons (x : Str) (l : List Str) (name : Str) : joinT (x :: l) name = x ++ 46 :: joinT l name := rfl
theorem joinT_append (a b : List Str) (name : Str) : joinT (a ++ b) name = joinT a (joinT b name) := by simp [joinT]
theorem join_two (x y : Str) (r : List Str) (s : Str) : Lib.join (x :: y :: r) s = x ++ (s ++ Lib.join (y :: r) s) := by
  rw [Lib.join_cons, Lib.join_cons]
  simp [Lib.joinTail]
theorem join_snoc (name : Str) : ∀ l : List Str, Lib.join (l ++ [name]) [46] = joinT l name
  | [] => Lib.join_one _ _
  | [x] => by
    show Lib.join [x, name] [46] = _
    rw [join_two, Lib.join_one]; rfl
  | x :: y :: r => by
    have ih := join_snoc name (y :: r)
    show Lib.join (x :: y :: (r ++ [name])) [46] = _
    rw [join_two]
    rw [List.cons_append] at ih
    rw [ih]; rfl
def lenS : List Str → Nat
  | [] => 0
  | x :: l => x.length + 1 + lenS l
theorem joinT_len (name : Str) : ∀ l : List Str, (joinT l name).length = lenS l + name.length
  | [] => by simp [joinT, lenS]
  | x :: l => by rw [joinT_cons, List.length_append, List.length_cons, joinT_len name l, lenS]; omega
theorem lenS_take : ∀ (l : List Str) (k : Nat), lenS (l.take k) ≤ lenS l
  | [], k => by simp [lenS]
  | x :: l, 0 => by simp [lenS]
  | x :: l, k + 1 => by have := lenS_take l k; simp only [List.take_succ_cons, lenS]; omega
theorem lenS_le : ∀ (l : List Str), l.length ≤ lenS l
  | [] => by simp [lenS]
  | x :: l => by have := lenS_le l; simp only [List.length_cons, lenS]; omega
theorem lenS_mem : ∀ {l : List Str} {x : Str}, x ∈ l → x.length ≤ lenS l
  | y :: l, x, h => by
    simp only [List.mem_cons] at h
    simp only [lenS]
    rcases h with rfl | h
    · omega
    · have := lenS_mem h; omega
def spl : Str → List Str
  | [] => [[]]
  | c :: s => if c = 46 then [] :: spl s else match spl s with
    | [] => [[c]]
    | h :: t => (c :: h) :: t
theorem spl_ne : ∀ s : Str, spl s ≠ []
  | [] => by simp [spl]
  | c :: s => by
    simp only [spl]
    split
    · simp
    · split <;> simp
theorem spl_point (s : Str) : spl (46 :: s) = [] :: spl s := by simp [spl]
theorem spl_other {c : UInt8} (s : Str) (h : c ≠ 46) {x : Str} {t : List Str} (e : spl s = x :: t) : spl (c :: s) = (c :: x) :: t := by simp [spl, h, e]
theorem spl_none : ∀ {s : Str}, s.count 46 = 0 → spl s = [s]
  | [], _ => rfl
  | c :: s, h => by
    have hc : c ≠ 46 := by rintro rfl; simp at h
    rw [List.count_cons_of_ne hc] at h
    exact spl_other s hc (spl_none h)
theorem index_cons_ne {c : UInt8} (s : Str) (h : c ≠ 46) : Lib.index (c :: s) [46] = if Lib.index s [46] == -1 then -1 else Lib.index s [46] + 1 := by
  rw [Lib.index]
  simp [List.isPrefixOf, Ne.symm h]
theorem index_point (s : Str) : Lib.index (46 :: s) [46] = 0 := by
  rw [Lib.index]
  simp [List.isPrefixOf]
theorem index_count : ∀ {s : Str}, 0 < s.count 46 → ∃ i : Nat, Lib.index s [46] = i
  | [], h => by simp at h
  | c :: s, h => by
    by_cases hc : c = 46
    · subst hc; exact ⟨0, index_point s⟩
    · rw [List.count_cons_of_ne hc] at h
      obtain ⟨i, hi⟩ := index_count h
      refine ⟨i + 1, ?_⟩
      rw [index_cons_ne s hc, hi]
      have : ((i : Int) == -1) = false := by simp
      rw [this]; simp
theorem splitK_point : ∀ s : Str, Lib.splitK [46] 0 (s.count 46) s = spl s
  | [] => rfl
  | c :: s => by
    by_cases hc : c = 46
    · subst hc
      rw [List.count_cons_self, spl_point, Lib.splitK, index_point]
      simp [splitK_point s]
    · rw [List.count_cons_of_ne hc]
      cases hk : s.count 46 with
      | zero => rw [Lib.splitK, spl_other s hc (spl_none hk)]
      | succ k =>
        have ih := splitK_point s
        rw [hk] at ih
        obtain ⟨i, hi⟩ := index_count (s := s) (by omega)
        have e1 : ((i : Int) == -1) = false := by simp
        have e2 : (((i : Int) + 1) == -1) = false := by simp; omega
        rw [Lib.splitK, hi, e1] at ih
        rw [Lib.splitK, index_cons_ne s hc, hi, e1]
        simp only [Bool.false_eq_true, if_false, e2] at ih ⊢
        rw [spl_other s hc ih.symm]
        have e3 : ((i : Int) + 1).toNat = i + 1 := by omega
        simp [e3]
theorem splitP_point (s : Str) : splitP s [46] = spl s := by
  unfold splitP
  rw [Lib.splitB_data, sb_list, sb_list]
  have : Lib.countB (sb s) (sb [46]) = s.count 46 := by
    show Lib.count (sb s).data.toList (sb [46]).data.toList = _
    rw [sb_list, sb_list, Lib.count_one]
  rw [this, splitK_point]
def dotEnds : Str → List Str
  | [] => []
  | c :: s => if c = 46 then dotEnds s ++ [s] else dotEnds s
def pieceEnds (l : List Str) : List Str := ((List.range l.length).map fun i => Lib.join (l.drop i) [46]).reverse
theorem pieceEnds_cons (x : Str) (l : List Str) : pieceEnds (x :: l) = pieceEnds l ++ [Lib.join (x :: l) [46]] := by
  simp only [pieceEnds, List.length_cons, List.range_succ_eq_map, List.map_cons, List.map_map, List.reverse_cons, List.drop_zero]
  congr 1
theorem join_spl : ∀ s : Str, Lib.join (spl s) [46] = s
  | [] => rfl
  | c :: s => by
    have ih := join_spl s
    obtain ⟨x, t, e⟩ : ∃ x t, spl s = x :: t := by
      cases h : spl s with
      | nil => exact absurd h (spl_ne s)
      | cons x t => exact ⟨x, t, rfl⟩
    by_cases hc : c = 46
    · subst hc
      rw [spl_point, e, join_two, ← e, ih]; rfl
    · rw [spl_other s hc e]
      rw [e] at ih
      rw [Lib.join_cons] at ih ⊢
      rw [List.cons_append, ih]
theorem pieceEnds_spl : ∀ s : Str, pieceEnds (spl s) = dotEnds s ++ [s]
  | [] => rfl
  | c :: s => by
    have ih := pieceEnds_spl s
    have hj := join_spl (c :: s)
    obtain ⟨x, t, e⟩ : ∃ x t, spl s = x :: t := by
      cases h : spl s with
      | nil => exact absurd h (spl_ne s)
      | cons x t => exact ⟨x, t, rfl⟩
    by_cases hc : c = 46
    · subst hc
      rw [spl_point] at hj ⊢
      rw [pieceEnds_cons, ih, hj]
      simp [dotEnds]
    · rw [spl_other s hc e] at hj ⊢
      rw [e, pieceEnds_cons] at ih
      rw [pieceEnds_cons, hj]
      have : pieceEnds t = dotEnds s := List.append_inj_left' ih (by simp)
      rw [this]
      simp [dotEnds, hc]
-- names
def letB (c : UInt8) : Bool := (decide (97 ≤ (c.toNat : Int)) && decide ((c.toNat : Int) ≤ 122)) || ((decide (65 ≤ (c.toNat : Int)) && decide ((c.toNat : Int) ≤ 90)) || ((c.toNat : Int) == 95))
def nameGo : Bool → Str → Bool
  | b, [] => !b
  | b, c :: s => bif letB c then nameGo false s else bif b then false else bif ((c.toNat : Int) == 46) then nameGo true s else bif ((c.toNat : Int) == 39) || (decide (48 ≤ (c.toNat : Int)) && decide ((c.toNat : Int) ≤ 57)) then nameGo false s else false
def nameT (s : Str) : Bool := nameGo true s && decide ((s.length : Int) ≤ 64)
end Go.Abs
namespace Go.Abs
set_option linter.unusedVariables false
set_option linter.unusedSimpArgs false
theorem any_drop {α : Type} (p : α → Bool) (xs : List α) (i : Nat) (h : i < xs.length) : (xs.drop i).any p = (p xs[i] || (xs.drop (i + 1)).any p) := by
  rw [List.drop_eq_getElem_cons h, List.any_cons]
theorem beq_symm {α : Type} [BEq α] [LawfulBEq α] (a b : α) : (a == b) = (b == a) := by
  rw [Bool.eq_iff_iff, beq_iff_eq, beq_iff_eq]; exact eq_comm
theorem Has_ev (l : List Str) (s : Str) (hl : l.length ≤ cap * 4) : Ev (fun n => ref07_Has n l s) (l.any (· == s)) := by
  refine Tot.ev ?_
  refine Tot.fn (fun n => by simp only [ref07_Has, ref07_Has_e]; exact rfl) ?_
  refine Tot.of2 (F := fun n m => ref07_Has_l1 n m l s 0) ?_
  refine Tot2.up (S := Unit) (L := fun n m i _ => ref07_Has_l1 n m l s i) l.length (fun i _ => l.any (· == s) = (l.drop i).any (· == s)) _ ?_ ?_ 0 () (by omega) rfl
  · intro i u hi hI next
    refine Tot2.lp (fun n m => by simp only [ref07_Has_l1, ref07_Has_b1]; exact rfl) ?_
    simp only [hi, Int.ofNat_lt, decide_true, cond_true]
    refine Tot2.idx hi ?_
    rw [any_drop _ _ _ hi] at hI
    refine Tot2.cnd (fun hc => Tot2.pure ?_) fun hc => ?_
    · rw [hI, hc, Bool.true_or]
    · rw [wrap_next (by simp only [cap] at hl; omega)]
      exact next u (by rw [hI, hc, Bool.false_or])
  · intro u hI
    refine Tot2.lp (fun n m => by simp only [ref07_Has_l1, ref07_Has_b1]; exact rfl) ?_
    simp only [Int.lt_irrefl, decide_false, cond_false]
    refine Tot2.pure ?_
    rw [hI, List.drop_length]; rfl
theorem Contains_ev (l : List Str) (s : Str) (hl : l.length ≤ cap * 4) : Ev (fun n => slices_Contains_string n l s) (l.any (· == s)) := by
  refine Tot.ev ?_
  refine Tot.fn (fun n => by simp only [slices_Contains_string, slices_Contains_string_e]; exact rfl) ?_
  have h1 : Tot (fun n => slices_Index_string n l s) (fun r => decide (0 ≤ r) = l.any (· == s)) := by
    refine Tot.fn (fun n => by simp only [slices_Index_string, slices_Index_string_e]; exact rfl) ?_
    refine Tot.of2 (F := fun n m => slices_Index_string_l1 n m l s l.length 0) ?_
    refine Tot2.up (S := Unit) (L := fun n m i _ => slices_Index_string_l1 n m l s l.length i) l.length (fun i _ => l.any (· == s) = (l.drop i).any (· == s)) _ ?_ ?_ 0 () (by omega) rfl
    · intro i u hi hI next
      refine Tot2.lp (fun n m => by simp only [slices_Index_string_l1, slices_Index_string_b1]; exact rfl) ?_
      simp only [hi, Int.ofNat_lt, decide_true, cond_true]
      refine Tot2.idx hi ?_
      rw [any_drop _ _ _ hi, beq_symm] at hI
      refine Tot2.cnd (fun hc => Tot2.pure ?_) fun hc => ?_
      · rw [hI, hc, Bool.true_or]; simp
      · rw [wrap_next (by simp only [cap] at hl; omega)]
        exact next u (by rw [hI, hc, Bool.false_or])
    · intro u hI
      refine Tot2.lp (fun n m => by simp only [slices_Index_string_l1, slices_Index_string_b1]; exact rfl) ?_
      simp only [Int.lt_irrefl, decide_false, cond_false]
      refine Tot2.pure ?_
      rw [hI, List.drop_length]; rfl
  exact Tot.bind h1 fun x hx => Tot.pure hx
def recN : Str := [46, 114, 101, 99]
def namesT (d : Decl) : List Str :=
  bif d.kind == 0 then [d.name] else bif d.kind == 1 then [d.name] else bif d.kind == 2 then [d.name] else
  bif d.kind == 3 then d.name :: d.ctors.map (·.name) ++ [d.name ++ recN] else bif d.kind == 4 then d.funs.map (·.name) else []
structure DOK (d : Decl) : Prop where
  ctors : d.ctors.length ≤ cap
  funs : d.funs.length ≤ cap
  name : d.name.length ≤ cap
theorem room16 {k : Nat} (h : k ≤ cap * 4) : decide ((k + 1) * 16 ≤ 17592186044416) = true := by
  simp only [cap] at h; simp only [decide_eq_true_eq]; omega
theorem namesT_len {d : Decl} (h : DOK d) : (namesT d).length ≤ cap + 2 := by
  obtain ⟨h1, h2, _⟩ := h
  unfold namesT
  cases d.kind == 0 <;> cases d.kind == 1 <;> cases d.kind == 2 <;> cases d.kind == 3 <;> cases d.kind == 4 <;> simp [cap] <;> simp only [cap] at h1 h2 <;> omega
theorem map_take_succ {α β : Type} (f : α → β) (l : List α) (i : Nat) (h : i < l.length) : (l.take (i + 1)).map f = (l.take i).map f ++ [f l[i]] := by
  rw [List.take_succ_eq_append_getElem h, List.map_append]; rfl
theorem sig_Names_ev (d : Decl) (h : DOK d) : Ev (fun n => signature_Names n d) (namesT d) := by
  obtain ⟨h1, h2, h3⟩ := h
  refine Ev.fn (fun n => by simp only [signature_Names, signature_Names_e]; exact rfl) ?_
  unfold namesT
  cases d.kind == 0 with
  | true => exact Ev.pure
  | false =>
  cases d.kind == 1 with
  | true => exact Ev.pure
  | false =>
  cases d.kind == 2 with
  | true => exact Ev.pure
  | false =>
  cases d.kind == 3 with
  | true =>
    simp only [cond_true, cond_false]
    refine Tot.ev (Tot.of2 (F := fun n m => signature_Names_l1 n m d.ctors d.ctors.length 0 d [d.name]) ?_)
    refine Tot2.up (S := List Str) (L := fun n m i s => signature_Names_l1 n m d.ctors d.ctors.length i d s) d.ctors.length (fun i s => s = d.name :: (d.ctors.take i).map (·.name)) _ ?_ ?_ 0 _ (by omega) rfl
    · intro i s hi hs next
      refine Tot2.lp (fun n m => by simp only [signature_Names_l1, signature_Names_b1]; exact rfl) ?_
      have hl : s.length ≤ cap * 4 := by rw [hs]; simp only [List.length_cons, List.length_map, List.length_take, cap] at *; omega
      simp only [hi, Int.ofNat_lt, decide_true, cond_true, room16 hl]
      refine Tot2.idx hi ?_
      rw [wrap_next (by simp only [cap] at h1; omega)]
      exact next _ (by rw [hs, map_take_succ _ _ _ hi]; rfl)
    · intro s hs
      refine Tot2.lp (fun n m => by simp only [signature_Names_l1, signature_Names_b1]; exact rfl) ?_
      have hl : s.length ≤ cap * 4 := by rw [hs]; simp only [List.length_cons, List.length_map, List.length_take, cap] at *; omega
      have hn : decide (d.name.length ≤ 9223372036854775803) = true := by simp only [cap] at h3; simp only [decide_eq_true_eq]; omega
      simp only [Int.lt_irrefl, decide_false, cond_false, hn, cond_true, room16 hl]
      exact Tot2.pure (by rw [hs, List.take_length]; rfl)
  | false =>
  cases d.kind == 4 with
  | true =>
    simp only [cond_true, cond_false]
    refine Tot.ev (Tot.of2 (F := fun n m => signature_Names_l2 n m d.funs d.funs.length 0 []) ?_)
    refine Tot2.up (S := List Str) (L := fun n m i s => signature_Names_l2 n m d.funs d.funs.length i s) d.funs.length (fun i s => s = (d.funs.take i).map (·.name)) _ ?_ ?_ 0 _ (by omega) rfl
    · intro i s hi hs next
      refine Tot2.lp (fun n m => by simp only [signature_Names_l2, signature_Names_b2]; exact rfl) ?_
      have hl : s.length ≤ cap * 4 := by rw [hs]; simp only [List.length_cons, List.length_map, List.length_take, cap] at *; omega
      simp only [hi, Int.ofNat_lt, decide_true, cond_true, room16 hl]
      refine Tot2.idx hi ?_
      rw [wrap_next (by simp only [cap] at h2; omega)]
      exact next _ (by rw [hs, map_take_succ _ _ _ hi])
    · intro s hs
      refine Tot2.lp (fun n m => by simp only [signature_Names_l2, signature_Names_b2]; exact rfl) ?_
      simp only [Int.lt_irrefl, decide_false, cond_false]
      exact Tot2.pure (by rw [hs, List.take_length])
  | false => exact Ev.pure
theorem ref_Names_ev (d : Decl) (h : DOK d) : Ev (fun n => ref07_Names n d) (namesT d) := by
  obtain ⟨h1, h2, h3⟩ := h
  have hn : decide (d.name.length ≤ 9223372036854775803) = true := by simp only [cap] at h3; simp only [decide_eq_true_eq]; omega
  refine Ev.fn (fun n => by simp only [ref07_Names, ref07_Names_e]; exact rfl) ?_
  unfold namesT
  cases d.kind == 0 with
  | true => exact Ev.pure
  | false =>
  cases d.kind == 1 with
  | true => exact Ev.pure
  | false =>
  cases d.kind == 2 with
  | true => exact Ev.pure
  | false =>
  cases d.kind == 3 with
  | true =>
    simp only [cond_true, cond_false]
    have loop : ∀ (i : Nat) (s : List Str), i ≤ d.ctors.length → s = d.name :: (d.ctors.take i).map (·.name) → Tot2 (fun n m => ref07_Names_l1 n m i d s) (· = d.name :: d.ctors.map (·.name) ++ [d.name ++ recN]) := by
      refine Tot2.up (S := List Str) (L := fun n m i s => ref07_Names_l1 n m i d s) d.ctors.length (fun i s => s = d.name :: (d.ctors.take i).map (·.name)) _ ?_ ?_
      · intro i s hi hs next
        refine Tot2.lp (fun n m => by simp only [ref07_Names_l1, ref07_Names_b1]; exact rfl) ?_
        have hl : s.length ≤ cap * 4 := by rw [hs]; simp only [List.length_cons, List.length_map, List.length_take, cap] at *; omega
        simp only [hi, Int.ofNat_lt, decide_true, cond_true, room16 hl]
        refine Tot2.idx hi ?_
        rw [wrap_next (by simp only [cap] at h1; omega)]
        exact next _ (by rw [hs, map_take_succ _ _ _ hi]; rfl)
      · intro s hs
        refine Tot2.lp (fun n m => by simp only [ref07_Names_l1, ref07_Names_b1]; exact rfl) ?_
        have hl : s.length ≤ cap * 4 := by rw [hs]; simp only [List.length_cons, List.length_map, List.length_take, cap] at *; omega
        simp only [Int.lt_irrefl, decide_false, cond_false, hn, cond_true, room16 hl]
        exact Tot2.pure (by rw [hs, List.take_length]; rfl)
    refine Tot.ev (Tot.of2 (F := fun n m => ref07_Names_p1 n m [d.name] 0 d) ?_)
    refine Tot2.lp (fun n m => by simp only [ref07_Names_p1, ref07_Names_b1p]; exact rfl) ?_
    have hl : [d.name].length ≤ cap * 4 := by simp [cap]
    refine Tot2.cnd (fun hc => ?_) fun hc => ?_
    · have hi : 0 < d.ctors.length := by have := of_decide_eq_true hc; omega
      refine Tot2.idx (i := 0) hi ?_
      simp only [room16 hl, cond_true]
      have e : IntKind.i64.wrap (0 + 1) = ((1 : Nat) : Int) := rfl
      rw [e]
      refine loop 1 _ hi ?_
      rw [map_take_succ _ _ _ hi]; rfl
    · have hz : d.ctors = [] := by
        have := of_decide_eq_false hc
        exact List.eq_nil_of_length_eq_zero (by omega)
      simp only [hn, cond_true, room16 hl]
      exact Tot2.pure (by rw [hz]; rfl)
  | false =>
  cases d.kind == 4 with
  | true =>
    simp only [cond_true, cond_false]
    refine Tot.ev (Tot.of2 (F := fun n m => ref07_Names_l2 n m 0 d []) ?_)
    refine Tot2.up (S := List Str) (L := fun n m i s => ref07_Names_l2 n m i d s) d.funs.length (fun i s => s = (d.funs.take i).map (·.name)) _ ?_ ?_ 0 _ (by omega) rfl
    · intro i s hi hs next
      refine Tot2.lp (fun n m => by simp only [ref07_Names_l2, ref07_Names_b2]; exact rfl) ?_
      have hl : s.length ≤ cap * 4 := by rw [hs]; simp only [List.length_cons, List.length_map, List.length_take, cap] at *; omega
      simp only [hi, Int.ofNat_lt, decide_true, cond_true, room16 hl]
      refine Tot2.idx hi ?_
      rw [wrap_next (by simp only [cap] at h2; omega)]
      exact next _ (by rw [hs, map_take_succ _ _ _ hi])
    · intro s hs
      refine Tot2.lp (fun n m => by simp only [ref07_Names_l2, ref07_Names_b2]; exact rfl) ?_
      simp only [Int.lt_irrefl, decide_false, cond_false]
      exact Tot2.pure (by rw [hs, List.take_length])
  | false => exact Ev.pure
structure SOK (st : State) : Prop where
  env : ∀ d ∈ st.env, DOK d
  envl : st.env.length ≤ cap
  ns : lenS st.nspace ≤ cap
  op : st.opens.length ≤ cap
  ops : ∀ o ∈ st.opens, o.length ≤ cap
def declT (env : List Decl) (s : Str) : Bool := env.any fun d => (namesT d).any (· == s)
theorem ref_Declared_ev (st : State) (h : SOK st) (s : Str) : Ev (fun n => ref27_Declared n st s) (declT st.env s) := by
  have hl := h.envl
  refine Tot.ev ?_
  refine Tot.fn (fun n => by simp only [ref27_Declared, ref27_Declared_e]; exact rfl) ?_
  refine Tot.of2 (F := fun n m => ref27_Declared_l1 n m s 0 st) ?_
  refine Tot2.up (S := Unit) (L := fun n m i _ => ref27_Declared_l1 n m s i st) st.env.length (fun i _ => declT st.env s = declT (st.env.drop i) s) _ ?_ ?_ 0 () (by omega) rfl
  · intro i u hi hI next
    refine Tot2.lp (fun n m => by simp only [ref27_Declared_l1, ref27_Declared_b1]; exact rfl) ?_
    simp only [hi, Int.ofNat_lt, decide_true, cond_true]
    refine Tot2.idx hi ?_
    have hd := h.env _ (List.getElem_mem hi)
    unfold declT at hI
    rw [any_drop _ _ _ hi] at hI
    refine Tot2.bind1 ((ref_Names_ev _ hd).tot (Q := (· = namesT st.env[i])) rfl) fun x hx => ?_
    subst hx
    refine Tot2.bind1 ((Has_ev _ s (by have := namesT_len hd; simp only [cap] at *; omega)).tot (Q := (· = (namesT st.env[i]).any (· == s))) rfl) fun x hx => ?_
    subst hx
    refine Tot2.cnd (fun hc => Tot2.pure ?_) fun hc => ?_
    · unfold declT; rw [hI, hc, Bool.true_or]
    · rw [wrap_next (by simp only [cap] at hl; omega)]
      exact next u (by unfold declT; rw [hI, hc, Bool.false_or])
  · intro u hI
    refine Tot2.lp (fun n m => by simp only [ref27_Declared_l1, ref27_Declared_b1]; exact rfl) ?_
    simp only [Int.lt_irrefl, decide_false, cond_false]
    refine Tot2.pure ?_
    rw [hI, List.drop_length]; rfl
theorem Declared_ev (st : State) (h : SOK st) (s : Str) : Ev (fun n => scope_Declared n st s) (declT st.env s) := by
  have hl := h.envl
  refine Tot.ev ?_
  refine Tot.fn (fun n => by simp only [scope_Declared, scope_Declared_e]; exact rfl) ?_
  have h1 : Tot (fun n => slices_ContainsFunc_Decl_scope_Declared_1 n st.env s) (fun r => r.2.1 = declT st.env s) := by
    refine Tot.fn (fun n => by simp only [slices_ContainsFunc_Decl_scope_Declared_1, slices_ContainsFunc_Decl_scope_Declared_1_e]; exact rfl) ?_
    have h2 : Tot (fun n => slices_IndexFunc_Decl_scope_Declared_1 n st.env s) (fun r => decide (0 ≤ r.2.1) = declT st.env s) := by
      refine Tot.fn (fun n => by simp only [slices_IndexFunc_Decl_scope_Declared_1, slices_IndexFunc_Decl_scope_Declared_1_e]; exact rfl) ?_
      refine Tot.of2 (F := fun n m => slices_IndexFunc_Decl_scope_Declared_1_l1 n m st.env st.env.length 0 s) ?_
      refine Tot2.up (S := Unit) (L := fun n m i _ => slices_IndexFunc_Decl_scope_Declared_1_l1 n m st.env st.env.length i s) st.env.length (fun i _ => declT st.env s = declT (st.env.drop i) s) _ ?_ ?_ 0 () (by omega) rfl
      · intro i u hi hI next
        refine Tot2.lp (fun n m => by simp only [slices_IndexFunc_Decl_scope_Declared_1_l1, slices_IndexFunc_Decl_scope_Declared_1_b1]; exact rfl) ?_
        simp only [hi, Int.ofNat_lt, decide_true, cond_true]
        refine Tot2.idx hi ?_
        have hd := h.env _ (List.getElem_mem hi)
        unfold declT at hI
        rw [any_drop _ _ _ hi] at hI
        have h3 : Ev (fun n => scope_Declared_1 n st.env[i] s) ((s, ()), (namesT st.env[i]).any (· == s), ()) := by
          refine Ev.fn (fun n => by simp only [scope_Declared_1, scope_Declared_1_e]; exact rfl) ?_
          exact Ev.bind (sig_Names_ev _ hd) (Ev.bind (Contains_ev _ s (by have := namesT_len hd; simp only [cap] at *; omega)) Ev.pure)
        refine Tot2.bind1 (h3.tot (Q := (· = ((s, ()), (namesT st.env[i]).any (· == s), ()))) rfl) fun x hx => ?_
        subst hx
        refine Tot2.cnd (fun hc => Tot2.pure ?_) fun hc => ?_
        · simp only at hc
          unfold declT; rw [hI, hc, Bool.true_or]; simp
        · simp only at hc
          rw [wrap_next (by simp only [cap] at hl; omega)]
          exact next u (by unfold declT; rw [hI, hc, Bool.false_or])
      · intro u hI
        refine Tot2.lp (fun n m => by simp only [slices_IndexFunc_Decl_scope_Declared_1_l1, slices_IndexFunc_Decl_scope_Declared_1_b1]; exact rfl) ?_
        simp only [Int.lt_irrefl, decide_false, cond_false]
        refine Tot2.pure ?_
        rw [hI, List.drop_length]; rfl
    exact Tot.bind h2 fun x hx => Tot.pure hx
  exact Tot.bind h1 fun x hx => Tot.pure hx
end Go.Abs
namespace Go.Abs
set_option linter.unusedVariables false
set_option linter.unusedSimpArgs false
theorem letter_ev (c : UInt8) : Ev (fun n => term_letter n (c.toNat : Int)) (letB c) ∧ Ev (fun n => ref03_letter n (c.toNat : Int)) (letB c) := by
  unfold letB
  constructor
  · refine Ev.fn (fun n => by simp only [term_letter, term_letter_e]; exact rfl) ?_
    cases decide (97 ≤ (c.toNat : Int)) <;> cases decide ((c.toNat : Int) ≤ 122) <;> cases decide (65 ≤ (c.toNat : Int)) <;> cases decide ((c.toNat : Int) ≤ 90) <;> simp only [cond_true, cond_false, Bool.true_and, Bool.false_and, Bool.true_or, Bool.false_or] <;> exact Ev.pure
  · refine Ev.fn (fun n => by simp only [ref03_letter, ref03_letter_e]; exact rfl) ?_
    cases decide (97 ≤ (c.toNat : Int)) <;> cases decide ((c.toNat : Int) ≤ 122) <;> cases decide (65 ≤ (c.toNat : Int)) <;> cases decide ((c.toNat : Int) ≤ 90) <;> simp only [cond_true, cond_false, Bool.true_and, Bool.false_and, Bool.true_or, Bool.false_or] <;> exact Ev.pure
theorem Name_ev (s : Str) (hl : s.length ≤ cap * 4) : Ev (fun n => term_Name n s) (nameT s) := by
  refine Tot.ev ?_
  refine Tot.fn (fun n => by simp only [term_Name, term_Name_e]; exact rfl) ?_
  refine Tot.of2 (F := fun n m => term_Name_l1 n m s true s.length 0) ?_
  refine Tot2.up (S := Bool) (L := fun n m i b => term_Name_l1 n m s b s.length i) s.length (fun i b => nameGo true s = nameGo b (s.drop i)) _ ?_ ?_ 0 true (by omega) rfl
  · intro i b hi hI next
    refine Tot2.lp (fun n m => by simp only [term_Name_l1, term_Name_b1]; exact rfl) ?_
    simp only [hi, Int.ofNat_lt, decide_true, cond_true]
    refine Tot2.idx hi ?_
    rw [List.drop_eq_getElem_cons hi, nameGo] at hI
    rw [wrap_next (by simp only [cap] at hl; omega)]
    refine Tot2.bind1 ((letter_ev s[i]).1.tot (Q := (· = letB s[i])) rfl) fun x hx => ?_
    subst hx
    cases h1 : letB s[i] with
    | true =>
      rw [h1, cond_true] at hI
      simp only [cond_true]
      exact next _ hI
    | false =>
      rw [h1, cond_false] at hI
      cases b with
      | true => exact Tot2.pure (by simp only [cond_true] at hI; unfold nameT; rw [hI]; rfl)
      | false =>
        simp only [cond_false] at hI ⊢
        cases h2 : ((s[i].toNat : Int) == 46) with
        | true =>
          rw [h2, cond_true] at hI
          simp only [cond_true]
          exact next _ hI
        | false =>
          rw [h2, cond_false] at hI
          simp only [cond_false]
          cases h3 : ((s[i].toNat : Int) == 39) with
          | true =>
            rw [h3, Bool.true_or, cond_true] at hI
            have e : ((s[i].toNat : Int) != 39) = false := by rw [bne, h3]; rfl
            simp only [e, cond_false]
            refine Tot2.cnd (fun _ => next _ hI) fun _ => Tot2.cnd (fun _ => next _ hI) fun _ => next _ hI
          | false =>
            rw [h3, Bool.false_or] at hI
            have e : ((s[i].toNat : Int) != 39) = true := by rw [bne, h3]; rfl
            simp only [e, cond_true]
            refine Tot2.cnd (fun h4 => Tot2.pure ?_) fun h4 => Tot2.cnd (fun h5 => Tot2.pure ?_) fun h5 => next _ ?_
            · have : decide (48 ≤ (s[i].toNat : Int)) = false := decide_eq_false (by have := of_decide_eq_true h4; omega)
              rw [this] at hI
              unfold nameT; rw [hI]; rfl
            · have : decide ((s[i].toNat : Int) ≤ 57) = false := decide_eq_false (by have := of_decide_eq_true h5; omega)
              rw [this, Bool.and_false] at hI
              unfold nameT; rw [hI]; rfl
            · have a1 : decide (48 ≤ (s[i].toNat : Int)) = true := decide_eq_true (by have := of_decide_eq_false h4; omega)
              have a2 : decide ((s[i].toNat : Int) ≤ 57) = true := decide_eq_true (by have := of_decide_eq_false h5; omega)
              rw [a1, a2] at hI
              exact hI
  · intro b hI
    refine Tot2.lp (fun n m => by simp only [term_Name_l1, term_Name_b1]; exact rfl) ?_
    simp only [Int.lt_irrefl, decide_false, cond_false]
    rw [List.drop_length, nameGo] at hI
    cases b with
    | true => exact Tot2.pure (by unfold nameT; rw [hI]; rfl)
    | false => exact Tot2.pure (by unfold nameT; rw [hI]; simp)
theorem ref_Name_ev (s : Str) (hl : s.length ≤ cap * 4) : Ev (fun n => ref03_Name n s) (nameT s) := by
  refine Tot.ev ?_
  refine Tot.fn (fun n => by simp only [ref03_Name, ref03_Name_e]; exact rfl) ?_
  refine Tot.cnd (fun h => Tot.pure ?_) fun _ => ?_
  · have := beq_iff_eq.1 h
    subst this; rfl
  refine Tot.cnd (fun h => Tot.pure ?_) fun h64 => ?_
  · have : decide ((s.length : Int) ≤ 64) = false := decide_eq_false (by have := of_decide_eq_true h; omega)
    unfold nameT; rw [this, Bool.and_false]
  have h64' : decide ((s.length : Int) ≤ 64) = true := decide_eq_true (by have := of_decide_eq_false h64; omega)
  have hT : nameT s = nameGo true s := by unfold nameT; rw [h64', Bool.and_true]
  rw [hT]
  refine Tot.of2 (F := fun n m => ref03_Name_l1 n m s true 0) ?_
  refine Tot2.up (S := Bool) (L := fun n m i b => ref03_Name_l1 n m s b i) s.length (fun i b => nameGo true s = nameGo b (s.drop i)) _ ?_ ?_ 0 true (by omega) rfl
  · intro i b hi hI next
    refine Tot2.lp (fun n m => by simp only [ref03_Name_l1, ref03_Name_b1]; exact rfl) ?_
    simp only [hi, Int.ofNat_lt, decide_true, cond_true]
    refine Tot2.idx hi ?_
    rw [List.drop_eq_getElem_cons hi, nameGo] at hI
    rw [wrap_next (by simp only [cap] at hl; omega)]
    have hlet := (letter_ev s[i]).2
    cases b with
    | true =>
      simp only [cond_true] at hI ⊢
      refine Tot2.bind1 (hlet.tot (Q := (· = letB s[i])) rfl) fun x hx => ?_
      subst hx
      cases h1 : letB s[i] with
      | true => rw [h1, cond_true] at hI; exact next _ hI
      | false => rw [h1, cond_false] at hI; exact Tot2.pure hI.symm
    | false =>
      simp only [cond_false] at hI ⊢
      cases h2 : ((s[i].toNat : Int) == 46) with
      | true =>
        have hz : letB s[i] = false := by
          have e := beq_iff_eq.1 h2
          unfold letB
          rw [e]; rfl
        rw [hz, cond_false, h2, cond_true] at hI
        simp only [cond_true]
        exact next _ hI
      | false =>
        simp only [cond_false]
        refine Tot2.bind1 (hlet.tot (Q := (· = letB s[i])) rfl) fun x hx => ?_
        subst hx
        cases h1 : letB s[i] with
        | true => rw [h1, cond_true] at hI; simp only [cond_true]; exact next _ hI
        | false =>
          rw [h1, cond_false, h2, cond_false] at hI
          simp only [cond_false]
          cases h3 : ((s[i].toNat : Int) == 39) with
          | true =>
            rw [h3, Bool.true_or, cond_true] at hI
            have e : ((s[i].toNat : Int) != 39) = false := by rw [bne, h3]; rfl
            simp only [e, cond_false]
            exact next _ hI
          | false =>
            rw [h3, Bool.false_or] at hI
            have e : ((s[i].toNat : Int) != 39) = true := by rw [bne, h3]; rfl
            simp only [e, cond_true]
            refine Tot2.cnd (fun h4 => Tot2.pure ?_) fun h4 => Tot2.cnd (fun h5 => Tot2.pure ?_) fun h5 => next _ ?_
            · have : decide (48 ≤ (s[i].toNat : Int)) = false := decide_eq_false (by have := of_decide_eq_true h4; omega)
              rw [this] at hI
              exact hI.symm
            · have : decide ((s[i].toNat : Int) ≤ 57) = false := decide_eq_false (by have := of_decide_eq_true h5; omega)
              rw [this, Bool.and_false] at hI
              exact hI.symm
            · have a1 : decide (48 ≤ (s[i].toNat : Int)) = true := decide_eq_true (by have := of_decide_eq_false h4; omega)
              have a2 : decide ((s[i].toNat : Int) ≤ 57) = true := decide_eq_true (by have := of_decide_eq_false h5; omega)
              rw [a1, a2] at hI
              exact hI
  · intro b hI
    refine Tot2.lp (fun n m => by simp only [ref03_Name_l1, ref03_Name_b1]; exact rfl) ?_
    simp only [Int.lt_irrefl, decide_false, cond_false]
    rw [List.drop_length, nameGo] at hI
    exact Tot2.pure hI.symm
theorem Join_ev (l : List Str) (sep : Str) (h : (Lib.join l sep).length ≤ 140737488355328) (hl : l.length ≤ 140737488355328) : Ev (fun n => strings_Join n l sep) (Lib.join l sep) := by
  refine Ev.fn (G := fun _ => some (Lib.join l sep)) (fun n => ?_) Ev.pure
  simp only [strings_Join, decide_eq_true h, decide_eq_true hl, Bool.and_self, cond_true]
theorem Split_ev (s : Str) (h : s.length ≤ cap * 4) : Ev (fun n => strings_Split n s [46]) (spl s) := by
  refine Ev.fn (G := fun _ => some (spl s)) (fun n => ?_) Ev.pure
  have h1 : s.length < 4294967281 := by simp only [cap] at h; omega
  simp only [strings_Split, decide_eq_true h1, splitP_point]
  rfl
theorem Clone_ev (l : List Str) (h : l.length ≤ cap * 4) : Ev (fun n => slices_Clone_string_h n l) ((l, ()), ()) ∧ Ev (fun n => slices_Clone_string_2_h n l) ((l, ()), ()) := by
  have h1 : l.length * 16 ≤ 140737488355328 := by simp only [cap] at h; omega
  constructor
  · refine Ev.fn (G := fun _ => some ((l, ()), ())) (fun n => ?_) Ev.pure
    simp only [slices_Clone_string_h, decide_eq_true h1, cond_true]
  · refine Ev.fn (G := fun _ => some ((l, ()), ())) (fun n => ?_) Ev.pure
    simp only [slices_Clone_string_2_h, decide_eq_true h1, cond_true]
theorem joined_ev (l : List Str) (name : Str) (h : lenS l ≤ cap * 2) (hn : name.length ≤ cap * 2) : Ev (fun n => scope_path_joined n l name) (joinT l name) := by
  have hll := lenS_le l
  refine Ev.fn (fun n => by simp only [scope_path_joined, scope_path_joined_e]; exact rfl) ?_
  refine Ev.bind (Clone_ev l (by omega)).1 ?_
  simp only [room16 (k := l.length) (by omega), cond_true]
  have hj := joinT_len name l
  refine Ev.bind (x := joinT l name) ?_ Ev.pure
  have := Join_ev (l ++ [name]) [46] (by rw [join_snoc, hj]; simp only [cap] at h hn; omega) (by rw [List.length_append]; simp only [cap, List.length_singleton] at *; omega)
  rwa [join_snoc] at this
theorem ref_join_ev (l : List Str) (k : Nat) (hk : k ≤ l.length) (name : Str) (h : lenS l ≤ cap * 2) (hn : name.length ≤ cap * 2) : Ev (fun n => ref27_join n l k name) (joinT (l.take k) name) := by
  have hll := lenS_le l
  have flat : ∀ (a : List Str) (x : Str), joinT a x = joinT a [] ++ x := by
    intro a x
    induction a with
    | nil => rfl
    | cons y a ih => rw [joinT_cons, joinT_cons, ih]; simp
  refine Tot.ev ?_
  refine Tot.fn (fun n => by simp only [ref27_join, ref27_join_e]; exact rfl) ?_
  refine Tot.of2 (F := fun n m => ref27_join_l1 n m l k name [] 0) ?_
  refine Tot2.up (S := Str) (L := fun n m i s => ref27_join_l1 n m l k name s i) k (fun i s => s = joinT (l.take i) []) _ ?_ ?_ 0 [] (by omega) rfl
  · intro i s hi hs next
    refine Tot2.lp (fun n m => by simp only [ref27_join_l1, ref27_join_b1]; exact rfl) ?_
    have hi' : i < l.length := by omega
    simp only [hi, Int.ofNat_lt, decide_true, cond_true]
    refine Tot2.idx hi' ?_
    have h1 := joinT_len [] (l.take i)
    have h2 := lenS_take l i
    have h3 := lenS_mem (List.getElem_mem hi')
    rw [← hs] at h1
    simp only [List.length_nil, cap] at h1 h hn
    have d1 : decide (l[i].length ≤ 9223372036854775806) = true := decide_eq_true (by omega)
    have d2 : decide (s.length + (l[i].length + 1) ≤ 9223372036854775807) = true := decide_eq_true (by omega)
    simp only [d1, d2, cond_true]
    rw [wrap_next (by omega)]
    refine next _ ?_
    rw [hs, List.take_succ_eq_append_getElem hi', joinT_append, flat (l.take i) (joinT [l[i]] [])]
    rfl
  · intro s hs
    refine Tot2.lp (fun n m => by simp only [ref27_join_l1, ref27_join_b1]; exact rfl) ?_
    have h1 := joinT_len [] (l.take k)
    have h2 := lenS_take l k
    rw [← hs] at h1
    simp only [List.length_nil, cap] at h1 h hn
    have d1 : decide (s.length + name.length ≤ 9223372036854775807) = true := decide_eq_true (by omega)
    simp only [Int.lt_irrefl, decide_false, cond_false, d1, cond_true]
    refine Tot2.pure ?_
    rw [hs, flat (l.take k) name]
theorem Qualify_ev (st : State) (h : SOK st) (name : Str) (hn : name.length ≤ cap * 2) : Ev (fun n => scope_Qualify n st name) (joinT st.nspace name) ∧ Ev (fun n => ref27_Qualify n st name) (joinT st.nspace name) := by
  have h1 := h.ns
  constructor
  · refine Ev.fn (fun n => by simp only [scope_Qualify, scope_Qualify_e]; exact rfl) ?_
    exact Ev.bind (joined_ev _ _ (by omega) hn) Ev.pure
  · refine Ev.fn (fun n => by simp only [ref27_Qualify, ref27_Qualify_e]; exact rfl) ?_
    have := ref_join_ev st.nspace st.nspace.length (Nat.le_refl _) name (by omega) hn
    rw [List.take_length] at this
    exact Ev.bind this Ev.pure
end Go.Abs
namespace Go.Abs
set_option linter.unusedVariables false
set_option linter.unusedSimpArgs false
def scanT (env : List Decl) (ns : List Str) (name : Str) : Nat → Option Str
  | 0 => none
  | k + 1 => bif declT env (joinT (ns.take (k + 1)) name) then some (joinT (ns.take (k + 1)) name) else scanT env ns name k
def candT (env : List Decl) (opens : List Str) (name : Str) : List Str := (opens.map fun o => o ++ [46] ++ name).filter (declT env)
def openT (env : List Decl) (name : Str) : List Str → Str × Int
  | [] => bif declT env name then (name, 0) else ([], 9)
  | s :: r => bif r.all (· == s) then (s, 0) else ([], 8)
def resT (st : State) (name : Str) : Str × Int :=
  bif nameT name then
    match scanT st.env st.nspace name st.nspace.length with
    | some s => (s, 0)
    | none => openT st.env name (candT st.env st.opens name)
  else ([], 29)
def openX (env : List Decl) (name f : Str) (c : List Str) : Str × Int := bif f == [] then openT env name c else bif c.all (· == f) then (f, 0) else ([], 8)
theorem cand_drop_yes {env : List Decl} {opens : List Str} {name : Str} {i : Nat} (hi : i < opens.length) (h : declT env (opens[i] ++ [46] ++ name) = true) :
    candT env (opens.drop i) name = (opens[i] ++ [46] ++ name) :: candT env (opens.drop (i + 1)) name := by
  rw [List.drop_eq_getElem_cons hi]
  simp only [candT, List.map_cons]
  rw [List.filter_cons_of_pos (by exact h)]
theorem cand_drop_no {env : List Decl} {opens : List Str} {name : Str} {i : Nat} (hi : i < opens.length) (h : declT env (opens[i] ++ [46] ++ name) = false) :
    candT env (opens.drop i) name = candT env (opens.drop (i + 1)) name := by
  rw [List.drop_eq_getElem_cons hi]
  simp only [candT, List.map_cons]
  rw [List.filter_cons_of_neg (by rw [h]; simp)]
theorem ref_Resolve_ev (st : State) (h : SOK st) (name : Str) (hn : name.length ≤ cap * 2) : Ev (fun n => ref27_Resolve n st name) (resT st name) := by
  refine Ev.fn (fun n => by simp only [ref27_Resolve, ref27_Resolve_e]; exact rfl) ?_
  refine Ev.bind (ref_Name_ev name (by omega)) ?_
  unfold resT
  cases hnm : nameT name with
  | false => exact Ev.pure
  | true =>
  simp only [cond_true]
  have hop : Ev (fun n => ref27_Resolve_l1 n n name [] 0 st) (openT st.env name (candT st.env st.opens name)) := by
    refine Tot.ev (Tot.of2 (F := fun n m => ref27_Resolve_l1 n m name [] 0 st) ?_)
    have hl := h.op
    refine Tot2.up (S := Str) (L := fun n m i f => ref27_Resolve_l1 n m name f i st) st.opens.length (fun i f => openT st.env name (candT st.env st.opens name) = openX st.env name f (candT st.env (st.opens.drop i) name)) _ ?_ ?_ 0 [] (by omega) (by simp [openX])
    · intro i f hi hI next
      refine Tot2.lp (fun n m => by simp only [ref27_Resolve_l1, ref27_Resolve_b1]; exact rfl) ?_
      simp only [hi, Int.ofNat_lt, decide_true, cond_true]
      refine Tot2.idx hi ?_
      have ho := h.ops _ (List.getElem_mem hi)
      simp only [cap] at ho hn hl
      have d1 : decide (st.opens[i].length ≤ 9223372036854775806) = true := decide_eq_true (by omega)
      have d2 : decide (st.opens[i].length + 1 + name.length ≤ 9223372036854775807) = true := decide_eq_true (by omega)
      simp only [d1, d2, cond_true]
      rw [wrap_next (by omega)]
      refine Tot2.bind1 ((ref_Declared_ev st h (st.opens[i] ++ [46] ++ name)).tot (Q := (· = declT st.env (st.opens[i] ++ [46] ++ name))) rfl) fun x hx => ?_
      subst hx
      cases hd : declT st.env (st.opens[i] ++ [46] ++ name) with
      | false =>
        rw [cand_drop_no hi hd] at hI
        simp only [cond_false]
        exact next _ hI
      | true =>
        rw [cand_drop_yes hi hd] at hI
        simp only [cond_true]
        have hne : ((st.opens[i] ++ [46] ++ name) == []) = false := by simp
        cases hf : (f == []) with
        | true =>
          have := beq_iff_eq.1 hf
          subst this
          simp only [cond_true]
          refine next _ ?_
          rw [hI]
          simp only [openX, hne, cond_false, openT, beq_self_eq_true, cond_true]
        | false =>
          simp only [cond_false]
          cases he : (f == st.opens[i] ++ [46] ++ name) with
          | true =>
            have := beq_iff_eq.1 he
            simp only [cond_true]
            refine next _ ?_
            rw [hI, ← this]
            simp only [openX, hf, cond_false, List.all_cons, beq_self_eq_true, Bool.true_and]
          | false =>
            simp only [cond_false]
            refine Tot2.pure ?_
            rw [hI]
            rw [beq_symm] at he
            simp only [openX, hf, cond_false, List.all_cons, he, Bool.false_and]
    · intro f hI
      refine Tot2.lp (fun n m => by simp only [ref27_Resolve_l1, ref27_Resolve_b1]; exact rfl) ?_
      simp only [Int.lt_irrefl, decide_false, cond_false]
      rw [List.drop_length] at hI
      have e : candT st.env [] name = [] := rfl
      rw [e] at hI
      cases hf : (f == []) with
      | true =>
        simp only [cond_true]
        refine Tot2.bind1 ((ref_Declared_ev st h name).tot (Q := (· = declT st.env name)) rfl) fun x hx => ?_
        subst hx
        rw [hI]
        simp only [openX, hf, cond_true, openT]
        cases declT st.env name <;> exact Tot2.pure rfl
      | false =>
        simp only [cond_false]
        refine Tot2.pure ?_
        rw [hI]
        simp only [openX, hf, cond_false, List.all_nil, cond_true]
  have loop : ∀ k : Nat, k ≤ st.nspace.length → Ev2 (fun n m => ref27_Resolve_l2 n m name k st) (match scanT st.env st.nspace name k with
      | some s => (s, 0)
      | none => openT st.env name (candT st.env st.opens name)) := by
    intro k
    have hns := h.ns
    have hll := lenS_le st.nspace
    induction k with
    | zero =>
      intro _
      refine Ev2.lp (fun n m => by simp only [ref27_Resolve_l2, ref27_Resolve_b2]; exact rfl) ?_
      have d : decide ((0 : Int) < ((0 : Nat) : Int)) = false := rfl
      simp only [d, cond_false]
      exact Ev2.of1 hop
    | succ k ih =>
      intro hk
      refine Ev2.lp (fun n m => by simp only [ref27_Resolve_l2, ref27_Resolve_b2]; exact rfl) ?_
      have d : decide ((0 : Int) < ((k + 1 : Nat) : Int)) = true := decide_eq_true (by omega)
      simp only [d, cond_true]
      refine Ev2.bind1 (ref_join_ev st.nspace (k + 1) hk name (by omega) hn) ?_
      refine Ev2.bind1 (ref_Declared_ev st h _) ?_
      simp only [scanT]
      cases declT st.env (joinT (st.nspace.take (k + 1)) name) with
      | true => exact Ev2.pure
      | false =>
        simp only [cond_false]
        rw [wrap_small (by omega) (by simp only [cap] at hns; omega)]
        have e : ((k + 1 : Nat) : Int) - 1 = (k : Int) := by omega
        rw [e]
        exact ih (by omega)
  exact Ev.of2 (loop st.nspace.length (Nat.le_refl _))
def dd (acc : List Str) (l : List Str) : List Str := l.foldl (fun a x => bif a.any (· == x) then a else a ++ [x]) acc
theorem dd_len : ∀ (l acc : List Str), acc.length ≤ (dd acc l).length
  | [], acc => Nat.le_refl _
  | x :: l, acc => by
    show acc.length ≤ (dd (bif acc.any (· == x) then acc else acc ++ [x]) l).length
    cases acc.any (· == x) with
    | true => exact dd_len l acc
    | false => exact Nat.le_trans (by simp) (dd_len l (acc ++ [x]))
theorem dd_one (s : Str) : ∀ l : List Str, l.all (· == s) = true → dd [s] l = [s]
  | [], _ => rfl
  | x :: l, h => by
    rw [List.all_cons, Bool.and_eq_true] at h
    have e := beq_iff_eq.1 h.1
    subst e
    show dd (bif [x].any (· == x) then [x] else [x] ++ [x]) l = [x]
    simp only [List.any_cons, beq_self_eq_true, Bool.true_or, cond_true]
    exact dd_one x l h.2
theorem dd_two (s : Str) : ∀ l : List Str, l.all (· == s) = false → 2 ≤ (dd [s] l).length
  | [], h => by simp at h
  | x :: l, h => by
    show 2 ≤ (dd (bif [s].any (· == x) then [s] else [s] ++ [x]) l).length
    cases hx : (x == s) with
    | true =>
      rw [List.all_cons, hx, Bool.true_and] at h
      have e := beq_iff_eq.1 hx
      subst e
      simp only [List.any_cons, beq_self_eq_true, Bool.true_or, cond_true]
      exact dd_two x l h
    | false =>
      rw [beq_symm] at hx
      simp only [List.any_cons, hx, List.any_nil, Bool.or_false, cond_false]
      exact dd_len l ([s] ++ [x])
theorem dd_total : ∀ (l acc : List Str), (dd acc l).length ≤ acc.length + l.length
  | [], acc => Nat.le_refl _
  | x :: l, acc => by
    show (dd (bif acc.any (· == x) then acc else acc ++ [x]) l).length ≤ _
    cases acc.any (· == x) with
    | true => have := dd_total l acc; simp only [cond_true, List.length_cons]; omega
    | false => have := dd_total l (acc ++ [x]); simp only [cond_false, List.length_cons, List.length_append, List.length_singleton, List.length_nil] at *; omega
theorem opened_ev (st : State) (h : SOK st) (name : Str) (hn : name.length ≤ cap * 2) : Ev (fun n => scope_opened n st name) (dd [] (candT st.env st.opens name)) := by
  have hl := h.op
  refine Tot.ev ?_
  refine Tot.fn (fun n => by simp only [scope_opened, scope_opened_e]; exact rfl) ?_
  refine Tot.of2 (F := fun n m => scope_opened_l1 n m name st.opens st.opens.length 0 st []) ?_
  refine Tot2.up (S := List Str) (L := fun n m i a => scope_opened_l1 n m name st.opens st.opens.length i st a) st.opens.length (fun i a => a.length ≤ i ∧ dd [] (candT st.env st.opens name) = dd a (candT st.env (st.opens.drop i) name)) _ ?_ ?_ 0 [] (by omega) ⟨by simp, rfl⟩
  · rintro i a hi ⟨ha, hI⟩ next
    refine Tot2.lp (fun n m => by simp only [scope_opened_l1, scope_opened_b1]; exact rfl) ?_
    simp only [hi, Int.ofNat_lt, decide_true, cond_true]
    refine Tot2.idx hi ?_
    have ho := h.ops _ (List.getElem_mem hi)
    rw [wrap_next (by simp only [cap] at hl; omega)]
    have ej : joinT [st.opens[i]] name = st.opens[i] ++ [46] ++ name := by simp [joinT]
    refine Tot2.bind1 ((joined_ev [st.opens[i]] name (by simp only [lenS]; omega) hn).tot (Q := (· = st.opens[i] ++ [46] ++ name)) ej) fun x hx => ?_
    subst hx
    refine Tot2.bind1 ((Declared_ev st h (st.opens[i] ++ [46] ++ name)).tot (Q := (· = declT st.env (st.opens[i] ++ [46] ++ name))) rfl) fun x hx => ?_
    subst hx
    cases hd : declT st.env (st.opens[i] ++ [46] ++ name) with
    | false =>
      rw [cand_drop_no hi hd] at hI
      simp only [cond_false]
      exact next _ ⟨by omega, hI⟩
    | true =>
      rw [cand_drop_yes hi hd] at hI
      simp only [cond_true]
      refine Tot2.bind1 ((Contains_ev a (st.opens[i] ++ [46] ++ name) (by omega)).tot (Q := (· = a.any (· == st.opens[i] ++ [46] ++ name))) rfl) fun x hx => ?_
      subst hx
      have hI' : dd [] (candT st.env st.opens name) = dd (bif a.any (· == st.opens[i] ++ [46] ++ name) then a else a ++ [st.opens[i] ++ [46] ++ name]) (candT st.env (st.opens.drop (i + 1)) name) := hI
      cases hc : a.any (· == st.opens[i] ++ [46] ++ name) with
      | true =>
        rw [hc] at hI'
        simp only [cond_true] at hI' ⊢
        exact next _ ⟨by omega, hI'⟩
      | false =>
        rw [hc] at hI'
        simp only [cond_false, room16 (k := a.length) (by omega), cond_true] at hI' ⊢
        exact next _ ⟨by simp only [List.length_append, List.length_singleton]; omega, hI'⟩
  · rintro a ⟨ha, hI⟩
    refine Tot2.lp (fun n m => by simp only [scope_opened_l1, scope_opened_b1]; exact rfl) ?_
    simp only [Int.lt_irrefl, decide_false, cond_false]
    refine Tot2.pure ?_
    rw [hI, List.drop_length]; rfl
theorem Resolve_ev (st : State) (h : SOK st) (name : Str) (hn : name.length ≤ cap * 2) : Ev (fun n => scope_Resolve n st name) (resT st name) := by
  refine Ev.fn (fun n => by simp only [scope_Resolve, scope_Resolve_e]; exact rfl) ?_
  refine Ev.bind (Name_ev name (by omega)) ?_
  unfold resT
  cases hnm : nameT name with
  | false => exact Ev.pure
  | true =>
  simp only [cond_true]
  have he : Ev (fun n => scope_enclosing n st) st := by refine Ev.fn (fun n => by simp only [scope_enclosing, scope_enclosing_e]; exact rfl) ?_; exact Ev.pure
  refine Ev.bind he ?_
  have hns := h.ns
  have hll := lenS_le st.nspace
  have round : ∀ k : Nat, Ev (fun n => scope_Resolve_k0_1_0_1_1_r n (st.nspace.take k) st name [] 0) (bif declT st.env (joinT (st.nspace.take k) name) then ((((), 1), (st, ()), (name, ()), (joinT (st.nspace.take k) name, ()), (0, ()), ()), false, ()) else ((((), 0), (st, ()), (name, ()), ([], ()), (0, ()), ()), true, ())) := by
    intro k
    have := lenS_take st.nspace k
    refine Ev.fn (fun n => by simp only [scope_Resolve_k0_1_0_1_1_r, scope_Resolve_k0_1_0_1_1_r_e]; exact rfl) ?_
    refine Ev.bind (joined_ev _ name (by omega) hn) (Ev.bind (Declared_ev st h _) ?_)
    cases declT st.env (joinT (st.nspace.take k) name) <;> exact Ev.pure
  have loop : ∀ k : Nat, k ≤ st.nspace.length → Ev2 (fun n m => scope_enclosing_1_l1 n m st k 0 st name [] 0) (match scanT st.env st.nspace name k with
      | some s => ((((), 1), (st, ()), (name, ()), (s, ()), (0, ()), ()), ())
      | none => ((((), 0), (st, ()), (name, ()), ([], ()), (0, ()), ()), ())) := by
    intro k
    induction k with
    | zero =>
      intro _
      refine Ev2.lp (fun n m => by simp only [scope_enclosing_1_l1, scope_enclosing_1_b1]; exact rfl) ?_
      have d : decide ((0 : Int) < ((0 : Nat) : Int)) = false := rfl
      simp only [d, cond_false]
      exact Ev2.pure
    | succ k ih =>
      intro hk
      refine Ev2.lp (fun n m => by simp only [scope_enclosing_1_l1, scope_enclosing_1_b1]; exact rfl) ?_
      have d : decide ((0 : Int) < ((k + 1 : Nat) : Int)) = true := decide_eq_true (by omega)
      have d2 : decide ((0 : Int) ≤ ((k + 1 : Nat) : Int) ∧ ((k + 1 : Nat) : Int) ≤ (st.nspace.length : Int) ∧ (st.nspace.length : Int) ≤ (st.nspace.length : Int)) = true := decide_eq_true (by omega)
      simp only [d, d2, cond_true, beq_self_eq_true, Int.toNat_natCast]
      refine Ev2.bind1 (round (k + 1)) ?_
      simp only [scanT]
      cases declT st.env (joinT (st.nspace.take (k + 1)) name) with
      | true => exact Ev2.pure
      | false =>
        simp only [cond_false, cond_true]
        rw [wrap_small (by omega) (by simp only [cap] at hns; omega)]
        have e : ((k + 1 : Nat) : Int) - 1 = (k : Int) := by omega
        rw [e]
        exact ih (by omega)
  have henc : Ev (fun n => scope_enclosing_1 n st st name [] 0) (match scanT st.env st.nspace name st.nspace.length with
      | some s => ((((), 1), (st, ()), (name, ()), (s, ()), (0, ()), ()), ())
      | none => ((((), 0), (st, ()), (name, ()), ([], ()), (0, ()), ()), ())) := by
    refine Ev.fn (fun n => by simp only [scope_enclosing_1, scope_enclosing_1_e]; exact rfl) ?_
    exact Ev.of2 (loop st.nspace.length (Nat.le_refl _))
  refine Ev.bind henc ?_
  cases scanT st.env st.nspace name st.nspace.length with
  | some s => exact Ev.pure
  | none =>
    simp only [beq_self_eq_true, cond_true]
    refine Ev.bind (opened_ev st h name hn) ?_
    cases hc : candT st.env st.opens name with
    | nil =>
      have e1 : decide ((1 : Int) < ((dd [] ([] : List Str)).length : Int)) = false := rfl
      have e2 : (((dd [] ([] : List Str)).length : Int) == 1) = false := rfl
      simp only [e1, e2, cond_false]
      refine Ev.bind (Declared_ev st h name) ?_
      simp only [openT]
      cases declT st.env name <;> exact Ev.pure
    | cons s r =>
      have hdd : dd [] (s :: r) = dd [s] r := rfl
      rw [hdd]
      simp only [openT]
      cases hr : r.all (· == s) with
      | true =>
        rw [dd_one s r hr]
        have e1 : decide ((1 : Int) < (([s] : List Str).length : Int)) = false := rfl
        have e2 : ((([s] : List Str).length : Int) == 1) = true := rfl
        simp only [e1, e2, cond_false, cond_true]
        exact Ev.pure
      | false =>
        have h2 := dd_two s r hr
        have e1 : decide ((1 : Int) < ((dd [s] r).length : Int)) = true := decide_eq_true (by omega)
        simp only [e1, cond_true, cond_false]
        exact Ev.pure
end Go.Abs
namespace Go.Abs
set_option linter.unusedVariables false
set_option linter.unusedSimpArgs false
def hitT (st : State) (name s : Str) : Bool := (resT st s).2 == 0 && (resT st s).1 == name
def outT : Option Str → Str × Int
  | some s => (s, 0)
  | none => ([], 24)
def shortT (st : State) (name : Str) : Str × Int := bif declT st.env name then outT ((dotEnds name ++ [name]).find? (hitT st name)) else ([], 9)
theorem resT_nil (st : State) : resT st [] = ([], 29) := rfl
theorem hitT_nil (st : State) (name : Str) : hitT st name [] = false := rfl
theorem lenS_drop : ∀ (l : List Str) (k : Nat), lenS (l.drop k) ≤ lenS l
  | [], k => by simp [lenS]
  | x :: l, 0 => by simp
  | x :: l, k + 1 => by have := lenS_drop l k; simp only [List.drop_succ_cons, lenS]; omega
theorem join_len : ∀ l : List Str, (Lib.join l [46]).length ≤ lenS l
  | [] => by simp [Lib.join_nil]
  | [x] => by rw [Lib.join_one]; simp only [lenS]; omega
  | x :: y :: r => by
    have := join_len (y :: r)
    rw [join_two]
    simp only [List.length_append, List.length_singleton, lenS] at *
    omega
theorem lenS_spl : ∀ s : Str, lenS (spl s) = s.length + 1
  | [] => rfl
  | c :: s => by
    have ih := lenS_spl s
    obtain ⟨x, t, e⟩ : ∃ x t, spl s = x :: t := by
      cases h : spl s with
      | nil => exact absurd h (spl_ne s)
      | cons x t => exact ⟨x, t, rfl⟩
    by_cases hc : c = 46
    · subst hc
      rw [spl_point]; simp only [lenS, List.length_nil, List.length_cons]; omega
    · rw [spl_other s hc e]
      rw [e] at ih
      simp only [lenS, List.length_cons] at *
      omega
theorem Shortest_ev (st : State) (h : SOK st) (name : Str) (hn : name.length ≤ cap) : Ev (fun n => scope_Shortest n st name) (shortT st name) := by
  refine Ev.fn (fun n => by simp only [scope_Shortest, scope_Shortest_e]; exact rfl) ?_
  refine Ev.bind (Declared_ev st h name) ?_
  unfold shortT
  cases declT st.env name with
  | false => exact Ev.pure
  | true =>
  simp only [cond_true]
  refine Ev.bind (Split_ev name (by omega)) ?_
  rw [← pieceEnds_spl]
  have hls := lenS_spl name
  generalize hP : spl name = P at hls
  have hll := lenS_le P
  have round : ∀ s : Str, s.length ≤ cap * 2 → Ev (fun n => scope_Shortest_k0_1_0_1_1_r n s st name [] 0) (bif hitT st name s then ((((), 1), (st, ()), (name, ()), (s, ()), (0, ()), ()), false, ()) else ((((), 0), (st, ()), (name, ()), ([], ()), (0, ()), ()), true, ())) := by
    intro s hs
    refine Ev.fn (fun n => by simp only [scope_Shortest_k0_1_0_1_1_r, scope_Shortest_k0_1_0_1_1_r_e]; exact rfl) ?_
    refine Ev.bind (Resolve_ev st h s hs) ?_
    unfold hitT
    cases (resT st s).2 == 0 <;> cases (resT st s).1 == name <;> exact Ev.pure
  have loop : ∀ k : Nat, k ≤ P.length → Ev2 (fun n m => scope_path_ends_l1 n m P ((k : Int) - 1) 0 st name [] 0) (match (((List.range k).map fun i => Lib.join (P.drop i) [46]).reverse).find? (hitT st name) with
      | some s => ((((), 1), (st, ()), (name, ()), (s, ()), (0, ()), ()), ())
      | none => ((((), 0), (st, ()), (name, ()), ([], ()), (0, ()), ()), ())) := by
    intro k
    induction k with
    | zero =>
      intro _
      refine Ev2.lp (fun n m => by simp only [scope_path_ends_l1, scope_path_ends_b1]; exact rfl) ?_
      have d : decide ((0 : Int) ≤ ((0 : Nat) : Int) - 1) = false := rfl
      simp only [d, cond_false]
      exact Ev2.pure
    | succ k ih =>
      intro hk
      refine Ev2.lp (fun n m => by simp only [scope_path_ends_l1, scope_path_ends_b1]; exact rfl) ?_
      have e : ((k + 1 : Nat) : Int) - 1 = (k : Int) := by omega
      have d : decide ((0 : Int) ≤ (k : Int)) = true := decide_eq_true (by omega)
      have d2 : decide ((0 : Int) ≤ (k : Int) ∧ (k : Int) ≤ (P.length : Int) ∧ (P.length : Int) ≤ (P.length : Int)) = true := decide_eq_true (by omega)
      simp only [e, d, d2, cond_true, beq_self_eq_true, Int.toNat_natCast, List.take_length]
      have hj := join_len (P.drop k)
      have hd := lenS_drop P k
      refine Ev2.bind1 (Join_ev (P.drop k) [46] (by simp only [cap] at hn; omega) (by rw [List.length_drop]; simp only [cap] at hn; omega)) ?_
      refine Ev2.bind1 (round _ (by simp only [cap] at hn ⊢; omega)) ?_
      rw [List.range_succ, List.map_append, List.reverse_append]
      simp only [List.map_cons, List.map_nil, List.reverse_cons, List.reverse_nil, List.nil_append, List.cons_append, List.find?_cons]
      cases hitT st name (Lib.join (P.drop k) [46]) with
      | true => exact Ev2.pure
      | false =>
        simp only [cond_false, cond_true]
        rw [wrap_small (by omega) (by simp only [cap] at hn; omega)]
        exact ih (by omega)
  have hends : Ev (fun n => scope_path_ends n P st name [] 0) (match (pieceEnds P).find? (hitT st name) with
      | some s => ((((), 1), (st, ()), (name, ()), (s, ()), (0, ()), ()), ())
      | none => ((((), 0), (st, ()), (name, ()), ([], ()), (0, ()), ()), ())) := by
    refine Ev.fn (fun n => by simp only [scope_path_ends, scope_path_ends_e]; exact rfl) ?_
    rw [wrap_small (by omega) (by simp only [cap] at hn; omega)]
    exact Ev.of2 (loop P.length (Nat.le_refl _))
  refine Ev.bind hends ?_
  cases (pieceEnds P).find? (hitT st name) with
  | some s => exact Ev.pure
  | none => exact Ev.pure
def gen (b : Bool) (s : Str) : Nat → List Str
  | 0 => []
  | k + 1 => (bif (bif k == 0 then b else s[k - 1]? == some 46) then [s.drop k] else []) ++ gen b s k
theorem gen_cons (b : Bool) (c : UInt8) (s : Str) : ∀ k : Nat, gen b (c :: s) (k + 1) = gen (c == 46) s k ++ (bif b then [c :: s] else [])
  | 0 => by cases b <;> rfl
  | k + 1 => by
    rw [gen, gen_cons b c s k, gen]
    have e1 : ((k + 1 == 0) : Bool) = false := rfl
    rw [e1]
    simp only [cond_false, Nat.add_sub_cancel, List.drop_succ_cons]
    cases k with
    | zero =>
      have e2 : ((0 == 0) : Bool) = true := rfl
      simp only [e2, cond_true, List.getElem?_cons_zero, Option.some_beq_some, List.append_assoc]
    | succ k =>
      have e2 : ((k + 1 == 0) : Bool) = false := rfl
      simp only [e2, cond_false, List.getElem?_cons_succ, Nat.add_sub_cancel, List.append_assoc]
theorem gen_all : ∀ (s : Str) (b : Bool), gen b s (s.length + 1) = dotEnds s ++ (bif b then [s] else [])
  | [], b => by cases b <;> rfl
  | c :: s, b => by
    rw [List.length_cons, gen_cons, gen_all s]
    simp only [dotEnds]
    by_cases hc : c = 46
    · subst hc
      simp
    · have e : (c == 46) = false := by rw [beq_eq_false_iff_ne]; exact hc
      simp [hc, e]
theorem find_gen (st : State) (name : Str) : (gen true name name.length).find? (hitT st name) = (dotEnds name ++ [name]).find? (hitT st name) := by
  have h := gen_all name true
  rw [cond_true] at h
  rw [← h]
  have e : gen true name (name.length + 1) = (bif (bif name.length == 0 then true else name[name.length - 1]? == some 46) then [name.drop name.length] else []) ++ gen true name name.length := rfl
  rw [e, List.drop_length]
  cases (bif name.length == 0 then true else name[name.length - 1]? == some 46) with
  | false => rfl
  | true => simp [hitT_nil]
theorem ref_Shortest_ev (st : State) (h : SOK st) (name : Str) (hn : name.length ≤ cap) : Ev (fun n => ref27_Shortest n st name) (shortT st name) := by
  refine Ev.fn (fun n => by simp only [ref27_Shortest, ref27_Shortest_e]; exact rfl) ?_
  refine Ev.bind (ref_Declared_ev st h name) ?_
  unfold shortT
  cases declT st.env name with
  | false => exact Ev.pure
  | true =>
  simp only [cond_true]
  rw [← find_gen]
  have loop : ∀ k : Nat, k ≤ name.length → Ev2 (fun n m => ref27_Shortest_l1 n m name ((k : Int) - 1) st) (outT ((gen true name k).find? (hitT st name))) := by
    intro k
    induction k with
    | zero =>
      intro _
      refine Ev2.lp (fun n m => by simp only [ref27_Shortest_l1, ref27_Shortest_b1]; exact rfl) ?_
      have d : decide ((0 : Int) ≤ ((0 : Nat) : Int) - 1) = false := rfl
      simp only [d, cond_false]
      exact Ev2.pure
    | succ k ih =>
      intro hk
      have ih' := ih (by omega)
      have e : ((k + 1 : Nat) : Int) - 1 = (k : Int) := by omega
      have d : decide ((0 : Int) ≤ (k : Int)) = true := decide_eq_true (by omega)
      have d2 : decide ((0 : Int) ≤ (k : Int) ∧ (k : Int) ≤ (name.length : Int) ∧ (name.length : Int) ≤ (name.length : Int)) = true := decide_eq_true (by omega)
      have hw : IntKind.i64.wrap ((k : Int) - 1) = (k : Int) - 1 := wrap_small (by omega) (by simp only [cap] at hn; omega)
      have hres : Ev (fun n => ref27_Resolve n st (name.drop k)) (resT st (name.drop k)) := ref_Resolve_ev st h _ (by rw [List.length_drop]; omega)
      have test : Ev2 (fun n m => (ref27_Resolve n st (name.drop k)).bind fun x => bif x.snd == 0 then bif x.fst == name then some (name.drop k, 0) else ref27_Shortest_l1 n m name ((k : Int) - 1) st else ref27_Shortest_l1 n m name ((k : Int) - 1) st)
          (outT ((name.drop k :: gen true name k).find? (hitT st name))) := by
        refine Ev2.bind1 hres ?_
        simp only [List.find?_cons]
        unfold hitT at ih' ⊢
        cases (resT st (name.drop k)).2 == 0 with
        | false => simp only [cond_false, Bool.false_and]; exact ih'
        | true =>
          cases (resT st (name.drop k)).1 == name with
          | false => simp only [cond_false, cond_true, Bool.true_and]; exact ih'
          | true => exact Ev2.pure
      refine Ev2.lp (fun n m => by simp only [ref27_Shortest_l1, ref27_Shortest_b1]; exact rfl) ?_
      simp only [e, d, d2, cond_true, Int.toNat_natCast, List.take_length, hw]
      cases k with
      | zero =>
        have d3 : decide ((0 : Int) < ((0 : Nat) : Int)) = false := rfl
        simp only [d3, cond_false]
        exact test
      | succ k =>
        have d3 : decide ((0 : Int) < ((k + 1 : Nat) : Int)) = true := decide_eq_true (by omega)
        have e1 : ((k + 1 : Nat) : Int) - 1 = (k : Int) := by omega
        have hk' : k < name.length := by omega
        simp only [d3, cond_true]
        rw [show gen true name (k + 1 + 1) = (bif name[k]? == some 46 then [name.drop (k + 1)] else []) ++ gen true name (k + 1) from rfl]
        rw [e1] at test ih' ⊢
        refine Ev2.idx hk' ?_
        have hc : ((name[k].toNat : Int) != 46) = !(name[k]? == some 46) := by
          rw [List.getElem?_eq_getElem hk', Option.some_beq_some, bne]
          congr 1
          rw [Bool.eq_iff_iff, beq_iff_eq, beq_iff_eq]
          constructor
          · intro h
            have h' : name[k].toNat = 46 := by omega
            exact UInt8.toNat_inj.1 h'
          · intro h; rw [h]; rfl
        rw [hc]
        cases name[k]? == some 46 with
        | false => exact ih'
        | true => exact test
  rw [wrap_small (by omega) (by simp only [cap] at hn; omega)]
  exact Ev.of2 (loop name.length (Nat.le_refl _))
end Go.Abs
namespace Go.Abs
set_option linter.unusedVariables false
set_option linter.unusedSimpArgs false
set_option maxRecDepth 100000
theorem awake27_k (k : Nat) : law27_awake (k + 40) = some true := by kernel_rfl
theorem awake_ev : Ev (fun n => law27_awake n) true := by
  refine ⟨40, fun n hn => ?_⟩
  obtain ⟨k, rfl⟩ : ∃ k, n = k + 40 := ⟨n - 40, by omega⟩
  exact awake27_k k
def noState : State := { env := [], implicits := [], classes := [], instances := [], notations := [], nspace := [], opens := [] }
def endT (st : State) (name : Str) : State × Int :=
  match st.nspace.reverse with
  | [] => (noState, 27)
  | x :: r => bif x == name then ({ st with nspace := r.reverse }, 0) else (noState, 1)
theorem End_ev (st : State) (h : SOK st) (name : Str) : Ev (fun n => scope_End n st name) (endT st name) ∧ Ev (fun n => ref27_End n st name) (endT st name) := by
  have hns := h.ns
  have hll := lenS_le st.nspace
  unfold endT
  cases hr : st.nspace.reverse with
  | nil =>
    have hz : st.nspace = [] := List.reverse_eq_nil_iff.1 hr
    constructor
    · refine Ev.fn (fun n => by simp only [scope_End, scope_End_e]; exact rfl) ?_
      have e : decide (IntKind.i64.wrap ((st.nspace.length : Int) - 1) < 0) = true := by rw [hz]; rfl
      simp only [e, cond_true]
      exact Ev.pure
    · refine Ev.fn (fun n => by simp only [ref27_End, ref27_End_e]; exact rfl) ?_
      have e : ((st.nspace.length : Int) == 0) = true := by rw [hz]; rfl
      simp only [e, cond_true]
      exact Ev.pure
  | cons x r =>
    have hs : st.nspace = r.reverse ++ [x] := by
      have := congrArg List.reverse hr
      simpa using this
    have hl : st.nspace.length = r.length + 1 := by rw [hs]; simp
    have hw : IntKind.i64.wrap ((st.nspace.length : Int) - 1) = (r.length : Int) := by
      rw [wrap_small (by omega) (by simp only [cap] at hns; omega)]; omega
    have hi : r.length < st.nspace.length := by omega
    have hx : st.nspace[r.length] = x := by
      simp only [hs]
      rw [List.getElem_append_right (by simp)]
      simp
    have ht : st.nspace.take r.length = r.reverse := by
      rw [hs, List.take_left' (by simp)]
    have d2 : decide ((0 : Int) ≤ (r.length : Int) ∧ (r.length : Int) ≤ (st.nspace.length : Int) ∧ (st.nspace.length : Int) ≤ (st.nspace.length : Int)) = true := decide_eq_true (by omega)
    constructor
    · refine Ev.fn (fun n => by simp only [scope_End, scope_End_e]; exact rfl) ?_
      have e : decide ((r.length : Int) < 0) = false := decide_eq_false (by omega)
      simp only [hw, e, cond_false, idxA_at hi, Option.bind_some, hx, d2, cond_true, Int.toNat_natCast, ht]
      cases x == name with
      | false => exact Ev.pure
      | true =>
        simp only [cond_true]
        exact Ev.bind (Clone_ev r.reverse (by simp only [List.length_reverse, cap] at *; omega)).2 Ev.pure
    · refine Ev.fn (fun n => by simp only [ref27_End, ref27_End_e]; exact rfl) ?_
      have e : ((st.nspace.length : Int) == 0) = false := by rw [beq_eq_false_iff_ne]; omega
      have d3 : decide (r.reverse.length * 16 ≤ 17592186044416) = true := decide_eq_true (by simp only [List.length_reverse, cap] at *; omega)
      simp only [hw, e, cond_false, idxA_at hi, Option.bind_some, hx, d2, cond_true, Int.toNat_natCast, ht, d3]
      cases x == name <;> exact Ev.pure
def nspaceT (st : State) (name : Str) : State × Int :=
  bif nameT name then bif decide (16 ≤ (st.nspace.length : Int)) then (noState, 7) else bif decide (64 < ((joinT st.nspace name).length : Int)) then (noState, 5) else ({ st with nspace := st.nspace ++ [name] }, 0) else (noState, 29)
theorem Namespace_ev (st : State) (h : SOK st) (name : Str) (hn : name.length ≤ cap) : Ev (fun n => scope_Namespace n st name) (nspaceT st name) ∧ Ev (fun n => ref27_Namespace n st name) (nspaceT st name) := by
  have hns := h.ns
  have hll := lenS_le st.nspace
  have hq := Qualify_ev st h name (by omega)
  have hrm := room16 (k := st.nspace.length) (by omega)
  have d3 : decide (st.nspace.length * 16 ≤ 17592186044416) = true := decide_eq_true (by simp only [cap] at *; omega)
  unfold nspaceT
  constructor
  · refine Ev.fn (fun n => by simp only [scope_Namespace, scope_Namespace_e]; exact rfl) ?_
    refine Ev.bind (Name_ev name (by omega)) ?_
    cases nameT name with
    | false => exact Ev.pure
    | true =>
      simp only [cond_true]
      cases decide (16 ≤ (st.nspace.length : Int)) with
      | true => exact Ev.pure
      | false =>
        simp only [cond_false]
        refine Ev.bind hq.1 ?_
        cases decide (64 < ((joinT st.nspace name).length : Int)) with
        | true => exact Ev.pure
        | false =>
          simp only [cond_false]
          refine Ev.bind (Clone_ev st.nspace (by omega)).2 ?_
          simp only [hrm, cond_true]
          exact Ev.pure
  · refine Ev.fn (fun n => by simp only [ref27_Namespace, ref27_Namespace_e]; exact rfl) ?_
    refine Ev.bind (ref_Name_ev name (by omega)) ?_
    cases nameT name with
    | false => exact Ev.pure
    | true =>
      simp only [cond_true]
      cases decide (16 ≤ (st.nspace.length : Int)) with
      | true => exact Ev.pure
      | false =>
        simp only [cond_false]
        refine Ev.bind hq.2 ?_
        cases decide (64 < ((joinT st.nspace name).length : Int)) with
        | true => exact Ev.pure
        | false =>
          simp only [cond_false, hrm, d3, cond_true]
          exact Ev.pure
def beneathB (name x : Str) : Bool := decide (name.length < x.length) && x.take (name.length + 1) == name ++ [46]
def insideT (env : List Decl) (name : Str) : Bool := env.any fun d => (namesT d).any (beneathB name)
def enterT (st : State) (name : Str) : State × Int :=
  bif nameT name then bif insideT st.env name then bif st.opens.any (· == name) then (st, 0) else bif decide (100 ≤ (st.opens.length : Int)) then (noState, 6) else ({ st with opens := st.opens ++ [name] }, 0) else (noState, 9) else (noState, 29)
theorem HasPrefix_ev (x p : Str) : Ev (fun n => strings_HasPrefix n x p) (decide (p.length ≤ x.length) && x.take p.length == p) := by
  refine Ev.fn (fun n => by simp only [strings_HasPrefix, strings_HasPrefix_e]; exact rfl) ?_
  refine Ev.bind (x := decide (p.length ≤ x.length) && x.take p.length == p) ?_ Ev.pure
  refine Ev.fn (fun n => by simp only [internal_stringslite_HasPrefix, internal_stringslite_HasPrefix_e]; exact rfl) ?_
  by_cases h : p.length ≤ x.length
  · have d : decide ((p.length : Int) ≤ (x.length : Int)) = true := decide_eq_true (by omega)
    simp only [d, cond_true, decide_eq_true h, Bool.true_and]
    exact Ev.pure
  · have d : decide ((p.length : Int) ≤ (x.length : Int)) = false := decide_eq_false (by omega)
    simp only [d, cond_false, decide_eq_false h, Bool.false_and]
    exact Ev.pure
theorem Open_ev (st : State) (h : SOK st) (name : Str) (hn : name.length ≤ cap) : Ev (fun n => scope_Open n st name) (enterT st name) := by
  have hop := h.op
  have hl := h.envl
  refine Ev.fn (fun n => by simp only [scope_Open, scope_Open_e]; exact rfl) ?_
  refine Ev.bind (Name_ev name (by omega)) ?_
  unfold enterT
  cases nameT name with
  | false => exact Ev.pure
  | true =>
  simp only [cond_true]
  have d1 : decide (name.length ≤ 9223372036854775806) = true := decide_eq_true (by simp only [cap] at hn; omega)
  have one : ∀ x : Str, Ev (fun n => scope_Open_1 n x name) (beneathB name x) := by
    intro x
    refine Ev.fn (fun n => by simp only [scope_Open_1, scope_Open_1_e]; exact rfl) ?_
    simp only [d1, cond_true]
    have := HasPrefix_ev x (name ++ [46])
    have e : (decide ((name ++ [46]).length ≤ x.length) && x.take (name ++ [46]).length == name ++ [46]) = beneathB name x := by
      unfold beneathB
      simp only [List.length_append, List.length_singleton]
      congr 1
    rw [e] at this
    exact Ev.bind this Ev.pure
  have anyn : ∀ l : List Str, l.length ≤ cap + 2 → Ev (fun n => slices_ContainsFunc_string_scope_Open_1 n l name) (l.any (beneathB name)) := by
    intro l hl2
    refine Tot.ev ?_
    refine Tot.fn (fun n => by simp only [slices_ContainsFunc_string_scope_Open_1, slices_ContainsFunc_string_scope_Open_1_e]; exact rfl) ?_
    have h2 : Tot (fun n => slices_IndexFunc_string_scope_Open_1 n l name) (fun r => decide (0 ≤ r) = l.any (beneathB name)) := by
      refine Tot.fn (fun n => by simp only [slices_IndexFunc_string_scope_Open_1, slices_IndexFunc_string_scope_Open_1_e]; exact rfl) ?_
      refine Tot.of2 (F := fun n m => slices_IndexFunc_string_scope_Open_1_l1 n m l name l.length 0) ?_
      refine Tot2.up (S := Unit) (L := fun n m i _ => slices_IndexFunc_string_scope_Open_1_l1 n m l name l.length i) l.length (fun i _ => l.any (beneathB name) = (l.drop i).any (beneathB name)) _ ?_ ?_ 0 () (by omega) rfl
      · intro i u hi hI next
        refine Tot2.lp (fun n m => by simp only [slices_IndexFunc_string_scope_Open_1_l1, slices_IndexFunc_string_scope_Open_1_b1]; exact rfl) ?_
        simp only [hi, Int.ofNat_lt, decide_true, cond_true]
        refine Tot2.idx hi ?_
        rw [any_drop _ _ _ hi] at hI
        refine Tot2.bind1 ((one l[i]).tot (Q := (· = beneathB name l[i])) rfl) fun x hx => ?_
        subst hx
        refine Tot2.cnd (fun hc => Tot2.pure ?_) fun hc => ?_
        · rw [hI, hc, Bool.true_or]; simp
        · rw [wrap_next (by simp only [cap] at hl2; omega)]
          exact next u (by rw [hI, hc, Bool.false_or])
      · intro u hI
        refine Tot2.lp (fun n m => by simp only [slices_IndexFunc_string_scope_Open_1_l1, slices_IndexFunc_string_scope_Open_1_b1]; exact rfl) ?_
        simp only [Int.lt_irrefl, decide_false, cond_false]
        refine Tot2.pure ?_
        rw [hI, List.drop_length]; rfl
    exact Tot.bind h2 fun x hx => Tot.pure hx
  have h1 : Tot (fun n => slices_ContainsFunc_Decl_scope_Open_2 n st.env name) (fun r => r.2.1 = insideT st.env name) := by
    refine Tot.fn (fun n => by simp only [slices_ContainsFunc_Decl_scope_Open_2, slices_ContainsFunc_Decl_scope_Open_2_e]; exact rfl) ?_
    have h2 : Tot (fun n => slices_IndexFunc_Decl_scope_Open_2 n st.env name) (fun r => decide (0 ≤ r.2.1) = insideT st.env name) := by
      refine Tot.fn (fun n => by simp only [slices_IndexFunc_Decl_scope_Open_2, slices_IndexFunc_Decl_scope_Open_2_e]; exact rfl) ?_
      refine Tot.of2 (F := fun n m => slices_IndexFunc_Decl_scope_Open_2_l1 n m st.env st.env.length 0 name) ?_
      refine Tot2.up (S := Unit) (L := fun n m i _ => slices_IndexFunc_Decl_scope_Open_2_l1 n m st.env st.env.length i name) st.env.length (fun i _ => insideT st.env name = insideT (st.env.drop i) name) _ ?_ ?_ 0 () (by omega) rfl
      · intro i u hi hI next
        refine Tot2.lp (fun n m => by simp only [slices_IndexFunc_Decl_scope_Open_2_l1, slices_IndexFunc_Decl_scope_Open_2_b1]; exact rfl) ?_
        simp only [hi, Int.ofNat_lt, decide_true, cond_true]
        refine Tot2.idx hi ?_
        have hd := h.env _ (List.getElem_mem hi)
        unfold insideT at hI
        rw [any_drop _ _ _ hi] at hI
        have h3 : Ev (fun n => scope_Open_2 n st.env[i] name) ((((name, ()), ()), ()), (namesT st.env[i]).any (beneathB name), ()) := by
          refine Ev.fn (fun n => by simp only [scope_Open_2, scope_Open_2_e]; exact rfl) ?_
          exact Ev.bind (sig_Names_ev _ hd) (Ev.bind (anyn _ (namesT_len hd)) Ev.pure)
        refine Tot2.bind1 (h3.tot (Q := (· = ((((name, ()), ()), ()), (namesT st.env[i]).any (beneathB name), ()))) rfl) fun x hx => ?_
        subst hx
        refine Tot2.cnd (fun hc => Tot2.pure ?_) fun hc => ?_
        · simp only at hc
          unfold insideT; rw [hI, hc, Bool.true_or]; simp
        · simp only at hc
          rw [wrap_next (by simp only [cap] at hl; omega)]
          exact next u (by unfold insideT; rw [hI, hc, Bool.false_or])
      · intro u hI
        refine Tot2.lp (fun n m => by simp only [slices_IndexFunc_Decl_scope_Open_2_l1, slices_IndexFunc_Decl_scope_Open_2_b1]; exact rfl) ?_
        simp only [Int.lt_irrefl, decide_false, cond_false]
        refine Tot2.pure ?_
        rw [hI, List.drop_length]; rfl
    exact Tot.bind h2 fun x hx => Tot.pure hx
  refine Tot.ev (Tot.bind h1 fun x hx => ?_)
  simp only [hx]
  cases insideT st.env name with
  | false => exact Tot.pure rfl
  | true =>
    simp only [cond_true]
    refine Tot.bind ((Contains_ev st.opens name (by omega)).tot (Q := (· = st.opens.any (· == name))) rfl) fun y hy => ?_
    subst hy
    cases st.opens.any (· == name) with
    | true => exact Tot.pure rfl
    | false =>
      simp only [cond_false]
      cases decide (100 ≤ (st.opens.length : Int)) with
      | true => exact Tot.pure rfl
      | false =>
        simp only [cond_false]
        refine Tot.bind ((Clone_ev st.opens (by omega)).2.tot (Q := (· = ((st.opens, ()), ()))) rfl) fun y hy => ?_
        subst hy
        simp only [room16 (k := st.opens.length) (by omega), cond_true]
        exact Tot.pure rfl
theorem ref_inside_ev (st : State) (h : SOK st) (name : Str) (hn : name.length ≤ cap) : Ev (fun n => ref27_inside n st name) (insideT st.env name) := by
  have hl := h.envl
  have hw : IntKind.i64.wrap ((name.length : Int) + 1) = ((name.length + 1 : Nat) : Int) := wrap_next (by simp only [cap] at hn; omega)
  have d1 : decide (name.length ≤ 9223372036854775806) = true := decide_eq_true (by simp only [cap] at hn; omega)
  refine Ev.fn (fun n => by simp only [ref27_inside, ref27_inside_e]; exact rfl) ?_
  have outer : ∀ (q i : Nat), q + i = st.env.length → Ev2 (fun n m => ref27_inside_l2 n m name i st) (insideT (st.env.drop i) name) := by
    intro q
    induction q with
    | zero =>
      intro i hi
      obtain rfl : i = st.env.length := by omega
      refine Ev2.lp (fun n m => by simp only [ref27_inside_l2, ref27_inside_b2]; exact rfl) ?_
      simp only [Int.lt_irrefl, decide_false, cond_false]
      rw [List.drop_length]
      exact Ev2.pure
    | succ q ih =>
      intro i hi
      have hi' : i < st.env.length := by omega
      have hd := h.env _ (List.getElem_mem hi')
      obtain ⟨N0, h0⟩ := ih (i + 1) (by omega)
      have e0 : insideT (st.env.drop i) name = ((namesT st.env[i]).any (beneathB name) || insideT (st.env.drop (i + 1)) name) := by
        unfold insideT; rw [any_drop _ _ _ hi']
      generalize hL : namesT st.env[i] = L at e0
      have hLl : L.length ≤ cap + 2 := by rw [← hL]; exact namesT_len hd
      have inner : ∀ (d k : Nat), d + k = L.length → ∃ N, ∀ n m j, N ≤ n → N ≤ m → N ≤ j → ref27_inside_l1 n (ref27_inside_l2 n m) j name i L k st = some ((L.drop k).any (beneathB name) || insideT (st.env.drop (i + 1)) name) := by
        intro d
        induction d with
        | zero =>
          intro k hk
          obtain rfl : k = L.length := by omega
          refine ⟨N0 + 1, fun n m j hn hm hj => ?_⟩
          obtain ⟨j, rfl⟩ : ∃ q, j = q + 1 := ⟨j - 1, by omega⟩
          simp only [ref27_inside_l1, ref27_inside_b1, Int.lt_irrefl, decide_false, cond_false]
          rw [wrap_next (by simp only [cap] at hl; omega), List.drop_length, List.any_nil, Bool.false_or]
          exact h0 n m (by omega) (by omega)
        | succ d ihd =>
          intro k hk
          have hk' : k < L.length := by omega
          obtain ⟨N1, h1⟩ := ihd (k + 1) (by omega)
          refine ⟨N1 + 1, fun n m j hn hm hj => ?_⟩
          obtain ⟨j, rfl⟩ : ∃ q, j = q + 1 := ⟨j - 1, by omega⟩
          have h1' := h1 n m j (by omega) (by omega) (by omega)
          rw [any_drop _ _ _ hk']
          have hwk : IntKind.i64.wrap ((k : Int) + 1) = ((k + 1 : Nat) : Int) := wrap_next (by simp only [cap] at hLl; omega)
          simp only [ref27_inside_l1, ref27_inside_b1, hk', Int.ofNat_lt, decide_true, cond_true, idxA_at hk', Option.bind_some, hw, hwk, d1, h1', Int.toNat_natCast]
          unfold beneathB
          cases hlt : decide (name.length < L[k].length) with
          | false => simp only [cond_false, Bool.false_and, Bool.false_or]
          | true =>
            have := of_decide_eq_true hlt
            have d2 : decide ((0 : Int) ≤ ((name.length + 1 : Nat) : Int) ∧ ((name.length + 1 : Nat) : Int) ≤ (L[k].length : Int)) = true := decide_eq_true (by omega)
            simp only [d2, cond_true, Bool.true_and]
            cases L[k].take (name.length + 1) == name ++ [46] with
            | true => rfl
            | false => simp only [cond_false, Bool.false_or]
      refine Ev2.lp (fun n m => by simp only [ref27_inside_l2, ref27_inside_b2]; exact rfl) ?_
      simp only [hi', Int.ofNat_lt, decide_true, cond_true]
      refine Ev2.idx hi' ?_
      refine Ev2.bind1 (ref_Names_ev _ hd) ?_
      rw [hL, e0]
      obtain ⟨N1, h1⟩ := inner L.length 0 (by omega)
      exact ⟨N1, fun n m hn hm => h1 n m n hn hm hn⟩
  have := outer st.env.length 0 (by omega)
  exact Ev.of2 this
theorem ref_Open_ev (st : State) (h : SOK st) (name : Str) (hn : name.length ≤ cap) : Ev (fun n => ref27_Open n st name) (enterT st name) := by
  have hop := h.op
  refine Ev.fn (fun n => by simp only [ref27_Open, ref27_Open_e]; exact rfl) ?_
  refine Ev.bind (ref_Name_ev name (by omega)) ?_
  unfold enterT
  cases nameT name with
  | false => exact Ev.pure
  | true =>
  simp only [cond_true]
  refine Ev.bind (ref_inside_ev st h name hn) ?_
  cases insideT st.env name with
  | false => exact Ev.pure
  | true =>
    simp only [cond_true]
    refine Ev.bind (Has_ev st.opens name (by omega)) ?_
    cases st.opens.any (· == name) with
    | true => exact Ev.pure
    | false =>
      simp only [cond_false]
      have d3 : decide (st.opens.length * 16 ≤ 17592186044416) = true := decide_eq_true (by simp only [cap] at *; omega)
      cases decide (100 ≤ (st.opens.length : Int)) with
      | true => exact Ev.pure
      | false =>
        simp only [cond_false, d3, room16 (k := st.opens.length) (by omega), cond_true]
        exact Ev.pure
theorem SameNames_ev (l : List Str) (hl : l.length ≤ cap + 1) : Ev (fun n => ref07_SameNames n l l) true := by
  refine Tot.ev ?_
  refine Tot.fn (fun n => by simp only [ref07_SameNames, ref07_SameNames_e]; exact rfl) ?_
  simp only [bne_self_eq_false, cond_false]
  refine Tot.of2 (F := fun n m => ref07_SameNames_l1 n m l l 0) ?_
  refine Tot2.up (S := Unit) (L := fun n m i _ => ref07_SameNames_l1 n m l l i) l.length (fun _ _ => True) _ ?_ ?_ 0 () (by omega) trivial
  · intro i u hi _ next
    refine Tot2.lp (fun n m => by simp only [ref07_SameNames_l1, ref07_SameNames_b1]; exact rfl) ?_
    simp only [hi, Int.ofNat_lt, decide_true, cond_true]
    refine Tot2.idx hi (Tot2.idx hi ?_)
    simp only [beq_self_eq_true, cond_true]
    rw [wrap_next (by simp only [cap] at hl; omega)]
    exact next u trivial
  · intro u _
    refine Tot2.lp (fun n m => by simp only [ref07_SameNames_l1, ref07_SameNames_b1]; exact rfl) ?_
    simp only [Int.lt_irrefl, decide_false, cond_false]
    exact Tot2.pure rfl
structure SOK2 (st : State) : Prop where
  ns : st.nspace.length ≤ cap + 1
  op : st.opens.length ≤ cap + 1
  cl : st.classes.length ≤ cap
  ins : st.instances.length ≤ cap
theorem Same_ev (st : State) (h : SOK2 st) : Ev (fun n => ref27_Same n st st) true := by
  obtain ⟨h1, h2, h3, h4⟩ := h
  refine Ev.fn (fun n => by simp only [ref27_Same, ref27_Same_e]; exact rfl) ?_
  refine Ev.bind (SameNames_ev _ h1) ?_
  simp only [cond_true]
  refine Ev.bind (SameNames_ev _ h2) ?_
  simp only [cond_true]
  refine Ev.bind (SameNames_ev _ (by omega)) ?_
  simp only [cond_true]
  refine Ev.bind (SameNames_ev _ (by omega)) ?_
  simp only [cond_true, beq_self_eq_true]
  exact Ev.pure
theorem noState_ok : SOK2 noState := ⟨by simp [noState], by simp [noState], by simp [noState], by simp [noState]⟩
end Go.Abs
namespace Go.Abs
set_option linter.unusedVariables false
set_option linter.unusedSimpArgs false
theorem sumB_mem {α : Type} {f : α → Nat} : ∀ {xs : List α} {x : α}, x ∈ xs → f x ≤ sumB f xs
  | y :: ys, x, h => by
    simp only [sumB]
    rcases List.mem_cons.mp h with rfl | h
    · omega
    · have := sumB_mem (f := f) h; omega
theorem sumB_len {α : Type} {f : α → Nat} (h : ∀ x, 1 ≤ f x) : ∀ xs : List α, xs.length ≤ sumB f xs
  | [] => by simp [sumB]
  | y :: ys => by have := sumB_len h ys; have := h y; simp only [sumB, List.length_cons]; omega
theorem sumB_lenS : ∀ l : List Str, sumB (fun m : Str => m.length + 1) l = lenS l + 1
  | [] => rfl
  | x :: l => by simp only [sumB, lenS]; rw [sumB_lenS l]; omega
theorem DOK.of {d : Decl} (h : d.bulk ≤ 1048576) : DOK d := by
  unfold Decl.bulk at h
  have h1 := sumB_len (f := Ctor.bulk) (fun x => by unfold Ctor.bulk; omega) d.ctors
  have h2 := sumB_len (f := Fun.bulk) (fun x => by unfold Fun.bulk; omega) d.funs
  exact ⟨by simp only [cap]; omega, by simp only [cap]; omega, by simp only [cap]; omega⟩
theorem SOK.of {st : State} (h : st.bulk ≤ 1048576) : SOK st := by
  unfold State.bulk at h
  simp only [sumB_lenS] at h
  have h1 := sumB_len (f := Decl.bulk) (fun x => by unfold Decl.bulk; omega) st.env
  refine ⟨fun d hd => DOK.of ?_, by simp only [cap]; omega, by simp only [cap]; omega, ?_, fun o ho => ?_⟩
  · have := sumB_mem (f := Decl.bulk) hd; omega
  · have := lenS_le st.opens; simp only [cap]; omega
  · have := lenS_mem ho; simp only [cap]; omega
theorem SOK2.of {st : State} (h : st.bulk ≤ 1048576) : SOK2 st := by
  unfold State.bulk at h
  simp only [sumB_lenS] at h
  have h1 := lenS_le st.nspace
  have h2 := lenS_le st.opens
  have h3 := lenS_le st.classes
  have h4 := lenS_le st.instances
  exact ⟨by simp only [cap]; omega, by simp only [cap]; omega, by simp only [cap]; omega, by simp only [cap]; omega⟩
theorem SOK2.mk2 {st : State} (h : SOK2 st) {ns op : List Str} (h1 : ns.length ≤ cap + 1) (h2 : op.length ≤ cap + 1) : SOK2 { st with nspace := ns, opens := op } := ⟨h1, h2, h.cl, h.ins⟩
def Tot3 {R : Type} (F : Nat → Nat → Nat → Option R) : Prop := ∃ r N, ∀ n m j, N ≤ n → N ≤ m → N ≤ j → F n m j = some r
theorem Tot3.pure {R : Type} {r : R} : Tot3 (fun _ _ _ => some r) := ⟨r, 0, fun _ _ _ _ _ _ => rfl⟩
theorem Tot3.of2 {R : Type} {F : Nat → Nat → Option R} (h : Tot2 F fun _ => True) : Tot3 (fun n m _ => F n m) := by
  obtain ⟨r, _, N, h⟩ := h
  exact ⟨r, N, fun n m j hn hm _ => h n m hn hm⟩
theorem Tot3.to2 {R : Type} {F : Nat → Nat → Nat → Option R} (h : Tot3 F) : Tot2 (fun n m => F n m n) fun _ => True := by
  obtain ⟨r, N, h⟩ := h
  exact ⟨r, trivial, N, fun n m hn hm => h n m n hn hm hn⟩
theorem Tot3.lp {R : Type} {F G : Nat → Nat → Nat → Option R} (h : ∀ n m j, F n m (j + 1) = G n m j) (hg : Tot3 G) : Tot3 F := by
  obtain ⟨r, N, hg⟩ := hg
  refine ⟨r, N + 1, fun n m j hn hm hj => ?_⟩
  obtain ⟨j, rfl⟩ : ∃ q, j = q + 1 := ⟨j - 1, by omega⟩
  rw [h]; exact hg n m j (by omega) (by omega) (by omega)
theorem Tot3.cnd {R : Type} {c : Bool} {A B : Nat → Nat → Nat → Option R} (h1 : c = true → Tot3 A) (h2 : c = false → Tot3 B) : Tot3 (fun n m j => bif c then A n m j else B n m j) := by
  cases c with
  | true => exact h1 rfl
  | false => exact h2 rfl
theorem Tot3.idx {R S : Type} {xs : List S} {i : Nat} {G : Nat → Nat → Nat → S → Option R} (hi : i < xs.length) (hg : Tot3 (fun n m j => G n m j xs[i])) : Tot3 (fun n m j => (idxA xs (i : Int)).bind (G n m j)) := by
  simp only [idxA_at hi]; exact hg
theorem few1 (st : State) (i : Nat) (hi : i + 1 ≤ cap) (fs : List Fun) (hfs : fs.length ≤ cap) (hnext : Tot2 (fun n m => law27_Few_l3 n m st.env st.env.length ((i + 1 : Nat) : Int) st) fun _ => True) :
    ∀ d k : Nat, d + k = fs.length → Tot3 (fun n m j => law27_Few_l1 n (law27_Few_l3 n m) j st.env st.env.length i fs fs.length k st) := by
  intro d
  induction d with
  | zero =>
    intro k hk
    obtain rfl : k = fs.length := by omega
    refine Tot3.lp (fun n m j => by simp only [law27_Few_l1, law27_Few_b1]; exact rfl) ?_
    simp only [Int.lt_irrefl, decide_false, cond_false]
    rw [wrap_next (by simp only [cap] at hi; omega)]
    exact Tot3.of2 hnext
  | succ d ih =>
    intro k hk
    have hk' : k < fs.length := by omega
    refine Tot3.lp (fun n m j => by simp only [law27_Few_l1, law27_Few_b1]; exact rfl) ?_
    simp only [hk', Int.ofNat_lt, decide_true, cond_true]
    refine Tot3.idx hk' ?_
    rw [wrap_next (by simp only [cap] at hfs; omega)]
    exact Tot3.cnd (fun _ => Tot3.pure) fun _ => ih (k + 1) (by omega)
theorem few2 (st : State) (i : Nat) (hi : i + 1 ≤ cap) (dc : Decl) (hd : DOK dc) (hnext : Tot2 (fun n m => law27_Few_l3 n m st.env st.env.length ((i + 1 : Nat) : Int) st) fun _ => True) :
    ∀ d k : Nat, d + k = dc.ctors.length → Tot3 (fun n m j => law27_Few_l2 n (law27_Few_l3 n m) j st.env st.env.length i dc.ctors dc.ctors.length k st dc) := by
  have hc := hd.ctors
  intro d
  induction d with
  | zero =>
    intro k hk
    obtain rfl : k = dc.ctors.length := by omega
    refine Tot3.lp (fun n m j => by simp only [law27_Few_l2, law27_Few_b2]; exact rfl) ?_
    simp only [Int.lt_irrefl, decide_false, cond_false]
    have := few1 st i hi dc.funs hd.funs hnext dc.funs.length 0 (by omega)
    exact Tot3.of2 this.to2
  | succ d ih =>
    intro k hk
    have hk' : k < dc.ctors.length := by omega
    refine Tot3.lp (fun n m j => by simp only [law27_Few_l2, law27_Few_b2]; exact rfl) ?_
    simp only [hk', Int.ofNat_lt, decide_true, cond_true]
    refine Tot3.idx hk' ?_
    rw [wrap_next (by simp only [cap] at hc; omega)]
    exact Tot3.cnd (fun _ => Tot3.pure) fun _ => ih (k + 1) (by omega)
theorem short_tot (l : List Str) (hl : l.length ≤ cap) : Tot (fun n => law27_short n l) fun _ => True := by
  refine Tot.fn (fun n => by simp only [law27_short, law27_short_e]; exact rfl) ?_
  refine Tot.cnd (fun _ => ?_) fun _ => Tot.pure trivial
  refine Tot.bind (P := fun _ => True) ?_ fun x _ => Tot.pure trivial
  refine Tot.fn (fun n => by simp only [slices_ContainsFunc_string_law27_short_1, slices_ContainsFunc_string_law27_short_1_e]; exact rfl) ?_
  refine Tot.bind (P := fun _ => True) ?_ fun x _ => Tot.pure trivial
  refine Tot.fn (fun n => by simp only [slices_IndexFunc_string_law27_short_1, slices_IndexFunc_string_law27_short_1_e]; exact rfl) ?_
  refine Tot.of2 (F := fun n m => slices_IndexFunc_string_law27_short_1_l1 n m l l.length 0) ?_
  refine Tot2.up (S := Unit) (L := fun n m i _ => slices_IndexFunc_string_law27_short_1_l1 n m l l.length i) l.length (fun _ _ => True) _ ?_ ?_ 0 () (by omega) trivial
  · intro i u hi _ next
    refine Tot2.lp (fun n m => by simp only [slices_IndexFunc_string_law27_short_1_l1, slices_IndexFunc_string_law27_short_1_b1]; exact rfl) ?_
    simp only [hi, Int.ofNat_lt, decide_true, cond_true]
    refine Tot2.idx hi ?_
    rw [wrap_next (by simp only [cap] at hl; omega)]
    refine Tot2.bind1 (P := fun _ => True) ?_ fun x _ => Tot2.cnd (fun _ => Tot2.pure trivial) fun _ => next u trivial
    refine Tot.fn (fun n => by simp only [law27_short_1, law27_short_1_e]; exact rfl) ?_
    exact Tot.pure trivial
  · intro u _
    refine Tot2.lp (fun n m => by simp only [slices_IndexFunc_string_law27_short_1_l1, slices_IndexFunc_string_law27_short_1_b1]; exact rfl) ?_
    simp only [Int.lt_irrefl, decide_false, cond_false]
    exact Tot2.pure trivial
theorem fewIdx_tot (l : List Str) (hl : l.length ≤ cap) : Tot (fun n => slices_ContainsFunc_string_law27_Few_1 n l ()) fun _ => True := by
  refine Tot.fn (fun n => by simp only [slices_ContainsFunc_string_law27_Few_1, slices_ContainsFunc_string_law27_Few_1_e]; exact rfl) ?_
  refine Tot.bind (P := fun _ => True) ?_ fun x _ => Tot.pure trivial
  refine Tot.fn (fun n => by simp only [slices_IndexFunc_string_law27_Few_1, slices_IndexFunc_string_law27_Few_1_e]; exact rfl) ?_
  refine Tot.of2 (F := fun n m => slices_IndexFunc_string_law27_Few_1_l1 n m l l.length 0) ?_
  refine Tot2.up (S := Unit) (L := fun n m i _ => slices_IndexFunc_string_law27_Few_1_l1 n m l l.length i) l.length (fun _ _ => True) _ ?_ ?_ 0 () (by omega) trivial
  · intro i u hi _ next
    refine Tot2.lp (fun n m => by simp only [slices_IndexFunc_string_law27_Few_1_l1, slices_IndexFunc_string_law27_Few_1_b1]; exact rfl) ?_
    simp only [hi, Int.ofNat_lt, decide_true, cond_true]
    refine Tot2.idx hi ?_
    rw [wrap_next (by simp only [cap] at hl; omega)]
    refine Tot2.bind1 (P := fun _ => True) ?_ fun x _ => Tot2.cnd (fun _ => Tot2.pure trivial) fun _ => next u trivial
    refine Tot.fn (fun n => by simp only [law27_Few_1, law27_Few_1_e]; exact rfl) ?_
    exact Tot.pure trivial
  · intro u _
    refine Tot2.lp (fun n m => by simp only [slices_IndexFunc_string_law27_Few_1_l1, slices_IndexFunc_string_law27_Few_1_b1]; exact rfl) ?_
    simp only [Int.lt_irrefl, decide_false, cond_false]
    exact Tot2.pure trivial
theorem Few_tot (st : State) (h : SOK st) (h2 : SOK2 st) : Tot (fun n => law27_Few n st) fun _ => True := by
  have hl := h.envl
  have hns := h.ns
  have hll := lenS_le st.nspace
  refine Tot.fn (fun n => by simp only [law27_Few, law27_Few_e]; exact rfl) ?_
  refine Tot.of2 (F := fun n m => law27_Few_l3 n m st.env st.env.length 0 st) ?_
  refine Tot2.up (S := Unit) (L := fun n m i _ => law27_Few_l3 n m st.env st.env.length i st) st.env.length (fun _ _ => True) _ ?_ ?_ 0 () (by omega) trivial
  · intro i u hi _ next
    refine Tot2.lp (fun n m => by simp only [law27_Few_l3, law27_Few_b3]; exact rfl) ?_
    simp only [hi, Int.ofNat_lt, decide_true, cond_true]
    refine Tot2.idx hi ?_
    refine Tot2.cnd (fun _ => Tot2.pure trivial) fun _ => Tot2.cnd (fun _ => Tot2.pure trivial) fun _ => Tot2.cnd (fun _ => Tot2.pure trivial) fun _ => ?_
    have := few2 st i (by omega) st.env[i] (h.env _ (List.getElem_mem hi)) (next u trivial) st.env[i].ctors.length 0 (by omega)
    exact this.to2
  · intro u _
    refine Tot2.lp (fun n m => by simp only [law27_Few_l3, law27_Few_b3]; exact rfl) ?_
    simp only [Int.lt_irrefl, decide_false, cond_false]
    refine Tot2.cnd (fun _ => ?_) fun _ => Tot2.pure trivial
    refine Tot2.bind1 (short_tot st.nspace (by omega)) fun x _ => ?_
    refine Tot2.cnd (fun _ => ?_) fun _ => Tot2.pure trivial
    refine Tot2.cnd (fun _ => ?_) fun _ => Tot2.pure trivial
    refine Tot2.bind1 (fewIdx_tot st.opens h.op) fun x _ => ?_
    refine Tot2.cnd (fun _ => Tot2.pure trivial) fun _ => ?_
    refine Tot2.bind1 (short_tot st.classes h2.cl) fun x _ => ?_
    refine Tot2.cnd (fun _ => ?_) fun _ => Tot2.pure trivial
    exact Tot2.bind1 (short_tot st.instances h2.ins) fun x _ => Tot2.pure trivial
theorem wake_ev : Ev (fun n => (law27_awake n).bind fun x => some x) true := Ev.bind awake_ev Ev.pure
theorem Ev.ex {F : Nat → Option Bool} {r : Bool} (h : Ev F r) : ∃ n, F n = some r := by
  obtain ⟨N, h⟩ := h
  exact ⟨N, h N (Nat.le_refl _)⟩
theorem law_of (st : State) (nm : Str) (h : SOK st) (h2 : SOK2 st) {A : Nat → Option Bool} (hA : nm.length ≤ 200 → Ev A true) :
    Ev (fun n => (law27_Few n st).bind fun x => bif x then bif decide (200 < (nm.length : Int)) then (law27_awake n).bind fun x => some x else A n else (law27_awake n).bind fun x => some x) true := by
  refine Tot.ev (Tot.bind (Few_tot st h h2) fun x _ => ?_)
  refine Tot.cnd (fun _ => Tot.cnd (fun _ => wake_ev.tot rfl) fun hc => ?_) fun _ => wake_ev.tot rfl
  refine (hA ?_).tot rfl
  have := of_decide_eq_false hc
  omega
theorem law27_ScopeResolves_plain (x0 : State) (x1 : Str) (hb : x0.bulk + (x1.length + 1) ≤ 1048576) (hw : x0.wf) (hw1 : True) : ∃ n, law27_ScopeResolves n x0 x1 = some true := by
  have h : SOK x0 := SOK.of (by omega)
  have h2 : SOK2 x0 := SOK2.of (by omega)
  refine Ev.ex ?_
  refine Ev.fn (fun n => by simp only [law27_ScopeResolves, law27_ScopeResolves_e]; exact rfl) ?_
  refine law_of x0 x1 h h2 fun hl => ?_
  have hl' : x1.length ≤ cap := by simp only [cap]; omega
  refine Ev.bind (Resolve_ev x0 h x1 (by omega)) (Ev.bind (ref_Resolve_ev x0 h x1 (by omega)) (Ev.bind (Shortest_ev x0 h x1 hl') (Ev.bind (ref_Shortest_ev x0 h x1 hl') ?_)))
  simp only [beq_self_eq_true, cond_true]
  refine Ev.bind (Declared_ev x0 h x1) (Ev.bind (ref_Declared_ev x0 h x1) ?_)
  simp only [beq_self_eq_true, cond_true]
  have hq := Qualify_ev x0 h x1 (by omega)
  refine Ev.bind hq.1 (Ev.bind hq.2 ?_)
  simp only [beq_self_eq_true, cond_true]
  exact wake_ev
theorem bne_self {α : Type} [BEq α] [LawfulBEq α] (a : α) : (a != a) = false := by rw [bne, beq_self_eq_true]; rfl
theorem nspaceT_ok (st : State) (nm : Str) (h2 : SOK2 st) : SOK2 (nspaceT st nm).1 := by
  unfold nspaceT
  cases nameT nm with
  | false => exact noState_ok
  | true =>
    cases hc : decide (16 ≤ (st.nspace.length : Int)) with
    | true => exact noState_ok
    | false =>
      cases decide (64 < ((joinT st.nspace nm).length : Int)) with
      | true => exact noState_ok
      | false =>
        have := of_decide_eq_false hc
        exact ⟨by simp only [cond_true, cond_false, List.length_append, List.length_singleton, cap]; omega, h2.op, h2.cl, h2.ins⟩
theorem endT_ok (st : State) (nm : Str) (h2 : SOK2 st) : SOK2 (endT st nm).1 := by
  unfold endT
  cases hr : st.nspace.reverse with
  | nil => exact noState_ok
  | cons x r =>
    simp only
    cases x == nm with
    | false => exact noState_ok
    | true =>
      have h1 := h2.ns
      have e : st.nspace.length = r.length + 1 := by rw [← List.length_reverse, hr, List.length_cons]
      exact ⟨by simp only [cond_true, List.length_reverse]; omega, h2.op, h2.cl, h2.ins⟩
theorem enterT_ok (st : State) (nm : Str) (h2 : SOK2 st) : SOK2 (enterT st nm).1 := by
  unfold enterT
  cases nameT nm with
  | false => exact noState_ok
  | true =>
    cases insideT st.env nm with
    | false => exact noState_ok
    | true =>
      cases st.opens.any (· == nm) with
      | true => exact h2
      | false =>
        cases hc : decide (100 ≤ (st.opens.length : Int)) with
        | true => exact noState_ok
        | false =>
          have := of_decide_eq_false hc
          exact ⟨h2.ns, by simp only [cond_true, cond_false, List.length_append, List.length_singleton, cap]; omega, h2.cl, h2.ins⟩
theorem law27_ScopeEnters_plain (x0 : State) (x1 : Str) (hb : x0.bulk + (x1.length + 1) ≤ 1048576) (hw : x0.wf) (hw1 : True) : ∃ n, law27_ScopeEnters n x0 x1 = some true := by
  have h : SOK x0 := SOK.of (by omega)
  have h2 : SOK2 x0 := SOK2.of (by omega)
  refine Ev.ex ?_
  refine Ev.fn (fun n => by simp only [law27_ScopeEnters, law27_ScopeEnters_e]; exact rfl) ?_
  refine law_of x0 x1 h h2 fun hl => ?_
  have hl' : x1.length ≤ cap := by simp only [cap]; omega
  have hn := Namespace_ev x0 h x1 hl'
  refine Ev.bind hn.1 (Ev.bind hn.2 (Ev.bind (Same_ev _ (nspaceT_ok x0 x1 h2)) ?_))
  simp only [bne_self, cond_true, cond_false]
  have he := End_ev x0 h x1
  refine Ev.bind he.1 (Ev.bind he.2 (Ev.bind (Same_ev _ (endT_ok x0 x1 h2)) ?_))
  simp only [bne_self, cond_true, cond_false]
  refine Ev.bind (Open_ev x0 h x1 hl') (Ev.bind (ref_Open_ev x0 h x1 hl') (Ev.bind (Same_ev _ (enterT_ok x0 x1 h2)) ?_))
  simp only [beq_self_eq_true, cond_true]
  exact wake_ev
end Go.Abs
namespace Go.Abs
set_option linter.unusedVariables false
set_option linter.unusedSimpArgs false
theorem joinT_end (nm : Str) : ∀ l : List Str, l ≠ [] → ∃ p, joinT l nm = p ++ 46 :: nm ∧ p.length ≤ lenS l
  | [], h => absurd rfl h
  | [x], _ => ⟨x, rfl, by simp only [lenS]; omega⟩
  | x :: y :: r, _ => by
    obtain ⟨p, hp, hl⟩ := joinT_end nm (y :: r) (by simp)
    exact ⟨x ++ 46 :: p, by rw [joinT_cons, hp]; simp, by rw [lenS, List.length_append, List.length_cons]; omega⟩
theorem scanT_some {env : List Decl} {ns : List Str} {nm s : Str} : ∀ k : Nat, k ≤ ns.length → scanT env ns nm k = some s → declT env s = true ∧ ∃ p, s = p ++ 46 :: nm ∧ p.length ≤ lenS ns
  | 0, _, h => by simp [scanT] at h
  | k + 1, hk, h => by
    rw [scanT] at h
    cases hd : declT env (joinT (ns.take (k + 1)) nm) with
    | true =>
      rw [hd, cond_true] at h
      obtain rfl := Option.some.inj h
      obtain ⟨p, hp, hl⟩ := joinT_end nm (ns.take (k + 1)) (by
        intro e
        have := congrArg List.length e
        rw [List.length_take] at this
        simp only [List.length_nil] at this
        omega)
      exact ⟨hd, p, hp, Nat.le_trans hl (lenS_take _ _)⟩
    | false =>
      rw [hd, cond_false] at h
      exact scanT_some k (by omega) h
theorem scanT_here {env : List Decl} {ns : List Str} {nm : Str} (hne : ns ≠ []) (hd : declT env (joinT ns nm) = true) : scanT env ns nm ns.length = some (joinT ns nm) := by
  cases hl : ns.length with
  | zero => exact absurd (List.eq_nil_of_length_eq_zero hl) hne
  | succ k => rw [scanT, ← hl, List.take_length, hd]; rfl
theorem cand_mem {env : List Decl} {opens : List Str} {nm s : Str} (hop : ∀ o ∈ opens, o.length ≤ cap) (h : s ∈ candT env opens nm) : declT env s = true ∧ ∃ p, s = p ++ 46 :: nm ∧ p.length ≤ cap := by
  unfold candT at h
  rw [List.mem_filter, List.mem_map] at h
  obtain ⟨⟨o, ho, rfl⟩, hd⟩ := h
  exact ⟨hd, o, by simp, hop o ho⟩
theorem openT_found {env : List Decl} {opens : List Str} {nm : Str} (hop : ∀ o ∈ opens, o.length ≤ cap) (h : (openT env nm (candT env opens nm)).2 = 0) : declT env (openT env nm (candT env opens nm)).1 = true ∧ ((openT env nm (candT env opens nm)).1 = nm ∨ ∃ p, (openT env nm (candT env opens nm)).1 = p ++ 46 :: nm ∧ p.length ≤ cap) := by
  cases hc : candT env opens nm with
  | nil =>
    rw [hc] at h
    simp only [openT] at h ⊢
    cases hd : declT env nm with
    | true => exact ⟨hd, Or.inl rfl⟩
    | false => rw [hd] at h; simp at h
  | cons s r =>
    have hm : s ∈ candT env opens nm := by rw [hc]; simp
    rw [hc] at h
    simp only [openT] at h ⊢
    cases ha : r.all (· == s) with
    | true => exact ⟨(cand_mem hop hm).1, Or.inr (cand_mem hop hm).2⟩
    | false => rw [ha] at h; simp at h
theorem openT_lost {env : List Decl} {nm : Str} {c : List Str} (h : (openT env nm c).2 ≠ 0) : (openT env nm c).1 = [] ∧ ((openT env nm c).2 = 8 ∨ (openT env nm c).2 = 9 ∧ declT env nm = false) := by
  cases c with
  | nil =>
    simp only [openT] at h ⊢
    cases hd : declT env nm with
    | true => rw [hd] at h; simp at h
    | false => exact ⟨rfl, Or.inr ⟨rfl, rfl⟩⟩
  | cons s r =>
    simp only [openT] at h ⊢
    cases ha : r.all (· == s) with
    | true => rw [ha] at h; simp at h
    | false => exact ⟨rfl, Or.inl rfl⟩
theorem resT_bad {st : State} {nm : Str} (h : nameT nm = false) : resT st nm = ([], 29) := by unfold resT; rw [h]; rfl
theorem resT_scan {st : State} {nm s : Str} (h : nameT nm = true) (hs : scanT st.env st.nspace nm st.nspace.length = some s) : resT st nm = (s, 0) := by unfold resT; rw [h, hs]; rfl
theorem resT_open {st : State} {nm : Str} (h : nameT nm = true) (hs : scanT st.env st.nspace nm st.nspace.length = none) : resT st nm = openT st.env nm (candT st.env st.opens nm) := by unfold resT; rw [h, hs]; rfl
theorem resT_found {st : State} (hk : SOK st) {nm : Str} (h : (resT st nm).2 = 0) : declT st.env (resT st nm).1 = true ∧ ((resT st nm).1 = nm ∨ ∃ p, (resT st nm).1 = p ++ 46 :: nm ∧ p.length ≤ cap) ∧ (st.nspace ≠ [] → declT st.env (joinT st.nspace nm) = true → (resT st nm).1 = joinT st.nspace nm) := by
  have hns := hk.ns
  cases hnm : nameT nm with
  | false => rw [resT_bad hnm] at h; cases h
  | true =>
    cases hs : scanT st.env st.nspace nm st.nspace.length with
    | some s =>
      obtain ⟨h1, p, hp, hl⟩ := scanT_some _ (Nat.le_refl _) hs
      rw [resT_scan hnm hs]
      refine ⟨h1, Or.inr ⟨p, hp, by omega⟩, fun hne hd => ?_⟩
      rw [scanT_here hne hd] at hs
      exact (Option.some.inj hs).symm
    | none =>
      rw [resT_open hnm hs] at h ⊢
      have := openT_found hk.ops h
      refine ⟨this.1, this.2, fun hne hd => ?_⟩
      rw [scanT_here hne hd] at hs
      cases hs
theorem resT_lost {st : State} {nm : Str} (h : (resT st nm).2 ≠ 0) : (resT st nm).1 = [] ∧ ((resT st nm).2 = 29 ∨ (declT st.env (joinT st.nspace nm) = true → st.nspace.length = 0 ∧ (resT st nm).2 = 8)) := by
  cases hnm : nameT nm with
  | false => rw [resT_bad hnm]; exact ⟨rfl, Or.inl rfl⟩
  | true =>
    cases hs : scanT st.env st.nspace nm st.nspace.length with
    | some s => rw [resT_scan hnm hs] at h; exact absurd rfl h
    | none =>
      rw [resT_open hnm hs] at h ⊢
      have := openT_lost h
      refine ⟨this.1, Or.inr fun hd => ?_⟩
      cases hz : st.nspace with
      | cons x r =>
        rw [scanT_here (by rw [hz]; simp) hd] at hs
        cases hs
      | nil =>
        rw [hz] at hd
        refine ⟨rfl, ?_⟩
        rcases this.2 with h8 | ⟨_, h9⟩
        · exact h8
        · have hd' : declT st.env nm = true := hd
          rw [hd'] at h9; cases h9
theorem HasSuffix_ev (p s : Str) (h : p.length + s.length ≤ 9223372036854775807) : Ev (fun n => strings_HasSuffix n (p ++ s) s) true := by
  refine Ev.fn (fun n => by simp only [strings_HasSuffix, strings_HasSuffix_e]; exact rfl) ?_
  refine Ev.bind (x := true) ?_ Ev.pure
  refine Ev.fn (fun n => by simp only [internal_stringslite_HasSuffix, internal_stringslite_HasSuffix_e]; exact rfl) ?_
  have hl : (p ++ s).length = p.length + s.length := List.length_append
  have hw : IntKind.i64.wrap (((p ++ s).length : Int) - (s.length : Int)) = (p.length : Int) := by
    rw [wrap_small (by omega) (by omega)]; omega
  have d1 : decide ((s.length : Int) ≤ ((p ++ s).length : Int)) = true := decide_eq_true (by omega)
  have d2 : decide ((0 : Int) ≤ (p.length : Int) ∧ (p.length : Int) ≤ ((p ++ s).length : Int) ∧ ((p ++ s).length : Int) ≤ ((p ++ s).length : Int)) = true := decide_eq_true (by omega)
  simp only [hw, d1, d2, cond_true, Int.toNat_natCast, List.take_length, List.drop_left, beq_self_eq_true]
  exact Ev.pure
theorem here_ev (l : List Str) (nm : Str) (h : lenS l ≤ cap * 2) (hn : nm.length ≤ cap * 2) {R : Type} {G : Nat → Str → Option R} {r : R} (hG : Ev (fun n => G n (joinT l nm)) r) :
    Ev (fun n => (slices_Clone_string_2_h n l).bind fun x => bif decide ((x.fst.fst.length + 1) * 16 ≤ 17592186044416) then (strings_Join n (x.fst.fst ++ [nm]) [46]).bind (G n) else none) r := by
  have hll := lenS_le l
  refine Ev.bind (Clone_ev l (by omega)).2 ?_
  simp only [room16 (k := l.length) (by omega), cond_true]
  have hj := joinT_len nm l
  have := Join_ev (l ++ [nm]) [46] (by rw [join_snoc, hj]; simp only [cap] at h hn; omega) (by rw [List.length_append]; simp only [cap, List.length_singleton] at *; omega)
  rw [join_snoc] at this
  exact Ev.bind this hG
theorem law27_ScopeFinds_plain (x0 : State) (x1 : Str) (hb : x0.bulk + (x1.length + 1) ≤ 1048576) (hw : x0.wf) (hw1 : True) : ∃ n, law27_ScopeFinds n x0 x1 = some true := by
  have h : SOK x0 := SOK.of (by omega)
  have h2 : SOK2 x0 := SOK2.of (by omega)
  have hns := h.ns
  refine Ev.ex ?_
  refine Ev.fn (fun n => by simp only [law27_ScopeFinds, law27_ScopeFinds_e]; exact rfl) ?_
  refine law_of x0 x1 h h2 fun hl => ?_
  have hl' : x1.length ≤ cap := by simp only [cap]; omega
  refine Ev.bind (Resolve_ev x0 h x1 (by omega)) ?_
  generalize hr : resT x0 x1 = r
  cases hz : r.2 == 0 with
  | false =>
    have hne : (r.2 != 0) = true := by rw [bne, hz]; rfl
    have hlost := resT_lost (st := x0) (nm := x1) (by rw [hr]; exact beq_eq_false_iff_ne.1 hz)
    rw [hr] at hlost
    simp only [hne, cond_true, hlost.1, beq_self_eq_true]
    rcases hlost.2 with h29 | h8
    · simp only [h29, beq_self_eq_true, cond_true]; exact wake_ev
    · cases (r.2 == 29) with
      | true => exact wake_ev
      | false =>
        simp only [cond_false]
        refine here_ev x0.nspace x1 (by omega) (by omega) (G := fun n x_2 => (scope_Declared n x0 x_2).bind fun x_3 => bif x_3 then bif (x0.nspace.length : Int) == 0 then bif r.snd == 8 then (law27_awake n).bind fun x => some x else some false else some false else (law27_awake n).bind fun x => some x) ?_
        refine Ev.bind (Declared_ev x0 h _) ?_
        cases hd : declT x0.env (joinT x0.nspace x1) with
        | false => exact wake_ev
        | true =>
          obtain ⟨e1, e2⟩ := h8 hd
          simp only [e1, e2, cond_true]
          exact wake_ev
  | true =>
    have hne : (r.2 != 0) = false := by rw [bne, hz]; rfl
    have hfound := resT_found h (nm := x1) (by rw [hr]; exact beq_iff_eq.1 hz)
    rw [hr] at hfound
    obtain ⟨hd1, hsuf, hhere⟩ := hfound
    simp only [hne, cond_false]
    refine Ev.bind (Declared_ev x0 h _) ?_
    simp only [hd1, cond_true]
    have tail : Ev (fun n => (slices_Clone_string_2_h n x0.nspace).bind fun x_3 => bif decide ((x_3.fst.fst.length + 1) * 16 ≤ 17592186044416) then (strings_Join n (x_3.fst.fst ++ [x1]) [46]).bind fun x_4 => bif (x0.nspace.length : Int) == 0 then (law27_awake n).bind fun x => some x else (scope_Declared n x0 x_4).bind fun x_5 => bif x_5 then bif r.fst == x_4 then (law27_awake n).bind fun x => some x else some false else (law27_awake n).bind fun x => some x else none) true := by
      refine here_ev x0.nspace x1 (by omega) (by omega) (G := fun n x_4 => bif (x0.nspace.length : Int) == 0 then (law27_awake n).bind fun x => some x else (scope_Declared n x0 x_4).bind fun x_5 => bif x_5 then bif r.fst == x_4 then (law27_awake n).bind fun x => some x else some false else (law27_awake n).bind fun x => some x) ?_
      cases hzz : (x0.nspace.length : Int) == 0 with
      | true => exact wake_ev
      | false =>
        simp only [cond_false]
        have hnn : x0.nspace ≠ [] := by intro e; rw [e] at hzz; simp at hzz
        refine Ev.bind (Declared_ev x0 h _) ?_
        cases hd : declT x0.env (joinT x0.nspace x1) with
        | false => exact wake_ev
        | true =>
          have := hhere hnn hd
          simp only [this, beq_self_eq_true, cond_true]
          exact wake_ev
    cases heq : r.1 == x1 with
    | true => exact tail
    | false =>
      simp only [cond_false]
      rcases hsuf with e | ⟨p, hp, hpl⟩
      · rw [e, beq_self_eq_true] at heq; cases heq
      · have d1 : decide (1 + x1.length ≤ 9223372036854775807) = true := decide_eq_true (by omega)
        simp only [d1, cond_true]
        have hsx : Ev (fun n => strings_HasSuffix n r.1 (46 :: x1)) true := by
          rw [hp]
          exact HasSuffix_ev p (46 :: x1) (by simp only [List.length_cons, cap] at *; omega)
        refine Ev.bind hsx ?_
        exact tail
end Go.Abs
namespace Go.Abs
set_option linter.unusedVariables false
set_option linter.unusedSimpArgs false
theorem pieceEnds_len (P : List Str) : (pieceEnds P).length = P.length := by simp [pieceEnds]
theorem pieceEnds_at (P : List Str) (k : Nat) (hk : k < P.length) : (pieceEnds P)[k]'(by rw [pieceEnds_len]; exact hk) = Lib.join (P.drop (P.length - (k + 1))) [46] := by
  unfold pieceEnds
  rw [List.getElem_reverse]
  simp only [List.getElem_map, List.getElem_range, List.length_map, List.length_range]
  have : P.length - 1 - k = P.length - (k + 1) := by omega
  rw [this]
theorem shorten_loop (st : State) (h : SOK st) (nm : Str) (P : List Str) (hP : lenS P ≤ cap * 2) (v1 : Str) (v2 : Int)
    (hv : ∀ k : Nat, k ≤ P.length → ((pieceEnds P).drop k).find? (hitT st nm) = (pieceEnds P).find? (hitT st nm) → True)
    (hs : match (pieceEnds P).find? (hitT st nm) with | some s => v1 = s ∧ v2 = 0 | none => v1 = [] ∧ v2 ≠ 0) :
    ∀ (d k : Nat), d + k = P.length → ((pieceEnds P).drop k).find? (hitT st nm) = (pieceEnds P).find? (hitT st nm) → Ev2 (fun n m => law27_ScopeShortens_l1 n m nm v1 v2 P ((k + 1 : Nat) : Int) st) true := by
  have hll := lenS_le P
  have hPl := pieceEnds_len P
  intro d
  induction d with
  | zero =>
    intro k hk hf
    obtain rfl : k = P.length := by omega
    rw [← hPl, List.drop_length] at hf
    rw [← hf] at hs
    simp only [List.find?_nil] at hs
    refine Ev2.lp (fun n m => by simp only [law27_ScopeShortens_l1, law27_ScopeShortens_b1]; exact rfl) ?_
    have d1 : decide (((P.length + 1 : Nat) : Int) ≤ (P.length : Int)) = false := decide_eq_false (by omega)
    have d2 : (v2 != 0) = true := by rw [bne, beq_eq_false_iff_ne.2 hs.2]; rfl
    simp only [d1, d2, hs.1, cond_true, cond_false, beq_self_eq_true]
    exact Ev2.of1 wake_ev
  | succ d ih =>
    intro k hk hf
    have hk' : k < P.length := by omega
    have hkp : k < (pieceEnds P).length := by omega
    refine Ev2.lp (fun n m => by simp only [law27_ScopeShortens_l1, law27_ScopeShortens_b1]; exact rfl) ?_
    have hw : IntKind.i64.wrap ((P.length : Int) - ((k + 1 : Nat) : Int)) = ((P.length - (k + 1) : Nat) : Int) := by
      rw [wrap_small (by simp only [cap] at hP; omega) (by simp only [cap] at hP; omega)]; omega
    have d1 : decide (((k + 1 : Nat) : Int) ≤ (P.length : Int)) = true := decide_eq_true (by omega)
    have d2 : decide ((0 : Int) ≤ ((P.length - (k + 1) : Nat) : Int) ∧ ((P.length - (k + 1) : Nat) : Int) ≤ (P.length : Int) ∧ (P.length : Int) ≤ (P.length : Int)) = true := decide_eq_true (by omega)
    simp only [hw, d1, d2, cond_true, Int.toNat_natCast, List.take_length]
    have hpe := pieceEnds_at P k hk'
    generalize hq : Lib.join (P.drop (P.length - (k + 1))) [46] = q at hpe
    have hql : q.length ≤ cap * 2 := by
      have := join_len (P.drop (P.length - (k + 1)))
      have h2 := lenS_drop P (P.length - (k + 1))
      rw [hq] at this; omega
    have hj := Join_ev (P.drop (P.length - (k + 1))) [46] (by rw [hq]; simp only [cap] at hql; omega) (by rw [List.length_drop]; simp only [cap] at hP; omega)
    rw [hq] at hj
    refine Ev2.bind1 hj (Ev2.bind1 (Resolve_ev st h q hql) ?_)
    rw [wrap_next (by simp only [cap] at hP; omega)]
    have hf' := hf
    rw [List.drop_eq_getElem_cons hkp, List.find?_cons, hpe] at hf'
    cases hh : hitT st nm q with
    | true =>
      rw [hh] at hf'
      simp only at hf'
      rw [← hf'] at hs
      simp only at hs
      unfold hitT at hh
      rw [Bool.and_eq_true] at hh
      simp only [hh.1, hh.2, hs.1, hs.2, cond_true, beq_self_eq_true]
      exact Ev2.of1 wake_ev
    | false =>
      rw [hh] at hf'
      simp only at hf'
      have next := ih (k + 1) (by omega) hf'
      have hne : v2 == 0 → (q == v1) = false := by
        intro hz
        cases hff : (pieceEnds P).find? (hitT st nm) with
        | none => rw [hff] at hs; exact absurd (beq_iff_eq.1 hz) hs.2
        | some s =>
          rw [hff] at hs
          have hss := List.find?_some hff
          rw [beq_eq_false_iff_ne]
          intro e
          rw [e, hs.1, hss] at hh
          cases hh
      unfold hitT at hh
      cases h0 : (resT st q).2 == 0 with
      | true =>
        rw [h0, Bool.true_and] at hh
        simp only [hh, cond_true, cond_false]
        cases hz : v2 == 0 with
        | true => simp only [hne hz, cond_true, cond_false]; exact next
        | false => simp only [cond_false]; exact next
      | false =>
        simp only [cond_false]
        cases hz : v2 == 0 with
        | true => simp only [hne hz, cond_true, cond_false]; exact next
        | false => simp only [cond_false]; exact next
theorem hit_decl {st : State} (hk : SOK st) {nm s : Str} (h : hitT st nm s = true) : declT st.env nm = true := by
  unfold hitT at h
  rw [Bool.and_eq_true] at h
  have := (resT_found hk (nm := s) (beq_iff_eq.1 h.1)).1
  rwa [beq_iff_eq.1 h.2] at this
theorem law27_ScopeShortens_plain (x0 : State) (x1 : Str) (hb : x0.bulk + (x1.length + 1) ≤ 1048576) (hw : x0.wf) (hw1 : True) : ∃ n, law27_ScopeShortens n x0 x1 = some true := by
  have h : SOK x0 := SOK.of (by omega)
  have h2 : SOK2 x0 := SOK2.of (by omega)
  refine Ev.ex ?_
  refine Ev.fn (fun n => by simp only [law27_ScopeShortens, law27_ScopeShortens_e]; exact rfl) ?_
  refine law_of x0 x1 h h2 fun hl => ?_
  have hl' : x1.length ≤ cap := by simp only [cap]; omega
  refine Ev.bind (Shortest_ev x0 h x1 hl') (Ev.bind (Split_ev x1 (by omega)) ?_)
  have hls := lenS_spl x1
  refine Ev.of2 (F := fun n m => law27_ScopeShortens_l1 n m x1 (shortT x0 x1).fst (shortT x0 x1).snd (spl x1) 1 x0) ?_
  refine shorten_loop x0 h x1 (spl x1) (by simp only [cap]; omega) _ _ (fun _ _ _ => trivial) ?_ (spl x1).length 0 (by omega) (by rw [List.drop_zero])
  unfold shortT
  rw [pieceEnds_spl]
  cases hd : declT x0.env x1 with
  | true =>
    simp only [cond_true]
    cases (dotEnds x1 ++ [x1]).find? (hitT x0 x1) with
    | some s => exact ⟨rfl, rfl⟩
    | none => exact ⟨rfl, by simp [outT]⟩
  | false =>
    have : (dotEnds x1 ++ [x1]).find? (hitT x0 x1) = none := by
      rw [List.find?_eq_none]
      intro s _ hh
      have := hit_decl h hh
      rw [hd] at this; cases this
    rw [this]
    exact ⟨rfl, by simp⟩
theorem enter_again {st : State} {nm : Str} (h : (enterT st nm).2 = 0) : enterT (enterT st nm).1 nm = ((enterT st nm).1, 0) ∧ (enterT st nm).1.opens.any (· == nm) = true ∧ ((enterT st nm).1 = st ∨ (enterT st nm).1 = { st with opens := st.opens ++ [nm] }) := by
  cases hn : nameT nm with
  | false => unfold enterT at h; rw [hn] at h; cases h
  | true =>
    cases hi : insideT st.env nm with
    | false => unfold enterT at h; rw [hn, hi] at h; cases h
    | true =>
      cases ho : st.opens.any (· == nm) with
      | true =>
        have e : enterT st nm = (st, 0) := by unfold enterT; rw [hn, hi, ho]; rfl
        rw [e]
        exact ⟨e, ho, Or.inl rfl⟩
      | false =>
        cases hc : decide (100 ≤ (st.opens.length : Int)) with
        | true => unfold enterT at h; rw [hn, hi, ho, hc] at h; cases h
        | false =>
          have e : enterT st nm = ({ st with opens := st.opens ++ [nm] }, 0) := by unfold enterT; rw [hn, hi, ho, hc]; rfl
          have ha : (st.opens ++ [nm]).any (· == nm) = true := by simp
          rw [e]
          refine ⟨?_, ha, Or.inr rfl⟩
          unfold enterT
          simp only [hn, hi, ha, cond_true]
theorem lenS_snoc (x : Str) : ∀ l : List Str, lenS (l ++ [x]) = lenS l + (x.length + 1)
  | [] => by simp [lenS]
  | y :: l => by simp only [List.cons_append, lenS, lenS_snoc x l]; omega
theorem law27_ScopeBacks_plain (x0 : State) (x1 : Str) (hb : x0.bulk + (x1.length + 1) ≤ 1048576) (hw : x0.wf) (hw1 : True) : ∃ n, law27_ScopeBacks n x0 x1 = some true := by
  have h : SOK x0 := SOK.of (by omega)
  have h2 : SOK2 x0 := SOK2.of (by omega)
  have hsum : lenS x0.nspace + x1.length + 64 ≤ cap := by
    have := hb
    unfold State.bulk at this
    simp only [sumB_lenS] at this
    simp only [cap]; omega
  have hopl : x0.opens.length + 64 ≤ cap := by
    have := hb
    have h3 := lenS_le x0.opens
    unfold State.bulk at this
    simp only [sumB_lenS] at this
    simp only [cap]; omega
  have hll := lenS_le x0.nspace
  refine Ev.ex ?_
  refine Ev.fn (fun n => by simp only [law27_ScopeBacks, law27_ScopeBacks_e]; exact rfl) ?_
  refine law_of x0 x1 h h2 fun hl => ?_
  have hl' : x1.length ≤ cap := by simp only [cap]; omega
  have rest : Ev (fun n => (scope_Open n x0 x1).bind fun x => bif x.snd == 0 then (scope_Open n x.fst x1).bind fun x_1 => bif x_1.snd != 0 then some false else (ref27_Same n x.fst x_1.fst).bind fun x_2 => bif x_2 then (slices_Contains_string n x.fst.opens x1).bind fun x => bif x then (law27_awake n).bind fun x => some x else some false else some false else (law27_awake n).bind fun x => some x) true := by
    refine Ev.bind (Open_ev x0 h x1 hl') ?_
    cases hz : (enterT x0 x1).2 == 0 with
    | false => exact wake_ev
    | true =>
      obtain ⟨e1, e2, e3⟩ := enter_again (beq_iff_eq.1 hz)
      have hk : SOK (enterT x0 x1).1 := by
        rcases e3 with e | e
        · rw [e]; exact h
        · rw [e]
          refine ⟨h.env, h.envl, h.ns, by simp only [List.length_append, List.length_singleton]; omega, fun o ho => ?_⟩
          rw [List.mem_append, List.mem_singleton] at ho
          rcases ho with ho | rfl
          · exact h.ops o ho
          · exact hl'
      simp only [cond_true]
      have ho := Open_ev (enterT x0 x1).1 hk x1 hl'
      rw [e1] at ho
      refine Ev.bind ho ?_
      simp only [bne_self, cond_false]
      refine Ev.bind (Same_ev _ (enterT_ok x0 x1 h2)) ?_
      simp only [cond_true]
      refine Ev.bind (Contains_ev (enterT x0 x1).1.opens x1 (by have := hk.op; omega)) ?_
      rw [e2]
      exact wake_ev
  refine Ev.bind (Namespace_ev x0 h x1 hl').1 ?_
  cases hz : (nspaceT x0 x1).2 == 0 with
  | false => exact rest
  | true =>
    simp only [cond_true]
    have e : (nspaceT x0 x1).1 = { x0 with nspace := x0.nspace ++ [x1] } := by
      unfold nspaceT at hz ⊢
      cases hn : nameT x1 with
      | false => rw [hn] at hz; simp at hz
      | true =>
        rw [hn] at hz
        cases h1 : decide (16 ≤ (x0.nspace.length : Int)) with
        | true => rw [h1] at hz; simp at hz
        | false =>
          rw [h1] at hz
          cases h3 : decide (64 < ((joinT x0.nspace x1).length : Int)) with
          | true => rw [h3] at hz; simp at hz
          | false => rfl
    rw [e]
    have hk : SOK { x0 with nspace := x0.nspace ++ [x1] } := ⟨h.env, h.envl, by simp only [lenS_snoc]; omega, h.op, h.ops⟩
    have hE : ∀ s : Str, endT { x0 with nspace := x0.nspace ++ [x1] } s = bif x1 == s then (x0, 0) else (noState, 1) := by
      intro s
      unfold endT
      simp only [List.reverse_append, List.reverse_cons, List.reverse_nil, List.nil_append, List.cons_append, List.reverse_reverse]
    have hE1 := (End_ev { x0 with nspace := x0.nspace ++ [x1] } hk x1).1
    rw [hE, beq_self_eq_true, cond_true] at hE1
    refine Ev.bind hE1 ?_
    have hne : (x1 == x1 ++ [122]) = false := by
      rw [beq_eq_false_iff_ne]
      intro e
      have := congrArg List.length e
      rw [List.length_append] at this
      simp at this
    have hE2 := (End_ev { x0 with nspace := x0.nspace ++ [x1] } hk (x1 ++ [122])).1
    rw [hE, hne, cond_false] at hE2
    have d1 : decide (x1.length ≤ 9223372036854775806) = true := decide_eq_true (by omega)
    simp only [d1, cond_true]
    refine Ev.bind hE2 ?_
    simp only [bne_self, cond_false]
    refine Ev.bind (Same_ev _ h2) ?_
    simp only [cond_true]
    have hlen : (((x0.nspace ++ [x1]).length : Int) != IntKind.i64.wrap ((x0.nspace.length : Int) + 1)) = false := by
      rw [wrap_next (by simp only [cap] at hsum; omega), List.length_append, List.length_singleton]
      exact bne_self _
    simp only [hlen, cond_false]
    exact rest
end Go.Abs
namespace Go.Abs
set_option linter.unusedVariables false
set_option linter.unusedSimpArgs false
def axiomD (s : Str) : Decl := { kind := 0, name := s, params := 0, type := Term.mk 0 0 [] [] [], value := Term.mk 0 0 [] [] [], fixed := 0, ctors := [], recu := { params := 0, type := Term.mk 0 0 [] [] [], rules := [] }, funs := [] }
def oneSt (s : Str) (ns op : List Str) : State := { env := [axiomD s], implicits := [], classes := [], instances := [], notations := [], nspace := ns, opens := op }
theorem one_decl (s t : Str) : declT [axiomD s] t = (s == t) := by
  show ((([s] : List Str).any (· == t)) || false) = _
  simp
theorem one_SOK (s : Str) (ns op : List Str) (hs : s.length ≤ cap) (h1 : lenS ns ≤ cap) (h2 : op.length ≤ cap) (h3 : ∀ o ∈ op, o.length ≤ cap) : SOK (oneSt s ns op) := by
  refine ⟨fun d hd => ?_, by simp [oneSt, cap], h1, h2, h3⟩
  have : d ∈ [axiomD s] := hd
  rw [List.mem_singleton] at this
  subst this
  exact ⟨by simp [axiomD], by simp [axiomD], hs⟩
theorem state_ev (s : Str) : Ev (fun n => law27_state n [s]) (oneSt s [] []) := by
  refine Ev.fn (fun n => by simp only [law27_state, law27_state_e]; exact rfl) ?_
  refine Ev.of2 (F := fun n m => law27_state_l1 n m [s] 1 0 []) ?_
  refine Ev2.lp (fun n m => by simp only [law27_state_l1, law27_state_b1]; exact rfl) ?_
  have e0 : decide ((0 : Int) < 1) = true := rfl
  have e1 : IntKind.i64.wrap (0 + 1) = 1 := rfl
  have e2 : idxA [s] (0 : Int) = some s := rfl
  have e3 : decide ((([] : List Decl).length + 1) * 360 ≤ 17592186044416) = true := rfl
  simp only [e0, e1, e2, e3, cond_true, Option.bind_some]
  refine Ev2.lp (fun n m => by simp only [law27_state_l1, law27_state_b1]; exact rfl) ?_
  have e4 : decide ((1 : Int) < 1) = false := rfl
  simp only [e4, cond_false]
  exact Ev2.pure
theorem scan_one (s : Str) (ns : List Str) (nm : Str) : ∀ k : Nat, scanT [axiomD s] ns nm k = none ∨ scanT [axiomD s] ns nm k = some s
  | 0 => Or.inl rfl
  | k + 1 => by
    rw [scanT, one_decl]
    cases h : s == joinT (ns.take (k + 1)) nm with
    | true => rw [cond_true, ← beq_iff_eq.1 h]; exact Or.inr rfl
    | false => rw [cond_false]; exact scan_one s ns nm k
theorem cand_one (o nm : Str) : candT [axiomD (o ++ [46] ++ nm)] [o] nm = [o ++ [46] ++ nm] := by
  unfold candT
  rw [List.map_cons, List.map_nil, List.filter_cons_of_pos (by rw [one_decl]; simp)]
  rfl
theorem res_one (o nm : Str) (ns : List Str) : resT (oneSt (o ++ [46] ++ nm) ns [o]) nm = bif nameT nm then (o ++ [46] ++ nm, 0) else ([], 29) := by
  cases hn : nameT nm with
  | false => rw [resT_bad hn]; rfl
  | true =>
    rw [cond_true]
    rcases scan_one (o ++ [46] ++ nm) ns nm ns.length with h | h
    · rw [resT_open hn h]
      show openT [axiomD (o ++ [46] ++ nm)] nm (candT [axiomD (o ++ [46] ++ nm)] [o] nm) = _
      rw [cand_one]
      rfl
    · rw [resT_scan hn h]
theorem law27_ScopeOpens_plain (x0 : List Str) (x1 : Str) (x2 : Int) (hb : sumB (fun m : Str => m.length + 1) x0 + ((x1.length + 1) + 1) ≤ 1048576) (hw : ∀ y ∈ x0, True) (hw1 : True) (hw2 : wfI .u8 x2) : ∃ n, law27_ScopeOpens n x0 x1 x2 = some true := by
  rw [sumB_lenS] at hb
  have hll := lenS_le x0
  obtain ⟨h20, h21⟩ := wfI_u8 hw2
  refine Ev.ex ?_
  refine Ev.fn (fun n => by simp only [law27_ScopeOpens, law27_ScopeOpens_e]; exact rfl) ?_
  refine Tot.ev (Tot.bind (short_tot x0 (by simp only [cap]; omega)) fun x _ => ?_)
  refine Tot.cnd (fun _ => ?_) fun _ => wake_ev.tot rfl
  cases hz : ((x0.length : Int) == 0) with
  | true => exact wake_ev.tot rfl
  | false =>
  simp only [cond_false]
  refine Tot.cnd (fun _ => wake_ev.tot rfl) fun h60 => Tot.cnd (fun _ => wake_ev.tot rfl) fun hne => ?_
  have hlen : x1.length ≤ 60 := by have := of_decide_eq_false h60; omega
  have hpos : 0 < x0.length := by
    have := beq_eq_false_iff_ne.1 hz
    omega
  have hd0 : decide ((x0.length : Int) = 0) = false := decide_eq_false (by omega)
  simp only [hd0, cond_false]
  obtain ⟨i, hi, hw⟩ : ∃ i : Nat, i < x0.length ∧ (IntKind.i64.wrap x2).tmod (x0.length : Int) = (i : Int) := by
    rw [wrap_small (by omega) (by omega)]
    refine ⟨x2.toNat % x0.length, Nat.mod_lt _ hpos, ?_⟩
    have : x2 = (x2.toNat : Int) := by omega
    rw [this, Int.ofNat_tmod, Int.toNat_natCast]
  rw [hw]
  refine Tot.idx hi ?_
  have ho := lenS_mem (List.getElem_mem hi)
  generalize x0[i] = o at ho
  have d1 : decide (o.length ≤ 9223372036854775806) = true := decide_eq_true (by omega)
  have d2 : decide (o.length + 1 + x1.length ≤ 9223372036854775807) = true := decide_eq_true (by omega)
  simp only [d1, d2, cond_true]
  have hsl : (o ++ [46] ++ x1).length ≤ cap := by simp only [List.length_append, List.length_singleton, cap]; omega
  have hol : o.length ≤ cap := by simp only [cap]; omega
  have hk0 : SOK (oneSt (o ++ [46] ++ x1) [] []) := one_SOK _ _ _ hsl (by simp [lenS]) (by simp) (by simp)
  have hk1 : SOK (oneSt (o ++ [46] ++ x1) [] [o]) := one_SOK _ _ _ hsl (by simp [lenS]) (by simp [cap]) (by simpa using hol)
  have hk2 : SOK (oneSt (o ++ [46] ++ x1) x0 [o]) := one_SOK _ _ _ hsl (by simp only [cap]; omega) (by simp [cap]) (by simpa using hol)
  refine Ev.tot (r := true) ?_ rfl
  refine Ev.bind (state_ev _) (Ev.bind (Open_ev _ hk0 o hol) ?_)
  cases h0 : (enterT (oneSt (o ++ [46] ++ x1) [] []) o).2 != 0 with
  | true => exact wake_ev
  | false =>
  simp only [cond_false]
  have he : (enterT (oneSt (o ++ [46] ++ x1) [] []) o).1 = oneSt (o ++ [46] ++ x1) [] [o] := by
    unfold enterT at h0 ⊢
    cases hn : nameT o with
    | false => rw [hn] at h0; simp at h0
    | true =>
      cases hi : insideT (oneSt (o ++ [46] ++ x1) [] []).env o with
      | false => rw [hn, hi] at h0; simp at h0
      | true => rfl
  rw [he]
  refine Ev.bind (Resolve_ev _ hk1 x1 (by simp only [cap]; omega)) ?_
  rw [res_one]
  cases hn : nameT x1 with
  | false => exact wake_ev
  | true =>
  have e1 : (((0 : Int)) != 0) = false := rfl
  simp only [cond_true, e1, cond_false]
  have hr : Ev (fun n => scope_Resolve n { env := (oneSt (o ++ [46] ++ x1) [] [o]).env, implicits := (oneSt (o ++ [46] ++ x1) [] [o]).implicits, classes := (oneSt (o ++ [46] ++ x1) [] [o]).classes, instances := (oneSt (o ++ [46] ++ x1) [] [o]).instances, notations := (oneSt (o ++ [46] ++ x1) [] [o]).notations, nspace := x0, opens := (oneSt (o ++ [46] ++ x1) [] [o]).opens } x1) (o ++ [46] ++ x1, 0) := by
    have := Resolve_ev _ hk2 x1 (by simp only [cap]; omega)
    rw [res_one, hn] at this
    exact this
  refine Ev.bind hr ?_
  simp only [beq_self_eq_true, cond_true]
  exact wake_ev
end Go.Abs
