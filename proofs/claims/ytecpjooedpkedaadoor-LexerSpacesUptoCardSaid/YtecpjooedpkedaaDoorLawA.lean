/- A part of the proof: plain facts. -/
import Derived.Test.YtecpjooedpkedaaDoorCoreC
import Derived.Test.YtecpjooedpkedaaDoorReadA
import Derived.KernelRfl
set_option linter.all false
namespace Go.Abs
set_option linter.unusedVariables false
variable {R S T : Type}
def Ev (F : Nat → Option R) (r : R) : Prop := ∃ N, ∀ n, N ≤ n → F n = some r
def Ev2 (F : Nat → Nat → Option R) (r : R) : Prop := ∃ N, ∀ n m, N ≤ n → N ≤ m → F n m = some r
theorem Ev.fn {F G : Nat → Option R} {r : R} (h : ∀ n, F (n + 1) = G n) (hg : Ev G r) : Ev F r := by
  obtain ⟨N, hN⟩ := hg
  refine ⟨N + 1, fun n hn => ?_⟩
  obtain ⟨k, rfl⟩ : ∃ k, n = k + 1 := ⟨n - 1, by omega⟩
  rw [h]; exact hN k (by omega)
theorem Ev.of2 {F : Nat → Nat → Option R} {r : R} (h : Ev2 F r) : Ev (fun n => F n n) r := by
  obtain ⟨N, hN⟩ := h
  exact ⟨N, fun n hn => hN n n hn hn⟩
theorem Ev2.of1 {F : Nat → Option R} {r : R} (h : Ev F r) : Ev2 (fun n _ => F n) r := by
  obtain ⟨N, hN⟩ := h
  exact ⟨N, fun n m hn _ => hN n hn⟩
theorem Ev2.lp {F G : Nat → Nat → Option R} {r : R} (h : ∀ n m, F n (m + 1) = G n m) (hg : Ev2 G r) : Ev2 F r := by
  obtain ⟨N, hN⟩ := hg
  refine ⟨N + 1, fun n m hn hm => ?_⟩
  obtain ⟨k, rfl⟩ : ∃ k, m = k + 1 := ⟨m - 1, by omega⟩
  rw [h]; exact hN n k (by omega) (by omega)
theorem Ev.pure {r : R} : Ev (fun _ => some r) r := ⟨0, fun _ _ => rfl⟩
theorem Ev2.pure {r : R} : Ev2 (fun _ _ => some r) r := ⟨0, fun _ _ _ _ => rfl⟩
theorem Ev.bind {F : Nat → Option S} {G : Nat → S → Option R} {x : S} {r : R} (h : Ev F x) (hg : Ev (fun n => G n x) r) : Ev (fun n => (F n).bind (G n)) r := by
  obtain ⟨N, hN⟩ := h
  obtain ⟨M, hM⟩ := hg
  refine ⟨max N M, fun n hn => ?_⟩
  show (F n).bind (G n) = some r
  rw [hN n (by omega)]; exact hM n (by omega)
theorem Ev2.bind {F : Nat → Nat → Option S} {G : Nat → Nat → S → Option R} {x : S} {r : R} (h : Ev2 F x) (hg : Ev2 (fun n m => G n m x) r) : Ev2 (fun n m => (F n m).bind (G n m)) r := by
  obtain ⟨N, hN⟩ := h
  obtain ⟨M, hM⟩ := hg
  refine ⟨max N M, fun n m hn hm => ?_⟩
  show (F n m).bind (G n m) = some r
  rw [hN n m (by omega) (by omega)]; exact hM n m (by omega) (by omega)
theorem Ev2.bind1 {F : Nat → Option S} {G : Nat → Nat → S → Option R} {x : S} {r : R} (h : Ev F x) (hg : Ev2 (fun n m => G n m x) r) : Ev2 (fun n m => (F n).bind (G n m)) r :=
  Ev2.bind (F := fun n _ => F n) (Ev2.of1 h) hg
theorem Ev.congr {F G : Nat → Option R} {r : R} (hg : Ev G r) (h : ∀ n, F n = G n) : Ev F r := by
  rw [show F = G from funext h]; exact hg
theorem Ev2.congr {F G : Nat → Nat → Option R} {r : R} (hg : Ev2 G r) (h : ∀ n m, F n m = G n m) : Ev2 F r := by
  rw [show F = G from funext fun n => funext fun m => h n m]; exact hg
def Tot (F : Nat → Option R) (Q : R → Prop) : Prop := ∃ r, Q r ∧ Ev F r
def Tot2 (F : Nat → Nat → Option R) (Q : R → Prop) : Prop := ∃ r, Q r ∧ Ev2 F r
theorem Tot.fn {F G : Nat → Option R} {Q : R → Prop} (h : ∀ n, F (n + 1) = G n) (hg : Tot G Q) : Tot F Q := Exists.imp (fun _ k => ⟨k.1, Ev.fn h k.2⟩) hg
theorem Tot.of2 {F : Nat → Nat → Option R} {Q : R → Prop} (h : Tot2 F Q) : Tot (fun n => F n n) Q := Exists.imp (fun _ k => ⟨k.1, Ev.of2 k.2⟩) h
theorem Tot2.of1 {F : Nat → Option R} {Q : R → Prop} (h : Tot F Q) : Tot2 (fun n _ => F n) Q := Exists.imp (fun _ k => ⟨k.1, Ev2.of1 k.2⟩) h
theorem Tot2.lp {F G : Nat → Nat → Option R} {Q : R → Prop} (h : ∀ n m, F n (m + 1) = G n m) (hg : Tot2 G Q) : Tot2 F Q := Exists.imp (fun _ k => ⟨k.1, Ev2.lp h k.2⟩) hg
theorem Tot.pure {r : R} {Q : R → Prop} (h : Q r) : Tot (fun _ => some r) Q := ⟨r, h, Ev.pure⟩
theorem Tot2.pure {r : R} {Q : R → Prop} (h : Q r) : Tot2 (fun _ _ => some r) Q := ⟨r, h, Ev2.pure⟩
theorem Tot.bind {F : Nat → Option S} {G : Nat → S → Option R} {P : S → Prop} {Q : R → Prop} (h : Tot F P) (hg : ∀ x, P x → Tot (fun n => G n x) Q) : Tot (fun n => (F n).bind (G n)) Q := by
  obtain ⟨x, hx, hF⟩ := h
  obtain ⟨r, hr, hG⟩ := hg x hx
  exact ⟨r, hr, Ev.bind hF hG⟩
theorem Tot2.bind {F : Nat → Nat → Option S} {G : Nat → Nat → S → Option R} {P : S → Prop} {Q : R → Prop} (h : Tot2 F P) (hg : ∀ x, P x → Tot2 (fun n m => G n m x) Q) : Tot2 (fun n m => (F n m).bind (G n m)) Q := by
  obtain ⟨x, hx, hF⟩ := h
  obtain ⟨r, hr, hG⟩ := hg x hx
  exact ⟨r, hr, Ev2.bind hF hG⟩
theorem Tot2.bind1 {F : Nat → Option S} {G : Nat → Nat → S → Option R} {P : S → Prop} {Q : R → Prop} (h : Tot F P) (hg : ∀ x, P x → Tot2 (fun n m => G n m x) Q) : Tot2 (fun n m => (F n).bind (G n m)) Q :=
  Tot2.bind (F := fun n _ => F n) (Tot2.of1 h) hg
theorem Tot.idx {xs : List S} {i : Nat} {G : Nat → S → Option R} {Q : R → Prop} (hi : i < xs.length) (hg : Tot (fun n => G n xs[i]) Q) : Tot (fun n => (idxA xs (i : Int)).bind (G n)) Q := by
  have : idxA xs (i : Int) = some xs[i] := by simp [idxA, hi]
  simp only [this]; exact hg
theorem Tot2.idx {xs : List S} {i : Nat} {G : Nat → Nat → S → Option R} {Q : R → Prop} (hi : i < xs.length) (hg : Tot2 (fun n m => G n m xs[i]) Q) : Tot2 (fun n m => (idxA xs (i : Int)).bind (G n m)) Q := by
  have : idxA xs (i : Int) = some xs[i] := by simp [idxA, hi]
  simp only [this]; exact hg
theorem Tot.imp {F : Nat → Option R} {P Q : R → Prop} (h : Tot F P) (k : ∀ r, P r → Q r) : Tot F Q := Exists.imp (fun r x => ⟨k r x.1, x.2⟩) h
theorem Tot2.imp {F : Nat → Nat → Option R} {P Q : R → Prop} (h : Tot2 F P) (k : ∀ r, P r → Q r) : Tot2 F Q := Exists.imp (fun r x => ⟨k r x.1, x.2⟩) h
theorem wrap_small {n : Int} (h : -9223372036854775808 ≤ n) (h2 : n ≤ 9223372036854775807) : IntKind.i64.wrap n = n := by
  simp only [IntKind.wrap, IntKind.signed, IntKind.bits, Bool.true_and, decide_eq_true_eq]
  split <;> rename_i h3 <;> simp only [decide_eq_true_eq, ge_iff_le] at h3 <;> omega
theorem wrap_next {i : Nat} (h : i < 9223372036854775807) : IntKind.i64.wrap ((i : Int) + 1) = ((i + 1 : Nat) : Int) := by
  rw [wrap_small (by omega) (by omega)]; rfl
theorem idxA_at {xs : List S} {i : Nat} (hi : i < xs.length) : idxA xs (i : Int) = some xs[i] := by simp [idxA, hi]
theorem Ev2.idx {xs : List S} {i : Nat} {G : Nat → Nat → S → Option R} {r : R} (hi : i < xs.length) (hg : Ev2 (fun n m => G n m xs[i]) r) : Ev2 (fun n m => (idxA xs (i : Int)).bind (G n m)) r := by
  simp only [idxA_at hi]; exact hg
end Go.Abs
namespace Go.Abs
set_option linter.unusedVariables false
set_option linter.unusedSimpArgs false
theorem u8_all {p : UInt8 → Bool} (h : (List.range 256).all (fun n => p (UInt8.ofNat n)) = true) (c : UInt8) : p c = true := by
  have := List.all_eq_true.1 h c.toNat (List.mem_range.2 c.toNat_lt)
  rwa [UInt8.ofNat_toNat] at this
def letB (c : UInt8) : Bool := (decide (97 ≤ c.toNat) && decide (c.toNat ≤ 122)) || (decide (65 ≤ c.toNat) && decide (c.toNat ≤ 90))
def begB (c : UInt8) : Bool := letB c || c == 95
def digB (c : UInt8) : Bool := decide (48 ≤ c.toNat) && decide (c.toNat ≤ 57)
def inwB (c : UInt8) : Bool := begB c || (digB c || c == 39)
def classT (c : UInt8) : Int := bif begB c then 1 else bif digB c then 2 else bif c == 34 then 3 else 0
theorem class_ev (c : UInt8) : Ev (fun n => lexer_class n (c.toNat : Int)) (classT c) := by
  refine Ev.fn (fun n => by simp only [lexer_class, lexer_class_e]; exact rfl) ?_
  refine Ev.congr Ev.pure (fun _ => ?_)
  have := u8_all (p := fun c => decide ((bif decide (97 ≤ (c.toNat : Int)) then
      bif decide ((c.toNat : Int) ≤ 122) then some 1
      else
        bif decide (65 ≤ (c.toNat : Int)) then
          bif decide ((c.toNat : Int) ≤ 90) then some 1
          else
            bif (c.toNat : Int) == 95 then some 1
            else
              bif decide (48 ≤ (c.toNat : Int)) then bif decide ((c.toNat : Int) ≤ 57) then some 2 else bif (c.toNat : Int) == 34 then some 3 else some 0
              else bif (c.toNat : Int) == 34 then some 3 else some 0
        else
          bif (c.toNat : Int) == 95 then some 1
          else
            bif decide (48 ≤ (c.toNat : Int)) then bif decide ((c.toNat : Int) ≤ 57) then some 2 else bif (c.toNat : Int) == 34 then some 3 else some 0
            else bif (c.toNat : Int) == 34 then some 3 else some 0
    else
      bif decide (65 ≤ (c.toNat : Int)) then
        bif decide ((c.toNat : Int) ≤ 90) then some 1
        else
          bif (c.toNat : Int) == 95 then some 1
          else
            bif decide (48 ≤ (c.toNat : Int)) then bif decide ((c.toNat : Int) ≤ 57) then some 2 else bif (c.toNat : Int) == 34 then some 3 else some 0
            else bif (c.toNat : Int) == 34 then some 3 else some 0
      else
        bif (c.toNat : Int) == 95 then some 1
        else
          bif decide (48 ≤ (c.toNat : Int)) then bif decide ((c.toNat : Int) ≤ 57) then some 2 else bif (c.toNat : Int) == 34 then some 3 else some 0
          else bif (c.toNat : Int) == 34 then some 3 else some 0) = some (classT c))) (by kernel_rfl) c
  exact of_decide_eq_true this
theorem letter_ev (c : UInt8) : Ev (fun n => ref24_letter n (c.toNat : Int)) (letB c) := by
  refine Ev.fn (fun n => by simp only [ref24_letter, ref24_letter_e]; exact rfl) ?_
  refine Ev.congr Ev.pure (fun _ => ?_)
  have := u8_all (p := fun c => decide ((bif decide (97 ≤ (c.toNat : Int)) then
      bif decide ((c.toNat : Int) ≤ 122) then some true else bif decide (65 ≤ (c.toNat : Int)) then some (decide ((c.toNat : Int) ≤ 90)) else some false
    else bif decide (65 ≤ (c.toNat : Int)) then some (decide ((c.toNat : Int) ≤ 90)) else some false) = some (letB c))) (by kernel_rfl) c
  exact of_decide_eq_true this
theorem byte_beq (c : UInt8) (k : Nat) (hk : k < 256) : ((c.toNat : Int) == (k : Int)) = (c == UInt8.ofNat k) := by
  rw [Bool.eq_iff_iff, beq_iff_eq, beq_iff_eq]
  constructor
  · intro h
    have h : c.toNat = k := by omega
    rw [← h, UInt8.ofNat_toNat]
  · rintro rfl
    simp [UInt8.toNat_ofNat, Nat.mod_eq_of_lt hk]
theorem begins_ev (c : UInt8) : Ev (fun n => ref24_begins n (c.toNat : Int)) (begB c) := by
  refine Ev.fn (fun n => by simp only [ref24_begins, ref24_begins_e]; exact rfl) ?_
  refine Ev.bind (letter_ev c) ?_
  unfold begB
  cases letB c with
  | true => exact Ev.pure
  | false =>
    simp only [cond_false, Bool.false_or]
    rw [show ((c.toNat : Int) == 95) = (c == 95) from byte_beq c 95 (by decide)]
    exact Ev.pure
theorem digit_ev (c : UInt8) : Ev (fun n => ref24_digit n (c.toNat : Int)) (digB c) := by
  refine Ev.fn (fun n => by simp only [ref24_digit, ref24_digit_e]; exact rfl) ?_
  refine Ev.congr Ev.pure (fun _ => ?_)
  have := u8_all (p := fun c => decide ((bif decide (48 ≤ (c.toNat : Int)) then some (decide ((c.toNat : Int) ≤ 57)) else some false) = some (digB c))) (by kernel_rfl) c
  exact of_decide_eq_true this
theorem class_one (c : UInt8) : (classT c == 1) = begB c := by unfold classT; cases begB c <;> cases digB c <;> cases (c == 34) <;> rfl
theorem class_two (c : UInt8) : (classT c == 2) = digB c := by
  have := u8_all (p := fun c => (classT c == 2) == digB c) (by kernel_rfl) c
  exact eq_of_beq this
theorem inWord_ev (c : UInt8) : Ev (fun n => lexer_inWord n (c.toNat : Int)) (inwB c) := by
  refine Ev.fn (fun n => by simp only [lexer_inWord, lexer_inWord_e]; exact rfl) ?_
  refine Ev.bind (class_ev c) ?_
  rw [class_one]
  unfold inwB
  cases begB c with
  | true => exact Ev.pure
  | false =>
    simp only [cond_false, Bool.false_or]
    refine Ev.bind (class_ev c) ?_
    rw [class_two]
    cases digB c with
    | true => exact Ev.pure
    | false =>
      simp only [cond_false, Bool.false_or]
      rw [show ((c.toNat : Int) == 39) = (c == 39) from byte_beq c 39 (by decide)]
      exact Ev.pure
def signs : Str := [33, 35, 36, 37, 38, 42, 43, 45, 47, 58, 60, 61, 62, 63, 64, 92, 94, 124, 126]
def kws : List Str := [[102, 117, 110], [108, 101, 116], [105, 110], [83, 105, 103, 109, 97], [80, 114, 111, 112], [84, 121, 112, 101],
        [98, 121], [97, 120, 105, 111, 109], [100, 101, 102], [116, 104, 101, 111, 114, 101, 109],
        [105, 110, 100, 117, 99, 116, 105, 118, 101], [102, 117, 110, 99, 116, 105, 111, 110], [97, 110, 100],
        [101, 110, 100], [99, 108, 97, 115, 115], [105, 110, 115, 116, 97, 110, 99, 101],
        [110, 111, 116, 97, 116, 105, 111, 110], [110, 97, 109, 101, 115, 112, 97, 99, 101], [111, 112, 101, 110],
        [99, 104, 101, 99, 107], [101, 118, 97, 108], [105, 109, 112, 111, 114, 116]]
def fixS : List Str := [[40], [41], [40, 41], [123], [125], [91], [93], [44], [59], [58], [58, 61], [45, 62], [61, 62], [124], [64],
        [43], [95], [46, 123], [46, 49], [46, 50], [60, 124, 62]]
theorem find_loop {α : Type} [BEq α] [LawfulBEq α] (xs : List α) (v : α) {L : Nat → Nat → Int → Option Bool} (hl : xs.length < 4611686018427387904)
    (h : ∀ n m k, L n (m + 1) k = bif decide (k < (xs.length : Int)) then (idxA xs k).bind fun x => bif x == v then some true else L n m (IntKind.i64.wrap (k + 1)) else some false) :
    Ev2 (fun n m => L n m 0) (xs.contains v) := by
  have key : ∀ d k : Nat, k + d = xs.length → Ev2 (fun n m => L n m (k : Int)) ((xs.drop k).contains v) := by
    intro d
    induction d with
    | zero =>
      intro k hk
      refine Ev2.lp (fun n m => h n m k) ?_
      have : decide ((k : Int) < (xs.length : Int)) = false := decide_eq_false (by omega)
      simp only [this, cond_false, List.drop_eq_nil_of_le (show xs.length ≤ k by omega), List.contains_nil]
      exact Ev2.pure
    | succ d ih =>
      intro k hk
      have hlt : k < xs.length := by omega
      refine Ev2.lp (fun n m => h n m k) ?_
      have : decide ((k : Int) < (xs.length : Int)) = true := decide_eq_true (by omega)
      simp only [this, cond_true]
      refine Ev2.idx hlt ?_
      rw [List.drop_eq_getElem_cons hlt, List.contains_cons]
      rw [show (v == xs[k]) = (xs[k] == v) from Bool.eq_iff_iff.2 ⟨fun h => by simpa using (beq_iff_eq.1 h).symm, fun h => by simpa using (beq_iff_eq.1 h).symm⟩]
      cases xs[k] == v with
      | true => exact Ev2.pure
      | false =>
        simp only [cond_false, Bool.false_or]
        rw [wrap_next (by omega)]
        exact ih (k + 1) (by omega)
  simpa using key xs.length 0 (by omega)
theorem refKeyword_ev (s : Str) : Ev (fun n => ref24_Keyword n s) (kws.contains s) := by
  refine Ev.fn (fun n => by simp only [ref24_Keyword, ref24_Keyword_e]; exact rfl) ?_
  exact Ev.of2 (F := fun n m => ref24_Keyword_l1 n m s kws 0) (find_loop kws s (by decide) (fun n m k => by simp only [ref24_Keyword_l1, ref24_Keyword_b1]))
theorem has_ev (xs : List Str) (s : Str) (hl : xs.length < 4611686018427387904) : Ev (fun n => ref24_has n xs s) (xs.contains s) := by
  refine Ev.fn (fun n => by simp only [ref24_has, ref24_has_e]; exact rfl) ?_
  exact Ev.of2 (F := fun n m => ref24_has_l1 n m xs s 0) (find_loop xs s hl (fun n m k => by simp only [ref24_has_l1, ref24_has_b1]))
theorem fixed_ev : Ev (fun n => ref24_fixed n) fixS := by
  refine Ev.fn (fun n => by simp only [ref24_fixed, ref24_fixed_e]; exact rfl) ?_
  exact Ev.pure
theorem fixed_k (k : Nat) : lexer_fixed (k + 80) = some fixS := by kernel_rfl
theorem fixed'_ev : Ev (fun n => lexer_fixed n) fixS := by
  refine ⟨80, fun n hn => ?_⟩
  obtain ⟨k, rfl⟩ : ∃ k, n = k + 80 := ⟨n - 80, by omega⟩
  exact fixed_k k
def kwMap : List (Str × Bool) := kws.map fun s => (s, true)
theorem keywords_k (k : Nat) : lexer_keywords (k + 250) = some ((kwMap, ()), ()) := by kernel_rfl
theorem keywords_ev : Ev (fun n => lexer_keywords n) ((kwMap, ()), ()) := by
  refine ⟨250, fun n hn => ?_⟩
  obtain ⟨k, rfl⟩ : ∃ k, n = k + 250 := ⟨n - 250, by omega⟩
  exact keywords_k k
theorem plFind_all (s : Str) : ∀ xs : List Str, (plFind s (xs.map fun x => (x, true))).getD false = xs.contains s
  | [] => rfl
  | x :: xs => by
    rw [List.map_cons, plFind, List.contains_cons]
    cases s == x with
    | true => rfl
    | false => rw [cond_false, Bool.false_or]; exact plFind_all s xs
theorem Keyword_ev (s : Str) : Ev (fun n => lexer_Keyword n s) (kws.contains s) := by
  refine Ev.fn (fun n => by simp only [lexer_Keyword, lexer_Keyword_e]; exact rfl) ?_
  refine Ev.bind keywords_ev ?_
  rw [← plFind_all]
  exact Ev.pure
end Go.Abs
namespace Go.Abs
set_option linter.unusedVariables false
set_option linter.unusedSimpArgs false
abbrev big : Nat := 4611686018427387904
theorem drop_cons {s : Str} {k : Nat} (h : k < s.length) : s.drop k = s[k] :: s.drop (k + 1) := List.drop_eq_getElem_cons h
def runT (p : UInt8 → Bool) (r : Str) : Nat := (r.takeWhile p).length
theorem runT_nil (p : UInt8 → Bool) : runT p [] = 0 := rfl
theorem runT_cons (p : UInt8 → Bool) (c : UInt8) (r : Str) : runT p (c :: r) = bif p c then runT p r + 1 else 0 := by
  unfold runT; rw [List.takeWhile_cons]; cases p c <;> rfl
theorem runT_le (p : UInt8 → Bool) : ∀ r : Str, runT p r ≤ r.length
  | [] => Nat.le_refl _
  | c :: r => by rw [runT_cons]; have := runT_le p r; cases p c <;> simp only [cond_true, cond_false, List.length_cons] <;> omega
theorem run_loop {R : Type} {s : Str} (hs : s.length < big) (p : UInt8 → Bool) {L : Nat → Nat → Int → Option R} {r : R} {N : Nat}
    (step : ∀ k : Nat, ∀ hk : k < s.length, p s[k] = true → Ev2 (fun n m => L n m ((k + 1 : Nat) : Int)) r → Ev2 (fun n m => L n m (k : Int)) r)
    (stop : ∀ k : Nat, k ≤ s.length → (∀ hk : k < s.length, p s[k] = false) → k = N → Ev2 (fun n m => L n m (k : Int)) r) :
    ∀ k : Nat, k ≤ s.length → k + runT p (s.drop k) = N → Ev2 (fun n m => L n m (k : Int)) r := by
  have key : ∀ d k : Nat, k + d = s.length → k + runT p (s.drop k) = N → Ev2 (fun n m => L n m (k : Int)) r := by
    intro d
    induction d with
    | zero =>
      intro k hk hN
      rw [List.drop_eq_nil_of_le (by omega), runT_nil] at hN
      exact stop k (by omega) (fun h => by omega) (by omega)
    | succ d ih =>
      intro k hk hN
      have hlt : k < s.length := by omega
      rw [drop_cons hlt, runT_cons] at hN
      cases hp : p s[k] with
      | true =>
        rw [hp, cond_true] at hN
        exact step k hlt hp (ih (k + 1) (by omega) (by omega))
      | false =>
        rw [hp, cond_false] at hN
        exact stop k (by omega) (fun _ => hp) (by omega)
  intro k hk hN
  exact key (s.length - k) k (by omega) hN
def compT (r : Str) : Nat := runT inwB r
theorem component_ev (s : Str) (hs : s.length < big) (k : Nat) (hk : k ≤ s.length) : Ev (fun n => ref24_component n s (k : Int)) ((k + compT (s.drop k) : Nat) : Int) := by
  refine Ev.fn (fun n => by simp only [ref24_component, ref24_component_e]; exact rfl) ?_
  refine Ev.of2 (F := fun n m => ref24_component_l1 n m s (k : Int)) ?_
  refine run_loop hs inwB (L := fun n m k => ref24_component_l1 n m s k) (N := k + compT (s.drop k)) ?_ ?_ k hk rfl
  · intro k hlt hp next
    refine Ev2.lp (fun n m => by simp only [ref24_component_l1, ref24_component_b1]; exact rfl) ?_
    have : decide ((k : Int) < (s.length : Int)) = true := decide_eq_true (by omega)
    simp only [this, cond_true]
    refine Ev2.idx hlt (Ev2.bind1 (begins_ev _) ?_)
    rw [wrap_next (by simp only [big] at hs; omega)]
    unfold inwB at hp
    cases hb : begB s[k] with
    | true => simp only [cond_true]; exact next
    | false =>
      simp only [cond_false]
      refine Ev2.idx hlt (Ev2.bind1 (digit_ev _) ?_)
      cases hd : digB s[k] with
      | true => simp only [cond_true]; exact next
      | false =>
        simp only [cond_false]
        refine Ev2.idx hlt ?_
        rw [hb, hd, Bool.false_or, Bool.false_or] at hp
        rw [show ((s[k].toNat : Int) == 39) = (s[k] == 39) from byte_beq _ 39 (by decide), hp]
        simp only [cond_true]
        exact next
  · intro k hle hp hN
    refine Ev2.lp (fun n m => by simp only [ref24_component_l1, ref24_component_b1]; exact rfl) ?_
    by_cases hlt : k < s.length
    · have : decide ((k : Int) < (s.length : Int)) = true := decide_eq_true (by omega)
      have hp := hp hlt
      unfold inwB at hp
      simp only [Bool.or_eq_false_iff] at hp
      obtain ⟨h1, h2, h3⟩ := hp
      simp only [this, cond_true]
      refine Ev2.idx hlt (Ev2.bind1 (begins_ev _) ?_)
      simp only [h1, cond_false]
      refine Ev2.idx hlt (Ev2.bind1 (digit_ev _) ?_)
      simp only [h2, cond_false]
      refine Ev2.idx hlt ?_
      rw [show ((s[k].toNat : Int) == 39) = (s[k] == 39) from byte_beq _ 39 (by decide), h3]
      simp only [cond_false, hN]
      exact Ev2.pure
    · have : decide ((k : Int) < (s.length : Int)) = false := decide_eq_false (by omega)
      simp only [this, cond_false]
      rw [hN]
      exact Ev2.pure
noncomputable def nameT (r : Str) : Nat :=
  match h : r.drop (compT r) with
  | d :: c :: t => bif d == 46 && begB c then compT r + (1 + nameT (c :: t)) else compT r
  | _ => compT r
termination_by r.length
decreasing_by
  have := congrArg List.length h
  simp only [List.length_drop, List.length_cons] at this ⊢
  omega
noncomputable def tailT : Str → Nat
  | d :: c :: t => bif d == 46 && begB c then 1 + nameT (c :: t) else 0
  | _ => 0
theorem nameT_eq (r : Str) : nameT r = compT r + tailT (r.drop (compT r)) := by
  rw [nameT]
  split
  · rename_i d c t h
    rw [h, tailT]
    cases d == 46 && begB c <;> rfl
  · rename_i h
    unfold tailT
    split
    · rename_i d c t h'; exact absurd h' (h d c t)
    · rfl
theorem compT_le (r : Str) : compT r ≤ r.length := runT_le _ _
theorem tailT_le : ∀ r : Str, tailT r ≤ r.length := by
  intro r
  induction h : r.length using Nat.strongRecOn generalizing r with
  | ind k ih =>
    unfold tailT
    split
    · rename_i d c t
      cases d == 46 && begB c with
      | false => exact Nat.zero_le _
      | true =>
        simp only [cond_true]
        have h1 := compT_le (c :: t)
        simp only [List.length_cons] at h h1
        have h2 := ih ((c :: t).drop (compT (c :: t))).length (by rw [List.length_drop, List.length_cons]; omega) _ rfl
        rw [List.length_drop, List.length_cons] at h2
        rw [nameT_eq]
        omega
    · exact Nat.zero_le _
theorem nameT_le (r : Str) : nameT r ≤ r.length := by
  have h1 := compT_le r
  have h2 := tailT_le (r.drop (compT r))
  rw [List.length_drop] at h2
  rw [nameT_eq]; omega
theorem refName_loop (s : Str) (hs : s.length < big) : ∀ k : Nat, k ≤ s.length → Ev2 (fun n m => ref24_name_l1 n m s (k : Int)) ((k + tailT (s.drop k) : Nat) : Int) := by
  intro k
  induction h : s.length - k using Nat.strongRecOn generalizing k with
  | ind d ih =>
    intro hk
    simp only [big] at hs
    refine Ev2.lp (fun n m => by simp only [ref24_name_l1, ref24_name_b1]; exact rfl) ?_
    rw [wrap_next (by omega)]
    by_cases h1 : k + 1 < s.length
    · have e1 : decide (((k + 1 : Nat) : Int) < (s.length : Int)) = true := decide_eq_true (by omega)
      have hk' : k < s.length := by omega
      simp only [e1, cond_true]
      refine Ev2.idx hk' ?_
      rw [drop_cons hk', drop_cons h1]
      rw [show ((s[k].toNat : Int) == 46) = (s[k] == 46) from byte_beq _ 46 (by decide)]
      simp only [tailT]
      cases s[k] == 46 with
      | false => simp only [cond_false, Bool.false_and]; exact Ev2.pure
      | true =>
        simp only [cond_true, Bool.true_and]
        refine Ev2.idx h1 (Ev2.bind1 (begins_ev _) ?_)
        cases begB s[k + 1] with
        | false => simp only [cond_false]; exact Ev2.pure
        | true =>
          simp only [cond_true]
          refine Ev2.bind1 (component_ev s (by simp only [big]; omega) (k + 1) (by omega)) ?_
          have hc := compT_le (s.drop (k + 1))
          rw [List.length_drop] at hc
          have := ih (s.length - (k + 1 + compT (s.drop (k + 1)))) (by omega) (k + 1 + compT (s.drop (k + 1))) rfl (by omega)
          rw [← drop_cons h1, nameT_eq, List.drop_drop]
          rw [show k + (1 + (compT (s.drop (k + 1)) + tailT (s.drop (k + 1 + compT (s.drop (k + 1)))))) = k + 1 + compT (s.drop (k + 1)) + tailT (s.drop (k + 1 + compT (s.drop (k + 1)))) from by omega]
          exact this
    · have e1 : decide (((k + 1 : Nat) : Int) < (s.length : Int)) = false := decide_eq_false (by omega)
      simp only [e1, cond_false]
      have : tailT (s.drop k) = 0 := by
        have hl : (s.drop k).length ≤ 1 := by rw [List.length_drop]; omega
        match s.drop k, hl with
        | [], _ => rfl
        | [_], _ => rfl
        | _ :: _ :: _, hl => simp at hl
      rw [this]
      exact Ev2.pure
theorem refName_ev (s : Str) (hs : s.length < big) (k : Nat) (hk : k ≤ s.length) : Ev (fun n => ref24_name n s (k : Int)) ((k + nameT (s.drop k) : Nat) : Int) := by
  refine Ev.fn (fun n => by simp only [ref24_name, ref24_name_e]; exact rfl) ?_
  refine Ev.bind (component_ev s hs k hk) ?_
  have hc := compT_le (s.drop k)
  rw [List.length_drop] at hc
  have := refName_loop s hs (k + compT (s.drop k)) (by omega)
  rw [nameT_eq, List.drop_drop]
  rw [show k + (compT (s.drop k) + tailT (s.drop (k + compT (s.drop k)))) = k + compT (s.drop k) + tailT (s.drop (k + compT (s.drop k))) from by omega]
  exact Ev.of2 (F := fun n m => ref24_name_l1 n m s ((k + compT (s.drop k) : Nat) : Int)) this
def Ev3 {R : Type} (F : Nat → Nat → Nat → Option R) (r : R) : Prop := ∃ N, ∀ n m p, N ≤ n → N ≤ m → N ≤ p → F n m p = some r
section ev3
variable {R S : Type}
theorem Ev3.lp {F G : Nat → Nat → Nat → Option R} {r : R} (h : ∀ n m p, F n m (p + 1) = G n m p) (hg : Ev3 G r) : Ev3 F r := by
  obtain ⟨N, hN⟩ := hg
  refine ⟨N + 1, fun n m p h1 h2 h3 => ?_⟩
  obtain ⟨q, rfl⟩ : ∃ q, p = q + 1 := ⟨p - 1, by omega⟩
  rw [h]; exact hN n m q (by omega) (by omega) (by omega)
theorem Ev3.to2 {F : Nat → Nat → Nat → Option R} {r : R} (h : Ev3 F r) : Ev2 (fun n m => F n m n) r := by
  obtain ⟨N, hN⟩ := h
  exact ⟨N, fun n m h1 h2 => hN n m n h1 h2 h1⟩
theorem Ev3.of2 {F : Nat → Nat → Option R} {r : R} (h : Ev2 F r) : Ev3 (fun n m _ => F n m) r := by
  obtain ⟨N, hN⟩ := h
  exact ⟨N, fun n m p h1 h2 _ => hN n m h1 h2⟩
theorem Ev3.pure {r : R} : Ev3 (fun _ _ _ => some r) r := ⟨0, fun _ _ _ _ _ _ => rfl⟩
theorem Ev3.bind1 {F : Nat → Option S} {G : Nat → Nat → Nat → S → Option R} {x : S} {r : R} (h : Ev F x) (hg : Ev3 (fun n m p => G n m p x) r) : Ev3 (fun n m p => (F n).bind (G n m p)) r := by
  obtain ⟨N, hN⟩ := h
  obtain ⟨M, hM⟩ := hg
  refine ⟨max N M, fun n m p h1 h2 h3 => ?_⟩
  show (F n).bind (G n m p) = some r
  rw [hN n (by omega)]
  exact hM n m p (by omega) (by omega) (by omega)
theorem Ev3.idx {xs : List S} {i : Nat} {G : Nat → Nat → Nat → S → Option R} {r : R} (hi : i < xs.length) (hg : Ev3 (fun n m p => G n m p xs[i]) r) : Ev3 (fun n m p => (idxA xs (i : Int)).bind (G n m p)) r := by
  have e : idxA xs (i : Int) = some xs[i] := by unfold idxA; rw [if_pos (by omega), Int.toNat_natCast, List.getElem?_eq_getElem hi]
  obtain ⟨N, hN⟩ := hg
  refine ⟨N, fun n m p h1 h2 h3 => ?_⟩
  show (idxA xs (i : Int)).bind (G n m p) = some r
  rw [e]; exact hN n m p h1 h2 h3
end ev3
end Go.Abs
namespace Go.Abs
set_option linter.unusedVariables false
set_option linter.unusedSimpArgs false
theorem run_loop3 {R : Type} {s : Str} (p : UInt8 → Bool) {L : Nat → Nat → Nat → Int → Option R} {r : R} {N : Nat}
    (step : ∀ k : Nat, ∀ hk : k < s.length, p s[k] = true → Ev3 (fun n m q => L n m q ((k + 1 : Nat) : Int)) r → Ev3 (fun n m q => L n m q (k : Int)) r)
    (stop : ∀ k : Nat, k ≤ s.length → (∀ hk : k < s.length, p s[k] = false) → k = N → Ev3 (fun n m q => L n m q (k : Int)) r) :
    ∀ k : Nat, k ≤ s.length → k + runT p (s.drop k) = N → Ev3 (fun n m q => L n m q (k : Int)) r := by
  have key : ∀ d k : Nat, k + d = s.length → k + runT p (s.drop k) = N → Ev3 (fun n m q => L n m q (k : Int)) r := by
    intro d
    induction d with
    | zero =>
      intro k hk hN
      rw [List.drop_eq_nil_of_le (by omega), runT_nil] at hN
      exact stop k (by omega) (fun h => by omega) (by omega)
    | succ d ih =>
      intro k hk hN
      have hlt : k < s.length := by omega
      rw [drop_cons hlt, runT_cons] at hN
      cases hp : p s[k] with
      | true =>
        rw [hp, cond_true] at hN
        exact step k hlt hp (ih (k + 1) (by omega) (by omega))
      | false =>
        rw [hp, cond_false] at hN
        exact stop k (by omega) (fun _ => hp) (by omega)
  intro k hk hN
  exact key (s.length - k) k (by omega) hN
abbrev Scn := (Str × Int × Unit) × List (Str × Bool) × List (Str × Bool) × List (Str × Bool) × Unit
def scn (s : Str) (at_ : Int) (r1 r2 r3 : List (Str × Bool)) : Scn := ((s, at_, ()), r1, r2, r3, ())
def pk (x : Scn) (r : Int × Int × Int) : Scn × Int × Int × Int × Unit := (x, r.1, r.2.1, r.2.2, ())
def wordR (s : Str) (at_ : Nat) (r1 r2 : List (Str × Bool)) (to : Nat) : Int × Int × Int :=
  bif decide ((64 : Int) < (((s.take to).drop at_).length : Int)) then (0, at_, 5)
  else bif (s.take to).drop at_ == [95] then (2, to, 0)
  else bif (plFind ((s.take to).drop at_) r2).getD false then (2, to, 0)
  else bif (plFind ((s.take to).drop at_) r1).getD false then (3, to, 0)
  else (0, to, 0)
theorem word_ev (s : Str) (hs : s.length < big) (at_ : Nat) (r1 r2 r3 : List (Str × Bool)) (ha : at_ ≤ s.length) :
    Ev (fun n => lexer_scanner_word n s (at_ : Int) r1 r2 r3) (pk (scn s at_ r1 r2 r3) (wordR s at_ r1 r2 (at_ + nameT (s.drop at_)))) := by
  simp only [big] at hs
  have fin : ∀ to : Nat, at_ ≤ to → to ≤ s.length → Ev3 (fun n m p => bif decide ((0 : Int) ≤ (at_ : Int) ∧ (at_ : Int) ≤ (to : Int) ∧ (to : Int) ≤ (s.length : Int)) then
      bif decide ((64 : Int) < ((List.drop (at_ : Int).toNat (List.take (to : Int).toNat s)).length : Int)) then
        some (((s, (at_ : Int), ()), r1, r2, r3, ()), (0 : Int), (at_ : Int), (5 : Int), ())
      else
        bif List.drop (at_ : Int).toNat (List.take (to : Int).toNat s) == [95] then
          some (((s, (at_ : Int), ()), r1, r2, r3, ()), (2 : Int), (to : Int), (0 : Int), ())
        else
          bif (plFind (List.drop (at_ : Int).toNat (List.take (to : Int).toNat s)) r2).getD false then
            some (((s, (at_ : Int), ()), r1, r2, r3, ()), (2 : Int), (to : Int), (0 : Int), ())
          else
            bif (plFind (List.drop (at_ : Int).toNat (List.take (to : Int).toNat s)) r1).getD false then
              some (((s, (at_ : Int), ()), r1, r2, r3, ()), (3 : Int), (to : Int), (0 : Int), ())
            else some (((s, (at_ : Int), ()), r1, r2, r3, ()), (0 : Int), (to : Int), (0 : Int), ())
      else none) (pk (scn s at_ r1 r2 r3) (wordR s at_ r1 r2 to)) := by
    intro to h1 h2
    have e : decide ((0 : Int) ≤ (at_ : Int) ∧ (at_ : Int) ≤ (to : Int) ∧ (to : Int) ≤ (s.length : Int)) = true := decide_eq_true (by omega)
    simp only [e, cond_true, Int.toNat_natCast]
    unfold wordR
    cases decide ((64 : Int) < (((s.take to).drop at_).length : Int)) with
    | true => exact Ev3.pure
    | false =>
      cases (s.take to).drop at_ == [95] with
      | true => exact Ev3.pure
      | false =>
        cases (plFind ((s.take to).drop at_) r2).getD false with
        | true => exact Ev3.pure
        | false =>
          cases (plFind ((s.take to).drop at_) r1).getD false with
          | true => exact Ev3.pure
          | false => exact Ev3.pure
  have outer : ∀ k : Nat, at_ ≤ k → k ≤ s.length → Ev2 (fun n m => lexer_scanner_word_l2 n m (k : Int) s (at_ : Int) r1 r2 r3) (pk (scn s at_ r1 r2 r3) (wordR s at_ r1 r2 (k + nameT (s.drop k)))) := by
    intro k
    induction h : s.length - k using Nat.strongRecOn generalizing k with
    | ind d ih =>
      intro hak hk
      refine Ev2.lp (G := fun n m => lexer_scanner_word_l1 n (lexer_scanner_word_l2 n m) n (k : Int) s (at_ : Int) r1 r2 r3) (fun n m => by simp only [lexer_scanner_word_l2, lexer_scanner_word_b2]) ?_
      refine Ev3.to2 (F := fun n m p => lexer_scanner_word_l1 n (lexer_scanner_word_l2 n m) p (k : Int) s (at_ : Int) r1 r2 r3) ?_
      have hbase : ∀ q : Nat, k ≤ q → q = k + compT (s.drop k) → k + nameT (s.drop k) = q + tailT (s.drop q) := by
        intro q _ hq
        subst hq
        rw [nameT_eq, List.drop_drop]; omega
      refine run_loop3 (s := s) inwB (L := fun n m p k => lexer_scanner_word_l1 n (lexer_scanner_word_l2 n m) p k s (at_ : Int) r1 r2 r3) (N := k + compT (s.drop k)) ?_ ?_ k hk rfl
      · intro q hlt hp next
        refine Ev3.lp (fun n m p => by simp only [lexer_scanner_word_l1, lexer_scanner_word_b1]; exact rfl) ?_
        have e : decide ((q : Int) < (s.length : Int)) = true := decide_eq_true (by omega)
        simp only [e, cond_true]
        refine Ev3.idx hlt (Ev3.bind1 (inWord_ev _) ?_)
        rw [hp, wrap_next (by omega)]
        simp only [cond_true]
        exact next
      · intro q hle hp hN
        have hq := compT_le (s.drop k)
        rw [List.length_drop] at hq
        rw [hbase q (by omega) hN]
        refine Ev3.lp (fun n m p => by simp only [lexer_scanner_word_l1, lexer_scanner_word_b1]; exact rfl) ?_
        rw [wrap_next (by omega)]
        have stop : tailT (s.drop q) = 0 → q + tailT (s.drop q) = q := by omega
        by_cases hlt : q < s.length
        · have e : decide ((q : Int) < (s.length : Int)) = true := decide_eq_true (by omega)
          simp only [e, cond_true]
          refine Ev3.idx hlt (Ev3.bind1 (inWord_ev _) ?_)
          rw [hp hlt]
          simp only [cond_false]
          by_cases h1 : q + 1 < s.length
          · have e1 : decide ((s.length : Int) ≤ ((q + 1 : Nat) : Int)) = false := decide_eq_false (by omega)
            simp only [e1, cond_false]
            refine Ev3.idx hlt ?_
            rw [show ((s[q].toNat : Int) != 46) = !(s[q] == 46) from by rw [bne, show ((s[q].toNat : Int) == 46) = (s[q] == 46) from byte_beq _ 46 (by decide)]]
            rw [drop_cons hlt, drop_cons h1]
            simp only [tailT]
            cases s[q] == 46 with
            | false =>
              simp only [Bool.not_false, cond_true, Bool.false_and, cond_false, Nat.add_zero]
              exact fin q (by omega) hle
            | true =>
              simp only [Bool.not_true, cond_false, Bool.true_and]
              refine Ev3.idx h1 (Ev3.bind1 (class_ev _) ?_)
              rw [bne, class_one]
              cases begB s[q + 1] with
              | false =>
                simp only [Bool.not_false, cond_true, cond_false, Nat.add_zero]
                exact fin q (by omega) hle
              | true =>
                simp only [Bool.not_true, cond_false, cond_true]
                have := ih (s.length - (q + 1)) (by omega) (q + 1) rfl (by omega) (by omega)
                rw [drop_cons h1] at this
                rw [show q + (1 + nameT (s[q + 1] :: s.drop (q + 1 + 1))) = q + 1 + nameT (s[q + 1] :: s.drop (q + 1 + 1)) from by omega]
                exact Ev3.of2 this
          · have e1 : decide ((s.length : Int) ≤ ((q + 1 : Nat) : Int)) = true := decide_eq_true (by omega)
            have : tailT (s.drop q) = 0 := by
              have hl : (s.drop q).length ≤ 1 := by rw [List.length_drop]; omega
              match s.drop q, hl with
              | [], _ => rfl
              | [_], _ => rfl
              | _ :: _ :: _, hl => simp at hl
            rw [stop this]
            simp only [e1, cond_true]
            exact fin q (by omega) hle
        · have e : decide ((q : Int) < (s.length : Int)) = false := decide_eq_false (by omega)
          have e1 : decide ((s.length : Int) ≤ ((q + 1 : Nat) : Int)) = true := decide_eq_true (by omega)
          rw [List.drop_eq_nil_of_le (show s.length ≤ q by omega)]
          simp only [e, e1, cond_true, cond_false, tailT, Nat.add_zero]
          exact fin q (by omega) hle
  refine Ev.fn (fun n => by simp only [lexer_scanner_word, lexer_scanner_word_e]; exact rfl) ?_
  exact Ev.of2 (F := fun n m => lexer_scanner_word_l2 n m (at_ : Int) s (at_ : Int) r1 r2 r3) (outer at_ (Nat.le_refl _) ha)
end Go.Abs
namespace Go.Abs
set_option linter.unusedVariables false
set_option linter.unusedSimpArgs false
def numT (r : Str) : Int × Nat × Int :=
  bif decide (6 < runT digB r) then (0, 0, 5)
  else bif decide (1 < runT digB r) && r.head? == some 48 then (0, 0, 4)
  else match r.drop (runT digB r) with
    | d :: _ => bif begB d || d == 39 then (0, runT digB r, 4) else (1, runT digB r, 0)
    | [] => (1, runT digB r, 0)
def absR (at_ : Nat) (r : Int × Nat × Int) : Int × Int × Int := (r.1, ((at_ + r.2.1 : Nat) : Int), r.2.2)
theorem bne_byte (c : UInt8) (k : Nat) (hk : k < 256) : ((c.toNat : Int) != (k : Int)) = !(c == UInt8.ofNat k) := by rw [bne, byte_beq c k hk]
theorem wrap_sub {a b : Nat} (h : b ≤ a) (ha : a < big) : IntKind.i64.wrap ((a : Int) - (b : Int)) = ((a - b : Nat) : Int) := by
  simp only [big] at ha
  rw [wrap_small (by omega) (by omega)]; omega
theorem number_ev (s : Str) (hs : s.length < big) (at_ : Nat) (r1 r2 r3 : List (Str × Bool)) (ha : at_ < s.length) :
    Ev (fun n => lexer_scanner_number n s (at_ : Int) r1 r2 r3) (pk (scn s at_ r1 r2 r3) (absR at_ (numT (s.drop at_)))) := by
  refine Ev.fn (fun n => by simp only [lexer_scanner_number, lexer_scanner_number_e]; exact rfl) ?_
  have hr := runT_le digB (s.drop at_)
  rw [List.length_drop] at hr
  have hd0 : s.drop at_ = s[at_] :: s.drop (at_ + 1) := drop_cons ha
  refine Ev.of2 (F := fun n m => lexer_scanner_number_l1 n m (at_ : Int) s (at_ : Int) r1 r2 r3) ?_
  have hb : s.length < 4611686018427387904 := hs
  have fin : ∀ q : Nat, q = at_ + runT digB (s.drop at_) → (∀ hq : q < s.length, digB s[q] = false) → Ev2 (fun n m => bif decide (6 < IntKind.i64.wrap ((q : Int) - (at_ : Int))) then some (((s, (at_ : Int), ()), r1, r2, r3, ()), (0 : Int), (at_ : Int), (5 : Int), ())
      else
        bif decide (1 < IntKind.i64.wrap ((q : Int) - (at_ : Int))) then
          (idxA s (at_ : Int)).bind fun x =>
            bif (x.toNat : Int) == 48 then some (((s, (at_ : Int), ()), r1, r2, r3, ()), (0 : Int), (at_ : Int), (4 : Int), ())
            else
              bif decide ((q : Int) < (s.length : Int)) then
                (idxA s (q : Int)).bind fun x =>
                  (lexer_inWord n (x.toNat : Int)).bind fun x =>
                    bif x then some (((s, (at_ : Int), ()), r1, r2, r3, ()), (0 : Int), (q : Int), (4 : Int), ())
                    else some (((s, (at_ : Int), ()), r1, r2, r3, ()), (1 : Int), (q : Int), (0 : Int), ())
              else some (((s, (at_ : Int), ()), r1, r2, r3, ()), (1 : Int), (q : Int), (0 : Int), ())
        else
          bif decide ((q : Int) < (s.length : Int)) then
            (idxA s (q : Int)).bind fun x =>
              (lexer_inWord n (x.toNat : Int)).bind fun x =>
                bif x then some (((s, (at_ : Int), ()), r1, r2, r3, ()), (0 : Int), (q : Int), (4 : Int), ())
                else some (((s, (at_ : Int), ()), r1, r2, r3, ()), (1 : Int), (q : Int), (0 : Int), ())
          else some (((s, (at_ : Int), ()), r1, r2, r3, ()), (1 : Int), (q : Int), (0 : Int), ())) (pk (scn s at_ r1 r2 r3) (absR at_ (numT (s.drop at_)))) := by
    intro q hq hdq
    have hsub : IntKind.i64.wrap ((q : Int) - (at_ : Int)) = ((runT digB (s.drop at_) : Nat) : Int) := by
      rw [wrap_sub (by omega) (by simp only [big]; omega)]; congr 1; omega
    have e6 : decide ((6 : Int) < ((runT digB (s.drop at_) : Nat) : Int)) = decide (6 < runT digB (s.drop at_)) := decide_eq_decide.2 (by omega)
    have e1 : decide ((1 : Int) < ((runT digB (s.drop at_) : Nat) : Int)) = decide (1 < runT digB (s.drop at_)) := decide_eq_decide.2 (by omega)
    have rest : Ev2 (fun n m => bif decide ((q : Int) < (s.length : Int)) then
            (idxA s (q : Int)).bind fun x =>
              (lexer_inWord n (x.toNat : Int)).bind fun x =>
                bif x then some (((s, (at_ : Int), ()), r1, r2, r3, ()), (0 : Int), (q : Int), (4 : Int), ())
                else some (((s, (at_ : Int), ()), r1, r2, r3, ()), (1 : Int), (q : Int), (0 : Int), ())
          else some (((s, (at_ : Int), ()), r1, r2, r3, ()), (1 : Int), (q : Int), (0 : Int), ())) (pk (scn s at_ r1 r2 r3) (absR at_ (match (s.drop at_).drop (runT digB (s.drop at_)) with
    | d :: _ => bif begB d || d == 39 then (0, runT digB (s.drop at_), 4) else (1, runT digB (s.drop at_), 0)
    | [] => (1, runT digB (s.drop at_), 0)))) := by
      rw [List.drop_drop, ← hq]
      by_cases hlt : q < s.length
      · have e : decide ((q : Int) < (s.length : Int)) = true := decide_eq_true (by omega)
        simp only [e, cond_true, drop_cons hlt]
        refine Ev2.idx hlt (Ev2.bind1 (inWord_ev _) ?_)
        have hd := hdq hlt
        unfold inwB
        rw [hd, Bool.false_or]
        cases (begB s[q] || s[q] == 39) with
        | true => simp only [cond_true]; rw [show (q : Int) = ((at_ + runT digB (s.drop at_) : Nat) : Int) from by rw [hq]]; exact Ev2.pure
        | false => simp only [cond_false]; rw [show (q : Int) = ((at_ + runT digB (s.drop at_) : Nat) : Int) from by rw [hq]]; exact Ev2.pure
      · have e : decide ((q : Int) < (s.length : Int)) = false := decide_eq_false (by omega)
        simp only [e, cond_false, List.drop_eq_nil_of_le (show s.length ≤ q by omega)]
        rw [show (q : Int) = ((at_ + runT digB (s.drop at_) : Nat) : Int) from by rw [hq]]
        exact Ev2.pure
    unfold numT
    simp only [hsub, e6, e1]
    cases decide (6 < runT digB (s.drop at_)) with
    | true => simp only [cond_true]; exact Ev2.pure
    | false =>
      simp only [cond_false]
      cases decide (1 < runT digB (s.drop at_)) with
      | false => simp only [cond_false, Bool.false_and]; exact rest
      | true =>
        simp only [cond_true, Bool.true_and]
        refine Ev2.idx ha ?_
        rw [show ((s[at_].toNat : Int) == 48) = (s[at_] == 48) from byte_beq _ 48 (by decide)]
        have hh : ((s.drop at_).head? == some 48) = (s[at_] == 48) := by rw [hd0]; rfl
        rw [hh]
        cases s[at_] == 48 with
        | true => simp only [cond_true]; exact Ev2.pure
        | false => simp only [cond_false]; exact rest
  refine run_loop hs digB (L := fun n m k => lexer_scanner_number_l1 n m k s (at_ : Int) r1 r2 r3) (N := at_ + runT digB (s.drop at_)) ?_ ?_ at_ (by omega) rfl
  · intro q hlt hp next
    refine Ev2.lp (fun n m => by simp only [lexer_scanner_number_l1, lexer_scanner_number_b1]; exact rfl) ?_
    have e : decide ((q : Int) < (s.length : Int)) = true := decide_eq_true (by omega)
    simp only [e, cond_true]
    refine Ev2.idx hlt (Ev2.bind1 (class_ev _) ?_)
    rw [class_two, hp, wrap_next (by omega)]
    simp only [cond_true]
    exact next
  · intro q hle hp hN
    refine Ev2.lp (fun n m => by simp only [lexer_scanner_number_l1, lexer_scanner_number_b1]; exact rfl) ?_
    by_cases hlt : q < s.length
    · have e : decide ((q : Int) < (s.length : Int)) = true := decide_eq_true (by omega)
      have f := fin q hN hp
      simp only [e, cond_true] at f ⊢
      refine Ev2.idx hlt (Ev2.bind1 (class_ev _) ?_)
      rw [class_two, hp hlt]
      simp only [cond_false]
      exact f
    · have e : decide ((q : Int) < (s.length : Int)) = false := decide_eq_false (by omega)
      have f := fin q hN hp
      simp only [e, cond_false] at f ⊢
      exact f
theorem refNumber_ev (s : Str) (hs : s.length < big) (at_ : Nat) (syms : List Str) (ha : at_ < s.length) :
    Ev2 (fun n m => ref24_one_l1 n m s (at_ : Int) (s[at_].toNat : Int) (at_ : Int)) (absR at_ (numT (s.drop at_))) := by
  have hr := runT_le digB (s.drop at_)
  rw [List.length_drop] at hr
  have hd0 : s.drop at_ = s[at_] :: s.drop (at_ + 1) := drop_cons ha
  have hb : s.length < 4611686018427387904 := hs
  have fin : ∀ q : Nat, q = at_ + runT digB (s.drop at_) → (∀ hq : q < s.length, digB s[q] = false) → Ev2 (fun n m => bif decide (6 < IntKind.i64.wrap ((q : Int) - (at_ : Int))) then some ((0 : Int), (at_ : Int), (5 : Int))
      else
        bif decide (1 < IntKind.i64.wrap ((q : Int) - (at_ : Int))) then
          bif (s[at_].toNat : Int) == 48 then some ((0 : Int), (at_ : Int), (4 : Int))
          else
            bif decide ((q : Int) < (s.length : Int)) then
              (idxA s (q : Int)).bind fun x =>
                (ref24_begins n (x.toNat : Int)).bind fun x =>
                  bif x then some ((0 : Int), (q : Int), (4 : Int))
                  else (idxA s (q : Int)).bind fun x => bif (x.toNat : Int) == 39 then some ((0 : Int), (q : Int), (4 : Int)) else some ((1 : Int), (q : Int), (0 : Int))
            else some ((1 : Int), (q : Int), (0 : Int))
        else
          bif decide ((q : Int) < (s.length : Int)) then
            (idxA s (q : Int)).bind fun x =>
              (ref24_begins n (x.toNat : Int)).bind fun x =>
                bif x then some ((0 : Int), (q : Int), (4 : Int))
                else (idxA s (q : Int)).bind fun x => bif (x.toNat : Int) == 39 then some ((0 : Int), (q : Int), (4 : Int)) else some ((1 : Int), (q : Int), (0 : Int))
          else some ((1 : Int), (q : Int), (0 : Int))) (absR at_ (numT (s.drop at_))) := by
    intro q hq hdq
    have hsub : IntKind.i64.wrap ((q : Int) - (at_ : Int)) = ((runT digB (s.drop at_) : Nat) : Int) := by
      rw [wrap_sub (by omega) (by simp only [big]; omega)]; congr 1; omega
    have e6 : decide ((6 : Int) < ((runT digB (s.drop at_) : Nat) : Int)) = decide (6 < runT digB (s.drop at_)) := decide_eq_decide.2 (by omega)
    have e1 : decide ((1 : Int) < ((runT digB (s.drop at_) : Nat) : Int)) = decide (1 < runT digB (s.drop at_)) := decide_eq_decide.2 (by omega)
    have rest : Ev2 (fun n m => bif decide ((q : Int) < (s.length : Int)) then
            (idxA s (q : Int)).bind fun x =>
              (ref24_begins n (x.toNat : Int)).bind fun x =>
                bif x then some ((0 : Int), (q : Int), (4 : Int))
                else (idxA s (q : Int)).bind fun x => bif (x.toNat : Int) == 39 then some ((0 : Int), (q : Int), (4 : Int)) else some ((1 : Int), (q : Int), (0 : Int))
          else some ((1 : Int), (q : Int), (0 : Int))) (absR at_ (match (s.drop at_).drop (runT digB (s.drop at_)) with
    | d :: _ => bif begB d || d == 39 then (0, runT digB (s.drop at_), 4) else (1, runT digB (s.drop at_), 0)
    | [] => (1, runT digB (s.drop at_), 0))) := by
      rw [List.drop_drop, ← hq]
      by_cases hlt : q < s.length
      · have e : decide ((q : Int) < (s.length : Int)) = true := decide_eq_true (by omega)
        simp only [e, cond_true, drop_cons hlt]
        refine Ev2.idx hlt (Ev2.bind1 (begins_ev _) ?_)
        cases begB s[q] with
        | true => simp only [cond_true, Bool.true_or]; rw [show (q : Int) = ((at_ + runT digB (s.drop at_) : Nat) : Int) from by rw [hq]]; exact Ev2.pure
        | false =>
          simp only [cond_false, Bool.false_or]
          refine Ev2.idx hlt ?_
          rw [show ((s[q].toNat : Int) == 39) = (s[q] == 39) from byte_beq _ 39 (by decide)]
          cases s[q] == 39 with
          | true => simp only [cond_true]; rw [show (q : Int) = ((at_ + runT digB (s.drop at_) : Nat) : Int) from by rw [hq]]; exact Ev2.pure
          | false => simp only [cond_false]; rw [show (q : Int) = ((at_ + runT digB (s.drop at_) : Nat) : Int) from by rw [hq]]; exact Ev2.pure
      · have e : decide ((q : Int) < (s.length : Int)) = false := decide_eq_false (by omega)
        simp only [e, cond_false, List.drop_eq_nil_of_le (show s.length ≤ q by omega)]
        rw [show (q : Int) = ((at_ + runT digB (s.drop at_) : Nat) : Int) from by rw [hq]]
        exact Ev2.pure
    unfold numT
    simp only [hsub, e6, e1]
    have hh : ((s.drop at_).head? == some 48) = (s[at_] == 48) := by rw [hd0]; rfl
    rw [show ((s[at_].toNat : Int) == 48) = (s[at_] == 48) from byte_beq _ 48 (by decide), hh]
    cases decide (6 < runT digB (s.drop at_)) with
    | true => simp only [cond_true]; exact Ev2.pure
    | false =>
      simp only [cond_false]
      cases decide (1 < runT digB (s.drop at_)) with
      | false => simp only [cond_false, Bool.false_and]; exact rest
      | true =>
        simp only [cond_true, Bool.true_and]
        cases s[at_] == 48 with
        | true => simp only [cond_true]; exact Ev2.pure
        | false => simp only [cond_false]; exact rest
  refine run_loop hs digB (L := fun n m k => ref24_one_l1 n m s (at_ : Int) (s[at_].toNat : Int) k) (N := at_ + runT digB (s.drop at_)) ?_ ?_ at_ (by omega) rfl
  · intro q hlt hp next
    refine Ev2.lp (fun n m => by simp only [ref24_one_l1, ref24_one_b1]; exact rfl) ?_
    have e : decide ((q : Int) < (s.length : Int)) = true := decide_eq_true (by omega)
    simp only [e, cond_true]
    refine Ev2.idx hlt (Ev2.bind1 (digit_ev _) ?_)
    rw [hp, wrap_next (by omega)]
    simp only [cond_true]
    exact next
  · intro q hle hp hN
    refine Ev2.lp (fun n m => by simp only [ref24_one_l1, ref24_one_b1]; exact rfl) ?_
    by_cases hlt : q < s.length
    · have e : decide ((q : Int) < (s.length : Int)) = true := decide_eq_true (by omega)
      have f := fin q hN hp
      simp only [e, cond_true] at f ⊢
      refine Ev2.idx hlt (Ev2.bind1 (digit_ev _) ?_)
      rw [hp hlt]
      simp only [cond_false]
      exact f
    · have e : decide ((q : Int) < (s.length : Int)) = false := decide_eq_false (by omega)
      have f := fin q hN hp
      simp only [e, cond_false] at f ⊢
      exact f
end Go.Abs
namespace Go.Abs
set_option linter.unusedVariables false
set_option linter.unusedSimpArgs false
def whB (c : UInt8) : Bool := c == 32 || (c == 9 || (c == 13 || c == 10))
def n10 (c : UInt8) : Bool := !(c == 10)
theorem n10_def (c : UInt8) : n10 c = !(c == 10) := rfl
def skipG : Bool → Str → Nat
  | _, [] => 0
  | true, x :: r => bif x == 10 then skipG false r + 1 else skipG true r + 1
  | false, x :: r => bif whB x then skipG false r + 1 else bif x == 45 && r.head? == some 45 then skipG true r + 1 else 0
theorem skipG_nil (b : Bool) : skipG b [] = 0 := by cases b <;> rfl
theorem skipG_le : ∀ (b : Bool) (r : Str), skipG b r ≤ r.length
  | b, [] => by rw [skipG_nil]; exact Nat.le_refl _
  | true, x :: r => by
    rw [skipG, List.length_cons]
    have h1 := skipG_le false r
    have h2 := skipG_le true r
    cases x == 10 <;> simp only [cond_true, cond_false] <;> omega
  | false, x :: r => by
    rw [skipG, List.length_cons]
    have h1 := skipG_le false r
    have h2 := skipG_le true r
    cases whB x <;> simp only [cond_true, cond_false]
    · cases x == 45 && r.head? == some 45 <;> simp only [cond_true, cond_false] <;> omega
    · omega
theorem skipG_true : ∀ r : Str, skipG true r = runT n10 r + skipG false (r.drop (runT n10 r))
  | [] => rfl
  | x :: r => by
    rw [skipG, runT_cons, n10_def]
    cases hx : x == 10 with
    | true =>
      simp only [cond_true, Bool.not_true, cond_false, List.drop_zero, Nat.zero_add]
      rw [skipG]
      have : whB x = true := by unfold whB; rw [hx]; simp
      rw [this, cond_true]
    | false =>
      simp only [cond_false, Bool.not_false, cond_true]
      rw [skipG_true r, List.drop_succ_cons]
      omega
theorem skipG_com {r : Str} (h : r.head? = some 45) (h2 : (r.drop 1).head? = some 45) : skipG false r = skipG true r := by
  match r, h with
  | x :: t, h =>
    obtain rfl : x = 45 := by simpa using h
    have h2 : t.head? = some 45 := h2
    rw [skipG, skipG, h2]
    rfl
theorem skip_white {x : UInt8} {r : Str} (h : whB x = true) : skipG false (x :: r) = skipG false r + 1 := by rw [skipG, h, cond_true]
theorem skip_none {x : UInt8} {r : Str} (h : whB x = false) (h2 : (x == 45 && r.head? == some 45) = false) : skipG false (x :: r) = 0 := by rw [skipG, h, cond_false, h2, cond_false]
theorem com_head {s : Str} {k : Nat} (h : k < s.length) (h1 : k + 1 < s.length) (e : s[k] = 45) (e1 : s[k + 1] = 45) : skipG false (s.drop k) = runT n10 (s.drop k) + skipG false (s.drop (k + runT n10 (s.drop k))) := by
  rw [skipG_com (by rw [drop_cons h, e]; rfl) (by rw [List.drop_drop, drop_cons h1, e1]; rfl), skipG_true, List.drop_drop]
theorem com_pos {s : Str} {k : Nat} (h : k < s.length) (e : s[k] = 45) : 0 < runT n10 (s.drop k) := by
  rw [drop_cons h, runT_cons, e]
  show 0 < bif n10 45 then _ else _
  simp [n10]
theorem refSkip_loop (s : Str) (hs : s.length < big) : ∀ k : Nat, k ≤ s.length → Ev2 (fun n m => ref24_skip_l2 n m s (k : Int)) ((k + skipG false (s.drop k) : Nat) : Int) := by
  intro k
  induction h : s.length - k using Nat.strongRecOn generalizing k with
  | ind d ih =>
    intro hk
    have hb : s.length < 4611686018427387904 := hs
    refine Ev2.lp (fun n m => by simp only [ref24_skip_l2, ref24_skip_b2]; exact rfl) ?_
    rw [wrap_next (by omega)]
    by_cases hlt : k < s.length
    · have e1 : decide ((k : Int) < (s.length : Int)) = true := decide_eq_true (by omega)
      simp only [e1, cond_true]
      have next : whB s[k] = true → Ev2 (fun n m => ref24_skip_l2 n m s ((k + 1 : Nat) : Int)) ((k + skipG false (s.drop k) : Nat) : Int) := by
        intro hw
        rw [drop_cons hlt, skip_white hw]
        have := ih (s.length - (k + 1)) (by omega) (k + 1) rfl (by omega)
        rw [show k + (skipG false (s.drop (k + 1)) + 1) = k + 1 + skipG false (s.drop (k + 1)) from by omega]
        exact this
      refine Ev2.idx hlt ?_
      rw [show ((s[k].toNat : Int) == 32) = (s[k] == 32) from byte_beq _ 32 (by decide)]
      cases h32 : s[k] == 32 with
      | true => simp only [cond_true]; exact next (by unfold whB; rw [h32]; rfl)
      | false =>
        simp only [cond_false]
        refine Ev2.idx hlt ?_
        rw [show ((s[k].toNat : Int) == 9) = (s[k] == 9) from byte_beq _ 9 (by decide)]
        cases h9 : s[k] == 9 with
        | true => simp only [cond_true]; exact next (by unfold whB; rw [h9]; simp)
        | false =>
          simp only [cond_false]
          refine Ev2.idx hlt ?_
          rw [show ((s[k].toNat : Int) == 13) = (s[k] == 13) from byte_beq _ 13 (by decide)]
          cases h13 : s[k] == 13 with
          | true => simp only [cond_true]; exact next (by unfold whB; rw [h13]; simp)
          | false =>
            simp only [cond_false]
            refine Ev2.idx hlt ?_
            rw [show ((s[k].toNat : Int) == 10) = (s[k] == 10) from byte_beq _ 10 (by decide)]
            cases h10 : s[k] == 10 with
            | true => simp only [cond_true]; exact next (by unfold whB; rw [h10]; simp)
            | false =>
              simp only [cond_false]
              have hw : whB s[k] = false := by unfold whB; rw [h32, h9, h13, h10]; rfl
              by_cases h1 : k + 1 < s.length
              · have e2 : decide (((k + 1 : Nat) : Int) < (s.length : Int)) = true := decide_eq_true (by omega)
                simp only [e2, cond_true]
                refine Ev2.idx hlt ?_
                rw [show ((s[k].toNat : Int) == 45) = (s[k] == 45) from byte_beq _ 45 (by decide)]
                have hh : (s.drop (k + 1)).head? = some s[k + 1] := by rw [drop_cons h1]; rfl
                cases h45 : s[k] == 45 with
                | false =>
                  simp only [cond_false]
                  rw [drop_cons hlt, skip_none hw (by rw [h45]; rfl)]
                  exact Ev2.pure
                | true =>
                  simp only [cond_true]
                  refine Ev2.idx h1 ?_
                  rw [show ((s[k + 1].toNat : Int) == 45) = (s[k + 1] == 45) from byte_beq _ 45 (by decide)]
                  cases h46 : s[k + 1] == 45 with
                  | false =>
                    simp only [cond_false]
                    rw [drop_cons hlt, skip_none hw (by rw [h45, hh]; simpa using h46)]
                    exact Ev2.pure
                  | true =>
                    simp only [cond_true]
                    have hr := runT_le n10 (s.drop k)
                    rw [List.length_drop] at hr
                    have hp := com_pos hlt (eq_of_beq h45)
                    rw [com_head hlt h1 (eq_of_beq h45) (eq_of_beq h46)]
                    have hj := ih (s.length - (k + runT n10 (s.drop k))) (by omega) (k + runT n10 (s.drop k)) rfl (by omega)
                    rw [show k + (runT n10 (s.drop k) + skipG false (s.drop (k + runT n10 (s.drop k)))) = k + runT n10 (s.drop k) + skipG false (s.drop (k + runT n10 (s.drop k))) from by omega]
                    refine Ev3.to2 (F := fun n m p => ref24_skip_l1 n (ref24_skip_l2 n m) p s (k : Int)) ?_
                    refine run_loop3 (s := s) n10 (L := fun n m p k => ref24_skip_l1 n (ref24_skip_l2 n m) p s k) (N := k + runT n10 (s.drop k)) ?_ ?_ k hk rfl
                    · intro q hq hpq nx
                      refine Ev3.lp (fun n m p => by simp only [ref24_skip_l1, ref24_skip_b1]; exact rfl) ?_
                      have e : decide ((q : Int) < (s.length : Int)) = true := decide_eq_true (by omega)
                      simp only [e, cond_true]
                      refine Ev3.idx hq ?_
                      rw [show ((s[q].toNat : Int) != 10) = !(s[q] == 10) from bne_byte _ 10 (by decide), wrap_next (by omega)]
                      have hpq : (!(s[q] == 10)) = true := hpq
                      rw [hpq]
                      simp only [cond_true]
                      exact nx
                    · intro q hq hpq hN
                      refine Ev3.lp (fun n m p => by simp only [ref24_skip_l1, ref24_skip_b1]; exact rfl) ?_
                      rw [← hN] at hj ⊢
                      by_cases hql : q < s.length
                      · have e : decide ((q : Int) < (s.length : Int)) = true := decide_eq_true (by omega)
                        simp only [e, cond_true]
                        refine Ev3.idx hql ?_
                        have hpq : (!(s[q] == 10)) = false := hpq hql
                        rw [show ((s[q].toNat : Int) != 10) = !(s[q] == 10) from bne_byte _ 10 (by decide), hpq]
                        simp only [cond_false]
                        exact Ev3.of2 hj
                      · have e : decide ((q : Int) < (s.length : Int)) = false := decide_eq_false (by omega)
                        simp only [e, cond_false]
                        exact Ev3.of2 hj
              · have e2 : decide (((k + 1 : Nat) : Int) < (s.length : Int)) = false := decide_eq_false (by omega)
                simp only [e2, cond_false]
                have hnil : s.drop (k + 1) = [] := List.drop_eq_nil_of_le (by omega)
                rw [drop_cons hlt, skip_none hw (by rw [hnil]; simp)]
                exact Ev2.pure
    · have e1 : decide ((k : Int) < (s.length : Int)) = false := decide_eq_false (by omega)
      simp only [e1, cond_false]
      rw [List.drop_eq_nil_of_le (by omega), skipG_nil]
      exact Ev2.pure
theorem refSkip_ev (s : Str) (hs : s.length < big) (k : Nat) (hk : k ≤ s.length) : Ev (fun n => ref24_skip n s (k : Int)) ((k + skipG false (s.drop k) : Nat) : Int) := by
  refine Ev.fn (fun n => by simp only [ref24_skip, ref24_skip_e]; exact rfl) ?_
  exact Ev.of2 (F := fun n m => ref24_skip_l2 n m s (k : Int)) (refSkip_loop s hs k hk)
theorem index_nl : ∀ r : Str, (Lib.index r [10] = -1 ∧ runT n10 r = r.length) ∨ (Lib.index r [10] = (runT n10 r : Int) ∧ runT n10 r < r.length)
  | [] => .inl ⟨rfl, rfl⟩
  | x :: r => by
    rw [runT_cons]
    unfold Lib.index
    have e : ([10] : Str).isPrefixOf (x :: r) = (x == 10) := by
      show ((10 : UInt8) == x && ([] : Str).isPrefixOf r) = _
      rw [show ([] : Str).isPrefixOf r = true from by cases r <;> rfl, Bool.and_true]
      exact Bool.eq_iff_iff.2 ⟨fun h => by simpa using (beq_iff_eq.1 h).symm, fun h => by simpa using (beq_iff_eq.1 h).symm⟩
    rw [e, n10_def]
    cases x == 10 with
    | true => exact .inr ⟨rfl, by simp⟩
    | false =>
      have := index_nl r
      simp only [Bool.false_eq_true, if_false, Bool.not_false, cond_true, List.length_cons]
      rcases this with ⟨h1, h2⟩ | ⟨h1, h2⟩
      · rw [h1]; exact .inl ⟨rfl, by omega⟩
      · rw [h1]
        have hne : (((runT n10 r : Nat) : Int) == -1) = false := by rw [beq_eq_false_iff_ne]; omega
        rw [hne]
        exact .inr ⟨by simp, by omega⟩
theorem cut_len (r : Str) : (Lib.cut r [10]).1.length = runT n10 r := by
  unfold Lib.cut
  rcases index_nl r with ⟨h1, h2⟩ | ⟨h1, h2⟩
  · rw [h1, if_neg (by decide), h2]
  · rw [h1, if_pos (by omega)]
    simp only [Int.toNat_natCast, List.length_take]
    omega
theorem hasPrefix_ev (s p : Str) : Ev (fun n => strings_HasPrefix n s p) (decide (p.length ≤ s.length) && s.take p.length == p) := by
  refine Ev.fn (fun n => by simp only [strings_HasPrefix, strings_HasPrefix_e]; exact rfl) ?_
  refine Ev.fn (fun n => by simp only [internal_stringslite_HasPrefix, internal_stringslite_HasPrefix_e]; exact rfl) ?_
  by_cases h : p.length ≤ s.length
  · have e : decide ((p.length : Int) ≤ (s.length : Int)) = true := decide_eq_true (by omega)
    have e' : decide (p.length ≤ s.length) = true := decide_eq_true h
    simp [e, e', h]
    exact Ev.pure
  · have e : decide ((p.length : Int) ≤ (s.length : Int)) = false := decide_eq_false (by omega)
    have e' : decide (p.length ≤ s.length) = false := decide_eq_false h
    simp [e, e', h]
    exact Ev.pure
theorem containsRune_k (k : Nat) (c : UInt8) : strings_ContainsRune (k + 40) [32, 9, 13, 10] (IntKind.i32.wrap (c.toNat : Int)) = some (whB c) := by
  have := u8_all (p := fun c => decide (strings_ContainsRune (k + 40) [32, 9, 13, 10] (IntKind.i32.wrap (c.toNat : Int)) = some (whB c))) (by kernel_rfl) c
  exact of_decide_eq_true this
end Go.Abs
namespace Go.Abs
set_option linter.unusedVariables false
set_option linter.unusedSimpArgs false
abbrev sml : Nat := 4294967281
theorem containsRune_ev (c : UInt8) : Ev (fun n => strings_ContainsRune n [32, 9, 13, 10] (IntKind.i32.wrap (c.toNat : Int))) (whB c) := by
  refine ⟨40, fun n hn => ?_⟩
  obtain ⟨k, rfl⟩ : ∃ k, n = k + 40 := ⟨n - 40, by omega⟩
  exact containsRune_k k c
theorem cut_ev (r : Str) (h : r.length < sml) : Ev (fun n => strings_Cut n r [10]) (Lib.cut r [10]) := by
  refine ⟨1, fun n hn => ?_⟩
  obtain ⟨k, rfl⟩ : ∃ k, n = k + 1 := ⟨n - 1, by omega⟩
  show (bif decide (r.length < 4294967281) then some (Lib.cut r [10]) else none) = _
  rw [decide_eq_true h]; rfl
theorem contains_ev (s sub : Str) (h : s.length < sml) : Ev (fun n => strings_Contains n s sub) (Lib.contains s sub) := by
  refine ⟨1, fun n hn => ?_⟩
  obtain ⟨k, rfl⟩ : ∃ k, n = k + 1 := ⟨n - 1, by omega⟩
  show (bif decide (s.length < 4294967281) then some (Lib.contains s sub) else none) = _
  rw [decide_eq_true h]; rfl
theorem idxA_drop {s : Str} {k : Nat} (h : k < s.length) : idxA (s.drop k) 0 = some s[k] := by
  rw [drop_cons h]; rfl
theorem take_two {s : Str} {k : Nat} : (decide (([45, 45] : Str).length ≤ (s.drop k).length) && (s.drop k).take ([45, 45] : Str).length == [45, 45]) = ((s.drop k).head? == some 45 && (s.drop (k + 1)).head? == some 45) := by
  rw [show s.drop (k + 1) = (s.drop k).drop 1 from by rw [List.drop_drop]]
  match s.drop k with
  | [] => rfl
  | [a] => simp
  | a :: b :: t =>
    rw [Bool.eq_iff_iff]
    simp
theorem skip_loop (s : Str) (hs : s.length < sml) (r1 r2 r3 : List (Str × Bool)) : ∀ k : Nat, k ≤ s.length →
    Ev2 (fun n m => lexer_scanner_skip_l1 n m s (k : Int) r1 r2 r3) (scn s ((k + skipG false (s.drop k) : Nat) : Int) r1 r2 r3, ()) := by
  intro k
  induction h : s.length - k using Nat.strongRecOn generalizing k with
  | ind d ih =>
    intro hk
    have hb : s.length < 4294967281 := hs
    refine Ev2.lp (fun n m => by simp only [lexer_scanner_skip_l1, lexer_scanner_skip_b1]; exact rfl) ?_
    by_cases hlt : k < s.length
    · have e1 : decide ((k : Int) < (s.length : Int)) = true := decide_eq_true (by omega)
      have e2 : decide ((0 : Int) ≤ (k : Int) ∧ (k : Int) ≤ (s.length : Int) ∧ (s.length : Int) ≤ (s.length : Int)) = true := decide_eq_true (by omega)
      simp only [e1, e2, cond_true, List.take_length, Int.toNat_natCast, idxA_drop hlt, Option.bind_some]
      refine Ev2.bind1 (containsRune_ev _) ?_
      cases hw : whB s[k] with
      | true =>
        simp only [cond_true]
        rw [wrap_next (by omega), drop_cons hlt, skip_white hw]
        have := ih (s.length - (k + 1)) (by omega) (k + 1) rfl (by omega)
        rw [show k + (skipG false (s.drop (k + 1)) + 1) = k + 1 + skipG false (s.drop (k + 1)) from by omega]
        exact this
      | false =>
        simp only [cond_false]
        refine Ev2.bind1 (hasPrefix_ev _ _) ?_
        rw [take_two]
        cases hc : (s.drop k).head? == some 45 && (s.drop (k + 1)).head? == some 45 with
        | false =>
          simp only [cond_false]
          have : skipG false (s.drop k) = 0 := by
            rw [drop_cons hlt] at hc ⊢
            exact skip_none hw hc
          rw [this]
          exact Ev2.pure
        | true =>
          simp only [cond_true]
          simp only [Bool.and_eq_true, beq_iff_eq] at hc
          have hr := runT_le n10 (s.drop k)
          rw [List.length_drop] at hr
          have e45 : s[k] = 45 := by have := hc.1; rw [drop_cons hlt] at this; exact Option.some.inj this
          have hp := com_pos hlt e45
          refine Ev2.bind1 (cut_ev _ (by rw [List.length_drop]; simp only [sml]; omega)) ?_
          rw [cut_len, skipG_com hc.1 (by rw [List.drop_drop]; exact hc.2), skipG_true, List.drop_drop]
          rw [wrap_small (by omega) (by omega), ← Int.natCast_add]
          have := ih (s.length - (k + runT n10 (s.drop k))) (by omega) (k + runT n10 (s.drop k)) rfl (by omega)
          rw [show k + (runT n10 (s.drop k) + skipG false (s.drop (k + runT n10 (s.drop k)))) = k + runT n10 (s.drop k) + skipG false (s.drop (k + runT n10 (s.drop k))) from by omega]
          exact this
    · have e1 : decide ((k : Int) < (s.length : Int)) = false := decide_eq_false (by omega)
      simp only [e1, cond_false]
      rw [List.drop_eq_nil_of_le (by omega), skipG_nil]
      exact Ev2.pure
theorem skip_ev (s : Str) (hs : s.length < sml) (r1 r2 r3 : List (Str × Bool)) (k : Nat) (hk : k ≤ s.length) :
    Ev (fun n => lexer_scanner_skip n s (k : Int) r1 r2 r3) (scn s ((k + skipG false (s.drop k) : Nat) : Int) r1 r2 r3, ()) := by
  refine Ev.fn (fun n => by simp only [lexer_scanner_skip, lexer_scanner_skip_e]; exact rfl) ?_
  exact Ev.of2 (F := fun n m => lexer_scanner_skip_l1 n m s (k : Int) r1 r2 r3) (skip_loop s hs r1 r2 r3 k hk)
def longF (r : Str) : Nat → List Str → Nat
  | b, [] => b
  | b, y :: l => longF r (bif decide (b < y.length) && r.take y.length == y then y.length else b) l
theorem take_beq_len {r y : Str} (h : r.take y.length = y) : y.length ≤ r.length := by
  have := congrArg List.length h
  rw [List.length_take] at this
  omega
theorem longF_spec (r : Str) : ∀ (l : List Str) (b : Nat), (longF r b l = b ∨ (b < longF r b l ∧ longF r b l ≤ r.length ∧ r.take (longF r b l) ∈ l)) ∧ b ≤ longF r b l ∧ ∀ y ∈ l, r.take y.length = y → y.length ≤ longF r b l
  | [], b => ⟨.inl rfl, Nat.le_refl _, fun y hy => by cases hy⟩
  | y :: l, b => by
    rw [longF]
    cases hc : decide (b < y.length) && r.take y.length == y with
    | true =>
      simp only [cond_true]
      simp only [Bool.and_eq_true, decide_eq_true_eq, beq_iff_eq] at hc
      obtain ⟨h1, h2, h3⟩ := longF_spec r l y.length
      refine ⟨.inr ?_, by omega, fun z hz hr => ?_⟩
      · rcases h1 with h1 | ⟨h1, h4, h5⟩
        · rw [h1]
          exact ⟨hc.1, take_beq_len hc.2, by rw [hc.2]; exact List.mem_cons_self ..⟩
        · exact ⟨by omega, h4, List.mem_cons_of_mem _ h5⟩
      · rcases List.mem_cons.1 hz with rfl | hz
        · exact h2
        · exact h3 z hz hr
    | false =>
      simp only [cond_false]
      obtain ⟨h1, h2, h3⟩ := longF_spec r l b
      refine ⟨?_, h2, fun z hz hr => ?_⟩
      · rcases h1 with h1 | ⟨h1, h4, h5⟩
        · exact .inl h1
        · exact .inr ⟨h1, h4, List.mem_cons_of_mem _ h5⟩
      · rcases List.mem_cons.1 hz with rfl | hz
        · simp only [Bool.and_eq_false_iff, decide_eq_false_iff_not, beq_eq_false_iff_ne] at hc
          rcases hc with hc | hc
          · omega
          · exact absurd hr hc
        · exact h3 z hz hr
theorem longF_le (r : Str) (l : List Str) : longF r 0 l ≤ r.length := by
  rcases (longF_spec r l 0).1 with h | h
  · omega
  · exact h.2.1
theorem longest_ev (s : Str) (hs : s.length < sml) (k : Nat) (hk : k ≤ s.length) (l : List Str) (hl : l.length < sml) (hy : ∀ y ∈ l, y.length < sml) :
    Ev (fun n => ref24_longest n s (k : Int) l) ((longF (s.drop k) 0 l : Nat) : Int) := by
  refine Ev.fn (fun n => by simp only [ref24_longest, ref24_longest_e]; exact rfl) ?_
  simp only [sml] at hs hl hy
  have key : ∀ d j b : Nat, j + d = l.length → b < 4294967281 → Ev2 (fun n m => ref24_longest_l1 n m s (k : Int) l (b : Int) (j : Int)) ((longF (s.drop k) b (l.drop j) : Nat) : Int) := by
    intro d
    induction d with
    | zero =>
      intro j b hj hb
      refine Ev2.lp (fun n m => by simp only [ref24_longest_l1, ref24_longest_b1]; exact rfl) ?_
      have : decide ((j : Int) < (l.length : Int)) = false := decide_eq_false (by omega)
      simp only [this, cond_false]
      rw [List.drop_eq_nil_of_le (show l.length ≤ j by omega), longF]
      exact Ev2.pure
    | succ d ih =>
      intro j b hj hb
      have hlt : j < l.length := by omega
      have hyl := hy l[j] (List.getElem_mem hlt)
      refine Ev2.lp (fun n m => by simp only [ref24_longest_l1, ref24_longest_b1]; exact rfl) ?_
      have : decide ((j : Int) < (l.length : Int)) = true := decide_eq_true (by omega)
      simp only [this, cond_true]
      refine Ev2.idx hlt ?_
      rw [List.drop_eq_getElem_cons hlt, longF, wrap_next (by omega), wrap_small (n := (k : Int) + ((l[j].length : Nat) : Int)) (by omega) (by omega), ← Int.natCast_add]
      by_cases hbl : b < l[j].length
      · have e1 : decide ((b : Int) < ((l[j]).length : Int)) = true := decide_eq_true (by omega)
        have e1' : decide (b < l[j].length) = true := decide_eq_true hbl
        simp only [e1, e1', cond_true, Bool.true_and]
        by_cases hkl : k + l[j].length ≤ s.length
        · have e2 : decide (((k + l[j].length : Nat) : Int) ≤ (s.length : Int)) = true := decide_eq_true (by omega)
          have e3 : decide ((0 : Int) ≤ (k : Int) ∧ (k : Int) ≤ ((k + l[j].length : Nat) : Int) ∧ ((k + l[j].length : Nat) : Int) ≤ (s.length : Int)) = true := decide_eq_true (by omega)
          simp only [e2, e3, cond_true, Int.toNat_natCast]
          refine Ev2.idx hlt ?_
          rw [show List.drop k (List.take (k + l[j].length) s) = (s.drop k).take l[j].length from by rw [List.drop_take, Nat.add_sub_cancel_left]]
          cases (s.drop k).take l[j].length == l[j] with
          | true => simp only [cond_true]; exact ih (j + 1) _ (by omega) (by omega)
          | false => simp only [cond_false]; exact ih (j + 1) _ (by omega) (by omega)
        · have e2 : decide (((k + l[j].length : Nat) : Int) ≤ (s.length : Int)) = false := decide_eq_false (by omega)
          have e3 : ((s.drop k).take l[j].length == l[j]) = false := by
            rw [beq_eq_false_iff_ne]
            intro h
            have := take_beq_len h
            rw [List.length_drop] at this
            omega
          simp only [e2, e3, cond_false]
          exact ih (j + 1) _ (by omega) (by omega)
      · have e1 : decide ((b : Int) < ((l[j]).length : Int)) = false := decide_eq_false (by omega)
        have e1' : decide (b < l[j].length) = false := decide_eq_false hbl
        simp only [e1, e1', cond_false, Bool.false_and]
        exact ih (j + 1) _ (by omega) (by omega)
  exact Ev.of2 (F := fun n m => ref24_longest_l1 n m s (k : Int) l 0 0) (key l.length 0 0 (by omega) (by omega))
theorem symbol_ev (s : Str) (hs : s.length < sml) (k : Nat) (hk : k ≤ s.length) (r1 r2 r3 : List (Str × Bool)) (l : List Str)
    (h3 : ∀ y, (plFind y r3).getD false = l.contains y) (h8 : ∀ y ∈ l, (s.drop k).take y.length = y → y.length ≤ 8) :
    Ev (fun n => lexer_scanner_symbol n s (k : Int) r1 r2 r3) (pk (scn s k r1 r2 r3) (bif longF (s.drop k) 0 l == 0 then (0, (k : Int), 4) else (2, ((k + longF (s.drop k) 0 l : Nat) : Int), 0))) := by
  refine Ev.fn (fun n => by simp only [lexer_scanner_symbol, lexer_scanner_symbol_e]; exact rfl) ?_
  simp only [sml] at hs
  obtain ⟨q1, q2, q3⟩ := longF_spec (s.drop k) l 0
  generalize hN : longF (s.drop k) 0 l = N at *
  have key : ∀ v : Nat, N ≤ v → k + v ≤ s.length → Ev2 (fun n m => lexer_scanner_symbol_l1 n m (v : Int) s (k : Int) r1 r2 r3) (pk (scn s k r1 r2 r3) (bif N == 0 then (0, (k : Int), 4) else (2, ((k + N : Nat) : Int), 0))) := by
    intro v
    induction v with
    | zero =>
      intro hv hkv
      obtain rfl : N = 0 := by omega
      refine Ev2.lp (fun n m => by simp only [lexer_scanner_symbol_l1, lexer_scanner_symbol_b1]; exact rfl) ?_
      exact Ev2.pure
    | succ v ih =>
      intro hv hkv
      refine Ev2.lp (fun n m => by simp only [lexer_scanner_symbol_l1, lexer_scanner_symbol_b1]; exact rfl) ?_
      have e1 : decide ((0 : Int) < ((v + 1 : Nat) : Int)) = true := decide_eq_true (by omega)
      rw [wrap_small (n := (k : Int) + ((v + 1 : Nat) : Int)) (by omega) (by omega), ← Int.natCast_add]
      have e2 : decide ((0 : Int) ≤ (k : Int) ∧ (k : Int) ≤ ((k + (v + 1) : Nat) : Int) ∧ ((k + (v + 1) : Nat) : Int) ≤ (s.length : Int)) = true := decide_eq_true (by omega)
      simp only [e1, e2, cond_true, Int.toNat_natCast, h3]
      rw [show List.drop k (List.take (k + (v + 1)) s) = (s.drop k).take (v + 1) from by rw [List.drop_take, Nat.add_sub_cancel_left]]
      have hlen : ((s.drop k).take (v + 1)).length = v + 1 := by rw [List.length_take, List.length_drop]; omega
      cases hc : l.contains ((s.drop k).take (v + 1)) with
      | true =>
        simp only [cond_true]
        have hm : (s.drop k).take (v + 1) ∈ l := by simpa using hc
        have := q3 _ hm (by rw [hlen])
        rw [hlen] at this
        obtain rfl : N = v + 1 := by omega
        exact Ev2.pure
      | false =>
        simp only [cond_false]
        have hne : N ≠ v + 1 := by
          intro h
          rcases q1 with h1 | h1
          · omega
          · have := h1.2.2
            rw [h] at this
            rw [← Bool.not_eq_true] at hc
            exact hc (by simpa using this)
        rw [wrap_small (by omega) (by omega), show ((v + 1 : Nat) : Int) - 1 = (v : Int) from by omega]
        exact ih (by omega) (by omega)
  rw [wrap_small (by omega) (by omega), show (s.length : Int) - (k : Int) = ((s.length - k : Nat) : Int) from by omega]
  have hN8 : N ≤ 8 := by
    rcases q1 with h | ⟨_, h4, h5⟩
    · omega
    · have hl : ((s.drop k).take N).length = N := by rw [List.length_take]; omega
      have := h8 _ h5 (by rw [hl])
      omega
  have hNk : N ≤ s.length - k := by
    rcases q1 with h | ⟨_, h4, h5⟩
    · omega
    · rwa [List.length_drop] at h4
  by_cases h : ((s.length - k : Nat) : Int) < 8
  · simp only [if_pos h]
    exact Ev.of2 (F := fun n m => lexer_scanner_symbol_l1 n m ((s.length - k : Nat) : Int) s (k : Int) r1 r2 r3) (key _ hNk (by omega))
  · simp only [if_neg h]
    exact Ev.of2 (F := fun n m => lexer_scanner_symbol_l1 n m ((8 : Nat) : Int) s (k : Int) r1 r2 r3) (key 8 hN8 (by omega))
end Go.Abs
namespace Go.Abs
set_option linter.unusedVariables false
set_option linter.unusedSimpArgs false
set_option maxRecDepth 100000
def qb (c : UInt8) : Bool := !(c == 34) && !(c == 10)
theorem qb_def (c : UInt8) : qb c = (!(c == 34) && !(c == 10)) := rfl
def qidx (s : Str) : Int := if runT qb s < s.length then (runT qb s : Int) else -1
theorem indexAny_q : ∀ s : Str, Lib.indexAny s [34, 10] = qidx s
  | [] => rfl
  | x :: s => by
    unfold Lib.indexAny qidx
    rw [runT_cons, qb_def, indexAny_q s]
    have e : ([34, 10] : List UInt8).contains x = (x == 34 || x == 10) := by
      rw [List.contains_cons, List.contains_cons, List.contains_nil, Bool.or_false]
    rw [e]
    unfold qidx
    have hr := runT_le qb s
    cases h1 : x == 34 <;> cases h2 : x == 10 <;> simp only [Bool.or_true, Bool.or_false, Bool.not_true, Bool.not_false, Bool.and_true, Bool.and_false, Bool.false_eq_true, if_true, if_false, cond_true, cond_false, List.length_cons]
    · by_cases h : runT qb s < s.length
      · have h' : runT qb s + 1 < s.length + 1 := by omega
        have hne : (((runT qb s : Nat) : Int) == -1) = false := by rw [beq_eq_false_iff_ne]; omega
        simp [h, h', hne]
      · have h' : ¬ runT qb s + 1 < s.length + 1 := by omega
        simp [h, h']
    all_goals rw [if_pos (by omega)]; rfl
theorem sb_getB {s : Str} {i : Nat} (h : i < s.length) : (sb s).get! i = s[i] := by
  show (s.toArray)[i]! = s[i]
  simp [h]
theorem decode_low {s : Str} {p : Nat} (h : p < s.length) (hb : s[p].toNat < 128) : Utf8.decode (sb s) p = (s[p].toNat, 1) := by
  unfold Utf8.decode
  simp only [Nat.add_zero, sb_getB h, if_pos hb]
theorem cont_high {s : Str} {i : Nat} (h : (decide (i < (sb s).size) && ((sb s).get! i).toNat / 64 == 2) = true) : ∃ hi : i < s.length, 128 ≤ s[i].toNat := by
  rw [Bool.and_eq_true, decide_eq_true_eq, sb_size, beq_iff_eq] at h
  refine ⟨h.1, ?_⟩
  have := h.2
  rw [sb_getB h.1] at this
  omega
def High (s : Str) (p w : Nat) : Prop := 1 ≤ w ∧ ∀ j, j < w → ∃ h : p + j < s.length, 128 ≤ s[p + j].toNat
theorem decode_high {s : Str} {p : Nat} (h : p < s.length) (hb : 128 ≤ s[p].toNat) : 128 ≤ (Utf8.decode (sb s) p).1 ∧ High s p (Utf8.decode (sb s) p).2 := by
  have h0 : ∀ j, j < 1 → ∃ h : p + j < s.length, 128 ≤ s[p + j].toNat := fun j hj => by
    obtain rfl : j = 0 := by omega
    exact ⟨h, hb⟩
  have one : High s p 1 := ⟨Nat.le_refl _, h0⟩
  unfold Utf8.decode
  simp only [Nat.add_zero, sb_getB h]
  rw [if_neg (by omega)]
  split
  · rename_i h1
    rw [Bool.and_eq_true] at h1
    have c1 := cont_high h1.2
    have two : High s p 2 := ⟨by omega, fun j hj => by
      rcases Nat.lt_or_ge j 1 with h | h
      · exact h0 j h
      · obtain rfl : j = 1 := by omega
        exact c1⟩
    split
    · rename_i h2; exact ⟨h2, two⟩
    · exact ⟨by decide, one⟩
  · split
    · rename_i _ h1
      rw [Bool.and_eq_true, Bool.and_eq_true] at h1
      have c1 := cont_high h1.1.2
      have c2 := cont_high h1.2
      have three : High s p 3 := ⟨by omega, fun j hj => by
        rcases Nat.lt_or_ge j 1 with h | h
        · exact h0 j h
        · rcases Nat.lt_or_ge j 2 with h' | h'
          · obtain rfl : j = 1 := by omega
            exact c1
          · obtain rfl : j = 2 := by omega
            exact c2⟩
      split
      · rename_i h2
        rw [Bool.and_eq_true, decide_eq_true_eq] at h2
        exact ⟨by have := h2.1; omega, three⟩
      · exact ⟨by decide, one⟩
    · split
      · rename_i _ _ h1
        rw [Bool.and_eq_true, Bool.and_eq_true, Bool.and_eq_true] at h1
        have c1 := cont_high h1.1.1.2
        have c2 := cont_high h1.1.2
        have c3 := cont_high h1.2
        have four : High s p 4 := ⟨by omega, fun j hj => by
          rcases Nat.lt_or_ge j 1 with h | h
          · exact h0 j h
          · rcases Nat.lt_or_ge j 2 with h' | h'
            · obtain rfl : j = 1 := by omega
              exact c1
            · rcases Nat.lt_or_ge j 3 with h'' | h''
              · obtain rfl : j = 2 := by omega
                exact c2
              · obtain rfl : j = 3 := by omega
                exact c3⟩
        split
        · rename_i h2
          rw [Bool.and_eq_true, decide_eq_true_eq] at h2
          exact ⟨by have := h2.1; omega, four⟩
        · exact ⟨by decide, one⟩
      · exact ⟨by decide, one⟩
theorem runeB_last {c : Nat} (h : 128 ≤ c) : ∃ l b, runeB (c : Int) = l ++ [b] ∧ 128 ≤ b.toNat ∧ 1 ≤ l.length ∧ l.length ≤ 3 := by
  unfold runeB
  simp only [Utf8.encode]
  generalize hd : (if Utf8.valid (c : Int) = true then (c : Int).toNat else Utf8.runeError) = d
  have hd' : 128 ≤ d := by
    rw [← hd]
    split
    · simpa using h
    · unfold Utf8.runeError; omega
  have hb : 128 ≤ (UInt8.ofNat (128 + d % 64)).toNat := by
    rw [UInt8.toNat_ofNat']; omega
  rw [if_neg (by omega)]
  split
  · exact ⟨[_], _, rfl, hb, by simp, by simp⟩
  · split
    · exact ⟨[_, _], _, rfl, hb, by simp, by simp⟩
    · exact ⟨[_, _, _], _, rfl, hb, by simp, by simp⟩
theorem indexByte_nil (k : Nat) (x : Int) : strings_IndexByte (k + 3) [] x = some (-1) := by kernel_rfl
theorem indexRune_fix (k : Nat) : strings_IndexRune (k + 8) [34, 10] 65533 = some (-1) := by kernel_rfl
theorem indexRune_low (k : Nat) (c : UInt8) : ((strings_IndexRune (k + 8) [34, 10] (c.toNat : Int)).map fun x => decide (0 ≤ x)) = some (!qb c) ∨ 128 ≤ c.toNat := by
  have := u8_all (p := fun c => decide (((strings_IndexRune (k + 8) [34, 10] (c.toNat : Int)).map fun x => decide (0 ≤ x)) = some (!qb c)) || decide (128 ≤ c.toNat)) (by kernel_rfl) c
  rw [Bool.or_eq_true, decide_eq_true_eq, decide_eq_true_eq] at this
  exact this
theorem indexRune_lowEv (c : UInt8) (hc : c.toNat < 128) : Tot (fun n => strings_IndexRune n [34, 10] (c.toNat : Int)) (fun x => decide (0 ≤ x) = !qb c) := by
  have key : ∀ k, ((strings_IndexRune (k + 8) [34, 10] (c.toNat : Int)).map fun x => decide (0 ≤ x)) = some (!qb c) := fun k => (indexRune_low k c).resolve_right (by omega)
  have e : ∀ k, strings_IndexRune (k + 8) [34, 10] (c.toNat : Int) = strings_IndexRune 8 [34, 10] (c.toNat : Int) := by
    intro k
    have := u8_all (p := fun c => decide (strings_IndexRune (k + 8) [34, 10] (c.toNat : Int) = strings_IndexRune 8 [34, 10] (c.toNat : Int)) || decide (128 ≤ c.toNat)) (by kernel_rfl) c
    rw [Bool.or_eq_true, decide_eq_true_eq, decide_eq_true_eq] at this
    exact this.resolve_right (by omega)
  have k0 := key 0
  rw [Option.map_eq_some_iff] at k0
  obtain ⟨x, hx, hd⟩ := k0
  refine ⟨x, hd, 8, fun n hn => ?_⟩
  obtain ⟨k, rfl⟩ : ∃ k, n = k + 8 := ⟨n - 8, by omega⟩
  show strings_IndexRune (k + 8) [34, 10] (c.toNat : Int) = some x
  rw [e k]; exact hx
theorem indexRune_high {c : Nat} (hc : 128 ≤ c) : Ev (fun n => strings_IndexRune n [34, 10] (c : Int)) (-1) := by
  by_cases h3 : c = 65533
  · subst h3
    refine ⟨8, fun n hn => ?_⟩
    obtain ⟨k, rfl⟩ : ∃ k, n = k + 8 := ⟨n - 8, by omega⟩
    exact indexRune_fix k
  · refine Ev.fn (fun n => by simp only [strings_IndexRune, strings_IndexRune_e]; exact rfl) ?_
    have e1 : decide ((0 : Int) ≤ (c : Int)) = true := decide_eq_true (by omega)
    have e2 : decide ((c : Int) < 128) = false := decide_eq_false (by omega)
    have e3 : ((c : Int) == 65533) = false := by rw [beq_eq_false_iff_ne]; omega
    simp only [e1, e2, e3, cond_true, cond_false]
    have hv : ∃ b, Ev (fun n => unicode_utf8_ValidRune n (c : Int)) b := by
      refine ⟨bif decide ((c : Int) < 55296) then true else bif decide (57343 < (c : Int)) then decide ((c : Int) ≤ 1114111) else false, ?_⟩
      refine Ev.fn (fun n => by simp only [unicode_utf8_ValidRune, unicode_utf8_ValidRune_e]; exact rfl) ?_
      simp only [e1, cond_true]
      cases decide ((c : Int) < 55296) <;> cases decide (57343 < (c : Int)) <;> cases decide ((c : Int) ≤ 1114111) <;> exact Ev.pure
    obtain ⟨b, hv⟩ := hv
    refine Ev.bind hv ?_
    cases b with
    | false => exact Ev.pure
    | true =>
      simp only [cond_true]
      obtain ⟨l, b, hl, hb, h1, h4⟩ := runeB_last hc
      rw [hl]
      have hlen : (l ++ [b]).length = l.length + 1 := by simp
      rw [hlen, wrap_small (by omega) (by omega), show ((l.length + 1 : Nat) : Int) - 1 = (l.length : Int) from by omega]
      refine Ev.of2 (F := fun n m => strings_IndexRune_l3 n m [34, 10] (l ++ [b]) (l.length : Int) (l.length : Int)) ?_
      refine Ev2.lp (fun n m => by simp only [strings_IndexRune_l3, strings_IndexRune_b3]; exact rfl) ?_
      by_cases hl1 : l.length = 1
      · rw [hl1]
        have hget : idxA (l ++ [b]) ((1 : Nat) : Int) = some b := by
          have hg : (l ++ [b])[1]'(by rw [hlen]; omega) = b := by
            rw [List.getElem_append_right (by omega)]
            simp [hl1]
          rw [idxA_at (by rw [hlen]; omega), hg]
        have hne : (((10 : UInt8).toNat : Int) != (b.toNat : Int)) = true := by
          rw [bne_iff_ne]
          show (10 : Int) ≠ _
          omega
        have hget' : idxA (l ++ [b]) (1 : Int) = some b := hget
        have i1 : idxA ([34, 10] : Str) ((1 : Nat) : Int) = some 10 := rfl
        have hz : decide (((1 : Nat) : Int) < (([34, 10] : Str).length : Int)) = true := rfl
        simp only [hz, cond_true, i1, hget, Option.bind_some, hne]
        have hw : IntKind.i64.wrap (((1 : Nat) : Int) + 1) = ((2 : Nat) : Int) := wrap_next (by omega)
        have hd2 : decide ((0 : Int) ≤ ((2 : Nat) : Int) ∧ ((2 : Nat) : Int) ≤ (([34, 10] : Str).length : Int) ∧ (([34, 10] : Str).length : Int) ≤ (([34, 10] : Str).length : Int)) = true := rfl
        simp only [hw, hd2, cond_true]
        have hdrop : List.drop ((2 : Nat) : Int).toNat (List.take ([34, 10] : Str).length [34, 10]) = [] := rfl
        have hs : Ev (fun n => strings_IndexByte n [] (b.toNat : Int)) (-1) := by
          refine ⟨3, fun n hn => ?_⟩
          obtain ⟨k, rfl⟩ : ∃ k, n = k + 3 := ⟨n - 3, by omega⟩
          exact indexByte_nil k _
        exact Ev2.bind1 (x := -1) hs Ev2.pure
      · have e : decide ((l.length : Int) < (([34, 10] : Str).length : Int)) = false := decide_eq_false (by simp only [List.length_cons, List.length_nil]; omega)
        simp only [e, cond_false]
        exact Ev2.pure
end Go.Abs
namespace Go.Abs
set_option linter.unusedVariables false
set_option linter.unusedSimpArgs false
theorem runT_step {q : UInt8 → Bool} : ∀ {r : Str} {p : Nat}, p ≤ runT q r → ∀ h : p < r.length, (q r[p] = true → p + 1 ≤ runT q r) ∧ (q r[p] = false → runT q r = p)
  | [], p, _, h => absurd h (Nat.not_lt_zero _)
  | x :: r, 0, hp, h => by
    rw [runT_cons]
    show (q x = true → _) ∧ (q x = false → _)
    cases q x <;> simp
  | x :: r, p + 1, hp, h => by
    rw [runT_cons] at hp ⊢
    cases hx : q x with
    | false => rw [hx] at hp; simp at hp
    | true =>
      rw [hx] at hp
      simp only [cond_true] at hp ⊢
      have := runT_step (q := q) (r := r) (p := p) (by omega) (by simpa using h)
      simp only [List.getElem_cons_succ]
      exact ⟨fun h => by have := this.1 h; omega, fun h => by have := this.2 h; omega⟩
theorem qb_high {c : UInt8} (h : 128 ≤ c.toNat) : qb c = true := by
  have := u8_all (p := fun c => qb c || decide (c.toNat < 128)) (by kernel_rfl) c
  rw [Bool.or_eq_true, decide_eq_true_eq] at this
  exact this.resolve_right (by omega)
theorem indexAny_loop (s : Str) : ∀ p : Nat, p ≤ runT qb s → Ev2 (fun n m => strings_IndexAny_l1 n m [34, 10] s p) (qidx s) := by
  intro p
  induction h : s.length - p using Nat.strongRecOn generalizing p with
  | ind d ih =>
    intro hp
    have hr := runT_le qb s
    refine Ev2.lp (fun n m => by simp only [strings_IndexAny_l1, strings_IndexAny_b1]; exact rfl) ?_
    by_cases hlt : p < s.length
    · have e : decide (p < s.length) = true := decide_eq_true hlt
      simp only [e, cond_true]
      have st := runT_step hp hlt
      rcases Nat.lt_or_ge s[p].toNat 128 with hb | hb
      · rw [decode_low hlt hb]
        obtain ⟨x, hx, hev⟩ := indexRune_lowEv s[p] hb
        refine Ev2.bind1 hev ?_
        rw [hx]
        cases hq : qb s[p] with
        | true =>
          simp only [Bool.not_true, cond_false]
          exact ih (s.length - (p + 1)) (by omega) (p + 1) rfl (st.1 hq)
        | false =>
          simp only [Bool.not_false, cond_true]
          have := st.2 hq
          unfold qidx
          rw [if_pos (by omega), this]
          exact Ev2.pure
      · obtain ⟨h1, hw, h2⟩ := decode_high hlt hb
        refine Ev2.bind1 (indexRune_high h1) ?_
        have e0 : decide ((0 : Int) ≤ -1) = false := rfl
        simp only [e0, cond_false]
        have run : ∀ j, j ≤ (Utf8.decode (sb s) p).2 → p + j ≤ runT qb s := by
          intro j
          induction j with
          | zero => intro _; exact hp
          | succ j ihj =>
            intro hj
            obtain ⟨hl, h3⟩ := h2 j (by omega)
            exact (runT_step (ihj (by omega)) hl).1 (qb_high h3)
        have := run _ (Nat.le_refl _)
        exact ih (s.length - (p + (Utf8.decode (sb s) p).2)) (by omega) _ rfl this
    · have e : decide (p < s.length) = false := decide_eq_false hlt
      simp only [e, cond_false]
      unfold qidx
      rw [if_neg (by omega)]
      exact Ev2.pure
theorem quote_ev (t : Str) (ht : t.length < sml) : Ev (fun n => (strings_IndexAnyL n t [34, 10]).or (strings_IndexAny n t [34, 10])) (qidx t) := by
  simp only [sml] at ht
  by_cases h8 : 8 < t.length
  · refine ⟨1, fun n hn => ?_⟩
    obtain ⟨k, rfl⟩ : ∃ k, n = k + 1 := ⟨n - 1, by omega⟩
    have : strings_IndexAnyL (k + 1) t [34, 10] = some (Lib.indexAny t [34, 10]) := by
      show (bif decide (2 ≤ ([34, 10] : Str).length) && (decide (8 < t.length) && (decide (t.length < 4294967281) && (decide (([34, 10] : Str).length < 4294967281) && ([34, 10] : Str).all (fun b => decide (b.toNat < 128))))) then some (Lib.indexAny t [34, 10]) else none) = _
      rw [decide_eq_true h8, decide_eq_true ht]
      rfl
    show (strings_IndexAnyL (k + 1) t [34, 10]).or _ = _
    rw [this, indexAny_q]
    rfl
  · have hL : ∀ n, strings_IndexAnyL n t [34, 10] = none := by
      intro n
      cases n with
      | zero => rfl
      | succ k =>
        show (bif decide (2 ≤ ([34, 10] : Str).length) && (decide (8 < t.length) && (decide (t.length < 4294967281) && (decide (([34, 10] : Str).length < 4294967281) && ([34, 10] : Str).all (fun b => decide (b.toNat < 128))))) then some (Lib.indexAny t [34, 10]) else none) = _
        rw [decide_eq_false h8]
        rfl
    simp only [hL, Option.none_or]
    refine Ev.fn (fun n => by simp only [strings_IndexAny, strings_IndexAny_e]; exact rfl) ?_
    have e0 : (([34, 10] : Str) == []) = false := rfl
    have e1 : ((([34, 10] : Str).length : Int) == 1) = false := rfl
    simp only [e0, e1, cond_false]
    have hs : Ev (fun n => strings_shouldUseASCIISet n (t.length : Int)) false := by
      refine Ev.fn (fun n => by simp only [strings_shouldUseASCIISet, strings_shouldUseASCIISet_e]; exact rfl) ?_
      have : decide ((8 : Int) < (t.length : Int)) = false := decide_eq_false (by omega)
      rw [this]
      exact Ev.pure
    refine Ev.bind hs ?_
    simp only [cond_false]
    exact Ev.of2 (F := fun n m => strings_IndexAny_l1 n m [34, 10] t 0) (indexAny_loop t 0 (Nat.zero_le _))
def quotT (r : Str) : Int × Nat × Int :=
  match (r.drop 1).drop (runT qb (r.drop 1)) with
  | d :: _ => bif d == 34 then (2, runT qb (r.drop 1) + 2, 0) else (0, 0, 4)
  | [] => (0, 0, 4)
theorem qb_false {c : UInt8} (h : qb c = false) : (c == 10) = !(c == 34) := by
  have := u8_all (p := fun c => qb c || ((c == 10) == !(c == 34))) (by kernel_rfl) c
  rw [h, Bool.false_or] at this
  exact eq_of_beq this
theorem quoted_ev (s : Str) (hs : s.length < sml) (k : Nat) (hk : k < s.length) (r1 r2 r3 : List (Str × Bool)) :
    Ev (fun n => lexer_scanner_quoted n s (k : Int) r1 r2 r3) (pk (scn s k r1 r2 r3) (absR k (quotT (s.drop k)))) := by
  refine Ev.fn (fun n => by simp only [lexer_scanner_quoted, lexer_scanner_quoted_e]; exact rfl) ?_
  simp only [sml] at hs
  rw [wrap_next (by omega)]
  have e : decide ((0 : Int) ≤ ((k + 1 : Nat) : Int) ∧ ((k + 1 : Nat) : Int) ≤ (s.length : Int) ∧ (s.length : Int) ≤ (s.length : Int)) = true := decide_eq_true (by omega)
  simp only [e, cond_true, List.take_length, Int.toNat_natCast]
  refine Ev.bind (quote_ev _ (by rw [List.length_drop]; simp only [sml]; omega)) ?_
  unfold quotT qidx
  rw [show (s.drop k).drop 1 = s.drop (k + 1) from by rw [List.drop_drop]]
  have hr := runT_le qb (s.drop (k + 1))
  rw [List.length_drop] at hr
  generalize hm : runT qb (s.drop (k + 1)) = m at *
  rw [List.drop_drop]
  by_cases h : m < (s.drop (k + 1)).length
  · rw [if_pos h]
    rw [List.length_drop] at h
    have hl : k + 1 + m < s.length := by omega
    have e1 : decide ((m : Int) < 0) = false := decide_eq_false (by omega)
    simp only [e1, cond_false]
    rw [wrap_small (n := ((k + 1 : Nat) : Int) + (m : Int)) (by omega) (by omega), ← Int.natCast_add, idxA_at hl, Option.bind_some, drop_cons hl]
    have hq : qb s[k + 1 + m] = false := by
      have := runT_step (q := qb) (r := s.drop (k + 1)) (p := m) (by omega) (by rw [List.length_drop]; omega)
      cases hq : qb s[k + 1 + m] with
      | false => rfl
      | true =>
        have := this.1 (by rw [List.getElem_drop]; exact hq)
        omega
    rw [show ((s[k + 1 + m].toNat : Int) == 10) = (s[k + 1 + m] == 10) from byte_beq _ 10 (by decide), qb_false hq]
    cases h34 : s[k + 1 + m] == 34 with
    | false => simp only [h34, Bool.not_false, cond_true, cond_false]; exact Ev.pure
    | true =>
      simp only [h34, Bool.not_true, cond_true, cond_false]
      rw [wrap_small (n := (k : Int) + (m : Int)) (by omega) (by omega), wrap_small (by omega) (by omega), show (k : Int) + (m : Int) + 2 = ((k + (m + 2) : Nat) : Int) from by omega]
      exact Ev.pure
  · rw [if_neg h]
    rw [List.length_drop] at h
    rw [List.drop_eq_nil_of_le (show s.length ≤ k + 1 + m by omega)]
    exact Ev.pure
theorem refQuoted_ev (s : Str) (hs : s.length < sml) (k : Nat) (hk : k < s.length) :
    Ev2 (fun n m => ref24_one_l2 n m s (k : Int) ((k + 1 : Nat) : Int)) (absR k (quotT (s.drop k))) := by
  simp only [sml] at hs
  unfold quotT
  rw [show (s.drop k).drop 1 = s.drop (k + 1) from by rw [List.drop_drop]]
  have hr := runT_le qb (s.drop (k + 1))
  rw [List.length_drop] at hr
  generalize hm : runT qb (s.drop (k + 1)) = m at *
  rw [List.drop_drop]
  refine run_loop (s := s) (by simp only [big]; omega) qb (L := fun n m q => ref24_one_l2 n m s (k : Int) q) (N := k + 1 + m) ?_ ?_ (k + 1) (by omega) (by rw [hm])
  · intro q hq hp next
    refine Ev2.lp (fun n m => by simp only [ref24_one_l2, ref24_one_b2]; exact rfl) ?_
    have e : decide ((q : Int) < (s.length : Int)) = true := decide_eq_true (by omega)
    simp only [e, cond_true]
    refine Ev2.idx hq ?_
    rw [show ((s[q].toNat : Int) != 34) = !(s[q] == 34) from bne_byte _ 34 (by decide)]
    unfold qb at hp
    rw [Bool.and_eq_true] at hp
    rw [hp.1]
    simp only [cond_true]
    refine Ev2.idx hq ?_
    rw [show ((s[q].toNat : Int) != 10) = !(s[q] == 10) from bne_byte _ 10 (by decide), hp.2, wrap_next (by omega)]
    simp only [cond_true]
    exact next
  · intro q hle hp hN
    refine Ev2.lp (fun n m => by simp only [ref24_one_l2, ref24_one_b2]; exact rfl) ?_
    have fin : ∀ hq : q < s.length, Ev2 (fun _ _ => bif (q : Int) == (s.length : Int) then some ((0 : Int), (k : Int), (4 : Int)) else (idxA s (q : Int)).bind fun x => bif (x.toNat : Int) != 34 then some ((0 : Int), (k : Int), (4 : Int)) else some ((2 : Int), IntKind.i64.wrap ((q : Int) + 1), (0 : Int)))
        (absR k (match s.drop (k + 1 + m) with | d :: _ => bif d == 34 then (2, m + 2, 0) else (0, 0, 4) | [] => (0, 0, 4))) := by
      intro hq
      have e : ((q : Int) == (s.length : Int)) = false := by rw [beq_eq_false_iff_ne]; omega
      simp only [e, cond_false]
      refine Ev2.idx hq ?_
      rw [← hN, drop_cons hq, wrap_next (by omega), show ((s[q].toNat : Int) != 34) = !(s[q] == 34) from bne_byte _ 34 (by decide)]
      cases h34 : s[q] == 34 with
      | false => simp only [h34, Bool.not_false, cond_true, cond_false]; exact Ev2.pure
      | true =>
        simp only [h34, Bool.not_true, cond_true, cond_false]
        rw [show ((q + 1 : Nat) : Int) = ((k + (m + 2) : Nat) : Int) from by omega]
        exact Ev2.pure
    by_cases hlt : q < s.length
    · have e : decide ((q : Int) < (s.length : Int)) = true := decide_eq_true (by omega)
      have hp := hp hlt
      simp only [e, cond_true]
      refine Ev2.idx hlt ?_
      rw [show ((s[q].toNat : Int) != 34) = !(s[q] == 34) from bne_byte _ 34 (by decide)]
      cases h34 : s[q] == 34 with
      | true => simp only [Bool.not_true, cond_false]; exact fin hlt
      | false =>
        simp only [Bool.not_false, cond_true]
        refine Ev2.idx hlt ?_
        rw [show ((s[q].toNat : Int) != 10) = !(s[q] == 10) from bne_byte _ 10 (by decide), qb_false hp, h34]
        simp only [Bool.not_false, Bool.not_true, cond_false]
        exact fin hlt
    · have e : decide ((q : Int) < (s.length : Int)) = false := decide_eq_false (by omega)
      have e2 : ((q : Int) == (s.length : Int)) = true := by rw [beq_iff_eq]; omega
      simp only [e, e2, cond_true, cond_false]
      rw [List.drop_eq_nil_of_le (show s.length ≤ k + 1 + m by omega)]
      exact Ev2.pure
end Go.Abs
namespace Go.Abs
set_option linter.unusedVariables false
set_option linter.unusedSimpArgs false
def signB (c : UInt8) : Bool := signs.contains c
theorem sign_ev (c : UInt8) : Ev (fun n => ref24_sign n (c.toNat : Int)) (signB c) := by
  refine ⟨25, fun n hn => ?_⟩
  obtain ⟨k, rfl⟩ : ∃ k, n = k + 25 := ⟨n - 25, by omega⟩
  have := u8_all (p := fun c => decide (ref24_sign (k + 25) (c.toNat : Int) = some (signB c))) (by kernel_rfl) c
  exact of_decide_eq_true this
theorem contains_sign (c : UInt8) : Lib.contains signs [c] = signB c := by
  have := u8_all (p := fun c => decide (Lib.contains signs [c] = signB c)) (by kernel_rfl) c
  exact of_decide_eq_true this
def dd : Str → Bool
  | [] => false
  | x :: r => (x == 45 && r.head? == some 45) || dd r
theorem beq_sw (a b : UInt8) : (a == b) = (b == a) := Bool.eq_iff_iff.2 ⟨fun h => by simpa using (beq_iff_eq.1 h).symm, fun h => by simpa using (beq_iff_eq.1 h).symm⟩
theorem contains_dd : ∀ s : Str, Lib.contains s [45, 45] = dd s
  | [] => rfl
  | x :: r => by
    have ih := contains_dd r
    have hg := Lib.index_ge r [45, 45]
    unfold Lib.contains at ih ⊢
    unfold Lib.index dd
    have hp : ([45, 45] : List UInt8).isPrefixOf (x :: r) = (x == 45 && r.head? == some 45) := by
      cases r with
      | nil => simp [List.isPrefixOf]
      | cons y t =>
        show ((45 : UInt8) == x && ((45 : UInt8) == y && ([] : List UInt8).isPrefixOf t)) = (x == 45 && some y == some 45)
        rw [show ([] : List UInt8).isPrefixOf t = true from by cases t <;> rfl, Bool.and_true, beq_sw 45 x, beq_sw 45 y]
        rfl
    rw [hp, ← ih]
    cases x == 45 && r.head? == some 45 with
    | true => rfl
    | false =>
      simp only [Bool.false_eq_true, if_false, Bool.false_or]
      by_cases h : Lib.index r [45, 45] = -1
      · rw [h]; rfl
      · have : (Lib.index r [45, 45] == -1) = false := by rw [beq_eq_false_iff_ne]; exact h
        rw [this]
        simp only [Bool.false_eq_true, if_false]
        exact decide_eq_decide.2 (by omega)
def symB (s : Str) : Bool :=
  match s with
  | [] => false
  | c :: t => bif begB c then (c :: t).all inwB && (!((c :: t) == [95]) && !kws.contains (c :: t)) else (c :: t).all signB && (!dd (c :: t) && (decide ((c :: t).length ≤ 8) && (!fixS.contains (c :: t) || (c :: t) == [43])))
theorem all_drop {p : UInt8 → Bool} {s : Str} {k : Nat} (h : k < s.length) : (s.drop k).all p = (p s[k] && (s.drop (k + 1)).all p) := by
  rw [drop_cons h, List.all_cons]
theorem runT_all (p : UInt8 → Bool) : ∀ r : Str, (runT p r == r.length) = r.all p
  | [] => rfl
  | x :: r => by
    rw [runT_cons, List.all_cons, List.length_cons, ← runT_all p r]
    cases p x with
    | true => simp
    | false => simp
theorem fixLoop (s : Str) : Ev2 (fun n m => lexer_Symbol_l1 n m s fixS ((fixS.length : Nat) : Int) 0) (!fixS.contains s || s == [43]) := by
  have key : ∀ d k : Nat, k + d = fixS.length → Ev2 (fun n m => lexer_Symbol_l1 n m s fixS ((fixS.length : Nat) : Int) (k : Int)) (!(fixS.drop k).contains s || s == [43]) := by
    intro d
    have hle : fixS.length = 21 := rfl
    induction d with
    | zero =>
      intro k hk
      refine Ev2.lp (fun n m => by simp only [lexer_Symbol_l1, lexer_Symbol_b1]; exact rfl) ?_
      have : decide ((k : Int) < ((fixS.length : Nat) : Int)) = false := decide_eq_false (by omega)
      simp only [this, cond_false]
      rw [List.drop_eq_nil_of_le (by omega)]
      exact Ev2.pure
    | succ d ih =>
      intro k hk
      have hlt : k < fixS.length := by omega
      refine Ev2.lp (fun n m => by simp only [lexer_Symbol_l1, lexer_Symbol_b1]; exact rfl) ?_
      have : decide ((k : Int) < ((fixS.length : Nat) : Int)) = true := decide_eq_true (by omega)
      simp only [this, cond_true]
      refine Ev2.idx hlt ?_
      rw [List.drop_eq_getElem_cons hlt, List.contains_cons, show (s == fixS[k]) = (fixS[k] == s) from Bool.eq_iff_iff.2 ⟨fun h => by simpa using (beq_iff_eq.1 h).symm, fun h => by simpa using (beq_iff_eq.1 h).symm⟩]
      cases fixS[k] == s with
      | true => simp only [cond_true, Bool.true_or, Bool.not_true, Bool.false_or]; exact Ev2.pure
      | false =>
        simp only [cond_false, Bool.false_or]
        rw [wrap_next (by omega)]
        exact ih (k + 1) (by omega)
  exact key fixS.length 0 (by omega)
theorem refFixLoop (s : Str) : Ev2 (fun n m => ref24_Symbol_l1 n m s fixS 0) (decide (s.length ≤ 8) && (!fixS.contains s || s == [43])) := by
  have h8 : decide ((s.length : Int) ≤ 8) = decide (s.length ≤ 8) := decide_eq_decide.2 (by omega)
  have key : ∀ d k : Nat, k + d = fixS.length → Ev2 (fun n m => ref24_Symbol_l1 n m s fixS (k : Int)) (decide (s.length ≤ 8) && (!(fixS.drop k).contains s || s == [43])) := by
    intro d
    have hle : fixS.length = 21 := rfl
    induction d with
    | zero =>
      intro k hk
      refine Ev2.lp (fun n m => by simp only [ref24_Symbol_l1, ref24_Symbol_b1]; exact rfl) ?_
      have : decide ((k : Int) < ((fixS.length : Nat) : Int)) = false := decide_eq_false (by omega)
      simp only [this, cond_false]
      rw [List.drop_eq_nil_of_le (by omega), h8]
      simp only [List.contains_nil, Bool.not_false, Bool.true_or, Bool.and_true]
      exact Ev2.pure
    | succ d ih =>
      intro k hk
      have hlt : k < fixS.length := by omega
      refine Ev2.lp (fun n m => by simp only [ref24_Symbol_l1, ref24_Symbol_b1]; exact rfl) ?_
      have : decide ((k : Int) < ((fixS.length : Nat) : Int)) = true := decide_eq_true (by omega)
      simp only [this, cond_true]
      refine Ev2.idx hlt ?_
      rw [List.drop_eq_getElem_cons hlt, List.contains_cons, show (s == fixS[k]) = (fixS[k] == s) from Bool.eq_iff_iff.2 ⟨fun h => by simpa using (beq_iff_eq.1 h).symm, fun h => by simpa using (beq_iff_eq.1 h).symm⟩]
      rw [wrap_next (by omega)]
      have next := ih (k + 1) (by omega)
      cases fixS[k] == s with
      | true =>
        simp only [cond_true, Bool.true_or, Bool.not_true, Bool.false_or]
        cases h43 : s == [43] with
        | true => rw [h43] at next; simp only [cond_true, Bool.or_true] at next ⊢; exact next
        | false => simp only [cond_false, Bool.and_false]; exact Ev2.pure
      | false =>
        simp only [cond_false, Bool.false_or]
        exact next
  exact key fixS.length 0 (by omega)
theorem Symbol_ev (s : Str) (hs : s.length < sml) : Ev (fun n => lexer_Symbol n s) (symB s) := by
  refine Ev.fn (fun n => by simp only [lexer_Symbol, lexer_Symbol_e]; exact rfl) ?_
  simp only [sml] at hs
  match s with
  | [] => exact Ev.pure
  | c :: t =>
    simp only [show ((c :: t) == ([] : Str)) = false from rfl, cond_false, show idxA (c :: t) 0 = some c from rfl, Option.bind_some]
    refine Ev.bind (class_ev c) ?_
    rw [class_one, symB]
    have hs' : (c :: t).length < 4294967281 := hs
    generalize hst : c :: t = s at *
    cases begB c with
    | true =>
      simp only [cond_true]
      have key : ∀ d k : Nat, k + d = s.length → Ev2 (fun n m => lexer_Symbol_l3 n m s (s.length : Int) (k : Int)) ((s.drop k).all inwB && (!(s == [95]) && !kws.contains s)) := by
        intro d
        induction d with
        | zero =>
          intro k hk
          refine Ev2.lp (fun n m => by simp only [lexer_Symbol_l3, lexer_Symbol_b3]; exact rfl) ?_
          have : decide ((k : Int) < (s.length : Int)) = false := decide_eq_false (by omega)
          simp only [this, cond_false]
          rw [List.drop_eq_nil_of_le (by omega)]
          simp only [List.all_nil, Bool.true_and]
          cases s == [95] with
          | true => exact Ev2.pure
          | false =>
            simp only [cond_false, Bool.not_false, Bool.true_and]
            exact Ev2.bind1 (Keyword_ev s) Ev2.pure
        | succ d ih =>
          intro k hk
          have hlt : k < s.length := by omega
          refine Ev2.lp (fun n m => by simp only [lexer_Symbol_l3, lexer_Symbol_b3]; exact rfl) ?_
          have : decide ((k : Int) < (s.length : Int)) = true := decide_eq_true (by omega)
          simp only [this, cond_true]
          refine Ev2.idx hlt (Ev2.bind1 (inWord_ev _) ?_)
          rw [all_drop hlt]
          cases inwB s[k] with
          | false => simp only [cond_false, Bool.false_and]; exact Ev2.pure
          | true =>
            simp only [cond_true, Bool.true_and]
            rw [wrap_next (by omega)]
            exact ih (k + 1) (by omega)
      exact Ev.of2 (F := fun n m => lexer_Symbol_l3 n m s (s.length : Int) 0) (key s.length 0 (by omega))
    | false =>
      simp only [cond_false]
      have key : ∀ d k : Nat, k + d = s.length → Ev2 (fun n m => lexer_Symbol_l2 n m s (s.length : Int) (k : Int)) ((s.drop k).all signB && (!dd s && (decide (s.length ≤ 8) && (!fixS.contains s || s == [43])))) := by
        intro d
        induction d with
        | zero =>
          intro k hk
          refine Ev2.lp (fun n m => by simp only [lexer_Symbol_l2, lexer_Symbol_b2]; exact rfl) ?_
          have : decide ((k : Int) < (s.length : Int)) = false := decide_eq_false (by omega)
          simp only [this, cond_false]
          rw [List.drop_eq_nil_of_le (by omega)]
          simp only [List.all_nil, Bool.true_and]
          refine Ev2.bind1 (contains_ev s [45, 45] hs') ?_
          rw [contains_dd]
          cases dd s with
          | true => simp only [cond_true, Bool.not_true, Bool.false_and]; exact Ev2.pure
          | false =>
            simp only [cond_false, Bool.not_false, Bool.true_and]
            by_cases h8 : s.length ≤ 8
            · have e1 : decide ((8 : Int) < (s.length : Int)) = false := decide_eq_false (by omega)
              have e2 : decide (s.length ≤ 8) = true := decide_eq_true h8
              simp only [e1, e2, cond_false, Bool.true_and]
              exact Ev2.bind1 fixed'_ev (Ev2.of1 (Ev.of2 (F := fun n m => lexer_Symbol_l1 n m s fixS ((fixS.length : Nat) : Int) 0) (fixLoop s)))
            · have e1 : decide ((8 : Int) < (s.length : Int)) = true := decide_eq_true (by omega)
              have e2 : decide (s.length ≤ 8) = false := decide_eq_false h8
              simp only [e1, e2, cond_true, Bool.false_and]
              exact Ev2.pure
        | succ d ih =>
          intro k hk
          have hlt : k < s.length := by omega
          refine Ev2.lp (fun n m => by simp only [lexer_Symbol_l2, lexer_Symbol_b2]; exact rfl) ?_
          rw [wrap_next (by omega)]
          have e1 : decide ((k : Int) < (s.length : Int)) = true := decide_eq_true (by omega)
          have e2 : decide ((0 : Int) ≤ (k : Int) ∧ (k : Int) ≤ ((k + 1 : Nat) : Int) ∧ ((k + 1 : Nat) : Int) ≤ (s.length : Int)) = true := decide_eq_true (by omega)
          simp only [e1, e2, cond_true, Int.toNat_natCast]
          rw [show List.drop k (List.take (k + 1) s) = [s[k]] from by rw [List.drop_take, Nat.add_sub_cancel_left, drop_cons hlt]; rfl]
          refine Ev2.bind1 (contains_ev signs [s[k]] (by simp only [sml]; decide)) ?_
          rw [contains_sign, all_drop hlt]
          cases signB s[k] with
          | false => simp only [cond_false, Bool.false_and]; exact Ev2.pure
          | true =>
            simp only [cond_true, Bool.true_and]
            exact ih (k + 1) (by omega)
      exact Ev.of2 (F := fun n m => lexer_Symbol_l2 n m s (s.length : Int) 0) (key s.length 0 (by omega))
theorem refSymbol_ev (s : Str) (hs : s.length < sml) : Ev (fun n => ref24_Symbol n s) (symB s) := by
  refine Ev.fn (fun n => by simp only [ref24_Symbol, ref24_Symbol_e]; exact rfl) ?_
  simp only [sml] at hs
  match s with
  | [] => exact Ev.pure
  | c :: t =>
    simp only [show ((c :: t) == ([] : Str)) = false from rfl, cond_false, show idxA (c :: t) 0 = some c from rfl, Option.bind_some]
    refine Ev.bind (begins_ev c) ?_
    rw [symB]
    have hs' : (c :: t).length < 4294967281 := hs
    generalize hst : c :: t = s at *
    cases begB c with
    | true =>
      simp only [cond_true]
      have hc := component_ev s (by simp only [big]; omega) 0 (Nat.zero_le _)
      rw [List.drop_zero, Nat.zero_add] at hc
      refine Ev.bind hc ?_
      have e : (((compT s : Nat) : Int) == (s.length : Int)) = s.all inwB := by
        rw [← runT_all]
        rw [Bool.eq_iff_iff, beq_iff_eq, beq_iff_eq]
        unfold compT
        omega
      rw [e]
      cases s.all inwB with
      | false => exact Ev.pure
      | true =>
        simp only [cond_true, Bool.true_and]
        cases s == [95] with
        | true => exact Ev.pure
        | false =>
          simp only [cond_false, Bool.not_false, Bool.true_and]
          exact Ev.bind (refKeyword_ev s) Ev.pure
    | false =>
      simp only [cond_false]
      have key : ∀ d k : Nat, k + d = s.length → Ev2 (fun n m => ref24_Symbol_l2 n m s (k : Int)) ((s.drop k).all signB && (!dd (s.drop (k - 1)) && (decide (s.length ≤ 8) && (!fixS.contains s || s == [43])))) := by
        intro d
        induction d with
        | zero =>
          intro k hk
          refine Ev2.lp (fun n m => by simp only [ref24_Symbol_l2, ref24_Symbol_b2]; exact rfl) ?_
          have : decide ((k : Int) < (s.length : Int)) = false := decide_eq_false (by omega)
          simp only [this, cond_false]
          rw [List.drop_eq_nil_of_le (show s.length ≤ k by omega)]
          simp only [List.all_nil, Bool.true_and]
          have : dd (s.drop (k - 1)) = false := by
            match hd : s.drop (k - 1) with
            | [] => rfl
            | [x] => simp [dd]
            | x :: y :: r =>
              have := congrArg List.length hd
              rw [List.length_drop, List.length_cons, List.length_cons] at this
              omega
          rw [this, Bool.not_false, Bool.true_and]
          exact Ev2.bind1 fixed_ev (Ev2.of1 (Ev.of2 (F := fun n m => ref24_Symbol_l1 n m s fixS 0) (refFixLoop s)))
        | succ d ih =>
          intro k hk
          have hlt : k < s.length := by omega
          refine Ev2.lp (fun n m => by simp only [ref24_Symbol_l2, ref24_Symbol_b2]; exact rfl) ?_
          rw [wrap_next (by omega)]
          have e1 : decide ((k : Int) < (s.length : Int)) = true := decide_eq_true (by omega)
          simp only [e1, cond_true]
          refine Ev2.idx hlt (Ev2.bind1 (sign_ev _) ?_)
          rw [all_drop hlt]
          have next := ih (k + 1) (by omega)
          rw [Nat.add_sub_cancel] at next
          cases signB s[k] with
          | false => simp only [cond_false, Bool.false_and]; exact Ev2.pure
          | true =>
            simp only [cond_true, Bool.true_and]
            by_cases h0 : 0 < k
            · have e2 : decide ((0 : Int) < (k : Int)) = true := decide_eq_true (by omega)
              simp only [e2, cond_true]
              have hk1 : k - 1 < s.length := by omega
              have hkk : k - 1 + 1 = k := by omega
              have hdd : dd (s.drop (k - 1)) = ((s[k - 1] == 45 && s[k] == 45) || dd (s.drop k)) := by
                rw [drop_cons hk1, dd, hkk]
                congr 2
                rw [drop_cons hlt]
                rfl
              rw [hdd]
              refine Ev2.idx hlt ?_
              rw [show ((s[k].toNat : Int) == 45) = (s[k] == 45) from byte_beq _ 45 (by decide)]
              cases s[k] == 45 with
              | false => simp only [cond_false, Bool.and_false, Bool.false_or]; exact next
              | true =>
                simp only [cond_true, Bool.and_true]
                rw [wrap_small (by omega) (by omega), show (k : Int) - 1 = ((k - 1 : Nat) : Int) from by omega]
                refine Ev2.idx hk1 ?_
                rw [show ((s[k - 1].toNat : Int) == 45) = (s[k - 1] == 45) from byte_beq _ 45 (by decide)]
                cases s[k - 1] == 45 with
                | true => simp only [cond_true, Bool.true_or, Bool.not_true, Bool.false_and, Bool.and_false]; exact Ev2.pure
                | false => simp only [cond_false, Bool.false_or]; exact next
            · have e2 : decide ((0 : Int) < (k : Int)) = false := decide_eq_false (by omega)
              obtain rfl : k = 0 := by omega
              simp only [e2, cond_false]
              exact next
      exact Ev.of2 (F := fun n m => ref24_Symbol_l2 n m s 0) (key s.length 0 (by omega))
theorem awake_ev : Ev (fun n => law24_awake n) true := by
  have : ∀ k, law24_awake (k + 400) = some true := fun k => by kernel_rfl
  refine ⟨400, fun n hn => ?_⟩
  obtain ⟨k, rfl⟩ : ∃ k, n = k + 400 := ⟨n - 400, by omega⟩
  exact this k
theorem law24_LexerWords_plain (x : Str) (h : x.length + 1 ≤ 1048576) (_ : True) : ∃ n, law24_LexerWords n x = some true := by
  have : Ev (fun n => law24_LexerWords n x) true := by
    refine Ev.fn (fun n => by simp only [law24_LexerWords, law24_LexerWords_e]; exact rfl) ?_
    cases decide ((100 : Int) < (x.length : Int)) with
    | true => exact Ev.bind awake_ev Ev.pure
    | false =>
      simp only [cond_false]
      refine Ev.bind awake_ev (Ev.bind (Keyword_ev x) (Ev.bind (refKeyword_ev x) ?_))
      simp only [beq_self_eq_true, cond_true]
      refine Ev.bind (Symbol_ev x (by simp only [sml]; omega)) (Ev.bind (refSymbol_ev x (by simp only [sml]; omega)) ?_)
      simp only [beq_self_eq_true]
      exact Ev.pure
  obtain ⟨N, hN⟩ := this
  exact ⟨N, hN N (Nat.le_refl _)⟩
end Go.Abs
namespace Go.Abs
set_option linter.unusedVariables false
set_option linter.unusedSimpArgs false
noncomputable def wordT (syms : List Str) (r : Str) : Int × Nat × Int :=
  bif decide (64 < nameT r) then (0, 0, 5)
  else bif r.take (nameT r) == [95] then (2, nameT r, 0)
  else bif syms.contains (r.take (nameT r)) then (2, nameT r, 0)
  else bif kws.contains (r.take (nameT r)) then (3, nameT r, 0)
  else (0, nameT r, 0)
def symT (syms : List Str) (r : Str) : Int × Nat × Int := bif longF r 0 (fixS ++ syms) == 0 then (0, 0, 4) else (2, longF r 0 (fixS ++ syms), 0)
noncomputable def tokT (syms : List Str) : Str → Int × Nat × Int
  | [] => (0, 0, 4)
  | c :: t => bif begB c then wordT syms (c :: t) else bif digB c then numT (c :: t) else bif c == 34 then quotT (c :: t) else symT syms (c :: t)
theorem drop_take_name {s : Str} {k : Nat} (n : Nat) : (s.take (k + n)).drop k = (s.drop k).take n := by rw [List.drop_take, Nat.add_sub_cancel_left]
theorem take_len {r : Str} {n : Nat} (h : n ≤ r.length) : (r.take n).length = n := by rw [List.length_take]; omega
theorem wordR_eq (s : Str) (k : Nat) (hk : k ≤ s.length) (r2 : List (Str × Bool)) (syms : List Str) (h2 : ∀ y, (plFind y r2).getD false = syms.contains y) :
    wordR s k kwMap r2 (k + nameT (s.drop k)) = absR k (wordT syms (s.drop k)) := by
  unfold wordR wordT
  have hn := nameT_le (s.drop k)
  have hl : ((s.drop k).take (nameT (s.drop k))).length = nameT (s.drop k) := take_len hn
  have hkw : ∀ y, (plFind y kwMap).getD false = kws.contains y := fun y => plFind_all y kws
  rw [drop_take_name, hl, h2, hkw]
  have e : decide ((64 : Int) < ((nameT (s.drop k) : Nat) : Int)) = decide (64 < nameT (s.drop k)) := decide_eq_decide.2 (by omega)
  rw [e]
  cases decide (64 < nameT (s.drop k)) <;> cases (s.drop k).take (nameT (s.drop k)) == [95] <;> cases syms.contains ((s.drop k).take (nameT (s.drop k))) <;> cases kws.contains ((s.drop k).take (nameT (s.drop k))) <;> rfl
theorem refOne_ev (s : Str) (hs : s.length < sml) (k : Nat) (hk : k < s.length) (syms : List Str) (hl : syms.length < 1000) (hy : ∀ y ∈ syms, y.length < sml) :
    Ev (fun n => ref24_one n s (k : Int) syms) (absR k (tokT syms (s.drop k))) := by
  refine Ev.fn (fun n => by simp only [ref24_one, ref24_one_e]; exact rfl) ?_
  have hs' : s.length < 4294967281 := hs
  simp only [idxA_at hk, Option.bind_some]
  refine Ev.bind (begins_ev _) ?_
  have hd := drop_cons hk
  have htok : tokT syms (s.drop k) = bif begB s[k] then wordT syms (s.drop k) else bif digB s[k] then numT (s.drop k) else bif s[k] == 34 then quotT (s.drop k) else symT syms (s.drop k) := by
    rw [hd]; rfl
  rw [htok]
  cases begB s[k] with
  | true =>
    simp only [cond_true]
    have hn := nameT_le (s.drop k)
    rw [List.length_drop] at hn
    refine Ev.bind (refName_ev s (by simp only [big]; omega) k (by omega)) ?_
    have e1 : decide ((0 : Int) ≤ (k : Int) ∧ (k : Int) ≤ ((k + nameT (s.drop k) : Nat) : Int) ∧ ((k + nameT (s.drop k) : Nat) : Int) ≤ (s.length : Int)) = true := decide_eq_true (by omega)
    simp only [e1, cond_true, Int.toNat_natCast]
    rw [drop_take_name, wrap_sub (by omega) (by simp only [big]; omega), Nat.add_sub_cancel_left]
    unfold wordT
    have e : decide ((64 : Int) < ((nameT (s.drop k) : Nat) : Int)) = decide (64 < nameT (s.drop k)) := decide_eq_decide.2 (by omega)
    rw [e]
    cases decide (64 < nameT (s.drop k)) with
    | true => exact Ev.pure
    | false =>
      simp only [cond_false]
      cases (s.drop k).take (nameT (s.drop k)) == [95] with
      | true => exact Ev.pure
      | false =>
        simp only [cond_false]
        refine Ev.bind (has_ev syms _ (by omega)) ?_
        cases syms.contains ((s.drop k).take (nameT (s.drop k))) with
        | true => exact Ev.pure
        | false =>
          simp only [cond_false]
          refine Ev.bind (refKeyword_ev _) ?_
          cases kws.contains ((s.drop k).take (nameT (s.drop k))) with
          | true => exact Ev.pure
          | false => exact Ev.pure
  | false =>
    simp only [cond_false]
    refine Ev.bind (digit_ev _) ?_
    cases digB s[k] with
    | true =>
      simp only [cond_true]
      exact Ev.of2 (F := fun n m => ref24_one_l1 n m s (k : Int) (s[k].toNat : Int) (k : Int)) (refNumber_ev s (by simp only [big]; omega) k syms hk)
    | false =>
      simp only [cond_false]
      rw [show ((s[k].toNat : Int) == 34) = (s[k] == 34) from byte_beq _ 34 (by decide)]
      cases s[k] == 34 with
      | true =>
        simp only [cond_true]
        rw [wrap_next (by omega)]
        exact Ev.of2 (F := fun n m => ref24_one_l2 n m s (k : Int) ((k + 1 : Nat) : Int)) (refQuoted_ev s hs k hk)
      | false =>
        simp only [cond_false]
        refine Ev.bind fixed_ev ?_
        have hfl : fixS.length = 21 := rfl
        have hfin : Ev (fun n => (ref24_longest n s (k : Int) (fixS ++ syms)).bind fun x => bif x == 0 then some ((0 : Int), (k : Int), (4 : Int)) else some ((2 : Int), IntKind.i64.wrap ((k : Int) + x), (0 : Int))) (absR k (symT syms (s.drop k))) := by
          refine Ev.bind (longest_ev s hs k (by omega) (fixS ++ syms) (by simp only [List.length_append, sml]; omega) ?_) ?_
          · intro y hy'
            rcases List.mem_append.1 hy' with h | h
            · have : ∀ y ∈ fixS, y.length < 4294967281 := by decide
              exact this y h
            · exact hy y h
          · have hle := longF_le (s.drop k) (fixS ++ syms)
            rw [List.length_drop] at hle
            unfold symT
            have e : (((longF (s.drop k) 0 (fixS ++ syms) : Nat) : Int) == 0) = (longF (s.drop k) 0 (fixS ++ syms) == 0) := by
              rw [Bool.eq_iff_iff, beq_iff_eq, beq_iff_eq]; omega
            rw [e, wrap_small (by omega) (by omega), ← Int.natCast_add]
            generalize longF (s.drop k) 0 (fixS ++ syms) = q
            cases q == 0 with
            | true => exact Ev.pure
            | false => exact Ev.pure
        by_cases h0 : 0 < syms.length
        · have e1 : decide (fixS.length = 0 ∨ 0 < syms.length) = true := decide_eq_true (.inr h0)
          have e2 : decide ((fixS.length + syms.length) * 16 ≤ 17592186044416) = true := decide_eq_true (by omega)
          simp only [e1, e2, cond_true]
          exact hfin
        · have e1 : decide (fixS.length = 0 ∨ 0 < syms.length) = false := decide_eq_false (by omega)
          simp only [e1, cond_false]
          have : syms = [] := List.length_eq_zero_iff.1 (by omega)
          subst this
          rw [List.append_nil] at hfin
          exact hfin
theorem numT_ok {r : Str} (h : (numT r).2.2 = 0) : (numT r).2.1 = runT digB r := by
  unfold numT at h ⊢
  generalize runT digB r = m at h ⊢
  generalize decide (6 < m) = b1 at h ⊢
  generalize (decide (1 < m) && r.head? == some 48) = b2 at h ⊢
  generalize r.drop m = l at h ⊢
  cases b1 with
  | true => cases h
  | false =>
    cases b2 with
    | true => cases h
    | false =>
      simp only [cond_false] at h ⊢
      cases l with
      | nil => rfl
      | cons d u =>
        simp only at h ⊢
        cases begB d || d == 39 with
        | true => rfl
        | false => rfl
theorem tok_pos {syms : List Str} {c : UInt8} {t : Str} (h : (tokT syms (c :: t)).2.2 = 0) : 1 ≤ (tokT syms (c :: t)).2.1 ∧ (tokT syms (c :: t)).2.1 ≤ (c :: t).length := by
  rw [tokT] at h ⊢
  cases hb : begB c with
  | true =>
    rw [hb] at h
    simp only [cond_true] at h ⊢
    have hn := nameT_le (c :: t)
    have h1 : 1 ≤ nameT (c :: t) := by
      rw [nameT_eq]
      unfold compT
      rw [runT_cons]
      have : inwB c = true := by unfold inwB; rw [hb]; rfl
      rw [this, cond_true]
      omega
    unfold wordT at h ⊢
    revert h
    cases decide (64 < nameT (c :: t)) <;> cases (c :: t).take (nameT (c :: t)) == [95] <;> cases syms.contains ((c :: t).take (nameT (c :: t))) <;> cases kws.contains ((c :: t).take (nameT (c :: t))) <;> intro h <;> first | exact ⟨h1, hn⟩ | cases h
  | false =>
    rw [hb] at h
    simp only [cond_false] at h ⊢
    cases hd : digB c with
    | true =>
      rw [hd] at h
      simp only [cond_true] at h ⊢
      have hr := runT_le digB (c :: t)
      have h1 : 1 ≤ runT digB (c :: t) := by rw [runT_cons, hd, cond_true]; omega
      rw [numT_ok h]
      exact ⟨h1, hr⟩
    | false =>
      rw [hd] at h
      simp only [cond_false] at h ⊢
      cases hq : c == 34 with
      | true =>
        rw [hq] at h
        simp only [cond_true] at h ⊢
        unfold quotT at h ⊢
        simp only [List.drop_succ_cons, List.drop_zero] at h ⊢
        revert h
        split
        · rename_i d u hdu
          have hlen := congrArg List.length hdu
          rw [List.length_drop, List.length_cons] at hlen
          cases d == 34 <;> intro h
          · cases h
          · simp only [cond_true, List.length_cons]; omega
        · intro h; cases h
      | false =>
        rw [hq] at h
        simp only [cond_false] at h ⊢
        unfold symT at h ⊢
        have hle := longF_le (c :: t) (fixS ++ syms)
        revert h
        cases h0 : longF (c :: t) 0 (fixS ++ syms) == 0 with
        | true => intro h; cases h
        | false =>
          intro _
          rw [beq_eq_false_iff_ne] at h0
          simp only [cond_false]
          omega
noncomputable def headT (T : Str → Int × Nat × Int) : Str → Nat → List Token × Int × Int
  | [], a => ([⟨4, [], (a : Int)⟩], 0, 0)
  | c :: t, a =>
    bif (T (c :: t)).2.2 == 0 then
      let r := t.drop ((T (c :: t)).2.1 - 1)
      let z := headT T (r.drop (skipG false r)) (a + (T (c :: t)).2.1 + skipG false r)
      bif z.2.2 == 0 then (⟨(T (c :: t)).1, (c :: t).take (T (c :: t)).2.1, (a : Int)⟩ :: z.1, 0, 0) else ([], z.2.1, z.2.2)
    else ([], ((a + (T (c :: t)).2.1 : Nat) : Int), (T (c :: t)).2.2)
termination_by r => r.length
decreasing_by simp only [List.length_drop, List.length_cons]; omega
def finR (out : List Token) (z : List Token × Int × Int) : List Token × Int × Int := bif z.2.2 == 0 then (out ++ z.1, 0, 0) else ([], z.2.1, z.2.2)
theorem finR_add (out : List Token) (x : Token) (z : List Token × Int × Int) : finR (out ++ [x]) z = finR out (bif z.2.2 == 0 then (x :: z.1, 0, 0) else ([], z.2.1, z.2.2)) := by
  unfold finR
  cases h : z.2.2 == 0 with
  | true => simp
  | false => simp [h]
theorem head_next (T : Str → Int × Nat × Int) (s : Str) (k : Nat) (hk : k < s.length) (h0 : (T (s.drop k)).2.2 = 0) (h1 : 1 ≤ (T (s.drop k)).2.1) (h2 : k + (T (s.drop k)).2.1 ≤ s.length) :
    headT T (s.drop k) k = let e := k + (T (s.drop k)).2.1
      let j := e + skipG false (s.drop e)
      let z := headT T (s.drop j) j
      bif z.2.2 == 0 then (⟨(T (s.drop k)).1, (s.drop k).take (T (s.drop k)).2.1, (k : Int)⟩ :: z.1, 0, 0) else ([], z.2.1, z.2.2) := by
  have hd := drop_cons hk
  have e : (s.drop (k + 1)).drop ((T (s.drop k)).2.1 - 1) = s.drop (k + (T (s.drop k)).2.1) := by
    rw [List.drop_drop]; congr 1; omega
  rw [hd, headT, ← hd, h0, e]
  simp only [beq_self_eq_true, cond_true, List.drop_drop]
theorem head_err (T : Str → Int × Nat × Int) (s : Str) (k : Nat) (hk : k < s.length) (h0 : ((T (s.drop k)).2.2 == 0) = false) : headT T (s.drop k) k = ([], ((k + (T (s.drop k)).2.1 : Nat) : Int), (T (s.drop k)).2.2) := by
  have hd := drop_cons hk
  rw [hd, headT, ← hd, h0]
  simp only [cond_false]
theorem head_end (T : Str → Int × Nat × Int) (s : Str) : headT T (s.drop s.length) s.length = ([⟨4, [], (s.length : Int)⟩], 0, 0) := by
  rw [List.drop_length, headT]
noncomputable def scanT (syms : List Str) (s : Str) : List Token × Int × Int :=
  bif syms.all symB then
    bif decide (65536 < s.length) then ([], 0, 5) else headT (tokT syms) (s.drop (skipG false s)) (skipG false s)
  else ([], 0, 1)
end Go.Abs
namespace Go.Abs
set_option linter.unusedVariables false
set_option linter.unusedSimpArgs false
theorem plFind_set' {α : Type} (x s : Str) (v : α) : ∀ es : List (Str × α), plFind x (plSet s v es) = bif x == s then some v else plFind x es
  | [] => by cases h : x == s <;> simp [plSet, plFind, h]
  | (k, u) :: es => by
    simp only [plSet]
    cases hk : s == k with
    | true =>
      obtain rfl := eq_of_beq hk
      simp only [cond_true, plFind]
      cases x == s <;> rfl
    | false =>
      simp only [cond_false, plFind, plFind_set' x s v es]
      cases hx : x == k with
      | false => simp only [cond_false]
      | true =>
        obtain rfl := eq_of_beq hx
        have : (x == s) = false := by
          rw [beq_eq_false_iff_ne] at hk ⊢
          exact fun h => hk h.symm
        simp only [this, cond_true, cond_false]
def setAllT (l : List Str) (r : List (Str × Bool)) : List (Str × Bool) := l.foldl (fun r y => plSet y true r) r
theorem find_setAll (y : Str) : ∀ (l : List Str) (r : List (Str × Bool)), (plFind y (setAllT l r)).getD false = (l.contains y || (plFind y r).getD false)
  | [], r => rfl
  | x :: l, r => by
    show (plFind y (setAllT l (plSet x true r))).getD false = _
    rw [find_setAll y l, plFind_set', List.contains_cons]
    cases y == x <;> simp
theorem sym_short {syms : List Str} (hsym : syms.all symB = true) {r : Str} {c : UInt8} {t : Str} (hr : r = c :: t) (hb : begB c = false) : ∀ y ∈ fixS ++ syms, r.take y.length = y → y.length ≤ 8 := by
  intro y hy he
  rcases List.mem_append.1 hy with h | h
  · have : ∀ y ∈ fixS, y.length ≤ 8 := by decide
    exact this y h
  · have hs := List.all_eq_true.1 hsym y h
    match y, hs, he with
    | d :: u, hs, he =>
      rw [hr, List.length_cons, List.take_succ_cons] at he
      obtain ⟨rfl, _⟩ := List.cons.inj he
      rw [symB, hb, cond_false] at hs
      simp only [Bool.and_eq_true, decide_eq_true_eq] at hs
      exact hs.2.2.1
theorem scan_loop (s : Str) (hs : s.length < sml) (syms : List Str) (hsym : syms.all symB = true) (r1 r2 : List (Str × Bool)) (h1 : ∀ y, (plFind y r1).getD false = syms.contains y) (h2 : ∀ y, (plFind y r2).getD false = (fixS ++ syms).contains y) :
    ∀ (k : Nat) (out : List Token), k ≤ s.length → out.length ≤ k → Ev2 (fun n m => lexer_Scan_l1 n m s kwMap r1 r2 s (k : Int) out) (finR out (headT (tokT syms) (s.drop k) k)) := by
  intro k
  have hs' : s.length < 4294967281 := hs
  induction h : s.length - k using Nat.strongRecOn generalizing k with
  | ind d ih =>
    intro out hk hout
    have hroom : decide ((out.length + 1) * 32 ≤ 17592186044416) = true := decide_eq_true (by omega)
    refine Ev2.lp (fun n m => by simp only [lexer_Scan_l1, lexer_Scan_b1]; exact rfl) ?_
    by_cases hlt : k < s.length
    · have e1 : decide ((k : Int) < (s.length : Int)) = true := decide_eq_true (by omega)
      simp only [e1, cond_true]
      refine Ev2.idx hlt ?_
      refine Ev2.bind1 (class_ev _) ?_
      have hd := drop_cons hlt
      have htok : tokT syms (s.drop k) = bif begB s[k] then wordT syms (s.drop k) else bif digB s[k] then numT (s.drop k) else bif s[k] == 34 then quotT (s.drop k) else symT syms (s.drop k) := by
        rw [hd]; rfl
      have tail : ∀ xx, xx = pk (scn s k kwMap r1 r2) (absR k (tokT syms (s.drop k))) → Ev2 (fun n m =>
          bif xx.snd.snd.snd.fst != 0 then some ([], xx.snd.snd.fst, xx.snd.snd.snd.fst)
          else
            bif decide (0 ≤ xx.fst.fst.snd.fst ∧ xx.fst.fst.snd.fst ≤ xx.snd.snd.fst ∧ xx.snd.snd.fst ≤ (s.length : Int)) then
              bif decide ((out.length + 1) * 32 ≤ 17592186044416) then
                (lexer_scanner_skip n xx.fst.fst.fst xx.snd.snd.fst xx.fst.snd.fst xx.fst.snd.snd.fst xx.fst.snd.snd.snd.fst).bind fun x_1 =>
                  lexer_Scan_l1 n m s x_1.fst.snd.fst x_1.fst.snd.snd.fst x_1.fst.snd.snd.snd.fst x_1.fst.fst.fst x_1.fst.fst.snd.fst
                    (out ++ [{ kind := xx.snd.fst, text := List.drop xx.fst.fst.snd.fst.toNat (List.take xx.snd.snd.fst.toNat s), at_ := xx.fst.fst.snd.fst }])
              else none
            else none) (finR out (headT (tokT syms) (s.drop k) k)) := by
        intro xx hxx
        subst hxx
        simp only [pk, scn, absR]
        cases h0 : (tokT syms (s.drop k)).2.2 == 0 with
        | false =>
          rw [head_err _ s k hlt h0]
          have hb : ((tokT syms (s.drop k)).2.2 != 0) = true := by rw [bne, h0]; rfl
          simp only [hb, cond_true, finR, h0, cond_false]
          exact Ev2.pure
        | true =>
          have hb : ((tokT syms (s.drop k)).2.2 != 0) = false := by rw [bne, h0]; rfl
          simp only [hb, cond_false]
          have hp := tok_pos (syms := syms) (c := s[k]) (t := s.drop (k + 1)) (by rw [← hd]; exact eq_of_beq h0)
          rw [← hd, List.length_drop] at hp
          obtain ⟨n, hn⟩ : ∃ n, (tokT syms (s.drop k)).2.1 = n := ⟨_, rfl⟩
          rw [hn] at hp
          simp only [hn]
          have e2 : decide ((0 : Int) ≤ (k : Int) ∧ (k : Int) ≤ ((k + n : Nat) : Int) ∧ ((k + n : Nat) : Int) ≤ (s.length : Int)) = true := decide_eq_true (by omega)
          simp only [e2, hroom, cond_true, Int.toNat_natCast]
          rw [drop_take_name]
          refine Ev2.bind1 (skip_ev s hs kwMap r1 r2 (k + n) (by omega)) ?_
          have hsk := skipG_le false (s.drop (k + n))
          rw [List.length_drop] at hsk
          rw [head_next _ s k hlt (eq_of_beq h0) (by rw [hn]; omega) (by rw [hn]; omega)]
          simp only [hn, scn]
          have := ih (s.length - (k + n + skipG false (s.drop (k + n)))) (by omega) _ rfl (out ++ [⟨(tokT syms (s.drop k)).1, (s.drop k).take n, (k : Int)⟩]) (by omega) (by rw [List.length_append, List.length_singleton]; omega)
          rw [finR_add] at this
          exact this
      cases hb : begB s[k] with
      | true =>
        have c0 : (classT s[k] == 0) = false := by unfold classT; rw [hb]; rfl
        have c1 : (classT s[k] == 1) = true := by rw [class_one, hb]
        simp only [c0, c1, cond_false, cond_true]
        have hw := word_ev s (by simp only [big]; omega) k kwMap r1 r2 hk
        rw [wordR_eq s k hk r1 syms h1] at hw
        rw [hb, cond_true] at htok
        rw [← htok] at hw
        exact Ev2.bind1 hw (tail _ rfl)
      | false =>
        rw [hb, cond_false] at htok
        have c1 : (classT s[k] == 1) = false := by rw [class_one, hb]
        cases hdg : digB s[k] with
        | true =>
          have c0 : (classT s[k] == 0) = false := by unfold classT; rw [hb, hdg]; rfl
          have c2 : (classT s[k] == 2) = true := by rw [class_two, hdg]
          simp only [c0, c1, c2, cond_false, cond_true]
          rw [hdg, cond_true] at htok
          have hw := number_ev s (by simp only [big]; omega) k kwMap r1 r2 hlt
          rw [← htok] at hw
          exact Ev2.bind1 hw (tail _ rfl)
        | false =>
          rw [hdg, cond_false] at htok
          have c2 : (classT s[k] == 2) = false := by rw [class_two, hdg]
          cases hq : s[k] == 34 with
          | true =>
            have c0 : (classT s[k] == 0) = false := by unfold classT; rw [hb, hdg, hq]; rfl
            have c3 : (classT s[k] == 3) = true := by unfold classT; rw [hb, hdg, hq]; rfl
            simp only [c0, c1, c2, c3, cond_false, cond_true]
            rw [hq, cond_true] at htok
            have hw := quoted_ev s hs k hlt kwMap r1 r2
            rw [← htok] at hw
            exact Ev2.bind1 hw (tail _ rfl)
          | false =>
            have c0 : (classT s[k] == 0) = true := by unfold classT; rw [hb, hdg, hq]; rfl
            simp only [c0, cond_true]
            rw [hq, cond_false] at htok
            have hw := symbol_ev s hs k hk kwMap r1 r2 (fixS ++ syms) h2 (sym_short hsym hd hb)
            have e : (bif longF (s.drop k) 0 (fixS ++ syms) == 0 then ((0 : Int), (k : Int), (4 : Int)) else (2, ((k + longF (s.drop k) 0 (fixS ++ syms) : Nat) : Int), 0)) = absR k (symT syms (s.drop k)) := by
              unfold symT
              generalize longF (s.drop k) 0 (fixS ++ syms) = q
              cases q == 0 <;> rfl
            rw [e, ← htok] at hw
            exact Ev2.bind1 hw (tail _ rfl)
    · have e1 : decide ((k : Int) < (s.length : Int)) = false := decide_eq_false (by omega)
      obtain rfl : k = s.length := by omega
      rw [head_end]
      simp only [e1, cond_false, hroom, cond_true]
      exact Ev2.pure
theorem refScan_loop (s : Str) (hs : s.length < sml) (syms : List Str) (hl : syms.length < 1000) (hy : ∀ y ∈ syms, y.length < sml) :
    ∀ (k : Nat) (out : List Token), k ≤ s.length → out.length ≤ k → Ev2 (fun n m => ref24_Scan_l1 n m s syms (k : Int) out) (finR out (headT (tokT syms) (s.drop k) k)) := by
  intro k
  have hs' : s.length < 4294967281 := hs
  induction h : s.length - k using Nat.strongRecOn generalizing k with
  | ind d ih =>
    intro out hk hout
    have hroom : decide ((out.length + 1) * 32 ≤ 17592186044416) = true := decide_eq_true (by omega)
    refine Ev2.lp (fun n m => by simp only [ref24_Scan_l1, ref24_Scan_b1]; exact rfl) ?_
    by_cases hlt : k < s.length
    · have e1 : decide ((k : Int) < (s.length : Int)) = true := decide_eq_true (by omega)
      simp only [e1, cond_true]
      refine Ev2.bind1 (refOne_ev s hs k hlt syms hl hy) ?_
      have hd := drop_cons hlt
      simp only [absR]
      cases h0 : (tokT syms (s.drop k)).2.2 == 0 with
      | false =>
        rw [head_err _ s k hlt h0]
        have hb : ((tokT syms (s.drop k)).2.2 != 0) = true := by rw [bne, h0]; rfl
        simp only [hb, cond_true, finR, h0, cond_false]
        exact Ev2.pure
      | true =>
        have hb : ((tokT syms (s.drop k)).2.2 != 0) = false := by rw [bne, h0]; rfl
        simp only [hb, cond_false]
        have hp := tok_pos (syms := syms) (c := s[k]) (t := s.drop (k + 1)) (by rw [← hd]; exact eq_of_beq h0)
        rw [← hd, List.length_drop] at hp
        obtain ⟨n, hn⟩ : ∃ n, (tokT syms (s.drop k)).2.1 = n := ⟨_, rfl⟩
        rw [hn] at hp
        simp only [hn]
        have e2 : decide ((0 : Int) ≤ (k : Int) ∧ (k : Int) ≤ ((k + n : Nat) : Int) ∧ ((k + n : Nat) : Int) ≤ (s.length : Int)) = true := decide_eq_true (by omega)
        simp only [e2, hroom, cond_true, Int.toNat_natCast]
        rw [drop_take_name]
        refine Ev2.bind1 (refSkip_ev s (by simp only [big]; omega) (k + n) (by omega)) ?_
        have hsk := skipG_le false (s.drop (k + n))
        rw [List.length_drop] at hsk
        rw [head_next _ s k hlt (eq_of_beq h0) (by rw [hn]; omega) (by rw [hn]; omega)]
        simp only [hn]
        have := ih (s.length - (k + n + skipG false (s.drop (k + n)))) (by omega) _ rfl (out ++ [⟨(tokT syms (s.drop k)).1, (s.drop k).take n, (k : Int)⟩]) (by omega) (by rw [List.length_append, List.length_singleton]; omega)
        rw [finR_add] at this
        exact this
    · have e1 : decide ((k : Int) < (s.length : Int)) = false := decide_eq_false (by omega)
      obtain rfl : k = s.length := by omega
      rw [head_end]
      simp only [e1, cond_false, hroom, cond_true]
      exact Ev2.pure
theorem finR_nil {T : Str → Int × Nat × Int} {r : Str} {a : Nat} : finR [] (headT T r a) = headT T r a := by
  unfold finR
  match r with
  | [] => rw [headT]; rfl
  | c :: t =>
    rw [headT]
    simp only
    generalize headT T _ _ = z
    cases h : (T (c :: t)).2.2 == 0 with
    | false => simp only [cond_false, h]
    | true =>
      simp only [cond_true]
      cases hz : z.2.2 == 0 with
      | true => rfl
      | false => simp only [cond_false, hz]
theorem refScan_ev (s : Str) (hs : s.length < sml) (syms : List Str) (hl : syms.length < 1000) (hy : ∀ y ∈ syms, y.length < sml) : Ev (fun n => ref24_Scan n s syms) (scanT syms s) := by
  refine Ev.fn (fun n => by simp only [ref24_Scan, ref24_Scan_e]; exact rfl) ?_
  have hs' : s.length < 4294967281 := hs
  have key : ∀ d k : Nat, k + d = syms.length → Ev2 (fun n m => ref24_Scan_l2 n m s syms (k : Int)) (bif (syms.drop k).all symB then (bif decide (65536 < s.length) then ([], 0, 5) else headT (tokT syms) (s.drop (skipG false s)) (skipG false s)) else ([], 0, 1)) := by
    intro d
    induction d with
    | zero =>
      intro k hk
      refine Ev2.lp (fun n m => by simp only [ref24_Scan_l2, ref24_Scan_b2]; exact rfl) ?_
      have : decide ((k : Int) < (syms.length : Int)) = false := decide_eq_false (by omega)
      simp only [this, cond_false]
      rw [List.drop_eq_nil_of_le (show syms.length ≤ k by omega)]
      simp only [List.all_nil, cond_true]
      have e : decide ((65536 : Int) < (s.length : Int)) = decide (65536 < s.length) := decide_eq_decide.2 (by omega)
      rw [e]
      cases decide (65536 < s.length) with
      | true => exact Ev2.pure
      | false =>
        simp only [cond_false]
        have hk0 := refSkip_ev s (by simp only [big]; omega) 0 (Nat.zero_le _)
        rw [List.drop_zero, Nat.zero_add] at hk0
        refine Ev2.bind1 hk0 ?_
        have hsk := skipG_le false s
        have := refScan_loop s hs syms hl hy (skipG false s) [] hsk (Nat.zero_le _)
        rw [finR_nil] at this
        exact Ev2.of1 (Ev.of2 (F := fun n m => ref24_Scan_l1 n m s syms ((skipG false s : Nat) : Int) []) this)
    | succ d ih =>
      intro k hk
      have hlt : k < syms.length := by omega
      refine Ev2.lp (fun n m => by simp only [ref24_Scan_l2, ref24_Scan_b2]; exact rfl) ?_
      have : decide ((k : Int) < (syms.length : Int)) = true := decide_eq_true (by omega)
      simp only [this, cond_true]
      refine Ev2.idx hlt (Ev2.bind1 (refSymbol_ev _ (hy _ (List.getElem_mem hlt))) ?_)
      rw [List.drop_eq_getElem_cons hlt, List.all_cons]
      cases symB syms[k] with
      | false => exact Ev2.pure
      | true =>
        simp only [cond_true, Bool.true_and]
        rw [wrap_next (by omega)]
        exact ih (k + 1) (by omega)
  exact Ev.of2 (F := fun n m => ref24_Scan_l2 n m s syms 0) (key syms.length 0 (by omega))
theorem Scan_ev (s : Str) (hs : s.length < sml) (syms : List Str) (hl : syms.length < 1000) (hy : ∀ y ∈ syms, y.length < sml) : Ev (fun n => lexer_Scan n s syms) (scanT syms s) := by
  refine Ev.fn (fun n => by simp only [lexer_Scan, lexer_Scan_e]; exact rfl) ?_
  have hs' : s.length < 4294967281 := hs
  refine Ev.bind keywords_ev ?_
  -- the symbols are put into a map
  have l2 : ∀ (l : List Str) (hll : l.length < 1000) (j : Int) (r1 : List (Str × Bool)) (L : List (List Str)) (b : Int) (X : Nat → Nat → List (Str × Bool) → Option (List Token × Int × Int)) (res : List Token × Int × Int),
      ∀ d k : Nat, k + d = l.length → ∀ r2, Ev2 (fun n m => lexer_Scan_l3 n m s L b (IntKind.i64.wrap (j + 1)) kwMap r1 (setAllT (l.drop k) r2) s) res →
      Ev3 (fun n m p => lexer_Scan_l2 n (lexer_Scan_l3 n m) p s L b j l ((l.length : Nat) : Int) (k : Int) kwMap r1 r2 s) res := by
    intro l hll j r1 L b X res d
    induction d with
    | zero =>
      intro k hk r2 hres
      refine Ev3.lp (fun n m p => by simp only [lexer_Scan_l2, lexer_Scan_b2]; exact rfl) ?_
      have : decide ((k : Int) < (l.length : Int)) = false := decide_eq_false (by omega)
      simp only [this, cond_false]
      rw [List.drop_eq_nil_of_le (show l.length ≤ k by omega)] at hres
      exact Ev3.of2 hres
    | succ d ih =>
      intro k hk r2 hres
      have hlt : k < l.length := by omega
      refine Ev3.lp (fun n m p => by simp only [lexer_Scan_l2, lexer_Scan_b2]; exact rfl) ?_
      have : decide ((k : Int) < (l.length : Int)) = true := decide_eq_true (by omega)
      simp only [this, cond_true]
      refine Ev3.idx hlt ?_
      rw [wrap_next (by omega)]
      refine ih (k + 1) (by omega) _ ?_
      rw [List.drop_eq_getElem_cons hlt] at hres
      exact hres
  have key : ∀ d k : Nat, k + d = syms.length → ∀ r1, (∀ y, (plFind y (setAllT (syms.drop k) r1)).getD false = syms.contains y) → ((syms.take k).all symB = true) →
      Ev2 (fun n m => lexer_Scan_l4 n m s syms syms ((syms.length : Nat) : Int) (k : Int) kwMap r1 [] s) (bif (syms.drop k).all symB then (bif decide (65536 < s.length) then ([], 0, 5) else headT (tokT syms) (s.drop (skipG false s)) (skipG false s)) else ([], 0, 1)) := by
    intro d
    induction d with
    | zero =>
      intro k hk r1 hr1 hall
      refine Ev2.lp (fun n m => by simp only [lexer_Scan_l4, lexer_Scan_b4]; exact rfl) ?_
      have : decide ((k : Int) < (syms.length : Int)) = false := decide_eq_false (by omega)
      simp only [this, cond_false]
      rw [List.drop_eq_nil_of_le (show syms.length ≤ k by omega)] at hr1 ⊢
      rw [List.take_of_length_le (by omega)] at hall
      simp only [List.all_nil, cond_true]
      refine Ev2.bind1 fixed'_ev ?_
      refine Ev2.of1 (Ev.of2 (F := fun n m => lexer_Scan_l3 n m s [fixS, syms] 2 0 kwMap r1 [] s) ?_)
      -- first list
      refine Ev2.lp (G := fun n m => lexer_Scan_l2 n (lexer_Scan_l3 n m) n s [fixS, syms] 2 0 fixS ((fixS.length : Nat) : Int) 0 kwMap r1 [] s) (fun n m => by simp only [lexer_Scan_l3, lexer_Scan_b3]; exact rfl) ?_
      refine Ev3.to2 (F := fun n m p => lexer_Scan_l2 n (lexer_Scan_l3 n m) p s [fixS, syms] 2 0 fixS ((fixS.length : Nat) : Int) ((0 : Nat) : Int) kwMap r1 [] s) ?_
      refine l2 fixS (by decide) 0 r1 _ 2 (fun _ _ _ => none) _ fixS.length 0 (by omega) [] ?_
      refine Ev2.lp (G := fun n m => lexer_Scan_l2 n (lexer_Scan_l3 n m) n s [fixS, syms] 2 1 syms ((syms.length : Nat) : Int) 0 kwMap r1 (setAllT fixS []) s) (fun n m => by simp only [lexer_Scan_l3, lexer_Scan_b3]; exact rfl) ?_
      refine Ev3.to2 (F := fun n m p => lexer_Scan_l2 n (lexer_Scan_l3 n m) p s [fixS, syms] 2 1 syms ((syms.length : Nat) : Int) ((0 : Nat) : Int) kwMap r1 (setAllT fixS []) s) ?_
      refine l2 syms hl 1 r1 _ 2 (fun _ _ _ => none) _ syms.length 0 (by omega) (setAllT fixS []) ?_
      rw [List.drop_zero]
      refine Ev2.lp (G := fun n m => bif decide ((65536 : Int) < (s.length : Int)) then some ([], 0, 5) else (lexer_scanner_skip n s 0 kwMap r1 (setAllT syms (setAllT fixS []))).bind fun x =>
          lexer_Scan_l1 n n s x.fst.snd.fst x.fst.snd.snd.fst x.fst.snd.snd.snd.fst x.fst.fst.fst x.fst.fst.snd.fst []) (fun n m => by simp only [lexer_Scan_l3, lexer_Scan_b3]; exact rfl) ?_
      have e : decide ((65536 : Int) < (s.length : Int)) = decide (65536 < s.length) := decide_eq_decide.2 (by omega)
      rw [e]
      cases decide (65536 < s.length) with
      | true => exact Ev2.pure
      | false =>
        simp only [cond_false]
        have hk0 := skip_ev s hs kwMap r1 (setAllT syms (setAllT fixS [])) 0 (Nat.zero_le _)
        rw [List.drop_zero, Nat.zero_add] at hk0
        refine Ev2.bind1 hk0 ?_
        have hsk := skipG_le false s
        have := scan_loop s hs syms hall r1 (setAllT syms (setAllT fixS [])) hr1 (fun y => by
          rw [find_setAll, find_setAll, plFind, Option.getD_none, Bool.or_false, List.contains_eq_mem, List.contains_eq_mem, List.contains_eq_mem]
          rw [Bool.eq_iff_iff]
          simp [or_comm]) (skipG false s) [] hsk (Nat.zero_le _)
        rw [finR_nil] at this
        exact Ev2.of1 (Ev.of2 (F := fun n m => lexer_Scan_l1 n m s kwMap r1 (setAllT syms (setAllT fixS [])) s ((skipG false s : Nat) : Int) []) this)
    | succ d ih =>
      intro k hk r1 hr1 hall
      have hlt : k < syms.length := by omega
      refine Ev2.lp (fun n m => by simp only [lexer_Scan_l4, lexer_Scan_b4]; exact rfl) ?_
      have : decide ((k : Int) < (syms.length : Int)) = true := decide_eq_true (by omega)
      simp only [this, cond_true]
      refine Ev2.idx hlt (Ev2.bind1 (Symbol_ev _ (hy _ (List.getElem_mem hlt))) ?_)
      rw [List.drop_eq_getElem_cons hlt, List.all_cons]
      cases hsy : symB syms[k] with
      | false => exact Ev2.pure
      | true =>
        simp only [cond_true, Bool.true_and]
        rw [wrap_next (by omega)]
        refine ih (k + 1) (by omega) _ ?_ ?_
        · rw [List.drop_eq_getElem_cons hlt] at hr1
          exact hr1
        · rw [List.take_succ_eq_append_getElem hlt, List.all_append, hall, List.all_cons, hsy]
          rfl
  exact Ev.of2 (F := fun n m => lexer_Scan_l4 n m s syms syms ((syms.length : Nat) : Int) 0 kwMap [] [] s) (key syms.length 0 (by omega) [] (fun y => by rw [List.drop_zero, find_setAll]; simp [plFind]) rfl)
end Go.Abs
namespace Go.Abs
set_option linter.unusedVariables false
set_option linter.unusedSimpArgs false
theorem few_tot (l : List Str) (hl : l.length < sml) : Tot (fun n => law24_few n l) (fun b => b = true → l.length ≤ 10 ∧ ∀ y ∈ l, y.length ≤ 20) := by
  refine Tot.fn (fun n => by simp only [law24_few, law24_few_e]; exact rfl) ?_
  simp only [sml] at hl
  have stop : ∀ k : Nat, (k = l.length ∨ 12 ≤ k) → (∀ j, j < k → ∀ h : j < l.length, l[j].length ≤ 20) → (decide ((l.length : Int) ≤ 10) = true → l.length ≤ 10 ∧ ∀ y ∈ l, y.length ≤ 20) := by
    intro k hk hj h
    have h := of_decide_eq_true h
    refine ⟨by omega, fun y hy => ?_⟩
    obtain ⟨j, hjl, rfl⟩ := List.getElem_of_mem hy
    exact hj j (by omega) hjl
  have key : ∀ d k : Nat, k + d = 12 → (∀ j, j < k → ∀ h : j < l.length, l[j].length ≤ 20) → Tot2 (fun n m => law24_few_l1 n m l (k : Int)) (fun b => b = true → l.length ≤ 10 ∧ ∀ y ∈ l, y.length ≤ 20) := by
    intro d
    induction d with
    | zero =>
      intro k hk hj
      refine Tot2.lp (fun n m => by simp only [law24_few_l1, law24_few_b1]; exact rfl) ?_
      have e12 : decide ((k : Int) < 12) = false := decide_eq_false (by omega)
      simp only [e12, cond_false, Bool.cond_self]
      exact Tot2.pure (stop k (.inr (by omega)) hj)
    | succ d ih =>
      intro k hk hj
      refine Tot2.lp (fun n m => by simp only [law24_few_l1, law24_few_b1]; exact rfl) ?_
      have e12 : decide ((k : Int) < 12) = true := decide_eq_true (by omega)
      by_cases hlt : k < l.length
      · have e : decide ((k : Int) < (l.length : Int)) = true := decide_eq_true (by omega)
        simp only [e, e12, cond_true]
        refine Tot2.idx hlt ?_
        by_cases h20 : l[k].length ≤ 20
        · have e2 : decide ((20 : Int) < ((l[k]).length : Int)) = false := decide_eq_false (by omega)
          simp only [e2, cond_false]
          rw [wrap_next (by omega)]
          refine ih (k + 1) (by omega) (fun j hjk h => ?_)
          rcases Nat.lt_or_ge j k with hh | hh
          · exact hj j hh h
          · obtain rfl : j = k := by omega
            exact h20
        · have e2 : decide ((20 : Int) < ((l[k]).length : Int)) = true := decide_eq_true (by omega)
          simp only [e2, cond_true]
          exact Tot2.pure (fun h => by cases h)
      · have e : decide ((k : Int) < (l.length : Int)) = false := decide_eq_false (by omega)
        simp only [e, cond_false]
        exact Tot2.pure (stop l.length (.inl rfl) (fun j hjl h => hj j (by omega) h))
  exact Tot.of2 (F := fun n m => law24_few_l1 n m l 0) (key 12 0 (by omega) (fun j h => absurd h (Nat.not_lt_zero _)))
def looseT (t : Token) : Int × Str := (t.kind, t.text)
theorem Same_ev (a b : List Token) (loose : Bool) (ha : a.length < sml) (h : a.map looseT = b.map looseT) (h2 : loose = false → a = b) : Ev (fun n => ref24_Same n a b loose) true := by
  refine Ev.fn (fun n => by simp only [ref24_Same, ref24_Same_e]; exact rfl) ?_
  simp only [sml] at ha
  have hlen : a.length = b.length := by simpa using congrArg List.length h
  have e0 : ((a.length : Int) != (b.length : Int)) = false := by rw [hlen]; simp
  simp only [e0, cond_false]
  have key : ∀ d k : Nat, k + d = a.length → Ev2 (fun n m => ref24_Same_l1 n m a b loose (k : Int)) true := by
    intro d
    induction d with
    | zero =>
      intro k hk
      refine Ev2.lp (fun n m => by simp only [ref24_Same_l1, ref24_Same_b1]; exact rfl) ?_
      have : decide ((k : Int) < (a.length : Int)) = false := decide_eq_false (by omega)
      simp only [this, cond_false]
      exact Ev2.pure
    | succ d ih =>
      intro k hk
      have hlt : k < a.length := by omega
      have hlb : k < b.length := by omega
      refine Ev2.lp (fun n m => by simp only [ref24_Same_l1, ref24_Same_b1]; exact rfl) ?_
      have : decide ((k : Int) < (a.length : Int)) = true := decide_eq_true (by omega)
      have hkk : looseT a[k] = looseT b[k] := by
        have h1 : (a.map looseT)[k]? = (b.map looseT)[k]? := by rw [h]
        rw [List.getElem?_map, List.getElem?_map, List.getElem?_eq_getElem hlt, List.getElem?_eq_getElem hlb] at h1
        exact Option.some.inj h1
      have hk1 : a[k].kind = b[k].kind := congrArg (·.1) hkk
      have hk2 : a[k].text = b[k].text := congrArg (·.2) hkk
      simp only [this, cond_true, idxA_at hlt, idxA_at hlb, Option.bind_some, hk1, hk2, bne_self_eq_false, cond_false, beq_self_eq_true]
      rw [wrap_next (by omega)]
      cases loose with
      | true => simp only [cond_true]; exact ih (k + 1) (by omega)
      | false =>
        have hab := h2 rfl
        subst hab
        simp only [cond_false, bne_self_eq_false]
        exact ih (k + 1) (by omega)
  exact Ev.of2 (F := fun n m => ref24_Same_l1 n m a b loose 0) (key a.length 0 (by omega))
theorem headT_len (T : Str → Int × Nat × Int) : ∀ (r : Str) (a : Nat), (headT T r a).1.length ≤ r.length + 1 := by
  intro r
  induction h : r.length using Nat.strongRecOn generalizing r with
  | ind d ih =>
    intro a
    match r, h with
    | [], h => rw [headT]; simp
    | c :: t, h =>
      rw [headT]
      simp only [List.length_cons] at h ⊢
      cases (T (c :: t)).2.2 == 0 with
      | false => simp
      | true =>
        simp only [cond_true]
        have := ih (((t.drop ((T (c :: t)).2.1 - 1)).drop (skipG false (t.drop ((T (c :: t)).2.1 - 1)))).length) (by simp only [List.length_drop]; omega) _ rfl (a + (T (c :: t)).2.1 + skipG false (t.drop ((T (c :: t)).2.1 - 1)))
        generalize headT T _ _ = z at this ⊢
        cases z.2.2 == 0 with
        | false => simp
        | true =>
          simp only [cond_true, List.length_cons]
          simp only [List.length_drop] at this
          omega
theorem scanT_len (syms : List Str) (s : Str) : (scanT syms s).1.length ≤ s.length + 1 := by
  unfold scanT
  cases syms.all symB with
  | false => simp
  | true =>
    cases decide (65536 < s.length) with
    | true => simp
    | false =>
      simp only [cond_true, cond_false]
      have := headT_len (tokT syms) (s.drop (skipG false s)) (skipG false s)
      rw [List.length_drop] at this
      omega
theorem awakeB_ev : Ev (fun n => (law24_awake n).bind fun x => some x) true := Ev.bind awake_ev Ev.pure
theorem plain_of_ev {F : Nat → Option Bool} (h : Ev F true) : ∃ n, F n = some true := by
  obtain ⟨N, hN⟩ := h
  exact ⟨N, hN N (Nat.le_refl _)⟩
theorem sumB_len {α : Type} (f : α → Nat) (h : ∀ x, 1 ≤ f x) : ∀ xs : List α, xs.length ≤ sumB f xs
  | [] => Nat.zero_le _
  | x :: xs => by
    have h1 := sumB_len f h xs
    have h2 := h x
    rw [sumB, List.length_cons]
    omega
theorem law24_LexerScans_plain (x0 : Str) (x1 : List Str) (h : (x0.length + 1) + sumB (fun m : Str => m.length + 1) x1 ≤ 1048576) (_ : True) (_ : ∀ y ∈ x1, True) : ∃ n, law24_LexerScans n x0 x1 = some true := by
  refine plain_of_ev ?_
  have hl := sumB_len (fun m : Str => m.length + 1) (fun x => Nat.le_add_left 1 _) x1
  refine Ev.fn (fun n => by simp only [law24_LexerScans, law24_LexerScans_e]; exact rfl) ?_
  by_cases h1 : (1000 : Int) < (x0.length : Int)
  · rw [decide_eq_true h1]
    exact awakeB_ev
  · rw [decide_eq_false h1]
    simp only [cond_false]
    obtain ⟨b, hb, hev⟩ := few_tot x1 (by simp only [sml]; omega)
    refine Ev.bind hev ?_
    cases b with
    | false => exact awakeB_ev
    | true =>
      obtain ⟨hb1, hb2⟩ := hb rfl
      have hs : x0.length < sml := by simp only [sml]; omega
      have hl' : x1.length < 1000 := by omega
      have hy : ∀ y ∈ x1, y.length < sml := fun y hy => by have := hb2 y hy; simp only [sml]; omega
      have hlen := scanT_len x1 x0
      simp only [cond_true]
      refine Ev.bind (Scan_ev x0 hs x1 hl' hy) (Ev.bind (refScan_ev x0 hs x1 hl' hy) (Ev.bind awake_ev ?_))
      simp only [cond_true]
      refine Ev.bind (Same_ev _ _ false (by simp only [sml]; omega) rfl (fun _ => rfl)) ?_
      simp only [cond_true, beq_self_eq_true]
      exact Ev.pure
end Go.Abs
namespace Go.Abs
set_option linter.unusedVariables false
set_option linter.unusedSimpArgs false
theorem take_cons {c : UInt8} {t : Str} {m : Nat} (h : 1 ≤ m) : (c :: t).take m = c :: t.take (m - 1) := by
  obtain ⟨m, rfl⟩ : ∃ j, m = j + 1 := ⟨m - 1, by omega⟩
  rfl
theorem runT_loc {p : UInt8 → Bool} {w : UInt8} (hw : p w = false) (x : Str) : ∀ (r : Str) (m : Nat), runT p r ≤ m → runT p (r.take m ++ w :: x) = runT p r
  | [], m, _ => by rw [List.take_nil, List.nil_append, runT_cons, hw]; rfl
  | c :: r, 0, h => by
    rw [runT_cons] at h ⊢
    rw [List.take_zero, List.nil_append, runT_cons, hw]
    cases hc : p c with
    | true => rw [hc] at h; simp at h
    | false => rfl
  | c :: r, m + 1, h => by
    rw [List.take_succ_cons, List.cons_append, runT_cons, runT_cons]
    cases hc : p c with
    | false => rfl
    | true =>
      rw [runT_cons, hc] at h
      simp only [cond_true] at h ⊢
      rw [runT_loc hw x r m (by omega)]
theorem drop_loc {r : Str} {q m : Nat} {y : Str} (h : q ≤ m) (hm : m ≤ r.length) : (r.take m ++ y).drop q = (r.drop q).take (m - q) ++ y := by
  rw [List.drop_append_of_le_length (by rw [List.length_take]; omega), List.drop_take]
theorem take_loc {r : Str} {q m : Nat} {y : Str} (h : q ≤ m) (hm : m ≤ r.length) : (r.take m ++ y).take q = r.take q := by
  rw [List.take_append_of_le_length (by rw [List.length_take]; omega), List.take_take, Nat.min_eq_left h]
theorem inw_parts {w : UInt8} (h : inwB w = false) : begB w = false ∧ digB w = false ∧ (w == 39) = false := by
  unfold inwB at h
  simpa only [Bool.or_eq_false_iff] using h
theorem nameT_loc {w : UInt8} (hw : inwB w = false) (h46 : (w == 46) = false) (x : Str) : ∀ (r : Str) (m : Nat), nameT r ≤ m → m ≤ r.length → nameT (r.take m ++ w :: x) = nameT r := by
  intro r
  induction h : r.length using Nat.strongRecOn generalizing r with
  | ind d ih =>
    intro m hm hml
    have hb := (inw_parts hw).1
    have he := nameT_eq r
    have hc : compT (r.take m ++ w :: x) = compT r := runT_loc hw x r m (by unfold compT at he; omega)
    rw [nameT_eq (r.take m ++ w :: x), hc, drop_loc (by omega) (by omega), he]
    congr 1
    have hcl := compT_le r
    have hl1 : (r.drop (compT r)).length = r.length - compT r := List.length_drop ..
    have ht : tailT (r.drop (compT r)) ≤ m - compT r := by omega
    have hlt : compT r + 2 ≤ r.length → (r.drop (compT r + 1)).length < d := by rw [List.length_drop]; omega
    have hdd : (r.drop (compT r)).drop 1 = r.drop (compT r + 1) := List.drop_drop ..
    have hm1 : m - compT r ≤ (r.drop (compT r)).length := by omega
    generalize hq : m - compT r = q at ht hm1 ⊢
    match hr1 : r.drop (compT r) with
    | [] =>
      rw [List.take_nil, List.nil_append]
      cases x with
      | nil => rfl
      | cons c t => show (bif w == 46 && begB c then _ else 0) = 0; rw [h46]; rfl
    | [e] =>
      cases q with
      | zero =>
        rw [List.take_zero, List.nil_append]
        cases x with
        | nil => rfl
        | cons c t => show (bif w == 46 && begB c then _ else 0) = 0; rw [h46]; rfl
      | succ q =>
        rw [List.take_succ_cons, List.take_nil, List.cons_append, List.nil_append]
        show (bif e == 46 && begB w then _ else 0) = 0
        rw [hb, Bool.and_false]; rfl
    | e :: c :: t =>
      rw [hr1] at ht hm1 hl1 hdd
      cases hec : e == 46 && begB c with
      | true =>
        have ht' : tailT (e :: c :: t) = 1 + nameT (c :: t) := by show (bif e == 46 && begB c then _ else 0) = _; rw [hec]; rfl
        rw [ht'] at ht ⊢
        have hn1 : 1 ≤ nameT (c :: t) := by
          rw [nameT_eq]
          unfold compT
          rw [runT_cons]
          have hec' := hec
          rw [Bool.and_eq_true] at hec'
          have : inwB c = true := by unfold inwB; rw [hec'.2]; rfl
          rw [this, cond_true]; omega
        obtain ⟨j, rfl⟩ : ∃ j, q = j + 2 := ⟨q - 2, by omega⟩
        have hih := ih (c :: t).length (by simp only [List.length_cons] at hl1 ⊢; omega) (c :: t) rfl (j + 1) (by omega) (by simp only [List.length_cons] at hm1 ⊢; omega)
        rw [List.take_succ_cons, List.cons_append, List.take_succ_cons, List.cons_append]
        show (bif e == 46 && begB c then 1 + nameT (c :: (t.take j ++ w :: x)) else 0) = _
        rw [hec, cond_true, ← hih]
        rfl
      | false =>
        have ht' : tailT (e :: c :: t) = 0 := by show (bif e == 46 && begB c then _ else 0) = _; rw [hec]; rfl
        rw [ht']
        match q with
        | 0 =>
          rw [List.take_zero, List.nil_append]
          cases x with
          | nil => rfl
          | cons c t => show (bif w == 46 && begB c then _ else 0) = 0; rw [h46]; rfl
        | 1 =>
          show (bif e == 46 && begB w then _ else 0) = 0
          rw [hb, Bool.and_false]; rfl
        | q + 2 =>
          show (bif e == 46 && begB c then _ else 0) = 0
          rw [hec]; rfl
def sepB (syms : List Str) (w : UInt8) : Prop := inwB w = false ∧ (w == 46) = false ∧ ∀ y ∈ fixS ++ syms, w ∉ y.drop 1
theorem longF_loc {l : List Str} {w : UInt8} (hw : ∀ y ∈ l, w ∉ y.drop 1) (x : Str) (r : Str) (m : Nat) (h1 : 1 ≤ m) (hm : longF r 0 l ≤ m) (hml : m ≤ r.length) : longF (r.take m ++ w :: x) 0 l = longF r 0 l := by
  obtain ⟨a1, _, a3⟩ := longF_spec r l 0
  obtain ⟨b1, _, b3⟩ := longF_spec (r.take m ++ w :: x) l 0
  refine Nat.le_antisymm ?_ ?_
  · rcases b1 with b1 | ⟨_, b4, b5⟩
    · omega
    · generalize longF (r.take m ++ w :: x) 0 l = v at *
      rcases Nat.lt_or_ge m v with hv | hv
      · exfalso
        refine hw _ b5 ?_
        have hl : (r.take m).length = m := take_len hml
        obtain ⟨j, rfl⟩ : ∃ j, v = m + (j + 1) := ⟨v - m - 1, by omega⟩
        rw [List.take_append, hl, List.take_of_length_le (by rw [hl]; omega), Nat.add_sub_cancel_left, List.take_succ_cons, List.drop_append_of_le_length (by omega)]
        simp
      · rw [take_loc hv hml] at b5
        have := a3 _ b5 (by rw [List.length_take]; congr 1; omega)
        rwa [List.length_take, Nat.min_eq_left (by omega)] at this
  · rcases a1 with a1 | ⟨_, a4, a5⟩
    · omega
    · have := b3 _ a5 (by rw [List.length_take, Nat.min_eq_left a4, take_loc hm hml])
      rwa [List.length_take, Nat.min_eq_left a4] at this
theorem qb_ten : qb 10 = false := rfl
theorem numT_loc {w : UInt8} (hw : inwB w = false) (x : Str) (c : UInt8) (t : Str) (m : Nat) (h1 : 1 ≤ m) (hm : runT digB (c :: t) ≤ m) (hml : m ≤ (c :: t).length) (he : m = (c :: t).length ∨ (numT (c :: t)).2.2 = 0) : numT ((c :: t).take m ++ w :: x) = numT (c :: t) := by
  obtain ⟨wb, wd, w39⟩ := inw_parts hw
  have hrun : runT digB ((c :: t).take m ++ w :: x) = runT digB (c :: t) := runT_loc wd x _ m hm
  have hhd : ((c :: t).take m ++ w :: x).head? = (c :: t).head? := by rw [take_cons h1]; rfl
  unfold numT at he ⊢
  rw [hrun, hhd, drop_loc hm hml]
  generalize hq : runT digB (c :: t) = q at *
  revert he
  cases decide (6 < q) with
  | true => intro _; rfl
  | false =>
    simp only [cond_false]
    cases decide (1 < q) && (c :: t).head? == some 48 with
    | true => intro _; rfl
    | false =>
      simp only [cond_false]
      intro he
      have hl : ((c :: t).drop q).length = (c :: t).length - q := List.length_drop ..
      generalize (c :: t).drop q = u at *
      cases u with
      | nil =>
        rw [List.take_nil, List.nil_append]
        simp only [wb, w39, Bool.or_self, cond_false]
      | cons d u =>
        rcases Nat.lt_or_ge q m with hlt | hge
        · rw [take_cons (by omega), List.cons_append]
        · have : m - q = 0 := by omega
          rw [this, List.take_zero, List.nil_append]
          simp only [wb, w39, Bool.or_self, cond_false]
          rcases he with he | he
          · simp only [List.length_cons] at hl he
            omega
          · cases hd : begB d || d == 39 with
            | false => rfl
            | true => simp only [hd, cond_true] at he; cases he
theorem quotT_loc {w : UInt8} (x : Str) (c : UInt8) (t : Str) (m : Nat) (h1 : 1 ≤ m) (hml : m ≤ (c :: t).length) (he : ((quotT (c :: t)).2.2 = 0 ∧ (quotT (c :: t)).2.1 ≤ m) ∨ (m = (c :: t).length ∧ w = 10)) : quotT ((c :: t).take m ++ w :: x) = quotT (c :: t) := by
  rw [take_cons h1, List.cons_append]
  unfold quotT at he ⊢
  simp only [List.drop_succ_cons, List.drop_zero] at he ⊢
  have hr := runT_le qb t
  simp only [List.length_cons] at hml he
  rcases he with ⟨he, hm⟩ | ⟨he, rfl⟩
  · have hst := runT_step (q := qb) (r := t) (p := runT qb t) (Nat.le_refl _)
    have hdl : (t.drop (runT qb t)).length = t.length - runT qb t := List.length_drop ..
    match hu : t.drop (runT qb t) with
    | [] => rw [hu] at he; cases he
    | d :: u =>
      rw [hu] at he hm
      cases hd : d == 34 with
      | false => simp only [hd, cond_false] at he; cases he
      | true =>
        simp only [hd, cond_true] at hm
        have hrun : runT qb (t.take (m - 1) ++ w :: x) = runT qb t := by
          -- the mark stands within
          have ht : t = t.take (runT qb t) ++ d :: u := by rw [← hu, List.take_append_drop]
          have hlen : (t.take (runT qb t)).length = runT qb t := take_len hr
          have hqd : qb d = false := by rw [eq_of_beq hd]; rfl
          have e1 : t.take (m - 1) ++ w :: x = t.take (runT qb t) ++ d :: (u.take (m - 1 - runT qb t - 1) ++ w :: x) := by
            conv => lhs; rw [ht]
            rw [List.take_append, hlen, List.take_of_length_le (by rw [hlen]; omega), take_cons (by omega), List.append_assoc, List.cons_append]
          rw [e1]
          exact runT_loc hqd _ t (runT qb t) (Nat.le_refl _)
        rw [hrun, drop_loc (by omega) (by omega), hu, take_cons (by omega), List.cons_append]
  · have e1 : t.take (m - 1) = t.take t.length := by rw [he]; rfl
    have hrun : runT qb (t.take (m - 1) ++ 10 :: x) = runT qb t := runT_loc qb_ten x t (m - 1) (by omega)
    rw [hrun, drop_loc (by omega) (by omega)]
    have hdl : (t.drop (runT qb t)).length = t.length - runT qb t := List.length_drop ..
    match hu : t.drop (runT qb t) with
    | [] => rw [List.take_nil, List.nil_append]; rfl
    | d :: u =>
      rw [hu, List.length_cons] at hdl
      rw [take_cons (by omega), List.cons_append]
theorem tok_loc {syms : List Str} {w : UInt8} (hw : sepB syms w) (x : Str) (c : UInt8) (t : Str) (m : Nat) (h1 : 1 ≤ m) (hml : m ≤ (c :: t).length)
    (he : ((tokT syms (c :: t)).2.2 = 0 ∧ (tokT syms (c :: t)).2.1 ≤ m) ∨ (m = (c :: t).length ∧ w = 10)) : tokT syms ((c :: t).take m ++ w :: x) = tokT syms (c :: t) := by
  obtain ⟨w1, w2, w3⟩ := hw
  have hcons : (c :: t).take m ++ w :: x = c :: (t.take (m - 1) ++ w :: x) := by rw [take_cons h1, List.cons_append]
  have he' : ∀ r, r = (c :: t).take m ++ w :: x → tokT syms r = bif begB c then wordT syms r else bif digB c then numT r else bif c == 34 then quotT r else symT syms r := by
    intro r hr
    rw [hcons] at hr
    subst hr
    rfl
  rw [he' _ rfl]
  rw [tokT] at he ⊢
  cases hb : begB c with
  | true =>
    rw [hb] at he
    simp only [cond_true] at he ⊢
    have hn : nameT (c :: t) ≤ m := by
      rcases he with ⟨e0, e1⟩ | ⟨e0, _⟩
      · revert e0 e1
        unfold wordT
        cases decide (64 < nameT (c :: t)) <;> cases (c :: t).take (nameT (c :: t)) == [95] <;> cases syms.contains ((c :: t).take (nameT (c :: t))) <;> cases kws.contains ((c :: t).take (nameT (c :: t))) <;> intro e0 e1 <;> first | exact e1 | cases e0
      · have := nameT_le (c :: t); omega
    unfold wordT
    rw [nameT_loc w1 w2 x _ m hn hml, take_loc hn hml]
  | false =>
    rw [hb] at he
    simp only [cond_false] at he ⊢
    cases hd : digB c with
    | true =>
      rw [hd] at he
      simp only [cond_true] at he ⊢
      refine numT_loc w1 x c t m h1 ?_ hml (he.elim (fun h => .inr h.1) (fun h => .inl h.1))
      rcases he with ⟨e0, e1⟩ | ⟨e0, _⟩
      · rw [numT_ok e0] at e1; exact e1
      · have := runT_le digB (c :: t); omega
    | false =>
      rw [hd] at he
      simp only [cond_false] at he ⊢
      cases hq : c == 34 with
      | true =>
        rw [hq] at he
        simp only [cond_true] at he ⊢
        exact quotT_loc x c t m h1 hml he
      | false =>
        rw [hq] at he
        simp only [cond_false] at he ⊢
        have hn : longF (c :: t) 0 (fixS ++ syms) ≤ m := by
          rcases he with ⟨e0, e1⟩ | ⟨e0, _⟩
          · revert e0 e1
            unfold symT
            generalize longF (c :: t) 0 (fixS ++ syms) = v
            cases v == 0 with
            | true => intro e0; cases e0
            | false => intro _ e1; exact e1
          · have := longF_le (c :: t) (fixS ++ syms); omega
        unfold symT
        rw [longF_loc w3 x _ m h1 hn hml]
def skipS : Bool → Str → Option Bool
  | co, [] => some co
  | true, x :: r => bif x == 10 then skipS false r else skipS true r
  | false, x :: r => bif whB x then skipS false r else bif x == 45 && r.head? == some 45 then skipS true r else none
theorem skip_add : ∀ (co : Bool) (u v : Str) (f : Bool), skipS co u = some f → skipG co (u ++ v) = u.length + skipG f v
  | co, [], v, f, h => by
    have : co = f := by cases co <;> simpa [skipS] using h
    rw [this]; simp
  | true, x :: r, v, f, h => by
    rw [skipS] at h
    rw [List.cons_append, skipG, List.length_cons]
    cases hx : x == 10 with
    | true => rw [hx] at h; simp only [cond_true] at h ⊢; rw [skip_add false r v f h]; omega
    | false => rw [hx] at h; simp only [cond_false] at h ⊢; rw [skip_add true r v f h]; omega
  | false, x :: r, v, f, h => by
    rw [skipS] at h
    rw [List.cons_append, skipG, List.length_cons]
    cases hx : whB x with
    | true => rw [hx] at h; simp only [cond_true] at h ⊢; rw [skip_add false r v f h]; omega
    | false =>
      rw [hx] at h
      simp only [cond_false] at h ⊢
      cases hc : x == 45 && r.head? == some 45 with
      | false => rw [hc] at h; cases h
      | true =>
        rw [hc] at h
        simp only [cond_true] at h
        have : (x == 45 && (r ++ v).head? == some 45) = true := by
          rw [Bool.and_eq_true] at hc ⊢
          refine ⟨hc.1, ?_⟩
          cases r with
          | nil => exact absurd hc.2 (by simp)
          | cons y r => exact hc.2
        rw [this, cond_true, skip_add true r v f h]; omega
def stopB : Str → Bool
  | [] => true
  | c :: t => !whB c && !(c == 45 && t.head? == some 45)
theorem stop_skip {r : Str} (h : stopB r = true) : skipG false r = 0 := by
  cases r with
  | nil => rfl
  | cons c t =>
    simp only [stopB, Bool.and_eq_true, Bool.not_eq_true'] at h
    exact skip_none h.1 h.2
theorem skip_parts : ∀ (co : Bool) (r : Str), ∃ f, skipS co (r.take (skipG co r)) = some f ∧ (f = true → r.drop (skipG co r) = []) ∧ stopB (r.drop (skipG co r)) = true
  | co, [] => ⟨co, by rw [List.take_nil]; cases co <;> rfl, fun _ => by simp, by simp [stopB]⟩
  | true, x :: r => by
    rw [skipG]
    cases hx : x == 10 with
    | true =>
      obtain ⟨f, h1, h2⟩ := skip_parts false r
      simp only [cond_true]
      exact ⟨f, by rw [List.take_succ_cons, skipS, hx]; exact h1, h2⟩
    | false =>
      obtain ⟨f, h1, h2⟩ := skip_parts true r
      simp only [cond_false]
      exact ⟨f, by rw [List.take_succ_cons, skipS, hx]; exact h1, h2⟩
  | false, x :: r => by
    rw [skipG]
    cases hx : whB x with
    | true =>
      obtain ⟨f, h1, h2⟩ := skip_parts false r
      simp only [cond_true]
      exact ⟨f, by rw [List.take_succ_cons, skipS, hx]; exact h1, h2⟩
    | false =>
      simp only [cond_false]
      cases hc : x == 45 && r.head? == some 45 with
      | false =>
        simp only [cond_false]
        refine ⟨false, rfl, fun h => (by cases h), ?_⟩
        rw [List.drop_zero, stopB, hx, hc]; rfl
      | true =>
        obtain ⟨f, h1, h2⟩ := skip_parts true r
        simp only [cond_true]
        refine ⟨f, ?_, h2⟩
        have hh : (r.take (skipG true r)).head? = r.head? := by
          cases r with
          | nil => rfl
          | cons y r =>
            rw [skipG]
            cases y == 10 <;> rfl
        rw [List.take_succ_cons, skipS, hx, hh, hc]
        exact h1
theorem skipS_le {co : Bool} {u : Str} {f : Bool} (h : skipS co u = some f) : skipG co u = u.length := by
  have := skip_add co u [] f h
  rw [List.append_nil, skipG_nil] at this
  exact this
theorem headT_shift (T : Str → Int × Nat × Int) : ∀ (r : Str) (a b : Nat), (headT T r a).1.map looseT = (headT T r b).1.map looseT ∧ (headT T r a).2.2 = (headT T r b).2.2 := by
  intro r
  induction h : r.length using Nat.strongRecOn generalizing r with
  | ind d ih =>
    intro a b
    match r, h with
    | [], h => rw [headT, headT]; exact ⟨rfl, rfl⟩
    | c :: t, h =>
      rw [headT, headT]
      cases (T (c :: t)).2.2 == 0 with
      | false => exact ⟨rfl, rfl⟩
      | true =>
        simp only [cond_true]
        have := ih (((t.drop ((T (c :: t)).2.1 - 1)).drop (skipG false (t.drop ((T (c :: t)).2.1 - 1)))).length) (by rw [← h]; simp only [List.length_drop, List.length_cons]; omega) _ rfl (a + (T (c :: t)).2.1 + skipG false (t.drop ((T (c :: t)).2.1 - 1))) (b + (T (c :: t)).2.1 + skipG false (t.drop ((T (c :: t)).2.1 - 1)))
        generalize headT T _ (a + _ + _) = z at this ⊢
        generalize headT T _ (b + _ + _) = z' at this ⊢
        rw [this.2]
        cases z'.2.2 == 0 with
        | false => exact ⟨rfl, rfl⟩
        | true =>
          simp only [cond_true, List.map_cons]
          rw [this.1]
          exact ⟨rfl, trivial⟩
end Go.Abs
namespace Go.Abs
set_option linter.unusedVariables false
set_option linter.unusedSimpArgs false
theorem headT_congr {T U : Str → Int × Nat × Int} (s : Str) (h : ∀ k, k < s.length → T (s.drop k) = U (s.drop k)) : ∀ (k a : Nat), headT T (s.drop k) a = headT U (s.drop k) a := by
  intro k
  induction hd : s.length - k using Nat.strongRecOn generalizing k with
  | ind d ih =>
    intro a
    by_cases hlt : k < s.length
    · have hkk := h k hlt
      have hc := drop_cons hlt
      have key : ∀ n, (s.drop (k + 1)).drop (n - 1) = s.drop (k + 1 + (n - 1)) := fun n => List.drop_drop ..
      rw [hc, headT, headT, ← hc, hkk]
      cases (U (s.drop k)).2.2 == 0 with
      | false => rfl
      | true =>
        simp only [cond_true]
        rw [key, List.drop_drop, ih _ (by omega) (k + 1 + ((U (s.drop k)).2.1 - 1) + skipG false (s.drop (k + 1 + ((U (s.drop k)).2.1 - 1)))) rfl]
    · have : s.drop k = [] := List.drop_eq_nil_of_le (by omega)
      rw [this, headT, headT]
theorem longF_more {r : Str} {more : Str} {a b : List Str} (h : r.take more.length ≠ more) : longF r 0 (a ++ more :: b) = longF r 0 (a ++ b) := by
  have key : ∀ (a : List Str) (v : Nat), longF r v (a ++ more :: b) = longF r v (a ++ b) := by
    intro a
    induction a with
    | nil =>
      intro v
      rw [List.nil_append, List.nil_append, longF]
      have : (r.take more.length == more) = false := by rw [beq_eq_false_iff_ne]; exact h
      rw [this, Bool.and_false, cond_false]
    | cons y a ih => intro v; rw [List.cons_append, List.cons_append, longF, longF, ih]
  exact key a 0
theorem tok_more {syms : List Str} {more : Str} (r : Str) (h : r.take more.length ≠ more) : tokT (more :: syms) r = tokT syms r := by
  cases r with
  | nil => rfl
  | cons c t =>
    rw [tokT, tokT]
    have hw : wordT (more :: syms) (c :: t) = wordT syms (c :: t) := by
      unfold wordT
      rw [List.contains_cons]
      have : ((c :: t).take (nameT (c :: t)) == more) = false := by
        rw [beq_eq_false_iff_ne]
        intro e
        refine h ?_
        have := congrArg List.length e
        rw [take_len (nameT_le _)] at this
        rw [← this]; exact e
      rw [this, Bool.false_or]
    have hs : symT (more :: syms) (c :: t) = symT syms (c :: t) := by
      unfold symT
      rw [longF_more h]
    rw [hw, hs]
theorem scan_more {syms : List Str} {more : Str} (hm : symB more = true) (s : Str) (h : ∀ k, k < s.length → (s.drop k).take more.length ≠ more) : scanT (more :: syms) s = scanT syms s := by
  unfold scanT
  rw [List.all_cons, hm, Bool.true_and, headT_congr s (fun k hk => tok_more _ (h k hk))]
theorem contains_tot (s p : Str) (hs : s.length < sml) (hp : p.length < sml) (h0 : 1 ≤ p.length) : Tot (fun n => law24_contains n s p) (fun b => b = false → ∀ k, k < s.length → (s.drop k).take p.length ≠ p) := by
  refine Tot.fn (fun n => by simp only [law24_contains, law24_contains_e]; exact rfl) ?_
  simp only [sml] at hs hp
  have key : ∀ d k : Nat, k + d = s.length → (∀ j, j < k → (s.drop j).take p.length ≠ p) → Tot2 (fun n m => law24_contains_l1 n m s p (k : Int)) (fun b => b = false → ∀ k, k < s.length → (s.drop k).take p.length ≠ p) := by
    intro d
    induction d with
    | zero =>
      intro k hk hj
      refine Tot2.lp (fun n m => by simp only [law24_contains_l1, law24_contains_b1]; exact rfl) ?_
      rw [wrap_small (by omega) (by omega)]
      have : decide ((k : Int) + (p.length : Int) ≤ (s.length : Int)) = false := decide_eq_false (by omega)
      simp only [this, cond_false]
      exact Tot2.pure (fun _ j hjk => hj j (by omega))
    | succ d ih =>
      intro k hk hj
      refine Tot2.lp (fun n m => by simp only [law24_contains_l1, law24_contains_b1]; exact rfl) ?_
      rw [wrap_small (by omega) (by omega), wrap_next (by omega), ← Int.natCast_add]
      by_cases hle : k + p.length ≤ s.length
      · have e1 : decide (((k + p.length : Nat) : Int) ≤ (s.length : Int)) = true := decide_eq_true (by omega)
        have e2 : decide ((0 : Int) ≤ (k : Int) ∧ (k : Int) ≤ ((k + p.length : Nat) : Int) ∧ ((k + p.length : Nat) : Int) ≤ (s.length : Int)) = true := decide_eq_true (by omega)
        simp only [e1, e2, cond_true, Int.toNat_natCast]
        rw [drop_take_name]
        cases he : (s.drop k).take p.length == p with
        | true => simp only [cond_true]; exact Tot2.pure (fun h => by cases h)
        | false =>
          simp only [cond_false]
          refine ih (k + 1) (by omega) (fun j hjk => ?_)
          rcases Nat.lt_or_ge j k with hh | hh
          · exact hj j hh
          · obtain rfl : j = k := by omega
            rwa [beq_eq_false_iff_ne] at he
      · have e1 : decide (((k + p.length : Nat) : Int) ≤ (s.length : Int)) = false := decide_eq_false (by omega)
        simp only [e1, cond_false]
        refine Tot2.pure (fun _ j hjl e => ?_)
        rcases Nat.lt_or_ge j k with hh | hh
        · exact hj j hh e
        · have := take_beq_len e
          rw [List.length_drop] at this
          omega
  exact Tot.of2 (F := fun n m => law24_contains_l1 n m s p 0) (key s.length 0 (by omega) (fun j h => absurd h (Nat.not_lt_zero _)))
theorem law24_LexerOthers_plain (x0 : Str) (x1 : List Str) (x2 : Str) (h : (x0.length + 1) + (sumB (fun m : Str => m.length + 1) x1 + (x2.length + 1)) ≤ 1048576) (_ : True) (_ : ∀ y ∈ x1, True) (_ : True) : ∃ n, law24_LexerOthers n x0 x1 x2 = some true := by
  refine plain_of_ev ?_
  have hl := sumB_len (fun m : Str => m.length + 1) (fun x => Nat.le_add_left 1 _) x1
  refine Ev.fn (fun n => by simp only [law24_LexerOthers, law24_LexerOthers_e]; exact rfl) ?_
  by_cases h1 : (1000 : Int) < (x0.length : Int)
  · rw [decide_eq_true h1]
    exact awakeB_ev
  · rw [decide_eq_false h1]
    simp only [cond_false]
    obtain ⟨b, hb, hev⟩ := few_tot x1 (by simp only [sml]; omega)
    refine Ev.bind hev ?_
    cases b with
    | false => exact awakeB_ev
    | true =>
      obtain ⟨hb1, hb2⟩ := hb rfl
      have hs : x0.length < sml := by simp only [sml]; omega
      have hl' : x1.length < 1000 := by omega
      have hy : ∀ y ∈ x1, y.length < sml := fun y hy => by have := hb2 y hy; simp only [sml]; omega
      simp only [cond_true]
      refine Ev.bind (Symbol_ev x2 (by simp only [sml]; omega)) ?_
      cases hsy : symB x2 with
      | false => exact awakeB_ev
      | true =>
        simp only [cond_true]
        by_cases h2 : (60 : Int) < (x2.length : Int)
        · rw [decide_eq_true h2]
          exact awakeB_ev
        · rw [decide_eq_false h2]
          simp only [cond_false]
          have h20 : 1 ≤ x2.length := by
            cases x2 with
            | nil => cases hsy
            | cons => simp
          obtain ⟨b, hb, hev⟩ := contains_tot x0 x2 hs (by simp only [sml]; omega) h20
          refine Ev.bind hev ?_
          cases b with
          | true => exact awakeB_ev
          | false =>
            simp only [cond_false]
            have heq := scan_more (syms := x1) hsy x0 (hb rfl)
            have hlen := scanT_len x1 x0
            have hsc : Ev (fun n => lexer_Scan n x0 (x2 :: x1)) (scanT x1 x0) := by
              rw [← heq]
              refine Scan_ev x0 hs (x2 :: x1) (by simp only [List.length_cons]; omega) (fun y hyy => ?_)
              rcases List.mem_cons.1 hyy with rfl | h
              · simp only [sml]; omega
              · exact hy y h
            have fin : Ev (fun n => (lexer_Scan n x0 (x2 :: x1)).bind fun x_1 => (law24_awake n).bind fun x_2 => bif x_2 then bif (scanT x1 x0).snd.snd == x_1.snd.snd then bif (scanT x1 x0).snd.fst == x_1.snd.fst then (ref24_Same n (scanT x1 x0).fst x_1.fst false).bind fun x => some x else some false else some false else some false) true := by
              refine Ev.bind hsc (Ev.bind awake_ev ?_)
              simp only [cond_true, beq_self_eq_true]
              exact Ev.bind (Same_ev _ _ false (by simp only [sml]; omega) rfl (fun _ => rfl)) Ev.pure
            refine Ev.bind (Scan_ev x0 hs x1 hl' hy) ?_
            by_cases hx : 0 < x1.length
            · have e1 : decide (0 < x1.length) = true := decide_eq_true hx
              have e2 : decide ((1 + x1.length) * 16 ≤ 17592186044416) = true := decide_eq_true (by omega)
              simp only [e1, e2, cond_true]
              exact fin
            · have e1 : decide (0 < x1.length) = false := decide_eq_false hx
              simp only [e1, cond_false]
              obtain rfl : x1 = [] := List.length_eq_zero_iff.1 (by omega)
              exact fin
theorem sep_ten {syms : List Str} (h : ∀ y ∈ syms, y = y) (hs : syms = []) : sepB syms 10 := by
  subst hs
  refine ⟨rfl, rfl, ?_⟩
  rw [List.append_nil]
  decide
theorem tok_err_lt {syms : List Str} {c : UInt8} {t : Str} (h : ((tokT syms (c :: t)).2.2 == 0) = false) : (tokT syms (c :: t)).2.1 < (c :: t).length := by
  have hpos : 0 < (c :: t).length := by simp
  rw [tokT] at h ⊢
  cases hb : begB c with
  | true =>
    rw [hb] at h
    simp only [cond_true] at h ⊢
    revert h
    unfold wordT
    cases decide (64 < nameT (c :: t)) <;> cases (c :: t).take (nameT (c :: t)) == [95] <;> cases syms.contains ((c :: t).take (nameT (c :: t))) <;> cases kws.contains ((c :: t).take (nameT (c :: t))) <;> intro h <;> first | exact hpos | cases h
  | false =>
    rw [hb] at h
    simp only [cond_false] at h ⊢
    cases hd : digB c with
    | true =>
      rw [hd] at h
      simp only [cond_true] at h ⊢
      revert h
      unfold numT
      generalize hq : runT digB (c :: t) = q
      have hr := runT_le digB (c :: t)
      cases decide (6 < q) with
      | true => intro _; exact hpos
      | false =>
        simp only [cond_false]
        cases decide (1 < q) && (c :: t).head? == some 48 with
        | true => intro _; exact hpos
        | false =>
          simp only [cond_false]
          have hl : ((c :: t).drop q).length = (c :: t).length - q := List.length_drop ..
          generalize (c :: t).drop q = u at *
          cases u with
          | nil => intro h; cases h
          | cons d u =>
            simp only [List.length_cons] at hl hr ⊢
            cases hdd : begB d || d == 39 with
            | true => intro _; simp only [hdd, cond_true]; omega
            | false => intro h; simp only [hdd, cond_false] at h; cases h
    | false =>
      rw [hd] at h
      simp only [cond_false] at h ⊢
      cases hq : c == 34 with
      | true =>
        rw [hq] at h
        simp only [cond_true] at h ⊢
        revert h
        unfold quotT
        cases ((c :: t).drop 1).drop (runT qb ((c :: t).drop 1)) with
        | nil => intro _; exact hpos
        | cons d u =>
          simp only
          cases d == 34 with
          | true => intro h; cases h
          | false => intro _; exact hpos
      | false =>
        rw [hq] at h
        simp only [cond_false] at h ⊢
        revert h
        unfold symT
        generalize longF (c :: t) 0 (fixS ++ syms) = v
        cases v == 0 with
        | true => intro _; exact hpos
        | false => intro h; cases h
theorem stop_append {r : Str} {w : UInt8} {x : Str} (h : stopB r = true) (hr : r ≠ []) (hw : (w == 45) = false) : stopB (r ++ w :: x) = true := by
  match r, hr with
  | [c], _ =>
    simp only [stopB, List.head?_nil] at h
    simp only [List.cons_append, List.nil_append, stopB, List.head?_cons]
    have : (some w == some (45 : UInt8)) = (w == 45) := rfl
    rw [this, hw, Bool.and_false, Bool.not_false, Bool.and_true]
    rw [Bool.and_eq_true] at h
    exact h.1
  | c :: d :: t, _ => exact h
theorem head_prefix {syms : List Str} (hw : sepB syms 10) (x : Str) : ∀ (r : Str) (a : Nat), ((headT (tokT syms) r a).2.2 == 0) = false → stopB r = true → headT (tokT syms) (r ++ 10 :: x) a = headT (tokT syms) r a ∧ (a : Int) ≤ (headT (tokT syms) r a).2.1 ∧ (headT (tokT syms) r a).2.1 < ((a + r.length : Nat) : Int) := by
  intro r
  induction h : r.length using Nat.strongRecOn generalizing r with
  | ind d ih =>
    intro a he hst
    match r, h with
    | [], h => rw [headT] at he; cases he
    | c :: t, h =>
      have hloc : tokT syms (c :: (t ++ 10 :: x)) = tokT syms (c :: t) := by
        have := tok_loc hw x c t (c :: t).length (by simp) (Nat.le_refl _) (.inr ⟨rfl, rfl⟩)
        rwa [List.take_length, List.cons_append] at this
      rw [headT] at he ⊢
      rw [List.cons_append, headT, hloc]
      cases h0 : (tokT syms (c :: t)).2.2 == 0 with
      | false =>
        have := tok_err_lt h0
        simp only [cond_false]
        exact ⟨trivial, by omega, by rw [h] at this; omega⟩
      | true =>
        rw [h0] at he
        simp only [cond_true] at he ⊢
        have hp := tok_pos (eq_of_beq h0)
        generalize hn : (tokT syms (c :: t)).2.1 = n at *
        have hdrop : t.drop (n - 1) = (c :: t).drop n := by
          obtain ⟨j, rfl⟩ : ∃ j, n = j + 1 := ⟨n - 1, by omega⟩
          rfl
        have hdrop2 : (t ++ 10 :: x).drop (n - 1) = t.drop (n - 1) ++ 10 :: x := List.drop_append_of_le_length (by rw [List.length_cons] at hp; omega)
        rw [hdrop2]
        generalize hr2 : t.drop (n - 1) = r2 at *
        have hl2 : r2.length = t.length - (n - 1) := by rw [← hr2, List.length_drop]
        obtain ⟨f, s1, s2, s3⟩ := skip_parts false r2
        have hsk := skipG_le false r2
        have hne : r2.drop (skipG false r2) ≠ [] := by
          intro e
          rw [e, headT] at he
          cases he
        have hf : f = false := by
          cases f with
          | false => rfl
          | true => exact absurd (s2 rfl) hne
        subst hf
        have hstop := stop_append (w := 10) (x := x) s3 hne rfl
        have hsk2 : skipG false (r2 ++ 10 :: x) = skipG false r2 := by
          have e : r2 ++ 10 :: x = r2.take (skipG false r2) ++ (r2.drop (skipG false r2) ++ 10 :: x) := by rw [← List.append_assoc, List.take_append_drop]
          have := skip_add false (r2.take (skipG false r2)) (r2.drop (skipG false r2) ++ 10 :: x) false s1
          rw [← e, stop_skip hstop, take_len hsk] at this
          omega
        rw [hsk2, List.drop_append_of_le_length hsk]
        rw [List.length_cons] at h hp
        have hz : ((headT (tokT syms) (r2.drop (skipG false r2)) (a + n + skipG false r2)).2.2 == 0) = false := by
          revert he
          generalize headT (tokT syms) (r2.drop (skipG false r2)) (a + n + skipG false r2) = z
          cases hz : z.2.2 == 0 with
          | true => intro he; cases he
          | false => intro _; rfl
        obtain ⟨i1, i2, i3⟩ := ih (r2.drop (skipG false r2)).length (by rw [List.length_drop]; omega) _ rfl (a + n + skipG false r2) hz s3
        rw [i1]
        generalize headT (tokT syms) (r2.drop (skipG false r2)) (a + n + skipG false r2) = z at *
        rw [hz]
        rw [List.length_drop] at i3
        simp only [cond_false]
        exact ⟨trivial, by omega, by omega⟩
theorem law24_LexerPrefixes_plain (x0 x1 : Str) (h : (x0.length + 1) + (x1.length + 1) ≤ 1048576) (_ : True) (_ : True) : ∃ n, law24_LexerPrefixes n x0 x1 = some true := by
  refine plain_of_ev ?_
  refine Ev.fn (fun n => by simp only [law24_LexerPrefixes, law24_LexerPrefixes_e]; exact rfl) ?_
  by_cases h1 : (1000 : Int) < (x0.length : Int)
  · rw [decide_eq_true h1]
    exact awakeB_ev
  · rw [decide_eq_false h1]
    simp only [cond_false]
    by_cases h2 : (300 : Int) < (x1.length : Int)
    · rw [decide_eq_true h2]
      exact awakeB_ev
    · rw [decide_eq_false h2]
      simp only [cond_false]
      refine Ev.bind (Scan_ev x0 (by simp only [sml]; omega) [] (by decide) (fun y hy => by cases hy)) ?_
      cases h0 : (scanT [] x0).2.2 == 0 with
      | true => exact awakeB_ev
      | false =>
        simp only [cond_false]
        have e1 : decide (List.length x0 ≤ 9223372036854775806) = true := decide_eq_true (by omega)
        have e2 : decide (List.length x0 + 1 + List.length x1 ≤ 9223372036854775807) = true := decide_eq_true (by omega)
        simp only [e1, e2, cond_true]
        refine Ev.bind (Scan_ev _ (by simp only [List.length_append, List.length_cons, List.length_nil, sml]; omega) [] (by decide) (fun y hy => by cases hy)) (Ev.bind awake_ev ?_)
        have hsc : ∀ s : Str, s.length ≤ 65536 → scanT [] s = headT (tokT []) (s.drop (skipG false s)) (skipG false s) := by
          intro s hs
          unfold scanT
          rw [decide_eq_false (by omega)]
          rfl
        have hs0 := hsc x0 (by omega)
        rw [hs0] at h0
        obtain ⟨f, s1, s2, s3⟩ := skip_parts false x0
        have hne : x0.drop (skipG false x0) ≠ [] := by
          intro e
          rw [e, headT] at h0
          cases h0
        have hf : f = false := by
          cases f with
          | false => rfl
          | true => exact absurd (s2 rfl) hne
        subst hf
        have hsk := skipG_le false x0
        have hsk2 : skipG false (x0 ++ 10 :: x1) = skipG false x0 := by
          have e : x0 ++ 10 :: x1 = x0.take (skipG false x0) ++ (x0.drop (skipG false x0) ++ 10 :: x1) := by rw [← List.append_assoc, List.take_append_drop]
          have := skip_add false (x0.take (skipG false x0)) (x0.drop (skipG false x0) ++ 10 :: x1) false s1
          rw [← e, stop_skip (stop_append (w := 10) (x := x1) s3 hne rfl), take_len hsk] at this
          omega
        obtain ⟨i1, i2, i3⟩ := head_prefix (syms := []) (sep_ten (fun y hy => by cases hy) rfl) x1 _ _ h0 s3
        have heq : scanT [] (x0 ++ [10] ++ x1) = scanT [] x0 := by
          rw [List.append_assoc, List.singleton_append, hsc _ (by simp only [List.length_append, List.length_cons]; omega), hsk2, List.drop_append_of_le_length hsk, i1, ← hs0]
        rw [heq]
        rw [← hs0] at i2 i3
        rw [List.length_drop] at i3
        simp only [cond_true, beq_self_eq_true]
        have e3 : decide ((0 : Int) ≤ (scanT [] x0).2.1) = true := decide_eq_true (by omega)
        have e4 : decide ((scanT [] x0).2.1 < (x0.length : Int)) = true := decide_eq_true (by omega)
        simp only [e3, e4, cond_true]
        exact Ev.pure
end Go.Abs
namespace Go.Abs
set_option linter.unusedVariables false
set_option linter.unusedSimpArgs false
theorem white_facts (w : UInt8) (h : whB w = true) : inwB w = false ∧ signB w = false ∧ (w == 46) = false ∧ (w == 45) = false := by
  have := u8_all (p := fun w => !whB w || (!inwB w && (!signB w && (!(w == 46) && !(w == 45))))) (by kernel_rfl) w
  rw [h, Bool.not_true, Bool.false_or] at this
  simpa only [Bool.and_eq_true, Bool.not_eq_true'] using this
theorem sep_white {syms : List Str} (hs : syms.all symB = true) {w : UInt8} (h : whB w = true) : sepB syms w := by
  obtain ⟨h1, h2, h3, _⟩ := white_facts w h
  refine ⟨h1, h3, fun y hy hm => ?_⟩
  have hm' : w ∈ y := List.mem_of_mem_drop hm
  rcases List.mem_append.1 hy with hf | hf
  · have hall : ∀ y ∈ fixS, ∀ b ∈ y, whB b = false := by decide
    rw [hall y hf w hm'] at h
    cases h
  · have hsy := List.all_eq_true.1 hs y hf
    match y, hsy, hm' with
    | c :: t, hsy, hm' =>
      rw [symB] at hsy
      cases hb : begB c with
      | true =>
        rw [hb, cond_true, Bool.and_eq_true, List.all_eq_true] at hsy
        rw [hsy.1 w hm'] at h1
        cases h1
      | false =>
        rw [hb, cond_false, Bool.and_eq_true, List.all_eq_true] at hsy
        rw [hsy.1 w hm'] at h2
        cases h2
theorem stop_loc {r : Str} {m : Nat} {w : UInt8} {x : Str} (h : stopB r = true) (h1 : 1 ≤ m) (hr : r ≠ []) (hw : (w == 45) = false) : stopB (r.take m ++ w :: x) = true := by
  have hne : r.take m ≠ [] := by
    intro e
    have := congrArg List.length e
    rw [List.length_take, List.length_nil] at this
    have : 0 < r.length := List.length_pos_iff.2 hr
    omega
  refine stop_append ?_ hne hw
  match r, hr with
  | c :: t, _ =>
    rw [take_cons h1]
    simp only [stopB, Bool.and_eq_true, Bool.not_eq_true'] at h ⊢
    refine ⟨h.1, ?_⟩
    rcases Nat.eq_zero_or_pos (m - 1) with h0 | h0
    · rw [h0, List.take_zero, List.head?_nil]; simp
    · cases t with
      | nil => rw [List.take_nil]; exact h.2
      | cons d t => rw [take_cons h0]; exact h.2
theorem head_split {syms : List Str} {c : UInt8} {t : Str} {a : Nat} (h : (headT (tokT syms) (c :: t) a).2.2 = 0) :
    ∃ n sk f, (tokT syms (c :: t)).2.2 = 0 ∧ n = (tokT syms (c :: t)).2.1 ∧ 1 ≤ n ∧ n ≤ (c :: t).length ∧ sk = skipG false ((c :: t).drop n) ∧ skipS false (((c :: t).drop n).take sk) = some f ∧ (f = true → (c :: t).drop (n + sk) = []) ∧ stopB ((c :: t).drop (n + sk)) = true ∧ n + sk ≤ (c :: t).length ∧
      (headT (tokT syms) ((c :: t).drop (n + sk)) (a + n + sk)).2.2 = 0 ∧ (headT (tokT syms) (c :: t) a).1 = ⟨(tokT syms (c :: t)).1, (c :: t).take n, (a : Int)⟩ :: (headT (tokT syms) ((c :: t).drop (n + sk)) (a + n + sk)).1 := by
  rw [headT] at h ⊢
  cases h0 : (tokT syms (c :: t)).2.2 == 0 with
  | false =>
    rw [h0] at h
    simp only [cond_false] at h
    rw [h] at h0
    cases h0
  | true =>
    rw [h0] at h
    simp only [cond_true] at h ⊢
    have hp := tok_pos (eq_of_beq h0)
    have hdrop : t.drop ((tokT syms (c :: t)).2.1 - 1) = (c :: t).drop (tokT syms (c :: t)).2.1 := by
      obtain ⟨j, hj⟩ : ∃ j, (tokT syms (c :: t)).2.1 = j + 1 := ⟨(tokT syms (c :: t)).2.1 - 1, by omega⟩
      rw [hj]; rfl
    rw [hdrop] at h ⊢
    have hdd : ∀ q, ((c :: t).drop (tokT syms (c :: t)).2.1).drop q = (c :: t).drop ((tokT syms (c :: t)).2.1 + q) := fun q => List.drop_drop ..
    obtain ⟨f, s1, s2, s3⟩ := skip_parts false ((c :: t).drop (tokT syms (c :: t)).2.1)
    have hsk := skipG_le false ((c :: t).drop (tokT syms (c :: t)).2.1)
    rw [List.length_drop] at hsk
    rw [hdd] at s2 s3
    rw [hdd] at h ⊢
    refine ⟨_, _, f, eq_of_beq h0, rfl, hp.1, hp.2, rfl, s1, s2, s3, by omega, ?_⟩
    revert h
    generalize headT (tokT syms) _ _ = z
    cases hz : z.2.2 == 0 with
    | false => intro h; simp only [cond_false] at h; rw [h] at hz; cases hz
    | true => intro _; exact ⟨eq_of_beq hz, rfl⟩
theorem head_ne {syms : List Str} : ∀ {r : Str} {a : Nat}, (headT (tokT syms) r a).2.2 = 0 → (headT (tokT syms) r a).1 ≠ []
  | [], a, _ => by rw [headT]; simp
  | c :: t, a, h => by
    obtain ⟨n, sk, f, _, _, _, _, _, _, _, _, _, _, e⟩ := head_split h
    rw [e]; simp
def tailJ (l : List Token) : Str := l.flatMap fun t => 32 :: t.text
def joinJ : List Token → Str
  | [] => []
  | t :: r => t.text ++ tailJ r
theorem tailJ_ne {l : List Token} (h : l ≠ []) : tailJ l = 32 :: joinJ l := by
  match l, h with
  | t :: r, _ => rfl
theorem joinJ_eq {l : List Token} (h : 0 < l.length) : joinJ l = l[0].text ++ tailJ (l.drop 1) := by
  match l, h with
  | t :: r, _ => rfl
theorem head_back {syms : List Str} (hs : syms.all symB = true) : ∀ (r : Str) (a : Nat), (headT (tokT syms) r a).2.2 = 0 → stopB r = true →
    (∀ b, (headT (tokT syms) (joinJ (headT (tokT syms) r a).1) b).2.2 = 0 ∧ (headT (tokT syms) (joinJ (headT (tokT syms) r a).1) b).1.map looseT = (headT (tokT syms) r a).1.map looseT) ∧
    stopB (joinJ (headT (tokT syms) r a).1) = true ∧ (joinJ (headT (tokT syms) r a).1).length ≤ 2 * r.length := by
  intro r
  induction h : r.length using Nat.strongRecOn generalizing r with
  | ind d ih =>
    intro a he hst
    match r, h with
    | [], h => rw [headT]; exact ⟨fun b => by show (headT (tokT syms) [] b).2.2 = 0 ∧ _; rw [headT]; exact ⟨rfl, by show (headT (tokT syms) [] b).1.map looseT = _; rw [headT]; rfl⟩, rfl, Nat.zero_le _⟩
    | c :: t, h =>
      obtain ⟨n, sk, f, h0, hn, hn1, hnl, hsk, s1, s2, s3, hle, hz, heq⟩ := head_split he
      obtain ⟨i1, i2, i3⟩ := ih ((c :: t).drop (n + sk)).length (by rw [List.length_drop]; omega) _ rfl (a + n + sk) hz s3
      have hne := head_ne hz
      rw [heq]
      generalize hZ : headT (tokT syms) ((c :: t).drop (n + sk)) (a + n + sk) = z at *
      rw [joinJ, tailJ_ne hne]
      have hloc : tokT syms ((c :: t).take n ++ 32 :: joinJ z.1) = tokT syms (c :: t) := tok_loc (sep_white hs rfl) _ c t n hn1 hnl (.inl ⟨h0, by omega⟩)
      refine ⟨fun b => ?_, stop_loc hst hn1 (by simp) rfl, ?_⟩
      · have hcons : (c :: t).take n ++ 32 :: joinJ z.1 = c :: (t.take (n - 1) ++ 32 :: joinJ z.1) := by rw [take_cons hn1, List.cons_append]
        have hdr : (t.take (n - 1) ++ 32 :: joinJ z.1).drop (n - 1) = 32 :: joinJ z.1 := by
          have : (t.take (n - 1)).length = n - 1 := take_len (by rw [List.length_cons] at hnl; omega)
          conv => lhs; rw [← this]
          rw [this, List.drop_append_of_le_length (by omega), List.drop_of_length_le (by omega), List.nil_append]
        have htk : (c :: (t.take (n - 1) ++ 32 :: joinJ z.1)).take n = (c :: t).take n := by
          rw [← hcons, take_loc (Nat.le_refl _) hnl]
        rw [hcons] at hloc ⊢
        have hsw : skipG false (32 :: joinJ z.1) = 1 := by rw [skip_white (x := 32) rfl, stop_skip i2]
        rw [headT, hloc, h0, ← hn, hdr]
        have hi := i1 (b + n + 1)
        simp only [beq_self_eq_true, cond_true, hsw, List.drop_succ_cons, List.drop_zero]
        generalize headT (tokT syms) (joinJ z.1) (b + n + 1) = z' at hi ⊢
        rw [hi.1]
        simp only [beq_self_eq_true, cond_true, List.map_cons]
        rw [hi.2, htk]
        exact ⟨trivial, rfl⟩
      · rw [List.length_append, take_len hnl, List.length_cons]
        rw [List.length_drop] at i3
        omega
theorem back_loop (syms : List Str) (l : List Token) (hl : l.length < sml) {res : Bool} : ∀ d k : Nat, k + d = l.length → 1 ≤ k → ∀ s : Str, s.length + (tailJ (l.drop k)).length < sml →
    Ev (fun n => (lexer_Scan n (s ++ tailJ (l.drop k)) syms).bind fun x => (law24_awake n).bind fun x_1 => bif x_1 then bif x.snd.snd == 0 then (ref24_Same n l x.fst true).bind fun b => some b else some false else some false) res →
    Ev2 (fun n m => law24_LexerBack_l1 n m syms l s (k : Int)) res := by
  intro d
  simp only [sml] at hl ⊢
  induction d with
  | zero =>
    intro k hk h1 s hs hres
    refine Ev2.lp (fun n m => by simp only [law24_LexerBack_l1, law24_LexerBack_b1]; exact rfl) ?_
    have : decide ((k : Int) < (l.length : Int)) = false := decide_eq_false (by omega)
    simp only [this, cond_false]
    rw [List.drop_eq_nil_of_le (show l.length ≤ k by omega)] at hres
    simp only [tailJ, List.flatMap_nil, List.append_nil] at hres
    exact Ev2.of1 hres
  | succ d ih =>
    intro k hk h1 s hs hres
    have hlt : k < l.length := by omega
    have htl : tailJ (l.drop k) = 32 :: l[k].text ++ tailJ (l.drop (k + 1)) := by rw [List.drop_eq_getElem_cons hlt]; rfl
    rw [htl] at hs hres
    rw [List.length_append, List.length_cons] at hs
    refine Ev2.lp (fun n m => by simp only [law24_LexerBack_l1, law24_LexerBack_b1]; exact rfl) ?_
    have e1 : decide ((k : Int) < (l.length : Int)) = true := decide_eq_true (by omega)
    have e2 : decide ((0 : Int) < (k : Int)) = true := decide_eq_true (by omega)
    have e3 : decide (s.length ≤ 9223372036854775806) = true := decide_eq_true (by omega)
    simp only [e1, e2, e3, cond_true]
    refine Ev2.idx hlt ?_
    have e4 : decide (s.length + 1 + l[k].text.length ≤ 9223372036854775807) = true := decide_eq_true (by omega)
    simp only [e4, cond_true]
    rw [wrap_next (by omega)]
    refine ih (k + 1) (by omega) (by omega) _ (by simp only [List.length_append, List.length_cons, List.length_nil]; omega) ?_
    have : s ++ [32] ++ l[k].text ++ tailJ (l.drop (k + 1)) = s ++ (32 :: l[k].text ++ tailJ (l.drop (k + 1))) := by simp
    rw [this]
    exact hres
theorem law24_LexerBack_plain (x0 : Str) (x1 : List Str) (h : (x0.length + 1) + sumB (fun m : Str => m.length + 1) x1 ≤ 1048576) (_ : True) (_ : ∀ y ∈ x1, True) : ∃ n, law24_LexerBack n x0 x1 = some true := by
  refine plain_of_ev ?_
  have hl := sumB_len (fun m : Str => m.length + 1) (fun x => Nat.le_add_left 1 _) x1
  refine Ev.fn (fun n => by simp only [law24_LexerBack, law24_LexerBack_e]; exact rfl) ?_
  by_cases h1 : (1000 : Int) < (x0.length : Int)
  · rw [decide_eq_true h1]
    exact awakeB_ev
  · rw [decide_eq_false h1]
    simp only [cond_false]
    obtain ⟨b, hb, hev⟩ := few_tot x1 (by simp only [sml]; omega)
    refine Ev.bind hev ?_
    cases b with
    | false => exact awakeB_ev
    | true =>
      obtain ⟨hb1, hb2⟩ := hb rfl
      have hl' : x1.length < 1000 := by omega
      have hy : ∀ y ∈ x1, y.length < sml := fun y hy => by have := hb2 y hy; simp only [sml]; omega
      simp only [cond_true]
      refine Ev.bind (Scan_ev x0 (by simp only [sml]; omega) x1 hl' hy) ?_
      cases h0 : (scanT x1 x0).2.2 == 0 with
      | false =>
        have : ((scanT x1 x0).2.2 != 0) = true := by rw [bne, h0]; rfl
        rw [this]
        exact awakeB_ev
      | true =>
        have : ((scanT x1 x0).2.2 != 0) = false := by rw [bne, h0]; rfl
        rw [this]
        simp only [cond_false]
        -- the symbols are symbols
        have hsy : x1.all symB = true := by
          cases hsy : x1.all symB with
          | true => rfl
          | false => unfold scanT at h0; rw [hsy] at h0; cases h0
        have hsc : ∀ s : Str, s.length ≤ 65536 → scanT x1 s = headT (tokT x1) (s.drop (skipG false s)) (skipG false s) := by
          intro s hs
          unfold scanT
          rw [hsy, decide_eq_false (by omega)]
          rfl
        rw [hsc x0 (by omega)] at h0 ⊢
        obtain ⟨f, s1, s2, s3⟩ := skip_parts false x0
        have hlen := headT_len (tokT x1) (x0.drop (skipG false x0)) (skipG false x0)
        rw [List.length_drop] at hlen
        obtain ⟨b1, b2, b3⟩ := head_back hsy _ _ (eq_of_beq h0) s3
        rw [List.length_drop] at b3
        have hne := head_ne (eq_of_beq h0)
        generalize headT (tokT x1) (x0.drop (skipG false x0)) (skipG false x0) = Z at *
        have hl0 : 0 < Z.1.length := List.length_pos_iff.2 hne
        refine Ev.of2 (F := fun n m => law24_LexerBack_l1 n m x1 Z.1 [] 0) ?_
        have hJ : joinJ Z.1 = Z.1[0].text ++ tailJ (Z.1.drop 1) := joinJ_eq hl0
        refine Ev2.lp (fun n m => by simp only [law24_LexerBack_l1, law24_LexerBack_b1]; exact rfl) ?_
        have e1 : decide ((0 : Int) < (Z.1.length : Int)) = true := decide_eq_true (by omega)
        have e2 : decide ((0 : Int) < (0 : Int)) = false := rfl
        simp only [e1, e2, cond_true, cond_false]
        refine Ev2.idx (i := 0) hl0 ?_
        rw [hJ, List.length_append] at b3
        have e4 : decide (List.length ([] : Str) + Z.1[0].text.length ≤ 9223372036854775807) = true := decide_eq_true (by rw [List.length_nil]; omega)
        simp only [e4, cond_true, List.nil_append]
        have hw : IntKind.i64.wrap (0 + 1) = ((1 : Nat) : Int) := by rw [wrap_small (by omega) (by omega)]; rfl
        rw [hw]
        refine back_loop x1 Z.1 (by simp only [sml]; omega) (Z.1.length - 1) 1 (by omega) (Nat.le_refl _) _ (by simp only [sml]; omega) ?_
        rw [← hJ]
        have hJl : (joinJ Z.1).length ≤ 2000 := by rw [hJ, List.length_append]; omega
        refine Ev.bind (Scan_ev _ (by simp only [sml]; omega) x1 hl' hy) (Ev.bind awake_ev ?_)
        rw [hsc _ (by omega), stop_skip b2, List.drop_zero]
        have := b1 0
        simp only [this.1, beq_self_eq_true, cond_true]
        exact Ev.bind (Same_ev _ _ true (by simp only [sml]; omega) this.2.symm (fun h => by cases h)) Ev.pure
end Go.Abs
namespace Go.Abs
set_option linter.unusedVariables false
set_option linter.unusedSimpArgs false
theorem head_ge {syms : List Str} : ∀ {r : Str} {a : Nat}, (headT (tokT syms) r a).2.2 = 0 → ∀ t ∈ (headT (tokT syms) r a).1, (a : Int) ≤ t.at_ := by
  intro r
  induction h : r.length using Nat.strongRecOn generalizing r with
  | ind d ih =>
    intro a he tok ht
    match r, h with
    | [], h =>
      rw [headT] at ht
      obtain rfl := List.mem_singleton.1 ht
      exact Int.le_refl _
    | c :: t, h =>
      obtain ⟨n, sk, f, h0, hn, hn1, hnl, hsk, s1, s2, s3, hle, hz, heq⟩ := head_split he
      rw [heq] at ht
      rcases List.mem_cons.1 ht with rfl | h'
      · exact Int.le_refl _
      · have := ih ((c :: t).drop (n + sk)).length (by rw [List.length_drop]; omega) rfl hz tok h'
        omega
theorem head_ins {syms : List Str} {w : UInt8} {y : Str} (hw : sepB syms w) (hsp : skipS false (w :: y) = some false) (hsp' : ∃ f, skipS true (w :: y) = some f)
    (h45 : (w == 45) = false ∨ ∀ r : Str, r.head? = some 45 → (tokT syms r).2.2 = 0 → 2 ≤ (tokT syms r).2.1) :
    ∀ (r : Str) (a m : Nat), (headT (tokT syms) r a).2.2 = 0 → stopB r = true → (∃ t ∈ (headT (tokT syms) r a).1, t.at_ = ((a + m : Nat) : Int)) →
      m ≤ r.length ∧ ∀ b, (headT (tokT syms) ((r.take m ++ (w :: y ++ r.drop m)).drop (skipG false (r.take m ++ (w :: y ++ r.drop m)))) b).2.2 = 0 ∧ (headT (tokT syms) ((r.take m ++ (w :: y ++ r.drop m)).drop (skipG false (r.take m ++ (w :: y ++ r.drop m)))) b).1.map looseT = (headT (tokT syms) r a).1.map looseT := by
  intro r
  induction h : r.length using Nat.strongRecOn generalizing r with
  | ind d ih =>
    intro a m he hst hm
    rcases Nat.eq_zero_or_pos m with h0 | hpos
    · subst h0
      refine ⟨Nat.zero_le _, fun b => ?_⟩
      rw [List.take_zero, List.nil_append, List.drop_zero, skip_add false (w :: y) r false hsp, stop_skip hst, Nat.add_zero, List.drop_append_of_le_length (Nat.le_refl _), List.drop_length, List.nil_append]
      have := headT_shift (tokT syms) r b a
      exact ⟨by rw [this.2]; exact he, this.1⟩
    · match r, h with
      | [], h =>
        rw [headT] at hm
        obtain ⟨t, ht, ha⟩ := hm
        obtain rfl := List.mem_singleton.1 ht
        simp only at ha
        omega
      | c :: t, h =>
        obtain ⟨n, sk, f, h0, hn, hn1, hnl, hsk, s1, s2, s3, hle, hz, heq⟩ := head_split he
        rw [heq] at hm ⊢
        obtain ⟨tok, ht, ha⟩ := hm
        have ht' : tok ∈ (headT (tokT syms) ((c :: t).drop (n + sk)) (a + n + sk)).1 := by
          rcases List.mem_cons.1 ht with rfl | h'
          · simp only at ha; omega
          · exact h'
        -- later tokens stand behind
        have hge : ((a + n + sk : Nat) : Int) ≤ tok.at_ := head_ge hz tok ht'
        have hmm : n + sk ≤ m := by omega
        obtain ⟨i1, i2⟩ := ih ((c :: t).drop (n + sk)).length (by rw [List.length_drop]; omega) _ rfl (a + n + sk) (m - (n + sk)) hz s3 ⟨tok, ht', by rw [ha]; omega⟩
        rw [List.length_drop] at i1
        have hml : m ≤ (c :: t).length := by omega
        refine ⟨by omega, fun b => ?_⟩
        have hloc : tokT syms ((c :: t).take m ++ w :: (y ++ (c :: t).drop m)) = tokT syms (c :: t) := tok_loc hw _ c t m hpos hml (.inl ⟨h0, by omega⟩)
        have hstop : stopB ((c :: t).take m ++ w :: (y ++ (c :: t).drop m)) = true := by
          rcases h45 with h45 | h45
          · exact stop_loc hst hpos (by simp) h45
          · cases hc : c == 45 with
            | false =>
              rw [take_cons hpos, List.cons_append]
              simp only [stopB, Bool.and_eq_true, Bool.not_eq_true'] at hst ⊢
              exact ⟨hst.1, by rw [hc]; rfl⟩
            | true =>
              have h2 := h45 (c :: t) (by rw [eq_of_beq hc]; rfl) h0
              rw [take_cons hpos, List.cons_append]
              cases t with
              | nil => simp only [List.length_cons, List.length_nil] at hml; omega
              | cons e t =>
                rw [take_cons (by omega), List.cons_append]
                exact hst
        have hcons : (c :: t).take m ++ (w :: y ++ (c :: t).drop m) = c :: (t.take (m - 1) ++ w :: (y ++ (c :: t).drop m)) := by rw [take_cons hpos]; rfl
        have hcons' : (c :: t).take m ++ w :: (y ++ (c :: t).drop m) = c :: (t.take (m - 1) ++ w :: (y ++ (c :: t).drop m)) := by rw [take_cons hpos]; rfl
        rw [hcons'] at hloc hstop
        have htk : (c :: (t.take (m - 1) ++ w :: (y ++ (c :: t).drop m))).take n = (c :: t).take n := by
          rw [← hcons', take_loc (by omega) hml]
        -- what stands behind the token
        have hdr : (t.take (m - 1) ++ w :: (y ++ (c :: t).drop m)).drop (n - 1) = ((c :: t).drop n).take sk ++ (((c :: t).drop (n + sk)).take (m - (n + sk)) ++ (w :: y ++ (c :: t).drop m)) := by
          have e1 : (t.take (m - 1) ++ w :: (y ++ (c :: t).drop m)).drop (n - 1) = (c :: (t.take (m - 1) ++ w :: (y ++ (c :: t).drop m))).drop n := by
            obtain ⟨j, rfl⟩ : ∃ j, n = j + 1 := ⟨n - 1, by omega⟩
            rfl
          rw [e1, ← hcons', drop_loc (by omega) hml, ← List.append_assoc]
          congr 1
          have e2 : (c :: t).drop (n + sk) = ((c :: t).drop n).drop sk := by rw [List.drop_drop]
          rw [e2, ← List.take_add, show sk + (m - (n + sk)) = m - n from by omega]
        have hdm : (c :: t).drop m = ((c :: t).drop (n + sk)).drop (m - (n + sk)) := by rw [List.drop_drop]; congr 1; omega
        rw [hcons, stop_skip hstop, List.drop_zero, headT, hloc, h0, ← hn, hdr]
        have hul : (((c :: t).drop n).take sk).length = sk := take_len (by rw [List.length_drop]; omega)
        have hska : ∀ v : Str, skipG false (((c :: t).drop n).take sk ++ v) = sk + skipG f v := fun v => by rw [skip_add false _ _ f s1, hul]
        have hdrop : ∀ q (v : Str), (((c :: t).drop n).take sk ++ v).drop (sk + q) = v.drop q := by
          intro q v
          rw [← List.drop_drop]
          congr 1
          rw [List.drop_append_of_le_length (by omega), List.drop_of_length_le (by omega), List.nil_append]
        simp only [beq_self_eq_true, cond_true, hska, hdrop, htk]
        cases f with
        | false =>
          rw [hdm]
          have := i2 (b + n + (sk + skipG false (((c :: t).drop (n + sk)).take (m - (n + sk)) ++ (w :: y ++ ((c :: t).drop (n + sk)).drop (m - (n + sk))))))
          generalize headT (tokT syms) _ (b + n + (sk + _)) = z' at this ⊢
          rw [this.1]
          simp only [beq_self_eq_true, cond_true, List.map_cons]
          rw [this.2]
          exact ⟨trivial, rfl⟩
        | true =>
          have hnil := s2 rfl
          obtain ⟨f', hf'⟩ := hsp'
          have hm0 : m - (n + sk) = 0 := by
            have := congrArg List.length hnil
            rw [List.length_drop, List.length_nil] at this
            omega
          rw [hdm, hnil, hm0]
          simp only [List.take_zero, List.nil_append, List.drop_nil, List.append_nil]
          rw [skipS_le hf', List.drop_length]
          rw [headT, headT]
          simp only [beq_self_eq_true, cond_true, List.map_cons, List.map_nil]
          exact ⟨trivial, rfl⟩
end Go.Abs
namespace Go.Abs
set_option linter.unusedVariables false
set_option linter.unusedSimpArgs false
def spS : List Str := [[42], [60, 61], [105, 102]]
theorem head_le {syms : List Str} : ∀ {r : Str} {a : Nat}, (headT (tokT syms) r a).2.2 = 0 → ∀ t ∈ (headT (tokT syms) r a).1, t.at_ ≤ ((a + r.length : Nat) : Int) := by
  intro r
  induction h : r.length using Nat.strongRecOn generalizing r with
  | ind d ih =>
    intro a he tok ht
    match r, h with
    | [], h =>
      rw [headT] at ht
      obtain rfl := List.mem_singleton.1 ht
      simp only
      omega
    | c :: t, h =>
      obtain ⟨n, sk, f, h0, hn, hn1, hnl, hsk, s1, s2, s3, hle, hz, heq⟩ := head_split he
      rw [heq] at ht
      rcases List.mem_cons.1 ht with rfl | h'
      · simp only; omega
      · have hlt : ((c :: t).drop (n + sk)).length < d := by rw [List.length_drop]; omega
        have := ih ((c :: t).drop (n + sk)).length hlt rfl hz tok h'
        rw [List.length_drop] at this
        omega
theorem scan_eq {syms : List Str} (hs : syms.all symB = true) {s : Str} (h : s.length ≤ 65536) : scanT syms s = headT (tokT syms) (s.drop (skipG false s)) (skipG false s) := by
  unfold scanT
  rw [hs, decide_eq_false (by omega)]
  rfl
theorem scan_ins {syms : List Str} (hsy : syms.all symB = true) {w : UInt8} {y : Str} (hw : sepB syms w) (hsp : skipS false (w :: y) = some false) (hsp' : ∃ f, skipS true (w :: y) = some f)
    (h45 : (w == 45) = false ∨ ∀ r : Str, r.head? = some 45 → (tokT syms r).2.2 = 0 → 2 ≤ (tokT syms r).2.1)
    {s : Str} (hl : s.length + (w :: y).length ≤ 65536) (he : (scanT syms s).2.2 = 0) (t : Token) (ht : t ∈ (scanT syms s).1) :
    0 ≤ t.at_ ∧ t.at_ ≤ (s.length : Int) ∧ (scanT syms (s.take t.at_.toNat ++ (w :: y) ++ s.drop t.at_.toNat)).2.2 = 0 ∧ (scanT syms (s.take t.at_.toNat ++ (w :: y) ++ s.drop t.at_.toNat)).1.map looseT = (scanT syms s).1.map looseT := by
  have hs0 : scanT syms s = headT (tokT syms) (s.drop (skipG false s)) (skipG false s) := scan_eq hsy (by omega)
  rw [hs0] at he ht ⊢
  have hge := head_ge he t ht
  have hle := head_le he t ht
  rw [List.length_drop] at hle
  have hsk := skipG_le false s
  obtain ⟨f, s1, s2, s3⟩ := skip_parts false s
  obtain ⟨m, hm⟩ : ∃ m : Nat, t.at_ = ((skipG false s + m : Nat) : Int) := ⟨t.at_.toNat - skipG false s, by omega⟩
  have hp : t.at_.toNat = skipG false s + m := by omega
  refine ⟨by omega, by omega, ?_⟩
  obtain ⟨i1, i2⟩ := head_ins hw hsp hsp' h45 (s.drop (skipG false s)) (skipG false s) m he s3 ⟨t, ht, hm⟩
  rw [List.length_drop] at i1
  have hS : s.take t.at_.toNat ++ (w :: y) ++ s.drop t.at_.toNat = s.take (skipG false s) ++ ((s.drop (skipG false s)).take m ++ (w :: y ++ (s.drop (skipG false s)).drop m)) := by
    rw [hp, List.take_add, List.drop_drop, List.append_assoc, List.append_assoc]
  have hlen : (s.take t.at_.toNat ++ (w :: y) ++ s.drop t.at_.toNat).length ≤ 65536 := by
    rw [List.length_append, List.length_append, List.length_take, List.length_drop]; omega
  rw [scan_eq hsy hlen, hS, skip_add false _ _ f s1, take_len hsk]
  have hdrop : ∀ q (v : Str), (s.take (skipG false s) ++ v).drop (skipG false s + q) = v.drop q := by
    intro q v
    have hul : (s.take (skipG false s)).length = skipG false s := take_len hsk
    rw [← List.drop_drop]
    congr 1
    rw [List.drop_append_of_le_length (by omega), List.drop_of_length_le (by omega), List.nil_append]
  rw [hdrop]
  cases f with
  | false => exact i2 _
  | true =>
    have hnil := s2 rfl
    have hm0 : m = 0 := by
      have := congrArg List.length hnil
      rw [List.length_drop, List.length_nil] at this
      omega
    obtain ⟨f', hf'⟩ := hsp'
    rw [hnil, hm0]
    simp only [List.take_zero, List.nil_append, List.drop_nil, List.append_nil]
    rw [skipS_le hf', List.drop_length]
    rw [headT, headT]
    exact ⟨rfl, rfl⟩
theorem minus_two : ∀ r : Str, r.head? = some 45 → (tokT spS r).2.2 = 0 → 2 ≤ (tokT spS r).2.1 := by
  intro r hr h0
  match r, hr with
  | c :: t, hr =>
    obtain rfl : c = 45 := by simpa using hr
    have e : tokT spS (45 :: t) = symT spS (45 :: t) := by rw [tokT]; simp only [show begB 45 = false from rfl, show digB 45 = false from rfl, show ((45 : UInt8) == 34) = false from rfl, cond_false]
    rw [e] at h0 ⊢
    unfold symT at h0 ⊢
    obtain ⟨a1, _⟩ := longF_spec (45 :: t) (fixS ++ spS) 0
    generalize longF (45 :: t) 0 (fixS ++ spS) = v at *
    cases hv : v == 0 with
    | true => rw [hv] at h0; cases h0
    | false =>
      simp only [cond_false]
      rcases a1 with a1 | ⟨a1, a2, a3⟩
      · rw [a1] at hv; cases hv
      · have hall : ∀ y ∈ fixS ++ spS, y.head? = some 45 → 2 ≤ y.length := of_decide_eq_true (by kernel_rfl)
        have := hall _ a3 (by rw [take_cons a1]; rfl)
        rw [take_len a2] at this
        exact this
theorem spS_sym : spS.all symB = true := by kernel_rfl
theorem sp_cases (k : Nat) (hk : k < 5) : ∃ w y, [[32], [10], [9, 13], [45, 45, 32, 97, 32, 34, 98, 32, 51, 10], [10, 10]][k]'(by simpa using hk) = (w :: y : Str) ∧ sepB spS w ∧ skipS false (w :: y) = some false ∧ (∃ f, skipS true (w :: y) = some f) ∧ ((w == 45) = false ∨ w = 45) ∧ (w :: y).length ≤ 10 := by
  match k, hk with
  | 0, _ => exact ⟨32, [], rfl, sep_white spS_sym rfl, rfl, ⟨_, rfl⟩, .inl rfl, by decide⟩
  | 1, _ => exact ⟨10, [], rfl, sep_white spS_sym rfl, rfl, ⟨_, rfl⟩, .inl rfl, by decide⟩
  | 2, _ => exact ⟨9, [13], rfl, sep_white spS_sym rfl, rfl, ⟨_, rfl⟩, .inl rfl, by decide⟩
  | 3, _ => exact ⟨45, _, rfl, ⟨rfl, rfl, by decide⟩, rfl, ⟨_, rfl⟩, .inr rfl, by decide⟩
  | 4, _ => exact ⟨10, [10], rfl, sep_white spS_sym rfl, rfl, ⟨_, rfl⟩, .inl rfl, by decide⟩
theorem law24_LexerSpaces_plain (x0 : Str) (x1 x2 : Int) (h : (x0.length + 1) + (1 + 1) ≤ 1048576) (_ : True) (w1 : wfI .u8 x1) (w2 : wfI .u8 x2) : ∃ n, law24_LexerSpaces n x0 x1 x2 = some true := by
  refine plain_of_ev ?_
  obtain ⟨l1, u1⟩ := wfI_u8 w1
  obtain ⟨l2, u2⟩ := wfI_u8 w2
  refine Ev.fn (fun n => by simp only [law24_LexerSpaces, law24_LexerSpaces_e]; exact rfl) ?_
  have hsy : spS.all symB = true := spS_sym
  have hy : ∀ y ∈ spS, y.length < sml := by decide
  by_cases h1 : (1000 : Int) < (x0.length : Int)
  · rw [decide_eq_true h1]
    exact awakeB_ev
  · rw [decide_eq_false h1]
    simp only [cond_false]
    refine Ev.bind (Scan_ev x0 (by simp only [sml]; omega) spS (by decide) hy) ?_
    cases h0 : (scanT spS x0).2.2 == 0 with
    | false =>
      have : ((scanT spS x0).2.2 != 0) = true := by rw [bne, h0]; rfl
      simp only [this, cond_true]
      refine Ev.bind awake_ev ?_
      exact Ev.pure
    | true =>
      have : ((scanT spS x0).2.2 != 0) = false := by rw [bne, h0]; rfl
      simp only [this, cond_false]
      have hlen := scanT_len spS x0
      have hne : 0 < (scanT spS x0).1.length := by
        have := eq_of_beq h0
        rw [scan_eq hsy (by omega)] at this ⊢
        exact List.length_pos_iff.2 (head_ne this)
      have hins := fun (w : UInt8) (y : Str) (a : sepB spS w) (b : skipS false (w :: y) = some false) (c : ∃ f, skipS true (w :: y) = some f) (d : (w == 45) = false ∨ w = 45) (e : (w :: y).length ≤ 10) =>
        scan_ins hsy a b c (d.imp id (fun _ => minus_two)) (s := x0) (by omega) (eq_of_beq h0)
      generalize hZ : scanT spS x0 = Z at *
      have e1 : ((Z.1.length : Int) == 0) = false := by rw [beq_eq_false_iff_ne]; omega
      have e2 : decide ((Z.1.length : Int) = 0) = false := decide_eq_false (by omega)
      simp only [e1, e2, cond_false]
      have hj : (IntKind.i64.wrap x1).tmod (Z.1.length : Int) = ((x1.toNat % Z.1.length : Nat) : Int) := by
        rw [wrap_small (by omega) (by omega)]
        obtain ⟨k, rfl⟩ : ∃ k : Nat, x1 = (k : Int) := ⟨x1.toNat, by omega⟩
        rfl
      have hjl : x1.toNat % Z.1.length < Z.1.length := Nat.mod_lt _ hne
      rw [hj]
      simp only [idxA_at hjl, Option.bind_some]
      have hmem : Z.1[x1.toNat % Z.1.length] ∈ Z.1 := List.getElem_mem hjl
      generalize Z.1[x1.toNat % Z.1.length] = t at *
      have hq : x2.tmod 5 = ((x2.toNat % 5 : Nat) : Int) := by
        obtain ⟨k, rfl⟩ : ∃ k : Nat, x2 = (k : Int) := ⟨x2.toNat, by omega⟩
        rfl
      have hql : x2.toNat % 5 < 5 := Nat.mod_lt _ (by decide)
      obtain ⟨w, y, hwy, a, b, c, d, e⟩ := sp_cases (x2.toNat % 5) hql
      obtain ⟨i1, i2, i3, i4⟩ := hins w y a b c d e t hmem
      have e3 : decide (t.at_ < 0) = false := decide_eq_false (by omega)
      have e4 : decide ((x0.length : Int) < t.at_) = false := decide_eq_false (by omega)
      simp only [e3, e4, cond_false]
      rw [hq]
      have hidx : idxA ([[32], [10], [9, 13], [45, 45, 32, 97, 32, 34, 98, 32, 51, 10], [10, 10]] : List Str) ((x2.toNat % 5 : Nat) : Int) = some (w :: y) := by
        rw [idxA_at (by simpa using hql), hwy]
      simp only [hidx, Option.bind_some]
      have e5 : decide ((0 : Int) ≤ t.at_ ∧ t.at_ ≤ (x0.length : Int)) = true := decide_eq_true (by omega)
      have e6 : decide ((List.take t.at_.toNat x0).length + List.length (w :: y) ≤ 9223372036854775807) = true := decide_eq_true (by rw [List.length_take]; omega)
      have e7 : decide ((0 : Int) ≤ t.at_ ∧ t.at_ ≤ (x0.length : Int) ∧ (x0.length : Int) ≤ (x0.length : Int)) = true := decide_eq_true (by omega)
      have e8 : decide ((List.take t.at_.toNat x0).length + List.length (w :: y) + (List.drop t.at_.toNat x0).length ≤ 9223372036854775807) = true := decide_eq_true (by rw [List.length_take, List.length_drop]; omega)
      simp only [e5, e6, e7, e8, cond_true, List.take_length]
      have hsl : (x0.take t.at_.toNat ++ (w :: y) ++ x0.drop t.at_.toNat).length < sml := by
        rw [List.length_append, List.length_append, List.length_take, List.length_drop]; simp only [sml]; omega
      refine Ev.bind (Scan_ev _ hsl spS (by decide) hy) ?_
      refine Ev.bind awake_ev ?_
      simp only [i3, beq_self_eq_true, cond_true]
      exact Ev.bind (Same_ev _ _ true (by simp only [sml]; omega) i4.symm (fun h => by cases h)) Ev.pure
end Go.Abs
namespace Go.Abs
set_option linter.unusedVariables false
set_option linter.unusedSimpArgs false
theorem Ev3.congr {R : Type} {F G : Nat → Nat → Nat → Option R} {r : R} (h : Ev3 G r) (e : ∀ n m p, F n m p = G n m p) : Ev3 F r := by
  obtain ⟨N, hN⟩ := h
  exact ⟨N, fun n m p a b c => by rw [e]; exact hN n m p a b c⟩
theorem white_cases (w : UInt8) (h : whB w = true) (h10 : (w == 10) = false) : (w == 45) = false ∧ ((w == 32) = true ∨ (w == 9) = true ∨ (w == 13) = true) := by
  refine ⟨(white_facts w h).2.2.2, ?_⟩
  unfold whB at h
  rw [h10] at h
  simpa using h
theorem cov_inner (s : Str) (hs : s.length < sml) (L : List Token) (i : Nat) (t : Token) (X : Nat → Nat → Int → Bool → Option Bool) {res : Bool} {p : Nat} (hp : p ≤ s.length) (ht : t.at_ = (p : Int)) {f : Bool}
    (hX : ∀ n m a co, X n m a co = law24_LexerCovers_l2 n m s L a co (IntKind.i64.wrap ((i : Int) + 1)))
    (fin : Ev2 (fun n m => bif f && (t.kind != 4) then some false else X n m (IntKind.i64.wrap (t.at_ + (t.text.length : Int))) f) res) :
    ∀ (q k : Nat) (co : Bool), k + q = p → skipS co ((s.drop k).take q) = some f → Ev3 (fun n m z => law24_LexerCovers_l1 n (law24_LexerCovers_l2 n m) z s L (k : Int) co (i : Int) t) res := by
  simp only [sml] at hs
  intro q
  induction q with
  | zero =>
    intro k co hk h
    refine Ev3.lp (fun n m p => by simp only [law24_LexerCovers_l1, law24_LexerCovers_b1]; exact rfl) ?_
    have e1 : decide ((k : Int) < t.at_) = false := decide_eq_false (by omega)
    have : co = f := by
      rw [List.take_zero] at h
      cases co <;> simpa [skipS] using h
    subst this
    simp only [e1, cond_false]
    refine Ev3.congr (Ev3.of2 fin) (fun n m z => ?_)
    cases co with
    | false => simp only [cond_false, Bool.false_and, hX]
    | true => simp only [cond_true, Bool.true_and, hX]
  | succ q ih =>
    intro k co hk h
    have hlt : k < s.length := by omega
    rw [drop_cons hlt, List.take_succ_cons] at h
    have next := fun co' (h' : skipS co' ((s.drop (k + 1)).take q) = some f) => ih (k + 1) co' (by omega) h'
    refine Ev3.lp (fun n m p => by simp only [law24_LexerCovers_l1, law24_LexerCovers_b1]; exact rfl) ?_
    have e1 : decide ((k : Int) < t.at_) = true := decide_eq_true (by omega)
    simp only [e1, cond_true]
    refine Ev3.idx hlt ?_
    have b : ∀ j : Nat, j < 256 → (((s[k].toNat : Nat) : Int) == (j : Int)) = (s[k] == UInt8.ofNat j) := fun j hj => byte_beq s[k] j hj
    have b' : ∀ j : Nat, j < 256 → (((s[k].toNat : Nat) : Int) != (j : Int)) = !(s[k] == UInt8.ofNat j) := fun j hj => bne_byte s[k] j hj
    rw [wrap_next (by omega), show ((s[k].toNat : Int) == 10) = (s[k] == 10) from b 10 (by decide)]
    cases h10 : s[k] == 10 with
    | true =>
      simp only [cond_true]
      refine next false ?_
      cases co with
      | true => rw [skipS, h10] at h; exact h
      | false => rw [skipS, show whB s[k] = true from by unfold whB; rw [h10]; simp] at h; exact h
    | false =>
      simp only [cond_false]
      cases co with
      | true =>
        simp only [cond_true]
        refine next true ?_
        rw [skipS, h10] at h
        exact h
      | false =>
        simp only [cond_false]
        rw [skipS] at h
        cases hw : whB s[k] with
        | true =>
          rw [hw, cond_true] at h
          obtain ⟨w45, w3⟩ := white_cases _ hw h10
          rw [show ((s[k].toNat : Int) == 45) = (s[k] == 45) from b 45 (by decide), w45]
          simp only [cond_false]
          rw [show ((s[k].toNat : Int) != 32) = !(s[k] == 32) from b' 32 (by decide), show ((s[k].toNat : Int) != 9) = !(s[k] == 9) from b' 9 (by decide), show ((s[k].toNat : Int) != 13) = !(s[k] == 13) from b' 13 (by decide)]
          have nx := next false h
          rcases w3 with w3 | w3 | w3
          · simp only [w3, Bool.not_true, cond_false]; exact nx
          · cases s[k] == 32 <;> simp only [w3, Bool.not_true, Bool.not_false, cond_true, cond_false] <;> exact nx
          · cases s[k] == 32 <;> cases s[k] == 9 <;> simp only [w3, Bool.not_true, Bool.not_false, cond_true, cond_false] <;> exact nx
        | false =>
          rw [hw, cond_false] at h
          cases hc : s[k] == 45 && ((s.drop (k + 1)).take q).head? == some 45 with
          | false => rw [hc] at h; cases h
          | true =>
            rw [hc, cond_true] at h
            rw [Bool.and_eq_true] at hc
            rw [show ((s[k].toNat : Int) == 45) = (s[k] == 45) from b 45 (by decide), hc.1]
            simp only [cond_true]
            have hq : 1 ≤ q := by
              cases q with
              | zero => rw [List.take_zero] at hc; cases hc.2
              | succ q => omega
            have hk1 : k + 1 < s.length := by omega
            have e2 : decide (((k + 1 : Nat) : Int) < t.at_) = true := decide_eq_true (by omega)
            simp only [e2, cond_true]
            refine Ev3.idx hk1 ?_
            have h45 : (s[k + 1] == 45) = true := by
              have := hc.2
              rw [drop_cons hk1, take_cons hq] at this
              exact this
            rw [show ((s[k + 1].toNat : Int) == 45) = (s[k + 1] == 45) from byte_beq _ 45 (by decide), h45]
            simp only [cond_true]
            exact next true h
theorem tok_kind {syms : List Str} {c : UInt8} {t : Str} (h : (tokT syms (c :: t)).2.2 = 0) : (tokT syms (c :: t)).1 ≠ 4 := by
  rw [tokT] at h ⊢
  cases hb : begB c with
  | true =>
    rw [hb] at h
    simp only [cond_true] at h ⊢
    revert h
    unfold wordT
    cases decide (64 < nameT (c :: t)) <;> cases (c :: t).take (nameT (c :: t)) == [95] <;> cases syms.contains ((c :: t).take (nameT (c :: t))) <;> cases kws.contains ((c :: t).take (nameT (c :: t))) <;> intro h <;> simp
  | false =>
    rw [hb] at h
    simp only [cond_false] at h ⊢
    cases hd : digB c with
    | true =>
      rw [hd] at h
      simp only [cond_true] at h ⊢
      revert h
      unfold numT
      cases decide (6 < runT digB (c :: t)) with
      | true => intro h; simp
      | false =>
        simp only [cond_false]
        cases decide (1 < runT digB (c :: t)) && (c :: t).head? == some 48 with
        | true => intro h; simp
        | false =>
          simp only [cond_false]
          generalize (c :: t).drop (runT digB (c :: t)) = u
          cases u with
          | nil => intro h; simp
          | cons d u =>
            simp only
            cases begB d || d == 39 <;> intro h <;> simp
    | false =>
      rw [hd] at h
      simp only [cond_false] at h ⊢
      cases hq : c == 34 with
      | true =>
        rw [hq] at h
        simp only [cond_true] at h ⊢
        revert h
        unfold quotT
        generalize ((c :: t).drop 1).drop (runT qb ((c :: t).drop 1)) = u
        cases u with
        | nil => intro h; simp
        | cons d u =>
          simp only
          cases d == 34 <;> intro h <;> simp
      | false =>
        rw [hq] at h
        simp only [cond_false] at h ⊢
        revert h
        unfold symT
        generalize longF (c :: t) 0 (fixS ++ syms) = v
        cases v == 0 <;> intro h <;> simp
theorem cov_outer (s : Str) (hs : s.length < sml) (syms : List Str) (L : List Token) (hL : L.length < sml) : ∀ (k i : Nat), k ≤ s.length → i < L.length →
    L.drop i = (headT (tokT syms) (s.drop (k + skipG false (s.drop k))) (k + skipG false (s.drop k))).1 → (headT (tokT syms) (s.drop (k + skipG false (s.drop k))) (k + skipG false (s.drop k))).2.2 = 0 →
    Ev2 (fun n m => law24_LexerCovers_l2 n m s L (k : Int) false (i : Int)) true := by
  intro k
  have hs' : s.length < 4294967281 := hs
  have hL' : L.length < 4294967281 := hL
  induction h : s.length - k using Nat.strongRecOn generalizing k with
  | ind d ih =>
    intro i hk hi hLi he
    obtain ⟨f, s1, s2, s3⟩ := skip_parts false (s.drop k)
    have hsk := skipG_le false (s.drop k)
    rw [List.length_drop] at hsk
    rw [List.drop_drop] at s2
    generalize hq : skipG false (s.drop k) = q at *
    refine Ev2.lp (G := fun n m => bif decide ((i : Int) < (L.length : Int)) then
      (idxA L (i : Int)).bind fun x =>
        bif decide (x.at_ < (k : Int)) then some false
        else
          bif decide ((s.length : Int) < IntKind.i64.wrap (x.at_ + (x.text.length : Int))) then some false
          else
            bif decide (0 ≤ x.at_ ∧ x.at_ ≤ IntKind.i64.wrap (x.at_ + (x.text.length : Int)) ∧ IntKind.i64.wrap (x.at_ + (x.text.length : Int)) ≤ (s.length : Int)) then
              bif List.drop x.at_.toNat (List.take (IntKind.i64.wrap (x.at_ + (x.text.length : Int))).toNat s) == x.text then
                bif (x.kind == 4) == ((i : Int) == IntKind.i64.wrap ((L.length : Int) - 1)) then
                  bif (x.text == []) == (x.kind == 4) then law24_LexerCovers_l1 n (law24_LexerCovers_l2 n m) n s L (k : Int) false (i : Int) x
                  else some false
                else some false
              else some false
            else none
    else
      (law24_awake n).bind fun x =>
        bif x then
          bif decide (0 < (L.length : Int)) then
            (idxA L (IntKind.i64.wrap ((L.length : Int) - 1))).bind fun x => some (x.at_ == (s.length : Int))
          else some false
        else some false) (fun n m => by simp only [law24_LexerCovers_l2, law24_LexerCovers_b2]) ?_
    have e1 : decide ((i : Int) < (L.length : Int)) = true := decide_eq_true (by omega)
    simp only [e1, cond_true]
    refine Ev2.idx hi ?_
    have hw1 : IntKind.i64.wrap ((L.length : Int) - 1) = ((L.length - 1 : Nat) : Int) := by rw [wrap_small (by omega) (by omega)]; omega
    have hLd := List.drop_eq_getElem_cons hi
    -- what the token is
    have step : ∀ (n : Nat), L[i].at_ = ((k + q : Nat) : Int) → L[i].text = (s.drop (k + q)).take n → k + q + n ≤ s.length → (L[i].kind == 4) = ((i : Int) == ((L.length - 1 : Nat) : Int)) → (L[i].text == []) = (L[i].kind == 4) →
        Ev2 (fun n' m => bif f && (L[i].kind != 4) then some false else law24_LexerCovers_l2 n' m s L (IntKind.i64.wrap (L[i].at_ + (L[i].text.length : Int))) f (IntKind.i64.wrap ((i : Int) + 1))) true →
        Ev2 (fun n m => bif decide (L[i].at_ < (k : Int)) then some false
        else
          bif decide ((s.length : Int) < IntKind.i64.wrap (L[i].at_ + (L[i].text.length : Int))) then some false
          else
            bif decide (0 ≤ L[i].at_ ∧ L[i].at_ ≤ IntKind.i64.wrap (L[i].at_ + (L[i].text.length : Int)) ∧ IntKind.i64.wrap (L[i].at_ + (L[i].text.length : Int)) ≤ (s.length : Int)) then
              bif List.drop L[i].at_.toNat (List.take (IntKind.i64.wrap (L[i].at_ + (L[i].text.length : Int))).toNat s) == L[i].text then
                bif (L[i].kind == 4) == ((i : Int) == IntKind.i64.wrap ((L.length : Int) - 1)) then
                  bif (L[i].text == []) == (L[i].kind == 4) then law24_LexerCovers_l1 n (law24_LexerCovers_l2 n m) n s L (k : Int) false (i : Int) L[i]
                  else some false
                else some false
              else some false
            else none) true := by
      intro n ha htx hn hk4 htk fin
      have htl : L[i].text.length = n := by rw [htx, List.length_take, List.length_drop]; omega
      have hwr : IntKind.i64.wrap (L[i].at_ + (L[i].text.length : Int)) = ((k + q + n : Nat) : Int) := by rw [ha, htl, wrap_small (by omega) (by omega)]; omega
      have c1 : decide (L[i].at_ < (k : Int)) = false := decide_eq_false (by omega)
      have c2 : decide ((s.length : Int) < ((k + q + n : Nat) : Int)) = false := decide_eq_false (by omega)
      have c3 : decide (0 ≤ L[i].at_ ∧ L[i].at_ ≤ ((k + q + n : Nat) : Int) ∧ ((k + q + n : Nat) : Int) ≤ (s.length : Int)) = true := decide_eq_true (by omega)
      have c4 : (List.drop L[i].at_.toNat (List.take (k + q + n) s) == L[i].text) = true := by
        rw [ha, Int.toNat_natCast, drop_take_name, htx, beq_iff_eq]
      simp only [hwr, c1, c2, c3, cond_true, cond_false, Int.toNat_natCast, c4, hw1, hk4, htk, beq_self_eq_true]
      refine Ev3.to2 (F := fun n m z => law24_LexerCovers_l1 n (law24_LexerCovers_l2 n m) z s L (k : Int) false (i : Int) L[i]) ?_
      exact cov_inner s hs L i L[i] (fun n m a co => law24_LexerCovers_l2 n m s L a co (IntKind.i64.wrap ((i : Int) + 1))) (p := k + q) (by omega) ha (f := f) (fun _ _ _ _ => rfl) fin q k false rfl s1
    by_cases hlt : k + q < s.length
    · -- a token
      have hc := drop_cons hlt
      have hf : f = false := by
        cases f with
        | false => rfl
        | true =>
          have := s2 rfl
          rw [hc] at this
          cases this
      subst hf
      rw [hc] at hLi he
      obtain ⟨n, sk, g, h0, hn, hn1, hnl, hskk, t1, t2, t3, hle, hz, heq⟩ := head_split he
      rw [heq, hLd] at hLi
      obtain ⟨hLi1, hLi2⟩ := List.cons.inj hLi
      rw [← hc] at hLi1 hLi2 hnl hle hskk hz
      rw [List.length_drop] at hnl hle
      have hdd : ∀ j, (s.drop (k + q)).drop j = s.drop (k + q + j) := fun j => List.drop_drop ..
      rw [hdd] at hskk hz hLi2
      have hne := head_ne hz
      rw [← hLi2] at hne
      have hi1 : i + 1 < L.length := by
        rcases Nat.lt_or_ge (i + 1) L.length with h | h
        · exact h
        · exact absurd (List.drop_eq_nil_of_le h) hne
      have hk4 : (L[i].kind == 4) = false := by
        rw [hLi1, beq_eq_false_iff_ne]
        have := tok_kind h0
        rw [← hc] at this
        exact this
      have htx : L[i].text = (s.drop (k + q)).take n := by rw [hLi1]
      refine step n (by rw [hLi1]) htx (by omega) (by rw [hk4]; symm; rw [beq_eq_false_iff_ne]; omega) ?_ ?_
      · rw [hk4, beq_eq_false_iff_ne, htx]
        intro e
        have := congrArg List.length e
        rw [List.length_take, List.length_drop, List.length_nil] at this
        omega
      · have htl : L[i].text.length = n := by rw [htx, List.length_take, List.length_drop]; omega
        have ha : L[i].at_ = ((k + q : Nat) : Int) := by rw [hLi1]
        have hwr : IntKind.i64.wrap (L[i].at_ + (L[i].text.length : Int)) = ((k + q + n : Nat) : Int) := by rw [ha, htl, wrap_small (by omega) (by omega)]; omega
        simp only [Bool.false_and, cond_false, hwr]
        rw [wrap_next (by omega)]
        refine ih (s.length - (k + q + n)) (by omega) (k + q + n) rfl (i + 1) (by omega) hi1 ?_ ?_
        · rw [← hskk, hLi2, show k + q + (n + sk) = k + q + n + sk from by omega]
        · rw [← hskk]
          rw [show k + q + (n + sk) = k + q + n + sk from by omega] at hz
          exact hz
    · -- the end
      have hkq : k + q = s.length := by omega
      have hnil : s.drop (k + q) = [] := List.drop_eq_nil_of_le (by omega)
      rw [hnil, headT, hLd] at hLi
      obtain ⟨hLi1, hLi2⟩ := List.cons.inj hLi
      have hi1 : i + 1 = L.length := by
        have := List.drop_eq_nil_iff.1 hLi2
        omega
      refine step 0 (by rw [hLi1]) (by rw [hLi1, List.take_zero]) (by omega) (by rw [hLi1]; symm; rw [show ((4 : Int) == 4) = true from rfl, beq_iff_eq]; omega) (by rw [hLi1]; rfl) ?_
      have hk4 : (L[i].kind != 4) = false := by rw [hLi1]; rfl
      rw [hk4, Bool.and_false]
      simp only [cond_false]
      rw [wrap_next (by omega)]
      refine Ev2.lp (fun n m => by simp only [law24_LexerCovers_l2, law24_LexerCovers_b2]; exact rfl) ?_
      have c1 : decide (((i + 1 : Nat) : Int) < (L.length : Int)) = false := decide_eq_false (by omega)
      have c2 : decide ((0 : Int) < (L.length : Int)) = true := decide_eq_true (by omega)
      simp only [c1, cond_false, c2, cond_true, hw1]
      refine Ev2.bind1 awake_ev ?_
      simp only [cond_true]
      have hil : L.length - 1 < L.length := by omega
      refine Ev2.idx hil ?_
      have hlast : L[L.length - 1].at_ = (s.length : Int) := by
        have : L[L.length - 1] = L[i] := by congr 1; omega
        rw [this, hLi1]
        show ((k + q : Nat) : Int) = _
        omega
      rw [hlast, beq_self_eq_true]
      exact Ev2.pure
theorem law24_LexerCovers_plain (x0 : Str) (x1 : List Str) (h : (x0.length + 1) + sumB (fun m : Str => m.length + 1) x1 ≤ 1048576) (_ : True) (_ : ∀ y ∈ x1, True) : ∃ n, law24_LexerCovers n x0 x1 = some true := by
  refine plain_of_ev ?_
  have hl := sumB_len (fun m : Str => m.length + 1) (fun x => Nat.le_add_left 1 _) x1
  refine Ev.fn (fun n => by simp only [law24_LexerCovers, law24_LexerCovers_e]; exact rfl) ?_
  by_cases h1 : (1000 : Int) < (x0.length : Int)
  · rw [decide_eq_true h1]
    exact awakeB_ev
  · rw [decide_eq_false h1]
    simp only [cond_false]
    obtain ⟨b, hb, hev⟩ := few_tot x1 (by simp only [sml]; omega)
    refine Ev.bind hev ?_
    cases b with
    | false => exact awakeB_ev
    | true =>
      obtain ⟨hb1, hb2⟩ := hb rfl
      have hl' : x1.length < 1000 := by omega
      have hy : ∀ y ∈ x1, y.length < sml := fun y hy => by have := hb2 y hy; simp only [sml]; omega
      simp only [cond_true]
      refine Ev.bind (Scan_ev x0 (by simp only [sml]; omega) x1 hl' hy) ?_
      have hlen := scanT_len x1 x0
      cases h0 : (scanT x1 x0).2.2 == 0 with
      | false =>
        have : ((scanT x1 x0).2.2 != 0) = true := by rw [bne, h0]; rfl
        have hnil : (scanT x1 x0).1 = [] := by
          revert h0
          unfold scanT
          cases x1.all symB with
          | false => intro _; rfl
          | true =>
            cases decide (65536 < x0.length) with
            | true => intro _; rfl
            | false =>
              simp only [cond_true, cond_false]
              intro h0
              rw [← finR_nil, finR, h0]
              rfl
        simp only [this, cond_true, hnil]
        exact Ev.bind awake_ev Ev.pure
      | true =>
        have : ((scanT x1 x0).2.2 != 0) = false := by rw [bne, h0]; rfl
        simp only [this, cond_false]
        have hsy : x1.all symB = true := by
          cases hsy : x1.all symB with
          | true => rfl
          | false => unfold scanT at h0; rw [hsy] at h0; cases h0
        have hsc : scanT x1 x0 = headT (tokT x1) (x0.drop (skipG false x0)) (skipG false x0) := scan_eq hsy (by omega)
        have hne : 0 < (scanT x1 x0).1.length := by
          rw [hsc] at h0 ⊢
          exact List.length_pos_iff.2 (head_ne (eq_of_beq h0))
        refine Ev.of2 (F := fun n m => law24_LexerCovers_l2 n m x0 (scanT x1 x0).1 ((0 : Nat) : Int) false ((0 : Nat) : Int)) ?_
        refine cov_outer x0 (by simp only [sml]; omega) x1 _ (by simp only [sml]; omega) 0 0 (Nat.zero_le _) hne ?_ ?_
        · rw [List.drop_zero, List.drop_zero, Nat.zero_add, hsc]
        · rw [List.drop_zero, Nat.zero_add, ← hsc]
          exact eq_of_beq h0
end Go.Abs
namespace Go.Abs
set_option linter.unusedVariables false
set_option linter.unusedSimpArgs false
def lettersL : Str := [97, 98, 99, 88, 89, 90, 95, 48, 49, 57, 39]
def chrN (f j : Nat) : Nat := if j = 0 then f % 6 else (j * 7 + f) % 11
theorem chrN_lt (f j : Nat) : chrN f j < 11 := by unfold chrN; split <;> omega
def chrT (f j : Nat) : UInt8 := lettersL[chrN f j]'(chrN_lt f j)
def nameS (f n : Nat) : Str := (List.range n).map (chrT f)
theorem nameS_len (f n : Nat) : (nameS f n).length = n := by unfold nameS; rw [List.length_map, List.length_range]
theorem nameS_succ (f n : Nat) : nameS f (n + 1) = nameS f n ++ [chrT f n] := by unfold nameS; rw [List.range_succ, List.map_append]; rfl
theorem letters_at {q : Nat} (h : q < 11) : List.drop q (List.take (q + 1) lettersL) = [lettersL[q]'h] := by
  have h' : q < lettersL.length := h
  rw [List.drop_take, Nat.add_sub_cancel_left, List.drop_eq_getElem_cons h']
  rfl
theorem chr_inw (f j : Nat) : inwB (chrT f j) = true := by
  have : ∀ b ∈ lettersL, inwB b = true := by decide
  exact this _ (List.getElem_mem _)
theorem nameS_inw (f n : Nat) : (nameS f n).all inwB = true := by
  rw [List.all_eq_true]
  intro b hb
  obtain ⟨j, _, rfl⟩ := List.mem_map.1 hb
  exact chr_inw f j
theorem chr_mod (f j : Nat) : chrT f j = chrT (f % 66) j := by
  unfold chrT
  have : chrN f j = chrN (f % 66) j := by unfold chrN; split <;> omega
  congr 1
theorem nameS_mod (f n : Nat) : nameS f n = nameS (f % 66) n := by
  unfold nameS
  congr 1
  funext j
  exact chr_mod f j
theorem nameS_head (f n : Nat) (h : 1 ≤ n) : ∃ c t, nameS f n = c :: t ∧ begB c = true ∧ (c == 95) = false := by
  obtain ⟨n, rfl⟩ : ∃ m, n = m + 1 := ⟨n - 1, by omega⟩
  refine ⟨chrT f 0, (List.range n).map (fun j => chrT f (j + 1)), ?_, ?_⟩
  · unfold nameS
    rw [List.range_succ_eq_map, List.map_cons, List.map_map]
    rfl
  · have : ∀ q, ∀ h : q < 6, begB (lettersL[q]'(by show q < 11; omega)) = true ∧ (lettersL[q]'(by show q < 11; omega) == 95) = false := by
      intro q h
      match q, h with
      | 0, _ | 1, _ | 2, _ | 3, _ | 4, _ | 5, _ => exact ⟨rfl, rfl⟩
    have h6 : chrN f 0 < 6 := by unfold chrN; simp; omega
    exact this (chrN f 0) h6
theorem no_kw (f n : Nat) : kws.contains (nameS f n) = false := by
  rcases Nat.lt_or_ge n 10 with h | h
  · have key : ((List.range 66).all fun f => (List.range 10).all fun n => !kws.contains (nameS f n)) = true := by kernel_rfl
    have := List.all_eq_true.1 (List.all_eq_true.1 key (f % 66) (List.mem_range.2 (Nat.mod_lt _ (by decide)))) n (List.mem_range.2 h)
    rw [← nameS_mod] at this
    simpa using this
  · cases hc : kws.contains (nameS f n) with
    | false => rfl
    | true =>
      have hm : nameS f n ∈ kws := by simpa using hc
      have key : (kws.all fun y => decide (y.length < 10)) = true := by kernel_rfl
      have := List.all_eq_true.1 key _ hm
      rw [nameS_len] at this
      have := of_decide_eq_true this
      omega
theorem nameT_all {r : Str} (h : r.all inwB = true) : nameT r = r.length := by
  have hc : compT r = r.length := by
    have := runT_all inwB r
    rw [h] at this
    exact eq_of_beq this
  rw [nameT_eq, hc, List.drop_length]
  rfl
theorem scan_name {s : Str} {c : UInt8} {t : Str} (hst : s = c :: t) (hb : begB c = true) (h95 : (c == 95) = false) (hall : s.all inwB = true) (hk : kws.contains s = false) (hl : s.length ≤ 70) :
    scanT [] (32 :: s) = if 64 < s.length then ([], 1, 5) else ([⟨0, s, 1⟩, ⟨4, [], ((1 + s.length : Nat) : Int)⟩], 0, 0) := by
  rw [scan_eq rfl (by rw [List.length_cons]; omega)]
  have hw : whB c = false := by
    cases hw : whB c with
    | false => rfl
    | true =>
      have := (inw_parts (white_facts c hw).1).1
      rw [hb] at this
      cases this
  have h45 : (c == 45) = false := by
    cases h : c == 45 with
    | false => rfl
    | true => rw [eq_of_beq h] at hb; cases hb
  have hsk : skipG false s = 0 := by
    rw [hst]
    exact skip_none hw (by rw [h45]; rfl)
  have e1 : skipG false (32 :: s) = 1 := by rw [skip_white (x := 32) rfl, hsk]
  rw [e1, List.drop_succ_cons, List.drop_zero]
  have hn := nameT_all hall
  have htok : tokT [] s = if 64 < s.length then (0, 0, 5) else (0, s.length, 0) := by
    have e : tokT [] s = wordT [] s := by
      rw [hst, tokT, hb, cond_true]
    rw [e]
    unfold wordT
    rw [hn, List.take_length]
    by_cases h64 : 64 < s.length
    · rw [decide_eq_true h64, if_pos h64]; rfl
    · rw [decide_eq_false h64, if_neg h64]
      have : (s == [95]) = false := by
        rw [hst]
        show (c == 95 && t == []) = false
        rw [h95]; rfl
      simp only [cond_false, this, List.contains_nil, hk]
  have hT : headT (tokT []) s 1 = bif (tokT [] s).2.2 == 0 then
      (let r := t.drop ((tokT [] s).2.1 - 1)
      let z := headT (tokT []) (r.drop (skipG false r)) (1 + (tokT [] s).2.1 + skipG false r)
      bif z.2.2 == 0 then (⟨(tokT [] s).1, s.take (tokT [] s).2.1, ((1 : Nat) : Int)⟩ :: z.1, 0, 0) else ([], z.2.1, z.2.2))
    else ([], ((1 + (tokT [] s).2.1 : Nat) : Int), (tokT [] s).2.2) := by
    rw [hst, headT]
  rw [hT, htok]
  by_cases h64 : 64 < s.length
  · rw [if_pos h64, if_pos h64]; rfl
  · rw [if_neg h64, if_neg h64]
    have htl : t.drop (s.length - 1) = [] := List.drop_eq_nil_of_le (by rw [hst, List.length_cons]; omega)
    simp only [beq_self_eq_true, cond_true, htl, skipG_nil, List.drop_nil, Nat.add_zero, List.take_length]
    rw [headT]
    rfl
def sevens (k : Nat) : Str := List.replicate k 55
theorem scan_sevens (k : Nat) (h1 : 1 ≤ k) (h9 : k ≤ 9) : scanT [] (sevens k) = if 6 < k then ([], 0, 5) else ([⟨1, sevens k, 0⟩, ⟨4, [], (k : Int)⟩], 0, 0) := by
  have hlen : (sevens k).length = k := List.length_replicate ..
  rw [scan_eq rfl (by rw [hlen]; omega)]
  obtain ⟨j, rfl⟩ : ∃ j, k = j + 1 := ⟨k - 1, by omega⟩
  have hc : sevens (j + 1) = 55 :: sevens j := rfl
  have hsk : skipG false (sevens (j + 1)) = 0 := by rw [hc]; exact skip_none rfl rfl
  rw [hsk, List.drop_zero]
  have hrun : runT digB (sevens (j + 1)) = j + 1 := by
    have := runT_all digB (sevens (j + 1))
    have hall : (sevens (j + 1)).all digB = true := by
      rw [List.all_eq_true]
      intro b hb
      rw [List.eq_of_mem_replicate hb]; rfl
    rw [hall] at this
    rw [eq_of_beq this, hlen]
  have htok : tokT [] (sevens (j + 1)) = if 6 < j + 1 then (0, 0, 5) else (1, j + 1, 0) := by
    have e : tokT [] (sevens (j + 1)) = numT (sevens (j + 1)) := by
      rw [hc, tokT]; rfl
    rw [e]
    unfold numT
    rw [hrun]
    by_cases h6 : 6 < j + 1
    · rw [decide_eq_true h6, if_pos h6]; rfl
    · rw [decide_eq_false h6, if_neg h6]
      have hh : (sevens (j + 1)).head? = some 55 := rfl
      have hd : (sevens (j + 1)).drop (j + 1) = [] := List.drop_eq_nil_of_le (by rw [hlen]; omega)
      have hq : ((some 55 : Option UInt8) == some 48) = false := rfl
      simp only [cond_false, hh, hd, hq, Bool.and_false]
  have hT : headT (tokT []) (sevens (j + 1)) 0 = bif (tokT [] (sevens (j + 1))).2.2 == 0 then
      (let r := (sevens j).drop ((tokT [] (sevens (j + 1))).2.1 - 1)
      let z := headT (tokT []) (r.drop (skipG false r)) (0 + (tokT [] (sevens (j + 1))).2.1 + skipG false r)
      bif z.2.2 == 0 then (⟨(tokT [] (sevens (j + 1))).1, (sevens (j + 1)).take (tokT [] (sevens (j + 1))).2.1, ((0 : Nat) : Int)⟩ :: z.1, 0, 0) else ([], z.2.1, z.2.2))
    else ([], ((0 + (tokT [] (sevens (j + 1))).2.1 : Nat) : Int), (tokT [] (sevens (j + 1))).2.2) := by
    conv => lhs; rw [hc, headT]
    rw [← hc]
  rw [hT, htok]
  by_cases h6 : 6 < j + 1
  · rw [if_pos h6, if_pos h6]; rfl
  · rw [if_neg h6, if_neg h6]
    have hd : (sevens j).drop (j + 1 - 1) = [] := List.drop_eq_nil_of_le (by unfold sevens; rw [List.length_replicate]; omega)
    have ht : (sevens (j + 1)).take (j + 1) = sevens (j + 1) := List.take_of_length_le (by rw [hlen]; omega)
    simp only [beq_self_eq_true, cond_true, hd, skipG_nil, List.drop_nil, Nat.add_zero, Nat.zero_add, ht]
    rw [headT]
    rfl
theorem digits_loop (x2 : Int) (hx : 0 ≤ x2) (hx2 : x2 ≤ 255) : ∀ d k : Nat, k + d = x2.toNat % 9 + 1 → Ev2 (fun n m => law24_LexerNames_l1 n m x2 (sevens k) (k : Int)) true := by
  have hw : IntKind.i64.wrap (IntKind.i64.wrap (x2.tmod 9) + 1) = ((x2.toNat % 9 + 1 : Nat) : Int) := by
    obtain ⟨k, rfl⟩ : ∃ k : Nat, x2 = (k : Int) := ⟨x2.toNat, by omega⟩
    have : ((k : Nat) : Int).tmod 9 = ((k % 9 : Nat) : Int) := rfl
    rw [this, Int.toNat_natCast, wrap_small (n := ((k % 9 : Nat) : Int)) (by omega) (by omega), wrap_next (by omega)]
  intro d
  have h9 : x2.toNat % 9 < 9 := Nat.mod_lt _ (by decide)
  have hlen : ∀ k, (sevens k).length = k := fun k => List.length_replicate ..
  induction d with
  | zero =>
    intro k hk
    refine Ev2.lp (fun n m => by simp only [law24_LexerNames_l1, law24_LexerNames_b1]; exact rfl) ?_
    rw [hw]
    have e1 : decide ((k : Int) < ((x2.toNat % 9 + 1 : Nat) : Int)) = false := decide_eq_false (by omega)
    simp only [e1, cond_false]
    refine Ev2.bind1 (Scan_ev (sevens k) (by rw [hlen]; simp only [sml]; omega) [] (by decide) (fun y hy => by cases hy)) ?_
    rw [scan_sevens k (by omega) (by omega), hlen]
    by_cases h6 : 6 < k
    · have e2 : decide ((6 : Int) < (k : Int)) = true := decide_eq_true (by omega)
      simp only [e2, if_pos h6, cond_true]
      refine Ev2.bind1 awake_ev ?_
      exact Ev2.pure
    · have e2 : decide ((6 : Int) < (k : Int)) = false := decide_eq_false (by omega)
      simp only [e2, if_neg h6, cond_false]
      refine Ev2.bind1 awake_ev ?_
      have i0 : ∀ (a b : Token), idxA [a, b] 0 = some a := fun _ _ => rfl
      have c1 : ((([⟨1, sevens k, 0⟩, ⟨4, [], (k : Int)⟩] : List Token).length : Int) == 2) = true := rfl
      have c2 : ((0 : Int) == 0) = true := rfl
      have c3 : ((1 : Int) == 1) = true := rfl
      simp only [cond_true, c1, c2, c3, i0, Option.bind_some, beq_self_eq_true]
      exact Ev2.pure
  | succ d ih =>
    intro k hk
    refine Ev2.lp (fun n m => by simp only [law24_LexerNames_l1, law24_LexerNames_b1]; exact rfl) ?_
    rw [hw, wrap_next (by omega)]
    have e1 : decide ((k : Int) < ((x2.toNat % 9 + 1 : Nat) : Int)) = true := decide_eq_true (by omega)
    have e2 : decide (List.length (sevens k) ≤ 9223372036854775806) = true := decide_eq_true (by rw [hlen]; omega)
    simp only [e1, e2, cond_true]
    have : sevens k ++ [55] = sevens (k + 1) := by unfold sevens; rw [List.replicate_succ']
    rw [this]
    exact ih (k + 1) (by omega)
theorem names_loop (x0 x1 x2 : Int) (h0 : 0 ≤ x0 ∧ x0 ≤ 255) (h1 : 0 ≤ x1 ∧ x1 ≤ 255) (h2 : 0 ≤ x2 ∧ x2 ≤ 255) : ∀ d k : Nat, k + d = x0.toNat % 70 + 1 → 1 ≤ k →
    Ev2 (fun n m => law24_LexerNames_l2 n m x0 x1 x2 lettersL (nameS x1.toNat k) (k : Int)) true := by
  have h70 : x0.toNat % 70 < 70 := Nat.mod_lt _ (by decide)
  have hw : IntKind.i64.wrap (IntKind.i64.wrap (x0.tmod 70) + 1) = ((x0.toNat % 70 + 1 : Nat) : Int) := by
    obtain ⟨k, rfl⟩ : ∃ k : Nat, x0 = (k : Int) := ⟨x0.toNat, by omega⟩
    have : ((k : Nat) : Int).tmod 70 = ((k % 70 : Nat) : Int) := rfl
    rw [this, Int.toNat_natCast, wrap_small (n := ((k % 70 : Nat) : Int)) (by omega) (by omega), wrap_next (by omega)]
  intro d
  have hL : lettersL.length = 11 := rfl
  induction d with
  | zero =>
    intro k hk hk1
    refine Ev2.lp (G := fun n m => bif decide ((k : Int) < IntKind.i64.wrap (IntKind.i64.wrap (x0.tmod 70) + 1)) then _ else _) (fun n m => by simp only [law24_LexerNames_l2, law24_LexerNames_b2]; exact rfl) ?_
    rw [hw]
    have e1 : decide ((k : Int) < ((x0.toNat % 70 + 1 : Nat) : Int)) = false := decide_eq_false (by omega)
    simp only [e1, cond_false]
    obtain ⟨c, t, hst, hb, h95⟩ := nameS_head x1.toNat k hk1
    have hlen := nameS_len x1.toNat k
    have hkw := no_kw x1.toNat k
    have hsc := scan_name hst hb h95 (nameS_inw _ _) hkw (by rw [hlen]; omega)
    have hdig := digits_loop x2 h2.1 h2.2 (x2.toNat % 9 + 1) 0 (by omega)
    generalize nameS x1.toNat k = S at *
    refine Ev2.bind1 (Keyword_ev S) ?_
    rw [hkw]
    have e2 : decide (1 + List.length S ≤ 9223372036854775807) = true := decide_eq_true (by omega)
    simp only [cond_false, e2, cond_true]
    refine Ev2.bind1 (Scan_ev (32 :: S) (by rw [List.length_cons]; simp only [sml]; omega) [] (by decide) (fun y hy => by cases hy)) ?_
    rw [hsc]
    have fin : Ev2 (fun n m => law24_LexerNames_l1 n n x2 [] 0) true := Ev2.of1 (Ev.of2 (F := fun n m => law24_LexerNames_l1 n m x2 [] 0) hdig)
    by_cases h64 : 64 < S.length
    · have e3 : decide ((64 : Int) < (S.length : Int)) = true := decide_eq_true (by omega)
      simp only [e3, if_pos h64, cond_true]
      exact fin
    · have e3 : decide ((64 : Int) < (S.length : Int)) = false := decide_eq_false (by omega)
      have i0 : ∀ (a b : Token), idxA [a, b] 0 = some a := fun _ _ => rfl
      have c1 : ((([⟨0, S, 1⟩, ⟨4, [], ((1 + S.length : Nat) : Int)⟩] : List Token).length : Int) != 2) = false := rfl
      have c2 : ((0 : Int) != 0) = false := rfl
      have c3 : ((0 : Int) == 0) = true := rfl
      have c4 : ((1 : Int) == 1) = true := rfl
      simp only [e3, if_neg h64, cond_false, c1, c2, c3, c4, i0, Option.bind_some, beq_self_eq_true, Bool.and_self, cond_true]
      exact fin
  | succ d ih =>
    intro k hk hk1
    refine Ev2.lp (fun n m => by simp only [law24_LexerNames_l2, law24_LexerNames_b2]; exact rfl) ?_
    rw [hw]
    have e1 : decide ((k : Int) < ((x0.toNat % 70 + 1 : Nat) : Int)) = true := decide_eq_true (by omega)
    have hq : (IntKind.i64.wrap (IntKind.i64.wrap ((k : Int) * 7) + IntKind.i64.wrap x1)).tmod 11 = ((chrN x1.toNat k : Nat) : Int) := by
      obtain ⟨f, rfl⟩ : ∃ f : Nat, x1 = (f : Int) := ⟨x1.toNat, by omega⟩
      rw [wrap_small (n := (k : Int) * 7) (by omega) (by omega), wrap_small (n := (f : Int)) (by omega) (by omega), wrap_small (by omega) (by omega)]
      unfold chrN
      rw [if_neg (by omega)]
      rfl
    have hlt := chrN_lt x1.toNat k
    rw [hq, wrap_next (i := chrN x1.toNat k) (by omega), wrap_next (by omega)]
    have e2 : decide ((0 : Int) ≤ ((chrN x1.toNat k : Nat) : Int) ∧ ((chrN x1.toNat k : Nat) : Int) ≤ ((chrN x1.toNat k + 1 : Nat) : Int) ∧ ((chrN x1.toNat k + 1 : Nat) : Int) ≤ (lettersL.length : Int)) = true := decide_eq_true (by omega)
    simp only [e1, e2, cond_true, Int.toNat_natCast, letters_at hlt]
    have e3 : decide (List.length (nameS x1.toNat k) + ([lettersL[chrN x1.toNat k]] : Str).length ≤ 9223372036854775807) = true := decide_eq_true (by rw [nameS_len, List.length_singleton]; omega)
    simp only [e3, cond_true]
    have := ih (k + 1) (by omega) (by omega)
    rw [nameS_succ] at this
    exact this
theorem law24_LexerNames_plain (x0 x1 x2 : Int) (h : 1 + (1 + 1) ≤ 1048576) (w0 : wfI .u8 x0) (w1 : wfI .u8 x1) (w2 : wfI .u8 x2) : ∃ n, law24_LexerNames n x0 x1 x2 = some true := by
  refine plain_of_ev ?_
  have l0 := wfI_u8 w0
  have l1 := wfI_u8 w1
  have l2 := wfI_u8 w2
  refine Ev.fn (fun n => by simp only [law24_LexerNames, law24_LexerNames_e]; exact rfl) ?_
  have hq : (IntKind.i64.wrap x1).tmod 6 = ((chrN x1.toNat 0 : Nat) : Int) := by
    obtain ⟨f, rfl⟩ : ∃ f : Nat, x1 = (f : Int) := ⟨x1.toNat, by omega⟩
    rw [wrap_small (n := (f : Int)) (by omega) (by omega)]
    rfl
  have hlt := chrN_lt x1.toNat 0
  rw [hq, wrap_next (by omega)]
  have e2 : decide ((0 : Int) ≤ ((chrN x1.toNat 0 : Nat) : Int) ∧ ((chrN x1.toNat 0 : Nat) : Int) ≤ ((chrN x1.toNat 0 + 1 : Nat) : Int) ∧ ((chrN x1.toNat 0 + 1 : Nat) : Int) ≤ 11) = true := decide_eq_true (by omega)
  simp only [e2, cond_true, Int.toNat_natCast]
  have := names_loop x0 x1 x2 l0 l1 l2 (x0.toNat % 70) 1 (by omega) (Nat.le_refl _)
  have e : List.drop (chrN x1.toNat 0) (List.take (chrN x1.toNat 0 + 1) [97, 98, 99, 88, 89, 90, 95, 48, 49, 57, 39]) = nameS x1.toNat 1 := by
    rw [show ([97, 98, 99, 88, 89, 90, 95, 48, 49, 57, 39] : Str) = lettersL from rfl, letters_at hlt]
    rfl
  rw [e]
  exact Ev.of2 (F := fun n m => law24_LexerNames_l2 n m x0 x1 x2 lettersL (nameS x1.toNat 1) 1) this
end Go.Abs
