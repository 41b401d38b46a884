/- A part of the proof: what the functions compute. -/
import Derived.Test.YtgimdhmoloobkaaDataA
import Derived.Test.YtgimdhmoloobkaaWalkA
set_option linter.all false
namespace Go.Abs
open Go.Proofs
set_option maxRecDepth 100000
set_option maxHeartbeats 4000000
set_option linter.unusedSimpArgs false
set_option linter.unusedVariables false
noncomputable def ref03_check_n1 : Nrm := ⟨[], [], [zA, zK, zK, zK, zK, zK, zK, zA, zA, zA, zA, zA, zA, zA, zA, zK, zA, zA, zA, zA, zA, zA, zA, zA, zA, zA, zA, zA, zA, zA, zA, zA, zA, zA, zA, zA, zA, zA, zA, zA, zA, zA, zA, zA, zA, zA, zA, zA, zA, zA, zA, zA, zA, zA, zA, zA, zA, zA, zA, zA, zA, zA, zA, zA, zA, zA, zA, zA, zA, zA, zA, zA, zA, zA, zA, zA, zA, zA, zA, zA, zA, zA, zA, zA, zA, zA, zA, zA, zA, zA, zA, zA, zA, zA, zA, zA, zA, zA, zA, zA, zA, zA, zA, zA, zA, zA, zA], [oT Term.cel], none⟩
noncomputable def ref03_check_n2 : Nrm := ⟨[], [], [zA, zK, zK, zK, zK, zK, zK, zA, zA, zA, zA, zA, zA, zK, zA, zA, zA, zA, zA, zA, zA, zA, zA, zA, zA, zA, zA, zA, zA, zA, zA, zA, zA, zA, zA, zA, zA, zA, zA, zA, zA, zA, zA, zA, zA, zA, zA, zA, zA, zA, zA, zA, zA, zA, zA, zA, zA, zA, zA, zA, zA, zA, zA, zA, zA, zA, zA, zA, zA, zA, zA, zA, zA, zA, zA, zA, zA, zA, zA, zA, zA, zA, zA, zA, zA, zA, zA, zA, zA, zA, zA, zA, zA, zA, zA, zA, zA, zA, zA, zA, zA, zA, zA, zA, zA, zA, zA], [oT Term.cel], none⟩
noncomputable def ref03_check_m (X : Term → Int → Int → Int → Int → Int → Option Int) (n : Nat) : Mach Int where
  body := (Try.f106.body).getD .skip
  P := Try.prog
  cl := tabA [(54, ent1 tyS tyB (ref03_Name n)), (122, ent1 (tyC Term.cel) tyB (ref03_form n)), (123, ent3 (tyC Level.cel) (tyI .i64) (tyI .i64) (tyI .i64) (ref03_level n))]
  cd := tabD [(106, entD (ent6 (tyC Term.cel) (tyI .i64) (tyI .i64) (tyI .i64) (tyI .i64) (tyI .i64) (tyI .i64) X)), (124, entD (ent2 (tyI .i64) (tyI .i64) (tyI .i64) (ref03_Below n)))]
  nrm := tabN [([0, 1, 0, 1, 1, 1, 1, 1, 1, 1], ref03_check_n1), ([0, 1, 0, 1, 1, 1, 1], ref03_check_n2)]
  cut := tabF []
  n := n
  out := outR Try.prog [.tmp 12] (tyI .i64)
  isE := tabI []
theorem ref03_check_f (X : Term → Int → Int → Int → Int → Int → Option Int) (n : Nat) : (ref03_check_m X n).P = Try.prog ∧ (ref03_check_m X n).cl = tabA [(54, ent1 tyS tyB (ref03_Name n)), (122, ent1 (tyC Term.cel) tyB (ref03_form n)), (123, ent3 (tyC Level.cel) (tyI .i64) (tyI .i64) (tyI .i64) (ref03_level n))] ∧ (ref03_check_m X n).cd = tabD [(106, entD (ent6 (tyC Term.cel) (tyI .i64) (tyI .i64) (tyI .i64) (tyI .i64) (tyI .i64) (tyI .i64) X)), (124, entD (ent2 (tyI .i64) (tyI .i64) (tyI .i64) (ref03_Below n)))] ∧ (ref03_check_m X n).nrm = tabN [([0, 1, 0, 1, 1, 1, 1, 1, 1, 1], ref03_check_n1), ([0, 1, 0, 1, 1, 1, 1], ref03_check_n2)] ∧ (ref03_check_m X n).cut = tabF [] ∧ (ref03_check_m X n).n = n ∧ (ref03_check_m X n).out = outR Try.prog [.tmp 12] (tyI .i64) ∧ (ref03_check_m X n).isE = tabI [] := ⟨rfl, rfl, rfl, rfl, rfl, rfl, rfl, rfl⟩
theorem ref03_check_c (X : Term → Int → Int → Int → Int → Int → Option Int) (n : Nat) : (ref03_check_m X n).body = (Try.f106.body).getD .skip := rfl
theorem ref03_check_d (X : Term → Int → Int → Int → Int → Int → Option Int) (n : Nat) : drawP (ref03_check_m X n) [0, 0, 0, 1, 0, 0, 1, 0, 1, 1, 1, 1, 1, 1, 1] = true := by kernel_rfl
noncomputable def ref03_check_b1 (X : Term → Int → Int → Int → Int → Int → Option Int) (n : Nat) : { B : (Int → Int → Int → Int → Int → Int → Term → Option Int) → Int → Int → Int → Int → Int → Int → Term → Option Int // ∀ m X0, (∀ (v0 : Int) (v1 : Int) (v2 : Int) (v3 : Int) (v4 : Int) (v5 : Int) (o0 : Term), run (ref03_check_m X n) [.lq m [0, 1, 0, 1, 1, 1, 1, 1, 1, 1], .blk 2, .cut [1, 1, 1, 1, 1, 1, 1, 1], .at [1, 1, 1, 1, 1, 1, 1, 1]] ⟨[.any, .int .i64 v0, .int .i64 v1, .int .i64 v2, .int .i64 v3, .int .i64 v4, .ptr 0 0, .any, .any, .any, .any, .any, .any, .any, .any, .int .i64 v5, .any, .any, .any, .any, .any, .any, .any, .any, .any, .any, .any, .any, .any, .any, .any, .any, .any, .any, .any, .any, .any, .any, .any, .any, .any, .any, .any, .any, .any, .any, .any, .any, .any, .any, .any, .any, .any, .any, .any, .any, .any, .any, .any, .any, .any, .any, .any, .any, .any, .any, .any, .any, .any, .any, .any, .any, .any, .any, .any, .any, .any, .any, .any, .any, .any, .any, .any, .any, .any, .any, .any, .any, .any, .any, .any, .any, .any, .any, .any, .any, .any, .any, .any, .any, .any, .any, .any, .any, .any, .any, .any], [.cells (Term.cells o0)], 0⟩ = X0 v0 v1 v2 v3 v4 v5 o0) → ∀ (v0 : Int) (v1 : Int) (v2 : Int) (v3 : Int) (v4 : Int) (v5 : Int) (o0 : Term), run (ref03_check_m X n) [.at [0, 0, 1, 0, 1, 1, 1, 1, 1, 1, 1], .lp m [0, 1, 0, 1, 1, 1, 1, 1, 1, 1], .blk 2, .cut [1, 1, 1, 1, 1, 1, 1, 1], .at [1, 1, 1, 1, 1, 1, 1, 1]] ⟨[.any, .int .i64 v0, .int .i64 v1, .int .i64 v2, .int .i64 v3, .int .i64 v4, .ptr 0 0, .any, .any, .any, .any, .any, .any, .any, .any, .int .i64 v5, .any, .any, .any, .any, .any, .any, .any, .any, .any, .any, .any, .any, .any, .any, .any, .any, .any, .any, .any, .any, .any, .any, .any, .any, .any, .any, .any, .any, .any, .any, .any, .any, .any, .any, .any, .any, .any, .any, .any, .any, .any, .any, .any, .any, .any, .any, .any, .any, .any, .any, .any, .any, .any, .any, .any, .any, .any, .any, .any, .any, .any, .any, .any, .any, .any, .any, .any, .any, .any, .any, .any, .any, .any, .any, .any, .any, .any, .any, .any, .any, .any, .any, .any, .any, .any, .any, .any, .any, .any, .any, .any], [.cells (Term.cells o0)], 0⟩ = B X0 v0 v1 v2 v3 v4 v5 o0 } := by
  apply Subtype.mk
  intro m X0 ih v0 v1 v2 v3 v4 v5 o0
  simp (config := { maxSteps := 100000000 }) only [go_sem, Nat.reduceAdd, Nat.reduceSub, Nat.reduceLeDiff, Nat.reduceEqDiff, Nat.reduceBEq, Nat.reduceMul, Nat.reduceLT, Int.reduceLE, Int.reduceLT, Int.reduceToNat, Int.reduceBEq, Int.reduceEq, ref03_check_f, ref03_check_c, Try.f106, Option.getD_some, mixed, ref03_check_d, ref03_check_n1, ref03_check_n2, ih]
  exact rfl
noncomputable def ref03_check_l1 (X : Term → Int → Int → Int → Int → Int → Option Int) (n : Nat) : Nat → Int → Int → Int → Int → Int → Int → Term → Option Int
  | 0, _, _, _, _, _, _, _ => none
  | m + 1, v0, v1, v2, v3, v4, v5, o0 => (ref03_check_b1 X n).1 (ref03_check_l1 X n m) v0 v1 v2 v3 v4 v5 o0
theorem ref03_check_l1_eq (X : Term → Int → Int → Int → Int → Int → Option Int) (n : Nat) : ∀ (m : Nat), (∀ (v0 : Int) (v1 : Int) (v2 : Int) (v3 : Int) (v4 : Int) (v5 : Int) (o0 : Term), run (ref03_check_m X n) [.lq m [0, 1, 0, 1, 1, 1, 1, 1, 1, 1], .blk 2, .cut [1, 1, 1, 1, 1, 1, 1, 1], .at [1, 1, 1, 1, 1, 1, 1, 1]] ⟨[.any, .int .i64 v0, .int .i64 v1, .int .i64 v2, .int .i64 v3, .int .i64 v4, .ptr 0 0, .any, .any, .any, .any, .any, .any, .any, .any, .int .i64 v5, .any, .any, .any, .any, .any, .any, .any, .any, .any, .any, .any, .any, .any, .any, .any, .any, .any, .any, .any, .any, .any, .any, .any, .any, .any, .any, .any, .any, .any, .any, .any, .any, .any, .any, .any, .any, .any, .any, .any, .any, .any, .any, .any, .any, .any, .any, .any, .any, .any, .any, .any, .any, .any, .any, .any, .any, .any, .any, .any, .any, .any, .any, .any, .any, .any, .any, .any, .any, .any, .any, .any, .any, .any, .any, .any, .any, .any, .any, .any, .any, .any, .any, .any, .any, .any, .any, .any, .any, .any, .any, .any], [.cells (Term.cells o0)], 0⟩ = ref03_check_l1 X n m v0 v1 v2 v3 v4 v5 o0)
  | 0 => by intros; exact run_lq_zero
  | m + 1 => by
    have ih := ref03_check_l1_eq X n m
    intro v0 v1 v2 v3 v4 v5 o0
    rw [run_lq_succ]
    exact (ref03_check_b1 X n).2  m _  ih v0 v1 v2 v3 v4 v5 o0
noncomputable def ref03_check_b2 (X : Term → Int → Int → Int → Int → Int → Option Int) (n : Nat) : { B : (Int → Int → Int → Int → Int → Int → Term → Option Int) → Int → Int → Int → Int → Int → Int → Term → Option Int // ∀ m X0, (∀ (v0 : Int) (v1 : Int) (v2 : Int) (v3 : Int) (v4 : Int) (v5 : Int) (o0 : Term), run (ref03_check_m X n) [.lq m [0, 1, 0, 1, 1, 1, 1], .blk 0, .cut [1, 1, 1, 1, 1], .at [1, 1, 1, 1, 1]] ⟨[.any, .int .i64 v0, .int .i64 v1, .int .i64 v2, .int .i64 v3, .int .i64 v4, .ptr 0 0, .any, .any, .any, .any, .any, .any, .int .i64 v5, .any, .any, .any, .any, .any, .any, .any, .any, .any, .any, .any, .any, .any, .any, .any, .any, .any, .any, .any, .any, .any, .any, .any, .any, .any, .any, .any, .any, .any, .any, .any, .any, .any, .any, .any, .any, .any, .any, .any, .any, .any, .any, .any, .any, .any, .any, .any, .any, .any, .any, .any, .any, .any, .any, .any, .any, .any, .any, .any, .any, .any, .any, .any, .any, .any, .any, .any, .any, .any, .any, .any, .any, .any, .any, .any, .any, .any, .any, .any, .any, .any, .any, .any, .any, .any, .any, .any, .any, .any, .any, .any, .any, .any], [.cells (Term.cells o0)], 0⟩ = X0 v0 v1 v2 v3 v4 v5 o0) → ∀ (v0 : Int) (v1 : Int) (v2 : Int) (v3 : Int) (v4 : Int) (v5 : Int) (o0 : Term), run (ref03_check_m X n) [.at [0, 0, 1, 0, 1, 1, 1, 1], .lp m [0, 1, 0, 1, 1, 1, 1], .blk 0, .cut [1, 1, 1, 1, 1], .at [1, 1, 1, 1, 1]] ⟨[.any, .int .i64 v0, .int .i64 v1, .int .i64 v2, .int .i64 v3, .int .i64 v4, .ptr 0 0, .any, .any, .any, .any, .any, .any, .int .i64 v5, .any, .any, .any, .any, .any, .any, .any, .any, .any, .any, .any, .any, .any, .any, .any, .any, .any, .any, .any, .any, .any, .any, .any, .any, .any, .any, .any, .any, .any, .any, .any, .any, .any, .any, .any, .any, .any, .any, .any, .any, .any, .any, .any, .any, .any, .any, .any, .any, .any, .any, .any, .any, .any, .any, .any, .any, .any, .any, .any, .any, .any, .any, .any, .any, .any, .any, .any, .any, .any, .any, .any, .any, .any, .any, .any, .any, .any, .any, .any, .any, .any, .any, .any, .any, .any, .any, .any, .any, .any, .any, .any, .any, .any], [.cells (Term.cells o0)], 0⟩ = B X0 v0 v1 v2 v3 v4 v5 o0 } := by
  apply Subtype.mk
  intro m X0 ih v0 v1 v2 v3 v4 v5 o0
  simp (config := { maxSteps := 100000000 }) only [go_sem, Nat.reduceAdd, Nat.reduceSub, Nat.reduceLeDiff, Nat.reduceEqDiff, Nat.reduceBEq, Nat.reduceMul, Nat.reduceLT, Int.reduceLE, Int.reduceLT, Int.reduceToNat, Int.reduceBEq, Int.reduceEq, ref03_check_f, ref03_check_c, Try.f106, Option.getD_some, mixed, ref03_check_d, ref03_check_n1, ref03_check_n2, ref03_check_l1_eq X n, ih]
  exact rfl
noncomputable def ref03_check_l2 (X : Term → Int → Int → Int → Int → Int → Option Int) (n : Nat) : Nat → Int → Int → Int → Int → Int → Int → Term → Option Int
  | 0, _, _, _, _, _, _, _ => none
  | m + 1, v0, v1, v2, v3, v4, v5, o0 => (ref03_check_b2 X n).1 (ref03_check_l2 X n m) v0 v1 v2 v3 v4 v5 o0
theorem ref03_check_l2_eq (X : Term → Int → Int → Int → Int → Int → Option Int) (n : Nat) : ∀ (m : Nat), (∀ (v0 : Int) (v1 : Int) (v2 : Int) (v3 : Int) (v4 : Int) (v5 : Int) (o0 : Term), run (ref03_check_m X n) [.lq m [0, 1, 0, 1, 1, 1, 1], .blk 0, .cut [1, 1, 1, 1, 1], .at [1, 1, 1, 1, 1]] ⟨[.any, .int .i64 v0, .int .i64 v1, .int .i64 v2, .int .i64 v3, .int .i64 v4, .ptr 0 0, .any, .any, .any, .any, .any, .any, .int .i64 v5, .any, .any, .any, .any, .any, .any, .any, .any, .any, .any, .any, .any, .any, .any, .any, .any, .any, .any, .any, .any, .any, .any, .any, .any, .any, .any, .any, .any, .any, .any, .any, .any, .any, .any, .any, .any, .any, .any, .any, .any, .any, .any, .any, .any, .any, .any, .any, .any, .any, .any, .any, .any, .any, .any, .any, .any, .any, .any, .any, .any, .any, .any, .any, .any, .any, .any, .any, .any, .any, .any, .any, .any, .any, .any, .any, .any, .any, .any, .any, .any, .any, .any, .any, .any, .any, .any, .any, .any, .any, .any, .any, .any, .any], [.cells (Term.cells o0)], 0⟩ = ref03_check_l2 X n m v0 v1 v2 v3 v4 v5 o0)
  | 0 => by intros; exact run_lq_zero
  | m + 1 => by
    have ih := ref03_check_l2_eq X n m
    intro v0 v1 v2 v3 v4 v5 o0
    rw [run_lq_succ]
    exact (ref03_check_b2 X n).2  m _  ih v0 v1 v2 v3 v4 v5 o0
noncomputable def ref03_check_e (X : Term → Int → Int → Int → Int → Int → Option Int) (n : Nat) : { B : Term → Int → Int → Int → Int → Int → Option Int // ∀ (a0 : Term) (a1 : Int) (a2 : Int) (a3 : Int) (a4 : Int) (a5 : Int), run (ref03_check_m X n) [.at []] { slots := [(tyC Term.cel).enc a0, (tyI .i64).enc a1, (tyI .i64).enc a2, (tyI .i64).enc a3, (tyI .i64).enc a4, (tyI .i64).enc a5] ++ List.replicate (107 - [(tyC Term.cel).enc a0, (tyI .i64).enc a1, (tyI .i64).enc a2, (tyI .i64).enc a3, (tyI .i64).enc a4, (tyI .i64).enc a5].length) .any, heap := [] } = B a0 a1 a2 a3 a4 a5 } := by
  apply Subtype.mk
  intro a0 a1 a2 a3 a4 a5
  simp (config := { maxSteps := 100000000 }) only [go_sem, Nat.reduceAdd, Nat.reduceSub, Nat.reduceLeDiff, Nat.reduceEqDiff, Nat.reduceBEq, Nat.reduceMul, Nat.reduceLT, Int.reduceLE, Int.reduceLT, Int.reduceToNat, Int.reduceBEq, Int.reduceEq, ref03_check_f, ref03_check_c, Try.f106, Option.getD_some, mixed, ref03_check_d, ref03_check_n1, ref03_check_n2, ref03_check_l1_eq X n, ref03_check_l2_eq X n]
  exact rfl
noncomputable def ref03_check : Nat → Term → Int → Int → Int → Int → Int → Option Int
  | 0, _, _, _, _, _, _ => none
  | n + 1, a0, a1, a2, a3, a4, a5 => (ref03_check_e (ref03_check n) n).1 a0 a1 a2 a3 a4 a5
theorem ref03_check_ok : ∀ (n : Nat) (a0 : Term) (a1 : Int) (a2 : Int) (a3 : Int) (a4 : Int) (a5 : Int) (r : Int), ref03_check n a0 a1 a2 a3 a4 a5 = some r → FnC Try.prog 106 [(tyC Term.cel).enc a0, (tyI .i64).enc a1, (tyI .i64).enc a2, (tyI .i64).enc a3, (tyI .i64).enc a4, (tyI .i64).enc a5] (fun v => v = (tyI .i64).enc r)
  | 0, _, _, _, _, _, _, _, h => by cases h
  | n + 1, a0, a1, a2, a3, a4, a5, r, h => by
    have ih_ref03_check := ref03_check_ok n
    exact fnC_run (M := ref03_check_m (ref03_check n) n) ⟨(tabA_cons_ok (ent1_ok (ref03_Name_ok n)) (tabA_cons_ok (ent1_ok (ref03_form_ok n)) (tabA_cons_ok (ent3_ok (ref03_level_ok n)) tabA_nil_ok))), (tabD_cons_ok (ent6_okD (ih_ref03_check)) (tabD_cons_ok (ent2_okD (ref03_Below_ok n)) tabD_nil_ok)), tabN_ok _, tabF_ok _, noY_ok, noE_ok⟩ Try.func106 rfl rfl ⟨(tyC Term.cel).nb 0 _, (tyI .i64).nb 0 _, (tyI .i64).nb 0 _, (tyI .i64).nb 0 _, (tyI .i64).nb 0 _, (tyI .i64).nb 0 _, trivial⟩ Try.ntmps106 Try.results106 (fun σ hs => outR_ok (P := Try.prog) (rs := [.tmp 12]) (t := (tyI .i64)) (σ := σ) (r := r) hs) (((ref03_check_e (ref03_check n) n).2 a0 a1 a2 a3 a4 a5).trans h)

noncomputable def slices_EqualFunc_Level_term_sameLevel_n1 : Nrm := ⟨[], [], [zA, zT (tyL Level.row), zT (tyF 64), zA, zA, zA, zA, zA, zA, zA, zA, zA, zA, zA, zA, zT (tyL Level.row), zK, zK, zA, zA, zA, zA, zA, zA, zA, zA, zA, zA, zA, zA, zA, zA], [], none⟩
noncomputable def slices_EqualFunc_Level_term_sameLevel_m (n : Nat) : Mach Bool where
  body := (Try.f63.body).getD .skip
  P := Try.prog
  cl := tabA [(64, ent2 (tyC Level.cel) (tyC Level.cel) tyB (term_sameLevel n))]
  cd := tabD []
  nrm := tabN [([0, 1, 0, 1, 1], slices_EqualFunc_Level_term_sameLevel_n1)]
  cut := tabF []
  n := n
  out := outR Try.prog [.tmp 6] tyB
theorem slices_EqualFunc_Level_term_sameLevel_f (n : Nat) : (slices_EqualFunc_Level_term_sameLevel_m n).P = Try.prog ∧ (slices_EqualFunc_Level_term_sameLevel_m n).cl = tabA [(64, ent2 (tyC Level.cel) (tyC Level.cel) tyB (term_sameLevel n))] ∧ (slices_EqualFunc_Level_term_sameLevel_m n).cd = tabD [] ∧ (slices_EqualFunc_Level_term_sameLevel_m n).nrm = tabN [([0, 1, 0, 1, 1], slices_EqualFunc_Level_term_sameLevel_n1)] ∧ (slices_EqualFunc_Level_term_sameLevel_m n).cut = tabF [] ∧ (slices_EqualFunc_Level_term_sameLevel_m n).n = n ∧ (slices_EqualFunc_Level_term_sameLevel_m n).out = outR Try.prog [.tmp 6] tyB := ⟨rfl, rfl, rfl, rfl, rfl, rfl, rfl⟩
theorem slices_EqualFunc_Level_term_sameLevel_c (n : Nat) : (slices_EqualFunc_Level_term_sameLevel_m n).body = (Try.f63.body).getD .skip := rfl
noncomputable def slices_EqualFunc_Level_term_sameLevel_b1 (n : Nat) : { B : ((List Level) → (List Level) → Int → Int → Option Bool) → (List Level) → (List Level) → Int → Int → Option Bool // ∀ m X0, (∀ (v0 : List Level) (v1 : List Level) (v2 : Int) (v3 : Int), run (slices_EqualFunc_Level_term_sameLevel_m n) [.lq m [0, 1, 0, 1, 1], .blk 0, .cut [1, 1, 1], .at [1, 1, 1]] ⟨[.any, .lst false 2 (mp Level.cells v0), .func (.func 64) [] [], .any, .any, .any, .any, .any, .any, .any, .any, .any, .any, .any, .any, .lst false 2 (mp Level.cells v1), .int .i64 v2, .int .i64 v3, .any, .any, .any, .any, .any, .any, .any, .any, .any, .any, .any, .any, .any, .any], [], 0⟩ = X0 v0 v1 v2 v3) → ∀ (v0 : List Level) (v1 : List Level) (v2 : Int) (v3 : Int), run (slices_EqualFunc_Level_term_sameLevel_m n) [.at [0, 0, 1, 0, 1, 1], .lp m [0, 1, 0, 1, 1], .blk 0, .cut [1, 1, 1], .at [1, 1, 1]] ⟨[.any, .lst false 2 (mp Level.cells v0), .func (.func 64) [] [], .any, .any, .any, .any, .any, .any, .any, .any, .any, .any, .any, .any, .lst false 2 (mp Level.cells v1), .int .i64 v2, .int .i64 v3, .any, .any, .any, .any, .any, .any, .any, .any, .any, .any, .any, .any, .any, .any], [], 0⟩ = B X0 v0 v1 v2 v3 } := by
  apply Subtype.mk
  intro m X0 ih v0 v1 v2 v3
  simp (config := { maxSteps := 100000000 }) only [go_sem, Nat.reduceAdd, Nat.reduceSub, Nat.reduceLeDiff, Nat.reduceEqDiff, Nat.reduceBEq, Nat.reduceMul, Nat.reduceLT, Int.reduceLE, Int.reduceLT, Int.reduceToNat, Int.reduceBEq, Int.reduceEq, slices_EqualFunc_Level_term_sameLevel_f, slices_EqualFunc_Level_term_sameLevel_c, Try.f63, Option.getD_some, mixed, slices_EqualFunc_Level_term_sameLevel_n1, ih]
  exact rfl
noncomputable def slices_EqualFunc_Level_term_sameLevel_l1 (n : Nat) : Nat → (List Level) → (List Level) → Int → Int → Option Bool
  | 0, _, _, _, _ => none
  | m + 1, v0, v1, v2, v3 => (slices_EqualFunc_Level_term_sameLevel_b1 n).1 (slices_EqualFunc_Level_term_sameLevel_l1 n m) v0 v1 v2 v3
theorem slices_EqualFunc_Level_term_sameLevel_l1_eq (n : Nat) : ∀ (m : Nat), (∀ (v0 : List Level) (v1 : List Level) (v2 : Int) (v3 : Int), run (slices_EqualFunc_Level_term_sameLevel_m n) [.lq m [0, 1, 0, 1, 1], .blk 0, .cut [1, 1, 1], .at [1, 1, 1]] ⟨[.any, .lst false 2 (mp Level.cells v0), .func (.func 64) [] [], .any, .any, .any, .any, .any, .any, .any, .any, .any, .any, .any, .any, .lst false 2 (mp Level.cells v1), .int .i64 v2, .int .i64 v3, .any, .any, .any, .any, .any, .any, .any, .any, .any, .any, .any, .any, .any, .any], [], 0⟩ = slices_EqualFunc_Level_term_sameLevel_l1 n m v0 v1 v2 v3)
  | 0 => by intros; exact run_lq_zero
  | m + 1 => by
    have ih := slices_EqualFunc_Level_term_sameLevel_l1_eq n m
    intro v0 v1 v2 v3
    rw [run_lq_succ]
    exact (slices_EqualFunc_Level_term_sameLevel_b1 n).2  m _  ih v0 v1 v2 v3
noncomputable def slices_EqualFunc_Level_term_sameLevel_e (n : Nat) : { B : (List Level) → (List Level) → Unit → Option Bool // ∀ (a0 : (List Level)) (a1 : (List Level)) (a2 : Unit), run (slices_EqualFunc_Level_term_sameLevel_m n) [.at []] { slots := [(tyL Level.row).enc a0, (tyL Level.row).enc a1, (tyF 64).enc a2] ++ List.replicate (32 - [(tyL Level.row).enc a0, (tyL Level.row).enc a1, (tyF 64).enc a2].length) .any, heap := [] } = B a0 a1 a2 } := by
  apply Subtype.mk
  intro a0 a1 a2
  simp (config := { maxSteps := 100000000 }) only [go_sem, Nat.reduceAdd, Nat.reduceSub, Nat.reduceLeDiff, Nat.reduceEqDiff, Nat.reduceBEq, Nat.reduceMul, Nat.reduceLT, Int.reduceLE, Int.reduceLT, Int.reduceToNat, Int.reduceBEq, Int.reduceEq, slices_EqualFunc_Level_term_sameLevel_f, slices_EqualFunc_Level_term_sameLevel_c, Try.f63, Option.getD_some, mixed, slices_EqualFunc_Level_term_sameLevel_n1, slices_EqualFunc_Level_term_sameLevel_l1_eq n]
  exact rfl
noncomputable def slices_EqualFunc_Level_term_sameLevel : Nat → (List Level) → (List Level) → Unit → Option Bool
  | 0, _, _, _ => none
  | n + 1, a0, a1, a2 => (slices_EqualFunc_Level_term_sameLevel_e n).1 a0 a1 a2
theorem slices_EqualFunc_Level_term_sameLevel_ok : ∀ (n : Nat) (a0 : (List Level)) (a1 : (List Level)) (a2 : Unit) (r : Bool), slices_EqualFunc_Level_term_sameLevel n a0 a1 a2 = some r → FnC Try.prog 63 [(tyL Level.row).enc a0, (tyL Level.row).enc a1, (tyF 64).enc a2] (fun v => v = tyB.enc r)
  | 0, _, _, _, _, h => by cases h
  | n + 1, a0, a1, a2, r, h => by
    exact fnC_run (M := slices_EqualFunc_Level_term_sameLevel_m n) ⟨(tabA_cons_ok (ent2_ok (term_sameLevel_ok n)) tabA_nil_ok), tabD_nil_ok, tabN_ok _, tabF_ok _, noY_ok, noE_ok⟩ Try.func63 rfl rfl ⟨(tyL Level.row).nb 0 _, (tyL Level.row).nb 0 _, (tyF 64).nb 0 _, trivial⟩ Try.ntmps63 Try.results63 (fun σ hs => outR_ok (P := Try.prog) (rs := [.tmp 6]) (t := tyB) (σ := σ) (r := r) hs) (((slices_EqualFunc_Level_term_sameLevel_e n).2 a0 a1 a2).trans h)

noncomputable def slices_ContainsFunc_RecField_positivity_Check_1_as : AL ((List RecField) × (Unit × Unit)) := (alT (tyL RecField.row) (alF 80 (vlP 0 vlN) alN))
noncomputable def slices_ContainsFunc_RecField_positivity_Check_1_m (n : Nat) : Mach (((Int × Unit) × Unit) × (Bool × Unit)) where
  body := (Try.f79.body).getD .skip
  P := Try.prog
  cl := tabA [(110, entX [.arg 1 [0]] (olC (ogC (alC (cI .i64) 1 alN)) olN) slices_IndexFunc_RecField_positivity_Check_1_as (olC (ogC (alC (cI .i64) 1 alN)) olN) (alT (tyI .i64) alN) (fun (b : ((Int × Unit) × Unit)) (a : ((List RecField) × (Unit × Unit))) => (slices_IndexFunc_RecField_positivity_Check_1 n) a.1 b.1.1))]
  cd := tabD []
  nrm := tabN []
  cut := tabF []
  n := n
  out := outS Try.prog [.tmp 4] [] [0] 1 (olC (ogC (alC (cI .i64) 1 alN)) olN) (alT tyB alN)
theorem slices_ContainsFunc_RecField_positivity_Check_1_f (n : Nat) : (slices_ContainsFunc_RecField_positivity_Check_1_m n).P = Try.prog ∧ (slices_ContainsFunc_RecField_positivity_Check_1_m n).cl = tabA [(110, entX [.arg 1 [0]] (olC (ogC (alC (cI .i64) 1 alN)) olN) slices_IndexFunc_RecField_positivity_Check_1_as (olC (ogC (alC (cI .i64) 1 alN)) olN) (alT (tyI .i64) alN) (fun (b : ((Int × Unit) × Unit)) (a : ((List RecField) × (Unit × Unit))) => (slices_IndexFunc_RecField_positivity_Check_1 n) a.1 b.1.1))] ∧ (slices_ContainsFunc_RecField_positivity_Check_1_m n).cd = tabD [] ∧ (slices_ContainsFunc_RecField_positivity_Check_1_m n).nrm = tabN [] ∧ (slices_ContainsFunc_RecField_positivity_Check_1_m n).cut = tabF [] ∧ (slices_ContainsFunc_RecField_positivity_Check_1_m n).n = n ∧ (slices_ContainsFunc_RecField_positivity_Check_1_m n).out = outS Try.prog [.tmp 4] [] [0] 1 (olC (ogC (alC (cI .i64) 1 alN)) olN) (alT tyB alN) := ⟨rfl, rfl, rfl, rfl, rfl, rfl, rfl⟩
theorem slices_ContainsFunc_RecField_positivity_Check_1_c (n : Nat) : (slices_ContainsFunc_RecField_positivity_Check_1_m n).body = (Try.f79.body).getD .skip := rfl
noncomputable def slices_ContainsFunc_RecField_positivity_Check_1_e (n : Nat) : { B : (List RecField) → Int → Option (((Int × Unit) × Unit) × (Bool × Unit)) // ∀ (a0 : (List RecField)) (o0 : Int), run (slices_ContainsFunc_RecField_positivity_Check_1_m n) [.at []] { slots := (slices_ContainsFunc_RecField_positivity_Check_1_as.enc ((olC (ogC (alC (cI .i64) 1 alN)) olN).lens ((o0, ()), ())) (a0, (), ())) ++ List.replicate (9 - (slices_ContainsFunc_RecField_positivity_Check_1_as.enc ((olC (ogC (alC (cI .i64) 1 alN)) olN).lens ((o0, ()), ())) (a0, (), ())).length) .any, heap := ((olC (ogC (alC (cI .i64) 1 alN)) olN).enc ((olC (ogC (alC (cI .i64) 1 alN)) olN).lens ((o0, ()), ())) ((o0, ()), ())), low := ((olC (ogC (alC (cI .i64) 1 alN)) olN).enc ((olC (ogC (alC (cI .i64) 1 alN)) olN).lens ((o0, ()), ())) ((o0, ()), ())).length } = B a0 o0 } := by
  apply Subtype.mk
  intro a0 o0
  simp (config := { maxSteps := 100000000 }) only [go_sem, Nat.reduceAdd, Nat.reduceSub, Nat.reduceLeDiff, Nat.reduceEqDiff, Nat.reduceBEq, Nat.reduceMul, Nat.reduceLT, Int.reduceLE, Int.reduceLT, Int.reduceToNat, Int.reduceBEq, Int.reduceEq, slices_ContainsFunc_RecField_positivity_Check_1_f, slices_ContainsFunc_RecField_positivity_Check_1_c, Try.f79, Option.getD_some, mixed, slices_ContainsFunc_RecField_positivity_Check_1_as, slices_IndexFunc_RecField_positivity_Check_1_as]
  exact rfl
noncomputable def slices_ContainsFunc_RecField_positivity_Check_1 : Nat → (List RecField) → Int → Option (((Int × Unit) × Unit) × (Bool × Unit))
  | 0, _, _ => none
  | n + 1, a0, o0 => (slices_ContainsFunc_RecField_positivity_Check_1_e n).1 a0 o0
theorem slices_ContainsFunc_RecField_positivity_Check_1_ok : ∀ (n : Nat) (a0 : (List RecField)) (o0 : Int) (r : (((Int × Unit) × Unit) × (Bool × Unit))), slices_ContainsFunc_RecField_positivity_Check_1 n a0 o0 = some r → FnG Try.prog 79 (slices_ContainsFunc_RecField_positivity_Check_1_as.enc ((olC (ogC (alC (cI .i64) 1 alN)) olN).lens ((o0, ()), ())) (a0, (), ())) ((olC (ogC (alC (cI .i64) 1 alN)) olN).enc ((olC (ogC (alC (cI .i64) 1 alN)) olN).lens ((o0, ()), ())) ((o0, ()), ())) (fun o H' => o = .ret (tupOf ((alT tyB alN).enc ((olC (ogC (alC (cI .i64) 1 alN)) olN).lens r.1) r.2)) ∧ H' = (olC (ogC (alC (cI .i64) 1 alN)) olN).enc ((olC (ogC (alC (cI .i64) 1 alN)) olN).lens r.1) r.1)
  | 0, _, _, _, h => by cases h
  | n + 1, a0, o0, r, h => by
    exact fnG_run (M := slices_ContainsFunc_RecField_positivity_Check_1_m n) ⟨(tabA_cons_ok (entX_ok (fun b a r h => (slices_IndexFunc_RecField_positivity_Check_1_ok n) a.1 b.1.1 r h)) tabA_nil_ok), tabD_nil_ok, tabN_ok _, tabF_ok _, noY_ok, noE_ok⟩ Try.func79 rfl rfl (nbL_le (Nat.le_trans (of_decide_eq_true (by kernel_rfl)) (Nat.le_of_eq ((olC (ogC (alC (cI .i64) 1 alN)) olN).sz _ _).symm)) _ (slices_ContainsFunc_RecField_positivity_Check_1_as.nb _ _)) (fun x hx => objNb_le' (Nat.le_trans (of_decide_eq_true (by kernel_rfl)) (Nat.le_of_eq ((olC (ogC (alC (cI .i64) 1 alN)) olN).sz _ _).symm)) _ ((olC (ogC (alC (cI .i64) 1 alN)) olN).nb _ _ x hx)) Try.ntmps79 Try.results79 (fun σ hs => outS_ok (P := Try.prog) (rs := [.tmp 4]) (pos := []) (base := [0]) (low := 1) (os := (olC (ogC (alC (cI .i64) 1 alN)) olN)) (s := (alT tyB alN)) (σ := σ) (r := r) (by rfl) hs) (((slices_ContainsFunc_RecField_positivity_Check_1_e n).2 a0 o0).trans h)

noncomputable def positivity_Positive_n1 : Nrm := ⟨[], [], [zA, zK, zK, zA, zA, zA, zA, zA, zA, zA, zA, zA, zA, zA, zA, zA, zA, zA, zA, zA, zA, zA, zA, zA, zA, zA, zA, zA, zA, zA, zA, zA, zA, zA, zA, zA, zA, zA, zA, zA, zA, zA, zA, zA, zA, zA, zA, zA, zA, zA, zA, zA, zA, zA, zA], [oT Term.cel], none⟩
noncomputable def positivity_Positive_m (n : Nat) : Mach Bool where
  body := (Try.f38.body).getD .skip
  P := Try.prog
  cl := tabA [(72, ent1 (tyC Term.cel) (ty2 (tyC Term.cel) (tyL Term.row)) (telescope_Spine n)), (81, ent2 tyS (tyL Term.row) tyB (positivity_occurs n))]
  cd := tabD []
  nrm := tabN [([0, 0, 1], positivity_Positive_n1)]
  cut := tabF []
  n := n
  out := outR Try.prog [.tmp 4] tyB
theorem positivity_Positive_f (n : Nat) : (positivity_Positive_m n).P = Try.prog ∧ (positivity_Positive_m n).cl = tabA [(72, ent1 (tyC Term.cel) (ty2 (tyC Term.cel) (tyL Term.row)) (telescope_Spine n)), (81, ent2 tyS (tyL Term.row) tyB (positivity_occurs n))] ∧ (positivity_Positive_m n).cd = tabD [] ∧ (positivity_Positive_m n).nrm = tabN [([0, 0, 1], positivity_Positive_n1)] ∧ (positivity_Positive_m n).cut = tabF [] ∧ (positivity_Positive_m n).n = n ∧ (positivity_Positive_m n).out = outR Try.prog [.tmp 4] tyB := ⟨rfl, rfl, rfl, rfl, rfl, rfl, rfl⟩
theorem positivity_Positive_c (n : Nat) : (positivity_Positive_m n).body = (Try.f38.body).getD .skip := rfl
noncomputable def positivity_Positive_b1 (n : Nat) : { B : (Str → Term → Option Bool) → Str → Term → Option Bool // ∀ m X0, (∀ (v0 : Str) (o0 : Term), run (positivity_Positive_m n) [.lq m [0, 0, 1], .blk 0, .cut [1, 1], .at [1, 1]] ⟨[.any, .str (sb v0), .ptr 0 0, .any, .any, .any, .any, .any, .any, .any, .any, .any, .any, .any, .any, .any, .any, .any, .any, .any, .any, .any, .any, .any, .any, .any, .any, .any, .any, .any, .any, .any, .any, .any, .any, .any, .any, .any, .any, .any, .any, .any, .any, .any, .any, .any, .any, .any, .any, .any, .any, .any, .any, .any, .any], [.cells (Term.cells o0)], 0⟩ = X0 v0 o0) → ∀ (v0 : Str) (o0 : Term), run (positivity_Positive_m n) [.at [0, 0, 0, 1], .lp m [0, 0, 1], .blk 0, .cut [1, 1], .at [1, 1]] ⟨[.any, .str (sb v0), .ptr 0 0, .any, .any, .any, .any, .any, .any, .any, .any, .any, .any, .any, .any, .any, .any, .any, .any, .any, .any, .any, .any, .any, .any, .any, .any, .any, .any, .any, .any, .any, .any, .any, .any, .any, .any, .any, .any, .any, .any, .any, .any, .any, .any, .any, .any, .any, .any, .any, .any, .any, .any, .any, .any], [.cells (Term.cells o0)], 0⟩ = B X0 v0 o0 } := by
  apply Subtype.mk
  intro m X0 ih v0 o0
  simp (config := { maxSteps := 100000000 }) only [go_sem, Nat.reduceAdd, Nat.reduceSub, Nat.reduceLeDiff, Nat.reduceEqDiff, Nat.reduceBEq, Nat.reduceMul, Nat.reduceLT, Int.reduceLE, Int.reduceLT, Int.reduceToNat, Int.reduceBEq, Int.reduceEq, positivity_Positive_f, positivity_Positive_c, Try.f38, Option.getD_some, mixed, positivity_Positive_n1, ih]
  exact rfl
noncomputable def positivity_Positive_l1 (n : Nat) : Nat → Str → Term → Option Bool
  | 0, _, _ => none
  | m + 1, v0, o0 => (positivity_Positive_b1 n).1 (positivity_Positive_l1 n m) v0 o0
theorem positivity_Positive_l1_eq (n : Nat) : ∀ (m : Nat), (∀ (v0 : Str) (o0 : Term), run (positivity_Positive_m n) [.lq m [0, 0, 1], .blk 0, .cut [1, 1], .at [1, 1]] ⟨[.any, .str (sb v0), .ptr 0 0, .any, .any, .any, .any, .any, .any, .any, .any, .any, .any, .any, .any, .any, .any, .any, .any, .any, .any, .any, .any, .any, .any, .any, .any, .any, .any, .any, .any, .any, .any, .any, .any, .any, .any, .any, .any, .any, .any, .any, .any, .any, .any, .any, .any, .any, .any, .any, .any, .any, .any, .any, .any], [.cells (Term.cells o0)], 0⟩ = positivity_Positive_l1 n m v0 o0)
  | 0 => by intros; exact run_lq_zero
  | m + 1 => by
    have ih := positivity_Positive_l1_eq n m
    intro v0 o0
    rw [run_lq_succ]
    exact (positivity_Positive_b1 n).2  m _  ih v0 o0
noncomputable def positivity_Positive_e (n : Nat) : { B : Term → Str → Option Bool // ∀ (a0 : Term) (a1 : Str), run (positivity_Positive_m n) [.at []] { slots := [(tyC Term.cel).enc a0, tyS.enc a1] ++ List.replicate (55 - [(tyC Term.cel).enc a0, tyS.enc a1].length) .any, heap := [] } = B a0 a1 } := by
  apply Subtype.mk
  intro a0 a1
  simp (config := { maxSteps := 100000000 }) only [go_sem, Nat.reduceAdd, Nat.reduceSub, Nat.reduceLeDiff, Nat.reduceEqDiff, Nat.reduceBEq, Nat.reduceMul, Nat.reduceLT, Int.reduceLE, Int.reduceLT, Int.reduceToNat, Int.reduceBEq, Int.reduceEq, positivity_Positive_f, positivity_Positive_c, Try.f38, Option.getD_some, mixed, positivity_Positive_n1, positivity_Positive_l1_eq n]
  exact rfl
noncomputable def positivity_Positive : Nat → Term → Str → Option Bool
  | 0, _, _ => none
  | n + 1, a0, a1 => (positivity_Positive_e n).1 a0 a1
theorem positivity_Positive_ok : ∀ (n : Nat) (a0 : Term) (a1 : Str) (r : Bool), positivity_Positive n a0 a1 = some r → FnC Try.prog 38 [(tyC Term.cel).enc a0, tyS.enc a1] (fun v => v = tyB.enc r)
  | 0, _, _, _, h => by cases h
  | n + 1, a0, a1, r, h => by
    exact fnC_run (M := positivity_Positive_m n) ⟨(tabA_cons_ok (ent1_ok (telescope_Spine_ok n)) (tabA_cons_ok (ent2_ok (positivity_occurs_ok n)) tabA_nil_ok)), tabD_nil_ok, tabN_ok _, tabF_ok _, noY_ok, noE_ok⟩ Try.func38 rfl rfl ⟨(tyC Term.cel).nb 0 _, tyS.nb 0 _, trivial⟩ Try.ntmps38 Try.results38 (fun σ hs => outR_ok (P := Try.prog) (rs := [.tmp 4]) (t := tyB) (σ := σ) (r := r) hs) (((positivity_Positive_e n).2 a0 a1).trans h)

noncomputable def term_nodes_1_os : OL (Unit × (Unit × (Unit × ((List (Str × Bool)) × ((List Str) × Unit))))) := (olC (ogL0 term_Consts_k0_1_0_1_1_1 (alZs 3 (alP 1 (alP 2 (alZs 26 alN))))) (olC (ogC (alM 3 alN)) (olC (ogC (alA 4 alN)) (olC ogM (olC (ogA true rowS) olN)))))
noncomputable def term_nodes_1_o1 : OL ((Unit × Int) × (Unit × (Unit × ((List (Str × Bool)) × ((List Str) × Unit))))) := (olC (ogL term_Consts_k0_1_0_1_1_1 (alZs 3 (alP 1 (alP 2 (alZs 26 alN))))) (olC (ogC (alM 3 alN)) (olC (ogC (alA 4 alN)) (olC ogM (olC (ogA true rowS) olN)))))
noncomputable def term_nodes_1_m (n : Nat) : Mach (((Unit × Int) × (Unit × (Unit × ((List (Str × Bool)) × ((List Str) × Unit))))) × Unit) where
  body := (Try.f114.body).getD .skip
  P := Try.prog
  cl := tabA [(115, ent0  (tyC (cA TermUse.cel 5 13)) (term_uses n)), (116, entX [.arg 2 [], .arg 4 [], .obj 0 0 [], .obj 2 3 [], .obj 2 4 [], .obj 3 0 [], .obj 4 0 []] term_nodes_1_1_os term_nodes_1_1_as term_nodes_1_1_o1 (alT tyB alN) (fun (b : (Unit × ((((Tup TermUse 13) × Unit) × Unit) × (Unit × (Unit × (Unit × ((List (Str × Bool)) × ((List Str) × Unit)))))))) (a : (Term × (Int × ((Tup TermUse 13) × Unit)))) => (term_nodes_1_1 n) a.1 a.2.1 a.2.2.1 b.2.1.1.1 b.2.2.2.2.2.1 b.2.2.2.2.2.2.1))]
  cd := tabD []
  nrm := tabN []
  cut := tabF [([1, 1, 1, 1], [6])]
  n := n
  out := outS Try.prog [] [] [0, 1, 2, 3, 4] 5 term_nodes_1_o1 alN
theorem term_nodes_1_f (n : Nat) : (term_nodes_1_m n).P = Try.prog ∧ (term_nodes_1_m n).cl = tabA [(115, ent0  (tyC (cA TermUse.cel 5 13)) (term_uses n)), (116, entX [.arg 2 [], .arg 4 [], .obj 0 0 [], .obj 2 3 [], .obj 2 4 [], .obj 3 0 [], .obj 4 0 []] term_nodes_1_1_os term_nodes_1_1_as term_nodes_1_1_o1 (alT tyB alN) (fun (b : (Unit × ((((Tup TermUse 13) × Unit) × Unit) × (Unit × (Unit × (Unit × ((List (Str × Bool)) × ((List Str) × Unit)))))))) (a : (Term × (Int × ((Tup TermUse 13) × Unit)))) => (term_nodes_1_1 n) a.1 a.2.1 a.2.2.1 b.2.1.1.1 b.2.2.2.2.2.1 b.2.2.2.2.2.2.1))] ∧ (term_nodes_1_m n).cd = tabD [] ∧ (term_nodes_1_m n).nrm = tabN [] ∧ (term_nodes_1_m n).cut = tabF [([1, 1, 1, 1], [6])] ∧ (term_nodes_1_m n).n = n ∧ (term_nodes_1_m n).out = outS Try.prog [] [] [0, 1, 2, 3, 4] 5 term_nodes_1_o1 alN := ⟨rfl, rfl, rfl, rfl, rfl, rfl, rfl⟩
theorem term_nodes_1_c (n : Nat) : (term_nodes_1_m n).body = (Try.f114.body).getD .skip := rfl
noncomputable def term_nodes_1_e (n : Nat) : { B : Term → (List (Str × Bool)) → (List Str) → Option (((Unit × Int) × (Unit × (Unit × ((List (Str × Bool)) × ((List Str) × Unit))))) × Unit) // ∀ (a0 : Term) (o0 : (List (Str × Bool))) (o1 : (List Str)), run (term_nodes_1_m n) [.at []] { slots := ((alM 0 (alT (tyP Term.cel) alN)).enc (term_nodes_1_os.lens ((), (), (), o0, o1, ())) (a0, ())) ++ List.replicate (10 - ((alM 0 (alT (tyP Term.cel) alN)).enc (term_nodes_1_os.lens ((), (), (), o0, o1, ())) (a0, ())).length) .any, heap := (term_nodes_1_os.enc (term_nodes_1_os.lens ((), (), (), o0, o1, ())) ((), (), (), o0, o1, ())), low := (term_nodes_1_os.enc (term_nodes_1_os.lens ((), (), (), o0, o1, ())) ((), (), (), o0, o1, ())).length } = B a0 o0 o1 } := by
  apply Subtype.mk
  intro a0 o0 o1
  simp (config := { maxSteps := 100000000 }) only [go_sem, Nat.reduceAdd, Nat.reduceSub, Nat.reduceLeDiff, Nat.reduceEqDiff, Nat.reduceBEq, Nat.reduceMul, Nat.reduceLT, Int.reduceLE, Int.reduceLT, Int.reduceToNat, Int.reduceBEq, Int.reduceEq, term_nodes_1_f, term_nodes_1_c, Try.f114, Option.getD_some, mixed, term_nodes_1_os, term_nodes_1_o1, term_nodes_1_1_as, term_nodes_1_1_os, term_nodes_1_1_o1, term_Consts_k0_1_0_1_1_1_f]
  exact rfl
noncomputable def term_nodes_1 : Nat → Term → (List (Str × Bool)) → (List Str) → Option (((Unit × Int) × (Unit × (Unit × ((List (Str × Bool)) × ((List Str) × Unit))))) × Unit)
  | 0, _, _, _ => none
  | n + 1, a0, o0, o1 => (term_nodes_1_e n).1 a0 o0 o1
theorem term_nodes_1_ok : ∀ (n : Nat) (a0 : Term) (o0 : (List (Str × Bool))) (o1 : (List Str)) (r : (((Unit × Int) × (Unit × (Unit × ((List (Str × Bool)) × ((List Str) × Unit))))) × Unit)), term_nodes_1 n a0 o0 o1 = some r → FnG Try.prog 114 ((alM 0 (alT (tyP Term.cel) alN)).enc (term_nodes_1_os.lens ((), (), (), o0, o1, ())) (a0, ())) (term_nodes_1_os.enc (term_nodes_1_os.lens ((), (), (), o0, o1, ())) ((), (), (), o0, o1, ())) (fun o H' => o = .ret (tupOf (alN.enc (term_nodes_1_o1.lens r.1) r.2)) ∧ H' = term_nodes_1_o1.enc (term_nodes_1_o1.lens r.1) r.1)
  | 0, _, _, _, _, h => by cases h
  | n + 1, a0, o0, o1, r, h => by
    exact fnG_run (M := term_nodes_1_m n) ⟨(tabA_cons_ok (ent0_ok (term_uses_ok n)) (tabA_cons_ok (entX_ok (fun b a r h => (term_nodes_1_1_ok n) a.1 a.2.1 a.2.2.1 b.2.1.1.1 b.2.2.2.2.2.1 b.2.2.2.2.2.2.1 r h)) tabA_nil_ok)), tabD_nil_ok, tabN_ok _, tabF_ok _, noY_ok, noE_ok⟩ Try.func114 rfl rfl (nbL_le (Nat.le_trans (of_decide_eq_true (by kernel_rfl)) (Nat.le_of_eq (term_nodes_1_os.sz _ _).symm)) _ ((alM 0 (alT (tyP Term.cel) alN)).nb _ _)) (fun x hx => objNb_le' (Nat.le_trans (of_decide_eq_true (by kernel_rfl)) (Nat.le_of_eq (term_nodes_1_os.sz _ _).symm)) _ (term_nodes_1_os.nb _ _ x hx)) Try.ntmps114 Try.results114 (fun σ hs => outS_ok (P := Try.prog) (rs := []) (pos := []) (base := [0, 1, 2, 3, 4]) (low := 5) (os := term_nodes_1_o1) (s := alN) (σ := σ) (r := r) (by rfl) hs) (((term_nodes_1_e n).2 a0 o0 o1).trans h)

noncomputable def ref03_Consts_m (n : Nat) : Mach (List Str) where
  body := (Try.f44.body).getD .skip
  P := Try.prog
  cl := tabA [(87, entGh 0 true 1 (entG [0] (osC (oaT true rowS) osN) (asA 0 (fun (b : ((List Str) × Unit)) => b.1.length) (asT (tyC Term.cel) asN)) (osC (oaT true rowS) osN) (rsA 0 (fun (b : ((List Str) × Unit)) => b.1.length) rsN) (fun (b : ((List Str) × Unit)) a => (ref03_consts n) b.1 a.1)))]
  cd := tabD []
  nrm := tabN []
  cut := tabF []
  n := n
  out := outR Try.prog [.tmp 2] (tyL rowS)
theorem ref03_Consts_f (n : Nat) : (ref03_Consts_m n).P = Try.prog ∧ (ref03_Consts_m n).cl = tabA [(87, entGh 0 true 1 (entG [0] (osC (oaT true rowS) osN) (asA 0 (fun (b : ((List Str) × Unit)) => b.1.length) (asT (tyC Term.cel) asN)) (osC (oaT true rowS) osN) (rsA 0 (fun (b : ((List Str) × Unit)) => b.1.length) rsN) (fun (b : ((List Str) × Unit)) a => (ref03_consts n) b.1 a.1)))] ∧ (ref03_Consts_m n).cd = tabD [] ∧ (ref03_Consts_m n).nrm = tabN [] ∧ (ref03_Consts_m n).cut = tabF [] ∧ (ref03_Consts_m n).n = n ∧ (ref03_Consts_m n).out = outR Try.prog [.tmp 2] (tyL rowS) := ⟨rfl, rfl, rfl, rfl, rfl, rfl, rfl⟩
theorem ref03_Consts_c (n : Nat) : (ref03_Consts_m n).body = (Try.f44.body).getD .skip := rfl
noncomputable def ref03_Consts_e (n : Nat) : { B : Term → Option (List Str) // ∀ (a0 : Term), run (ref03_Consts_m n) [.at []] { slots := [(tyC Term.cel).enc a0] ++ List.replicate (5 - [(tyC Term.cel).enc a0].length) .any, heap := [] } = B a0 } := by
  apply Subtype.mk
  intro a0
  simp (config := { maxSteps := 100000000 }) only [go_sem, Nat.reduceAdd, Nat.reduceSub, Nat.reduceLeDiff, Nat.reduceEqDiff, Nat.reduceBEq, Nat.reduceMul, Nat.reduceLT, Int.reduceLE, Int.reduceLT, Int.reduceToNat, Int.reduceBEq, Int.reduceEq, ref03_Consts_f, ref03_Consts_c, Try.f44, Option.getD_some, mixed]
  exact rfl
noncomputable def ref03_Consts : Nat → Term → Option (List Str)
  | 0, _ => none
  | n + 1, a0 => (ref03_Consts_e n).1 a0
theorem ref03_Consts_ok : ∀ (n : Nat) (a0 : Term) (r : (List Str)), ref03_Consts n a0 = some r → FnC Try.prog 44 [(tyC Term.cel).enc a0] (fun v => v = (tyL rowS).enc r)
  | 0, _, _, h => by cases h
  | n + 1, a0, r, h => by
    exact fnC_run (M := ref03_Consts_m n) ⟨(tabA_cons_ok (entGh_ok (entG_ok (fun b a r h => (ref03_consts_ok n) b.1 a.1 r h))) tabA_nil_ok), tabD_nil_ok, tabN_ok _, tabF_ok _, noY_ok, noE_ok⟩ Try.func44 rfl rfl ⟨(tyC Term.cel).nb 0 _, trivial⟩ Try.ntmps44 Try.results44 (fun σ hs => outR_ok (P := Try.prog) (rs := [.tmp 2]) (t := (tyL rowS)) (σ := σ) (r := r) hs) (((ref03_Consts_e n).2 a0).trans h)
end Go.Abs
namespace Go.Abs
open Go.Proofs
set_option maxRecDepth 100000
set_option maxHeartbeats 4000000
set_option linter.unusedSimpArgs false
set_option linter.unusedVariables false
noncomputable def ref03_Check_m (n : Nat) : Mach Int where
  body := (Try.f71.body).getD .skip
  P := Try.prog
  cl := tabA [(69, ent1 (tyC Term.cel) (tyI .i64) (ref03_Size n)), (70, ent1 (tyC Term.cel) (tyI .i64) (ref03_Depth n)), (106, ent6 (tyC Term.cel) (tyI .i64) (tyI .i64) (tyI .i64) (tyI .i64) (tyI .i64) (tyI .i64) (ref03_check n))]
  cd := tabD []
  nrm := tabN []
  cut := tabF []
  n := n
  out := outR Try.prog [.tmp 10] (tyI .i64)
theorem ref03_Check_f (n : Nat) : (ref03_Check_m n).P = Try.prog ∧ (ref03_Check_m n).cl = tabA [(69, ent1 (tyC Term.cel) (tyI .i64) (ref03_Size n)), (70, ent1 (tyC Term.cel) (tyI .i64) (ref03_Depth n)), (106, ent6 (tyC Term.cel) (tyI .i64) (tyI .i64) (tyI .i64) (tyI .i64) (tyI .i64) (tyI .i64) (ref03_check n))] ∧ (ref03_Check_m n).cd = tabD [] ∧ (ref03_Check_m n).nrm = tabN [] ∧ (ref03_Check_m n).cut = tabF [] ∧ (ref03_Check_m n).n = n ∧ (ref03_Check_m n).out = outR Try.prog [.tmp 10] (tyI .i64) := ⟨rfl, rfl, rfl, rfl, rfl, rfl, rfl⟩
theorem ref03_Check_c (n : Nat) : (ref03_Check_m n).body = (Try.f71.body).getD .skip := rfl
noncomputable def ref03_Check_e (n : Nat) : { B : Term → Int → Int → Int → Int → Option Int // ∀ (a0 : Term) (a1 : Int) (a2 : Int) (a3 : Int) (a4 : Int), run (ref03_Check_m n) [.at []] { slots := [(tyC Term.cel).enc a0, (tyI .i64).enc a1, (tyI .i64).enc a2, (tyI .i64).enc a3, (tyI .i64).enc a4] ++ List.replicate (28 - [(tyC Term.cel).enc a0, (tyI .i64).enc a1, (tyI .i64).enc a2, (tyI .i64).enc a3, (tyI .i64).enc a4].length) .any, heap := [] } = B a0 a1 a2 a3 a4 } := by
  apply Subtype.mk
  intro a0 a1 a2 a3 a4
  simp (config := { maxSteps := 100000000 }) only [go_sem, Nat.reduceAdd, Nat.reduceSub, Nat.reduceLeDiff, Nat.reduceEqDiff, Nat.reduceBEq, Nat.reduceMul, Nat.reduceLT, Int.reduceLE, Int.reduceLT, Int.reduceToNat, Int.reduceBEq, Int.reduceEq, ref03_Check_f, ref03_Check_c, Try.f71, Option.getD_some, mixed]
  exact rfl
noncomputable def ref03_Check : Nat → Term → Int → Int → Int → Int → Option Int
  | 0, _, _, _, _, _ => none
  | n + 1, a0, a1, a2, a3, a4 => (ref03_Check_e n).1 a0 a1 a2 a3 a4
theorem ref03_Check_ok : ∀ (n : Nat) (a0 : Term) (a1 : Int) (a2 : Int) (a3 : Int) (a4 : Int) (r : Int), ref03_Check n a0 a1 a2 a3 a4 = some r → FnC Try.prog 71 [(tyC Term.cel).enc a0, (tyI .i64).enc a1, (tyI .i64).enc a2, (tyI .i64).enc a3, (tyI .i64).enc a4] (fun v => v = (tyI .i64).enc r)
  | 0, _, _, _, _, _, _, h => by cases h
  | n + 1, a0, a1, a2, a3, a4, r, h => by
    exact fnC_run (M := ref03_Check_m n) ⟨(tabA_cons_ok (ent1_ok (ref03_Size_ok n)) (tabA_cons_ok (ent1_ok (ref03_Depth_ok n)) (tabA_cons_ok (ent6_ok (ref03_check_ok n)) tabA_nil_ok))), tabD_nil_ok, tabN_ok _, tabF_ok _, noY_ok, noE_ok⟩ Try.func71 rfl rfl ⟨(tyC Term.cel).nb 0 _, (tyI .i64).nb 0 _, (tyI .i64).nb 0 _, (tyI .i64).nb 0 _, (tyI .i64).nb 0 _, trivial⟩ Try.ntmps71 Try.results71 (fun σ hs => outR_ok (P := Try.prog) (rs := [.tmp 10]) (t := (tyI .i64)) (σ := σ) (r := r) hs) (((ref03_Check_e n).2 a0 a1 a2 a3 a4).trans h)

noncomputable def term_Same_m (X_term_Same : Term → Term → Option Bool) (X_slices_EqualFunc_Term_term_Same : (List Term) → (List Term) → Unit → Option Bool) (n : Nat) : Mach Bool where
  body := (Try.f26.body).getD .skip
  P := Try.prog
  cl := tabA [(63, ent3 (tyL Level.row) (tyL Level.row) (tyF 64) tyB (slices_EqualFunc_Level_term_sameLevel n)), (65, ent3 (tyL Term.row) (tyL Term.row) (tyF 26) tyB X_slices_EqualFunc_Term_term_Same)]
  cd := tabD []
  nrm := tabN []
  cut := tabF []
  n := n
  out := outR Try.prog [.tmp 4] tyB
theorem term_Same_f (X_term_Same : Term → Term → Option Bool) (X_slices_EqualFunc_Term_term_Same : (List Term) → (List Term) → Unit → Option Bool) (n : Nat) : (term_Same_m X_term_Same X_slices_EqualFunc_Term_term_Same n).P = Try.prog ∧ (term_Same_m X_term_Same X_slices_EqualFunc_Term_term_Same n).cl = tabA [(63, ent3 (tyL Level.row) (tyL Level.row) (tyF 64) tyB (slices_EqualFunc_Level_term_sameLevel n)), (65, ent3 (tyL Term.row) (tyL Term.row) (tyF 26) tyB X_slices_EqualFunc_Term_term_Same)] ∧ (term_Same_m X_term_Same X_slices_EqualFunc_Term_term_Same n).cd = tabD [] ∧ (term_Same_m X_term_Same X_slices_EqualFunc_Term_term_Same n).nrm = tabN [] ∧ (term_Same_m X_term_Same X_slices_EqualFunc_Term_term_Same n).cut = tabF [] ∧ (term_Same_m X_term_Same X_slices_EqualFunc_Term_term_Same n).n = n ∧ (term_Same_m X_term_Same X_slices_EqualFunc_Term_term_Same n).out = outR Try.prog [.tmp 4] tyB := ⟨rfl, rfl, rfl, rfl, rfl, rfl, rfl⟩
theorem term_Same_c (X_term_Same : Term → Term → Option Bool) (X_slices_EqualFunc_Term_term_Same : (List Term) → (List Term) → Unit → Option Bool) (n : Nat) : (term_Same_m X_term_Same X_slices_EqualFunc_Term_term_Same n).body = (Try.f26.body).getD .skip := rfl
noncomputable def term_Same_e (X_term_Same : Term → Term → Option Bool) (X_slices_EqualFunc_Term_term_Same : (List Term) → (List Term) → Unit → Option Bool) (n : Nat) : { B : Term → Term → Option Bool // ∀ (a0 : Term) (a1 : Term), run (term_Same_m X_term_Same X_slices_EqualFunc_Term_term_Same n) [.at []] { slots := [(tyC Term.cel).enc a0, (tyC Term.cel).enc a1] ++ List.replicate (38 - [(tyC Term.cel).enc a0, (tyC Term.cel).enc a1].length) .any, heap := [] } = B a0 a1 } := by
  apply Subtype.mk
  intro a0 a1
  simp (config := { maxSteps := 100000000 }) only [go_sem, Nat.reduceAdd, Nat.reduceSub, Nat.reduceLeDiff, Nat.reduceEqDiff, Nat.reduceBEq, Nat.reduceMul, Nat.reduceLT, Int.reduceLE, Int.reduceLT, Int.reduceToNat, Int.reduceBEq, Int.reduceEq, term_Same_f, term_Same_c, Try.f26, Option.getD_some, mixed]
  exact rfl
noncomputable def slices_EqualFunc_Term_term_Same_n1 : Nrm := ⟨[], [], [zA, zT (tyL Term.row), zT (tyF 26), zA, zA, zA, zA, zA, zA, zA, zA, zA, zA, zA, zA, zT (tyL Term.row), zK, zK, zA, zA, zA, zA, zA, zA, zA, zA, zA, zA, zA, zA, zA, zA], [], none⟩
noncomputable def slices_EqualFunc_Term_term_Same_m (X_term_Same : Term → Term → Option Bool) (X_slices_EqualFunc_Term_term_Same : (List Term) → (List Term) → Unit → Option Bool) (n : Nat) : Mach Bool where
  body := (Try.f65.body).getD .skip
  P := Try.prog
  cl := tabA [(26, ent2 (tyC Term.cel) (tyC Term.cel) tyB X_term_Same)]
  cd := tabD []
  nrm := tabN [([0, 1, 0, 1, 1], slices_EqualFunc_Term_term_Same_n1)]
  cut := tabF []
  n := n
  out := outR Try.prog [.tmp 6] tyB
theorem slices_EqualFunc_Term_term_Same_f (X_term_Same : Term → Term → Option Bool) (X_slices_EqualFunc_Term_term_Same : (List Term) → (List Term) → Unit → Option Bool) (n : Nat) : (slices_EqualFunc_Term_term_Same_m X_term_Same X_slices_EqualFunc_Term_term_Same n).P = Try.prog ∧ (slices_EqualFunc_Term_term_Same_m X_term_Same X_slices_EqualFunc_Term_term_Same n).cl = tabA [(26, ent2 (tyC Term.cel) (tyC Term.cel) tyB X_term_Same)] ∧ (slices_EqualFunc_Term_term_Same_m X_term_Same X_slices_EqualFunc_Term_term_Same n).cd = tabD [] ∧ (slices_EqualFunc_Term_term_Same_m X_term_Same X_slices_EqualFunc_Term_term_Same n).nrm = tabN [([0, 1, 0, 1, 1], slices_EqualFunc_Term_term_Same_n1)] ∧ (slices_EqualFunc_Term_term_Same_m X_term_Same X_slices_EqualFunc_Term_term_Same n).cut = tabF [] ∧ (slices_EqualFunc_Term_term_Same_m X_term_Same X_slices_EqualFunc_Term_term_Same n).n = n ∧ (slices_EqualFunc_Term_term_Same_m X_term_Same X_slices_EqualFunc_Term_term_Same n).out = outR Try.prog [.tmp 6] tyB := ⟨rfl, rfl, rfl, rfl, rfl, rfl, rfl⟩
theorem slices_EqualFunc_Term_term_Same_c (X_term_Same : Term → Term → Option Bool) (X_slices_EqualFunc_Term_term_Same : (List Term) → (List Term) → Unit → Option Bool) (n : Nat) : (slices_EqualFunc_Term_term_Same_m X_term_Same X_slices_EqualFunc_Term_term_Same n).body = (Try.f65.body).getD .skip := rfl
noncomputable def slices_EqualFunc_Term_term_Same_b1 (X_term_Same : Term → Term → Option Bool) (X_slices_EqualFunc_Term_term_Same : (List Term) → (List Term) → Unit → Option Bool) (n : Nat) : { B : ((List Term) → (List Term) → Int → Int → Option Bool) → (List Term) → (List Term) → Int → Int → Option Bool // ∀ m X0, (∀ (v0 : List Term) (v1 : List Term) (v2 : Int) (v3 : Int), run (slices_EqualFunc_Term_term_Same_m X_term_Same X_slices_EqualFunc_Term_term_Same n) [.lq m [0, 1, 0, 1, 1], .blk 0, .cut [1, 1, 1], .at [1, 1, 1]] ⟨[.any, .lst false 5 (mp Term.cells v0), .func (.func 26) [] [], .any, .any, .any, .any, .any, .any, .any, .any, .any, .any, .any, .any, .lst false 5 (mp Term.cells v1), .int .i64 v2, .int .i64 v3, .any, .any, .any, .any, .any, .any, .any, .any, .any, .any, .any, .any, .any, .any], [], 0⟩ = X0 v0 v1 v2 v3) → ∀ (v0 : List Term) (v1 : List Term) (v2 : Int) (v3 : Int), run (slices_EqualFunc_Term_term_Same_m X_term_Same X_slices_EqualFunc_Term_term_Same n) [.at [0, 0, 1, 0, 1, 1], .lp m [0, 1, 0, 1, 1], .blk 0, .cut [1, 1, 1], .at [1, 1, 1]] ⟨[.any, .lst false 5 (mp Term.cells v0), .func (.func 26) [] [], .any, .any, .any, .any, .any, .any, .any, .any, .any, .any, .any, .any, .lst false 5 (mp Term.cells v1), .int .i64 v2, .int .i64 v3, .any, .any, .any, .any, .any, .any, .any, .any, .any, .any, .any, .any, .any, .any], [], 0⟩ = B X0 v0 v1 v2 v3 } := by
  apply Subtype.mk
  intro m X0 ih v0 v1 v2 v3
  simp (config := { maxSteps := 100000000 }) only [go_sem, Nat.reduceAdd, Nat.reduceSub, Nat.reduceLeDiff, Nat.reduceEqDiff, Nat.reduceBEq, Nat.reduceMul, Nat.reduceLT, Int.reduceLE, Int.reduceLT, Int.reduceToNat, Int.reduceBEq, Int.reduceEq, slices_EqualFunc_Term_term_Same_f, slices_EqualFunc_Term_term_Same_c, Try.f65, Option.getD_some, mixed, slices_EqualFunc_Term_term_Same_n1, ih]
  exact rfl
noncomputable def slices_EqualFunc_Term_term_Same_l1 (X_term_Same : Term → Term → Option Bool) (X_slices_EqualFunc_Term_term_Same : (List Term) → (List Term) → Unit → Option Bool) (n : Nat) : Nat → (List Term) → (List Term) → Int → Int → Option Bool
  | 0, _, _, _, _ => none
  | m + 1, v0, v1, v2, v3 => (slices_EqualFunc_Term_term_Same_b1 X_term_Same X_slices_EqualFunc_Term_term_Same n).1 (slices_EqualFunc_Term_term_Same_l1 X_term_Same X_slices_EqualFunc_Term_term_Same n m) v0 v1 v2 v3
theorem slices_EqualFunc_Term_term_Same_l1_eq (X_term_Same : Term → Term → Option Bool) (X_slices_EqualFunc_Term_term_Same : (List Term) → (List Term) → Unit → Option Bool) (n : Nat) : ∀ (m : Nat), (∀ (v0 : List Term) (v1 : List Term) (v2 : Int) (v3 : Int), run (slices_EqualFunc_Term_term_Same_m X_term_Same X_slices_EqualFunc_Term_term_Same n) [.lq m [0, 1, 0, 1, 1], .blk 0, .cut [1, 1, 1], .at [1, 1, 1]] ⟨[.any, .lst false 5 (mp Term.cells v0), .func (.func 26) [] [], .any, .any, .any, .any, .any, .any, .any, .any, .any, .any, .any, .any, .lst false 5 (mp Term.cells v1), .int .i64 v2, .int .i64 v3, .any, .any, .any, .any, .any, .any, .any, .any, .any, .any, .any, .any, .any, .any], [], 0⟩ = slices_EqualFunc_Term_term_Same_l1 X_term_Same X_slices_EqualFunc_Term_term_Same n m v0 v1 v2 v3)
  | 0 => by intros; exact run_lq_zero
  | m + 1 => by
    have ih := slices_EqualFunc_Term_term_Same_l1_eq X_term_Same X_slices_EqualFunc_Term_term_Same n m
    intro v0 v1 v2 v3
    rw [run_lq_succ]
    exact (slices_EqualFunc_Term_term_Same_b1 X_term_Same X_slices_EqualFunc_Term_term_Same n).2  m _  ih v0 v1 v2 v3
noncomputable def slices_EqualFunc_Term_term_Same_e (X_term_Same : Term → Term → Option Bool) (X_slices_EqualFunc_Term_term_Same : (List Term) → (List Term) → Unit → Option Bool) (n : Nat) : { B : (List Term) → (List Term) → Unit → Option Bool // ∀ (a0 : (List Term)) (a1 : (List Term)) (a2 : Unit), run (slices_EqualFunc_Term_term_Same_m X_term_Same X_slices_EqualFunc_Term_term_Same n) [.at []] { slots := [(tyL Term.row).enc a0, (tyL Term.row).enc a1, (tyF 26).enc a2] ++ List.replicate (32 - [(tyL Term.row).enc a0, (tyL Term.row).enc a1, (tyF 26).enc a2].length) .any, heap := [] } = B a0 a1 a2 } := by
  apply Subtype.mk
  intro a0 a1 a2
  simp (config := { maxSteps := 100000000 }) only [go_sem, Nat.reduceAdd, Nat.reduceSub, Nat.reduceLeDiff, Nat.reduceEqDiff, Nat.reduceBEq, Nat.reduceMul, Nat.reduceLT, Int.reduceLE, Int.reduceLT, Int.reduceToNat, Int.reduceBEq, Int.reduceEq, slices_EqualFunc_Term_term_Same_f, slices_EqualFunc_Term_term_Same_c, Try.f65, Option.getD_some, mixed, slices_EqualFunc_Term_term_Same_n1, slices_EqualFunc_Term_term_Same_l1_eq X_term_Same X_slices_EqualFunc_Term_term_Same n]
  exact rfl
mutual
noncomputable def term_Same : Nat → Term → Term → Option Bool
  | 0, _, _ => none
  | n + 1, a0, a1 => (term_Same_e (term_Same n) (slices_EqualFunc_Term_term_Same n) n).1 a0 a1
noncomputable def slices_EqualFunc_Term_term_Same : Nat → (List Term) → (List Term) → Unit → Option Bool
  | 0, _, _, _ => none
  | n + 1, a0, a1, a2 => (slices_EqualFunc_Term_term_Same_e (term_Same n) (slices_EqualFunc_Term_term_Same n) n).1 a0 a1 a2
end
mutual
theorem term_Same_ok : ∀ (n : Nat) (a0 : Term) (a1 : Term) (r : Bool), term_Same n a0 a1 = some r → FnC Try.prog 26 [(tyC Term.cel).enc a0, (tyC Term.cel).enc a1] (fun v => v = tyB.enc r)
  | 0, _, _, _, h => by simp only [term_Same] at h; cases h
  | n + 1, a0, a1, r, h => by
    simp only [term_Same] at h
    have ih_term_Same := term_Same_ok n
    have ih_slices_EqualFunc_Term_term_Same := slices_EqualFunc_Term_term_Same_ok n
    exact fnC_run (M := term_Same_m (term_Same n) (slices_EqualFunc_Term_term_Same n) n) ⟨(tabA_cons_ok (ent3_ok (slices_EqualFunc_Level_term_sameLevel_ok n)) (tabA_cons_ok (ent3_ok (ih_slices_EqualFunc_Term_term_Same)) tabA_nil_ok)), tabD_nil_ok, tabN_ok _, tabF_ok _, noY_ok, noE_ok⟩ Try.func26 rfl rfl ⟨(tyC Term.cel).nb 0 _, (tyC Term.cel).nb 0 _, trivial⟩ Try.ntmps26 Try.results26 (fun σ hs => outR_ok (P := Try.prog) (rs := [.tmp 4]) (t := tyB) (σ := σ) (r := r) hs) (((term_Same_e (term_Same n) (slices_EqualFunc_Term_term_Same n) n).2 a0 a1).trans h)
theorem slices_EqualFunc_Term_term_Same_ok : ∀ (n : Nat) (a0 : (List Term)) (a1 : (List Term)) (a2 : Unit) (r : Bool), slices_EqualFunc_Term_term_Same n a0 a1 a2 = some r → FnC Try.prog 65 [(tyL Term.row).enc a0, (tyL Term.row).enc a1, (tyF 26).enc a2] (fun v => v = tyB.enc r)
  | 0, _, _, _, _, h => by simp only [slices_EqualFunc_Term_term_Same] at h; cases h
  | n + 1, a0, a1, a2, r, h => by
    simp only [slices_EqualFunc_Term_term_Same] at h
    have ih_term_Same := term_Same_ok n
    have ih_slices_EqualFunc_Term_term_Same := slices_EqualFunc_Term_term_Same_ok n
    exact fnC_run (M := slices_EqualFunc_Term_term_Same_m (term_Same n) (slices_EqualFunc_Term_term_Same n) n) ⟨(tabA_cons_ok (ent2_ok (ih_term_Same)) tabA_nil_ok), tabD_nil_ok, tabN_ok _, tabF_ok _, noY_ok, noE_ok⟩ Try.func65 rfl rfl ⟨(tyL Term.row).nb 0 _, (tyL Term.row).nb 0 _, (tyF 26).nb 0 _, trivial⟩ Try.ntmps65 Try.results65 (fun σ hs => outR_ok (P := Try.prog) (rs := [.tmp 6]) (t := tyB) (σ := σ) (r := r) hs) (((slices_EqualFunc_Term_term_Same_e (term_Same n) (slices_EqualFunc_Term_term_Same n) n).2 a0 a1 a2).trans h)
end

noncomputable def term_Consts_m (n : Nat) : Mach (List Str) where
  body := (Try.f48.body).getD .skip
  P := Try.prog
  cl := tabA [(89, ent1 (tyC Term.cel) (tyK1 114 (tyP Term.cel)) (term_nodes n)), (114, entX [.arg 0 [], .obj 0 3 [], .obj 0 4 [], .obj 1 0 [], .obj 2 0 []] term_nodes_1_os (alM 0 (alT (tyP Term.cel) alN)) term_nodes_1_o1 alN (fun (b : (Unit × (Unit × (Unit × ((List (Str × Bool)) × ((List Str) × Unit)))))) (a : (Term × Unit)) => (term_nodes_1 n) a.1 b.2.2.2.1 b.2.2.2.2.1))]
  cd := tabD []
  nrm := tabN []
  cut := tabG [] [([1, 1, 1], [(3, 0, 1)])]
  n := n
  out := outR Try.prog [.tmp 2] (tyL rowS)
  js := tabJ [([0, 1, 0, 1, 1, 1], [])]
theorem term_Consts_f (n : Nat) : (term_Consts_m n).P = Try.prog ∧ (term_Consts_m n).cl = tabA [(89, ent1 (tyC Term.cel) (tyK1 114 (tyP Term.cel)) (term_nodes n)), (114, entX [.arg 0 [], .obj 0 3 [], .obj 0 4 [], .obj 1 0 [], .obj 2 0 []] term_nodes_1_os (alM 0 (alT (tyP Term.cel) alN)) term_nodes_1_o1 alN (fun (b : (Unit × (Unit × (Unit × ((List (Str × Bool)) × ((List Str) × Unit)))))) (a : (Term × Unit)) => (term_nodes_1 n) a.1 b.2.2.2.1 b.2.2.2.2.1))] ∧ (term_Consts_m n).cd = tabD [] ∧ (term_Consts_m n).nrm = tabN [] ∧ (term_Consts_m n).cut = tabG [] [([1, 1, 1], [(3, 0, 1)])] ∧ (term_Consts_m n).n = n ∧ (term_Consts_m n).out = outR Try.prog [.tmp 2] (tyL rowS) ∧ (term_Consts_m n).js = tabJ [([0, 1, 0, 1, 1, 1], [])] := ⟨rfl, rfl, rfl, rfl, rfl, rfl, rfl, rfl⟩
theorem term_Consts_c (n : Nat) : (term_Consts_m n).body = (Try.f48.body).getD .skip := rfl
theorem term_Consts_k0_ (n : Nat) : lkM (term_Consts_m n) [0, 1, 0, 1, 1, 1] = term_Consts_k0_1_0_1_1_1 := rfl
noncomputable def term_Consts_e (n : Nat) : { B : Term → Option (List Str) // ∀ (a0 : Term), run (term_Consts_m n) [.at []] { slots := [(tyC Term.cel).enc a0] ++ List.replicate (31 - [(tyC Term.cel).enc a0].length) .any, heap := [] } = B a0 } := by
  apply Subtype.mk
  intro a0
  simp (config := { maxSteps := 100000000 }) only [go_sem, Nat.reduceAdd, Nat.reduceSub, Nat.reduceLeDiff, Nat.reduceEqDiff, Nat.reduceBEq, Nat.reduceMul, Nat.reduceLT, Int.reduceLE, Int.reduceLT, Int.reduceToNat, Int.reduceBEq, Int.reduceEq, term_Consts_f, term_Consts_c, Try.f48, Option.getD_some, mixed, term_nodes_1_os, term_nodes_1_o1, term_Consts_k0_1_0_1_1_1_f, term_Consts_k0_]
  exact rfl
noncomputable def term_Consts : Nat → Term → Option (List Str)
  | 0, _ => none
  | n + 1, a0 => (term_Consts_e n).1 a0
theorem term_Consts_ok : ∀ (n : Nat) (a0 : Term) (r : (List Str)), term_Consts n a0 = some r → FnC Try.prog 48 [(tyC Term.cel).enc a0] (fun v => v = (tyL rowS).enc r)
  | 0, _, _, h => by cases h
  | n + 1, a0, r, h => by
    exact fnC_run (M := term_Consts_m n) ⟨(tabA_cons_ok (ent1_ok (term_nodes_ok n)) (tabA_cons_ok (entX_ok (fun b a r h => (term_nodes_1_ok n) a.1 b.2.2.2.1 b.2.2.2.2.1 r h)) tabA_nil_ok)), tabD_nil_ok, tabN_ok _, tabG_ok [] [([1, 1, 1], [(3, 0, 1)])], noY_ok, noE_ok⟩ Try.func48 rfl rfl ⟨(tyC Term.cel).nb 0 _, trivial⟩ Try.ntmps48 Try.results48 (fun σ hs => outR_ok (P := Try.prog) (rs := [.tmp 2]) (t := (tyL rowS)) (σ := σ) (r := r) hs) (((term_Consts_e n).2 a0).trans h)

noncomputable def ref13_Occurs_m (n : Nat) : Mach Bool where
  body := (Try.f82.body).getD .skip
  P := Try.prog
  cl := tabA [(43, ent2 (tyL rowS) tyS tyB (ref07_Has n)), (44, ent1 (tyC Term.cel) (tyL rowS) (ref03_Consts n))]
  cd := tabD []
  nrm := tabN []
  cut := tabF []
  n := n
  out := outR Try.prog [.tmp 4] tyB
theorem ref13_Occurs_f (n : Nat) : (ref13_Occurs_m n).P = Try.prog ∧ (ref13_Occurs_m n).cl = tabA [(43, ent2 (tyL rowS) tyS tyB (ref07_Has n)), (44, ent1 (tyC Term.cel) (tyL rowS) (ref03_Consts n))] ∧ (ref13_Occurs_m n).cd = tabD [] ∧ (ref13_Occurs_m n).nrm = tabN [] ∧ (ref13_Occurs_m n).cut = tabF [] ∧ (ref13_Occurs_m n).n = n ∧ (ref13_Occurs_m n).out = outR Try.prog [.tmp 4] tyB := ⟨rfl, rfl, rfl, rfl, rfl, rfl, rfl⟩
theorem ref13_Occurs_c (n : Nat) : (ref13_Occurs_m n).body = (Try.f82.body).getD .skip := rfl
noncomputable def ref13_Occurs_e (n : Nat) : { B : Term → Str → Option Bool // ∀ (a0 : Term) (a1 : Str), run (ref13_Occurs_m n) [.at []] { slots := [(tyC Term.cel).enc a0, tyS.enc a1] ++ List.replicate (9 - [(tyC Term.cel).enc a0, tyS.enc a1].length) .any, heap := [] } = B a0 a1 } := by
  apply Subtype.mk
  intro a0 a1
  simp (config := { maxSteps := 100000000 }) only [go_sem, Nat.reduceAdd, Nat.reduceSub, Nat.reduceLeDiff, Nat.reduceEqDiff, Nat.reduceBEq, Nat.reduceMul, Nat.reduceLT, Int.reduceLE, Int.reduceLT, Int.reduceToNat, Int.reduceBEq, Int.reduceEq, ref13_Occurs_f, ref13_Occurs_c, Try.f82, Option.getD_some, mixed]
  exact rfl
noncomputable def ref13_Occurs : Nat → Term → Str → Option Bool
  | 0, _, _ => none
  | n + 1, a0, a1 => (ref13_Occurs_e n).1 a0 a1
theorem ref13_Occurs_ok : ∀ (n : Nat) (a0 : Term) (a1 : Str) (r : Bool), ref13_Occurs n a0 a1 = some r → FnC Try.prog 82 [(tyC Term.cel).enc a0, tyS.enc a1] (fun v => v = tyB.enc r)
  | 0, _, _, _, h => by cases h
  | n + 1, a0, a1, r, h => by
    exact fnC_run (M := ref13_Occurs_m n) ⟨(tabA_cons_ok (ent2_ok (ref07_Has_ok n)) (tabA_cons_ok (ent1_ok (ref03_Consts_ok n)) tabA_nil_ok)), tabD_nil_ok, tabN_ok _, tabF_ok _, noY_ok, noE_ok⟩ Try.func82 rfl rfl ⟨(tyC Term.cel).nb 0 _, tyS.nb 0 _, trivial⟩ Try.ntmps82 Try.results82 (fun σ hs => outR_ok (P := Try.prog) (rs := [.tmp 4]) (t := tyB) (σ := σ) (r := r) hs) (((ref13_Occurs_e n).2 a0 a1).trans h)
end Go.Abs
namespace Go.Abs
open Go.Proofs
set_option maxRecDepth 100000
set_option maxHeartbeats 4000000
set_option linter.unusedSimpArgs false
set_option linter.unusedVariables false
noncomputable def law05_Few_m (n : Nat) : Mach Bool where
  body := (Try.f29.body).getD .skip
  P := Try.prog
  cl := tabA [(69, ent1 (tyC Term.cel) (tyI .i64) (ref03_Size n)), (70, ent1 (tyC Term.cel) (tyI .i64) (ref03_Depth n)), (71, ent5 (tyC Term.cel) (tyI .i64) (tyI .i64) (tyI .i64) (tyI .i64) (tyI .i64) (ref03_Check n))]
  cd := tabD []
  nrm := tabN []
  cut := tabF []
  n := n
  out := outR Try.prog [.tmp 4] tyB
theorem law05_Few_f (n : Nat) : (law05_Few_m n).P = Try.prog ∧ (law05_Few_m n).cl = tabA [(69, ent1 (tyC Term.cel) (tyI .i64) (ref03_Size n)), (70, ent1 (tyC Term.cel) (tyI .i64) (ref03_Depth n)), (71, ent5 (tyC Term.cel) (tyI .i64) (tyI .i64) (tyI .i64) (tyI .i64) (tyI .i64) (ref03_Check n))] ∧ (law05_Few_m n).cd = tabD [] ∧ (law05_Few_m n).nrm = tabN [] ∧ (law05_Few_m n).cut = tabF [] ∧ (law05_Few_m n).n = n ∧ (law05_Few_m n).out = outR Try.prog [.tmp 4] tyB := ⟨rfl, rfl, rfl, rfl, rfl, rfl, rfl⟩
theorem law05_Few_c (n : Nat) : (law05_Few_m n).body = (Try.f29.body).getD .skip := rfl
noncomputable def law05_Few_e (n : Nat) : { B : Term → Int → Option Bool // ∀ (a0 : Term) (a1 : Int), run (law05_Few_m n) [.at []] { slots := [(tyC Term.cel).enc a0, (tyI .i64).enc a1] ++ List.replicate (19 - [(tyC Term.cel).enc a0, (tyI .i64).enc a1].length) .any, heap := [] } = B a0 a1 } := by
  apply Subtype.mk
  intro a0 a1
  simp (config := { maxSteps := 100000000 }) only [go_sem, Nat.reduceAdd, Nat.reduceSub, Nat.reduceLeDiff, Nat.reduceEqDiff, Nat.reduceBEq, Nat.reduceMul, Nat.reduceLT, Int.reduceLE, Int.reduceLT, Int.reduceToNat, Int.reduceBEq, Int.reduceEq, law05_Few_f, law05_Few_c, Try.f29, Option.getD_some, mixed]
  exact rfl
noncomputable def law05_Few : Nat → Term → Int → Option Bool
  | 0, _, _ => none
  | n + 1, a0, a1 => (law05_Few_e n).1 a0 a1
theorem law05_Few_ok : ∀ (n : Nat) (a0 : Term) (a1 : Int) (r : Bool), law05_Few n a0 a1 = some r → FnC Try.prog 29 [(tyC Term.cel).enc a0, (tyI .i64).enc a1] (fun v => v = tyB.enc r)
  | 0, _, _, _, h => by cases h
  | n + 1, a0, a1, r, h => by
    exact fnC_run (M := law05_Few_m n) ⟨(tabA_cons_ok (ent1_ok (ref03_Size_ok n)) (tabA_cons_ok (ent1_ok (ref03_Depth_ok n)) (tabA_cons_ok (ent5_ok (ref03_Check_ok n)) tabA_nil_ok))), tabD_nil_ok, tabN_ok _, tabF_ok _, noY_ok, noE_ok⟩ Try.func29 rfl rfl ⟨(tyC Term.cel).nb 0 _, (tyI .i64).nb 0 _, trivial⟩ Try.ntmps29 Try.results29 (fun σ hs => outR_ok (P := Try.prog) (rs := [.tmp 4]) (t := tyB) (σ := σ) (r := r) hs) (((law05_Few_e n).2 a0 a1).trans h)

noncomputable def family_alike_Term_term_Same_m (n : Nat) : Mach Bool where
  body := (Try.f97.body).getD .skip
  P := Try.prog
  cl := tabA [(65, ent3 (tyL Term.row) (tyL Term.row) (tyF 26) tyB (slices_EqualFunc_Term_term_Same n))]
  cd := tabD []
  nrm := tabN []
  cut := tabF []
  n := n
  out := outR Try.prog [.tmp 6] tyB
theorem family_alike_Term_term_Same_f (n : Nat) : (family_alike_Term_term_Same_m n).P = Try.prog ∧ (family_alike_Term_term_Same_m n).cl = tabA [(65, ent3 (tyL Term.row) (tyL Term.row) (tyF 26) tyB (slices_EqualFunc_Term_term_Same n))] ∧ (family_alike_Term_term_Same_m n).cd = tabD [] ∧ (family_alike_Term_term_Same_m n).nrm = tabN [] ∧ (family_alike_Term_term_Same_m n).cut = tabF [] ∧ (family_alike_Term_term_Same_m n).n = n ∧ (family_alike_Term_term_Same_m n).out = outR Try.prog [.tmp 6] tyB := ⟨rfl, rfl, rfl, rfl, rfl, rfl, rfl⟩
theorem family_alike_Term_term_Same_c (n : Nat) : (family_alike_Term_term_Same_m n).body = (Try.f97.body).getD .skip := rfl
noncomputable def family_alike_Term_term_Same_e (n : Nat) : { B : (List Term) → (List Term) → Unit → Option Bool // ∀ (a0 : (List Term)) (a1 : (List Term)) (a2 : Unit), run (family_alike_Term_term_Same_m n) [.at []] { slots := [(tyL Term.row).enc a0, (tyL Term.row).enc a1, (tyF 26).enc a2] ++ List.replicate (18 - [(tyL Term.row).enc a0, (tyL Term.row).enc a1, (tyF 26).enc a2].length) .any, heap := [] } = B a0 a1 a2 } := by
  apply Subtype.mk
  intro a0 a1 a2
  simp (config := { maxSteps := 100000000 }) only [go_sem, Nat.reduceAdd, Nat.reduceSub, Nat.reduceLeDiff, Nat.reduceEqDiff, Nat.reduceBEq, Nat.reduceMul, Nat.reduceLT, Int.reduceLE, Int.reduceLT, Int.reduceToNat, Int.reduceBEq, Int.reduceEq, family_alike_Term_term_Same_f, family_alike_Term_term_Same_c, Try.f97, Option.getD_some, mixed]
  exact rfl
noncomputable def family_alike_Term_term_Same : Nat → (List Term) → (List Term) → Unit → Option Bool
  | 0, _, _, _ => none
  | n + 1, a0, a1, a2 => (family_alike_Term_term_Same_e n).1 a0 a1 a2
theorem family_alike_Term_term_Same_ok : ∀ (n : Nat) (a0 : (List Term)) (a1 : (List Term)) (a2 : Unit) (r : Bool), family_alike_Term_term_Same n a0 a1 a2 = some r → FnC Try.prog 97 [(tyL Term.row).enc a0, (tyL Term.row).enc a1, (tyF 26).enc a2] (fun v => v = tyB.enc r)
  | 0, _, _, _, _, h => by cases h
  | n + 1, a0, a1, a2, r, h => by
    exact fnC_run (M := family_alike_Term_term_Same_m n) ⟨(tabA_cons_ok (ent3_ok (slices_EqualFunc_Term_term_Same_ok n)) tabA_nil_ok), tabD_nil_ok, tabN_ok _, tabF_ok _, noY_ok, noE_ok⟩ Try.func97 rfl rfl ⟨(tyL Term.row).nb 0 _, (tyL Term.row).nb 0 _, (tyF 26).nb 0 _, trivial⟩ Try.ntmps97 Try.results97 (fun σ hs => outR_ok (P := Try.prog) (rs := [.tmp 6]) (t := tyB) (σ := σ) (r := r) hs) (((family_alike_Term_term_Same_e n).2 a0 a1 a2).trans h)

noncomputable def law13_PositivityArrows_1_m (n : Nat) : Mach Bool where
  body := (Try.f50.body).getD .skip
  P := Try.prog
  cl := tabA []
  cd := tabD [(43, entD (ent2 (tyL rowS) tyS tyB (ref07_Has n))), (48, entD (ent1 (tyC Term.cel) (tyL rowS) (term_Consts n)))]
  nrm := tabN []
  cut := tabF []
  n := n
  out := outR Try.prog [.tmp 3] tyB
  isE := tabI []
theorem law13_PositivityArrows_1_f (n : Nat) : (law13_PositivityArrows_1_m n).P = Try.prog ∧ (law13_PositivityArrows_1_m n).cl = tabA [] ∧ (law13_PositivityArrows_1_m n).cd = tabD [(43, entD (ent2 (tyL rowS) tyS tyB (ref07_Has n))), (48, entD (ent1 (tyC Term.cel) (tyL rowS) (term_Consts n)))] ∧ (law13_PositivityArrows_1_m n).nrm = tabN [] ∧ (law13_PositivityArrows_1_m n).cut = tabF [] ∧ (law13_PositivityArrows_1_m n).n = n ∧ (law13_PositivityArrows_1_m n).out = outR Try.prog [.tmp 3] tyB ∧ (law13_PositivityArrows_1_m n).isE = tabI [] := ⟨rfl, rfl, rfl, rfl, rfl, rfl, rfl, rfl⟩
theorem law13_PositivityArrows_1_c (n : Nat) : (law13_PositivityArrows_1_m n).body = (Try.f50.body).getD .skip := rfl
theorem law13_PositivityArrows_1_d (n : Nat) : drawP (law13_PositivityArrows_1_m n) [0, 1] = true := by kernel_rfl
noncomputable def law13_PositivityArrows_1_e (n : Nat) : { B : Term → Str → Option Bool // ∀ (a0 : Term) (a1 : Str), run (law13_PositivityArrows_1_m n) [.at []] { slots := [(tyC Term.cel).enc a0, (tyP cS).enc a1] ++ List.replicate (8 - [(tyC Term.cel).enc a0, (tyP cS).enc a1].length) .any, heap := [] } = B a0 a1 } := by
  apply Subtype.mk
  intro a0 a1
  simp (config := { maxSteps := 100000000 }) only [go_sem, Nat.reduceAdd, Nat.reduceSub, Nat.reduceLeDiff, Nat.reduceEqDiff, Nat.reduceBEq, Nat.reduceMul, Nat.reduceLT, Int.reduceLE, Int.reduceLT, Int.reduceToNat, Int.reduceBEq, Int.reduceEq, law13_PositivityArrows_1_f, law13_PositivityArrows_1_c, Try.f50, Option.getD_some, mixed, law13_PositivityArrows_1_d]
  exact rfl
noncomputable def law13_PositivityArrows_1 : Nat → Term → Str → Option Bool
  | 0, _, _ => none
  | n + 1, a0, a1 => (law13_PositivityArrows_1_e n).1 a0 a1
theorem law13_PositivityArrows_1_ok : ∀ (n : Nat) (a0 : Term) (a1 : Str) (r : Bool), law13_PositivityArrows_1 n a0 a1 = some r → FnC Try.prog 50 [(tyC Term.cel).enc a0, (tyP cS).enc a1] (fun v => v = tyB.enc r)
  | 0, _, _, _, h => by cases h
  | n + 1, a0, a1, r, h => by
    exact fnC_run (M := law13_PositivityArrows_1_m n) ⟨tabA_nil_ok, (tabD_cons_ok (ent2_okD (ref07_Has_ok n)) (tabD_cons_ok (ent1_okD (term_Consts_ok n)) tabD_nil_ok)), tabN_ok _, tabF_ok _, noY_ok, noE_ok⟩ Try.func50 rfl rfl ⟨(tyC Term.cel).nb 0 _, (tyP cS).nb 0 _, trivial⟩ Try.ntmps50 Try.results50 (fun σ hs => outR_ok (P := Try.prog) (rs := [.tmp 3]) (t := tyB) (σ := σ) (r := r) hs) (((law13_PositivityArrows_1_e n).2 a0 a1).trans h)

noncomputable def ref13_Positive_n1 : Nrm := ⟨[], [], [zA, zK, zA, zA, zA, zA, zK, zK, zA, zA, zA, zA, zA, zA, zA, zA, zA, zA, zA, zA, zA, zA, zA, zA, zA, zA, zA, zA, zA, zA, zA, zA, zA, zA, zA, zA, zA, zA, zA, zA, zA, zA, zA, zA, zA, zA, zA, zA, zA, zA, zA, zA, zA, zA, zA, zA], [oD, oA Term.row], none⟩
noncomputable def ref13_Positive_m (X : Term → Str → Option Bool) (n : Nat) : Mach Bool where
  body := (Try.f39.body).getD .skip
  P := Try.prog
  cl := tabA [(39, ent2 (tyC Term.cel) tyS tyB X), (74, entG [] osN (asT (tyC Term.cel) asN) (osC (oaT true Term.row) osN) (rsT (tyC Term.cel) (rsA 0 (fun (b : ((List Term) × Unit)) => b.1.length) rsN)) (fun (b : Unit) a => (ref05_Spine_h n) a.1)), (82, ent2 (tyC Term.cel) tyS tyB (ref13_Occurs n))]
  cd := tabD []
  nrm := tabN [([0, 1, 0, 1, 1, 1, 1, 1], ref13_Positive_n1)]
  cut := tabF []
  n := n
  out := outR Try.prog [.tmp 4] tyB
theorem ref13_Positive_f (X : Term → Str → Option Bool) (n : Nat) : (ref13_Positive_m X n).P = Try.prog ∧ (ref13_Positive_m X n).cl = tabA [(39, ent2 (tyC Term.cel) tyS tyB X), (74, entG [] osN (asT (tyC Term.cel) asN) (osC (oaT true Term.row) osN) (rsT (tyC Term.cel) (rsA 0 (fun (b : ((List Term) × Unit)) => b.1.length) rsN)) (fun (b : Unit) a => (ref05_Spine_h n) a.1)), (82, ent2 (tyC Term.cel) tyS tyB (ref13_Occurs n))] ∧ (ref13_Positive_m X n).cd = tabD [] ∧ (ref13_Positive_m X n).nrm = tabN [([0, 1, 0, 1, 1, 1, 1, 1], ref13_Positive_n1)] ∧ (ref13_Positive_m X n).cut = tabF [] ∧ (ref13_Positive_m X n).n = n ∧ (ref13_Positive_m X n).out = outR Try.prog [.tmp 4] tyB := ⟨rfl, rfl, rfl, rfl, rfl, rfl, rfl⟩
theorem ref13_Positive_c (X : Term → Str → Option Bool) (n : Nat) : (ref13_Positive_m X n).body = (Try.f39.body).getD .skip := rfl
noncomputable def ref13_Positive_b1 (X : Term → Str → Option Bool) (n : Nat) : { B : (Str → Int → (List Term) → Option Bool) → Str → Int → (List Term) → Option Bool // ∀ m X0, (∀ (v0 : Str) (v1 : Int) (r1 : List Term) (c1 : Nat), c1 = r1.length → run (ref13_Positive_m X n) [.lq m [0, 1, 0, 1, 1, 1, 1, 1], .blk 0, .cut [1, 1, 1, 1, 1, 1], .at [1, 1, 1, 1, 1, 1]] ⟨[.any, .str (sb v0), .any, .any, .any, .any, .acc 1 c1, .int .i64 v1, .any, .any, .any, .any, .any, .any, .any, .any, .any, .any, .any, .any, .any, .any, .any, .any, .any, .any, .any, .any, .any, .any, .any, .any, .any, .any, .any, .any, .any, .any, .any, .any, .any, .any, .any, .any, .any, .any, .any, .any, .any, .any, .any, .any, .any, .any, .any, .any], [.dead, .acc true 5 (mp Term.cells r1)], 0⟩ = X0 v0 v1 r1) → ∀ (v0 : Str) (v1 : Int) (r1 : List Term), run (ref13_Positive_m X n) [.at [0, 0, 1, 0, 1, 1, 1, 1, 1], .lp m [0, 1, 0, 1, 1, 1, 1, 1], .blk 0, .cut [1, 1, 1, 1, 1, 1], .at [1, 1, 1, 1, 1, 1]] ⟨[.any, .str (sb v0), .any, .any, .any, .any, .acc 1 r1.length, .int .i64 v1, .any, .any, .any, .any, .any, .any, .any, .any, .any, .any, .any, .any, .any, .any, .any, .any, .any, .any, .any, .any, .any, .any, .any, .any, .any, .any, .any, .any, .any, .any, .any, .any, .any, .any, .any, .any, .any, .any, .any, .any, .any, .any, .any, .any, .any, .any, .any, .any], [.dead, .acc true 5 (mp Term.cells r1)], 0⟩ = B X0 v0 v1 r1 } := by
  apply Subtype.mk
  intro m X0 ih v0 v1 r1
  simp (config := { maxSteps := 100000000 }) only [go_sem, Nat.reduceAdd, Nat.reduceSub, Nat.reduceLeDiff, Nat.reduceEqDiff, Nat.reduceBEq, Nat.reduceMul, Nat.reduceLT, Int.reduceLE, Int.reduceLT, Int.reduceToNat, Int.reduceBEq, Int.reduceEq, ref13_Positive_f, ref13_Positive_c, Try.f39, Option.getD_some, mixed, ref13_Positive_n1, ih]
  exact rfl
noncomputable def ref13_Positive_l1 (X : Term → Str → Option Bool) (n : Nat) : Nat → Str → Int → (List Term) → Option Bool
  | 0, _, _, _ => none
  | m + 1, v0, v1, r1 => (ref13_Positive_b1 X n).1 (ref13_Positive_l1 X n m) v0 v1 r1
theorem ref13_Positive_l1_eq (X : Term → Str → Option Bool) (n : Nat) : ∀ (m : Nat), (∀ (v0 : Str) (v1 : Int) (r1 : List Term) (c1 : Nat), c1 = r1.length → run (ref13_Positive_m X n) [.lq m [0, 1, 0, 1, 1, 1, 1, 1], .blk 0, .cut [1, 1, 1, 1, 1, 1], .at [1, 1, 1, 1, 1, 1]] ⟨[.any, .str (sb v0), .any, .any, .any, .any, .acc 1 c1, .int .i64 v1, .any, .any, .any, .any, .any, .any, .any, .any, .any, .any, .any, .any, .any, .any, .any, .any, .any, .any, .any, .any, .any, .any, .any, .any, .any, .any, .any, .any, .any, .any, .any, .any, .any, .any, .any, .any, .any, .any, .any, .any, .any, .any, .any, .any, .any, .any, .any, .any], [.dead, .acc true 5 (mp Term.cells r1)], 0⟩ = ref13_Positive_l1 X n m v0 v1 r1)
  | 0 => by intros; exact run_lq_zero
  | m + 1 => by
    have ih := ref13_Positive_l1_eq X n m
    intro v0 v1 r1 c1 ec1
    subst ec1
    rw [run_lq_succ]
    exact (ref13_Positive_b1 X n).2  m _  ih v0 v1 r1
noncomputable def ref13_Positive_e (X : Term → Str → Option Bool) (n : Nat) : { B : Term → Str → Option Bool // ∀ (a0 : Term) (a1 : Str), run (ref13_Positive_m X n) [.at []] { slots := [(tyC Term.cel).enc a0, tyS.enc a1] ++ List.replicate (56 - [(tyC Term.cel).enc a0, tyS.enc a1].length) .any, heap := [] } = B a0 a1 } := by
  apply Subtype.mk
  intro a0 a1
  simp (config := { maxSteps := 100000000 }) only [go_sem, Nat.reduceAdd, Nat.reduceSub, Nat.reduceLeDiff, Nat.reduceEqDiff, Nat.reduceBEq, Nat.reduceMul, Nat.reduceLT, Int.reduceLE, Int.reduceLT, Int.reduceToNat, Int.reduceBEq, Int.reduceEq, ref13_Positive_f, ref13_Positive_c, Try.f39, Option.getD_some, mixed, ref13_Positive_n1, ref13_Positive_l1_eq X n]
  exact rfl
noncomputable def ref13_Positive : Nat → Term → Str → Option Bool
  | 0, _, _ => none
  | n + 1, a0, a1 => (ref13_Positive_e (ref13_Positive n) n).1 a0 a1
theorem ref13_Positive_ok : ∀ (n : Nat) (a0 : Term) (a1 : Str) (r : Bool), ref13_Positive n a0 a1 = some r → FnC Try.prog 39 [(tyC Term.cel).enc a0, tyS.enc a1] (fun v => v = tyB.enc r)
  | 0, _, _, _, h => by cases h
  | n + 1, a0, a1, r, h => by
    have ih_ref13_Positive := ref13_Positive_ok n
    exact fnC_run (M := ref13_Positive_m (ref13_Positive n) n) ⟨(tabA_cons_ok (ent2_ok (ih_ref13_Positive)) (tabA_cons_ok (entG_ok (fun b a r h => (ref05_Spine_h_ok n) a.1 r h)) (tabA_cons_ok (ent2_ok (ref13_Occurs_ok n)) tabA_nil_ok))), tabD_nil_ok, tabN_ok _, tabF_ok _, noY_ok, noE_ok⟩ Try.func39 rfl rfl ⟨(tyC Term.cel).nb 0 _, tyS.nb 0 _, trivial⟩ Try.ntmps39 Try.results39 (fun σ hs => outR_ok (P := Try.prog) (rs := [.tmp 4]) (t := tyB) (σ := σ) (r := r) hs) (((ref13_Positive_e (ref13_Positive n) n).2 a0 a1).trans h)
end Go.Abs
namespace Go.Abs
open Go.Proofs
set_option maxRecDepth 100000
set_option maxHeartbeats 4000000
set_option linter.unusedSimpArgs false
set_option linter.unusedVariables false
noncomputable def family_shape_result_m (n : Nat) : Mach ((List Term) × Bool) where
  body := (Try.f98.body).getD .skip
  P := Try.prog
  cl := tabA [(72, ent1 (tyC Term.cel) (ty2 (tyC Term.cel) (tyL Term.row)) (telescope_Spine n))]
  cd := tabD [(26, entD (ent2 (tyC Term.cel) (tyC Term.cel) tyB (term_Same n))), (47, entD (ent2 (tyI .i64) (tyI .i64) (tyL Term.row) (telescope_Vars n))), (97, entD (ent3 (tyL Term.row) (tyL Term.row) (tyF 26) tyB (family_alike_Term_term_Same n)))]
  nrm := tabN []
  cut := tabF []
  n := n
  out := outR Try.prog [.tmp 6, .tmp 7] (ty2 (tyL Term.row) tyB)
  isE := tabI []
theorem family_shape_result_f (n : Nat) : (family_shape_result_m n).P = Try.prog ∧ (family_shape_result_m n).cl = tabA [(72, ent1 (tyC Term.cel) (ty2 (tyC Term.cel) (tyL Term.row)) (telescope_Spine n))] ∧ (family_shape_result_m n).cd = tabD [(26, entD (ent2 (tyC Term.cel) (tyC Term.cel) tyB (term_Same n))), (47, entD (ent2 (tyI .i64) (tyI .i64) (tyL Term.row) (telescope_Vars n))), (97, entD (ent3 (tyL Term.row) (tyL Term.row) (tyF 26) tyB (family_alike_Term_term_Same n)))] ∧ (family_shape_result_m n).nrm = tabN [] ∧ (family_shape_result_m n).cut = tabF [] ∧ (family_shape_result_m n).n = n ∧ (family_shape_result_m n).out = outR Try.prog [.tmp 6, .tmp 7] (ty2 (tyL Term.row) tyB) ∧ (family_shape_result_m n).isE = tabI [] := ⟨rfl, rfl, rfl, rfl, rfl, rfl, rfl, rfl⟩
theorem family_shape_result_c (n : Nat) : (family_shape_result_m n).body = (Try.f98.body).getD .skip := rfl
theorem family_shape_result_d (n : Nat) : drawP (family_shape_result_m n) [0, 0, 1, 1, 1] = true := by kernel_rfl
noncomputable def family_shape_result_e (n : Nat) : { B : FamilyShape → Term → Int → Option ((List Term) × Bool) // ∀ (a0 : FamilyShape) (a1 : Term) (a2 : Int), run (family_shape_result_m n) [.at []] { slots := [(tyC FamilyShape.cel).enc a0, (tyC Term.cel).enc a1, (tyI .i64).enc a2] ++ List.replicate (46 - [(tyC FamilyShape.cel).enc a0, (tyC Term.cel).enc a1, (tyI .i64).enc a2].length) .any, heap := [] } = B a0 a1 a2 } := by
  apply Subtype.mk
  intro a0 a1 a2
  simp (config := { maxSteps := 100000000 }) only [go_sem, Nat.reduceAdd, Nat.reduceSub, Nat.reduceLeDiff, Nat.reduceEqDiff, Nat.reduceBEq, Nat.reduceMul, Nat.reduceLT, Int.reduceLE, Int.reduceLT, Int.reduceToNat, Int.reduceBEq, Int.reduceEq, family_shape_result_f, family_shape_result_c, Try.f98, Option.getD_some, mixed, family_shape_result_d]
  exact rfl
noncomputable def family_shape_result : Nat → FamilyShape → Term → Int → Option ((List Term) × Bool)
  | 0, _, _, _ => none
  | n + 1, a0, a1, a2 => (family_shape_result_e n).1 a0 a1 a2
theorem family_shape_result_ok : ∀ (n : Nat) (a0 : FamilyShape) (a1 : Term) (a2 : Int) (r : ((List Term) × Bool)), family_shape_result n a0 a1 a2 = some r → FnC Try.prog 98 [(tyC FamilyShape.cel).enc a0, (tyC Term.cel).enc a1, (tyI .i64).enc a2] (fun v => v = (ty2 (tyL Term.row) tyB).enc r)
  | 0, _, _, _, _, h => by cases h
  | n + 1, a0, a1, a2, r, h => by
    exact fnC_run (M := family_shape_result_m n) ⟨(tabA_cons_ok (ent1_ok (telescope_Spine_ok n)) tabA_nil_ok), (tabD_cons_ok (ent2_okD (term_Same_ok n)) (tabD_cons_ok (ent2_okD (telescope_Vars_ok n)) (tabD_cons_ok (ent3_okD (family_alike_Term_term_Same_ok n)) tabD_nil_ok))), tabN_ok _, tabF_ok _, noY_ok, noE_ok⟩ Try.func98 rfl rfl ⟨(tyC FamilyShape.cel).nb 0 _, (tyC Term.cel).nb 0 _, (tyI .i64).nb 0 _, trivial⟩ Try.ntmps98 Try.results98 (fun σ hs => outR_ok (P := Try.prog) (rs := [.tmp 6, .tmp 7]) (t := (ty2 (tyL Term.row) tyB)) (σ := σ) (r := r) hs) (((family_shape_result_e n).2 a0 a1 a2).trans h)
end Go.Abs
namespace Go.Abs
open Go.Proofs
set_option maxRecDepth 100000
set_option maxHeartbeats 4000000
set_option linter.unusedSimpArgs false
set_option linter.unusedVariables false
noncomputable def family_shape_recursive_n1 : Nrm := ⟨[(5, 3, true)], [], [zA, zA, zK, zA, zA, zK, zA, zA, zA, zA, zA, zA, zT (tyL Term.row), zK, zK, zA, zA, zA, zA, zA, zA, zA, zA, zA, zA, zA, zA, zA, zA, zA, zA, zA, zA, zA, zA, zA, zA, zA, zA, zA, zA, zA, zA, zA, zA], [oT FamilyShape.cel, oA RecField.row], none⟩
noncomputable def family_shape_recursive_m (n : Nat) : Mach (List RecField) where
  body := (Try.f99.body).getD .skip
  P := Try.prog
  cl := tabA [(49, ent1 (tyC Term.cel) (ty2 (tyL Term.row) (tyC Term.cel)) (telescope_All n)), (98, ent3 (tyC FamilyShape.cel) (tyC Term.cel) (tyI .i64) (ty2 (tyL Term.row) tyB) (family_shape_result n))]
  cd := tabD []
  nrm := tabN [([0, 1, 0, 1, 1, 0, 1], family_shape_recursive_n1)]
  cut := tabF []
  n := n
  out := outR Try.prog [.tmp 4] (tyL RecField.row)
theorem family_shape_recursive_f (n : Nat) : (family_shape_recursive_m n).P = Try.prog ∧ (family_shape_recursive_m n).cl = tabA [(49, ent1 (tyC Term.cel) (ty2 (tyL Term.row) (tyC Term.cel)) (telescope_All n)), (98, ent3 (tyC FamilyShape.cel) (tyC Term.cel) (tyI .i64) (ty2 (tyL Term.row) tyB) (family_shape_result n))] ∧ (family_shape_recursive_m n).cd = tabD [] ∧ (family_shape_recursive_m n).nrm = tabN [([0, 1, 0, 1, 1, 0, 1], family_shape_recursive_n1)] ∧ (family_shape_recursive_m n).cut = tabF [] ∧ (family_shape_recursive_m n).n = n ∧ (family_shape_recursive_m n).out = outR Try.prog [.tmp 4] (tyL RecField.row) := ⟨rfl, rfl, rfl, rfl, rfl, rfl, rfl⟩
theorem family_shape_recursive_c (n : Nat) : (family_shape_recursive_m n).body = (Try.f99.body).getD .skip := rfl
noncomputable def family_shape_recursive_b1 (n : Nat) : { B : ((List Term) → Int → Int → FamilyShape → (List RecField) → Option (List RecField)) → (List Term) → Int → Int → FamilyShape → (List RecField) → Option (List RecField) // ∀ m X0, (∀ (v0 : List Term) (v1 : Int) (v2 : Int) (o0 : FamilyShape) (r1 : List RecField) (c1 : Nat), c1 = r1.length → run (family_shape_recursive_m n) [.lq m [0, 1, 0, 1, 1, 0, 1], .blk 0, .cut [1, 1, 1, 0, 1], .at [1, 1, 1, 0, 1]] ⟨[.any, .any, .ptr 0 0, .any, .any, .acc 1 c1, .any, .any, .any, .any, .any, .any, .lst false 5 (mp Term.cells v0), .int .i64 v1, .int .i64 v2, .any, .any, .any, .any, .any, .any, .any, .any, .any, .any, .any, .any, .any, .any, .any, .any, .any, .any, .any, .any, .any, .any, .any, .any, .any, .any, .any, .any, .any, .any], [.cells (FamilyShape.cells o0), .acc true 3 (mp RecField.cells r1)], 0⟩ = X0 v0 v1 v2 o0 r1) → ∀ (v0 : List Term) (v1 : Int) (v2 : Int) (o0 : FamilyShape) (r1 : List RecField), run (family_shape_recursive_m n) [.at [0, 0, 1, 0, 1, 1, 0, 1], .lp m [0, 1, 0, 1, 1, 0, 1], .blk 0, .cut [1, 1, 1, 0, 1], .at [1, 1, 1, 0, 1]] ⟨[.any, .any, .ptr 0 0, .any, .any, .acc 1 r1.length, .any, .any, .any, .any, .any, .any, .lst false 5 (mp Term.cells v0), .int .i64 v1, .int .i64 v2, .any, .any, .any, .any, .any, .any, .any, .any, .any, .any, .any, .any, .any, .any, .any, .any, .any, .any, .any, .any, .any, .any, .any, .any, .any, .any, .any, .any, .any, .any], [.cells (FamilyShape.cells o0), .acc true 3 (mp RecField.cells r1)], 0⟩ = B X0 v0 v1 v2 o0 r1 } := by
  apply Subtype.mk
  intro m X0 ih v0 v1 v2 o0 r1
  simp (config := { maxSteps := 100000000 }) only [go_sem, Nat.reduceAdd, Nat.reduceSub, Nat.reduceLeDiff, Nat.reduceEqDiff, Nat.reduceBEq, Nat.reduceMul, Nat.reduceLT, Int.reduceLE, Int.reduceLT, Int.reduceToNat, Int.reduceBEq, Int.reduceEq, family_shape_recursive_f, family_shape_recursive_c, Try.f99, Option.getD_some, mixed, family_shape_recursive_n1, ih]
  exact rfl
noncomputable def family_shape_recursive_l1 (n : Nat) : Nat → (List Term) → Int → Int → FamilyShape → (List RecField) → Option (List RecField)
  | 0, _, _, _, _, _ => none
  | m + 1, v0, v1, v2, o0, r1 => (family_shape_recursive_b1 n).1 (family_shape_recursive_l1 n m) v0 v1 v2 o0 r1
theorem family_shape_recursive_l1_eq (n : Nat) : ∀ (m : Nat), (∀ (v0 : List Term) (v1 : Int) (v2 : Int) (o0 : FamilyShape) (r1 : List RecField) (c1 : Nat), c1 = r1.length → run (family_shape_recursive_m n) [.lq m [0, 1, 0, 1, 1, 0, 1], .blk 0, .cut [1, 1, 1, 0, 1], .at [1, 1, 1, 0, 1]] ⟨[.any, .any, .ptr 0 0, .any, .any, .acc 1 c1, .any, .any, .any, .any, .any, .any, .lst false 5 (mp Term.cells v0), .int .i64 v1, .int .i64 v2, .any, .any, .any, .any, .any, .any, .any, .any, .any, .any, .any, .any, .any, .any, .any, .any, .any, .any, .any, .any, .any, .any, .any, .any, .any, .any, .any, .any, .any, .any], [.cells (FamilyShape.cells o0), .acc true 3 (mp RecField.cells r1)], 0⟩ = family_shape_recursive_l1 n m v0 v1 v2 o0 r1)
  | 0 => by intros; exact run_lq_zero
  | m + 1 => by
    have ih := family_shape_recursive_l1_eq n m
    intro v0 v1 v2 o0 r1 c1 ec1
    subst ec1
    rw [run_lq_succ]
    exact (family_shape_recursive_b1 n).2  m _  ih v0 v1 v2 o0 r1
noncomputable def family_shape_recursive_e (n : Nat) : { B : FamilyShape → (List Term) → Option (List RecField) // ∀ (a0 : FamilyShape) (a1 : (List Term)), run (family_shape_recursive_m n) [.at []] { slots := [(tyC FamilyShape.cel).enc a0, (tyL Term.row).enc a1] ++ List.replicate (45 - [(tyC FamilyShape.cel).enc a0, (tyL Term.row).enc a1].length) .any, heap := [] } = B a0 a1 } := by
  apply Subtype.mk
  intro a0 a1
  simp (config := { maxSteps := 100000000 }) only [go_sem, Nat.reduceAdd, Nat.reduceSub, Nat.reduceLeDiff, Nat.reduceEqDiff, Nat.reduceBEq, Nat.reduceMul, Nat.reduceLT, Int.reduceLE, Int.reduceLT, Int.reduceToNat, Int.reduceBEq, Int.reduceEq, family_shape_recursive_f, family_shape_recursive_c, Try.f99, Option.getD_some, mixed, family_shape_recursive_n1, family_shape_recursive_l1_eq n]
  exact rfl
noncomputable def family_shape_recursive : Nat → FamilyShape → (List Term) → Option (List RecField)
  | 0, _, _ => none
  | n + 1, a0, a1 => (family_shape_recursive_e n).1 a0 a1
theorem family_shape_recursive_ok : ∀ (n : Nat) (a0 : FamilyShape) (a1 : (List Term)) (r : (List RecField)), family_shape_recursive n a0 a1 = some r → FnC Try.prog 99 [(tyC FamilyShape.cel).enc a0, (tyL Term.row).enc a1] (fun v => v = (tyL RecField.row).enc r)
  | 0, _, _, _, h => by cases h
  | n + 1, a0, a1, r, h => by
    exact fnC_run (M := family_shape_recursive_m n) ⟨(tabA_cons_ok (ent1_ok (telescope_All_ok n)) (tabA_cons_ok (ent3_ok (family_shape_result_ok n)) tabA_nil_ok)), tabD_nil_ok, tabN_ok _, tabF_ok _, noY_ok, noE_ok⟩ Try.func99 rfl rfl ⟨(tyC FamilyShape.cel).nb 0 _, (tyL Term.row).nb 0 _, trivial⟩ Try.ntmps99 Try.results99 (fun σ hs => outR_ok (P := Try.prog) (rs := [.tmp 4]) (t := (tyL RecField.row)) (σ := σ) (r := r) hs) (((family_shape_recursive_e n).2 a0 a1).trans h)
end Go.Abs
namespace Go.Abs
open Go.Proofs
set_option maxRecDepth 100000
set_option maxHeartbeats 4000000
set_option linter.unusedSimpArgs false
set_option linter.unusedVariables false
noncomputable def family_shape_ctor_m (n : Nat) : Mach (CtorForm × Bool) where
  body := (Try.f57.body).getD .skip
  P := Try.prog
  cl := tabA [(49, ent1 (tyC Term.cel) (ty2 (tyL Term.row) (tyC Term.cel)) (telescope_All n)), (98, ent3 (tyC FamilyShape.cel) (tyC Term.cel) (tyI .i64) (ty2 (tyL Term.row) tyB) (family_shape_result n))]
  cd := tabD [(97, entD (ent3 (tyL Term.row) (tyL Term.row) (tyF 26) tyB (family_alike_Term_term_Same n))), (99, entD (ent2 (tyC FamilyShape.cel) (tyL Term.row) (tyL RecField.row) (family_shape_recursive n)))]
  nrm := tabN []
  cut := tabF []
  n := n
  out := outR Try.prog [.cell 4 60, .tmp 5] (ty2 (tyC CtorForm.cel) tyB)
  isE := tabI []
theorem family_shape_ctor_f (n : Nat) : (family_shape_ctor_m n).P = Try.prog ∧ (family_shape_ctor_m n).cl = tabA [(49, ent1 (tyC Term.cel) (ty2 (tyL Term.row) (tyC Term.cel)) (telescope_All n)), (98, ent3 (tyC FamilyShape.cel) (tyC Term.cel) (tyI .i64) (ty2 (tyL Term.row) tyB) (family_shape_result n))] ∧ (family_shape_ctor_m n).cd = tabD [(97, entD (ent3 (tyL Term.row) (tyL Term.row) (tyF 26) tyB (family_alike_Term_term_Same n))), (99, entD (ent2 (tyC FamilyShape.cel) (tyL Term.row) (tyL RecField.row) (family_shape_recursive n)))] ∧ (family_shape_ctor_m n).nrm = tabN [] ∧ (family_shape_ctor_m n).cut = tabF [] ∧ (family_shape_ctor_m n).n = n ∧ (family_shape_ctor_m n).out = outR Try.prog [.cell 4 60, .tmp 5] (ty2 (tyC CtorForm.cel) tyB) ∧ (family_shape_ctor_m n).isE = tabI [] := ⟨rfl, rfl, rfl, rfl, rfl, rfl, rfl, rfl⟩
theorem family_shape_ctor_c (n : Nat) : (family_shape_ctor_m n).body = (Try.f57.body).getD .skip := rfl
theorem family_shape_ctor_d (n : Nat) : drawP (family_shape_ctor_m n) [0, 0, 1, 1, 1] = true ∧ drawP (family_shape_ctor_m n) [0, 1, 1, 1, 1, 1, 1, 1] = true := ⟨by kernel_rfl, by kernel_rfl⟩
theorem family_shape_ctor_o (n : Nat) : ordP (family_shape_ctor_m n) [0, 1, 1, 1, 1, 1, 1, 1] 1 8 = true ∧ ordP (family_shape_ctor_m n) [0, 1, 1, 1, 1, 1, 1, 1] 3 8 = true := ⟨by kernel_rfl, by kernel_rfl⟩
noncomputable def family_shape_ctor_e (n : Nat) : { B : FamilyShape → Ctor → Option (CtorForm × Bool) // ∀ (a0 : FamilyShape) (a1 : Ctor), run (family_shape_ctor_m n) [.at []] { slots := [(tyC FamilyShape.cel).enc a0, (tyC Ctor.cel).enc a1] ++ List.replicate (57 - [(tyC FamilyShape.cel).enc a0, (tyC Ctor.cel).enc a1].length) .any, heap := [] } = B a0 a1 } := by
  apply Subtype.mk
  intro a0 a1
  simp (config := { maxSteps := 100000000 }) only [go_sem, Nat.reduceAdd, Nat.reduceSub, Nat.reduceLeDiff, Nat.reduceEqDiff, Nat.reduceBEq, Nat.reduceMul, Nat.reduceLT, Int.reduceLE, Int.reduceLT, Int.reduceToNat, Int.reduceBEq, Int.reduceEq, family_shape_ctor_f, family_shape_ctor_c, Try.f57, Option.getD_some, mixed, family_shape_ctor_d, family_shape_ctor_o]
  exact rfl
noncomputable def family_shape_ctor : Nat → FamilyShape → Ctor → Option (CtorForm × Bool)
  | 0, _, _ => none
  | n + 1, a0, a1 => (family_shape_ctor_e n).1 a0 a1
theorem family_shape_ctor_ok : ∀ (n : Nat) (a0 : FamilyShape) (a1 : Ctor) (r : (CtorForm × Bool)), family_shape_ctor n a0 a1 = some r → FnC Try.prog 57 [(tyC FamilyShape.cel).enc a0, (tyC Ctor.cel).enc a1] (fun v => v = (ty2 (tyC CtorForm.cel) tyB).enc r)
  | 0, _, _, _, h => by cases h
  | n + 1, a0, a1, r, h => by
    exact fnC_run (M := family_shape_ctor_m n) ⟨(tabA_cons_ok (ent1_ok (telescope_All_ok n)) (tabA_cons_ok (ent3_ok (family_shape_result_ok n)) tabA_nil_ok)), (tabD_cons_ok (ent3_okD (family_alike_Term_term_Same_ok n)) (tabD_cons_ok (ent2_okD (family_shape_recursive_ok n)) tabD_nil_ok)), tabN_ok _, tabF_ok _, noY_ok, noE_ok⟩ Try.func57 rfl rfl ⟨(tyC FamilyShape.cel).nb 0 _, (tyC Ctor.cel).nb 0 _, trivial⟩ Try.ntmps57 Try.results57 (fun σ hs => outR_ok (P := Try.prog) (rs := [.cell 4 60, .tmp 5]) (t := (ty2 (tyC CtorForm.cel) tyB)) (σ := σ) (r := r) hs) (((family_shape_ctor_e n).2 a0 a1).trans h)
end Go.Abs
namespace Go.Abs
open Go.Proofs
set_option maxRecDepth 100000
set_option maxHeartbeats 4000000
set_option linter.unusedSimpArgs false
set_option linter.unusedVariables false
noncomputable def family_Analyse_n1 : Nrm := ⟨[], [(3, 9, 4)], [zA, zA, zK, zA, zA, zA, zK, zK, zA, zA, zA, zA, zA, zA, zA, zA, zA, zA, zA, zA, zA, zA, zA, zA, zA, zA, zA, zA, zA, zA, zA, zA, zA, zA, zA, zA, zA, zA, zA, zA, zA, zA, zA, zA, zA, zA, zA, zA, zA, zA, zA, zA, zA, zA, zA, zA, zA, zA, zA, zA, zA, zA, zA, zA, zA, zA, zA, zA, zA, zT (tyL Ctor.row), zK, zK, zA, zA, zA, zA, zA, zA, zA, zA, zA, zA, zA, zA, zA, zA, zA, zA, zA, zA, zA, zA], [oD, oK, oD, oC [zK, zK, zT (tyL Term.row), zT (tyL Term.row), zK, zK, zK, zT (tyL Level.row), zT (tyL Term.row), zK], oT FamilyShape.cel, oA CtorForm.row], none⟩
noncomputable def family_Analyse_m (n : Nat) : Mach (Family × Int) where
  body := (Try.f18.body).getD .skip
  P := Try.prog
  cl := tabA [(49, ent1 (tyC Term.cel) (ty2 (tyL Term.row) (tyC Term.cel)) (telescope_All n)), (57, ent2 (tyC FamilyShape.cel) (tyC Ctor.cel) (ty2 (tyC CtorForm.cel) tyB) (family_shape_ctor n))]
  cd := tabD [(56, entD (ent2 tyS (tyI .i64) (tyC Term.cel) (family_itself n)))]
  nrm := tabN [([0, 1, 0, 1, 1, 1, 1, 1, 1], family_Analyse_n1)]
  cut := tabF []
  n := n
  out := outR Try.prog [.cell 2 36, .tmp 3] (ty2 (tyC Family.cel) (tyI .i64))
  isE := tabI []
theorem family_Analyse_f (n : Nat) : (family_Analyse_m n).P = Try.prog ∧ (family_Analyse_m n).cl = tabA [(49, ent1 (tyC Term.cel) (ty2 (tyL Term.row) (tyC Term.cel)) (telescope_All n)), (57, ent2 (tyC FamilyShape.cel) (tyC Ctor.cel) (ty2 (tyC CtorForm.cel) tyB) (family_shape_ctor n))] ∧ (family_Analyse_m n).cd = tabD [(56, entD (ent2 tyS (tyI .i64) (tyC Term.cel) (family_itself n)))] ∧ (family_Analyse_m n).nrm = tabN [([0, 1, 0, 1, 1, 1, 1, 1, 1], family_Analyse_n1)] ∧ (family_Analyse_m n).cut = tabF [] ∧ (family_Analyse_m n).n = n ∧ (family_Analyse_m n).out = outR Try.prog [.cell 2 36, .tmp 3] (ty2 (tyC Family.cel) (tyI .i64)) ∧ (family_Analyse_m n).isE = tabI [] := ⟨rfl, rfl, rfl, rfl, rfl, rfl, rfl, rfl⟩
theorem family_Analyse_c (n : Nat) : (family_Analyse_m n).body = (Try.f18.body).getD .skip := rfl
theorem family_Analyse_d (n : Nat) : drawP (family_Analyse_m n) [0, 1, 1, 1, 1] = true ∧ drawP (family_Analyse_m n) [0, 1, 1, 1, 1, 1] = true := ⟨by kernel_rfl, by kernel_rfl⟩
theorem family_Analyse_o (n : Nat) : ordP (family_Analyse_m n) [0, 1, 1, 1, 1] 1 15 = true ∧ ordP (family_Analyse_m n) [0, 1, 1, 1, 1] 3 15 = true ∧ ordP (family_Analyse_m n) [0, 1, 1, 1, 1] 6 15 = true ∧ ordP (family_Analyse_m n) [0, 1, 1, 1, 1] 7 15 = true ∧ ordP (family_Analyse_m n) [0, 1, 1, 1, 1] 10 15 = true ∧ ordP (family_Analyse_m n) [0, 1, 1, 1, 1] 11 15 = true ∧ ordP (family_Analyse_m n) [0, 1, 1, 1, 1] 12 15 = true ∧ ordP (family_Analyse_m n) [0, 1, 1, 1, 1] 14 15 = true ∧ ordP (family_Analyse_m n) [0, 1, 1, 1, 1, 1] 1 12 = true ∧ ordP (family_Analyse_m n) [0, 1, 1, 1, 1, 1] 3 12 = true ∧ ordP (family_Analyse_m n) [0, 1, 1, 1, 1, 1] 6 12 = true ∧ ordP (family_Analyse_m n) [0, 1, 1, 1, 1, 1] 8 12 = true ∧ ordP (family_Analyse_m n) [0, 1, 1, 1, 1, 1] 9 12 = true ∧ ordP (family_Analyse_m n) [0, 1, 1, 1, 1, 1] 11 12 = true := ⟨by kernel_rfl, by kernel_rfl, by kernel_rfl, by kernel_rfl, by kernel_rfl, by kernel_rfl, by kernel_rfl, by kernel_rfl, by kernel_rfl, by kernel_rfl, by kernel_rfl, by kernel_rfl, by kernel_rfl, by kernel_rfl⟩
noncomputable def family_Analyse_b1 (n : Nat) : { B : ((List Ctor) → Int → Int → Str → Int → (List Term) → (List Term) → Int → Int → Str → (List Level) → (List Term) → FamilyShape → (List CtorForm) → Option (Family × Int)) → (List Ctor) → Int → Int → Str → Int → (List Term) → (List Term) → Int → Int → Str → (List Level) → (List Term) → FamilyShape → (List CtorForm) → Option (Family × Int) // ∀ m X0, (∀ (v0 : List Ctor) (v1 : Int) (v2 : Int) (v3 : Str) (v4 : Int) (v5 : List Term) (v6 : List Term) (v7 : Int) (v8 : Int) (v9 : Str) (v10 : List Level) (v11 : List Term) (o4 : FamilyShape) (r5 : List CtorForm) (c5 : Nat), c5 = r5.length → run (family_Analyse_m n) [.lq m [0, 1, 0, 1, 1, 1, 1, 1, 1], .blk 0, .cut [1, 1, 1, 1, 1, 1, 1], .at [1, 1, 1, 1, 1, 1, 1]] ⟨[.any, .any, .ptr 1 0, .any, .any, .any, .ptr 3 0, .ptr 4 0, .any, .any, .any, .any, .any, .any, .any, .any, .any, .any, .any, .any, .any, .any, .any, .any, .any, .any, .any, .any, .any, .any, .any, .any, .any, .any, .any, .any, .any, .any, .any, .any, .any, .any, .any, .any, .any, .any, .any, .any, .any, .any, .any, .any, .any, .any, .any, .any, .any, .any, .any, .any, .any, .any, .any, .any, .any, .any, .any, .any, .any, .lst false 6 (mp Ctor.cells v0), .int .i64 v1, .int .i64 v2, .any, .any, .any, .any, .any, .any, .any, .any, .any, .any, .any, .any, .any, .any, .any, .any, .any, .any, .any, .any], [.dead, .cells [.str (sb []), .int .i64 0, .lst true 0 [], .lst true 0 [], .int .i64 0, .int .i64 0, .str (sb []), .lst true 0 [], .lst true 0 [], .lst true 0 []], .dead, .cells [.str (sb v3), .int .i64 v4, .lst false 5 (mp Term.cells v5), .lst false 5 (mp Term.cells v6), .int .i64 v7, .int .i64 v8, .str (sb v9), .lst false 2 (mp Level.cells v10), .lst false 5 (mp Term.cells v11), .acc 5 c5], .cells (FamilyShape.cells o4), .acc true 4 (mp CtorForm.cells r5)], 0⟩ = X0 v0 v1 v2 v3 v4 v5 v6 v7 v8 v9 v10 v11 o4 r5) → ∀ (v0 : List Ctor) (v1 : Int) (v2 : Int) (v3 : Str) (v4 : Int) (v5 : List Term) (v6 : List Term) (v7 : Int) (v8 : Int) (v9 : Str) (v10 : List Level) (v11 : List Term) (o4 : FamilyShape) (r5 : List CtorForm), run (family_Analyse_m n) [.at [0, 0, 1, 0, 1, 1, 1, 1, 1, 1], .lp m [0, 1, 0, 1, 1, 1, 1, 1, 1], .blk 0, .cut [1, 1, 1, 1, 1, 1, 1], .at [1, 1, 1, 1, 1, 1, 1]] ⟨[.any, .any, .ptr 1 0, .any, .any, .any, .ptr 3 0, .ptr 4 0, .any, .any, .any, .any, .any, .any, .any, .any, .any, .any, .any, .any, .any, .any, .any, .any, .any, .any, .any, .any, .any, .any, .any, .any, .any, .any, .any, .any, .any, .any, .any, .any, .any, .any, .any, .any, .any, .any, .any, .any, .any, .any, .any, .any, .any, .any, .any, .any, .any, .any, .any, .any, .any, .any, .any, .any, .any, .any, .any, .any, .any, .lst false 6 (mp Ctor.cells v0), .int .i64 v1, .int .i64 v2, .any, .any, .any, .any, .any, .any, .any, .any, .any, .any, .any, .any, .any, .any, .any, .any, .any, .any, .any, .any], [.dead, .cells [.str (sb []), .int .i64 0, .lst true 0 [], .lst true 0 [], .int .i64 0, .int .i64 0, .str (sb []), .lst true 0 [], .lst true 0 [], .lst true 0 []], .dead, .cells [.str (sb v3), .int .i64 v4, .lst false 5 (mp Term.cells v5), .lst false 5 (mp Term.cells v6), .int .i64 v7, .int .i64 v8, .str (sb v9), .lst false 2 (mp Level.cells v10), .lst false 5 (mp Term.cells v11), .acc 5 r5.length], .cells (FamilyShape.cells o4), .acc true 4 (mp CtorForm.cells r5)], 0⟩ = B X0 v0 v1 v2 v3 v4 v5 v6 v7 v8 v9 v10 v11 o4 r5 } := by
  apply Subtype.mk
  intro m X0 ih v0 v1 v2 v3 v4 v5 v6 v7 v8 v9 v10 v11 o4 r5
  simp (config := { maxSteps := 100000000 }) only [go_sem, Nat.reduceAdd, Nat.reduceSub, Nat.reduceLeDiff, Nat.reduceEqDiff, Nat.reduceBEq, Nat.reduceMul, Nat.reduceLT, Int.reduceLE, Int.reduceLT, Int.reduceToNat, Int.reduceBEq, Int.reduceEq, family_Analyse_f, family_Analyse_c, Try.f18, Option.getD_some, mixed, family_Analyse_d, family_Analyse_o, family_Analyse_n1, ih]
  exact rfl
noncomputable def family_Analyse_l1 (n : Nat) : Nat → (List Ctor) → Int → Int → Str → Int → (List Term) → (List Term) → Int → Int → Str → (List Level) → (List Term) → FamilyShape → (List CtorForm) → Option (Family × Int)
  | 0, _, _, _, _, _, _, _, _, _, _, _, _, _, _ => none
  | m + 1, v0, v1, v2, v3, v4, v5, v6, v7, v8, v9, v10, v11, o4, r5 => (family_Analyse_b1 n).1 (family_Analyse_l1 n m) v0 v1 v2 v3 v4 v5 v6 v7 v8 v9 v10 v11 o4 r5
theorem family_Analyse_l1_eq (n : Nat) : ∀ (m : Nat), (∀ (v0 : List Ctor) (v1 : Int) (v2 : Int) (v3 : Str) (v4 : Int) (v5 : List Term) (v6 : List Term) (v7 : Int) (v8 : Int) (v9 : Str) (v10 : List Level) (v11 : List Term) (o4 : FamilyShape) (r5 : List CtorForm) (c5 : Nat), c5 = r5.length → run (family_Analyse_m n) [.lq m [0, 1, 0, 1, 1, 1, 1, 1, 1], .blk 0, .cut [1, 1, 1, 1, 1, 1, 1], .at [1, 1, 1, 1, 1, 1, 1]] ⟨[.any, .any, .ptr 1 0, .any, .any, .any, .ptr 3 0, .ptr 4 0, .any, .any, .any, .any, .any, .any, .any, .any, .any, .any, .any, .any, .any, .any, .any, .any, .any, .any, .any, .any, .any, .any, .any, .any, .any, .any, .any, .any, .any, .any, .any, .any, .any, .any, .any, .any, .any, .any, .any, .any, .any, .any, .any, .any, .any, .any, .any, .any, .any, .any, .any, .any, .any, .any, .any, .any, .any, .any, .any, .any, .any, .lst false 6 (mp Ctor.cells v0), .int .i64 v1, .int .i64 v2, .any, .any, .any, .any, .any, .any, .any, .any, .any, .any, .any, .any, .any, .any, .any, .any, .any, .any, .any, .any], [.dead, .cells [.str (sb []), .int .i64 0, .lst true 0 [], .lst true 0 [], .int .i64 0, .int .i64 0, .str (sb []), .lst true 0 [], .lst true 0 [], .lst true 0 []], .dead, .cells [.str (sb v3), .int .i64 v4, .lst false 5 (mp Term.cells v5), .lst false 5 (mp Term.cells v6), .int .i64 v7, .int .i64 v8, .str (sb v9), .lst false 2 (mp Level.cells v10), .lst false 5 (mp Term.cells v11), .acc 5 c5], .cells (FamilyShape.cells o4), .acc true 4 (mp CtorForm.cells r5)], 0⟩ = family_Analyse_l1 n m v0 v1 v2 v3 v4 v5 v6 v7 v8 v9 v10 v11 o4 r5)
  | 0 => by intros; exact run_lq_zero
  | m + 1 => by
    have ih := family_Analyse_l1_eq n m
    intro v0 v1 v2 v3 v4 v5 v6 v7 v8 v9 v10 v11 o4 r5 c5 ec5
    subst ec5
    rw [run_lq_succ]
    exact (family_Analyse_b1 n).2  m _  ih v0 v1 v2 v3 v4 v5 v6 v7 v8 v9 v10 v11 o4 r5
noncomputable def family_Analyse_e (n : Nat) : { B : Decl → Option (Family × Int) // ∀ (a0 : Decl), run (family_Analyse_m n) [.at []] { slots := [(tyC Decl.cel).enc a0] ++ List.replicate (92 - [(tyC Decl.cel).enc a0].length) .any, heap := [] } = B a0 } := by
  apply Subtype.mk
  intro a0
  simp (config := { maxSteps := 100000000 }) only [go_sem, Nat.reduceAdd, Nat.reduceSub, Nat.reduceLeDiff, Nat.reduceEqDiff, Nat.reduceBEq, Nat.reduceMul, Nat.reduceLT, Int.reduceLE, Int.reduceLT, Int.reduceToNat, Int.reduceBEq, Int.reduceEq, family_Analyse_f, family_Analyse_c, Try.f18, Option.getD_some, mixed, family_Analyse_d, family_Analyse_o, family_Analyse_n1, family_Analyse_l1_eq n]
  exact rfl
noncomputable def family_Analyse : Nat → Decl → Option (Family × Int)
  | 0, _ => none
  | n + 1, a0 => (family_Analyse_e n).1 a0
theorem family_Analyse_ok : ∀ (n : Nat) (a0 : Decl) (r : (Family × Int)), family_Analyse n a0 = some r → FnC Try.prog 18 [(tyC Decl.cel).enc a0] (fun v => v = (ty2 (tyC Family.cel) (tyI .i64)).enc r)
  | 0, _, _, h => by cases h
  | n + 1, a0, r, h => by
    exact fnC_run (M := family_Analyse_m n) ⟨(tabA_cons_ok (ent1_ok (telescope_All_ok n)) (tabA_cons_ok (ent2_ok (family_shape_ctor_ok n)) tabA_nil_ok)), (tabD_cons_ok (ent2_okD (family_itself_ok n)) tabD_nil_ok), tabN_ok _, tabF_ok _, noY_ok, noE_ok⟩ Try.func18 rfl rfl ⟨(tyC Decl.cel).nb 0 _, trivial⟩ Try.ntmps18 Try.results18 (fun σ hs => outR_ok (P := Try.prog) (rs := [.cell 2 36, .tmp 3]) (t := (ty2 (tyC Family.cel) (tyI .i64))) (σ := σ) (r := r) hs) (((family_Analyse_e n).2 a0).trans h)
end Go.Abs
namespace Go.Abs
open Go.Proofs
set_option maxRecDepth 100000
set_option maxHeartbeats 4000000
set_option linter.unusedSimpArgs false
set_option linter.unusedVariables false
noncomputable def positivity_Check_n1 : Nrm := ⟨[], [], [zA, zA, zA, zA, zA, zK, zA, zK, zK, zK, zK, zA, zA, zA, zA, zA, zA, zA, zA, zA, zA, zA, zA, zT (tyL CtorForm.row), zK, zK, zA, zA, zA, zA, zA, zT (tyL Term.row), zK, zK, zA, zA, zA, zA, zA, zA, zA, zA, zA, zA, zA, zA, zA, zA, zA, zA, zA, zA, zA, zA, zA, zA, zA, zA, zA, zA, zA, zA, zA, zA, zA, zA, zA, zA, zA, zA, zA, zA, zA, zA, zA], [oD, oT Family.cel, oT CtorForm.cel], none⟩
noncomputable def positivity_Check_n2 : Nrm := ⟨[], [], [zA, zA, zA, zA, zA, zK, zA, zK, zK, zA, zA, zA, zA, zA, zA, zA, zA, zA, zA, zA, zA, zA, zA, zT (tyL CtorForm.row), zK, zK, zA, zA, zA, zA, zA, zA, zA, zA, zA, zA, zA, zA, zA, zA, zA, zA, zA, zA, zA, zA, zA, zA, zA, zA, zA, zA, zA, zA, zA, zA, zA, zA, zA, zA, zA, zA, zA, zA, zA, zA, zA, zA, zA, zA, zA, zA, zA, zA, zA], [oD, oT Family.cel], none⟩
noncomputable def positivity_Check_m (n : Nat) : Mach (Int × Int × Int) where
  body := (Try.f36.body).getD .skip
  P := Try.prog
  cl := tabA [(18, ent1 (tyC Decl.cel) (ty2 (tyC Family.cel) (tyI .i64)) (family_Analyse n)), (38, ent2 (tyC Term.cel) tyS tyB (positivity_Positive n)), (79, entX [.arg 1 [0]] (olC (ogC (alC (cI .i64) 1 alN)) olN) slices_ContainsFunc_RecField_positivity_Check_1_as (olC (ogC (alC (cI .i64) 1 alN)) olN) (alT tyB alN) (fun (b : ((Int × Unit) × Unit)) (a : ((List RecField) × (Unit × Unit))) => (slices_ContainsFunc_RecField_positivity_Check_1 n) a.1 b.1.1)), (81, ent2 tyS (tyL Term.row) tyB (positivity_occurs n))]
  cd := tabD []
  nrm := tabN [([0, 1, 0, 1, 0, 0, 1, 1, 0, 0, 1, 0, 1, 1, 1, 1, 0, 1], positivity_Check_n1), ([0, 1, 0, 1, 1, 1, 1, 0, 1], positivity_Check_n2)]
  cut := tabF [([1, 1, 0, 0, 1, 1, 0, 0, 1, 0, 1, 0, 0, 1, 1, 0, 0, 1, 0, 1, 1, 1, 1, 0, 1], [3])]
  n := n
  out := outR Try.prog [.tmp 2, .tmp 3, .tmp 4] (ty3 (tyI .i64) (tyI .i64) (tyI .i64))
  isE := tabI []
theorem positivity_Check_f (n : Nat) : (positivity_Check_m n).P = Try.prog ∧ (positivity_Check_m n).cl = tabA [(18, ent1 (tyC Decl.cel) (ty2 (tyC Family.cel) (tyI .i64)) (family_Analyse n)), (38, ent2 (tyC Term.cel) tyS tyB (positivity_Positive n)), (79, entX [.arg 1 [0]] (olC (ogC (alC (cI .i64) 1 alN)) olN) slices_ContainsFunc_RecField_positivity_Check_1_as (olC (ogC (alC (cI .i64) 1 alN)) olN) (alT tyB alN) (fun (b : ((Int × Unit) × Unit)) (a : ((List RecField) × (Unit × Unit))) => (slices_ContainsFunc_RecField_positivity_Check_1 n) a.1 b.1.1)), (81, ent2 tyS (tyL Term.row) tyB (positivity_occurs n))] ∧ (positivity_Check_m n).cd = tabD [] ∧ (positivity_Check_m n).nrm = tabN [([0, 1, 0, 1, 0, 0, 1, 1, 0, 0, 1, 0, 1, 1, 1, 1, 0, 1], positivity_Check_n1), ([0, 1, 0, 1, 1, 1, 1, 0, 1], positivity_Check_n2)] ∧ (positivity_Check_m n).cut = tabF [([1, 1, 0, 0, 1, 1, 0, 0, 1, 0, 1, 0, 0, 1, 1, 0, 0, 1, 0, 1, 1, 1, 1, 0, 1], [3])] ∧ (positivity_Check_m n).n = n ∧ (positivity_Check_m n).out = outR Try.prog [.tmp 2, .tmp 3, .tmp 4] (ty3 (tyI .i64) (tyI .i64) (tyI .i64)) ∧ (positivity_Check_m n).isE = tabI [] := ⟨rfl, rfl, rfl, rfl, rfl, rfl, rfl, rfl⟩
theorem positivity_Check_c (n : Nat) : (positivity_Check_m n).body = (Try.f36.body).getD .skip := rfl
theorem positivity_Check_d (n : Nat) : drawP (positivity_Check_m n) [0, 0, 1, 1, 1, 0, 0, 1, 1, 0, 0, 1, 0, 1, 0, 0, 1, 1, 0, 0, 1, 0, 1, 1, 1, 1, 0, 1] = true ∧ drawP (positivity_Check_m n) [0, 0, 1, 1, 1, 0, 0, 1, 1, 0, 0, 1, 0, 1, 1, 1, 1, 0, 1] = true := ⟨by kernel_rfl, by kernel_rfl⟩
noncomputable def positivity_Check_b1 (n : Nat) : { B : (Int → Int → (List CtorForm) → Int → Int → Family → Option (Int × Int × Int)) → (Int → Int → Int → (List CtorForm) → Int → Int → (List Term) → Int → Int → Family → CtorForm → Option (Int × Int × Int)) → Int → Int → Int → (List CtorForm) → Int → Int → (List Term) → Int → Int → Family → CtorForm → Option (Int × Int × Int) // ∀ m2 X2 m X0, (∀ (v0 : Int) (v1 : Int) (v2 : List CtorForm) (v3 : Int) (v4 : Int) (o1 : Family), run (positivity_Check_m n) [.lq m2 [0, 1, 0, 1, 1, 1, 1, 0, 1], .blk 0, .cut [1, 1, 1, 1, 1, 0, 1], .at [1, 1, 1, 1, 1, 0, 1]] ⟨[.any, .any, .any, .any, .any, .ptr 1 0, .any, .int .i64 v0, .int .i64 v1, .any, .any, .any, .any, .any, .any, .any, .any, .any, .any, .any, .any, .any, .any, .lst false 4 (mp CtorForm.cells v2), .int .i64 v3, .int .i64 v4, .any, .any, .any, .any, .any, .any, .any, .any, .any, .any, .any, .any, .any, .any, .any, .any, .any, .any, .any, .any, .any, .any, .any, .any, .any, .any, .any, .any, .any, .any, .any, .any, .any, .any, .any, .any, .any, .any, .any, .any, .any, .any, .any, .any, .any, .any, .any, .any, .any], [.dead, .cells (Family.cells o1)], 0⟩ = X2 v0 v1 v2 v3 v4 o1) → (∀ (v0 : Int) (v1 : Int) (v2 : Int) (v3 : List CtorForm) (v4 : Int) (v5 : Int) (v6 : List Term) (v7 : Int) (v8 : Int) (o1 : Family) (o2 : CtorForm), run (positivity_Check_m n) [.lq m [0, 1, 0, 1, 0, 0, 1, 1, 0, 0, 1, 0, 1, 1, 1, 1, 0, 1], .blk 2, .cut [1, 1, 0, 0, 1, 1, 0, 0, 1, 0, 1, 1, 1, 1, 0, 1], .at [1, 1, 0, 0, 1, 1, 0, 0, 1, 0, 1, 1, 1, 1, 0, 1], .blk 1, .cut [1, 1, 1, 0, 0, 1, 0, 1, 1, 1, 1, 0, 1], .at [1, 1, 1, 0, 0, 1, 0, 1, 1, 1, 1, 0, 1], .lp m2 [0, 1, 0, 1, 1, 1, 1, 0, 1], .blk 0, .cut [1, 1, 1, 1, 1, 0, 1], .at [1, 1, 1, 1, 1, 0, 1]] ⟨[.any, .any, .any, .any, .any, .ptr 1 0, .any, .int .i64 v0, .int .i64 v1, .int .i64 v2, .ptr 2 0, .any, .any, .any, .any, .any, .any, .any, .any, .any, .any, .any, .any, .lst false 4 (mp CtorForm.cells v3), .int .i64 v4, .int .i64 v5, .any, .any, .any, .any, .any, .lst false 5 (mp Term.cells v6), .int .i64 v7, .int .i64 v8, .any, .any, .any, .any, .any, .any, .any, .any, .any, .any, .any, .any, .any, .any, .any, .any, .any, .any, .any, .any, .any, .any, .any, .any, .any, .any, .any, .any, .any, .any, .any, .any, .any, .any, .any, .any, .any, .any, .any, .any, .any], [.dead, .cells (Family.cells o1), .cells (CtorForm.cells o2)], 0⟩ = X0 v0 v1 v2 v3 v4 v5 v6 v7 v8 o1 o2) → ∀ (v0 : Int) (v1 : Int) (v2 : Int) (v3 : List CtorForm) (v4 : Int) (v5 : Int) (v6 : List Term) (v7 : Int) (v8 : Int) (o1 : Family) (o2 : CtorForm), run (positivity_Check_m n) [.at [0, 0, 1, 0, 1, 0, 0, 1, 1, 0, 0, 1, 0, 1, 1, 1, 1, 0, 1], .lp m [0, 1, 0, 1, 0, 0, 1, 1, 0, 0, 1, 0, 1, 1, 1, 1, 0, 1], .blk 2, .cut [1, 1, 0, 0, 1, 1, 0, 0, 1, 0, 1, 1, 1, 1, 0, 1], .at [1, 1, 0, 0, 1, 1, 0, 0, 1, 0, 1, 1, 1, 1, 0, 1], .blk 1, .cut [1, 1, 1, 0, 0, 1, 0, 1, 1, 1, 1, 0, 1], .at [1, 1, 1, 0, 0, 1, 0, 1, 1, 1, 1, 0, 1], .lp m2 [0, 1, 0, 1, 1, 1, 1, 0, 1], .blk 0, .cut [1, 1, 1, 1, 1, 0, 1], .at [1, 1, 1, 1, 1, 0, 1]] ⟨[.any, .any, .any, .any, .any, .ptr 1 0, .any, .int .i64 v0, .int .i64 v1, .int .i64 v2, .ptr 2 0, .any, .any, .any, .any, .any, .any, .any, .any, .any, .any, .any, .any, .lst false 4 (mp CtorForm.cells v3), .int .i64 v4, .int .i64 v5, .any, .any, .any, .any, .any, .lst false 5 (mp Term.cells v6), .int .i64 v7, .int .i64 v8, .any, .any, .any, .any, .any, .any, .any, .any, .any, .any, .any, .any, .any, .any, .any, .any, .any, .any, .any, .any, .any, .any, .any, .any, .any, .any, .any, .any, .any, .any, .any, .any, .any, .any, .any, .any, .any, .any, .any, .any, .any], [.dead, .cells (Family.cells o1), .cells (CtorForm.cells o2)], 0⟩ = B X2 X0 v0 v1 v2 v3 v4 v5 v6 v7 v8 o1 o2 } := by
  apply Subtype.mk
  intro m2 X2 m X0 h2 ih v0 v1 v2 v3 v4 v5 v6 v7 v8 o1 o2
  simp (config := { maxSteps := 100000000 }) only [go_sem, Nat.reduceAdd, Nat.reduceSub, Nat.reduceLeDiff, Nat.reduceEqDiff, Nat.reduceBEq, Nat.reduceMul, Nat.reduceLT, Int.reduceLE, Int.reduceLT, Int.reduceToNat, Int.reduceBEq, Int.reduceEq, positivity_Check_f, positivity_Check_c, Try.f36, Option.getD_some, mixed, slices_ContainsFunc_RecField_positivity_Check_1_as, positivity_Check_d, positivity_Check_n1, positivity_Check_n2, h2, ih]
  exact rfl
noncomputable def positivity_Check_l1 (n : Nat) (X2 : Int → Int → (List CtorForm) → Int → Int → Family → Option (Int × Int × Int)) : Nat → Int → Int → Int → (List CtorForm) → Int → Int → (List Term) → Int → Int → Family → CtorForm → Option (Int × Int × Int)
  | 0, _, _, _, _, _, _, _, _, _, _, _ => none
  | m + 1, v0, v1, v2, v3, v4, v5, v6, v7, v8, o1, o2 => (positivity_Check_b1 n).1 X2 (positivity_Check_l1 n X2 m) v0 v1 v2 v3 v4 v5 v6 v7 v8 o1 o2
theorem positivity_Check_l1_eq (n : Nat) (m2 : Nat) (X2 : Int → Int → (List CtorForm) → Int → Int → Family → Option (Int × Int × Int)) (h2 : (∀ (v0 : Int) (v1 : Int) (v2 : List CtorForm) (v3 : Int) (v4 : Int) (o1 : Family), run (positivity_Check_m n) [.lq m2 [0, 1, 0, 1, 1, 1, 1, 0, 1], .blk 0, .cut [1, 1, 1, 1, 1, 0, 1], .at [1, 1, 1, 1, 1, 0, 1]] ⟨[.any, .any, .any, .any, .any, .ptr 1 0, .any, .int .i64 v0, .int .i64 v1, .any, .any, .any, .any, .any, .any, .any, .any, .any, .any, .any, .any, .any, .any, .lst false 4 (mp CtorForm.cells v2), .int .i64 v3, .int .i64 v4, .any, .any, .any, .any, .any, .any, .any, .any, .any, .any, .any, .any, .any, .any, .any, .any, .any, .any, .any, .any, .any, .any, .any, .any, .any, .any, .any, .any, .any, .any, .any, .any, .any, .any, .any, .any, .any, .any, .any, .any, .any, .any, .any, .any, .any, .any, .any, .any, .any], [.dead, .cells (Family.cells o1)], 0⟩ = X2 v0 v1 v2 v3 v4 o1)) : ∀ (m : Nat), (∀ (v0 : Int) (v1 : Int) (v2 : Int) (v3 : List CtorForm) (v4 : Int) (v5 : Int) (v6 : List Term) (v7 : Int) (v8 : Int) (o1 : Family) (o2 : CtorForm), run (positivity_Check_m n) [.lq m [0, 1, 0, 1, 0, 0, 1, 1, 0, 0, 1, 0, 1, 1, 1, 1, 0, 1], .blk 2, .cut [1, 1, 0, 0, 1, 1, 0, 0, 1, 0, 1, 1, 1, 1, 0, 1], .at [1, 1, 0, 0, 1, 1, 0, 0, 1, 0, 1, 1, 1, 1, 0, 1], .blk 1, .cut [1, 1, 1, 0, 0, 1, 0, 1, 1, 1, 1, 0, 1], .at [1, 1, 1, 0, 0, 1, 0, 1, 1, 1, 1, 0, 1], .lp m2 [0, 1, 0, 1, 1, 1, 1, 0, 1], .blk 0, .cut [1, 1, 1, 1, 1, 0, 1], .at [1, 1, 1, 1, 1, 0, 1]] ⟨[.any, .any, .any, .any, .any, .ptr 1 0, .any, .int .i64 v0, .int .i64 v1, .int .i64 v2, .ptr 2 0, .any, .any, .any, .any, .any, .any, .any, .any, .any, .any, .any, .any, .lst false 4 (mp CtorForm.cells v3), .int .i64 v4, .int .i64 v5, .any, .any, .any, .any, .any, .lst false 5 (mp Term.cells v6), .int .i64 v7, .int .i64 v8, .any, .any, .any, .any, .any, .any, .any, .any, .any, .any, .any, .any, .any, .any, .any, .any, .any, .any, .any, .any, .any, .any, .any, .any, .any, .any, .any, .any, .any, .any, .any, .any, .any, .any, .any, .any, .any, .any, .any, .any, .any], [.dead, .cells (Family.cells o1), .cells (CtorForm.cells o2)], 0⟩ = positivity_Check_l1 n X2 m v0 v1 v2 v3 v4 v5 v6 v7 v8 o1 o2)
  | 0 => by intros; exact run_lq_zero
  | m + 1 => by
    have ih := positivity_Check_l1_eq n m2 X2 h2 m
    intro v0 v1 v2 v3 v4 v5 v6 v7 v8 o1 o2
    rw [run_lq_succ]
    exact (positivity_Check_b1 n).2 m2 X2 m _ h2 ih v0 v1 v2 v3 v4 v5 v6 v7 v8 o1 o2
noncomputable def positivity_Check_b2 (n : Nat) : { B : (Int → Int → (List CtorForm) → Int → Int → Family → Option (Int × Int × Int)) → Int → Int → (List CtorForm) → Int → Int → Family → Option (Int × Int × Int) // ∀ m X0, (∀ (v0 : Int) (v1 : Int) (v2 : List CtorForm) (v3 : Int) (v4 : Int) (o1 : Family), run (positivity_Check_m n) [.lq m [0, 1, 0, 1, 1, 1, 1, 0, 1], .blk 0, .cut [1, 1, 1, 1, 1, 0, 1], .at [1, 1, 1, 1, 1, 0, 1]] ⟨[.any, .any, .any, .any, .any, .ptr 1 0, .any, .int .i64 v0, .int .i64 v1, .any, .any, .any, .any, .any, .any, .any, .any, .any, .any, .any, .any, .any, .any, .lst false 4 (mp CtorForm.cells v2), .int .i64 v3, .int .i64 v4, .any, .any, .any, .any, .any, .any, .any, .any, .any, .any, .any, .any, .any, .any, .any, .any, .any, .any, .any, .any, .any, .any, .any, .any, .any, .any, .any, .any, .any, .any, .any, .any, .any, .any, .any, .any, .any, .any, .any, .any, .any, .any, .any, .any, .any, .any, .any, .any, .any], [.dead, .cells (Family.cells o1)], 0⟩ = X0 v0 v1 v2 v3 v4 o1) → ∀ (v0 : Int) (v1 : Int) (v2 : List CtorForm) (v3 : Int) (v4 : Int) (o1 : Family), run (positivity_Check_m n) [.at [0, 0, 1, 0, 1, 1, 1, 1, 0, 1], .lp m [0, 1, 0, 1, 1, 1, 1, 0, 1], .blk 0, .cut [1, 1, 1, 1, 1, 0, 1], .at [1, 1, 1, 1, 1, 0, 1]] ⟨[.any, .any, .any, .any, .any, .ptr 1 0, .any, .int .i64 v0, .int .i64 v1, .any, .any, .any, .any, .any, .any, .any, .any, .any, .any, .any, .any, .any, .any, .lst false 4 (mp CtorForm.cells v2), .int .i64 v3, .int .i64 v4, .any, .any, .any, .any, .any, .any, .any, .any, .any, .any, .any, .any, .any, .any, .any, .any, .any, .any, .any, .any, .any, .any, .any, .any, .any, .any, .any, .any, .any, .any, .any, .any, .any, .any, .any, .any, .any, .any, .any, .any, .any, .any, .any, .any, .any, .any, .any, .any, .any], [.dead, .cells (Family.cells o1)], 0⟩ = B X0 v0 v1 v2 v3 v4 o1 } := by
  apply Subtype.mk
  intro m X0 ih v0 v1 v2 v3 v4 o1
  simp (config := { maxSteps := 100000000 }) only [go_sem, Nat.reduceAdd, Nat.reduceSub, Nat.reduceLeDiff, Nat.reduceEqDiff, Nat.reduceBEq, Nat.reduceMul, Nat.reduceLT, Int.reduceLE, Int.reduceLT, Int.reduceToNat, Int.reduceBEq, Int.reduceEq, positivity_Check_f, positivity_Check_c, Try.f36, Option.getD_some, mixed, slices_ContainsFunc_RecField_positivity_Check_1_as, positivity_Check_d, positivity_Check_n1, positivity_Check_n2, positivity_Check_l1_eq n m X0 ih, ih]
  exact rfl
noncomputable def positivity_Check_l2 (n : Nat) : Nat → Int → Int → (List CtorForm) → Int → Int → Family → Option (Int × Int × Int)
  | 0, _, _, _, _, _, _ => none
  | m + 1, v0, v1, v2, v3, v4, o1 => (positivity_Check_b2 n).1 (positivity_Check_l2 n m) v0 v1 v2 v3 v4 o1
theorem positivity_Check_l2_eq (n : Nat) : ∀ (m : Nat), (∀ (v0 : Int) (v1 : Int) (v2 : List CtorForm) (v3 : Int) (v4 : Int) (o1 : Family), run (positivity_Check_m n) [.lq m [0, 1, 0, 1, 1, 1, 1, 0, 1], .blk 0, .cut [1, 1, 1, 1, 1, 0, 1], .at [1, 1, 1, 1, 1, 0, 1]] ⟨[.any, .any, .any, .any, .any, .ptr 1 0, .any, .int .i64 v0, .int .i64 v1, .any, .any, .any, .any, .any, .any, .any, .any, .any, .any, .any, .any, .any, .any, .lst false 4 (mp CtorForm.cells v2), .int .i64 v3, .int .i64 v4, .any, .any, .any, .any, .any, .any, .any, .any, .any, .any, .any, .any, .any, .any, .any, .any, .any, .any, .any, .any, .any, .any, .any, .any, .any, .any, .any, .any, .any, .any, .any, .any, .any, .any, .any, .any, .any, .any, .any, .any, .any, .any, .any, .any, .any, .any, .any, .any, .any], [.dead, .cells (Family.cells o1)], 0⟩ = positivity_Check_l2 n m v0 v1 v2 v3 v4 o1)
  | 0 => by intros; exact run_lq_zero
  | m + 1 => by
    have ih := positivity_Check_l2_eq n m
    intro v0 v1 v2 v3 v4 o1
    rw [run_lq_succ]
    exact (positivity_Check_b2 n).2  m _  ih v0 v1 v2 v3 v4 o1
noncomputable def positivity_Check_e (n : Nat) : { B : Decl → Option (Int × Int × Int) // ∀ (a0 : Decl), run (positivity_Check_m n) [.at []] { slots := [(tyC Decl.cel).enc a0] ++ List.replicate (75 - [(tyC Decl.cel).enc a0].length) .any, heap := [] } = B a0 } := by
  apply Subtype.mk
  intro a0
  simp (config := { maxSteps := 100000000 }) only [go_sem, Nat.reduceAdd, Nat.reduceSub, Nat.reduceLeDiff, Nat.reduceEqDiff, Nat.reduceBEq, Nat.reduceMul, Nat.reduceLT, Int.reduceLE, Int.reduceLT, Int.reduceToNat, Int.reduceBEq, Int.reduceEq, positivity_Check_f, positivity_Check_c, Try.f36, Option.getD_some, mixed, slices_ContainsFunc_RecField_positivity_Check_1_as, positivity_Check_d, positivity_Check_n1, positivity_Check_n2, positivity_Check_l2_eq n]
  exact rfl
noncomputable def positivity_Check : Nat → Decl → Option (Int × Int × Int)
  | 0, _ => none
  | n + 1, a0 => (positivity_Check_e n).1 a0
theorem positivity_Check_ok : ∀ (n : Nat) (a0 : Decl) (r : (Int × Int × Int)), positivity_Check n a0 = some r → FnC Try.prog 36 [(tyC Decl.cel).enc a0] (fun v => v = (ty3 (tyI .i64) (tyI .i64) (tyI .i64)).enc r)
  | 0, _, _, h => by cases h
  | n + 1, a0, r, h => by
    exact fnC_run (M := positivity_Check_m n) ⟨(tabA_cons_ok (ent1_ok (family_Analyse_ok n)) (tabA_cons_ok (ent2_ok (positivity_Positive_ok n)) (tabA_cons_ok (entX_ok (fun b a r h => (slices_ContainsFunc_RecField_positivity_Check_1_ok n) a.1 b.1.1 r h)) (tabA_cons_ok (ent2_ok (positivity_occurs_ok n)) tabA_nil_ok)))), tabD_nil_ok, tabN_ok _, tabF_ok _, noY_ok, noE_ok⟩ Try.func36 rfl rfl ⟨(tyC Decl.cel).nb 0 _, trivial⟩ Try.ntmps36 Try.results36 (fun σ hs => outR_ok (P := Try.prog) (rs := [.tmp 2, .tmp 3, .tmp 4]) (t := (ty3 (tyI .i64) (tyI .i64) (tyI .i64))) (σ := σ) (r := r) hs) (((positivity_Check_e n).2 a0).trans h)
end Go.Abs
namespace Go.Abs
open Go.Proofs
set_option maxRecDepth 100000
set_option maxHeartbeats 4000000
set_option linter.unusedSimpArgs false
set_option linter.unusedVariables false
noncomputable def law13_awake_m (n : Nat) : Mach Bool where
  body := (Try.f35.body).getD .skip
  P := Try.prog
  cl := tabA [(51, ent1 tyS (tyC Term.cel) (law13_constant n))]
  cd := tabD [(36, entD (ent1 (tyC Decl.cel) (ty3 (tyI .i64) (tyI .i64) (tyI .i64)) (positivity_Check n))), (38, entD (ent2 (tyC Term.cel) tyS tyB (positivity_Positive n))), (40, entD (ent2 (tyC Term.cel) (tyC Term.cel) (tyC Term.cel) (law13_arrow n))), (78, entD (ent1 (tyC Term.cel) (tyC Decl.cel) (law13_one n)))]
  nrm := tabN []
  cut := tabF []
  n := n
  out := outR Try.prog [.tmp 0] tyB
  isE := tabI []
theorem law13_awake_f (n : Nat) : (law13_awake_m n).P = Try.prog ∧ (law13_awake_m n).cl = tabA [(51, ent1 tyS (tyC Term.cel) (law13_constant n))] ∧ (law13_awake_m n).cd = tabD [(36, entD (ent1 (tyC Decl.cel) (ty3 (tyI .i64) (tyI .i64) (tyI .i64)) (positivity_Check n))), (38, entD (ent2 (tyC Term.cel) tyS tyB (positivity_Positive n))), (40, entD (ent2 (tyC Term.cel) (tyC Term.cel) (tyC Term.cel) (law13_arrow n))), (78, entD (ent1 (tyC Term.cel) (tyC Decl.cel) (law13_one n)))] ∧ (law13_awake_m n).nrm = tabN [] ∧ (law13_awake_m n).cut = tabF [] ∧ (law13_awake_m n).n = n ∧ (law13_awake_m n).out = outR Try.prog [.tmp 0] tyB ∧ (law13_awake_m n).isE = tabI [] := ⟨rfl, rfl, rfl, rfl, rfl, rfl, rfl, rfl⟩
theorem law13_awake_c (n : Nat) : (law13_awake_m n).body = (Try.f35.body).getD .skip := rfl
theorem law13_awake_d (n : Nat) : drawP (law13_awake_m n) [0, 1, 1] = true ∧ drawP (law13_awake_m n) [0, 1, 1, 1] = true ∧ drawP (law13_awake_m n) [0, 1, 1, 1, 1] = true ∧ drawP (law13_awake_m n) [0, 1, 1, 1, 1, 1] = true := ⟨by kernel_rfl, by kernel_rfl, by kernel_rfl, by kernel_rfl⟩
noncomputable def law13_awake_e (n : Nat) : { B : Option Bool // run (law13_awake_m n) [.at []] { slots := ([] : List AV) ++ List.replicate (100 - ([] : List AV).length) .any, heap := [] } = B } := by
  apply Subtype.mk
  simp (config := { maxSteps := 100000000 }) only [go_sem, Nat.reduceAdd, Nat.reduceSub, Nat.reduceLeDiff, Nat.reduceEqDiff, Nat.reduceBEq, Nat.reduceMul, Nat.reduceLT, Int.reduceLE, Int.reduceLT, Int.reduceToNat, Int.reduceBEq, Int.reduceEq, law13_awake_f, law13_awake_c, Try.f35, Option.getD_some, mixed, law13_awake_d]
  exact rfl
noncomputable def law13_awake : Nat → Option Bool
  | 0 => none
  | n + 1 => (law13_awake_e n).1
theorem law13_awake_ok : ∀ (n : Nat) (r : Bool), law13_awake n = some r → FnC Try.prog 35 [] (fun v => v = tyB.enc r)
  | 0, _, h => by cases h
  | n + 1, r, h => by
    exact fnC_run (M := law13_awake_m n) ⟨(tabA_cons_ok (ent1_ok (law13_constant_ok n)) tabA_nil_ok), (tabD_cons_ok (ent1_okD (positivity_Check_ok n)) (tabD_cons_ok (ent2_okD (positivity_Positive_ok n)) (tabD_cons_ok (ent2_okD (law13_arrow_ok n)) (tabD_cons_ok (ent1_okD (law13_one_ok n)) tabD_nil_ok)))), tabN_ok _, tabF_ok _, noY_ok, noE_ok⟩ Try.func35 rfl rfl trivial Try.ntmps35 Try.results35 (fun σ hs => outR_ok (P := Try.prog) (rs := [.tmp 0]) (t := tyB) (σ := σ) (r := r) hs) (((law13_awake_e n).2).trans h)
end Go.Abs
namespace Go.Abs
open Go.Proofs
set_option maxRecDepth 100000
set_option maxHeartbeats 4000000
set_option linter.unusedSimpArgs false
set_option linter.unusedVariables false
noncomputable def law13_PositivityArrows_m (n : Nat) : Mach Bool where
  body := (Try.f15.body).getD .skip
  P := Try.prog
  cl := tabA [(29, ent2 (tyC Term.cel) (tyI .i64) tyB (law05_Few n)), (35, ent0  tyB (law13_awake n)), (38, ent2 (tyC Term.cel) tyS tyB (positivity_Positive n)), (50, ent2 (tyC Term.cel) (tyP cS) tyB (law13_PositivityArrows_1 n)), (51, ent1 tyS (tyC Term.cel) (law13_constant n))]
  cd := tabD []
  nrm := tabN []
  cut := tabF [([1, 1, 1], [2])]
  n := n
  out := outR Try.prog [.tmp 6] tyB
theorem law13_PositivityArrows_f (n : Nat) : (law13_PositivityArrows_m n).P = Try.prog ∧ (law13_PositivityArrows_m n).cl = tabA [(29, ent2 (tyC Term.cel) (tyI .i64) tyB (law05_Few n)), (35, ent0  tyB (law13_awake n)), (38, ent2 (tyC Term.cel) tyS tyB (positivity_Positive n)), (50, ent2 (tyC Term.cel) (tyP cS) tyB (law13_PositivityArrows_1 n)), (51, ent1 tyS (tyC Term.cel) (law13_constant n))] ∧ (law13_PositivityArrows_m n).cd = tabD [] ∧ (law13_PositivityArrows_m n).nrm = tabN [] ∧ (law13_PositivityArrows_m n).cut = tabF [([1, 1, 1], [2])] ∧ (law13_PositivityArrows_m n).n = n ∧ (law13_PositivityArrows_m n).out = outR Try.prog [.tmp 6] tyB := ⟨rfl, rfl, rfl, rfl, rfl, rfl, rfl⟩
theorem law13_PositivityArrows_c (n : Nat) : (law13_PositivityArrows_m n).body = (Try.f15.body).getD .skip := rfl
noncomputable def law13_PositivityArrows_e (n : Nat) : { B : Term → Term → Str → Option Bool // ∀ (a0 : Term) (a1 : Term) (a2 : Str), run (law13_PositivityArrows_m n) [.at []] { slots := [(tyC Term.cel).enc a0, (tyC Term.cel).enc a1, tyS.enc a2] ++ List.replicate (66 - [(tyC Term.cel).enc a0, (tyC Term.cel).enc a1, tyS.enc a2].length) .any, heap := [] } = B a0 a1 a2 } := by
  apply Subtype.mk
  intro a0 a1 a2
  simp (config := { maxSteps := 100000000 }) only [go_sem, Nat.reduceAdd, Nat.reduceSub, Nat.reduceLeDiff, Nat.reduceEqDiff, Nat.reduceBEq, Nat.reduceMul, Nat.reduceLT, Int.reduceLE, Int.reduceLT, Int.reduceToNat, Int.reduceBEq, Int.reduceEq, law13_PositivityArrows_f, law13_PositivityArrows_c, Try.f15, Option.getD_some, mixed]
  exact rfl
noncomputable def law13_PositivityArrows : Nat → Term → Term → Str → Option Bool
  | 0, _, _, _ => none
  | n + 1, a0, a1, a2 => (law13_PositivityArrows_e n).1 a0 a1 a2
theorem law13_PositivityArrows_ok : ∀ (n : Nat) (a0 : Term) (a1 : Term) (a2 : Str) (r : Bool), law13_PositivityArrows n a0 a1 a2 = some r → FnC Try.prog 15 [(tyC Term.cel).enc a0, (tyC Term.cel).enc a1, tyS.enc a2] (fun v => v = tyB.enc r)
  | 0, _, _, _, _, h => by cases h
  | n + 1, a0, a1, a2, r, h => by
    exact fnC_run (M := law13_PositivityArrows_m n) ⟨(tabA_cons_ok (ent2_ok (law05_Few_ok n)) (tabA_cons_ok (ent0_ok (law13_awake_ok n)) (tabA_cons_ok (ent2_ok (positivity_Positive_ok n)) (tabA_cons_ok (ent2_ok (law13_PositivityArrows_1_ok n)) (tabA_cons_ok (ent1_ok (law13_constant_ok n)) tabA_nil_ok))))), tabD_nil_ok, tabN_ok _, tabF_ok _, noY_ok, noE_ok⟩ Try.func15 rfl rfl ⟨(tyC Term.cel).nb 0 _, (tyC Term.cel).nb 0 _, tyS.nb 0 _, trivial⟩ Try.ntmps15 Try.results15 (fun σ hs => outR_ok (P := Try.prog) (rs := [.tmp 6]) (t := tyB) (σ := σ) (r := r) hs) (((law13_PositivityArrows_e n).2 a0 a1 a2).trans h)
end Go.Abs
