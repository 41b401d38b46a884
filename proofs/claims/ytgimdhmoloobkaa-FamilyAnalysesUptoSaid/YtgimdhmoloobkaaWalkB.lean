/- Plain functions and contracts, printed by mk.py: law07_smallTree, ref03_check, law12_vec, slices_EqualFunc_Level_term_sameLevel, ref12_Own, ref03_Same. -/
import Derived.Test.YtgimdhmoloobkaaDataA
import Derived.Test.YtgimdhmoloobkaaWalkA
namespace Go.Abs
open Go.Proofs
set_option maxRecDepth 100000
set_option maxHeartbeats 4000000
set_option linter.unusedSimpArgs false
set_option linter.unusedVariables false
noncomputable def law07_smallTree_n1 : Nrm := ⟨[], [], [zA, zK, zK, zA, zA, zK, zA, zA, zA, zA, zA, zA, zA, zA, zA, zA, zA, zA, zA, zA, zA, zA, zA, zA, zA, zA, zA, zA, zA, zA, zA, zA, zA, zA, zA, zA, zA, zA, zA, zA, zA, zA, zA, zA, zA, zA, zA], [oT Tree.cel]⟩
noncomputable def law07_smallTree_m (X : Tree → Int → Option Bool) (n : Nat) : Mach Bool where
  body := (Try.f91.body).getD .skip
  P := Try.prog
  cl := tabA [(90, ent1 (tyC Term.cel) tyB (law07_small n)), (91, ent2 (tyC Tree.cel) (tyI .i64) tyB X)]
  cd := tabD []
  nrm := tabN [([0, 1, 0, 1, 1], law07_smallTree_n1)]
  cut := tabF []
  n := n
  out := outR Try.prog [.tmp 4] tyB
theorem law07_smallTree_f (X : Tree → Int → Option Bool) (n : Nat) : (law07_smallTree_m X n).P = Try.prog ∧ (law07_smallTree_m X n).cl = tabA [(90, ent1 (tyC Term.cel) tyB (law07_small n)), (91, ent2 (tyC Tree.cel) (tyI .i64) tyB X)] ∧ (law07_smallTree_m X n).cd = tabD [] ∧ (law07_smallTree_m X n).nrm = tabN [([0, 1, 0, 1, 1], law07_smallTree_n1)] ∧ (law07_smallTree_m X n).cut = tabF [] ∧ (law07_smallTree_m X n).n = n ∧ (law07_smallTree_m X n).out = outR Try.prog [.tmp 4] tyB := ⟨rfl, rfl, rfl, rfl, rfl, rfl, rfl⟩
theorem law07_smallTree_c (X : Tree → Int → Option Bool) (n : Nat) : (law07_smallTree_m X n).body = (Try.f91.body).getD .skip := rfl
noncomputable def law07_smallTree_b1 (X : Tree → Int → Option Bool) (n : Nat) : { B : (Int → Int → Tree → Option Bool) → Int → Int → Tree → Option Bool // ∀ m X0, (∀ (v0 : Int) (v1 : Int) (o0 : Tree), run (law07_smallTree_m X n) [.lq m [0, 1, 0, 1, 1], .blk 0, .cut [1, 1, 1], .at [1, 1, 1]] ⟨[.any, .int .i64 v0, .ptr 0 0, .any, .any, .int .i64 v1, .any, .any, .any, .any, .any, .any, .any, .any, .any, .any, .any, .any, .any, .any, .any, .any, .any, .any, .any, .any, .any, .any, .any, .any, .any, .any, .any, .any, .any, .any, .any, .any, .any, .any, .any, .any, .any, .any, .any, .any, .any], [.cells (Tree.cells o0)], 0⟩ = X0 v0 v1 o0) → ∀ (v0 : Int) (v1 : Int) (o0 : Tree), run (law07_smallTree_m X n) [.at [0, 0, 1, 0, 1, 1], .lp m [0, 1, 0, 1, 1], .blk 0, .cut [1, 1, 1], .at [1, 1, 1]] ⟨[.any, .int .i64 v0, .ptr 0 0, .any, .any, .int .i64 v1, .any, .any, .any, .any, .any, .any, .any, .any, .any, .any, .any, .any, .any, .any, .any, .any, .any, .any, .any, .any, .any, .any, .any, .any, .any, .any, .any, .any, .any, .any, .any, .any, .any, .any, .any, .any, .any, .any, .any, .any, .any], [.cells (Tree.cells o0)], 0⟩ = B X0 v0 v1 o0 } := by
  apply Subtype.mk
  intro m X0 ih v0 v1 o0
  simp (maxSteps := 100000000) only [go_sem, Nat.reduceAdd, Nat.reduceSub, Nat.reduceLeDiff, Nat.reduceEqDiff, Nat.reduceBEq, Nat.reduceMul, Nat.reduceLT, Int.reduceLE, Int.reduceLT, Int.reduceToNat, Int.reduceBEq, Int.reduceEq, law07_smallTree_f, law07_smallTree_c, Try.f91, Option.getD_some, mixed, law07_smallTree_n1, ih]
  exact rfl
noncomputable def law07_smallTree_l1 (X : Tree → Int → Option Bool) (n : Nat) : Nat → Int → Int → Tree → Option Bool
  | 0, _, _, _ => none
  | m + 1, v0, v1, o0 => (law07_smallTree_b1 X n).1 (law07_smallTree_l1 X n m) v0 v1 o0
theorem law07_smallTree_l1_eq (X : Tree → Int → Option Bool) (n : Nat) : ∀ (m : Nat), (∀ (v0 : Int) (v1 : Int) (o0 : Tree), run (law07_smallTree_m X n) [.lq m [0, 1, 0, 1, 1], .blk 0, .cut [1, 1, 1], .at [1, 1, 1]] ⟨[.any, .int .i64 v0, .ptr 0 0, .any, .any, .int .i64 v1, .any, .any, .any, .any, .any, .any, .any, .any, .any, .any, .any, .any, .any, .any, .any, .any, .any, .any, .any, .any, .any, .any, .any, .any, .any, .any, .any, .any, .any, .any, .any, .any, .any, .any, .any, .any, .any, .any, .any, .any, .any], [.cells (Tree.cells o0)], 0⟩ = law07_smallTree_l1 X n m v0 v1 o0)
  | 0 => by intros; exact run_lq_zero
  | m + 1 => by
    have ih := law07_smallTree_l1_eq X n m
    intro v0 v1 o0
    rw [run_lq_succ]
    exact (law07_smallTree_b1 X n).2  m _  ih v0 v1 o0
noncomputable def law07_smallTree_e (X : Tree → Int → Option Bool) (n : Nat) : { B : Tree → Int → Option Bool // ∀ (a0 : Tree) (a1 : Int), run (law07_smallTree_m X n) [.at []] { slots := [(tyC Tree.cel).enc a0, (tyI .i64).enc a1] ++ List.replicate (47 - [(tyC Tree.cel).enc a0, (tyI .i64).enc a1].length) .any, heap := [] } = B a0 a1 } := by
  apply Subtype.mk
  intro a0 a1
  simp (maxSteps := 100000000) only [go_sem, Nat.reduceAdd, Nat.reduceSub, Nat.reduceLeDiff, Nat.reduceEqDiff, Nat.reduceBEq, Nat.reduceMul, Nat.reduceLT, Int.reduceLE, Int.reduceLT, Int.reduceToNat, Int.reduceBEq, Int.reduceEq, law07_smallTree_f, law07_smallTree_c, Try.f91, Option.getD_some, mixed, law07_smallTree_n1, law07_smallTree_l1_eq X n]
  exact rfl
noncomputable def law07_smallTree : Nat → Tree → Int → Option Bool
  | 0, _, _ => none
  | n + 1, a0, a1 => (law07_smallTree_e (law07_smallTree n) n).1 a0 a1
theorem law07_smallTree_ok : ∀ (n : Nat) (a0 : Tree) (a1 : Int) (r : Bool), law07_smallTree n a0 a1 = some r → FnC Try.prog 91 [(tyC Tree.cel).enc a0, (tyI .i64).enc a1] (fun v => v = tyB.enc r)
  | 0, _, _, _, h => by cases h
  | n + 1, a0, a1, r, h => by
    have ih_law07_smallTree := law07_smallTree_ok n
    exact fnC_run (M := law07_smallTree_m (law07_smallTree n) n) ⟨(tabA_cons_ok (ent1_ok (law07_small_ok n)) (tabA_cons_ok (ent2_ok (ih_law07_smallTree)) tabA_nil_ok)), tabD_nil_ok, tabN_ok _, tabF_ok _⟩ Try.func91 rfl rfl ⟨(tyC Tree.cel).nb 0 _, (tyI .i64).nb 0 _, trivial⟩ Try.ntmps91 Try.results91 (fun σ hs => outR_ok (P := Try.prog) (rs := [.tmp 4]) (t := tyB) (σ := σ) (r := r) hs) (((law07_smallTree_e (law07_smallTree n) n).2 a0 a1).trans h)

noncomputable def ref03_check_n1 : Nrm := ⟨[], [], [zA, zK, zK, zK, zK, zK, zK, zA, zA, zA, zA, zA, zA, zA, zA, zK, zA, zA, zA, zA, zA, zA, zA, zA, zA, zA, zA, zA, zA, zA, zA, zA, zA, zA, zA, zA, zA, zA, zA, zA, zA, zA, zA, zA, zA, zA, zA, zA, zA, zA, zA, zA, zA, zA, zA, zA, zA, zA, zA, zA, zA, zA, zA, zA, zA, zA, zA, zA, zA, zA, zA, zA, zA, zA, zA, zA, zA, zA, zA, zA, zA, zA, zA, zA, zA, zA, zA, zA, zA, zA, zA, zA, zA, zA, zA, zA, zA, zA, zA, zA, zA, zA, zA, zA, zA, zA, zA], [oT Term.cel]⟩
noncomputable def ref03_check_n2 : Nrm := ⟨[], [], [zA, zK, zK, zK, zK, zK, zK, zA, zA, zA, zA, zA, zA, zK, zA, zA, zA, zA, zA, zA, zA, zA, zA, zA, zA, zA, zA, zA, zA, zA, zA, zA, zA, zA, zA, zA, zA, zA, zA, zA, zA, zA, zA, zA, zA, zA, zA, zA, zA, zA, zA, zA, zA, zA, zA, zA, zA, zA, zA, zA, zA, zA, zA, zA, zA, zA, zA, zA, zA, zA, zA, zA, zA, zA, zA, zA, zA, zA, zA, zA, zA, zA, zA, zA, zA, zA, zA, zA, zA, zA, zA, zA, zA, zA, zA, zA, zA, zA, zA, zA, zA, zA, zA, zA, zA, zA, zA], [oT Term.cel]⟩
noncomputable def ref03_check_m (X : Term → Int → Int → Int → Int → Int → Option Int) (n : Nat) : Mach Int where
  body := (Try.f106.body).getD .skip
  P := Try.prog
  cl := tabA [(54, ent1 tyS tyB (ref03_Name n)), (122, ent1 (tyC Term.cel) tyB (ref03_form n)), (123, ent3 (tyC Level.cel) (tyI .i64) (tyI .i64) (tyI .i64) (ref03_level n))]
  cd := tabD [(106, entD (ent6 (tyC Term.cel) (tyI .i64) (tyI .i64) (tyI .i64) (tyI .i64) (tyI .i64) (tyI .i64) X)), (124, entD (ent2 (tyI .i64) (tyI .i64) (tyI .i64) (ref03_Below n)))]
  nrm := tabN [([0, 1, 0, 1, 1, 1, 1, 1, 1, 1], ref03_check_n1), ([0, 1, 0, 1, 1, 1, 1], ref03_check_n2)]
  cut := tabF []
  n := n
  out := outR Try.prog [.tmp 12] (tyI .i64)
theorem ref03_check_f (X : Term → Int → Int → Int → Int → Int → Option Int) (n : Nat) : (ref03_check_m X n).P = Try.prog ∧ (ref03_check_m X n).cl = tabA [(54, ent1 tyS tyB (ref03_Name n)), (122, ent1 (tyC Term.cel) tyB (ref03_form n)), (123, ent3 (tyC Level.cel) (tyI .i64) (tyI .i64) (tyI .i64) (ref03_level n))] ∧ (ref03_check_m X n).cd = tabD [(106, entD (ent6 (tyC Term.cel) (tyI .i64) (tyI .i64) (tyI .i64) (tyI .i64) (tyI .i64) (tyI .i64) X)), (124, entD (ent2 (tyI .i64) (tyI .i64) (tyI .i64) (ref03_Below n)))] ∧ (ref03_check_m X n).nrm = tabN [([0, 1, 0, 1, 1, 1, 1, 1, 1, 1], ref03_check_n1), ([0, 1, 0, 1, 1, 1, 1], ref03_check_n2)] ∧ (ref03_check_m X n).cut = tabF [] ∧ (ref03_check_m X n).n = n ∧ (ref03_check_m X n).out = outR Try.prog [.tmp 12] (tyI .i64) := ⟨rfl, rfl, rfl, rfl, rfl, rfl, rfl⟩
theorem ref03_check_c (X : Term → Int → Int → Int → Int → Int → Option Int) (n : Nat) : (ref03_check_m X n).body = (Try.f106.body).getD .skip := rfl
theorem ref03_check_d (X : Term → Int → Int → Int → Int → Int → Option Int) (n : Nat) : drawP (ref03_check_m X n) [0, 0, 0, 1, 0, 0, 1, 0, 1, 1, 1, 1, 1, 1, 1] = true := by kernel_rfl
noncomputable def ref03_check_b1 (X : Term → Int → Int → Int → Int → Int → Option Int) (n : Nat) : { B : (Int → Int → Int → Int → Int → Int → Term → Option Int) → Int → Int → Int → Int → Int → Int → Term → Option Int // ∀ m X0, (∀ (v0 : Int) (v1 : Int) (v2 : Int) (v3 : Int) (v4 : Int) (v5 : Int) (o0 : Term), run (ref03_check_m X n) [.lq m [0, 1, 0, 1, 1, 1, 1, 1, 1, 1], .blk 2, .cut [1, 1, 1, 1, 1, 1, 1, 1], .at [1, 1, 1, 1, 1, 1, 1, 1]] ⟨[.any, .int .i64 v0, .int .i64 v1, .int .i64 v2, .int .i64 v3, .int .i64 v4, .ptr 0 0, .any, .any, .any, .any, .any, .any, .any, .any, .int .i64 v5, .any, .any, .any, .any, .any, .any, .any, .any, .any, .any, .any, .any, .any, .any, .any, .any, .any, .any, .any, .any, .any, .any, .any, .any, .any, .any, .any, .any, .any, .any, .any, .any, .any, .any, .any, .any, .any, .any, .any, .any, .any, .any, .any, .any, .any, .any, .any, .any, .any, .any, .any, .any, .any, .any, .any, .any, .any, .any, .any, .any, .any, .any, .any, .any, .any, .any, .any, .any, .any, .any, .any, .any, .any, .any, .any, .any, .any, .any, .any, .any, .any, .any, .any, .any, .any, .any, .any, .any, .any, .any, .any], [.cells (Term.cells o0)], 0⟩ = X0 v0 v1 v2 v3 v4 v5 o0) → ∀ (v0 : Int) (v1 : Int) (v2 : Int) (v3 : Int) (v4 : Int) (v5 : Int) (o0 : Term), run (ref03_check_m X n) [.at [0, 0, 1, 0, 1, 1, 1, 1, 1, 1, 1], .lp m [0, 1, 0, 1, 1, 1, 1, 1, 1, 1], .blk 2, .cut [1, 1, 1, 1, 1, 1, 1, 1], .at [1, 1, 1, 1, 1, 1, 1, 1]] ⟨[.any, .int .i64 v0, .int .i64 v1, .int .i64 v2, .int .i64 v3, .int .i64 v4, .ptr 0 0, .any, .any, .any, .any, .any, .any, .any, .any, .int .i64 v5, .any, .any, .any, .any, .any, .any, .any, .any, .any, .any, .any, .any, .any, .any, .any, .any, .any, .any, .any, .any, .any, .any, .any, .any, .any, .any, .any, .any, .any, .any, .any, .any, .any, .any, .any, .any, .any, .any, .any, .any, .any, .any, .any, .any, .any, .any, .any, .any, .any, .any, .any, .any, .any, .any, .any, .any, .any, .any, .any, .any, .any, .any, .any, .any, .any, .any, .any, .any, .any, .any, .any, .any, .any, .any, .any, .any, .any, .any, .any, .any, .any, .any, .any, .any, .any, .any, .any, .any, .any, .any, .any], [.cells (Term.cells o0)], 0⟩ = B X0 v0 v1 v2 v3 v4 v5 o0 } := by
  apply Subtype.mk
  intro m X0 ih v0 v1 v2 v3 v4 v5 o0
  simp (maxSteps := 100000000) only [go_sem, Nat.reduceAdd, Nat.reduceSub, Nat.reduceLeDiff, Nat.reduceEqDiff, Nat.reduceBEq, Nat.reduceMul, Nat.reduceLT, Int.reduceLE, Int.reduceLT, Int.reduceToNat, Int.reduceBEq, Int.reduceEq, ref03_check_f, ref03_check_c, Try.f106, Option.getD_some, mixed, ref03_check_d, ref03_check_n1, ref03_check_n2, ih]
  exact rfl
noncomputable def ref03_check_l1 (X : Term → Int → Int → Int → Int → Int → Option Int) (n : Nat) : Nat → Int → Int → Int → Int → Int → Int → Term → Option Int
  | 0, _, _, _, _, _, _, _ => none
  | m + 1, v0, v1, v2, v3, v4, v5, o0 => (ref03_check_b1 X n).1 (ref03_check_l1 X n m) v0 v1 v2 v3 v4 v5 o0
theorem ref03_check_l1_eq (X : Term → Int → Int → Int → Int → Int → Option Int) (n : Nat) : ∀ (m : Nat), (∀ (v0 : Int) (v1 : Int) (v2 : Int) (v3 : Int) (v4 : Int) (v5 : Int) (o0 : Term), run (ref03_check_m X n) [.lq m [0, 1, 0, 1, 1, 1, 1, 1, 1, 1], .blk 2, .cut [1, 1, 1, 1, 1, 1, 1, 1], .at [1, 1, 1, 1, 1, 1, 1, 1]] ⟨[.any, .int .i64 v0, .int .i64 v1, .int .i64 v2, .int .i64 v3, .int .i64 v4, .ptr 0 0, .any, .any, .any, .any, .any, .any, .any, .any, .int .i64 v5, .any, .any, .any, .any, .any, .any, .any, .any, .any, .any, .any, .any, .any, .any, .any, .any, .any, .any, .any, .any, .any, .any, .any, .any, .any, .any, .any, .any, .any, .any, .any, .any, .any, .any, .any, .any, .any, .any, .any, .any, .any, .any, .any, .any, .any, .any, .any, .any, .any, .any, .any, .any, .any, .any, .any, .any, .any, .any, .any, .any, .any, .any, .any, .any, .any, .any, .any, .any, .any, .any, .any, .any, .any, .any, .any, .any, .any, .any, .any, .any, .any, .any, .any, .any, .any, .any, .any, .any, .any, .any, .any], [.cells (Term.cells o0)], 0⟩ = ref03_check_l1 X n m v0 v1 v2 v3 v4 v5 o0)
  | 0 => by intros; exact run_lq_zero
  | m + 1 => by
    have ih := ref03_check_l1_eq X n m
    intro v0 v1 v2 v3 v4 v5 o0
    rw [run_lq_succ]
    exact (ref03_check_b1 X n).2  m _  ih v0 v1 v2 v3 v4 v5 o0
noncomputable def ref03_check_b2 (X : Term → Int → Int → Int → Int → Int → Option Int) (n : Nat) : { B : (Int → Int → Int → Int → Int → Int → Term → Option Int) → Int → Int → Int → Int → Int → Int → Term → Option Int // ∀ m X0, (∀ (v0 : Int) (v1 : Int) (v2 : Int) (v3 : Int) (v4 : Int) (v5 : Int) (o0 : Term), run (ref03_check_m X n) [.lq m [0, 1, 0, 1, 1, 1, 1], .blk 0, .cut [1, 1, 1, 1, 1], .at [1, 1, 1, 1, 1]] ⟨[.any, .int .i64 v0, .int .i64 v1, .int .i64 v2, .int .i64 v3, .int .i64 v4, .ptr 0 0, .any, .any, .any, .any, .any, .any, .int .i64 v5, .any, .any, .any, .any, .any, .any, .any, .any, .any, .any, .any, .any, .any, .any, .any, .any, .any, .any, .any, .any, .any, .any, .any, .any, .any, .any, .any, .any, .any, .any, .any, .any, .any, .any, .any, .any, .any, .any, .any, .any, .any, .any, .any, .any, .any, .any, .any, .any, .any, .any, .any, .any, .any, .any, .any, .any, .any, .any, .any, .any, .any, .any, .any, .any, .any, .any, .any, .any, .any, .any, .any, .any, .any, .any, .any, .any, .any, .any, .any, .any, .any, .any, .any, .any, .any, .any, .any, .any, .any, .any, .any, .any, .any], [.cells (Term.cells o0)], 0⟩ = X0 v0 v1 v2 v3 v4 v5 o0) → ∀ (v0 : Int) (v1 : Int) (v2 : Int) (v3 : Int) (v4 : Int) (v5 : Int) (o0 : Term), run (ref03_check_m X n) [.at [0, 0, 1, 0, 1, 1, 1, 1], .lp m [0, 1, 0, 1, 1, 1, 1], .blk 0, .cut [1, 1, 1, 1, 1], .at [1, 1, 1, 1, 1]] ⟨[.any, .int .i64 v0, .int .i64 v1, .int .i64 v2, .int .i64 v3, .int .i64 v4, .ptr 0 0, .any, .any, .any, .any, .any, .any, .int .i64 v5, .any, .any, .any, .any, .any, .any, .any, .any, .any, .any, .any, .any, .any, .any, .any, .any, .any, .any, .any, .any, .any, .any, .any, .any, .any, .any, .any, .any, .any, .any, .any, .any, .any, .any, .any, .any, .any, .any, .any, .any, .any, .any, .any, .any, .any, .any, .any, .any, .any, .any, .any, .any, .any, .any, .any, .any, .any, .any, .any, .any, .any, .any, .any, .any, .any, .any, .any, .any, .any, .any, .any, .any, .any, .any, .any, .any, .any, .any, .any, .any, .any, .any, .any, .any, .any, .any, .any, .any, .any, .any, .any, .any, .any], [.cells (Term.cells o0)], 0⟩ = B X0 v0 v1 v2 v3 v4 v5 o0 } := by
  apply Subtype.mk
  intro m X0 ih v0 v1 v2 v3 v4 v5 o0
  simp (maxSteps := 100000000) only [go_sem, Nat.reduceAdd, Nat.reduceSub, Nat.reduceLeDiff, Nat.reduceEqDiff, Nat.reduceBEq, Nat.reduceMul, Nat.reduceLT, Int.reduceLE, Int.reduceLT, Int.reduceToNat, Int.reduceBEq, Int.reduceEq, ref03_check_f, ref03_check_c, Try.f106, Option.getD_some, mixed, ref03_check_d, ref03_check_n1, ref03_check_n2, ref03_check_l1_eq X n, ih]
  exact rfl
noncomputable def ref03_check_l2 (X : Term → Int → Int → Int → Int → Int → Option Int) (n : Nat) : Nat → Int → Int → Int → Int → Int → Int → Term → Option Int
  | 0, _, _, _, _, _, _, _ => none
  | m + 1, v0, v1, v2, v3, v4, v5, o0 => (ref03_check_b2 X n).1 (ref03_check_l2 X n m) v0 v1 v2 v3 v4 v5 o0
theorem ref03_check_l2_eq (X : Term → Int → Int → Int → Int → Int → Option Int) (n : Nat) : ∀ (m : Nat), (∀ (v0 : Int) (v1 : Int) (v2 : Int) (v3 : Int) (v4 : Int) (v5 : Int) (o0 : Term), run (ref03_check_m X n) [.lq m [0, 1, 0, 1, 1, 1, 1], .blk 0, .cut [1, 1, 1, 1, 1], .at [1, 1, 1, 1, 1]] ⟨[.any, .int .i64 v0, .int .i64 v1, .int .i64 v2, .int .i64 v3, .int .i64 v4, .ptr 0 0, .any, .any, .any, .any, .any, .any, .int .i64 v5, .any, .any, .any, .any, .any, .any, .any, .any, .any, .any, .any, .any, .any, .any, .any, .any, .any, .any, .any, .any, .any, .any, .any, .any, .any, .any, .any, .any, .any, .any, .any, .any, .any, .any, .any, .any, .any, .any, .any, .any, .any, .any, .any, .any, .any, .any, .any, .any, .any, .any, .any, .any, .any, .any, .any, .any, .any, .any, .any, .any, .any, .any, .any, .any, .any, .any, .any, .any, .any, .any, .any, .any, .any, .any, .any, .any, .any, .any, .any, .any, .any, .any, .any, .any, .any, .any, .any, .any, .any, .any, .any, .any, .any], [.cells (Term.cells o0)], 0⟩ = ref03_check_l2 X n m v0 v1 v2 v3 v4 v5 o0)
  | 0 => by intros; exact run_lq_zero
  | m + 1 => by
    have ih := ref03_check_l2_eq X n m
    intro v0 v1 v2 v3 v4 v5 o0
    rw [run_lq_succ]
    exact (ref03_check_b2 X n).2  m _  ih v0 v1 v2 v3 v4 v5 o0
noncomputable def ref03_check_e (X : Term → Int → Int → Int → Int → Int → Option Int) (n : Nat) : { B : Term → Int → Int → Int → Int → Int → Option Int // ∀ (a0 : Term) (a1 : Int) (a2 : Int) (a3 : Int) (a4 : Int) (a5 : Int), run (ref03_check_m X n) [.at []] { slots := [(tyC Term.cel).enc a0, (tyI .i64).enc a1, (tyI .i64).enc a2, (tyI .i64).enc a3, (tyI .i64).enc a4, (tyI .i64).enc a5] ++ List.replicate (107 - [(tyC Term.cel).enc a0, (tyI .i64).enc a1, (tyI .i64).enc a2, (tyI .i64).enc a3, (tyI .i64).enc a4, (tyI .i64).enc a5].length) .any, heap := [] } = B a0 a1 a2 a3 a4 a5 } := by
  apply Subtype.mk
  intro a0 a1 a2 a3 a4 a5
  simp (maxSteps := 100000000) only [go_sem, Nat.reduceAdd, Nat.reduceSub, Nat.reduceLeDiff, Nat.reduceEqDiff, Nat.reduceBEq, Nat.reduceMul, Nat.reduceLT, Int.reduceLE, Int.reduceLT, Int.reduceToNat, Int.reduceBEq, Int.reduceEq, ref03_check_f, ref03_check_c, Try.f106, Option.getD_some, mixed, ref03_check_d, ref03_check_n1, ref03_check_n2, ref03_check_l1_eq X n, ref03_check_l2_eq X n]
  exact rfl
noncomputable def ref03_check : Nat → Term → Int → Int → Int → Int → Int → Option Int
  | 0, _, _, _, _, _, _ => none
  | n + 1, a0, a1, a2, a3, a4, a5 => (ref03_check_e (ref03_check n) n).1 a0 a1 a2 a3 a4 a5
theorem ref03_check_ok : ∀ (n : Nat) (a0 : Term) (a1 : Int) (a2 : Int) (a3 : Int) (a4 : Int) (a5 : Int) (r : Int), ref03_check n a0 a1 a2 a3 a4 a5 = some r → FnC Try.prog 106 [(tyC Term.cel).enc a0, (tyI .i64).enc a1, (tyI .i64).enc a2, (tyI .i64).enc a3, (tyI .i64).enc a4, (tyI .i64).enc a5] (fun v => v = (tyI .i64).enc r)
  | 0, _, _, _, _, _, _, _, h => by cases h
  | n + 1, a0, a1, a2, a3, a4, a5, r, h => by
    have ih_ref03_check := ref03_check_ok n
    exact fnC_run (M := ref03_check_m (ref03_check n) n) ⟨(tabA_cons_ok (ent1_ok (ref03_Name_ok n)) (tabA_cons_ok (ent1_ok (ref03_form_ok n)) (tabA_cons_ok (ent3_ok (ref03_level_ok n)) tabA_nil_ok))), (tabD_cons_ok (ent6_okD (ih_ref03_check)) (tabD_cons_ok (ent2_okD (ref03_Below_ok n)) tabD_nil_ok)), tabN_ok _, tabF_ok _⟩ Try.func106 rfl rfl ⟨(tyC Term.cel).nb 0 _, (tyI .i64).nb 0 _, (tyI .i64).nb 0 _, (tyI .i64).nb 0 _, (tyI .i64).nb 0 _, (tyI .i64).nb 0 _, trivial⟩ Try.ntmps106 Try.results106 (fun σ hs => outR_ok (P := Try.prog) (rs := [.tmp 12]) (t := (tyI .i64)) (σ := σ) (r := r) hs) (((ref03_check_e (ref03_check n) n).2 a0 a1 a2 a3 a4 a5).trans h)

noncomputable def law12_vec_m (n : Nat) : Mach Decl where
  body := (Try.f55.body).getD .skip
  P := Try.prog
  cl := tabA []
  cd := tabD [(93, entD (ent1 (tyI .i64) (tyC Term.cel) (law12_vec_1 n))), (94, entD (ent2 (tyC Term.cel) (tyC Term.cel) (tyC Term.cel) (law12_vec_2 n))), (95, entD (ent2 (tyC Term.cel) (tyC Term.cel) (tyC Term.cel) (law12_vec_3 n))), (96, entD (ent4 (tyC Term.cel) (tyC Term.cel) (tyP (cF 95)) (tyP (cL Level.row)) (tyC Term.cel) (law12_vec_4 n)))]
  nrm := tabN []
  cut := tabF [([1, 1, 1, 1, 1, 1, 1], [1, 2])]
  n := n
  out := outR Try.prog [.cell 2 31] (tyC Decl.cel)
theorem law12_vec_f (n : Nat) : (law12_vec_m n).P = Try.prog ∧ (law12_vec_m n).cl = tabA [] ∧ (law12_vec_m n).cd = tabD [(93, entD (ent1 (tyI .i64) (tyC Term.cel) (law12_vec_1 n))), (94, entD (ent2 (tyC Term.cel) (tyC Term.cel) (tyC Term.cel) (law12_vec_2 n))), (95, entD (ent2 (tyC Term.cel) (tyC Term.cel) (tyC Term.cel) (law12_vec_3 n))), (96, entD (ent4 (tyC Term.cel) (tyC Term.cel) (tyP (cF 95)) (tyP (cL Level.row)) (tyC Term.cel) (law12_vec_4 n)))] ∧ (law12_vec_m n).nrm = tabN [] ∧ (law12_vec_m n).cut = tabF [([1, 1, 1, 1, 1, 1, 1], [1, 2])] ∧ (law12_vec_m n).n = n ∧ (law12_vec_m n).out = outR Try.prog [.cell 2 31] (tyC Decl.cel) := ⟨rfl, rfl, rfl, rfl, rfl, rfl, rfl⟩
theorem law12_vec_c (n : Nat) : (law12_vec_m n).body = (Try.f55.body).getD .skip := rfl
theorem law12_vec_d (n : Nat) : drawP (law12_vec_m n) [0, 1, 1, 1, 1, 1, 1, 1, 1] = true := by kernel_rfl
theorem law12_vec_o (n : Nat) : ordP (law12_vec_m n) [0, 1, 1, 1, 1, 1, 1, 1, 1] 1 47 = true ∧ ordP (law12_vec_m n) [0, 1, 1, 1, 1, 1, 1, 1, 1] 3 47 = true ∧ ordP (law12_vec_m n) [0, 1, 1, 1, 1, 1, 1, 1, 1] 4 47 = true ∧ ordP (law12_vec_m n) [0, 1, 1, 1, 1, 1, 1, 1, 1] 9 47 = true ∧ ordP (law12_vec_m n) [0, 1, 1, 1, 1, 1, 1, 1, 1] 13 47 = true ∧ ordP (law12_vec_m n) [0, 1, 1, 1, 1, 1, 1, 1, 1] 18 47 = true ∧ ordP (law12_vec_m n) [0, 1, 1, 1, 1, 1, 1, 1, 1] 20 47 = true ∧ ordP (law12_vec_m n) [0, 1, 1, 1, 1, 1, 1, 1, 1] 34 47 = true ∧ ordP (law12_vec_m n) [0, 1, 1, 1, 1, 1, 1, 1, 1] 35 47 = true := ⟨by kernel_rfl, by kernel_rfl, by kernel_rfl, by kernel_rfl, by kernel_rfl, by kernel_rfl, by kernel_rfl, by kernel_rfl, by kernel_rfl⟩
noncomputable def law12_vec_e (n : Nat) : { B : Int → Option Decl // ∀ (a0 : Int), run (law12_vec_m n) [.at []] { slots := [(tyI .i64).enc a0] ++ List.replicate (69 - [(tyI .i64).enc a0].length) .any, heap := [] } = B a0 } := by
  apply Subtype.mk
  intro a0
  simp (maxSteps := 100000000) only [go_sem, Nat.reduceAdd, Nat.reduceSub, Nat.reduceLeDiff, Nat.reduceEqDiff, Nat.reduceBEq, Nat.reduceMul, Nat.reduceLT, Int.reduceLE, Int.reduceLT, Int.reduceToNat, Int.reduceBEq, Int.reduceEq, law12_vec_f, law12_vec_c, Try.f55, Option.getD_some, mixed, law12_vec_d, law12_vec_o]
  exact rfl
noncomputable def law12_vec : Nat → Int → Option Decl
  | 0, _ => none
  | n + 1, a0 => (law12_vec_e n).1 a0
theorem law12_vec_ok : ∀ (n : Nat) (a0 : Int) (r : Decl), law12_vec n a0 = some r → FnC Try.prog 55 [(tyI .i64).enc a0] (fun v => v = (tyC Decl.cel).enc r)
  | 0, _, _, h => by cases h
  | n + 1, a0, r, h => by
    exact fnC_run (M := law12_vec_m n) ⟨tabA_nil_ok, (tabD_cons_ok (ent1_okD (law12_vec_1_ok n)) (tabD_cons_ok (ent2_okD (law12_vec_2_ok n)) (tabD_cons_ok (ent2_okD (law12_vec_3_ok n)) (tabD_cons_ok (ent4_okD (law12_vec_4_ok n)) tabD_nil_ok)))), tabN_ok _, tabF_ok _⟩ Try.func55 rfl rfl ⟨(tyI .i64).nb 0 _, trivial⟩ Try.ntmps55 Try.results55 (fun σ hs => outR_ok (P := Try.prog) (rs := [.cell 2 31]) (t := (tyC Decl.cel)) (σ := σ) (r := r) hs) (((law12_vec_e n).2 a0).trans h)

noncomputable def slices_EqualFunc_Level_term_sameLevel_n1 : Nrm := ⟨[], [], [zA, zT (tyL Level.row), zT (tyF 64), zA, zA, zA, zA, zA, zA, zA, zA, zA, zA, zA, zA, zT (tyL Level.row), zK, zK, zA, zA, zA, zA, zA, zA, zA, zA, zA, zA, zA, zA, zA, zA], []⟩
noncomputable def slices_EqualFunc_Level_term_sameLevel_m (n : Nat) : Mach Bool where
  body := (Try.f63.body).getD .skip
  P := Try.prog
  cl := tabA [(64, ent2 (tyC Level.cel) (tyC Level.cel) tyB (term_sameLevel n))]
  cd := tabD []
  nrm := tabN [([0, 1, 0, 1, 1], slices_EqualFunc_Level_term_sameLevel_n1)]
  cut := tabF []
  n := n
  out := outR Try.prog [.tmp 6] tyB
theorem slices_EqualFunc_Level_term_sameLevel_f (n : Nat) : (slices_EqualFunc_Level_term_sameLevel_m n).P = Try.prog ∧ (slices_EqualFunc_Level_term_sameLevel_m n).cl = tabA [(64, ent2 (tyC Level.cel) (tyC Level.cel) tyB (term_sameLevel n))] ∧ (slices_EqualFunc_Level_term_sameLevel_m n).cd = tabD [] ∧ (slices_EqualFunc_Level_term_sameLevel_m n).nrm = tabN [([0, 1, 0, 1, 1], slices_EqualFunc_Level_term_sameLevel_n1)] ∧ (slices_EqualFunc_Level_term_sameLevel_m n).cut = tabF [] ∧ (slices_EqualFunc_Level_term_sameLevel_m n).n = n ∧ (slices_EqualFunc_Level_term_sameLevel_m n).out = outR Try.prog [.tmp 6] tyB := ⟨rfl, rfl, rfl, rfl, rfl, rfl, rfl⟩
theorem slices_EqualFunc_Level_term_sameLevel_c (n : Nat) : (slices_EqualFunc_Level_term_sameLevel_m n).body = (Try.f63.body).getD .skip := rfl
noncomputable def slices_EqualFunc_Level_term_sameLevel_b1 (n : Nat) : { B : ((List Level) → (List Level) → Int → Int → Option Bool) → (List Level) → (List Level) → Int → Int → Option Bool // ∀ m X0, (∀ (v0 : List Level) (v1 : List Level) (v2 : Int) (v3 : Int), run (slices_EqualFunc_Level_term_sameLevel_m n) [.lq m [0, 1, 0, 1, 1], .blk 0, .cut [1, 1, 1], .at [1, 1, 1]] ⟨[.any, .lst false 2 (mp Level.cells v0), .func (.func 64) [] [], .any, .any, .any, .any, .any, .any, .any, .any, .any, .any, .any, .any, .lst false 2 (mp Level.cells v1), .int .i64 v2, .int .i64 v3, .any, .any, .any, .any, .any, .any, .any, .any, .any, .any, .any, .any, .any, .any], [], 0⟩ = X0 v0 v1 v2 v3) → ∀ (v0 : List Level) (v1 : List Level) (v2 : Int) (v3 : Int), run (slices_EqualFunc_Level_term_sameLevel_m n) [.at [0, 0, 1, 0, 1, 1], .lp m [0, 1, 0, 1, 1], .blk 0, .cut [1, 1, 1], .at [1, 1, 1]] ⟨[.any, .lst false 2 (mp Level.cells v0), .func (.func 64) [] [], .any, .any, .any, .any, .any, .any, .any, .any, .any, .any, .any, .any, .lst false 2 (mp Level.cells v1), .int .i64 v2, .int .i64 v3, .any, .any, .any, .any, .any, .any, .any, .any, .any, .any, .any, .any, .any, .any], [], 0⟩ = B X0 v0 v1 v2 v3 } := by
  apply Subtype.mk
  intro m X0 ih v0 v1 v2 v3
  simp (maxSteps := 100000000) only [go_sem, Nat.reduceAdd, Nat.reduceSub, Nat.reduceLeDiff, Nat.reduceEqDiff, Nat.reduceBEq, Nat.reduceMul, Nat.reduceLT, Int.reduceLE, Int.reduceLT, Int.reduceToNat, Int.reduceBEq, Int.reduceEq, slices_EqualFunc_Level_term_sameLevel_f, slices_EqualFunc_Level_term_sameLevel_c, Try.f63, Option.getD_some, mixed, slices_EqualFunc_Level_term_sameLevel_n1, ih]
  exact rfl
noncomputable def slices_EqualFunc_Level_term_sameLevel_l1 (n : Nat) : Nat → (List Level) → (List Level) → Int → Int → Option Bool
  | 0, _, _, _, _ => none
  | m + 1, v0, v1, v2, v3 => (slices_EqualFunc_Level_term_sameLevel_b1 n).1 (slices_EqualFunc_Level_term_sameLevel_l1 n m) v0 v1 v2 v3
theorem slices_EqualFunc_Level_term_sameLevel_l1_eq (n : Nat) : ∀ (m : Nat), (∀ (v0 : List Level) (v1 : List Level) (v2 : Int) (v3 : Int), run (slices_EqualFunc_Level_term_sameLevel_m n) [.lq m [0, 1, 0, 1, 1], .blk 0, .cut [1, 1, 1], .at [1, 1, 1]] ⟨[.any, .lst false 2 (mp Level.cells v0), .func (.func 64) [] [], .any, .any, .any, .any, .any, .any, .any, .any, .any, .any, .any, .any, .lst false 2 (mp Level.cells v1), .int .i64 v2, .int .i64 v3, .any, .any, .any, .any, .any, .any, .any, .any, .any, .any, .any, .any, .any, .any], [], 0⟩ = slices_EqualFunc_Level_term_sameLevel_l1 n m v0 v1 v2 v3)
  | 0 => by intros; exact run_lq_zero
  | m + 1 => by
    have ih := slices_EqualFunc_Level_term_sameLevel_l1_eq n m
    intro v0 v1 v2 v3
    rw [run_lq_succ]
    exact (slices_EqualFunc_Level_term_sameLevel_b1 n).2  m _  ih v0 v1 v2 v3
noncomputable def slices_EqualFunc_Level_term_sameLevel_e (n : Nat) : { B : (List Level) → (List Level) → Unit → Option Bool // ∀ (a0 : (List Level)) (a1 : (List Level)) (a2 : Unit), run (slices_EqualFunc_Level_term_sameLevel_m n) [.at []] { slots := [(tyL Level.row).enc a0, (tyL Level.row).enc a1, (tyF 64).enc a2] ++ List.replicate (32 - [(tyL Level.row).enc a0, (tyL Level.row).enc a1, (tyF 64).enc a2].length) .any, heap := [] } = B a0 a1 a2 } := by
  apply Subtype.mk
  intro a0 a1 a2
  simp (maxSteps := 100000000) only [go_sem, Nat.reduceAdd, Nat.reduceSub, Nat.reduceLeDiff, Nat.reduceEqDiff, Nat.reduceBEq, Nat.reduceMul, Nat.reduceLT, Int.reduceLE, Int.reduceLT, Int.reduceToNat, Int.reduceBEq, Int.reduceEq, slices_EqualFunc_Level_term_sameLevel_f, slices_EqualFunc_Level_term_sameLevel_c, Try.f63, Option.getD_some, mixed, slices_EqualFunc_Level_term_sameLevel_n1, slices_EqualFunc_Level_term_sameLevel_l1_eq n]
  exact rfl
noncomputable def slices_EqualFunc_Level_term_sameLevel : Nat → (List Level) → (List Level) → Unit → Option Bool
  | 0, _, _, _ => none
  | n + 1, a0, a1, a2 => (slices_EqualFunc_Level_term_sameLevel_e n).1 a0 a1 a2
theorem slices_EqualFunc_Level_term_sameLevel_ok : ∀ (n : Nat) (a0 : (List Level)) (a1 : (List Level)) (a2 : Unit) (r : Bool), slices_EqualFunc_Level_term_sameLevel n a0 a1 a2 = some r → FnC Try.prog 63 [(tyL Level.row).enc a0, (tyL Level.row).enc a1, (tyF 64).enc a2] (fun v => v = tyB.enc r)
  | 0, _, _, _, _, h => by cases h
  | n + 1, a0, a1, a2, r, h => by
    exact fnC_run (M := slices_EqualFunc_Level_term_sameLevel_m n) ⟨(tabA_cons_ok (ent2_ok (term_sameLevel_ok n)) tabA_nil_ok), tabD_nil_ok, tabN_ok _, tabF_ok _⟩ Try.func63 rfl rfl ⟨(tyL Level.row).nb 0 _, (tyL Level.row).nb 0 _, (tyF 64).nb 0 _, trivial⟩ Try.ntmps63 Try.results63 (fun σ hs => outR_ok (P := Try.prog) (rs := [.tmp 6]) (t := tyB) (σ := σ) (r := r) hs) (((slices_EqualFunc_Level_term_sameLevel_e n).2 a0 a1 a2).trans h)

noncomputable def ref12_Own_m (n : Nat) : Mach Term where
  body := (Try.f85.body).getD .skip
  P := Try.prog
  cl := tabA [(45, ent1 (tyI .i64) (tyL Level.row) (ref07_Params n))]
  cd := tabD []
  nrm := tabN []
  cut := tabF []
  n := n
  out := outR Try.prog [.cell 4 25] (tyC Term.cel)
theorem ref12_Own_f (n : Nat) : (ref12_Own_m n).P = Try.prog ∧ (ref12_Own_m n).cl = tabA [(45, ent1 (tyI .i64) (tyL Level.row) (ref07_Params n))] ∧ (ref12_Own_m n).cd = tabD [] ∧ (ref12_Own_m n).nrm = tabN [] ∧ (ref12_Own_m n).cut = tabF [] ∧ (ref12_Own_m n).n = n ∧ (ref12_Own_m n).out = outR Try.prog [.cell 4 25] (tyC Term.cel) := ⟨rfl, rfl, rfl, rfl, rfl, rfl, rfl⟩
theorem ref12_Own_c (n : Nat) : (ref12_Own_m n).body = (Try.f85.body).getD .skip := rfl
noncomputable def ref12_Own_e (n : Nat) : { B : Str → Int → Option Term // ∀ (a0 : Str) (a1 : Int), run (ref12_Own_m n) [.at []] { slots := [tyS.enc a0, (tyI .i64).enc a1] ++ List.replicate (9 - [tyS.enc a0, (tyI .i64).enc a1].length) .any, heap := [] } = B a0 a1 } := by
  apply Subtype.mk
  intro a0 a1
  simp (maxSteps := 100000000) only [go_sem, Nat.reduceAdd, Nat.reduceSub, Nat.reduceLeDiff, Nat.reduceEqDiff, Nat.reduceBEq, Nat.reduceMul, Nat.reduceLT, Int.reduceLE, Int.reduceLT, Int.reduceToNat, Int.reduceBEq, Int.reduceEq, ref12_Own_f, ref12_Own_c, Try.f85, Option.getD_some, mixed]
  exact rfl
noncomputable def ref12_Own : Nat → Str → Int → Option Term
  | 0, _, _ => none
  | n + 1, a0, a1 => (ref12_Own_e n).1 a0 a1
theorem ref12_Own_ok : ∀ (n : Nat) (a0 : Str) (a1 : Int) (r : Term), ref12_Own n a0 a1 = some r → FnC Try.prog 85 [tyS.enc a0, (tyI .i64).enc a1] (fun v => v = (tyC Term.cel).enc r)
  | 0, _, _, _, h => by cases h
  | n + 1, a0, a1, r, h => by
    exact fnC_run (M := ref12_Own_m n) ⟨(tabA_cons_ok (ent1_ok (ref07_Params_ok n)) tabA_nil_ok), tabD_nil_ok, tabN_ok _, tabF_ok _⟩ Try.func85 rfl rfl ⟨tyS.nb 0 _, (tyI .i64).nb 0 _, trivial⟩ Try.ntmps85 Try.results85 (fun σ hs => outR_ok (P := Try.prog) (rs := [.cell 4 25]) (t := (tyC Term.cel)) (σ := σ) (r := r) hs) (((ref12_Own_e n).2 a0 a1).trans h)

noncomputable def ref03_Same_n1 : Nrm := ⟨[], [], [zA, zA, zK, zK, zA, zK, zA, zA, zA, zA, zA, zA, zA, zA, zA, zA, zA, zA, zA, zA, zA, zA, zA, zA, zA, zA, zA, zA, zA, zA, zA, zA, zA, zA, zA, zA, zA, zA, zA, zA, zA, zA, zA, zA, zA, zA, zA, zA, zA, zA, zA, zA, zA, zA, zA, zA, zA, zA, zA, zA, zA], [oT Term.cel, oT Term.cel]⟩
noncomputable def ref03_Same_m (X : Term → Term → Option Bool) (n : Nat) : Mach Bool where
  body := (Try.f23.body).getD .skip
  P := Try.prog
  cl := tabA [(62, ent2 (tyL Level.row) (tyL Level.row) tyB (ref01_SameLists n))]
  cd := tabD [(23, entD (ent2 (tyC Term.cel) (tyC Term.cel) tyB X))]
  nrm := tabN [([0, 1, 0, 1, 1], ref03_Same_n1)]
  cut := tabF []
  n := n
  out := outR Try.prog [.tmp 4] tyB
theorem ref03_Same_f (X : Term → Term → Option Bool) (n : Nat) : (ref03_Same_m X n).P = Try.prog ∧ (ref03_Same_m X n).cl = tabA [(62, ent2 (tyL Level.row) (tyL Level.row) tyB (ref01_SameLists n))] ∧ (ref03_Same_m X n).cd = tabD [(23, entD (ent2 (tyC Term.cel) (tyC Term.cel) tyB X))] ∧ (ref03_Same_m X n).nrm = tabN [([0, 1, 0, 1, 1], ref03_Same_n1)] ∧ (ref03_Same_m X n).cut = tabF [] ∧ (ref03_Same_m X n).n = n ∧ (ref03_Same_m X n).out = outR Try.prog [.tmp 4] tyB := ⟨rfl, rfl, rfl, rfl, rfl, rfl, rfl⟩
theorem ref03_Same_c (X : Term → Term → Option Bool) (n : Nat) : (ref03_Same_m X n).body = (Try.f23.body).getD .skip := rfl
theorem ref03_Same_d (X : Term → Term → Option Bool) (n : Nat) : drawP (ref03_Same_m X n) [0, 0, 0, 1, 0, 0, 1, 0, 1, 1] = true := by kernel_rfl
noncomputable def ref03_Same_b1 (X : Term → Term → Option Bool) (n : Nat) : { B : (Int → Term → Term → Option Bool) → Int → Term → Term → Option Bool // ∀ m X0, (∀ (v0 : Int) (o0 : Term) (o1 : Term), run (ref03_Same_m X n) [.lq m [0, 1, 0, 1, 1], .blk 0, .cut [1, 1, 1], .at [1, 1, 1]] ⟨[.any, .any, .ptr 0 0, .ptr 1 0, .any, .int .i64 v0, .any, .any, .any, .any, .any, .any, .any, .any, .any, .any, .any, .any, .any, .any, .any, .any, .any, .any, .any, .any, .any, .any, .any, .any, .any, .any, .any, .any, .any, .any, .any, .any, .any, .any, .any, .any, .any, .any, .any, .any, .any, .any, .any, .any, .any, .any, .any, .any, .any, .any, .any, .any, .any, .any, .any], [.cells (Term.cells o0), .cells (Term.cells o1)], 0⟩ = X0 v0 o0 o1) → ∀ (v0 : Int) (o0 : Term) (o1 : Term), run (ref03_Same_m X n) [.at [0, 0, 1, 0, 1, 1], .lp m [0, 1, 0, 1, 1], .blk 0, .cut [1, 1, 1], .at [1, 1, 1]] ⟨[.any, .any, .ptr 0 0, .ptr 1 0, .any, .int .i64 v0, .any, .any, .any, .any, .any, .any, .any, .any, .any, .any, .any, .any, .any, .any, .any, .any, .any, .any, .any, .any, .any, .any, .any, .any, .any, .any, .any, .any, .any, .any, .any, .any, .any, .any, .any, .any, .any, .any, .any, .any, .any, .any, .any, .any, .any, .any, .any, .any, .any, .any, .any, .any, .any, .any, .any], [.cells (Term.cells o0), .cells (Term.cells o1)], 0⟩ = B X0 v0 o0 o1 } := by
  apply Subtype.mk
  intro m X0 ih v0 o0 o1
  simp (maxSteps := 100000000) only [go_sem, Nat.reduceAdd, Nat.reduceSub, Nat.reduceLeDiff, Nat.reduceEqDiff, Nat.reduceBEq, Nat.reduceMul, Nat.reduceLT, Int.reduceLE, Int.reduceLT, Int.reduceToNat, Int.reduceBEq, Int.reduceEq, ref03_Same_f, ref03_Same_c, Try.f23, Option.getD_some, mixed, ref03_Same_d, ref03_Same_n1, ih]
  exact rfl
noncomputable def ref03_Same_l1 (X : Term → Term → Option Bool) (n : Nat) : Nat → Int → Term → Term → Option Bool
  | 0, _, _, _ => none
  | m + 1, v0, o0, o1 => (ref03_Same_b1 X n).1 (ref03_Same_l1 X n m) v0 o0 o1
theorem ref03_Same_l1_eq (X : Term → Term → Option Bool) (n : Nat) : ∀ (m : Nat), (∀ (v0 : Int) (o0 : Term) (o1 : Term), run (ref03_Same_m X n) [.lq m [0, 1, 0, 1, 1], .blk 0, .cut [1, 1, 1], .at [1, 1, 1]] ⟨[.any, .any, .ptr 0 0, .ptr 1 0, .any, .int .i64 v0, .any, .any, .any, .any, .any, .any, .any, .any, .any, .any, .any, .any, .any, .any, .any, .any, .any, .any, .any, .any, .any, .any, .any, .any, .any, .any, .any, .any, .any, .any, .any, .any, .any, .any, .any, .any, .any, .any, .any, .any, .any, .any, .any, .any, .any, .any, .any, .any, .any, .any, .any, .any, .any, .any, .any], [.cells (Term.cells o0), .cells (Term.cells o1)], 0⟩ = ref03_Same_l1 X n m v0 o0 o1)
  | 0 => by intros; exact run_lq_zero
  | m + 1 => by
    have ih := ref03_Same_l1_eq X n m
    intro v0 o0 o1
    rw [run_lq_succ]
    exact (ref03_Same_b1 X n).2  m _  ih v0 o0 o1
noncomputable def ref03_Same_e (X : Term → Term → Option Bool) (n : Nat) : { B : Term → Term → Option Bool // ∀ (a0 : Term) (a1 : Term), run (ref03_Same_m X n) [.at []] { slots := [(tyC Term.cel).enc a0, (tyC Term.cel).enc a1] ++ List.replicate (61 - [(tyC Term.cel).enc a0, (tyC Term.cel).enc a1].length) .any, heap := [] } = B a0 a1 } := by
  apply Subtype.mk
  intro a0 a1
  simp (maxSteps := 100000000) only [go_sem, Nat.reduceAdd, Nat.reduceSub, Nat.reduceLeDiff, Nat.reduceEqDiff, Nat.reduceBEq, Nat.reduceMul, Nat.reduceLT, Int.reduceLE, Int.reduceLT, Int.reduceToNat, Int.reduceBEq, Int.reduceEq, ref03_Same_f, ref03_Same_c, Try.f23, Option.getD_some, mixed, ref03_Same_d, ref03_Same_n1, ref03_Same_l1_eq X n]
  exact rfl
noncomputable def ref03_Same : Nat → Term → Term → Option Bool
  | 0, _, _ => none
  | n + 1, a0, a1 => (ref03_Same_e (ref03_Same n) n).1 a0 a1
theorem ref03_Same_ok : ∀ (n : Nat) (a0 : Term) (a1 : Term) (r : Bool), ref03_Same n a0 a1 = some r → FnC Try.prog 23 [(tyC Term.cel).enc a0, (tyC Term.cel).enc a1] (fun v => v = tyB.enc r)
  | 0, _, _, _, h => by cases h
  | n + 1, a0, a1, r, h => by
    have ih_ref03_Same := ref03_Same_ok n
    exact fnC_run (M := ref03_Same_m (ref03_Same n) n) ⟨(tabA_cons_ok (ent2_ok (ref01_SameLists_ok n)) tabA_nil_ok), (tabD_cons_ok (ent2_okD (ih_ref03_Same)) tabD_nil_ok), tabN_ok _, tabF_ok _⟩ Try.func23 rfl rfl ⟨(tyC Term.cel).nb 0 _, (tyC Term.cel).nb 0 _, trivial⟩ Try.ntmps23 Try.results23 (fun σ hs => outR_ok (P := Try.prog) (rs := [.tmp 4]) (t := tyB) (σ := σ) (r := r) hs) (((ref03_Same_e (ref03_Same n) n).2 a0 a1).trans h)
end Go.Abs

/- Plain functions and contracts, printed by mk.py: law07_FewDecl, ref03_Check, term_Same, slices_EqualFunc_Term_term_Same, ref05_SameList. -/
namespace Go.Abs
open Go.Proofs
set_option maxRecDepth 100000
set_option maxHeartbeats 4000000
set_option linter.unusedSimpArgs false
set_option linter.unusedVariables false
noncomputable def law07_FewDecl_n1 : Nrm := ⟨[], [], [zA, zK, zA, zA, zA, zK, zA, zA, zA, zA, zA, zA, zA, zA, zA, zA, zA, zA, zA, zA, zA, zA, zA, zA, zA, zA, zA, zA, zA, zA, zA, zA, zA, zA, zA, zA, zA, zA, zA, zA, zA, zA, zA, zA, zA, zA, zA, zA, zA, zA, zA, zA, zA, zA, zA, zA, zA, zA, zA, zA, zA, zA, zA, zA, zA, zA, zA, zA, zA, zA, zA, zA, zA, zA, zA, zA, zA, zA, zA, zA, zA, zA, zA, zA, zA, zA, zA, zA, zA, zA, zA, zA, zA, zA, zA, zA, zA, zA, zA, zA, zA, zA, zA, zA, zA, zA, zA, zA, zA, zA, zA, zA, zA, zA, zA, zA, zA, zA, zA, zA, zA, zA, zA, zA], [oT Decl.cel]⟩
noncomputable def law07_FewDecl_n2 : Nrm := ⟨[], [], [zA, zK, zA, zA, zK, zA, zA, zA, zA, zA, zA, zA, zA, zA, zA, zA, zA, zA, zA, zA, zA, zA, zA, zA, zA, zA, zA, zA, zA, zA, zA, zA, zA, zA, zA, zA, zA, zA, zA, zA, zA, zA, zA, zA, zA, zA, zA, zA, zA, zA, zA, zA, zA, zA, zA, zA, zA, zA, zA, zA, zA, zA, zA, zA, zA, zA, zA, zA, zA, zA, zA, zA, zA, zA, zA, zA, zA, zA, zA, zA, zA, zA, zA, zA, zA, zA, zA, zA, zA, zA, zA, zA, zA, zA, zA, zA, zA, zA, zA, zA, zA, zA, zA, zA, zA, zA, zA, zA, zA, zA, zA, zA, zA, zA, zA, zA, zA, zA, zA, zA, zA, zA, zA, zA], [oT Decl.cel]⟩
noncomputable def law07_FewDecl_n3 : Nrm := ⟨[], [], [zA, zK, zA, zK, zA, zA, zA, zA, zA, zA, zA, zA, zA, zA, zA, zA, zA, zA, zA, zA, zA, zA, zA, zA, zA, zA, zA, zA, zA, zA, zA, zA, zA, zA, zA, zA, zA, zA, zA, zA, zA, zA, zA, zA, zA, zA, zA, zA, zA, zA, zA, zA, zA, zA, zA, zA, zA, zA, zA, zA, zA, zA, zA, zA, zA, zA, zA, zA, zA, zA, zA, zA, zA, zA, zA, zA, zA, zA, zA, zA, zA, zA, zA, zA, zA, zA, zA, zA, zA, zA, zA, zA, zA, zA, zA, zA, zA, zA, zA, zA, zA, zA, zA, zA, zA, zA, zA, zA, zA, zA, zA, zA, zA, zA, zA, zA, zA, zA, zA, zA, zA, zA, zA, zA], [oT Decl.cel]⟩
noncomputable def law07_FewDecl_m (n : Nat) : Mach Bool where
  body := (Try.f52.body).getD .skip
  P := Try.prog
  cl := tabA [(90, ent1 (tyC Term.cel) tyB (law07_small n)), (91, ent2 (tyC Tree.cel) (tyI .i64) tyB (law07_smallTree n))]
  cd := tabD []
  nrm := tabN [([0, 1, 0, 1, 1, 1, 1], law07_FewDecl_n1), ([0, 1, 0, 1, 1, 1], law07_FewDecl_n2), ([0, 1, 0, 1, 1], law07_FewDecl_n3)]
  cut := tabF []
  n := n
  out := outR Try.prog [.tmp 2] tyB
theorem law07_FewDecl_f (n : Nat) : (law07_FewDecl_m n).P = Try.prog ∧ (law07_FewDecl_m n).cl = tabA [(90, ent1 (tyC Term.cel) tyB (law07_small n)), (91, ent2 (tyC Tree.cel) (tyI .i64) tyB (law07_smallTree n))] ∧ (law07_FewDecl_m n).cd = tabD [] ∧ (law07_FewDecl_m n).nrm = tabN [([0, 1, 0, 1, 1, 1, 1], law07_FewDecl_n1), ([0, 1, 0, 1, 1, 1], law07_FewDecl_n2), ([0, 1, 0, 1, 1], law07_FewDecl_n3)] ∧ (law07_FewDecl_m n).cut = tabF [] ∧ (law07_FewDecl_m n).n = n ∧ (law07_FewDecl_m n).out = outR Try.prog [.tmp 2] tyB := ⟨rfl, rfl, rfl, rfl, rfl, rfl, rfl⟩
theorem law07_FewDecl_c (n : Nat) : (law07_FewDecl_m n).body = (Try.f52.body).getD .skip := rfl
noncomputable def law07_FewDecl_b1 (n : Nat) : { B : (Int → Decl → Option Bool) → Int → Decl → Option Bool // ∀ m X0, (∀ (v0 : Int) (o0 : Decl), run (law07_FewDecl_m n) [.lq m [0, 1, 0, 1, 1, 1, 1], .blk 4, .cut [1, 1, 1, 1, 1], .at [1, 1, 1, 1, 1]] ⟨[.any, .ptr 0 0, .any, .any, .any, .int .i64 v0, .any, .any, .any, .any, .any, .any, .any, .any, .any, .any, .any, .any, .any, .any, .any, .any, .any, .any, .any, .any, .any, .any, .any, .any, .any, .any, .any, .any, .any, .any, .any, .any, .any, .any, .any, .any, .any, .any, .any, .any, .any, .any, .any, .any, .any, .any, .any, .any, .any, .any, .any, .any, .any, .any, .any, .any, .any, .any, .any, .any, .any, .any, .any, .any, .any, .any, .any, .any, .any, .any, .any, .any, .any, .any, .any, .any, .any, .any, .any, .any, .any, .any, .any, .any, .any, .any, .any, .any, .any, .any, .any, .any, .any, .any, .any, .any, .any, .any, .any, .any, .any, .any, .any, .any, .any, .any, .any, .any, .any, .any, .any, .any, .any, .any, .any, .any, .any, .any], [.cells (Decl.cells o0)], 0⟩ = X0 v0 o0) → ∀ (v0 : Int) (o0 : Decl), run (law07_FewDecl_m n) [.at [0, 0, 1, 0, 1, 1, 1, 1], .lp m [0, 1, 0, 1, 1, 1, 1], .blk 4, .cut [1, 1, 1, 1, 1], .at [1, 1, 1, 1, 1]] ⟨[.any, .ptr 0 0, .any, .any, .any, .int .i64 v0, .any, .any, .any, .any, .any, .any, .any, .any, .any, .any, .any, .any, .any, .any, .any, .any, .any, .any, .any, .any, .any, .any, .any, .any, .any, .any, .any, .any, .any, .any, .any, .any, .any, .any, .any, .any, .any, .any, .any, .any, .any, .any, .any, .any, .any, .any, .any, .any, .any, .any, .any, .any, .any, .any, .any, .any, .any, .any, .any, .any, .any, .any, .any, .any, .any, .any, .any, .any, .any, .any, .any, .any, .any, .any, .any, .any, .any, .any, .any, .any, .any, .any, .any, .any, .any, .any, .any, .any, .any, .any, .any, .any, .any, .any, .any, .any, .any, .any, .any, .any, .any, .any, .any, .any, .any, .any, .any, .any, .any, .any, .any, .any, .any, .any, .any, .any, .any, .any], [.cells (Decl.cells o0)], 0⟩ = B X0 v0 o0 } := by
  apply Subtype.mk
  intro m X0 ih v0 o0
  simp (maxSteps := 100000000) only [go_sem, Nat.reduceAdd, Nat.reduceSub, Nat.reduceLeDiff, Nat.reduceEqDiff, Nat.reduceBEq, Nat.reduceMul, Nat.reduceLT, Int.reduceLE, Int.reduceLT, Int.reduceToNat, Int.reduceBEq, Int.reduceEq, law07_FewDecl_f, law07_FewDecl_c, Try.f52, Option.getD_some, mixed, law07_FewDecl_n1, law07_FewDecl_n2, law07_FewDecl_n3, ih]
  exact rfl
noncomputable def law07_FewDecl_l1 (n : Nat) : Nat → Int → Decl → Option Bool
  | 0, _, _ => none
  | m + 1, v0, o0 => (law07_FewDecl_b1 n).1 (law07_FewDecl_l1 n m) v0 o0
theorem law07_FewDecl_l1_eq (n : Nat) : ∀ (m : Nat), (∀ (v0 : Int) (o0 : Decl), run (law07_FewDecl_m n) [.lq m [0, 1, 0, 1, 1, 1, 1], .blk 4, .cut [1, 1, 1, 1, 1], .at [1, 1, 1, 1, 1]] ⟨[.any, .ptr 0 0, .any, .any, .any, .int .i64 v0, .any, .any, .any, .any, .any, .any, .any, .any, .any, .any, .any, .any, .any, .any, .any, .any, .any, .any, .any, .any, .any, .any, .any, .any, .any, .any, .any, .any, .any, .any, .any, .any, .any, .any, .any, .any, .any, .any, .any, .any, .any, .any, .any, .any, .any, .any, .any, .any, .any, .any, .any, .any, .any, .any, .any, .any, .any, .any, .any, .any, .any, .any, .any, .any, .any, .any, .any, .any, .any, .any, .any, .any, .any, .any, .any, .any, .any, .any, .any, .any, .any, .any, .any, .any, .any, .any, .any, .any, .any, .any, .any, .any, .any, .any, .any, .any, .any, .any, .any, .any, .any, .any, .any, .any, .any, .any, .any, .any, .any, .any, .any, .any, .any, .any, .any, .any, .any, .any], [.cells (Decl.cells o0)], 0⟩ = law07_FewDecl_l1 n m v0 o0)
  | 0 => by intros; exact run_lq_zero
  | m + 1 => by
    have ih := law07_FewDecl_l1_eq n m
    intro v0 o0
    rw [run_lq_succ]
    exact (law07_FewDecl_b1 n).2  m _  ih v0 o0
noncomputable def law07_FewDecl_b2 (n : Nat) : { B : (Int → Decl → Option Bool) → Int → Decl → Option Bool // ∀ m X0, (∀ (v0 : Int) (o0 : Decl), run (law07_FewDecl_m n) [.lq m [0, 1, 0, 1, 1, 1], .blk 2, .cut [1, 1, 1, 1], .at [1, 1, 1, 1]] ⟨[.any, .ptr 0 0, .any, .any, .int .i64 v0, .any, .any, .any, .any, .any, .any, .any, .any, .any, .any, .any, .any, .any, .any, .any, .any, .any, .any, .any, .any, .any, .any, .any, .any, .any, .any, .any, .any, .any, .any, .any, .any, .any, .any, .any, .any, .any, .any, .any, .any, .any, .any, .any, .any, .any, .any, .any, .any, .any, .any, .any, .any, .any, .any, .any, .any, .any, .any, .any, .any, .any, .any, .any, .any, .any, .any, .any, .any, .any, .any, .any, .any, .any, .any, .any, .any, .any, .any, .any, .any, .any, .any, .any, .any, .any, .any, .any, .any, .any, .any, .any, .any, .any, .any, .any, .any, .any, .any, .any, .any, .any, .any, .any, .any, .any, .any, .any, .any, .any, .any, .any, .any, .any, .any, .any, .any, .any, .any, .any], [.cells (Decl.cells o0)], 0⟩ = X0 v0 o0) → ∀ (v0 : Int) (o0 : Decl), run (law07_FewDecl_m n) [.at [0, 0, 1, 0, 1, 1, 1], .lp m [0, 1, 0, 1, 1, 1], .blk 2, .cut [1, 1, 1, 1], .at [1, 1, 1, 1]] ⟨[.any, .ptr 0 0, .any, .any, .int .i64 v0, .any, .any, .any, .any, .any, .any, .any, .any, .any, .any, .any, .any, .any, .any, .any, .any, .any, .any, .any, .any, .any, .any, .any, .any, .any, .any, .any, .any, .any, .any, .any, .any, .any, .any, .any, .any, .any, .any, .any, .any, .any, .any, .any, .any, .any, .any, .any, .any, .any, .any, .any, .any, .any, .any, .any, .any, .any, .any, .any, .any, .any, .any, .any, .any, .any, .any, .any, .any, .any, .any, .any, .any, .any, .any, .any, .any, .any, .any, .any, .any, .any, .any, .any, .any, .any, .any, .any, .any, .any, .any, .any, .any, .any, .any, .any, .any, .any, .any, .any, .any, .any, .any, .any, .any, .any, .any, .any, .any, .any, .any, .any, .any, .any, .any, .any, .any, .any, .any, .any], [.cells (Decl.cells o0)], 0⟩ = B X0 v0 o0 } := by
  apply Subtype.mk
  intro m X0 ih v0 o0
  simp (maxSteps := 100000000) only [go_sem, Nat.reduceAdd, Nat.reduceSub, Nat.reduceLeDiff, Nat.reduceEqDiff, Nat.reduceBEq, Nat.reduceMul, Nat.reduceLT, Int.reduceLE, Int.reduceLT, Int.reduceToNat, Int.reduceBEq, Int.reduceEq, law07_FewDecl_f, law07_FewDecl_c, Try.f52, Option.getD_some, mixed, law07_FewDecl_n1, law07_FewDecl_n2, law07_FewDecl_n3, law07_FewDecl_l1_eq n, ih]
  exact rfl
noncomputable def law07_FewDecl_l2 (n : Nat) : Nat → Int → Decl → Option Bool
  | 0, _, _ => none
  | m + 1, v0, o0 => (law07_FewDecl_b2 n).1 (law07_FewDecl_l2 n m) v0 o0
theorem law07_FewDecl_l2_eq (n : Nat) : ∀ (m : Nat), (∀ (v0 : Int) (o0 : Decl), run (law07_FewDecl_m n) [.lq m [0, 1, 0, 1, 1, 1], .blk 2, .cut [1, 1, 1, 1], .at [1, 1, 1, 1]] ⟨[.any, .ptr 0 0, .any, .any, .int .i64 v0, .any, .any, .any, .any, .any, .any, .any, .any, .any, .any, .any, .any, .any, .any, .any, .any, .any, .any, .any, .any, .any, .any, .any, .any, .any, .any, .any, .any, .any, .any, .any, .any, .any, .any, .any, .any, .any, .any, .any, .any, .any, .any, .any, .any, .any, .any, .any, .any, .any, .any, .any, .any, .any, .any, .any, .any, .any, .any, .any, .any, .any, .any, .any, .any, .any, .any, .any, .any, .any, .any, .any, .any, .any, .any, .any, .any, .any, .any, .any, .any, .any, .any, .any, .any, .any, .any, .any, .any, .any, .any, .any, .any, .any, .any, .any, .any, .any, .any, .any, .any, .any, .any, .any, .any, .any, .any, .any, .any, .any, .any, .any, .any, .any, .any, .any, .any, .any, .any, .any], [.cells (Decl.cells o0)], 0⟩ = law07_FewDecl_l2 n m v0 o0)
  | 0 => by intros; exact run_lq_zero
  | m + 1 => by
    have ih := law07_FewDecl_l2_eq n m
    intro v0 o0
    rw [run_lq_succ]
    exact (law07_FewDecl_b2 n).2  m _  ih v0 o0
noncomputable def law07_FewDecl_b3 (n : Nat) : { B : (Int → Decl → Option Bool) → Int → Decl → Option Bool // ∀ m X0, (∀ (v0 : Int) (o0 : Decl), run (law07_FewDecl_m n) [.lq m [0, 1, 0, 1, 1], .blk 0, .cut [1, 1, 1], .at [1, 1, 1]] ⟨[.any, .ptr 0 0, .any, .int .i64 v0, .any, .any, .any, .any, .any, .any, .any, .any, .any, .any, .any, .any, .any, .any, .any, .any, .any, .any, .any, .any, .any, .any, .any, .any, .any, .any, .any, .any, .any, .any, .any, .any, .any, .any, .any, .any, .any, .any, .any, .any, .any, .any, .any, .any, .any, .any, .any, .any, .any, .any, .any, .any, .any, .any, .any, .any, .any, .any, .any, .any, .any, .any, .any, .any, .any, .any, .any, .any, .any, .any, .any, .any, .any, .any, .any, .any, .any, .any, .any, .any, .any, .any, .any, .any, .any, .any, .any, .any, .any, .any, .any, .any, .any, .any, .any, .any, .any, .any, .any, .any, .any, .any, .any, .any, .any, .any, .any, .any, .any, .any, .any, .any, .any, .any, .any, .any, .any, .any, .any, .any], [.cells (Decl.cells o0)], 0⟩ = X0 v0 o0) → ∀ (v0 : Int) (o0 : Decl), run (law07_FewDecl_m n) [.at [0, 0, 1, 0, 1, 1], .lp m [0, 1, 0, 1, 1], .blk 0, .cut [1, 1, 1], .at [1, 1, 1]] ⟨[.any, .ptr 0 0, .any, .int .i64 v0, .any, .any, .any, .any, .any, .any, .any, .any, .any, .any, .any, .any, .any, .any, .any, .any, .any, .any, .any, .any, .any, .any, .any, .any, .any, .any, .any, .any, .any, .any, .any, .any, .any, .any, .any, .any, .any, .any, .any, .any, .any, .any, .any, .any, .any, .any, .any, .any, .any, .any, .any, .any, .any, .any, .any, .any, .any, .any, .any, .any, .any, .any, .any, .any, .any, .any, .any, .any, .any, .any, .any, .any, .any, .any, .any, .any, .any, .any, .any, .any, .any, .any, .any, .any, .any, .any, .any, .any, .any, .any, .any, .any, .any, .any, .any, .any, .any, .any, .any, .any, .any, .any, .any, .any, .any, .any, .any, .any, .any, .any, .any, .any, .any, .any, .any, .any, .any, .any, .any, .any], [.cells (Decl.cells o0)], 0⟩ = B X0 v0 o0 } := by
  apply Subtype.mk
  intro m X0 ih v0 o0
  simp (maxSteps := 100000000) only [go_sem, Nat.reduceAdd, Nat.reduceSub, Nat.reduceLeDiff, Nat.reduceEqDiff, Nat.reduceBEq, Nat.reduceMul, Nat.reduceLT, Int.reduceLE, Int.reduceLT, Int.reduceToNat, Int.reduceBEq, Int.reduceEq, law07_FewDecl_f, law07_FewDecl_c, Try.f52, Option.getD_some, mixed, law07_FewDecl_n1, law07_FewDecl_n2, law07_FewDecl_n3, law07_FewDecl_l1_eq n, law07_FewDecl_l2_eq n, ih]
  exact rfl
noncomputable def law07_FewDecl_l3 (n : Nat) : Nat → Int → Decl → Option Bool
  | 0, _, _ => none
  | m + 1, v0, o0 => (law07_FewDecl_b3 n).1 (law07_FewDecl_l3 n m) v0 o0
theorem law07_FewDecl_l3_eq (n : Nat) : ∀ (m : Nat), (∀ (v0 : Int) (o0 : Decl), run (law07_FewDecl_m n) [.lq m [0, 1, 0, 1, 1], .blk 0, .cut [1, 1, 1], .at [1, 1, 1]] ⟨[.any, .ptr 0 0, .any, .int .i64 v0, .any, .any, .any, .any, .any, .any, .any, .any, .any, .any, .any, .any, .any, .any, .any, .any, .any, .any, .any, .any, .any, .any, .any, .any, .any, .any, .any, .any, .any, .any, .any, .any, .any, .any, .any, .any, .any, .any, .any, .any, .any, .any, .any, .any, .any, .any, .any, .any, .any, .any, .any, .any, .any, .any, .any, .any, .any, .any, .any, .any, .any, .any, .any, .any, .any, .any, .any, .any, .any, .any, .any, .any, .any, .any, .any, .any, .any, .any, .any, .any, .any, .any, .any, .any, .any, .any, .any, .any, .any, .any, .any, .any, .any, .any, .any, .any, .any, .any, .any, .any, .any, .any, .any, .any, .any, .any, .any, .any, .any, .any, .any, .any, .any, .any, .any, .any, .any, .any, .any, .any], [.cells (Decl.cells o0)], 0⟩ = law07_FewDecl_l3 n m v0 o0)
  | 0 => by intros; exact run_lq_zero
  | m + 1 => by
    have ih := law07_FewDecl_l3_eq n m
    intro v0 o0
    rw [run_lq_succ]
    exact (law07_FewDecl_b3 n).2  m _  ih v0 o0
noncomputable def law07_FewDecl_e (n : Nat) : { B : Decl → Option Bool // ∀ (a0 : Decl), run (law07_FewDecl_m n) [.at []] { slots := [(tyC Decl.cel).enc a0] ++ List.replicate (124 - [(tyC Decl.cel).enc a0].length) .any, heap := [] } = B a0 } := by
  apply Subtype.mk
  intro a0
  simp (maxSteps := 100000000) only [go_sem, Nat.reduceAdd, Nat.reduceSub, Nat.reduceLeDiff, Nat.reduceEqDiff, Nat.reduceBEq, Nat.reduceMul, Nat.reduceLT, Int.reduceLE, Int.reduceLT, Int.reduceToNat, Int.reduceBEq, Int.reduceEq, law07_FewDecl_f, law07_FewDecl_c, Try.f52, Option.getD_some, mixed, law07_FewDecl_n1, law07_FewDecl_n2, law07_FewDecl_n3, law07_FewDecl_l1_eq n, law07_FewDecl_l2_eq n, law07_FewDecl_l3_eq n]
  exact rfl
noncomputable def law07_FewDecl : Nat → Decl → Option Bool
  | 0, _ => none
  | n + 1, a0 => (law07_FewDecl_e n).1 a0
theorem law07_FewDecl_ok : ∀ (n : Nat) (a0 : Decl) (r : Bool), law07_FewDecl n a0 = some r → FnC Try.prog 52 [(tyC Decl.cel).enc a0] (fun v => v = tyB.enc r)
  | 0, _, _, h => by cases h
  | n + 1, a0, r, h => by
    exact fnC_run (M := law07_FewDecl_m n) ⟨(tabA_cons_ok (ent1_ok (law07_small_ok n)) (tabA_cons_ok (ent2_ok (law07_smallTree_ok n)) tabA_nil_ok)), tabD_nil_ok, tabN_ok _, tabF_ok _⟩ Try.func52 rfl rfl ⟨(tyC Decl.cel).nb 0 _, trivial⟩ Try.ntmps52 Try.results52 (fun σ hs => outR_ok (P := Try.prog) (rs := [.tmp 2]) (t := tyB) (σ := σ) (r := r) hs) (((law07_FewDecl_e n).2 a0).trans h)

noncomputable def ref03_Check_m (n : Nat) : Mach Int where
  body := (Try.f71.body).getD .skip
  P := Try.prog
  cl := tabA [(69, ent1 (tyC Term.cel) (tyI .i64) (ref03_Size n)), (70, ent1 (tyC Term.cel) (tyI .i64) (ref03_Depth n)), (106, ent6 (tyC Term.cel) (tyI .i64) (tyI .i64) (tyI .i64) (tyI .i64) (tyI .i64) (tyI .i64) (ref03_check n))]
  cd := tabD []
  nrm := tabN []
  cut := tabF []
  n := n
  out := outR Try.prog [.tmp 10] (tyI .i64)
theorem ref03_Check_f (n : Nat) : (ref03_Check_m n).P = Try.prog ∧ (ref03_Check_m n).cl = tabA [(69, ent1 (tyC Term.cel) (tyI .i64) (ref03_Size n)), (70, ent1 (tyC Term.cel) (tyI .i64) (ref03_Depth n)), (106, ent6 (tyC Term.cel) (tyI .i64) (tyI .i64) (tyI .i64) (tyI .i64) (tyI .i64) (tyI .i64) (ref03_check n))] ∧ (ref03_Check_m n).cd = tabD [] ∧ (ref03_Check_m n).nrm = tabN [] ∧ (ref03_Check_m n).cut = tabF [] ∧ (ref03_Check_m n).n = n ∧ (ref03_Check_m n).out = outR Try.prog [.tmp 10] (tyI .i64) := ⟨rfl, rfl, rfl, rfl, rfl, rfl, rfl⟩
theorem ref03_Check_c (n : Nat) : (ref03_Check_m n).body = (Try.f71.body).getD .skip := rfl
noncomputable def ref03_Check_e (n : Nat) : { B : Term → Int → Int → Int → Int → Option Int // ∀ (a0 : Term) (a1 : Int) (a2 : Int) (a3 : Int) (a4 : Int), run (ref03_Check_m n) [.at []] { slots := [(tyC Term.cel).enc a0, (tyI .i64).enc a1, (tyI .i64).enc a2, (tyI .i64).enc a3, (tyI .i64).enc a4] ++ List.replicate (28 - [(tyC Term.cel).enc a0, (tyI .i64).enc a1, (tyI .i64).enc a2, (tyI .i64).enc a3, (tyI .i64).enc a4].length) .any, heap := [] } = B a0 a1 a2 a3 a4 } := by
  apply Subtype.mk
  intro a0 a1 a2 a3 a4
  simp (maxSteps := 100000000) only [go_sem, Nat.reduceAdd, Nat.reduceSub, Nat.reduceLeDiff, Nat.reduceEqDiff, Nat.reduceBEq, Nat.reduceMul, Nat.reduceLT, Int.reduceLE, Int.reduceLT, Int.reduceToNat, Int.reduceBEq, Int.reduceEq, ref03_Check_f, ref03_Check_c, Try.f71, Option.getD_some, mixed]
  exact rfl
noncomputable def ref03_Check : Nat → Term → Int → Int → Int → Int → Option Int
  | 0, _, _, _, _, _ => none
  | n + 1, a0, a1, a2, a3, a4 => (ref03_Check_e n).1 a0 a1 a2 a3 a4
theorem ref03_Check_ok : ∀ (n : Nat) (a0 : Term) (a1 : Int) (a2 : Int) (a3 : Int) (a4 : Int) (r : Int), ref03_Check n a0 a1 a2 a3 a4 = some r → FnC Try.prog 71 [(tyC Term.cel).enc a0, (tyI .i64).enc a1, (tyI .i64).enc a2, (tyI .i64).enc a3, (tyI .i64).enc a4] (fun v => v = (tyI .i64).enc r)
  | 0, _, _, _, _, _, _, h => by cases h
  | n + 1, a0, a1, a2, a3, a4, r, h => by
    exact fnC_run (M := ref03_Check_m n) ⟨(tabA_cons_ok (ent1_ok (ref03_Size_ok n)) (tabA_cons_ok (ent1_ok (ref03_Depth_ok n)) (tabA_cons_ok (ent6_ok (ref03_check_ok n)) tabA_nil_ok))), tabD_nil_ok, tabN_ok _, tabF_ok _⟩ Try.func71 rfl rfl ⟨(tyC Term.cel).nb 0 _, (tyI .i64).nb 0 _, (tyI .i64).nb 0 _, (tyI .i64).nb 0 _, (tyI .i64).nb 0 _, trivial⟩ Try.ntmps71 Try.results71 (fun σ hs => outR_ok (P := Try.prog) (rs := [.tmp 10]) (t := (tyI .i64)) (σ := σ) (r := r) hs) (((ref03_Check_e n).2 a0 a1 a2 a3 a4).trans h)

noncomputable def term_Same_m (X_term_Same : Term → Term → Option Bool) (X_slices_EqualFunc_Term_term_Same : (List Term) → (List Term) → Unit → Option Bool) (n : Nat) : Mach Bool where
  body := (Try.f26.body).getD .skip
  P := Try.prog
  cl := tabA [(63, ent3 (tyL Level.row) (tyL Level.row) (tyF 64) tyB (slices_EqualFunc_Level_term_sameLevel n)), (65, ent3 (tyL Term.row) (tyL Term.row) (tyF 26) tyB X_slices_EqualFunc_Term_term_Same)]
  cd := tabD []
  nrm := tabN []
  cut := tabF []
  n := n
  out := outR Try.prog [.tmp 4] tyB
theorem term_Same_f (X_term_Same : Term → Term → Option Bool) (X_slices_EqualFunc_Term_term_Same : (List Term) → (List Term) → Unit → Option Bool) (n : Nat) : (term_Same_m X_term_Same X_slices_EqualFunc_Term_term_Same n).P = Try.prog ∧ (term_Same_m X_term_Same X_slices_EqualFunc_Term_term_Same n).cl = tabA [(63, ent3 (tyL Level.row) (tyL Level.row) (tyF 64) tyB (slices_EqualFunc_Level_term_sameLevel n)), (65, ent3 (tyL Term.row) (tyL Term.row) (tyF 26) tyB X_slices_EqualFunc_Term_term_Same)] ∧ (term_Same_m X_term_Same X_slices_EqualFunc_Term_term_Same n).cd = tabD [] ∧ (term_Same_m X_term_Same X_slices_EqualFunc_Term_term_Same n).nrm = tabN [] ∧ (term_Same_m X_term_Same X_slices_EqualFunc_Term_term_Same n).cut = tabF [] ∧ (term_Same_m X_term_Same X_slices_EqualFunc_Term_term_Same n).n = n ∧ (term_Same_m X_term_Same X_slices_EqualFunc_Term_term_Same n).out = outR Try.prog [.tmp 4] tyB := ⟨rfl, rfl, rfl, rfl, rfl, rfl, rfl⟩
theorem term_Same_c (X_term_Same : Term → Term → Option Bool) (X_slices_EqualFunc_Term_term_Same : (List Term) → (List Term) → Unit → Option Bool) (n : Nat) : (term_Same_m X_term_Same X_slices_EqualFunc_Term_term_Same n).body = (Try.f26.body).getD .skip := rfl
noncomputable def term_Same_e (X_term_Same : Term → Term → Option Bool) (X_slices_EqualFunc_Term_term_Same : (List Term) → (List Term) → Unit → Option Bool) (n : Nat) : { B : Term → Term → Option Bool // ∀ (a0 : Term) (a1 : Term), run (term_Same_m X_term_Same X_slices_EqualFunc_Term_term_Same n) [.at []] { slots := [(tyC Term.cel).enc a0, (tyC Term.cel).enc a1] ++ List.replicate (38 - [(tyC Term.cel).enc a0, (tyC Term.cel).enc a1].length) .any, heap := [] } = B a0 a1 } := by
  apply Subtype.mk
  intro a0 a1
  simp (maxSteps := 100000000) only [go_sem, Nat.reduceAdd, Nat.reduceSub, Nat.reduceLeDiff, Nat.reduceEqDiff, Nat.reduceBEq, Nat.reduceMul, Nat.reduceLT, Int.reduceLE, Int.reduceLT, Int.reduceToNat, Int.reduceBEq, Int.reduceEq, term_Same_f, term_Same_c, Try.f26, Option.getD_some, mixed]
  exact rfl
noncomputable def slices_EqualFunc_Term_term_Same_n1 : Nrm := ⟨[], [], [zA, zT (tyL Term.row), zT (tyF 26), zA, zA, zA, zA, zA, zA, zA, zA, zA, zA, zA, zA, zT (tyL Term.row), zK, zK, zA, zA, zA, zA, zA, zA, zA, zA, zA, zA, zA, zA, zA, zA], []⟩
noncomputable def slices_EqualFunc_Term_term_Same_m (X_term_Same : Term → Term → Option Bool) (X_slices_EqualFunc_Term_term_Same : (List Term) → (List Term) → Unit → Option Bool) (n : Nat) : Mach Bool where
  body := (Try.f65.body).getD .skip
  P := Try.prog
  cl := tabA [(26, ent2 (tyC Term.cel) (tyC Term.cel) tyB X_term_Same)]
  cd := tabD []
  nrm := tabN [([0, 1, 0, 1, 1], slices_EqualFunc_Term_term_Same_n1)]
  cut := tabF []
  n := n
  out := outR Try.prog [.tmp 6] tyB
theorem slices_EqualFunc_Term_term_Same_f (X_term_Same : Term → Term → Option Bool) (X_slices_EqualFunc_Term_term_Same : (List Term) → (List Term) → Unit → Option Bool) (n : Nat) : (slices_EqualFunc_Term_term_Same_m X_term_Same X_slices_EqualFunc_Term_term_Same n).P = Try.prog ∧ (slices_EqualFunc_Term_term_Same_m X_term_Same X_slices_EqualFunc_Term_term_Same n).cl = tabA [(26, ent2 (tyC Term.cel) (tyC Term.cel) tyB X_term_Same)] ∧ (slices_EqualFunc_Term_term_Same_m X_term_Same X_slices_EqualFunc_Term_term_Same n).cd = tabD [] ∧ (slices_EqualFunc_Term_term_Same_m X_term_Same X_slices_EqualFunc_Term_term_Same n).nrm = tabN [([0, 1, 0, 1, 1], slices_EqualFunc_Term_term_Same_n1)] ∧ (slices_EqualFunc_Term_term_Same_m X_term_Same X_slices_EqualFunc_Term_term_Same n).cut = tabF [] ∧ (slices_EqualFunc_Term_term_Same_m X_term_Same X_slices_EqualFunc_Term_term_Same n).n = n ∧ (slices_EqualFunc_Term_term_Same_m X_term_Same X_slices_EqualFunc_Term_term_Same n).out = outR Try.prog [.tmp 6] tyB := ⟨rfl, rfl, rfl, rfl, rfl, rfl, rfl⟩
theorem slices_EqualFunc_Term_term_Same_c (X_term_Same : Term → Term → Option Bool) (X_slices_EqualFunc_Term_term_Same : (List Term) → (List Term) → Unit → Option Bool) (n : Nat) : (slices_EqualFunc_Term_term_Same_m X_term_Same X_slices_EqualFunc_Term_term_Same n).body = (Try.f65.body).getD .skip := rfl
noncomputable def slices_EqualFunc_Term_term_Same_b1 (X_term_Same : Term → Term → Option Bool) (X_slices_EqualFunc_Term_term_Same : (List Term) → (List Term) → Unit → Option Bool) (n : Nat) : { B : ((List Term) → (List Term) → Int → Int → Option Bool) → (List Term) → (List Term) → Int → Int → Option Bool // ∀ m X0, (∀ (v0 : List Term) (v1 : List Term) (v2 : Int) (v3 : Int), run (slices_EqualFunc_Term_term_Same_m X_term_Same X_slices_EqualFunc_Term_term_Same n) [.lq m [0, 1, 0, 1, 1], .blk 0, .cut [1, 1, 1], .at [1, 1, 1]] ⟨[.any, .lst false 5 (mp Term.cells v0), .func (.func 26) [] [], .any, .any, .any, .any, .any, .any, .any, .any, .any, .any, .any, .any, .lst false 5 (mp Term.cells v1), .int .i64 v2, .int .i64 v3, .any, .any, .any, .any, .any, .any, .any, .any, .any, .any, .any, .any, .any, .any], [], 0⟩ = X0 v0 v1 v2 v3) → ∀ (v0 : List Term) (v1 : List Term) (v2 : Int) (v3 : Int), run (slices_EqualFunc_Term_term_Same_m X_term_Same X_slices_EqualFunc_Term_term_Same n) [.at [0, 0, 1, 0, 1, 1], .lp m [0, 1, 0, 1, 1], .blk 0, .cut [1, 1, 1], .at [1, 1, 1]] ⟨[.any, .lst false 5 (mp Term.cells v0), .func (.func 26) [] [], .any, .any, .any, .any, .any, .any, .any, .any, .any, .any, .any, .any, .lst false 5 (mp Term.cells v1), .int .i64 v2, .int .i64 v3, .any, .any, .any, .any, .any, .any, .any, .any, .any, .any, .any, .any, .any, .any], [], 0⟩ = B X0 v0 v1 v2 v3 } := by
  apply Subtype.mk
  intro m X0 ih v0 v1 v2 v3
  simp (maxSteps := 100000000) only [go_sem, Nat.reduceAdd, Nat.reduceSub, Nat.reduceLeDiff, Nat.reduceEqDiff, Nat.reduceBEq, Nat.reduceMul, Nat.reduceLT, Int.reduceLE, Int.reduceLT, Int.reduceToNat, Int.reduceBEq, Int.reduceEq, slices_EqualFunc_Term_term_Same_f, slices_EqualFunc_Term_term_Same_c, Try.f65, Option.getD_some, mixed, slices_EqualFunc_Term_term_Same_n1, ih]
  exact rfl
noncomputable def slices_EqualFunc_Term_term_Same_l1 (X_term_Same : Term → Term → Option Bool) (X_slices_EqualFunc_Term_term_Same : (List Term) → (List Term) → Unit → Option Bool) (n : Nat) : Nat → (List Term) → (List Term) → Int → Int → Option Bool
  | 0, _, _, _, _ => none
  | m + 1, v0, v1, v2, v3 => (slices_EqualFunc_Term_term_Same_b1 X_term_Same X_slices_EqualFunc_Term_term_Same n).1 (slices_EqualFunc_Term_term_Same_l1 X_term_Same X_slices_EqualFunc_Term_term_Same n m) v0 v1 v2 v3
theorem slices_EqualFunc_Term_term_Same_l1_eq (X_term_Same : Term → Term → Option Bool) (X_slices_EqualFunc_Term_term_Same : (List Term) → (List Term) → Unit → Option Bool) (n : Nat) : ∀ (m : Nat), (∀ (v0 : List Term) (v1 : List Term) (v2 : Int) (v3 : Int), run (slices_EqualFunc_Term_term_Same_m X_term_Same X_slices_EqualFunc_Term_term_Same n) [.lq m [0, 1, 0, 1, 1], .blk 0, .cut [1, 1, 1], .at [1, 1, 1]] ⟨[.any, .lst false 5 (mp Term.cells v0), .func (.func 26) [] [], .any, .any, .any, .any, .any, .any, .any, .any, .any, .any, .any, .any, .lst false 5 (mp Term.cells v1), .int .i64 v2, .int .i64 v3, .any, .any, .any, .any, .any, .any, .any, .any, .any, .any, .any, .any, .any, .any], [], 0⟩ = slices_EqualFunc_Term_term_Same_l1 X_term_Same X_slices_EqualFunc_Term_term_Same n m v0 v1 v2 v3)
  | 0 => by intros; exact run_lq_zero
  | m + 1 => by
    have ih := slices_EqualFunc_Term_term_Same_l1_eq X_term_Same X_slices_EqualFunc_Term_term_Same n m
    intro v0 v1 v2 v3
    rw [run_lq_succ]
    exact (slices_EqualFunc_Term_term_Same_b1 X_term_Same X_slices_EqualFunc_Term_term_Same n).2  m _  ih v0 v1 v2 v3
noncomputable def slices_EqualFunc_Term_term_Same_e (X_term_Same : Term → Term → Option Bool) (X_slices_EqualFunc_Term_term_Same : (List Term) → (List Term) → Unit → Option Bool) (n : Nat) : { B : (List Term) → (List Term) → Unit → Option Bool // ∀ (a0 : (List Term)) (a1 : (List Term)) (a2 : Unit), run (slices_EqualFunc_Term_term_Same_m X_term_Same X_slices_EqualFunc_Term_term_Same n) [.at []] { slots := [(tyL Term.row).enc a0, (tyL Term.row).enc a1, (tyF 26).enc a2] ++ List.replicate (32 - [(tyL Term.row).enc a0, (tyL Term.row).enc a1, (tyF 26).enc a2].length) .any, heap := [] } = B a0 a1 a2 } := by
  apply Subtype.mk
  intro a0 a1 a2
  simp (maxSteps := 100000000) only [go_sem, Nat.reduceAdd, Nat.reduceSub, Nat.reduceLeDiff, Nat.reduceEqDiff, Nat.reduceBEq, Nat.reduceMul, Nat.reduceLT, Int.reduceLE, Int.reduceLT, Int.reduceToNat, Int.reduceBEq, Int.reduceEq, slices_EqualFunc_Term_term_Same_f, slices_EqualFunc_Term_term_Same_c, Try.f65, Option.getD_some, mixed, slices_EqualFunc_Term_term_Same_n1, slices_EqualFunc_Term_term_Same_l1_eq X_term_Same X_slices_EqualFunc_Term_term_Same n]
  exact rfl
mutual
noncomputable def term_Same : Nat → Term → Term → Option Bool
  | 0, _, _ => none
  | n + 1, a0, a1 => (term_Same_e (term_Same n) (slices_EqualFunc_Term_term_Same n) n).1 a0 a1
noncomputable def slices_EqualFunc_Term_term_Same : Nat → (List Term) → (List Term) → Unit → Option Bool
  | 0, _, _, _ => none
  | n + 1, a0, a1, a2 => (slices_EqualFunc_Term_term_Same_e (term_Same n) (slices_EqualFunc_Term_term_Same n) n).1 a0 a1 a2
end
mutual
theorem term_Same_ok : ∀ (n : Nat) (a0 : Term) (a1 : Term) (r : Bool), term_Same n a0 a1 = some r → FnC Try.prog 26 [(tyC Term.cel).enc a0, (tyC Term.cel).enc a1] (fun v => v = tyB.enc r)
  | 0, _, _, _, h => by simp only [term_Same] at h; cases h
  | n + 1, a0, a1, r, h => by
    simp only [term_Same] at h
    have ih_term_Same := term_Same_ok n
    have ih_slices_EqualFunc_Term_term_Same := slices_EqualFunc_Term_term_Same_ok n
    exact fnC_run (M := term_Same_m (term_Same n) (slices_EqualFunc_Term_term_Same n) n) ⟨(tabA_cons_ok (ent3_ok (slices_EqualFunc_Level_term_sameLevel_ok n)) (tabA_cons_ok (ent3_ok (ih_slices_EqualFunc_Term_term_Same)) tabA_nil_ok)), tabD_nil_ok, tabN_ok _, tabF_ok _⟩ Try.func26 rfl rfl ⟨(tyC Term.cel).nb 0 _, (tyC Term.cel).nb 0 _, trivial⟩ Try.ntmps26 Try.results26 (fun σ hs => outR_ok (P := Try.prog) (rs := [.tmp 4]) (t := tyB) (σ := σ) (r := r) hs) (((term_Same_e (term_Same n) (slices_EqualFunc_Term_term_Same n) n).2 a0 a1).trans h)
theorem slices_EqualFunc_Term_term_Same_ok : ∀ (n : Nat) (a0 : (List Term)) (a1 : (List Term)) (a2 : Unit) (r : Bool), slices_EqualFunc_Term_term_Same n a0 a1 a2 = some r → FnC Try.prog 65 [(tyL Term.row).enc a0, (tyL Term.row).enc a1, (tyF 26).enc a2] (fun v => v = tyB.enc r)
  | 0, _, _, _, _, h => by simp only [slices_EqualFunc_Term_term_Same] at h; cases h
  | n + 1, a0, a1, a2, r, h => by
    simp only [slices_EqualFunc_Term_term_Same] at h
    have ih_term_Same := term_Same_ok n
    have ih_slices_EqualFunc_Term_term_Same := slices_EqualFunc_Term_term_Same_ok n
    exact fnC_run (M := slices_EqualFunc_Term_term_Same_m (term_Same n) (slices_EqualFunc_Term_term_Same n) n) ⟨(tabA_cons_ok (ent2_ok (ih_term_Same)) tabA_nil_ok), tabD_nil_ok, tabN_ok _, tabF_ok _⟩ Try.func65 rfl rfl ⟨(tyL Term.row).nb 0 _, (tyL Term.row).nb 0 _, (tyF 26).nb 0 _, trivial⟩ Try.ntmps65 Try.results65 (fun σ hs => outR_ok (P := Try.prog) (rs := [.tmp 6]) (t := tyB) (σ := σ) (r := r) hs) (((slices_EqualFunc_Term_term_Same_e (term_Same n) (slices_EqualFunc_Term_term_Same n) n).2 a0 a1 a2).trans h)
end

noncomputable def ref05_SameList_n1 : Nrm := ⟨[], [], [zT (tyL Term.row), zT (tyL Term.row), zA, zA, zA, zK, zA, zA, zA, zA, zA, zA, zA, zA, zA, zA, zA, zA, zA, zA, zA, zA, zA, zA, zA, zA, zA], []⟩
noncomputable def ref05_SameList_m (n : Nat) : Mach Bool where
  body := (Try.f34.body).getD .skip
  P := Try.prog
  cl := tabA []
  cd := tabD [(23, entD (ent2 (tyC Term.cel) (tyC Term.cel) tyB (ref03_Same n)))]
  nrm := tabN [([0, 1, 0, 1, 1], ref05_SameList_n1)]
  cut := tabF []
  n := n
  out := outR Try.prog [.tmp 4] tyB
theorem ref05_SameList_f (n : Nat) : (ref05_SameList_m n).P = Try.prog ∧ (ref05_SameList_m n).cl = tabA [] ∧ (ref05_SameList_m n).cd = tabD [(23, entD (ent2 (tyC Term.cel) (tyC Term.cel) tyB (ref03_Same n)))] ∧ (ref05_SameList_m n).nrm = tabN [([0, 1, 0, 1, 1], ref05_SameList_n1)] ∧ (ref05_SameList_m n).cut = tabF [] ∧ (ref05_SameList_m n).n = n ∧ (ref05_SameList_m n).out = outR Try.prog [.tmp 4] tyB := ⟨rfl, rfl, rfl, rfl, rfl, rfl, rfl⟩
theorem ref05_SameList_c (n : Nat) : (ref05_SameList_m n).body = (Try.f34.body).getD .skip := rfl
theorem ref05_SameList_d (n : Nat) : drawP (ref05_SameList_m n) [0, 0, 0, 1, 0, 0, 1, 0, 1, 1] = true := by kernel_rfl
noncomputable def ref05_SameList_b1 (n : Nat) : { B : ((List Term) → (List Term) → Int → Option Bool) → (List Term) → (List Term) → Int → Option Bool // ∀ m X0, (∀ (v0 : List Term) (v1 : List Term) (v2 : Int), run (ref05_SameList_m n) [.lq m [0, 1, 0, 1, 1], .blk 0, .cut [1, 1, 1], .at [1, 1, 1]] ⟨[.lst false 5 (mp Term.cells v0), .lst false 5 (mp Term.cells v1), .any, .any, .any, .int .i64 v2, .any, .any, .any, .any, .any, .any, .any, .any, .any, .any, .any, .any, .any, .any, .any, .any, .any, .any, .any, .any, .any], [], 0⟩ = X0 v0 v1 v2) → ∀ (v0 : List Term) (v1 : List Term) (v2 : Int), run (ref05_SameList_m n) [.at [0, 0, 1, 0, 1, 1], .lp m [0, 1, 0, 1, 1], .blk 0, .cut [1, 1, 1], .at [1, 1, 1]] ⟨[.lst false 5 (mp Term.cells v0), .lst false 5 (mp Term.cells v1), .any, .any, .any, .int .i64 v2, .any, .any, .any, .any, .any, .any, .any, .any, .any, .any, .any, .any, .any, .any, .any, .any, .any, .any, .any, .any, .any], [], 0⟩ = B X0 v0 v1 v2 } := by
  apply Subtype.mk
  intro m X0 ih v0 v1 v2
  simp (maxSteps := 100000000) only [go_sem, Nat.reduceAdd, Nat.reduceSub, Nat.reduceLeDiff, Nat.reduceEqDiff, Nat.reduceBEq, Nat.reduceMul, Nat.reduceLT, Int.reduceLE, Int.reduceLT, Int.reduceToNat, Int.reduceBEq, Int.reduceEq, ref05_SameList_f, ref05_SameList_c, Try.f34, Option.getD_some, mixed, ref05_SameList_d, ref05_SameList_n1, ih]
  exact rfl
noncomputable def ref05_SameList_l1 (n : Nat) : Nat → (List Term) → (List Term) → Int → Option Bool
  | 0, _, _, _ => none
  | m + 1, v0, v1, v2 => (ref05_SameList_b1 n).1 (ref05_SameList_l1 n m) v0 v1 v2
theorem ref05_SameList_l1_eq (n : Nat) : ∀ (m : Nat), (∀ (v0 : List Term) (v1 : List Term) (v2 : Int), run (ref05_SameList_m n) [.lq m [0, 1, 0, 1, 1], .blk 0, .cut [1, 1, 1], .at [1, 1, 1]] ⟨[.lst false 5 (mp Term.cells v0), .lst false 5 (mp Term.cells v1), .any, .any, .any, .int .i64 v2, .any, .any, .any, .any, .any, .any, .any, .any, .any, .any, .any, .any, .any, .any, .any, .any, .any, .any, .any, .any, .any], [], 0⟩ = ref05_SameList_l1 n m v0 v1 v2)
  | 0 => by intros; exact run_lq_zero
  | m + 1 => by
    have ih := ref05_SameList_l1_eq n m
    intro v0 v1 v2
    rw [run_lq_succ]
    exact (ref05_SameList_b1 n).2  m _  ih v0 v1 v2
noncomputable def ref05_SameList_e (n : Nat) : { B : (List Term) → (List Term) → Option Bool // ∀ (a0 : (List Term)) (a1 : (List Term)), run (ref05_SameList_m n) [.at []] { slots := [(tyL Term.row).enc a0, (tyL Term.row).enc a1] ++ List.replicate (27 - [(tyL Term.row).enc a0, (tyL Term.row).enc a1].length) .any, heap := [] } = B a0 a1 } := by
  apply Subtype.mk
  intro a0 a1
  simp (maxSteps := 100000000) only [go_sem, Nat.reduceAdd, Nat.reduceSub, Nat.reduceLeDiff, Nat.reduceEqDiff, Nat.reduceBEq, Nat.reduceMul, Nat.reduceLT, Int.reduceLE, Int.reduceLT, Int.reduceToNat, Int.reduceBEq, Int.reduceEq, ref05_SameList_f, ref05_SameList_c, Try.f34, Option.getD_some, mixed, ref05_SameList_d, ref05_SameList_n1, ref05_SameList_l1_eq n]
  exact rfl
noncomputable def ref05_SameList : Nat → (List Term) → (List Term) → Option Bool
  | 0, _, _ => none
  | n + 1, a0, a1 => (ref05_SameList_e n).1 a0 a1
theorem ref05_SameList_ok : ∀ (n : Nat) (a0 : (List Term)) (a1 : (List Term)) (r : Bool), ref05_SameList n a0 a1 = some r → FnC Try.prog 34 [(tyL Term.row).enc a0, (tyL Term.row).enc a1] (fun v => v = tyB.enc r)
  | 0, _, _, _, h => by cases h
  | n + 1, a0, a1, r, h => by
    exact fnC_run (M := ref05_SameList_m n) ⟨tabA_nil_ok, (tabD_cons_ok (ent2_okD (ref03_Same_ok n)) tabD_nil_ok), tabN_ok _, tabF_ok _⟩ Try.func34 rfl rfl ⟨(tyL Term.row).nb 0 _, (tyL Term.row).nb 0 _, trivial⟩ Try.ntmps34 Try.results34 (fun σ hs => outR_ok (P := Try.prog) (rs := [.tmp 4]) (t := tyB) (σ := σ) (r := r) hs) (((ref05_SameList_e n).2 a0 a1).trans h)
end Go.Abs

