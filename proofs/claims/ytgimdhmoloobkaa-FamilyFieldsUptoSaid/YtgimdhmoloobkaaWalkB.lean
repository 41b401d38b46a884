/- A part of the proof: what the functions compute. -/
import Derived.Test.YtgimdhmoloobkaaDataA
import Derived.Test.YtgimdhmoloobkaaWalkA
set_option linter.all false
namespace Go.Abs
open Go.Proofs
set_option maxRecDepth 100000
set_option maxHeartbeats 4000000
set_option linter.unusedSimpArgs false
set_option linter.unusedVariables false
noncomputable def law07_smallTree_n1 : Nrm := ⟨[], [], [zA, zK, zK, zA, zA, zK, zA, zA, zA, zA, zA, zA, zA, zA, zA, zA, zA, zA, zA, zA, zA, zA, zA, zA, zA, zA, zA, zA, zA, zA, zA, zA, zA, zA, zA, zA, zA, zA, zA, zA, zA, zA, zA, zA, zA, zA, zA], [oT Tree.cel], none⟩
noncomputable def law07_smallTree_m (X : Tree → Int → Option Bool) (n : Nat) : Mach Bool where
  body := (Try.f91.body).getD .skip
  P := Try.prog
  cl := tabA [(90, ent1 (tyC Term.cel) tyB (law07_small n)), (91, ent2 (tyC Tree.cel) (tyI .i64) tyB X)]
  cd := tabD []
  nrm := tabN [([0, 1, 0, 1, 1], law07_smallTree_n1)]
  cut := tabF []
  n := n
  out := outR Try.prog [.tmp 4] tyB
theorem law07_smallTree_f (X : Tree → Int → Option Bool) (n : Nat) : (law07_smallTree_m X n).P = Try.prog ∧ (law07_smallTree_m X n).cl = tabA [(90, ent1 (tyC Term.cel) tyB (law07_small n)), (91, ent2 (tyC Tree.cel) (tyI .i64) tyB X)] ∧ (law07_smallTree_m X n).cd = tabD [] ∧ (law07_smallTree_m X n).nrm = tabN [([0, 1, 0, 1, 1], law07_smallTree_n1)] ∧ (law07_smallTree_m X n).cut = tabF [] ∧ (law07_smallTree_m X n).n = n ∧ (law07_smallTree_m X n).out = outR Try.prog [.tmp 4] tyB := ⟨rfl, rfl, rfl, rfl, rfl, rfl, rfl⟩
theorem law07_smallTree_c (X : Tree → Int → Option Bool) (n : Nat) : (law07_smallTree_m X n).body = (Try.f91.body).getD .skip := rfl
noncomputable def law07_smallTree_b1 (X : Tree → Int → Option Bool) (n : Nat) : { B : (Int → Int → Tree → Option Bool) → Int → Int → Tree → Option Bool // ∀ m X0, (∀ (v0 : Int) (v1 : Int) (o0 : Tree), run (law07_smallTree_m X n) [.lq m [0, 1, 0, 1, 1], .blk 0, .cut [1, 1, 1], .at [1, 1, 1]] ⟨[.any, .int .i64 v0, .ptr 0 0, .any, .any, .int .i64 v1, .any, .any, .any, .any, .any, .any, .any, .any, .any, .any, .any, .any, .any, .any, .any, .any, .any, .any, .any, .any, .any, .any, .any, .any, .any, .any, .any, .any, .any, .any, .any, .any, .any, .any, .any, .any, .any, .any, .any, .any, .any], [.cells (Tree.cells o0)], 0⟩ = X0 v0 v1 o0) → ∀ (v0 : Int) (v1 : Int) (o0 : Tree), run (law07_smallTree_m X n) [.at [0, 0, 1, 0, 1, 1], .lp m [0, 1, 0, 1, 1], .blk 0, .cut [1, 1, 1], .at [1, 1, 1]] ⟨[.any, .int .i64 v0, .ptr 0 0, .any, .any, .int .i64 v1, .any, .any, .any, .any, .any, .any, .any, .any, .any, .any, .any, .any, .any, .any, .any, .any, .any, .any, .any, .any, .any, .any, .any, .any, .any, .any, .any, .any, .any, .any, .any, .any, .any, .any, .any, .any, .any, .any, .any, .any, .any], [.cells (Tree.cells o0)], 0⟩ = B X0 v0 v1 o0 } := by
  apply Subtype.mk
  intro m X0 ih v0 v1 o0
  simp (config := { maxSteps := 100000000 }) only [go_sem, Nat.reduceAdd, Nat.reduceSub, Nat.reduceLeDiff, Nat.reduceEqDiff, Nat.reduceBEq, Nat.reduceMul, Nat.reduceLT, Int.reduceLE, Int.reduceLT, Int.reduceToNat, Int.reduceBEq, Int.reduceEq, law07_smallTree_f, law07_smallTree_c, Try.f91, Option.getD_some, mixed, law07_smallTree_n1, ih]
  exact rfl
noncomputable def law07_smallTree_l1 (X : Tree → Int → Option Bool) (n : Nat) : Nat → Int → Int → Tree → Option Bool
  | 0, _, _, _ => none
  | m + 1, v0, v1, o0 => (law07_smallTree_b1 X n).1 (law07_smallTree_l1 X n m) v0 v1 o0
theorem law07_smallTree_l1_eq (X : Tree → Int → Option Bool) (n : Nat) : ∀ (m : Nat), (∀ (v0 : Int) (v1 : Int) (o0 : Tree), run (law07_smallTree_m X n) [.lq m [0, 1, 0, 1, 1], .blk 0, .cut [1, 1, 1], .at [1, 1, 1]] ⟨[.any, .int .i64 v0, .ptr 0 0, .any, .any, .int .i64 v1, .any, .any, .any, .any, .any, .any, .any, .any, .any, .any, .any, .any, .any, .any, .any, .any, .any, .any, .any, .any, .any, .any, .any, .any, .any, .any, .any, .any, .any, .any, .any, .any, .any, .any, .any, .any, .any, .any, .any, .any, .any], [.cells (Tree.cells o0)], 0⟩ = law07_smallTree_l1 X n m v0 v1 o0)
  | 0 => by intros; exact run_lq_zero
  | m + 1 => by
    have ih := law07_smallTree_l1_eq X n m
    intro v0 v1 o0
    rw [run_lq_succ]
    exact (law07_smallTree_b1 X n).2  m _  ih v0 v1 o0
noncomputable def law07_smallTree_e (X : Tree → Int → Option Bool) (n : Nat) : { B : Tree → Int → Option Bool // ∀ (a0 : Tree) (a1 : Int), run (law07_smallTree_m X n) [.at []] { slots := [(tyC Tree.cel).enc a0, (tyI .i64).enc a1] ++ List.replicate (47 - [(tyC Tree.cel).enc a0, (tyI .i64).enc a1].length) .any, heap := [] } = B a0 a1 } := by
  apply Subtype.mk
  intro a0 a1
  simp (config := { maxSteps := 100000000 }) only [go_sem, Nat.reduceAdd, Nat.reduceSub, Nat.reduceLeDiff, Nat.reduceEqDiff, Nat.reduceBEq, Nat.reduceMul, Nat.reduceLT, Int.reduceLE, Int.reduceLT, Int.reduceToNat, Int.reduceBEq, Int.reduceEq, law07_smallTree_f, law07_smallTree_c, Try.f91, Option.getD_some, mixed, law07_smallTree_n1, law07_smallTree_l1_eq X n]
  exact rfl
noncomputable def law07_smallTree : Nat → Tree → Int → Option Bool
  | 0, _, _ => none
  | n + 1, a0, a1 => (law07_smallTree_e (law07_smallTree n) n).1 a0 a1
theorem law07_smallTree_ok : ∀ (n : Nat) (a0 : Tree) (a1 : Int) (r : Bool), law07_smallTree n a0 a1 = some r → FnC Try.prog 91 [(tyC Tree.cel).enc a0, (tyI .i64).enc a1] (fun v => v = tyB.enc r)
  | 0, _, _, _, h => by cases h
  | n + 1, a0, a1, r, h => by
    have ih_law07_smallTree := law07_smallTree_ok n
    exact fnC_run (M := law07_smallTree_m (law07_smallTree n) n) ⟨(tabA_cons_ok (ent1_ok (law07_small_ok n)) (tabA_cons_ok (ent2_ok (ih_law07_smallTree)) tabA_nil_ok)), tabD_nil_ok, tabN_ok _, tabF_ok _, noY_ok, noE_ok⟩ Try.func91 rfl rfl ⟨(tyC Tree.cel).nb 0 _, (tyI .i64).nb 0 _, trivial⟩ Try.ntmps91 Try.results91 (fun σ hs => outR_ok (P := Try.prog) (rs := [.tmp 4]) (t := tyB) (σ := σ) (r := r) hs) (((law07_smallTree_e (law07_smallTree n) n).2 a0 a1).trans h)

noncomputable def ref03_check_n1 : Nrm := ⟨[], [], [zA, zK, zK, zK, zK, zK, zK, zA, zA, zA, zA, zA, zA, zA, zA, zK, zA, zA, zA, zA, zA, zA, zA, zA, zA, zA, zA, zA, zA, zA, zA, zA, zA, zA, zA, zA, zA, zA, zA, zA, zA, zA, zA, zA, zA, zA, zA, zA, zA, zA, zA, zA, zA, zA, zA, zA, zA, zA, zA, zA, zA, zA, zA, zA, zA, zA, zA, zA, zA, zA, zA, zA, zA, zA, zA, zA, zA, zA, zA, zA, zA, zA, zA, zA, zA, zA, zA, zA, zA, zA, zA, zA, zA, zA, zA, zA, zA, zA, zA, zA, zA, zA, zA, zA, zA, zA, zA], [oT Term.cel], none⟩
noncomputable def ref03_check_n2 : Nrm := ⟨[], [], [zA, zK, zK, zK, zK, zK, zK, zA, zA, zA, zA, zA, zA, zK, zA, zA, zA, zA, zA, zA, zA, zA, zA, zA, zA, zA, zA, zA, zA, zA, zA, zA, zA, zA, zA, zA, zA, zA, zA, zA, zA, zA, zA, zA, zA, zA, zA, zA, zA, zA, zA, zA, zA, zA, zA, zA, zA, zA, zA, zA, zA, zA, zA, zA, zA, zA, zA, zA, zA, zA, zA, zA, zA, zA, zA, zA, zA, zA, zA, zA, zA, zA, zA, zA, zA, zA, zA, zA, zA, zA, zA, zA, zA, zA, zA, zA, zA, zA, zA, zA, zA, zA, zA, zA, zA, zA, zA], [oT Term.cel], none⟩
noncomputable def ref03_check_m (X : Term → Int → Int → Int → Int → Int → Option Int) (n : Nat) : Mach Int where
  body := (Try.f106.body).getD .skip
  P := Try.prog
  cl := tabA [(54, ent1 tyS tyB (ref03_Name n)), (122, ent1 (tyC Term.cel) tyB (ref03_form n)), (123, ent3 (tyC Level.cel) (tyI .i64) (tyI .i64) (tyI .i64) (ref03_level n))]
  cd := tabD [(106, entD (ent6 (tyC Term.cel) (tyI .i64) (tyI .i64) (tyI .i64) (tyI .i64) (tyI .i64) (tyI .i64) X)), (124, entD (ent2 (tyI .i64) (tyI .i64) (tyI .i64) (ref03_Below n)))]
  nrm := tabN [([0, 1, 0, 1, 1, 1, 1, 1, 1, 1], ref03_check_n1), ([0, 1, 0, 1, 1, 1, 1], ref03_check_n2)]
  cut := tabF []
  n := n
  out := outR Try.prog [.tmp 12] (tyI .i64)
  isE := tabI []
theorem ref03_check_f (X : Term → Int → Int → Int → Int → Int → Option Int) (n : Nat) : (ref03_check_m X n).P = Try.prog ∧ (ref03_check_m X n).cl = tabA [(54, ent1 tyS tyB (ref03_Name n)), (122, ent1 (tyC Term.cel) tyB (ref03_form n)), (123, ent3 (tyC Level.cel) (tyI .i64) (tyI .i64) (tyI .i64) (ref03_level n))] ∧ (ref03_check_m X n).cd = tabD [(106, entD (ent6 (tyC Term.cel) (tyI .i64) (tyI .i64) (tyI .i64) (tyI .i64) (tyI .i64) (tyI .i64) X)), (124, entD (ent2 (tyI .i64) (tyI .i64) (tyI .i64) (ref03_Below n)))] ∧ (ref03_check_m X n).nrm = tabN [([0, 1, 0, 1, 1, 1, 1, 1, 1, 1], ref03_check_n1), ([0, 1, 0, 1, 1, 1, 1], ref03_check_n2)] ∧ (ref03_check_m X n).cut = tabF [] ∧ (ref03_check_m X n).n = n ∧ (ref03_check_m X n).out = outR Try.prog [.tmp 12] (tyI .i64) ∧ (ref03_check_m X n).isE = tabI [] := ⟨rfl, rfl, rfl, rfl, rfl, rfl, rfl, rfl⟩
theorem ref03_check_c (X : Term → Int → Int → Int → Int → Int → Option Int) (n : Nat) : (ref03_check_m X n).body = (Try.f106.body).getD .skip := rfl
theorem ref03_check_d (X : Term → Int → Int → Int → Int → Int → Option Int) (n : Nat) : drawP (ref03_check_m X n) [0, 0, 0, 1, 0, 0, 1, 0, 1, 1, 1, 1, 1, 1, 1] = true := by kernel_rfl
noncomputable def ref03_check_b1 (X : Term → Int → Int → Int → Int → Int → Option Int) (n : Nat) : { B : (Int → Int → Int → Int → Int → Int → Term → Option Int) → Int → Int → Int → Int → Int → Int → Term → Option Int // ∀ m X0, (∀ (v0 : Int) (v1 : Int) (v2 : Int) (v3 : Int) (v4 : Int) (v5 : Int) (o0 : Term), run (ref03_check_m X n) [.lq m [0, 1, 0, 1, 1, 1, 1, 1, 1, 1], .blk 2, .cut [1, 1, 1, 1, 1, 1, 1, 1], .at [1, 1, 1, 1, 1, 1, 1, 1]] ⟨[.any, .int .i64 v0, .int .i64 v1, .int .i64 v2, .int .i64 v3, .int .i64 v4, .ptr 0 0, .any, .any, .any, .any, .any, .any, .any, .any, .int .i64 v5, .any, .any, .any, .any, .any, .any, .any, .any, .any, .any, .any, .any, .any, .any, .any, .any, .any, .any, .any, .any, .any, .any, .any, .any, .any, .any, .any, .any, .any, .any, .any, .any, .any, .any, .any, .any, .any, .any, .any, .any, .any, .any, .any, .any, .any, .any, .any, .any, .any, .any, .any, .any, .any, .any, .any, .any, .any, .any, .any, .any, .any, .any, .any, .any, .any, .any, .any, .any, .any, .any, .any, .any, .any, .any, .any, .any, .any, .any, .any, .any, .any, .any, .any, .any, .any, .any, .any, .any, .any, .any, .any], [.cells (Term.cells o0)], 0⟩ = X0 v0 v1 v2 v3 v4 v5 o0) → ∀ (v0 : Int) (v1 : Int) (v2 : Int) (v3 : Int) (v4 : Int) (v5 : Int) (o0 : Term), run (ref03_check_m X n) [.at [0, 0, 1, 0, 1, 1, 1, 1, 1, 1, 1], .lp m [0, 1, 0, 1, 1, 1, 1, 1, 1, 1], .blk 2, .cut [1, 1, 1, 1, 1, 1, 1, 1], .at [1, 1, 1, 1, 1, 1, 1, 1]] ⟨[.any, .int .i64 v0, .int .i64 v1, .int .i64 v2, .int .i64 v3, .int .i64 v4, .ptr 0 0, .any, .any, .any, .any, .any, .any, .any, .any, .int .i64 v5, .any, .any, .any, .any, .any, .any, .any, .any, .any, .any, .any, .any, .any, .any, .any, .any, .any, .any, .any, .any, .any, .any, .any, .any, .any, .any, .any, .any, .any, .any, .any, .any, .any, .any, .any, .any, .any, .any, .any, .any, .any, .any, .any, .any, .any, .any, .any, .any, .any, .any, .any, .any, .any, .any, .any, .any, .any, .any, .any, .any, .any, .any, .any, .any, .any, .any, .any, .any, .any, .any, .any, .any, .any, .any, .any, .any, .any, .any, .any, .any, .any, .any, .any, .any, .any, .any, .any, .any, .any, .any, .any], [.cells (Term.cells o0)], 0⟩ = B X0 v0 v1 v2 v3 v4 v5 o0 } := by
  apply Subtype.mk
  intro m X0 ih v0 v1 v2 v3 v4 v5 o0
  simp (config := { maxSteps := 100000000 }) only [go_sem, Nat.reduceAdd, Nat.reduceSub, Nat.reduceLeDiff, Nat.reduceEqDiff, Nat.reduceBEq, Nat.reduceMul, Nat.reduceLT, Int.reduceLE, Int.reduceLT, Int.reduceToNat, Int.reduceBEq, Int.reduceEq, ref03_check_f, ref03_check_c, Try.f106, Option.getD_some, mixed, ref03_check_d, ref03_check_n1, ref03_check_n2, ih]
  exact rfl
noncomputable def ref03_check_l1 (X : Term → Int → Int → Int → Int → Int → Option Int) (n : Nat) : Nat → Int → Int → Int → Int → Int → Int → Term → Option Int
  | 0, _, _, _, _, _, _, _ => none
  | m + 1, v0, v1, v2, v3, v4, v5, o0 => (ref03_check_b1 X n).1 (ref03_check_l1 X n m) v0 v1 v2 v3 v4 v5 o0
theorem ref03_check_l1_eq (X : Term → Int → Int → Int → Int → Int → Option Int) (n : Nat) : ∀ (m : Nat), (∀ (v0 : Int) (v1 : Int) (v2 : Int) (v3 : Int) (v4 : Int) (v5 : Int) (o0 : Term), run (ref03_check_m X n) [.lq m [0, 1, 0, 1, 1, 1, 1, 1, 1, 1], .blk 2, .cut [1, 1, 1, 1, 1, 1, 1, 1], .at [1, 1, 1, 1, 1, 1, 1, 1]] ⟨[.any, .int .i64 v0, .int .i64 v1, .int .i64 v2, .int .i64 v3, .int .i64 v4, .ptr 0 0, .any, .any, .any, .any, .any, .any, .any, .any, .int .i64 v5, .any, .any, .any, .any, .any, .any, .any, .any, .any, .any, .any, .any, .any, .any, .any, .any, .any, .any, .any, .any, .any, .any, .any, .any, .any, .any, .any, .any, .any, .any, .any, .any, .any, .any, .any, .any, .any, .any, .any, .any, .any, .any, .any, .any, .any, .any, .any, .any, .any, .any, .any, .any, .any, .any, .any, .any, .any, .any, .any, .any, .any, .any, .any, .any, .any, .any, .any, .any, .any, .any, .any, .any, .any, .any, .any, .any, .any, .any, .any, .any, .any, .any, .any, .any, .any, .any, .any, .any, .any, .any, .any], [.cells (Term.cells o0)], 0⟩ = ref03_check_l1 X n m v0 v1 v2 v3 v4 v5 o0)
  | 0 => by intros; exact run_lq_zero
  | m + 1 => by
    have ih := ref03_check_l1_eq X n m
    intro v0 v1 v2 v3 v4 v5 o0
    rw [run_lq_succ]
    exact (ref03_check_b1 X n).2  m _  ih v0 v1 v2 v3 v4 v5 o0
noncomputable def ref03_check_b2 (X : Term → Int → Int → Int → Int → Int → Option Int) (n : Nat) : { B : (Int → Int → Int → Int → Int → Int → Term → Option Int) → Int → Int → Int → Int → Int → Int → Term → Option Int // ∀ m X0, (∀ (v0 : Int) (v1 : Int) (v2 : Int) (v3 : Int) (v4 : Int) (v5 : Int) (o0 : Term), run (ref03_check_m X n) [.lq m [0, 1, 0, 1, 1, 1, 1], .blk 0, .cut [1, 1, 1, 1, 1], .at [1, 1, 1, 1, 1]] ⟨[.any, .int .i64 v0, .int .i64 v1, .int .i64 v2, .int .i64 v3, .int .i64 v4, .ptr 0 0, .any, .any, .any, .any, .any, .any, .int .i64 v5, .any, .any, .any, .any, .any, .any, .any, .any, .any, .any, .any, .any, .any, .any, .any, .any, .any, .any, .any, .any, .any, .any, .any, .any, .any, .any, .any, .any, .any, .any, .any, .any, .any, .any, .any, .any, .any, .any, .any, .any, .any, .any, .any, .any, .any, .any, .any, .any, .any, .any, .any, .any, .any, .any, .any, .any, .any, .any, .any, .any, .any, .any, .any, .any, .any, .any, .any, .any, .any, .any, .any, .any, .any, .any, .any, .any, .any, .any, .any, .any, .any, .any, .any, .any, .any, .any, .any, .any, .any, .any, .any, .any, .any], [.cells (Term.cells o0)], 0⟩ = X0 v0 v1 v2 v3 v4 v5 o0) → ∀ (v0 : Int) (v1 : Int) (v2 : Int) (v3 : Int) (v4 : Int) (v5 : Int) (o0 : Term), run (ref03_check_m X n) [.at [0, 0, 1, 0, 1, 1, 1, 1], .lp m [0, 1, 0, 1, 1, 1, 1], .blk 0, .cut [1, 1, 1, 1, 1], .at [1, 1, 1, 1, 1]] ⟨[.any, .int .i64 v0, .int .i64 v1, .int .i64 v2, .int .i64 v3, .int .i64 v4, .ptr 0 0, .any, .any, .any, .any, .any, .any, .int .i64 v5, .any, .any, .any, .any, .any, .any, .any, .any, .any, .any, .any, .any, .any, .any, .any, .any, .any, .any, .any, .any, .any, .any, .any, .any, .any, .any, .any, .any, .any, .any, .any, .any, .any, .any, .any, .any, .any, .any, .any, .any, .any, .any, .any, .any, .any, .any, .any, .any, .any, .any, .any, .any, .any, .any, .any, .any, .any, .any, .any, .any, .any, .any, .any, .any, .any, .any, .any, .any, .any, .any, .any, .any, .any, .any, .any, .any, .any, .any, .any, .any, .any, .any, .any, .any, .any, .any, .any, .any, .any, .any, .any, .any, .any], [.cells (Term.cells o0)], 0⟩ = B X0 v0 v1 v2 v3 v4 v5 o0 } := by
  apply Subtype.mk
  intro m X0 ih v0 v1 v2 v3 v4 v5 o0
  simp (config := { maxSteps := 100000000 }) only [go_sem, Nat.reduceAdd, Nat.reduceSub, Nat.reduceLeDiff, Nat.reduceEqDiff, Nat.reduceBEq, Nat.reduceMul, Nat.reduceLT, Int.reduceLE, Int.reduceLT, Int.reduceToNat, Int.reduceBEq, Int.reduceEq, ref03_check_f, ref03_check_c, Try.f106, Option.getD_some, mixed, ref03_check_d, ref03_check_n1, ref03_check_n2, ref03_check_l1_eq X n, ih]
  exact rfl
noncomputable def ref03_check_l2 (X : Term → Int → Int → Int → Int → Int → Option Int) (n : Nat) : Nat → Int → Int → Int → Int → Int → Int → Term → Option Int
  | 0, _, _, _, _, _, _, _ => none
  | m + 1, v0, v1, v2, v3, v4, v5, o0 => (ref03_check_b2 X n).1 (ref03_check_l2 X n m) v0 v1 v2 v3 v4 v5 o0
theorem ref03_check_l2_eq (X : Term → Int → Int → Int → Int → Int → Option Int) (n : Nat) : ∀ (m : Nat), (∀ (v0 : Int) (v1 : Int) (v2 : Int) (v3 : Int) (v4 : Int) (v5 : Int) (o0 : Term), run (ref03_check_m X n) [.lq m [0, 1, 0, 1, 1, 1, 1], .blk 0, .cut [1, 1, 1, 1, 1], .at [1, 1, 1, 1, 1]] ⟨[.any, .int .i64 v0, .int .i64 v1, .int .i64 v2, .int .i64 v3, .int .i64 v4, .ptr 0 0, .any, .any, .any, .any, .any, .any, .int .i64 v5, .any, .any, .any, .any, .any, .any, .any, .any, .any, .any, .any, .any, .any, .any, .any, .any, .any, .any, .any, .any, .any, .any, .any, .any, .any, .any, .any, .any, .any, .any, .any, .any, .any, .any, .any, .any, .any, .any, .any, .any, .any, .any, .any, .any, .any, .any, .any, .any, .any, .any, .any, .any, .any, .any, .any, .any, .any, .any, .any, .any, .any, .any, .any, .any, .any, .any, .any, .any, .any, .any, .any, .any, .any, .any, .any, .any, .any, .any, .any, .any, .any, .any, .any, .any, .any, .any, .any, .any, .any, .any, .any, .any, .any], [.cells (Term.cells o0)], 0⟩ = ref03_check_l2 X n m v0 v1 v2 v3 v4 v5 o0)
  | 0 => by intros; exact run_lq_zero
  | m + 1 => by
    have ih := ref03_check_l2_eq X n m
    intro v0 v1 v2 v3 v4 v5 o0
    rw [run_lq_succ]
    exact (ref03_check_b2 X n).2  m _  ih v0 v1 v2 v3 v4 v5 o0
noncomputable def ref03_check_e (X : Term → Int → Int → Int → Int → Int → Option Int) (n : Nat) : { B : Term → Int → Int → Int → Int → Int → Option Int // ∀ (a0 : Term) (a1 : Int) (a2 : Int) (a3 : Int) (a4 : Int) (a5 : Int), run (ref03_check_m X n) [.at []] { slots := [(tyC Term.cel).enc a0, (tyI .i64).enc a1, (tyI .i64).enc a2, (tyI .i64).enc a3, (tyI .i64).enc a4, (tyI .i64).enc a5] ++ List.replicate (107 - [(tyC Term.cel).enc a0, (tyI .i64).enc a1, (tyI .i64).enc a2, (tyI .i64).enc a3, (tyI .i64).enc a4, (tyI .i64).enc a5].length) .any, heap := [] } = B a0 a1 a2 a3 a4 a5 } := by
  apply Subtype.mk
  intro a0 a1 a2 a3 a4 a5
  simp (config := { maxSteps := 100000000 }) only [go_sem, Nat.reduceAdd, Nat.reduceSub, Nat.reduceLeDiff, Nat.reduceEqDiff, Nat.reduceBEq, Nat.reduceMul, Nat.reduceLT, Int.reduceLE, Int.reduceLT, Int.reduceToNat, Int.reduceBEq, Int.reduceEq, ref03_check_f, ref03_check_c, Try.f106, Option.getD_some, mixed, ref03_check_d, ref03_check_n1, ref03_check_n2, ref03_check_l1_eq X n, ref03_check_l2_eq X n]
  exact rfl
noncomputable def ref03_check : Nat → Term → Int → Int → Int → Int → Int → Option Int
  | 0, _, _, _, _, _, _ => none
  | n + 1, a0, a1, a2, a3, a4, a5 => (ref03_check_e (ref03_check n) n).1 a0 a1 a2 a3 a4 a5
theorem ref03_check_ok : ∀ (n : Nat) (a0 : Term) (a1 : Int) (a2 : Int) (a3 : Int) (a4 : Int) (a5 : Int) (r : Int), ref03_check n a0 a1 a2 a3 a4 a5 = some r → FnC Try.prog 106 [(tyC Term.cel).enc a0, (tyI .i64).enc a1, (tyI .i64).enc a2, (tyI .i64).enc a3, (tyI .i64).enc a4, (tyI .i64).enc a5] (fun v => v = (tyI .i64).enc r)
  | 0, _, _, _, _, _, _, _, h => by cases h
  | n + 1, a0, a1, a2, a3, a4, a5, r, h => by
    have ih_ref03_check := ref03_check_ok n
    exact fnC_run (M := ref03_check_m (ref03_check n) n) ⟨(tabA_cons_ok (ent1_ok (ref03_Name_ok n)) (tabA_cons_ok (ent1_ok (ref03_form_ok n)) (tabA_cons_ok (ent3_ok (ref03_level_ok n)) tabA_nil_ok))), (tabD_cons_ok (ent6_okD (ih_ref03_check)) (tabD_cons_ok (ent2_okD (ref03_Below_ok n)) tabD_nil_ok)), tabN_ok _, tabF_ok _, noY_ok, noE_ok⟩ Try.func106 rfl rfl ⟨(tyC Term.cel).nb 0 _, (tyI .i64).nb 0 _, (tyI .i64).nb 0 _, (tyI .i64).nb 0 _, (tyI .i64).nb 0 _, (tyI .i64).nb 0 _, trivial⟩ Try.ntmps106 Try.results106 (fun σ hs => outR_ok (P := Try.prog) (rs := [.tmp 12]) (t := (tyI .i64)) (σ := σ) (r := r) hs) (((ref03_check_e (ref03_check n) n).2 a0 a1 a2 a3 a4 a5).trans h)

noncomputable def law12_vec_m (n : Nat) : Mach Decl where
  body := (Try.f55.body).getD .skip
  P := Try.prog
  cl := tabA []
  cd := tabD [(93, entD (ent1 (tyI .i64) (tyC Term.cel) (law12_vec_1 n))), (94, entD (ent2 (tyC Term.cel) (tyC Term.cel) (tyC Term.cel) (law12_vec_2 n))), (95, entD (ent2 (tyC Term.cel) (tyC Term.cel) (tyC Term.cel) (law12_vec_3 n))), (96, entD (ent4 (tyC Term.cel) (tyC Term.cel) (tyP (cF 95)) (tyP (cL Level.row)) (tyC Term.cel) (law12_vec_4 n)))]
  nrm := tabN []
  cut := tabF [([1, 1, 1, 1, 1, 1, 1], [1, 2])]
  n := n
  out := outR Try.prog [.cell 2 31] (tyC Decl.cel)
  isE := tabI []
theorem law12_vec_f (n : Nat) : (law12_vec_m n).P = Try.prog ∧ (law12_vec_m n).cl = tabA [] ∧ (law12_vec_m n).cd = tabD [(93, entD (ent1 (tyI .i64) (tyC Term.cel) (law12_vec_1 n))), (94, entD (ent2 (tyC Term.cel) (tyC Term.cel) (tyC Term.cel) (law12_vec_2 n))), (95, entD (ent2 (tyC Term.cel) (tyC Term.cel) (tyC Term.cel) (law12_vec_3 n))), (96, entD (ent4 (tyC Term.cel) (tyC Term.cel) (tyP (cF 95)) (tyP (cL Level.row)) (tyC Term.cel) (law12_vec_4 n)))] ∧ (law12_vec_m n).nrm = tabN [] ∧ (law12_vec_m n).cut = tabF [([1, 1, 1, 1, 1, 1, 1], [1, 2])] ∧ (law12_vec_m n).n = n ∧ (law12_vec_m n).out = outR Try.prog [.cell 2 31] (tyC Decl.cel) ∧ (law12_vec_m n).isE = tabI [] := ⟨rfl, rfl, rfl, rfl, rfl, rfl, rfl, rfl⟩
theorem law12_vec_c (n : Nat) : (law12_vec_m n).body = (Try.f55.body).getD .skip := rfl
theorem law12_vec_d (n : Nat) : drawP (law12_vec_m n) [0, 1, 1, 1, 1, 1, 1, 1, 1] = true := by kernel_rfl
theorem law12_vec_o (n : Nat) : ordP (law12_vec_m n) [0, 1, 1, 1, 1, 1, 1, 1, 1] 1 47 = true ∧ ordP (law12_vec_m n) [0, 1, 1, 1, 1, 1, 1, 1, 1] 3 47 = true ∧ ordP (law12_vec_m n) [0, 1, 1, 1, 1, 1, 1, 1, 1] 4 47 = true ∧ ordP (law12_vec_m n) [0, 1, 1, 1, 1, 1, 1, 1, 1] 9 47 = true ∧ ordP (law12_vec_m n) [0, 1, 1, 1, 1, 1, 1, 1, 1] 13 47 = true ∧ ordP (law12_vec_m n) [0, 1, 1, 1, 1, 1, 1, 1, 1] 18 47 = true ∧ ordP (law12_vec_m n) [0, 1, 1, 1, 1, 1, 1, 1, 1] 20 47 = true ∧ ordP (law12_vec_m n) [0, 1, 1, 1, 1, 1, 1, 1, 1] 34 47 = true ∧ ordP (law12_vec_m n) [0, 1, 1, 1, 1, 1, 1, 1, 1] 35 47 = true := ⟨by kernel_rfl, by kernel_rfl, by kernel_rfl, by kernel_rfl, by kernel_rfl, by kernel_rfl, by kernel_rfl, by kernel_rfl, by kernel_rfl⟩
noncomputable def law12_vec_e (n : Nat) : { B : Int → Option Decl // ∀ (a0 : Int), run (law12_vec_m n) [.at []] { slots := [(tyI .i64).enc a0] ++ List.replicate (69 - [(tyI .i64).enc a0].length) .any, heap := [] } = B a0 } := by
  apply Subtype.mk
  intro a0
  simp (config := { maxSteps := 100000000 }) only [go_sem, Nat.reduceAdd, Nat.reduceSub, Nat.reduceLeDiff, Nat.reduceEqDiff, Nat.reduceBEq, Nat.reduceMul, Nat.reduceLT, Int.reduceLE, Int.reduceLT, Int.reduceToNat, Int.reduceBEq, Int.reduceEq, law12_vec_f, law12_vec_c, Try.f55, Option.getD_some, mixed, law12_vec_d, law12_vec_o]
  exact rfl
noncomputable def law12_vec : Nat → Int → Option Decl
  | 0, _ => none
  | n + 1, a0 => (law12_vec_e n).1 a0
theorem law12_vec_ok : ∀ (n : Nat) (a0 : Int) (r : Decl), law12_vec n a0 = some r → FnC Try.prog 55 [(tyI .i64).enc a0] (fun v => v = (tyC Decl.cel).enc r)
  | 0, _, _, h => by cases h
  | n + 1, a0, r, h => by
    exact fnC_run (M := law12_vec_m n) ⟨tabA_nil_ok, (tabD_cons_ok (ent1_okD (law12_vec_1_ok n)) (tabD_cons_ok (ent2_okD (law12_vec_2_ok n)) (tabD_cons_ok (ent2_okD (law12_vec_3_ok n)) (tabD_cons_ok (ent4_okD (law12_vec_4_ok n)) tabD_nil_ok)))), tabN_ok _, tabF_ok _, noY_ok, noE_ok⟩ Try.func55 rfl rfl ⟨(tyI .i64).nb 0 _, trivial⟩ Try.ntmps55 Try.results55 (fun σ hs => outR_ok (P := Try.prog) (rs := [.cell 2 31]) (t := (tyC Decl.cel)) (σ := σ) (r := r) hs) (((law12_vec_e n).2 a0).trans h)

noncomputable def slices_EqualFunc_Level_term_sameLevel_n1 : Nrm := ⟨[], [], [zA, zT (tyL Level.row), zT (tyF 64), zA, zA, zA, zA, zA, zA, zA, zA, zA, zA, zA, zA, zT (tyL Level.row), zK, zK, zA, zA, zA, zA, zA, zA, zA, zA, zA, zA, zA, zA, zA, zA], [], none⟩
noncomputable def slices_EqualFunc_Level_term_sameLevel_m (n : Nat) : Mach Bool where
  body := (Try.f63.body).getD .skip
  P := Try.prog
  cl := tabA [(64, ent2 (tyC Level.cel) (tyC Level.cel) tyB (term_sameLevel n))]
  cd := tabD []
  nrm := tabN [([0, 1, 0, 1, 1], slices_EqualFunc_Level_term_sameLevel_n1)]
  cut := tabF []
  n := n
  out := outR Try.prog [.tmp 6] tyB
theorem slices_EqualFunc_Level_term_sameLevel_f (n : Nat) : (slices_EqualFunc_Level_term_sameLevel_m n).P = Try.prog ∧ (slices_EqualFunc_Level_term_sameLevel_m n).cl = tabA [(64, ent2 (tyC Level.cel) (tyC Level.cel) tyB (term_sameLevel n))] ∧ (slices_EqualFunc_Level_term_sameLevel_m n).cd = tabD [] ∧ (slices_EqualFunc_Level_term_sameLevel_m n).nrm = tabN [([0, 1, 0, 1, 1], slices_EqualFunc_Level_term_sameLevel_n1)] ∧ (slices_EqualFunc_Level_term_sameLevel_m n).cut = tabF [] ∧ (slices_EqualFunc_Level_term_sameLevel_m n).n = n ∧ (slices_EqualFunc_Level_term_sameLevel_m n).out = outR Try.prog [.tmp 6] tyB := ⟨rfl, rfl, rfl, rfl, rfl, rfl, rfl⟩
theorem slices_EqualFunc_Level_term_sameLevel_c (n : Nat) : (slices_EqualFunc_Level_term_sameLevel_m n).body = (Try.f63.body).getD .skip := rfl
noncomputable def slices_EqualFunc_Level_term_sameLevel_b1 (n : Nat) : { B : ((List Level) → (List Level) → Int → Int → Option Bool) → (List Level) → (List Level) → Int → Int → Option Bool // ∀ m X0, (∀ (v0 : List Level) (v1 : List Level) (v2 : Int) (v3 : Int), run (slices_EqualFunc_Level_term_sameLevel_m n) [.lq m [0, 1, 0, 1, 1], .blk 0, .cut [1, 1, 1], .at [1, 1, 1]] ⟨[.any, .lst false 2 (mp Level.cells v0), .func (.func 64) [] [], .any, .any, .any, .any, .any, .any, .any, .any, .any, .any, .any, .any, .lst false 2 (mp Level.cells v1), .int .i64 v2, .int .i64 v3, .any, .any, .any, .any, .any, .any, .any, .any, .any, .any, .any, .any, .any, .any], [], 0⟩ = X0 v0 v1 v2 v3) → ∀ (v0 : List Level) (v1 : List Level) (v2 : Int) (v3 : Int), run (slices_EqualFunc_Level_term_sameLevel_m n) [.at [0, 0, 1, 0, 1, 1], .lp m [0, 1, 0, 1, 1], .blk 0, .cut [1, 1, 1], .at [1, 1, 1]] ⟨[.any, .lst false 2 (mp Level.cells v0), .func (.func 64) [] [], .any, .any, .any, .any, .any, .any, .any, .any, .any, .any, .any, .any, .lst false 2 (mp Level.cells v1), .int .i64 v2, .int .i64 v3, .any, .any, .any, .any, .any, .any, .any, .any, .any, .any, .any, .any, .any, .any], [], 0⟩ = B X0 v0 v1 v2 v3 } := by
  apply Subtype.mk
  intro m X0 ih v0 v1 v2 v3
  simp (config := { maxSteps := 100000000 }) only [go_sem, Nat.reduceAdd, Nat.reduceSub, Nat.reduceLeDiff, Nat.reduceEqDiff, Nat.reduceBEq, Nat.reduceMul, Nat.reduceLT, Int.reduceLE, Int.reduceLT, Int.reduceToNat, Int.reduceBEq, Int.reduceEq, slices_EqualFunc_Level_term_sameLevel_f, slices_EqualFunc_Level_term_sameLevel_c, Try.f63, Option.getD_some, mixed, slices_EqualFunc_Level_term_sameLevel_n1, ih]
  exact rfl
noncomputable def slices_EqualFunc_Level_term_sameLevel_l1 (n : Nat) : Nat → (List Level) → (List Level) → Int → Int → Option Bool
  | 0, _, _, _, _ => none
  | m + 1, v0, v1, v2, v3 => (slices_EqualFunc_Level_term_sameLevel_b1 n).1 (slices_EqualFunc_Level_term_sameLevel_l1 n m) v0 v1 v2 v3
theorem slices_EqualFunc_Level_term_sameLevel_l1_eq (n : Nat) : ∀ (m : Nat), (∀ (v0 : List Level) (v1 : List Level) (v2 : Int) (v3 : Int), run (slices_EqualFunc_Level_term_sameLevel_m n) [.lq m [0, 1, 0, 1, 1], .blk 0, .cut [1, 1, 1], .at [1, 1, 1]] ⟨[.any, .lst false 2 (mp Level.cells v0), .func (.func 64) [] [], .any, .any, .any, .any, .any, .any, .any, .any, .any, .any, .any, .any, .lst false 2 (mp Level.cells v1), .int .i64 v2, .int .i64 v3, .any, .any, .any, .any, .any, .any, .any, .any, .any, .any, .any, .any, .any, .any], [], 0⟩ = slices_EqualFunc_Level_term_sameLevel_l1 n m v0 v1 v2 v3)
  | 0 => by intros; exact run_lq_zero
  | m + 1 => by
    have ih := slices_EqualFunc_Level_term_sameLevel_l1_eq n m
    intro v0 v1 v2 v3
    rw [run_lq_succ]
    exact (slices_EqualFunc_Level_term_sameLevel_b1 n).2  m _  ih v0 v1 v2 v3
noncomputable def slices_EqualFunc_Level_term_sameLevel_e (n : Nat) : { B : (List Level) → (List Level) → Unit → Option Bool // ∀ (a0 : (List Level)) (a1 : (List Level)) (a2 : Unit), run (slices_EqualFunc_Level_term_sameLevel_m n) [.at []] { slots := [(tyL Level.row).enc a0, (tyL Level.row).enc a1, (tyF 64).enc a2] ++ List.replicate (32 - [(tyL Level.row).enc a0, (tyL Level.row).enc a1, (tyF 64).enc a2].length) .any, heap := [] } = B a0 a1 a2 } := by
  apply Subtype.mk
  intro a0 a1 a2
  simp (config := { maxSteps := 100000000 }) only [go_sem, Nat.reduceAdd, Nat.reduceSub, Nat.reduceLeDiff, Nat.reduceEqDiff, Nat.reduceBEq, Nat.reduceMul, Nat.reduceLT, Int.reduceLE, Int.reduceLT, Int.reduceToNat, Int.reduceBEq, Int.reduceEq, slices_EqualFunc_Level_term_sameLevel_f, slices_EqualFunc_Level_term_sameLevel_c, Try.f63, Option.getD_some, mixed, slices_EqualFunc_Level_term_sameLevel_n1, slices_EqualFunc_Level_term_sameLevel_l1_eq n]
  exact rfl
noncomputable def slices_EqualFunc_Level_term_sameLevel : Nat → (List Level) → (List Level) → Unit → Option Bool
  | 0, _, _, _ => none
  | n + 1, a0, a1, a2 => (slices_EqualFunc_Level_term_sameLevel_e n).1 a0 a1 a2
theorem slices_EqualFunc_Level_term_sameLevel_ok : ∀ (n : Nat) (a0 : (List Level)) (a1 : (List Level)) (a2 : Unit) (r : Bool), slices_EqualFunc_Level_term_sameLevel n a0 a1 a2 = some r → FnC Try.prog 63 [(tyL Level.row).enc a0, (tyL Level.row).enc a1, (tyF 64).enc a2] (fun v => v = tyB.enc r)
  | 0, _, _, _, _, h => by cases h
  | n + 1, a0, a1, a2, r, h => by
    exact fnC_run (M := slices_EqualFunc_Level_term_sameLevel_m n) ⟨(tabA_cons_ok (ent2_ok (term_sameLevel_ok n)) tabA_nil_ok), tabD_nil_ok, tabN_ok _, tabF_ok _, noY_ok, noE_ok⟩ Try.func63 rfl rfl ⟨(tyL Level.row).nb 0 _, (tyL Level.row).nb 0 _, (tyF 64).nb 0 _, trivial⟩ Try.ntmps63 Try.results63 (fun σ hs => outR_ok (P := Try.prog) (rs := [.tmp 6]) (t := tyB) (σ := σ) (r := r) hs) (((slices_EqualFunc_Level_term_sameLevel_e n).2 a0 a1 a2).trans h)

noncomputable def telescope_over_1_m (n : Nat) : Mach Term where
  body := (Try.f103.body).getD .skip
  P := Try.prog
  cl := tabA [(104, ent1 (tyL Term.row) (tyK1 117 (tyP (cL Term.row))) (slices_Backward_Term n)), (117, entX [.arg 0 [], .obj 0 4 []] slices_Backward_Term_1_os (alM 0 (alT (tyP (cL Term.row)) alN)) slices_Backward_Term_1_o1 alN (fun (b : ((Int × Unit) × ((Term × Unit) × Unit))) (a : ((List Term) × Unit)) => (slices_Backward_Term_1 n) a.1 b.1.1 b.2.1.1))]
  cd := tabD []
  nrm := tabN []
  cut := tabF []
  n := n
  out := outR Try.prog [.cell 5 25] (tyC Term.cel)
  js := tabJ [([0, 1, 0, 1], [])]
theorem telescope_over_1_f (n : Nat) : (telescope_over_1_m n).P = Try.prog ∧ (telescope_over_1_m n).cl = tabA [(104, ent1 (tyL Term.row) (tyK1 117 (tyP (cL Term.row))) (slices_Backward_Term n)), (117, entX [.arg 0 [], .obj 0 4 []] slices_Backward_Term_1_os (alM 0 (alT (tyP (cL Term.row)) alN)) slices_Backward_Term_1_o1 alN (fun (b : ((Int × Unit) × ((Term × Unit) × Unit))) (a : ((List Term) × Unit)) => (slices_Backward_Term_1 n) a.1 b.1.1 b.2.1.1))] ∧ (telescope_over_1_m n).cd = tabD [] ∧ (telescope_over_1_m n).nrm = tabN [] ∧ (telescope_over_1_m n).cut = tabF [] ∧ (telescope_over_1_m n).n = n ∧ (telescope_over_1_m n).out = outR Try.prog [.cell 5 25] (tyC Term.cel) ∧ (telescope_over_1_m n).js = tabJ [([0, 1, 0, 1], [])] := ⟨rfl, rfl, rfl, rfl, rfl, rfl, rfl, rfl⟩
theorem telescope_over_1_c (n : Nat) : (telescope_over_1_m n).body = (Try.f103.body).getD .skip := rfl
theorem telescope_over_1_k0_ (n : Nat) : lkM (telescope_over_1_m n) [0, 1, 0, 1] = telescope_over_1_k0_1_0_1 := rfl
noncomputable def telescope_over_1_e (n : Nat) : { B : (List Term) → Term → Int → Option Term // ∀ (a0 : (List Term)) (a1 : Term) (a2 : Int), run (telescope_over_1_m n) [.at []] { slots := [(tyL Term.row).enc a0, (tyC Term.cel).enc a1, (tyP (cI .i64)).enc a2] ++ List.replicate (18 - [(tyL Term.row).enc a0, (tyC Term.cel).enc a1, (tyP (cI .i64)).enc a2].length) .any, heap := [] } = B a0 a1 a2 } := by
  apply Subtype.mk
  intro a0 a1 a2
  simp (config := { maxSteps := 100000000 }) only [go_sem, Nat.reduceAdd, Nat.reduceSub, Nat.reduceLeDiff, Nat.reduceEqDiff, Nat.reduceBEq, Nat.reduceMul, Nat.reduceLT, Int.reduceLE, Int.reduceLT, Int.reduceToNat, Int.reduceBEq, Int.reduceEq, telescope_over_1_f, telescope_over_1_c, Try.f103, Option.getD_some, mixed, slices_Backward_Term_1_os, slices_Backward_Term_1_o1, telescope_over_1_k0_1_0_1_f, telescope_over_1_k0_]
  exact rfl
noncomputable def telescope_over_1 : Nat → (List Term) → Term → Int → Option Term
  | 0, _, _, _ => none
  | n + 1, a0, a1, a2 => (telescope_over_1_e n).1 a0 a1 a2
theorem telescope_over_1_ok : ∀ (n : Nat) (a0 : (List Term)) (a1 : Term) (a2 : Int) (r : Term), telescope_over_1 n a0 a1 a2 = some r → FnC Try.prog 103 [(tyL Term.row).enc a0, (tyC Term.cel).enc a1, (tyP (cI .i64)).enc a2] (fun v => v = (tyC Term.cel).enc r)
  | 0, _, _, _, _, h => by cases h
  | n + 1, a0, a1, a2, r, h => by
    exact fnC_run (M := telescope_over_1_m n) ⟨(tabA_cons_ok (ent1_ok (slices_Backward_Term_ok n)) (tabA_cons_ok (entX_ok (fun b a r h => (slices_Backward_Term_1_ok n) a.1 b.1.1 b.2.1.1 r h)) tabA_nil_ok)), tabD_nil_ok, tabN_ok _, tabF_ok _, noY_ok, noE_ok⟩ Try.func103 rfl rfl ⟨(tyL Term.row).nb 0 _, (tyC Term.cel).nb 0 _, (tyP (cI .i64)).nb 0 _, trivial⟩ Try.ntmps103 Try.results103 (fun σ hs => outR_ok (P := Try.prog) (rs := [.cell 5 25]) (t := (tyC Term.cel)) (σ := σ) (r := r) hs) (((telescope_over_1_e n).2 a0 a1 a2).trans h)

noncomputable def term_nodes_1_os : OL (Unit × (Unit × (Unit × ((List (Str × Bool)) × ((List Str) × Unit))))) := (olC (ogL0 term_Consts_k0_1_0_1_1_1 (alZs 3 (alP 1 (alP 2 (alZs 26 alN))))) (olC (ogC (alM 3 alN)) (olC (ogC (alA 4 alN)) (olC ogM (olC (ogA true rowS) olN)))))
noncomputable def term_nodes_1_o1 : OL ((Unit × Int) × (Unit × (Unit × ((List (Str × Bool)) × ((List Str) × Unit))))) := (olC (ogL term_Consts_k0_1_0_1_1_1 (alZs 3 (alP 1 (alP 2 (alZs 26 alN))))) (olC (ogC (alM 3 alN)) (olC (ogC (alA 4 alN)) (olC ogM (olC (ogA true rowS) olN)))))
noncomputable def term_nodes_1_m (n : Nat) : Mach (((Unit × Int) × (Unit × (Unit × ((List (Str × Bool)) × ((List Str) × Unit))))) × Unit) where
  body := (Try.f114.body).getD .skip
  P := Try.prog
  cl := tabA [(115, ent0  (tyC (cA TermUse.cel 5 13)) (term_uses n)), (116, entX [.arg 2 [], .arg 4 [], .obj 0 0 [], .obj 2 3 [], .obj 2 4 [], .obj 3 0 [], .obj 4 0 []] term_nodes_1_1_os term_nodes_1_1_as term_nodes_1_1_o1 (alT tyB alN) (fun (b : (Unit × ((((Tup TermUse 13) × Unit) × Unit) × (Unit × (Unit × (Unit × ((List (Str × Bool)) × ((List Str) × Unit)))))))) (a : (Term × (Int × ((Tup TermUse 13) × Unit)))) => (term_nodes_1_1 n) a.1 a.2.1 a.2.2.1 b.2.1.1.1 b.2.2.2.2.2.1 b.2.2.2.2.2.2.1))]
  cd := tabD []
  nrm := tabN []
  cut := tabF [([1, 1, 1, 1], [6])]
  n := n
  out := outS Try.prog [] [] [0, 1, 2, 3, 4] 5 term_nodes_1_o1 alN
theorem term_nodes_1_f (n : Nat) : (term_nodes_1_m n).P = Try.prog ∧ (term_nodes_1_m n).cl = tabA [(115, ent0  (tyC (cA TermUse.cel 5 13)) (term_uses n)), (116, entX [.arg 2 [], .arg 4 [], .obj 0 0 [], .obj 2 3 [], .obj 2 4 [], .obj 3 0 [], .obj 4 0 []] term_nodes_1_1_os term_nodes_1_1_as term_nodes_1_1_o1 (alT tyB alN) (fun (b : (Unit × ((((Tup TermUse 13) × Unit) × Unit) × (Unit × (Unit × (Unit × ((List (Str × Bool)) × ((List Str) × Unit)))))))) (a : (Term × (Int × ((Tup TermUse 13) × Unit)))) => (term_nodes_1_1 n) a.1 a.2.1 a.2.2.1 b.2.1.1.1 b.2.2.2.2.2.1 b.2.2.2.2.2.2.1))] ∧ (term_nodes_1_m n).cd = tabD [] ∧ (term_nodes_1_m n).nrm = tabN [] ∧ (term_nodes_1_m n).cut = tabF [([1, 1, 1, 1], [6])] ∧ (term_nodes_1_m n).n = n ∧ (term_nodes_1_m n).out = outS Try.prog [] [] [0, 1, 2, 3, 4] 5 term_nodes_1_o1 alN := ⟨rfl, rfl, rfl, rfl, rfl, rfl, rfl⟩
theorem term_nodes_1_c (n : Nat) : (term_nodes_1_m n).body = (Try.f114.body).getD .skip := rfl
noncomputable def term_nodes_1_e (n : Nat) : { B : Term → (List (Str × Bool)) → (List Str) → Option (((Unit × Int) × (Unit × (Unit × ((List (Str × Bool)) × ((List Str) × Unit))))) × Unit) // ∀ (a0 : Term) (o0 : (List (Str × Bool))) (o1 : (List Str)), run (term_nodes_1_m n) [.at []] { slots := ((alM 0 (alT (tyP Term.cel) alN)).enc (term_nodes_1_os.lens ((), (), (), o0, o1, ())) (a0, ())) ++ List.replicate (10 - ((alM 0 (alT (tyP Term.cel) alN)).enc (term_nodes_1_os.lens ((), (), (), o0, o1, ())) (a0, ())).length) .any, heap := (term_nodes_1_os.enc (term_nodes_1_os.lens ((), (), (), o0, o1, ())) ((), (), (), o0, o1, ())), low := (term_nodes_1_os.enc (term_nodes_1_os.lens ((), (), (), o0, o1, ())) ((), (), (), o0, o1, ())).length } = B a0 o0 o1 } := by
  apply Subtype.mk
  intro a0 o0 o1
  simp (config := { maxSteps := 100000000 }) only [go_sem, Nat.reduceAdd, Nat.reduceSub, Nat.reduceLeDiff, Nat.reduceEqDiff, Nat.reduceBEq, Nat.reduceMul, Nat.reduceLT, Int.reduceLE, Int.reduceLT, Int.reduceToNat, Int.reduceBEq, Int.reduceEq, term_nodes_1_f, term_nodes_1_c, Try.f114, Option.getD_some, mixed, term_nodes_1_os, term_nodes_1_o1, term_nodes_1_1_as, term_nodes_1_1_os, term_nodes_1_1_o1, term_Consts_k0_1_0_1_1_1_f]
  exact rfl
noncomputable def term_nodes_1 : Nat → Term → (List (Str × Bool)) → (List Str) → Option (((Unit × Int) × (Unit × (Unit × ((List (Str × Bool)) × ((List Str) × Unit))))) × Unit)
  | 0, _, _, _ => none
  | n + 1, a0, o0, o1 => (term_nodes_1_e n).1 a0 o0 o1
theorem term_nodes_1_ok : ∀ (n : Nat) (a0 : Term) (o0 : (List (Str × Bool))) (o1 : (List Str)) (r : (((Unit × Int) × (Unit × (Unit × ((List (Str × Bool)) × ((List Str) × Unit))))) × Unit)), term_nodes_1 n a0 o0 o1 = some r → FnG Try.prog 114 ((alM 0 (alT (tyP Term.cel) alN)).enc (term_nodes_1_os.lens ((), (), (), o0, o1, ())) (a0, ())) (term_nodes_1_os.enc (term_nodes_1_os.lens ((), (), (), o0, o1, ())) ((), (), (), o0, o1, ())) (fun o H' => o = .ret (tupOf (alN.enc (term_nodes_1_o1.lens r.1) r.2)) ∧ H' = term_nodes_1_o1.enc (term_nodes_1_o1.lens r.1) r.1)
  | 0, _, _, _, _, h => by cases h
  | n + 1, a0, o0, o1, r, h => by
    exact fnG_run (M := term_nodes_1_m n) ⟨(tabA_cons_ok (ent0_ok (term_uses_ok n)) (tabA_cons_ok (entX_ok (fun b a r h => (term_nodes_1_1_ok n) a.1 a.2.1 a.2.2.1 b.2.1.1.1 b.2.2.2.2.2.1 b.2.2.2.2.2.2.1 r h)) tabA_nil_ok)), tabD_nil_ok, tabN_ok _, tabF_ok _, noY_ok, noE_ok⟩ Try.func114 rfl rfl (nbL_le (Nat.le_trans (of_decide_eq_true (by kernel_rfl)) (Nat.le_of_eq (term_nodes_1_os.sz _ _).symm)) _ ((alM 0 (alT (tyP Term.cel) alN)).nb _ _)) (fun x hx => objNb_le' (Nat.le_trans (of_decide_eq_true (by kernel_rfl)) (Nat.le_of_eq (term_nodes_1_os.sz _ _).symm)) _ (term_nodes_1_os.nb _ _ x hx)) Try.ntmps114 Try.results114 (fun σ hs => outS_ok (P := Try.prog) (rs := []) (pos := []) (base := [0, 1, 2, 3, 4]) (low := 5) (os := term_nodes_1_o1) (s := alN) (σ := σ) (r := r) (by rfl) hs) (((term_nodes_1_e n).2 a0 o0 o1).trans h)
end Go.Abs
namespace Go.Abs
open Go.Proofs
set_option maxRecDepth 100000
set_option maxHeartbeats 4000000
set_option linter.unusedSimpArgs false
set_option linter.unusedVariables false
noncomputable def ref12_Own_m (n : Nat) : Mach Term where
  body := (Try.f85.body).getD .skip
  P := Try.prog
  cl := tabA [(45, ent1 (tyI .i64) (tyL Level.row) (ref07_Params n))]
  cd := tabD []
  nrm := tabN []
  cut := tabF []
  n := n
  out := outR Try.prog [.cell 4 25] (tyC Term.cel)
theorem ref12_Own_f (n : Nat) : (ref12_Own_m n).P = Try.prog ∧ (ref12_Own_m n).cl = tabA [(45, ent1 (tyI .i64) (tyL Level.row) (ref07_Params n))] ∧ (ref12_Own_m n).cd = tabD [] ∧ (ref12_Own_m n).nrm = tabN [] ∧ (ref12_Own_m n).cut = tabF [] ∧ (ref12_Own_m n).n = n ∧ (ref12_Own_m n).out = outR Try.prog [.cell 4 25] (tyC Term.cel) := ⟨rfl, rfl, rfl, rfl, rfl, rfl, rfl⟩
theorem ref12_Own_c (n : Nat) : (ref12_Own_m n).body = (Try.f85.body).getD .skip := rfl
noncomputable def ref12_Own_e (n : Nat) : { B : Str → Int → Option Term // ∀ (a0 : Str) (a1 : Int), run (ref12_Own_m n) [.at []] { slots := [tyS.enc a0, (tyI .i64).enc a1] ++ List.replicate (9 - [tyS.enc a0, (tyI .i64).enc a1].length) .any, heap := [] } = B a0 a1 } := by
  apply Subtype.mk
  intro a0 a1
  simp (config := { maxSteps := 100000000 }) only [go_sem, Nat.reduceAdd, Nat.reduceSub, Nat.reduceLeDiff, Nat.reduceEqDiff, Nat.reduceBEq, Nat.reduceMul, Nat.reduceLT, Int.reduceLE, Int.reduceLT, Int.reduceToNat, Int.reduceBEq, Int.reduceEq, ref12_Own_f, ref12_Own_c, Try.f85, Option.getD_some, mixed]
  exact rfl
noncomputable def ref12_Own : Nat → Str → Int → Option Term
  | 0, _, _ => none
  | n + 1, a0, a1 => (ref12_Own_e n).1 a0 a1
theorem ref12_Own_ok : ∀ (n : Nat) (a0 : Str) (a1 : Int) (r : Term), ref12_Own n a0 a1 = some r → FnC Try.prog 85 [tyS.enc a0, (tyI .i64).enc a1] (fun v => v = (tyC Term.cel).enc r)
  | 0, _, _, _, h => by cases h
  | n + 1, a0, a1, r, h => by
    exact fnC_run (M := ref12_Own_m n) ⟨(tabA_cons_ok (ent1_ok (ref07_Params_ok n)) tabA_nil_ok), tabD_nil_ok, tabN_ok _, tabF_ok _, noY_ok, noE_ok⟩ Try.func85 rfl rfl ⟨tyS.nb 0 _, (tyI .i64).nb 0 _, trivial⟩ Try.ntmps85 Try.results85 (fun σ hs => outR_ok (P := Try.prog) (rs := [.cell 4 25]) (t := (tyC Term.cel)) (σ := σ) (r := r) hs) (((ref12_Own_e n).2 a0 a1).trans h)

noncomputable def ref03_Same_n1 : Nrm := ⟨[], [], [zA, zA, zK, zK, zA, zK, zA, zA, zA, zA, zA, zA, zA, zA, zA, zA, zA, zA, zA, zA, zA, zA, zA, zA, zA, zA, zA, zA, zA, zA, zA, zA, zA, zA, zA, zA, zA, zA, zA, zA, zA, zA, zA, zA, zA, zA, zA, zA, zA, zA, zA, zA, zA, zA, zA, zA, zA, zA, zA, zA, zA], [oT Term.cel, oT Term.cel], none⟩
noncomputable def ref03_Same_m (X : Term → Term → Option Bool) (n : Nat) : Mach Bool where
  body := (Try.f23.body).getD .skip
  P := Try.prog
  cl := tabA [(62, ent2 (tyL Level.row) (tyL Level.row) tyB (ref01_SameLists n))]
  cd := tabD [(23, entD (ent2 (tyC Term.cel) (tyC Term.cel) tyB X))]
  nrm := tabN [([0, 1, 0, 1, 1], ref03_Same_n1)]
  cut := tabF []
  n := n
  out := outR Try.prog [.tmp 4] tyB
  isE := tabI []
theorem ref03_Same_f (X : Term → Term → Option Bool) (n : Nat) : (ref03_Same_m X n).P = Try.prog ∧ (ref03_Same_m X n).cl = tabA [(62, ent2 (tyL Level.row) (tyL Level.row) tyB (ref01_SameLists n))] ∧ (ref03_Same_m X n).cd = tabD [(23, entD (ent2 (tyC Term.cel) (tyC Term.cel) tyB X))] ∧ (ref03_Same_m X n).nrm = tabN [([0, 1, 0, 1, 1], ref03_Same_n1)] ∧ (ref03_Same_m X n).cut = tabF [] ∧ (ref03_Same_m X n).n = n ∧ (ref03_Same_m X n).out = outR Try.prog [.tmp 4] tyB ∧ (ref03_Same_m X n).isE = tabI [] := ⟨rfl, rfl, rfl, rfl, rfl, rfl, rfl, rfl⟩
theorem ref03_Same_c (X : Term → Term → Option Bool) (n : Nat) : (ref03_Same_m X n).body = (Try.f23.body).getD .skip := rfl
theorem ref03_Same_d (X : Term → Term → Option Bool) (n : Nat) : drawP (ref03_Same_m X n) [0, 0, 0, 1, 0, 0, 1, 0, 1, 1] = true := by kernel_rfl
noncomputable def ref03_Same_b1 (X : Term → Term → Option Bool) (n : Nat) : { B : (Int → Term → Term → Option Bool) → Int → Term → Term → Option Bool // ∀ m X0, (∀ (v0 : Int) (o0 : Term) (o1 : Term), run (ref03_Same_m X n) [.lq m [0, 1, 0, 1, 1], .blk 0, .cut [1, 1, 1], .at [1, 1, 1]] ⟨[.any, .any, .ptr 0 0, .ptr 1 0, .any, .int .i64 v0, .any, .any, .any, .any, .any, .any, .any, .any, .any, .any, .any, .any, .any, .any, .any, .any, .any, .any, .any, .any, .any, .any, .any, .any, .any, .any, .any, .any, .any, .any, .any, .any, .any, .any, .any, .any, .any, .any, .any, .any, .any, .any, .any, .any, .any, .any, .any, .any, .any, .any, .any, .any, .any, .any, .any], [.cells (Term.cells o0), .cells (Term.cells o1)], 0⟩ = X0 v0 o0 o1) → ∀ (v0 : Int) (o0 : Term) (o1 : Term), run (ref03_Same_m X n) [.at [0, 0, 1, 0, 1, 1], .lp m [0, 1, 0, 1, 1], .blk 0, .cut [1, 1, 1], .at [1, 1, 1]] ⟨[.any, .any, .ptr 0 0, .ptr 1 0, .any, .int .i64 v0, .any, .any, .any, .any, .any, .any, .any, .any, .any, .any, .any, .any, .any, .any, .any, .any, .any, .any, .any, .any, .any, .any, .any, .any, .any, .any, .any, .any, .any, .any, .any, .any, .any, .any, .any, .any, .any, .any, .any, .any, .any, .any, .any, .any, .any, .any, .any, .any, .any, .any, .any, .any, .any, .any, .any], [.cells (Term.cells o0), .cells (Term.cells o1)], 0⟩ = B X0 v0 o0 o1 } := by
  apply Subtype.mk
  intro m X0 ih v0 o0 o1
  simp (config := { maxSteps := 100000000 }) only [go_sem, Nat.reduceAdd, Nat.reduceSub, Nat.reduceLeDiff, Nat.reduceEqDiff, Nat.reduceBEq, Nat.reduceMul, Nat.reduceLT, Int.reduceLE, Int.reduceLT, Int.reduceToNat, Int.reduceBEq, Int.reduceEq, ref03_Same_f, ref03_Same_c, Try.f23, Option.getD_some, mixed, ref03_Same_d, ref03_Same_n1, ih]
  exact rfl
noncomputable def ref03_Same_l1 (X : Term → Term → Option Bool) (n : Nat) : Nat → Int → Term → Term → Option Bool
  | 0, _, _, _ => none
  | m + 1, v0, o0, o1 => (ref03_Same_b1 X n).1 (ref03_Same_l1 X n m) v0 o0 o1
theorem ref03_Same_l1_eq (X : Term → Term → Option Bool) (n : Nat) : ∀ (m : Nat), (∀ (v0 : Int) (o0 : Term) (o1 : Term), run (ref03_Same_m X n) [.lq m [0, 1, 0, 1, 1], .blk 0, .cut [1, 1, 1], .at [1, 1, 1]] ⟨[.any, .any, .ptr 0 0, .ptr 1 0, .any, .int .i64 v0, .any, .any, .any, .any, .any, .any, .any, .any, .any, .any, .any, .any, .any, .any, .any, .any, .any, .any, .any, .any, .any, .any, .any, .any, .any, .any, .any, .any, .any, .any, .any, .any, .any, .any, .any, .any, .any, .any, .any, .any, .any, .any, .any, .any, .any, .any, .any, .any, .any, .any, .any, .any, .any, .any, .any], [.cells (Term.cells o0), .cells (Term.cells o1)], 0⟩ = ref03_Same_l1 X n m v0 o0 o1)
  | 0 => by intros; exact run_lq_zero
  | m + 1 => by
    have ih := ref03_Same_l1_eq X n m
    intro v0 o0 o1
    rw [run_lq_succ]
    exact (ref03_Same_b1 X n).2  m _  ih v0 o0 o1
noncomputable def ref03_Same_e (X : Term → Term → Option Bool) (n : Nat) : { B : Term → Term → Option Bool // ∀ (a0 : Term) (a1 : Term), run (ref03_Same_m X n) [.at []] { slots := [(tyC Term.cel).enc a0, (tyC Term.cel).enc a1] ++ List.replicate (61 - [(tyC Term.cel).enc a0, (tyC Term.cel).enc a1].length) .any, heap := [] } = B a0 a1 } := by
  apply Subtype.mk
  intro a0 a1
  simp (config := { maxSteps := 100000000 }) only [go_sem, Nat.reduceAdd, Nat.reduceSub, Nat.reduceLeDiff, Nat.reduceEqDiff, Nat.reduceBEq, Nat.reduceMul, Nat.reduceLT, Int.reduceLE, Int.reduceLT, Int.reduceToNat, Int.reduceBEq, Int.reduceEq, ref03_Same_f, ref03_Same_c, Try.f23, Option.getD_some, mixed, ref03_Same_d, ref03_Same_n1, ref03_Same_l1_eq X n]
  exact rfl
noncomputable def ref03_Same : Nat → Term → Term → Option Bool
  | 0, _, _ => none
  | n + 1, a0, a1 => (ref03_Same_e (ref03_Same n) n).1 a0 a1
theorem ref03_Same_ok : ∀ (n : Nat) (a0 : Term) (a1 : Term) (r : Bool), ref03_Same n a0 a1 = some r → FnC Try.prog 23 [(tyC Term.cel).enc a0, (tyC Term.cel).enc a1] (fun v => v = tyB.enc r)
  | 0, _, _, _, h => by cases h
  | n + 1, a0, a1, r, h => by
    have ih_ref03_Same := ref03_Same_ok n
    exact fnC_run (M := ref03_Same_m (ref03_Same n) n) ⟨(tabA_cons_ok (ent2_ok (ref01_SameLists_ok n)) tabA_nil_ok), (tabD_cons_ok (ent2_okD (ih_ref03_Same)) tabD_nil_ok), tabN_ok _, tabF_ok _, noY_ok, noE_ok⟩ Try.func23 rfl rfl ⟨(tyC Term.cel).nb 0 _, (tyC Term.cel).nb 0 _, trivial⟩ Try.ntmps23 Try.results23 (fun σ hs => outR_ok (P := Try.prog) (rs := [.tmp 4]) (t := tyB) (σ := σ) (r := r) hs) (((ref03_Same_e (ref03_Same n) n).2 a0 a1).trans h)
end Go.Abs
namespace Go.Abs
open Go.Proofs
set_option maxRecDepth 100000
set_option maxHeartbeats 4000000
set_option linter.unusedSimpArgs false
set_option linter.unusedVariables false
noncomputable def law07_FewDecl_n1 : Nrm := ⟨[], [], [zA, zK, zA, zA, zA, zK, zA, zA, zA, zA, zA, zA, zA, zA, zA, zA, zA, zA, zA, zA, zA, zA, zA, zA, zA, zA, zA, zA, zA, zA, zA, zA, zA, zA, zA, zA, zA, zA, zA, zA, zA, zA, zA, zA, zA, zA, zA, zA, zA, zA, zA, zA, zA, zA, zA, zA, zA, zA, zA, zA, zA, zA, zA, zA, zA, zA, zA, zA, zA, zA, zA, zA, zA, zA, zA, zA, zA, zA, zA, zA, zA, zA, zA, zA, zA, zA, zA, zA, zA, zA, zA, zA, zA, zA, zA, zA, zA, zA, zA, zA, zA, zA, zA, zA, zA, zA, zA, zA, zA, zA, zA, zA, zA, zA, zA, zA, zA, zA, zA, zA, zA, zA, zA, zA], [oT Decl.cel], none⟩
noncomputable def law07_FewDecl_n2 : Nrm := ⟨[], [], [zA, zK, zA, zA, zK, zA, zA, zA, zA, zA, zA, zA, zA, zA, zA, zA, zA, zA, zA, zA, zA, zA, zA, zA, zA, zA, zA, zA, zA, zA, zA, zA, zA, zA, zA, zA, zA, zA, zA, zA, zA, zA, zA, zA, zA, zA, zA, zA, zA, zA, zA, zA, zA, zA, zA, zA, zA, zA, zA, zA, zA, zA, zA, zA, zA, zA, zA, zA, zA, zA, zA, zA, zA, zA, zA, zA, zA, zA, zA, zA, zA, zA, zA, zA, zA, zA, zA, zA, zA, zA, zA, zA, zA, zA, zA, zA, zA, zA, zA, zA, zA, zA, zA, zA, zA, zA, zA, zA, zA, zA, zA, zA, zA, zA, zA, zA, zA, zA, zA, zA, zA, zA, zA, zA], [oT Decl.cel], none⟩
noncomputable def law07_FewDecl_n3 : Nrm := ⟨[], [], [zA, zK, zA, zK, zA, zA, zA, zA, zA, zA, zA, zA, zA, zA, zA, zA, zA, zA, zA, zA, zA, zA, zA, zA, zA, zA, zA, zA, zA, zA, zA, zA, zA, zA, zA, zA, zA, zA, zA, zA, zA, zA, zA, zA, zA, zA, zA, zA, zA, zA, zA, zA, zA, zA, zA, zA, zA, zA, zA, zA, zA, zA, zA, zA, zA, zA, zA, zA, zA, zA, zA, zA, zA, zA, zA, zA, zA, zA, zA, zA, zA, zA, zA, zA, zA, zA, zA, zA, zA, zA, zA, zA, zA, zA, zA, zA, zA, zA, zA, zA, zA, zA, zA, zA, zA, zA, zA, zA, zA, zA, zA, zA, zA, zA, zA, zA, zA, zA, zA, zA, zA, zA, zA, zA], [oT Decl.cel], none⟩
noncomputable def law07_FewDecl_m (n : Nat) : Mach Bool where
  body := (Try.f52.body).getD .skip
  P := Try.prog
  cl := tabA [(90, ent1 (tyC Term.cel) tyB (law07_small n)), (91, ent2 (tyC Tree.cel) (tyI .i64) tyB (law07_smallTree n))]
  cd := tabD []
  nrm := tabN [([0, 1, 0, 1, 1, 1, 1], law07_FewDecl_n1), ([0, 1, 0, 1, 1, 1], law07_FewDecl_n2), ([0, 1, 0, 1, 1], law07_FewDecl_n3)]
  cut := tabF []
  n := n
  out := outR Try.prog [.tmp 2] tyB
theorem law07_FewDecl_f (n : Nat) : (law07_FewDecl_m n).P = Try.prog ∧ (law07_FewDecl_m n).cl = tabA [(90, ent1 (tyC Term.cel) tyB (law07_small n)), (91, ent2 (tyC Tree.cel) (tyI .i64) tyB (law07_smallTree n))] ∧ (law07_FewDecl_m n).cd = tabD [] ∧ (law07_FewDecl_m n).nrm = tabN [([0, 1, 0, 1, 1, 1, 1], law07_FewDecl_n1), ([0, 1, 0, 1, 1, 1], law07_FewDecl_n2), ([0, 1, 0, 1, 1], law07_FewDecl_n3)] ∧ (law07_FewDecl_m n).cut = tabF [] ∧ (law07_FewDecl_m n).n = n ∧ (law07_FewDecl_m n).out = outR Try.prog [.tmp 2] tyB := ⟨rfl, rfl, rfl, rfl, rfl, rfl, rfl⟩
theorem law07_FewDecl_c (n : Nat) : (law07_FewDecl_m n).body = (Try.f52.body).getD .skip := rfl
noncomputable def law07_FewDecl_b1 (n : Nat) : { B : (Int → Decl → Option Bool) → Int → Decl → Option Bool // ∀ m X0, (∀ (v0 : Int) (o0 : Decl), run (law07_FewDecl_m n) [.lq m [0, 1, 0, 1, 1, 1, 1], .blk 4, .cut [1, 1, 1, 1, 1], .at [1, 1, 1, 1, 1]] ⟨[.any, .ptr 0 0, .any, .any, .any, .int .i64 v0, .any, .any, .any, .any, .any, .any, .any, .any, .any, .any, .any, .any, .any, .any, .any, .any, .any, .any, .any, .any, .any, .any, .any, .any, .any, .any, .any, .any, .any, .any, .any, .any, .any, .any, .any, .any, .any, .any, .any, .any, .any, .any, .any, .any, .any, .any, .any, .any, .any, .any, .any, .any, .any, .any, .any, .any, .any, .any, .any, .any, .any, .any, .any, .any, .any, .any, .any, .any, .any, .any, .any, .any, .any, .any, .any, .any, .any, .any, .any, .any, .any, .any, .any, .any, .any, .any, .any, .any, .any, .any, .any, .any, .any, .any, .any, .any, .any, .any, .any, .any, .any, .any, .any, .any, .any, .any, .any, .any, .any, .any, .any, .any, .any, .any, .any, .any, .any, .any], [.cells (Decl.cells o0)], 0⟩ = X0 v0 o0) → ∀ (v0 : Int) (o0 : Decl), run (law07_FewDecl_m n) [.at [0, 0, 1, 0, 1, 1, 1, 1], .lp m [0, 1, 0, 1, 1, 1, 1], .blk 4, .cut [1, 1, 1, 1, 1], .at [1, 1, 1, 1, 1]] ⟨[.any, .ptr 0 0, .any, .any, .any, .int .i64 v0, .any, .any, .any, .any, .any, .any, .any, .any, .any, .any, .any, .any, .any, .any, .any, .any, .any, .any, .any, .any, .any, .any, .any, .any, .any, .any, .any, .any, .any, .any, .any, .any, .any, .any, .any, .any, .any, .any, .any, .any, .any, .any, .any, .any, .any, .any, .any, .any, .any, .any, .any, .any, .any, .any, .any, .any, .any, .any, .any, .any, .any, .any, .any, .any, .any, .any, .any, .any, .any, .any, .any, .any, .any, .any, .any, .any, .any, .any, .any, .any, .any, .any, .any, .any, .any, .any, .any, .any, .any, .any, .any, .any, .any, .any, .any, .any, .any, .any, .any, .any, .any, .any, .any, .any, .any, .any, .any, .any, .any, .any, .any, .any, .any, .any, .any, .any, .any, .any], [.cells (Decl.cells o0)], 0⟩ = B X0 v0 o0 } := by
  apply Subtype.mk
  intro m X0 ih v0 o0
  simp (config := { maxSteps := 100000000 }) only [go_sem, Nat.reduceAdd, Nat.reduceSub, Nat.reduceLeDiff, Nat.reduceEqDiff, Nat.reduceBEq, Nat.reduceMul, Nat.reduceLT, Int.reduceLE, Int.reduceLT, Int.reduceToNat, Int.reduceBEq, Int.reduceEq, law07_FewDecl_f, law07_FewDecl_c, Try.f52, Option.getD_some, mixed, law07_FewDecl_n1, law07_FewDecl_n2, law07_FewDecl_n3, ih]
  exact rfl
noncomputable def law07_FewDecl_l1 (n : Nat) : Nat → Int → Decl → Option Bool
  | 0, _, _ => none
  | m + 1, v0, o0 => (law07_FewDecl_b1 n).1 (law07_FewDecl_l1 n m) v0 o0
theorem law07_FewDecl_l1_eq (n : Nat) : ∀ (m : Nat), (∀ (v0 : Int) (o0 : Decl), run (law07_FewDecl_m n) [.lq m [0, 1, 0, 1, 1, 1, 1], .blk 4, .cut [1, 1, 1, 1, 1], .at [1, 1, 1, 1, 1]] ⟨[.any, .ptr 0 0, .any, .any, .any, .int .i64 v0, .any, .any, .any, .any, .any, .any, .any, .any, .any, .any, .any, .any, .any, .any, .any, .any, .any, .any, .any, .any, .any, .any, .any, .any, .any, .any, .any, .any, .any, .any, .any, .any, .any, .any, .any, .any, .any, .any, .any, .any, .any, .any, .any, .any, .any, .any, .any, .any, .any, .any, .any, .any, .any, .any, .any, .any, .any, .any, .any, .any, .any, .any, .any, .any, .any, .any, .any, .any, .any, .any, .any, .any, .any, .any, .any, .any, .any, .any, .any, .any, .any, .any, .any, .any, .any, .any, .any, .any, .any, .any, .any, .any, .any, .any, .any, .any, .any, .any, .any, .any, .any, .any, .any, .any, .any, .any, .any, .any, .any, .any, .any, .any, .any, .any, .any, .any, .any, .any], [.cells (Decl.cells o0)], 0⟩ = law07_FewDecl_l1 n m v0 o0)
  | 0 => by intros; exact run_lq_zero
  | m + 1 => by
    have ih := law07_FewDecl_l1_eq n m
    intro v0 o0
    rw [run_lq_succ]
    exact (law07_FewDecl_b1 n).2  m _  ih v0 o0
noncomputable def law07_FewDecl_b2 (n : Nat) : { B : (Int → Decl → Option Bool) → Int → Decl → Option Bool // ∀ m X0, (∀ (v0 : Int) (o0 : Decl), run (law07_FewDecl_m n) [.lq m [0, 1, 0, 1, 1, 1], .blk 2, .cut [1, 1, 1, 1], .at [1, 1, 1, 1]] ⟨[.any, .ptr 0 0, .any, .any, .int .i64 v0, .any, .any, .any, .any, .any, .any, .any, .any, .any, .any, .any, .any, .any, .any, .any, .any, .any, .any, .any, .any, .any, .any, .any, .any, .any, .any, .any, .any, .any, .any, .any, .any, .any, .any, .any, .any, .any, .any, .any, .any, .any, .any, .any, .any, .any, .any, .any, .any, .any, .any, .any, .any, .any, .any, .any, .any, .any, .any, .any, .any, .any, .any, .any, .any, .any, .any, .any, .any, .any, .any, .any, .any, .any, .any, .any, .any, .any, .any, .any, .any, .any, .any, .any, .any, .any, .any, .any, .any, .any, .any, .any, .any, .any, .any, .any, .any, .any, .any, .any, .any, .any, .any, .any, .any, .any, .any, .any, .any, .any, .any, .any, .any, .any, .any, .any, .any, .any, .any, .any], [.cells (Decl.cells o0)], 0⟩ = X0 v0 o0) → ∀ (v0 : Int) (o0 : Decl), run (law07_FewDecl_m n) [.at [0, 0, 1, 0, 1, 1, 1], .lp m [0, 1, 0, 1, 1, 1], .blk 2, .cut [1, 1, 1, 1], .at [1, 1, 1, 1]] ⟨[.any, .ptr 0 0, .any, .any, .int .i64 v0, .any, .any, .any, .any, .any, .any, .any, .any, .any, .any, .any, .any, .any, .any, .any, .any, .any, .any, .any, .any, .any, .any, .any, .any, .any, .any, .any, .any, .any, .any, .any, .any, .any, .any, .any, .any, .any, .any, .any, .any, .any, .any, .any, .any, .any, .any, .any, .any, .any, .any, .any, .any, .any, .any, .any, .any, .any, .any, .any, .any, .any, .any, .any, .any, .any, .any, .any, .any, .any, .any, .any, .any, .any, .any, .any, .any, .any, .any, .any, .any, .any, .any, .any, .any, .any, .any, .any, .any, .any, .any, .any, .any, .any, .any, .any, .any, .any, .any, .any, .any, .any, .any, .any, .any, .any, .any, .any, .any, .any, .any, .any, .any, .any, .any, .any, .any, .any, .any, .any], [.cells (Decl.cells o0)], 0⟩ = B X0 v0 o0 } := by
  apply Subtype.mk
  intro m X0 ih v0 o0
  simp (config := { maxSteps := 100000000 }) only [go_sem, Nat.reduceAdd, Nat.reduceSub, Nat.reduceLeDiff, Nat.reduceEqDiff, Nat.reduceBEq, Nat.reduceMul, Nat.reduceLT, Int.reduceLE, Int.reduceLT, Int.reduceToNat, Int.reduceBEq, Int.reduceEq, law07_FewDecl_f, law07_FewDecl_c, Try.f52, Option.getD_some, mixed, law07_FewDecl_n1, law07_FewDecl_n2, law07_FewDecl_n3, law07_FewDecl_l1_eq n, ih]
  exact rfl
noncomputable def law07_FewDecl_l2 (n : Nat) : Nat → Int → Decl → Option Bool
  | 0, _, _ => none
  | m + 1, v0, o0 => (law07_FewDecl_b2 n).1 (law07_FewDecl_l2 n m) v0 o0
theorem law07_FewDecl_l2_eq (n : Nat) : ∀ (m : Nat), (∀ (v0 : Int) (o0 : Decl), run (law07_FewDecl_m n) [.lq m [0, 1, 0, 1, 1, 1], .blk 2, .cut [1, 1, 1, 1], .at [1, 1, 1, 1]] ⟨[.any, .ptr 0 0, .any, .any, .int .i64 v0, .any, .any, .any, .any, .any, .any, .any, .any, .any, .any, .any, .any, .any, .any, .any, .any, .any, .any, .any, .any, .any, .any, .any, .any, .any, .any, .any, .any, .any, .any, .any, .any, .any, .any, .any, .any, .any, .any, .any, .any, .any, .any, .any, .any, .any, .any, .any, .any, .any, .any, .any, .any, .any, .any, .any, .any, .any, .any, .any, .any, .any, .any, .any, .any, .any, .any, .any, .any, .any, .any, .any, .any, .any, .any, .any, .any, .any, .any, .any, .any, .any, .any, .any, .any, .any, .any, .any, .any, .any, .any, .any, .any, .any, .any, .any, .any, .any, .any, .any, .any, .any, .any, .any, .any, .any, .any, .any, .any, .any, .any, .any, .any, .any, .any, .any, .any, .any, .any, .any], [.cells (Decl.cells o0)], 0⟩ = law07_FewDecl_l2 n m v0 o0)
  | 0 => by intros; exact run_lq_zero
  | m + 1 => by
    have ih := law07_FewDecl_l2_eq n m
    intro v0 o0
    rw [run_lq_succ]
    exact (law07_FewDecl_b2 n).2  m _  ih v0 o0
noncomputable def law07_FewDecl_b3 (n : Nat) : { B : (Int → Decl → Option Bool) → Int → Decl → Option Bool // ∀ m X0, (∀ (v0 : Int) (o0 : Decl), run (law07_FewDecl_m n) [.lq m [0, 1, 0, 1, 1], .blk 0, .cut [1, 1, 1], .at [1, 1, 1]] ⟨[.any, .ptr 0 0, .any, .int .i64 v0, .any, .any, .any, .any, .any, .any, .any, .any, .any, .any, .any, .any, .any, .any, .any, .any, .any, .any, .any, .any, .any, .any, .any, .any, .any, .any, .any, .any, .any, .any, .any, .any, .any, .any, .any, .any, .any, .any, .any, .any, .any, .any, .any, .any, .any, .any, .any, .any, .any, .any, .any, .any, .any, .any, .any, .any, .any, .any, .any, .any, .any, .any, .any, .any, .any, .any, .any, .any, .any, .any, .any, .any, .any, .any, .any, .any, .any, .any, .any, .any, .any, .any, .any, .any, .any, .any, .any, .any, .any, .any, .any, .any, .any, .any, .any, .any, .any, .any, .any, .any, .any, .any, .any, .any, .any, .any, .any, .any, .any, .any, .any, .any, .any, .any, .any, .any, .any, .any, .any, .any], [.cells (Decl.cells o0)], 0⟩ = X0 v0 o0) → ∀ (v0 : Int) (o0 : Decl), run (law07_FewDecl_m n) [.at [0, 0, 1, 0, 1, 1], .lp m [0, 1, 0, 1, 1], .blk 0, .cut [1, 1, 1], .at [1, 1, 1]] ⟨[.any, .ptr 0 0, .any, .int .i64 v0, .any, .any, .any, .any, .any, .any, .any, .any, .any, .any, .any, .any, .any, .any, .any, .any, .any, .any, .any, .any, .any, .any, .any, .any, .any, .any, .any, .any, .any, .any, .any, .any, .any, .any, .any, .any, .any, .any, .any, .any, .any, .any, .any, .any, .any, .any, .any, .any, .any, .any, .any, .any, .any, .any, .any, .any, .any, .any, .any, .any, .any, .any, .any, .any, .any, .any, .any, .any, .any, .any, .any, .any, .any, .any, .any, .any, .any, .any, .any, .any, .any, .any, .any, .any, .any, .any, .any, .any, .any, .any, .any, .any, .any, .any, .any, .any, .any, .any, .any, .any, .any, .any, .any, .any, .any, .any, .any, .any, .any, .any, .any, .any, .any, .any, .any, .any, .any, .any, .any, .any], [.cells (Decl.cells o0)], 0⟩ = B X0 v0 o0 } := by
  apply Subtype.mk
  intro m X0 ih v0 o0
  simp (config := { maxSteps := 100000000 }) only [go_sem, Nat.reduceAdd, Nat.reduceSub, Nat.reduceLeDiff, Nat.reduceEqDiff, Nat.reduceBEq, Nat.reduceMul, Nat.reduceLT, Int.reduceLE, Int.reduceLT, Int.reduceToNat, Int.reduceBEq, Int.reduceEq, law07_FewDecl_f, law07_FewDecl_c, Try.f52, Option.getD_some, mixed, law07_FewDecl_n1, law07_FewDecl_n2, law07_FewDecl_n3, law07_FewDecl_l1_eq n, law07_FewDecl_l2_eq n, ih]
  exact rfl
noncomputable def law07_FewDecl_l3 (n : Nat) : Nat → Int → Decl → Option Bool
  | 0, _, _ => none
  | m + 1, v0, o0 => (law07_FewDecl_b3 n).1 (law07_FewDecl_l3 n m) v0 o0
theorem law07_FewDecl_l3_eq (n : Nat) : ∀ (m : Nat), (∀ (v0 : Int) (o0 : Decl), run (law07_FewDecl_m n) [.lq m [0, 1, 0, 1, 1], .blk 0, .cut [1, 1, 1], .at [1, 1, 1]] ⟨[.any, .ptr 0 0, .any, .int .i64 v0, .any, .any, .any, .any, .any, .any, .any, .any, .any, .any, .any, .any, .any, .any, .any, .any, .any, .any, .any, .any, .any, .any, .any, .any, .any, .any, .any, .any, .any, .any, .any, .any, .any, .any, .any, .any, .any, .any, .any, .any, .any, .any, .any, .any, .any, .any, .any, .any, .any, .any, .any, .any, .any, .any, .any, .any, .any, .any, .any, .any, .any, .any, .any, .any, .any, .any, .any, .any, .any, .any, .any, .any, .any, .any, .any, .any, .any, .any, .any, .any, .any, .any, .any, .any, .any, .any, .any, .any, .any, .any, .any, .any, .any, .any, .any, .any, .any, .any, .any, .any, .any, .any, .any, .any, .any, .any, .any, .any, .any, .any, .any, .any, .any, .any, .any, .any, .any, .any, .any, .any], [.cells (Decl.cells o0)], 0⟩ = law07_FewDecl_l3 n m v0 o0)
  | 0 => by intros; exact run_lq_zero
  | m + 1 => by
    have ih := law07_FewDecl_l3_eq n m
    intro v0 o0
    rw [run_lq_succ]
    exact (law07_FewDecl_b3 n).2  m _  ih v0 o0
noncomputable def law07_FewDecl_e (n : Nat) : { B : Decl → Option Bool // ∀ (a0 : Decl), run (law07_FewDecl_m n) [.at []] { slots := [(tyC Decl.cel).enc a0] ++ List.replicate (124 - [(tyC Decl.cel).enc a0].length) .any, heap := [] } = B a0 } := by
  apply Subtype.mk
  intro a0
  simp (config := { maxSteps := 100000000 }) only [go_sem, Nat.reduceAdd, Nat.reduceSub, Nat.reduceLeDiff, Nat.reduceEqDiff, Nat.reduceBEq, Nat.reduceMul, Nat.reduceLT, Int.reduceLE, Int.reduceLT, Int.reduceToNat, Int.reduceBEq, Int.reduceEq, law07_FewDecl_f, law07_FewDecl_c, Try.f52, Option.getD_some, mixed, law07_FewDecl_n1, law07_FewDecl_n2, law07_FewDecl_n3, law07_FewDecl_l1_eq n, law07_FewDecl_l2_eq n, law07_FewDecl_l3_eq n]
  exact rfl
noncomputable def law07_FewDecl : Nat → Decl → Option Bool
  | 0, _ => none
  | n + 1, a0 => (law07_FewDecl_e n).1 a0
theorem law07_FewDecl_ok : ∀ (n : Nat) (a0 : Decl) (r : Bool), law07_FewDecl n a0 = some r → FnC Try.prog 52 [(tyC Decl.cel).enc a0] (fun v => v = tyB.enc r)
  | 0, _, _, h => by cases h
  | n + 1, a0, r, h => by
    exact fnC_run (M := law07_FewDecl_m n) ⟨(tabA_cons_ok (ent1_ok (law07_small_ok n)) (tabA_cons_ok (ent2_ok (law07_smallTree_ok n)) tabA_nil_ok)), tabD_nil_ok, tabN_ok _, tabF_ok _, noY_ok, noE_ok⟩ Try.func52 rfl rfl ⟨(tyC Decl.cel).nb 0 _, trivial⟩ Try.ntmps52 Try.results52 (fun σ hs => outR_ok (P := Try.prog) (rs := [.tmp 2]) (t := tyB) (σ := σ) (r := r) hs) (((law07_FewDecl_e n).2 a0).trans h)

noncomputable def ref03_Check_m (n : Nat) : Mach Int where
  body := (Try.f71.body).getD .skip
  P := Try.prog
  cl := tabA [(69, ent1 (tyC Term.cel) (tyI .i64) (ref03_Size n)), (70, ent1 (tyC Term.cel) (tyI .i64) (ref03_Depth n)), (106, ent6 (tyC Term.cel) (tyI .i64) (tyI .i64) (tyI .i64) (tyI .i64) (tyI .i64) (tyI .i64) (ref03_check n))]
  cd := tabD []
  nrm := tabN []
  cut := tabF []
  n := n
  out := outR Try.prog [.tmp 10] (tyI .i64)
theorem ref03_Check_f (n : Nat) : (ref03_Check_m n).P = Try.prog ∧ (ref03_Check_m n).cl = tabA [(69, ent1 (tyC Term.cel) (tyI .i64) (ref03_Size n)), (70, ent1 (tyC Term.cel) (tyI .i64) (ref03_Depth n)), (106, ent6 (tyC Term.cel) (tyI .i64) (tyI .i64) (tyI .i64) (tyI .i64) (tyI .i64) (tyI .i64) (ref03_check n))] ∧ (ref03_Check_m n).cd = tabD [] ∧ (ref03_Check_m n).nrm = tabN [] ∧ (ref03_Check_m n).cut = tabF [] ∧ (ref03_Check_m n).n = n ∧ (ref03_Check_m n).out = outR Try.prog [.tmp 10] (tyI .i64) := ⟨rfl, rfl, rfl, rfl, rfl, rfl, rfl⟩
theorem ref03_Check_c (n : Nat) : (ref03_Check_m n).body = (Try.f71.body).getD .skip := rfl
noncomputable def ref03_Check_e (n : Nat) : { B : Term → Int → Int → Int → Int → Option Int // ∀ (a0 : Term) (a1 : Int) (a2 : Int) (a3 : Int) (a4 : Int), run (ref03_Check_m n) [.at []] { slots := [(tyC Term.cel).enc a0, (tyI .i64).enc a1, (tyI .i64).enc a2, (tyI .i64).enc a3, (tyI .i64).enc a4] ++ List.replicate (28 - [(tyC Term.cel).enc a0, (tyI .i64).enc a1, (tyI .i64).enc a2, (tyI .i64).enc a3, (tyI .i64).enc a4].length) .any, heap := [] } = B a0 a1 a2 a3 a4 } := by
  apply Subtype.mk
  intro a0 a1 a2 a3 a4
  simp (config := { maxSteps := 100000000 }) only [go_sem, Nat.reduceAdd, Nat.reduceSub, Nat.reduceLeDiff, Nat.reduceEqDiff, Nat.reduceBEq, Nat.reduceMul, Nat.reduceLT, Int.reduceLE, Int.reduceLT, Int.reduceToNat, Int.reduceBEq, Int.reduceEq, ref03_Check_f, ref03_Check_c, Try.f71, Option.getD_some, mixed]
  exact rfl
noncomputable def ref03_Check : Nat → Term → Int → Int → Int → Int → Option Int
  | 0, _, _, _, _, _ => none
  | n + 1, a0, a1, a2, a3, a4 => (ref03_Check_e n).1 a0 a1 a2 a3 a4
theorem ref03_Check_ok : ∀ (n : Nat) (a0 : Term) (a1 : Int) (a2 : Int) (a3 : Int) (a4 : Int) (r : Int), ref03_Check n a0 a1 a2 a3 a4 = some r → FnC Try.prog 71 [(tyC Term.cel).enc a0, (tyI .i64).enc a1, (tyI .i64).enc a2, (tyI .i64).enc a3, (tyI .i64).enc a4] (fun v => v = (tyI .i64).enc r)
  | 0, _, _, _, _, _, _, h => by cases h
  | n + 1, a0, a1, a2, a3, a4, r, h => by
    exact fnC_run (M := ref03_Check_m n) ⟨(tabA_cons_ok (ent1_ok (ref03_Size_ok n)) (tabA_cons_ok (ent1_ok (ref03_Depth_ok n)) (tabA_cons_ok (ent6_ok (ref03_check_ok n)) tabA_nil_ok))), tabD_nil_ok, tabN_ok _, tabF_ok _, noY_ok, noE_ok⟩ Try.func71 rfl rfl ⟨(tyC Term.cel).nb 0 _, (tyI .i64).nb 0 _, (tyI .i64).nb 0 _, (tyI .i64).nb 0 _, (tyI .i64).nb 0 _, trivial⟩ Try.ntmps71 Try.results71 (fun σ hs => outR_ok (P := Try.prog) (rs := [.tmp 10]) (t := (tyI .i64)) (σ := σ) (r := r) hs) (((ref03_Check_e n).2 a0 a1 a2 a3 a4).trans h)

noncomputable def term_Same_m (X_term_Same : Term → Term → Option Bool) (X_slices_EqualFunc_Term_term_Same : (List Term) → (List Term) → Unit → Option Bool) (n : Nat) : Mach Bool where
  body := (Try.f26.body).getD .skip
  P := Try.prog
  cl := tabA [(63, ent3 (tyL Level.row) (tyL Level.row) (tyF 64) tyB (slices_EqualFunc_Level_term_sameLevel n)), (65, ent3 (tyL Term.row) (tyL Term.row) (tyF 26) tyB X_slices_EqualFunc_Term_term_Same)]
  cd := tabD []
  nrm := tabN []
  cut := tabF []
  n := n
  out := outR Try.prog [.tmp 4] tyB
theorem term_Same_f (X_term_Same : Term → Term → Option Bool) (X_slices_EqualFunc_Term_term_Same : (List Term) → (List Term) → Unit → Option Bool) (n : Nat) : (term_Same_m X_term_Same X_slices_EqualFunc_Term_term_Same n).P = Try.prog ∧ (term_Same_m X_term_Same X_slices_EqualFunc_Term_term_Same n).cl = tabA [(63, ent3 (tyL Level.row) (tyL Level.row) (tyF 64) tyB (slices_EqualFunc_Level_term_sameLevel n)), (65, ent3 (tyL Term.row) (tyL Term.row) (tyF 26) tyB X_slices_EqualFunc_Term_term_Same)] ∧ (term_Same_m X_term_Same X_slices_EqualFunc_Term_term_Same n).cd = tabD [] ∧ (term_Same_m X_term_Same X_slices_EqualFunc_Term_term_Same n).nrm = tabN [] ∧ (term_Same_m X_term_Same X_slices_EqualFunc_Term_term_Same n).cut = tabF [] ∧ (term_Same_m X_term_Same X_slices_EqualFunc_Term_term_Same n).n = n ∧ (term_Same_m X_term_Same X_slices_EqualFunc_Term_term_Same n).out = outR Try.prog [.tmp 4] tyB := ⟨rfl, rfl, rfl, rfl, rfl, rfl, rfl⟩
theorem term_Same_c (X_term_Same : Term → Term → Option Bool) (X_slices_EqualFunc_Term_term_Same : (List Term) → (List Term) → Unit → Option Bool) (n : Nat) : (term_Same_m X_term_Same X_slices_EqualFunc_Term_term_Same n).body = (Try.f26.body).getD .skip := rfl
noncomputable def term_Same_e (X_term_Same : Term → Term → Option Bool) (X_slices_EqualFunc_Term_term_Same : (List Term) → (List Term) → Unit → Option Bool) (n : Nat) : { B : Term → Term → Option Bool // ∀ (a0 : Term) (a1 : Term), run (term_Same_m X_term_Same X_slices_EqualFunc_Term_term_Same n) [.at []] { slots := [(tyC Term.cel).enc a0, (tyC Term.cel).enc a1] ++ List.replicate (38 - [(tyC Term.cel).enc a0, (tyC Term.cel).enc a1].length) .any, heap := [] } = B a0 a1 } := by
  apply Subtype.mk
  intro a0 a1
  simp (config := { maxSteps := 100000000 }) only [go_sem, Nat.reduceAdd, Nat.reduceSub, Nat.reduceLeDiff, Nat.reduceEqDiff, Nat.reduceBEq, Nat.reduceMul, Nat.reduceLT, Int.reduceLE, Int.reduceLT, Int.reduceToNat, Int.reduceBEq, Int.reduceEq, term_Same_f, term_Same_c, Try.f26, Option.getD_some, mixed]
  exact rfl
noncomputable def slices_EqualFunc_Term_term_Same_n1 : Nrm := ⟨[], [], [zA, zT (tyL Term.row), zT (tyF 26), zA, zA, zA, zA, zA, zA, zA, zA, zA, zA, zA, zA, zT (tyL Term.row), zK, zK, zA, zA, zA, zA, zA, zA, zA, zA, zA, zA, zA, zA, zA, zA], [], none⟩
noncomputable def slices_EqualFunc_Term_term_Same_m (X_term_Same : Term → Term → Option Bool) (X_slices_EqualFunc_Term_term_Same : (List Term) → (List Term) → Unit → Option Bool) (n : Nat) : Mach Bool where
  body := (Try.f65.body).getD .skip
  P := Try.prog
  cl := tabA [(26, ent2 (tyC Term.cel) (tyC Term.cel) tyB X_term_Same)]
  cd := tabD []
  nrm := tabN [([0, 1, 0, 1, 1], slices_EqualFunc_Term_term_Same_n1)]
  cut := tabF []
  n := n
  out := outR Try.prog [.tmp 6] tyB
theorem slices_EqualFunc_Term_term_Same_f (X_term_Same : Term → Term → Option Bool) (X_slices_EqualFunc_Term_term_Same : (List Term) → (List Term) → Unit → Option Bool) (n : Nat) : (slices_EqualFunc_Term_term_Same_m X_term_Same X_slices_EqualFunc_Term_term_Same n).P = Try.prog ∧ (slices_EqualFunc_Term_term_Same_m X_term_Same X_slices_EqualFunc_Term_term_Same n).cl = tabA [(26, ent2 (tyC Term.cel) (tyC Term.cel) tyB X_term_Same)] ∧ (slices_EqualFunc_Term_term_Same_m X_term_Same X_slices_EqualFunc_Term_term_Same n).cd = tabD [] ∧ (slices_EqualFunc_Term_term_Same_m X_term_Same X_slices_EqualFunc_Term_term_Same n).nrm = tabN [([0, 1, 0, 1, 1], slices_EqualFunc_Term_term_Same_n1)] ∧ (slices_EqualFunc_Term_term_Same_m X_term_Same X_slices_EqualFunc_Term_term_Same n).cut = tabF [] ∧ (slices_EqualFunc_Term_term_Same_m X_term_Same X_slices_EqualFunc_Term_term_Same n).n = n ∧ (slices_EqualFunc_Term_term_Same_m X_term_Same X_slices_EqualFunc_Term_term_Same n).out = outR Try.prog [.tmp 6] tyB := ⟨rfl, rfl, rfl, rfl, rfl, rfl, rfl⟩
theorem slices_EqualFunc_Term_term_Same_c (X_term_Same : Term → Term → Option Bool) (X_slices_EqualFunc_Term_term_Same : (List Term) → (List Term) → Unit → Option Bool) (n : Nat) : (slices_EqualFunc_Term_term_Same_m X_term_Same X_slices_EqualFunc_Term_term_Same n).body = (Try.f65.body).getD .skip := rfl
noncomputable def slices_EqualFunc_Term_term_Same_b1 (X_term_Same : Term → Term → Option Bool) (X_slices_EqualFunc_Term_term_Same : (List Term) → (List Term) → Unit → Option Bool) (n : Nat) : { B : ((List Term) → (List Term) → Int → Int → Option Bool) → (List Term) → (List Term) → Int → Int → Option Bool // ∀ m X0, (∀ (v0 : List Term) (v1 : List Term) (v2 : Int) (v3 : Int), run (slices_EqualFunc_Term_term_Same_m X_term_Same X_slices_EqualFunc_Term_term_Same n) [.lq m [0, 1, 0, 1, 1], .blk 0, .cut [1, 1, 1], .at [1, 1, 1]] ⟨[.any, .lst false 5 (mp Term.cells v0), .func (.func 26) [] [], .any, .any, .any, .any, .any, .any, .any, .any, .any, .any, .any, .any, .lst false 5 (mp Term.cells v1), .int .i64 v2, .int .i64 v3, .any, .any, .any, .any, .any, .any, .any, .any, .any, .any, .any, .any, .any, .any], [], 0⟩ = X0 v0 v1 v2 v3) → ∀ (v0 : List Term) (v1 : List Term) (v2 : Int) (v3 : Int), run (slices_EqualFunc_Term_term_Same_m X_term_Same X_slices_EqualFunc_Term_term_Same n) [.at [0, 0, 1, 0, 1, 1], .lp m [0, 1, 0, 1, 1], .blk 0, .cut [1, 1, 1], .at [1, 1, 1]] ⟨[.any, .lst false 5 (mp Term.cells v0), .func (.func 26) [] [], .any, .any, .any, .any, .any, .any, .any, .any, .any, .any, .any, .any, .lst false 5 (mp Term.cells v1), .int .i64 v2, .int .i64 v3, .any, .any, .any, .any, .any, .any, .any, .any, .any, .any, .any, .any, .any, .any], [], 0⟩ = B X0 v0 v1 v2 v3 } := by
  apply Subtype.mk
  intro m X0 ih v0 v1 v2 v3
  simp (config := { maxSteps := 100000000 }) only [go_sem, Nat.reduceAdd, Nat.reduceSub, Nat.reduceLeDiff, Nat.reduceEqDiff, Nat.reduceBEq, Nat.reduceMul, Nat.reduceLT, Int.reduceLE, Int.reduceLT, Int.reduceToNat, Int.reduceBEq, Int.reduceEq, slices_EqualFunc_Term_term_Same_f, slices_EqualFunc_Term_term_Same_c, Try.f65, Option.getD_some, mixed, slices_EqualFunc_Term_term_Same_n1, ih]
  exact rfl
noncomputable def slices_EqualFunc_Term_term_Same_l1 (X_term_Same : Term → Term → Option Bool) (X_slices_EqualFunc_Term_term_Same : (List Term) → (List Term) → Unit → Option Bool) (n : Nat) : Nat → (List Term) → (List Term) → Int → Int → Option Bool
  | 0, _, _, _, _ => none
  | m + 1, v0, v1, v2, v3 => (slices_EqualFunc_Term_term_Same_b1 X_term_Same X_slices_EqualFunc_Term_term_Same n).1 (slices_EqualFunc_Term_term_Same_l1 X_term_Same X_slices_EqualFunc_Term_term_Same n m) v0 v1 v2 v3
theorem slices_EqualFunc_Term_term_Same_l1_eq (X_term_Same : Term → Term → Option Bool) (X_slices_EqualFunc_Term_term_Same : (List Term) → (List Term) → Unit → Option Bool) (n : Nat) : ∀ (m : Nat), (∀ (v0 : List Term) (v1 : List Term) (v2 : Int) (v3 : Int), run (slices_EqualFunc_Term_term_Same_m X_term_Same X_slices_EqualFunc_Term_term_Same n) [.lq m [0, 1, 0, 1, 1], .blk 0, .cut [1, 1, 1], .at [1, 1, 1]] ⟨[.any, .lst false 5 (mp Term.cells v0), .func (.func 26) [] [], .any, .any, .any, .any, .any, .any, .any, .any, .any, .any, .any, .any, .lst false 5 (mp Term.cells v1), .int .i64 v2, .int .i64 v3, .any, .any, .any, .any, .any, .any, .any, .any, .any, .any, .any, .any, .any, .any], [], 0⟩ = slices_EqualFunc_Term_term_Same_l1 X_term_Same X_slices_EqualFunc_Term_term_Same n m v0 v1 v2 v3)
  | 0 => by intros; exact run_lq_zero
  | m + 1 => by
    have ih := slices_EqualFunc_Term_term_Same_l1_eq X_term_Same X_slices_EqualFunc_Term_term_Same n m
    intro v0 v1 v2 v3
    rw [run_lq_succ]
    exact (slices_EqualFunc_Term_term_Same_b1 X_term_Same X_slices_EqualFunc_Term_term_Same n).2  m _  ih v0 v1 v2 v3
noncomputable def slices_EqualFunc_Term_term_Same_e (X_term_Same : Term → Term → Option Bool) (X_slices_EqualFunc_Term_term_Same : (List Term) → (List Term) → Unit → Option Bool) (n : Nat) : { B : (List Term) → (List Term) → Unit → Option Bool // ∀ (a0 : (List Term)) (a1 : (List Term)) (a2 : Unit), run (slices_EqualFunc_Term_term_Same_m X_term_Same X_slices_EqualFunc_Term_term_Same n) [.at []] { slots := [(tyL Term.row).enc a0, (tyL Term.row).enc a1, (tyF 26).enc a2] ++ List.replicate (32 - [(tyL Term.row).enc a0, (tyL Term.row).enc a1, (tyF 26).enc a2].length) .any, heap := [] } = B a0 a1 a2 } := by
  apply Subtype.mk
  intro a0 a1 a2
  simp (config := { maxSteps := 100000000 }) only [go_sem, Nat.reduceAdd, Nat.reduceSub, Nat.reduceLeDiff, Nat.reduceEqDiff, Nat.reduceBEq, Nat.reduceMul, Nat.reduceLT, Int.reduceLE, Int.reduceLT, Int.reduceToNat, Int.reduceBEq, Int.reduceEq, slices_EqualFunc_Term_term_Same_f, slices_EqualFunc_Term_term_Same_c, Try.f65, Option.getD_some, mixed, slices_EqualFunc_Term_term_Same_n1, slices_EqualFunc_Term_term_Same_l1_eq X_term_Same X_slices_EqualFunc_Term_term_Same n]
  exact rfl
mutual
noncomputable def term_Same : Nat → Term → Term → Option Bool
  | 0, _, _ => none
  | n + 1, a0, a1 => (term_Same_e (term_Same n) (slices_EqualFunc_Term_term_Same n) n).1 a0 a1
noncomputable def slices_EqualFunc_Term_term_Same : Nat → (List Term) → (List Term) → Unit → Option Bool
  | 0, _, _, _ => none
  | n + 1, a0, a1, a2 => (slices_EqualFunc_Term_term_Same_e (term_Same n) (slices_EqualFunc_Term_term_Same n) n).1 a0 a1 a2
end
mutual
theorem term_Same_ok : ∀ (n : Nat) (a0 : Term) (a1 : Term) (r : Bool), term_Same n a0 a1 = some r → FnC Try.prog 26 [(tyC Term.cel).enc a0, (tyC Term.cel).enc a1] (fun v => v = tyB.enc r)
  | 0, _, _, _, h => by simp only [term_Same] at h; cases h
  | n + 1, a0, a1, r, h => by
    simp only [term_Same] at h
    have ih_term_Same := term_Same_ok n
    have ih_slices_EqualFunc_Term_term_Same := slices_EqualFunc_Term_term_Same_ok n
    exact fnC_run (M := term_Same_m (term_Same n) (slices_EqualFunc_Term_term_Same n) n) ⟨(tabA_cons_ok (ent3_ok (slices_EqualFunc_Level_term_sameLevel_ok n)) (tabA_cons_ok (ent3_ok (ih_slices_EqualFunc_Term_term_Same)) tabA_nil_ok)), tabD_nil_ok, tabN_ok _, tabF_ok _, noY_ok, noE_ok⟩ Try.func26 rfl rfl ⟨(tyC Term.cel).nb 0 _, (tyC Term.cel).nb 0 _, trivial⟩ Try.ntmps26 Try.results26 (fun σ hs => outR_ok (P := Try.prog) (rs := [.tmp 4]) (t := tyB) (σ := σ) (r := r) hs) (((term_Same_e (term_Same n) (slices_EqualFunc_Term_term_Same n) n).2 a0 a1).trans h)
theorem slices_EqualFunc_Term_term_Same_ok : ∀ (n : Nat) (a0 : (List Term)) (a1 : (List Term)) (a2 : Unit) (r : Bool), slices_EqualFunc_Term_term_Same n a0 a1 a2 = some r → FnC Try.prog 65 [(tyL Term.row).enc a0, (tyL Term.row).enc a1, (tyF 26).enc a2] (fun v => v = tyB.enc r)
  | 0, _, _, _, _, h => by simp only [slices_EqualFunc_Term_term_Same] at h; cases h
  | n + 1, a0, a1, a2, r, h => by
    simp only [slices_EqualFunc_Term_term_Same] at h
    have ih_term_Same := term_Same_ok n
    have ih_slices_EqualFunc_Term_term_Same := slices_EqualFunc_Term_term_Same_ok n
    exact fnC_run (M := slices_EqualFunc_Term_term_Same_m (term_Same n) (slices_EqualFunc_Term_term_Same n) n) ⟨(tabA_cons_ok (ent2_ok (ih_term_Same)) tabA_nil_ok), tabD_nil_ok, tabN_ok _, tabF_ok _, noY_ok, noE_ok⟩ Try.func65 rfl rfl ⟨(tyL Term.row).nb 0 _, (tyL Term.row).nb 0 _, (tyF 26).nb 0 _, trivial⟩ Try.ntmps65 Try.results65 (fun σ hs => outR_ok (P := Try.prog) (rs := [.tmp 6]) (t := tyB) (σ := σ) (r := r) hs) (((slices_EqualFunc_Term_term_Same_e (term_Same n) (slices_EqualFunc_Term_term_Same n) n).2 a0 a1 a2).trans h)
end

noncomputable def telescope_Pis_m (n : Nat) : Mach Term where
  body := (Try.f27.body).getD .skip
  P := Try.prog
  cl := tabA []
  cd := tabD [(66, entD (ent1 (tyI .i64) (tyK1 103 (tyP (cI .i64))) (telescope_over n))), (103, entD (ent3 (tyL Term.row) (tyC Term.cel) (tyP (cI .i64)) (tyC Term.cel) (telescope_over_1 n)))]
  nrm := tabN []
  cut := tabF []
  n := n
  out := outR Try.prog [.cell 4 25] (tyC Term.cel)
  isE := tabI []
theorem telescope_Pis_f (n : Nat) : (telescope_Pis_m n).P = Try.prog ∧ (telescope_Pis_m n).cl = tabA [] ∧ (telescope_Pis_m n).cd = tabD [(66, entD (ent1 (tyI .i64) (tyK1 103 (tyP (cI .i64))) (telescope_over n))), (103, entD (ent3 (tyL Term.row) (tyC Term.cel) (tyP (cI .i64)) (tyC Term.cel) (telescope_over_1 n)))] ∧ (telescope_Pis_m n).nrm = tabN [] ∧ (telescope_Pis_m n).cut = tabF [] ∧ (telescope_Pis_m n).n = n ∧ (telescope_Pis_m n).out = outR Try.prog [.cell 4 25] (tyC Term.cel) ∧ (telescope_Pis_m n).isE = tabI [] := ⟨rfl, rfl, rfl, rfl, rfl, rfl, rfl, rfl⟩
theorem telescope_Pis_c (n : Nat) : (telescope_Pis_m n).body = (Try.f27.body).getD .skip := rfl
theorem telescope_Pis_d (n : Nat) : drawP (telescope_Pis_m n) [0, 1] = true := by kernel_rfl
theorem telescope_Pis_o (n : Nat) : ordP (telescope_Pis_m n) [0, 1] 2 4 = true := by kernel_rfl
noncomputable def telescope_Pis_e (n : Nat) : { B : (List Term) → Term → Option Term // ∀ (a0 : (List Term)) (a1 : Term), run (telescope_Pis_m n) [.at []] { slots := [(tyL Term.row).enc a0, (tyC Term.cel).enc a1] ++ List.replicate (9 - [(tyL Term.row).enc a0, (tyC Term.cel).enc a1].length) .any, heap := [] } = B a0 a1 } := by
  apply Subtype.mk
  intro a0 a1
  simp (config := { maxSteps := 100000000 }) only [go_sem, Nat.reduceAdd, Nat.reduceSub, Nat.reduceLeDiff, Nat.reduceEqDiff, Nat.reduceBEq, Nat.reduceMul, Nat.reduceLT, Int.reduceLE, Int.reduceLT, Int.reduceToNat, Int.reduceBEq, Int.reduceEq, telescope_Pis_f, telescope_Pis_c, Try.f27, Option.getD_some, mixed, telescope_Pis_d, telescope_Pis_o]
  exact rfl
noncomputable def telescope_Pis : Nat → (List Term) → Term → Option Term
  | 0, _, _ => none
  | n + 1, a0, a1 => (telescope_Pis_e n).1 a0 a1
theorem telescope_Pis_ok : ∀ (n : Nat) (a0 : (List Term)) (a1 : Term) (r : Term), telescope_Pis n a0 a1 = some r → FnC Try.prog 27 [(tyL Term.row).enc a0, (tyC Term.cel).enc a1] (fun v => v = (tyC Term.cel).enc r)
  | 0, _, _, _, h => by cases h
  | n + 1, a0, a1, r, h => by
    exact fnC_run (M := telescope_Pis_m n) ⟨tabA_nil_ok, (tabD_cons_ok (ent1_okD (telescope_over_ok n)) (tabD_cons_ok (ent3_okD (telescope_over_1_ok n)) tabD_nil_ok)), tabN_ok _, tabF_ok _, noY_ok, noE_ok⟩ Try.func27 rfl rfl ⟨(tyL Term.row).nb 0 _, (tyC Term.cel).nb 0 _, trivial⟩ Try.ntmps27 Try.results27 (fun σ hs => outR_ok (P := Try.prog) (rs := [.cell 4 25]) (t := (tyC Term.cel)) (σ := σ) (r := r) hs) (((telescope_Pis_e n).2 a0 a1).trans h)

noncomputable def term_Consts_m (n : Nat) : Mach (List Str) where
  body := (Try.f48.body).getD .skip
  P := Try.prog
  cl := tabA [(89, ent1 (tyC Term.cel) (tyK1 114 (tyP Term.cel)) (term_nodes n)), (114, entX [.arg 0 [], .obj 0 3 [], .obj 0 4 [], .obj 1 0 [], .obj 2 0 []] term_nodes_1_os (alM 0 (alT (tyP Term.cel) alN)) term_nodes_1_o1 alN (fun (b : (Unit × (Unit × (Unit × ((List (Str × Bool)) × ((List Str) × Unit)))))) (a : (Term × Unit)) => (term_nodes_1 n) a.1 b.2.2.2.1 b.2.2.2.2.1))]
  cd := tabD []
  nrm := tabN []
  cut := tabG [] [([1, 1, 1], [(3, 0, 1)])]
  n := n
  out := outR Try.prog [.tmp 2] (tyL rowS)
  js := tabJ [([0, 1, 0, 1, 1, 1], [])]
theorem term_Consts_f (n : Nat) : (term_Consts_m n).P = Try.prog ∧ (term_Consts_m n).cl = tabA [(89, ent1 (tyC Term.cel) (tyK1 114 (tyP Term.cel)) (term_nodes n)), (114, entX [.arg 0 [], .obj 0 3 [], .obj 0 4 [], .obj 1 0 [], .obj 2 0 []] term_nodes_1_os (alM 0 (alT (tyP Term.cel) alN)) term_nodes_1_o1 alN (fun (b : (Unit × (Unit × (Unit × ((List (Str × Bool)) × ((List Str) × Unit)))))) (a : (Term × Unit)) => (term_nodes_1 n) a.1 b.2.2.2.1 b.2.2.2.2.1))] ∧ (term_Consts_m n).cd = tabD [] ∧ (term_Consts_m n).nrm = tabN [] ∧ (term_Consts_m n).cut = tabG [] [([1, 1, 1], [(3, 0, 1)])] ∧ (term_Consts_m n).n = n ∧ (term_Consts_m n).out = outR Try.prog [.tmp 2] (tyL rowS) ∧ (term_Consts_m n).js = tabJ [([0, 1, 0, 1, 1, 1], [])] := ⟨rfl, rfl, rfl, rfl, rfl, rfl, rfl, rfl⟩
theorem term_Consts_c (n : Nat) : (term_Consts_m n).body = (Try.f48.body).getD .skip := rfl
theorem term_Consts_k0_ (n : Nat) : lkM (term_Consts_m n) [0, 1, 0, 1, 1, 1] = term_Consts_k0_1_0_1_1_1 := rfl
noncomputable def term_Consts_e (n : Nat) : { B : Term → Option (List Str) // ∀ (a0 : Term), run (term_Consts_m n) [.at []] { slots := [(tyC Term.cel).enc a0] ++ List.replicate (31 - [(tyC Term.cel).enc a0].length) .any, heap := [] } = B a0 } := by
  apply Subtype.mk
  intro a0
  simp (config := { maxSteps := 100000000 }) only [go_sem, Nat.reduceAdd, Nat.reduceSub, Nat.reduceLeDiff, Nat.reduceEqDiff, Nat.reduceBEq, Nat.reduceMul, Nat.reduceLT, Int.reduceLE, Int.reduceLT, Int.reduceToNat, Int.reduceBEq, Int.reduceEq, term_Consts_f, term_Consts_c, Try.f48, Option.getD_some, mixed, term_nodes_1_os, term_nodes_1_o1, term_Consts_k0_1_0_1_1_1_f, term_Consts_k0_]
  exact rfl
noncomputable def term_Consts : Nat → Term → Option (List Str)
  | 0, _ => none
  | n + 1, a0 => (term_Consts_e n).1 a0
theorem term_Consts_ok : ∀ (n : Nat) (a0 : Term) (r : (List Str)), term_Consts n a0 = some r → FnC Try.prog 48 [(tyC Term.cel).enc a0] (fun v => v = (tyL rowS).enc r)
  | 0, _, _, h => by cases h
  | n + 1, a0, r, h => by
    exact fnC_run (M := term_Consts_m n) ⟨(tabA_cons_ok (ent1_ok (term_nodes_ok n)) (tabA_cons_ok (entX_ok (fun b a r h => (term_nodes_1_ok n) a.1 b.2.2.2.1 b.2.2.2.2.1 r h)) tabA_nil_ok)), tabD_nil_ok, tabN_ok _, tabG_ok [] [([1, 1, 1], [(3, 0, 1)])], noY_ok, noE_ok⟩ Try.func48 rfl rfl ⟨(tyC Term.cel).nb 0 _, trivial⟩ Try.ntmps48 Try.results48 (fun σ hs => outR_ok (P := Try.prog) (rs := [.tmp 2]) (t := (tyL rowS)) (σ := σ) (r := r) hs) (((term_Consts_e n).2 a0).trans h)

noncomputable def ref05_SameList_n1 : Nrm := ⟨[], [], [zT (tyL Term.row), zT (tyL Term.row), zA, zA, zA, zK, zA, zA, zA, zA, zA, zA, zA, zA, zA, zA, zA, zA, zA, zA, zA, zA, zA, zA, zA, zA, zA], [], none⟩
noncomputable def ref05_SameList_m (n : Nat) : Mach Bool where
  body := (Try.f34.body).getD .skip
  P := Try.prog
  cl := tabA []
  cd := tabD [(23, entD (ent2 (tyC Term.cel) (tyC Term.cel) tyB (ref03_Same n)))]
  nrm := tabN [([0, 1, 0, 1, 1], ref05_SameList_n1)]
  cut := tabF []
  n := n
  out := outR Try.prog [.tmp 4] tyB
  isE := tabI []
theorem ref05_SameList_f (n : Nat) : (ref05_SameList_m n).P = Try.prog ∧ (ref05_SameList_m n).cl = tabA [] ∧ (ref05_SameList_m n).cd = tabD [(23, entD (ent2 (tyC Term.cel) (tyC Term.cel) tyB (ref03_Same n)))] ∧ (ref05_SameList_m n).nrm = tabN [([0, 1, 0, 1, 1], ref05_SameList_n1)] ∧ (ref05_SameList_m n).cut = tabF [] ∧ (ref05_SameList_m n).n = n ∧ (ref05_SameList_m n).out = outR Try.prog [.tmp 4] tyB ∧ (ref05_SameList_m n).isE = tabI [] := ⟨rfl, rfl, rfl, rfl, rfl, rfl, rfl, rfl⟩
theorem ref05_SameList_c (n : Nat) : (ref05_SameList_m n).body = (Try.f34.body).getD .skip := rfl
theorem ref05_SameList_d (n : Nat) : drawP (ref05_SameList_m n) [0, 0, 0, 1, 0, 0, 1, 0, 1, 1] = true := by kernel_rfl
noncomputable def ref05_SameList_b1 (n : Nat) : { B : ((List Term) → (List Term) → Int → Option Bool) → (List Term) → (List Term) → Int → Option Bool // ∀ m X0, (∀ (v0 : List Term) (v1 : List Term) (v2 : Int), run (ref05_SameList_m n) [.lq m [0, 1, 0, 1, 1], .blk 0, .cut [1, 1, 1], .at [1, 1, 1]] ⟨[.lst false 5 (mp Term.cells v0), .lst false 5 (mp Term.cells v1), .any, .any, .any, .int .i64 v2, .any, .any, .any, .any, .any, .any, .any, .any, .any, .any, .any, .any, .any, .any, .any, .any, .any, .any, .any, .any, .any], [], 0⟩ = X0 v0 v1 v2) → ∀ (v0 : List Term) (v1 : List Term) (v2 : Int), run (ref05_SameList_m n) [.at [0, 0, 1, 0, 1, 1], .lp m [0, 1, 0, 1, 1], .blk 0, .cut [1, 1, 1], .at [1, 1, 1]] ⟨[.lst false 5 (mp Term.cells v0), .lst false 5 (mp Term.cells v1), .any, .any, .any, .int .i64 v2, .any, .any, .any, .any, .any, .any, .any, .any, .any, .any, .any, .any, .any, .any, .any, .any, .any, .any, .any, .any, .any], [], 0⟩ = B X0 v0 v1 v2 } := by
  apply Subtype.mk
  intro m X0 ih v0 v1 v2
  simp (config := { maxSteps := 100000000 }) only [go_sem, Nat.reduceAdd, Nat.reduceSub, Nat.reduceLeDiff, Nat.reduceEqDiff, Nat.reduceBEq, Nat.reduceMul, Nat.reduceLT, Int.reduceLE, Int.reduceLT, Int.reduceToNat, Int.reduceBEq, Int.reduceEq, ref05_SameList_f, ref05_SameList_c, Try.f34, Option.getD_some, mixed, ref05_SameList_d, ref05_SameList_n1, ih]
  exact rfl
noncomputable def ref05_SameList_l1 (n : Nat) : Nat → (List Term) → (List Term) → Int → Option Bool
  | 0, _, _, _ => none
  | m + 1, v0, v1, v2 => (ref05_SameList_b1 n).1 (ref05_SameList_l1 n m) v0 v1 v2
theorem ref05_SameList_l1_eq (n : Nat) : ∀ (m : Nat), (∀ (v0 : List Term) (v1 : List Term) (v2 : Int), run (ref05_SameList_m n) [.lq m [0, 1, 0, 1, 1], .blk 0, .cut [1, 1, 1], .at [1, 1, 1]] ⟨[.lst false 5 (mp Term.cells v0), .lst false 5 (mp Term.cells v1), .any, .any, .any, .int .i64 v2, .any, .any, .any, .any, .any, .any, .any, .any, .any, .any, .any, .any, .any, .any, .any, .any, .any, .any, .any, .any, .any], [], 0⟩ = ref05_SameList_l1 n m v0 v1 v2)
  | 0 => by intros; exact run_lq_zero
  | m + 1 => by
    have ih := ref05_SameList_l1_eq n m
    intro v0 v1 v2
    rw [run_lq_succ]
    exact (ref05_SameList_b1 n).2  m _  ih v0 v1 v2
noncomputable def ref05_SameList_e (n : Nat) : { B : (List Term) → (List Term) → Option Bool // ∀ (a0 : (List Term)) (a1 : (List Term)), run (ref05_SameList_m n) [.at []] { slots := [(tyL Term.row).enc a0, (tyL Term.row).enc a1] ++ List.replicate (27 - [(tyL Term.row).enc a0, (tyL Term.row).enc a1].length) .any, heap := [] } = B a0 a1 } := by
  apply Subtype.mk
  intro a0 a1
  simp (config := { maxSteps := 100000000 }) only [go_sem, Nat.reduceAdd, Nat.reduceSub, Nat.reduceLeDiff, Nat.reduceEqDiff, Nat.reduceBEq, Nat.reduceMul, Nat.reduceLT, Int.reduceLE, Int.reduceLT, Int.reduceToNat, Int.reduceBEq, Int.reduceEq, ref05_SameList_f, ref05_SameList_c, Try.f34, Option.getD_some, mixed, ref05_SameList_d, ref05_SameList_n1, ref05_SameList_l1_eq n]
  exact rfl
noncomputable def ref05_SameList : Nat → (List Term) → (List Term) → Option Bool
  | 0, _, _ => none
  | n + 1, a0, a1 => (ref05_SameList_e n).1 a0 a1
theorem ref05_SameList_ok : ∀ (n : Nat) (a0 : (List Term)) (a1 : (List Term)) (r : Bool), ref05_SameList n a0 a1 = some r → FnC Try.prog 34 [(tyL Term.row).enc a0, (tyL Term.row).enc a1] (fun v => v = tyB.enc r)
  | 0, _, _, _, h => by cases h
  | n + 1, a0, a1, r, h => by
    exact fnC_run (M := ref05_SameList_m n) ⟨tabA_nil_ok, (tabD_cons_ok (ent2_okD (ref03_Same_ok n)) tabD_nil_ok), tabN_ok _, tabF_ok _, noY_ok, noE_ok⟩ Try.func34 rfl rfl ⟨(tyL Term.row).nb 0 _, (tyL Term.row).nb 0 _, trivial⟩ Try.ntmps34 Try.results34 (fun σ hs => outR_ok (P := Try.prog) (rs := [.tmp 4]) (t := tyB) (σ := σ) (r := r) hs) (((ref05_SameList_e n).2 a0 a1).trans h)
end Go.Abs
namespace Go.Abs
open Go.Proofs
set_option maxRecDepth 100000
set_option maxHeartbeats 4000000
set_option linter.unusedSimpArgs false
set_option linter.unusedVariables false
noncomputable def ref12_Result_m (n : Nat) : Mach Term where
  body := (Try.f41.body).getD .skip
  P := Try.prog
  cl := tabA []
  cd := tabD [(84, entD (ent2 (tyC Term.cel) (tyL Term.row) (tyC Term.cel) (ref05_Apply n))), (85, entD (ent2 tyS (tyI .i64) (tyC Term.cel) (ref12_Own n))), (86, entD (ent2 (tyI .i64) (tyI .i64) (tyL Term.row) (ref05_Vars n)))]
  nrm := tabN []
  cut := tabF []
  n := n
  out := outR Try.prog [.cell 6 25] (tyC Term.cel)
  isE := tabI []
theorem ref12_Result_f (n : Nat) : (ref12_Result_m n).P = Try.prog ∧ (ref12_Result_m n).cl = tabA [] ∧ (ref12_Result_m n).cd = tabD [(84, entD (ent2 (tyC Term.cel) (tyL Term.row) (tyC Term.cel) (ref05_Apply n))), (85, entD (ent2 tyS (tyI .i64) (tyC Term.cel) (ref12_Own n))), (86, entD (ent2 (tyI .i64) (tyI .i64) (tyL Term.row) (ref05_Vars n)))] ∧ (ref12_Result_m n).nrm = tabN [] ∧ (ref12_Result_m n).cut = tabF [] ∧ (ref12_Result_m n).n = n ∧ (ref12_Result_m n).out = outR Try.prog [.cell 6 25] (tyC Term.cel) ∧ (ref12_Result_m n).isE = tabI [] := ⟨rfl, rfl, rfl, rfl, rfl, rfl, rfl, rfl⟩
theorem ref12_Result_c (n : Nat) : (ref12_Result_m n).body = (Try.f41.body).getD .skip := rfl
theorem ref12_Result_d (n : Nat) : drawP (ref12_Result_m n) [0, 1] = true := by kernel_rfl
theorem ref12_Result_o (n : Nat) : ordP (ref12_Result_m n) [0, 1] 1 13 = true ∧ ordP (ref12_Result_m n) [0, 1] 3 13 = true ∧ ordP (ref12_Result_m n) [0, 1] 6 13 = true ∧ ordP (ref12_Result_m n) [0, 1] 7 13 = true := ⟨by kernel_rfl, by kernel_rfl, by kernel_rfl, by kernel_rfl⟩
noncomputable def ref12_Result_e (n : Nat) : { B : Family → Int → (List Term) → Option Term // ∀ (a0 : Family) (a1 : Int) (a2 : (List Term)), run (ref12_Result_m n) [.at []] { slots := [(tyC Family.cel).enc a0, (tyI .i64).enc a1, (tyL Term.row).enc a2] ++ List.replicate (20 - [(tyC Family.cel).enc a0, (tyI .i64).enc a1, (tyL Term.row).enc a2].length) .any, heap := [] } = B a0 a1 a2 } := by
  apply Subtype.mk
  intro a0 a1 a2
  simp (config := { maxSteps := 100000000 }) only [go_sem, Nat.reduceAdd, Nat.reduceSub, Nat.reduceLeDiff, Nat.reduceEqDiff, Nat.reduceBEq, Nat.reduceMul, Nat.reduceLT, Int.reduceLE, Int.reduceLT, Int.reduceToNat, Int.reduceBEq, Int.reduceEq, ref12_Result_f, ref12_Result_c, Try.f41, Option.getD_some, mixed, ref12_Result_d, ref12_Result_o]
  exact rfl
noncomputable def ref12_Result : Nat → Family → Int → (List Term) → Option Term
  | 0, _, _, _ => none
  | n + 1, a0, a1, a2 => (ref12_Result_e n).1 a0 a1 a2
theorem ref12_Result_ok : ∀ (n : Nat) (a0 : Family) (a1 : Int) (a2 : (List Term)) (r : Term), ref12_Result n a0 a1 a2 = some r → FnC Try.prog 41 [(tyC Family.cel).enc a0, (tyI .i64).enc a1, (tyL Term.row).enc a2] (fun v => v = (tyC Term.cel).enc r)
  | 0, _, _, _, _, h => by cases h
  | n + 1, a0, a1, a2, r, h => by
    exact fnC_run (M := ref12_Result_m n) ⟨tabA_nil_ok, (tabD_cons_ok (ent2_okD (ref05_Apply_ok n)) (tabD_cons_ok (ent2_okD (ref12_Own_ok n)) (tabD_cons_ok (ent2_okD (ref05_Vars_ok n)) tabD_nil_ok))), tabN_ok _, tabF_ok _, noY_ok, noE_ok⟩ Try.func41 rfl rfl ⟨(tyC Family.cel).nb 0 _, (tyI .i64).nb 0 _, (tyL Term.row).nb 0 _, trivial⟩ Try.ntmps41 Try.results41 (fun σ hs => outR_ok (P := Try.prog) (rs := [.cell 6 25]) (t := (tyC Term.cel)) (σ := σ) (r := r) hs) (((ref12_Result_e n).2 a0 a1 a2).trans h)
end Go.Abs
namespace Go.Abs
open Go.Proofs
set_option maxRecDepth 100000
set_option maxHeartbeats 4000000
set_option linter.unusedSimpArgs false
set_option linter.unusedVariables false
noncomputable def ref12_Closed_n1 : Nrm := ⟨[], [], [zA, zK, zA, zK, zA, zA, zA, zA, zA, zA, zA, zA, zA, zA, zA, zA, zA, zA, zA, zA, zA, zA, zA, zA, zA, zA, zA, zA, zA, zA, zA, zA, zA, zA, zA, zA, zA, zA, zA, zA, zA, zA, zA], [oT Decl.cel], none⟩
noncomputable def ref12_Closed_m (n : Nat) : Mach Bool where
  body := (Try.f53.body).getD .skip
  P := Try.prog
  cl := tabA [(71, ent5 (tyC Term.cel) (tyI .i64) (tyI .i64) (tyI .i64) (tyI .i64) (tyI .i64) (ref03_Check n))]
  cd := tabD [(71, entD (ent5 (tyC Term.cel) (tyI .i64) (tyI .i64) (tyI .i64) (tyI .i64) (tyI .i64) (ref03_Check n)))]
  nrm := tabN [([0, 1, 0, 1, 1], ref12_Closed_n1)]
  cut := tabF []
  n := n
  out := outR Try.prog [.tmp 2] tyB
  isE := tabI []
theorem ref12_Closed_f (n : Nat) : (ref12_Closed_m n).P = Try.prog ∧ (ref12_Closed_m n).cl = tabA [(71, ent5 (tyC Term.cel) (tyI .i64) (tyI .i64) (tyI .i64) (tyI .i64) (tyI .i64) (ref03_Check n))] ∧ (ref12_Closed_m n).cd = tabD [(71, entD (ent5 (tyC Term.cel) (tyI .i64) (tyI .i64) (tyI .i64) (tyI .i64) (tyI .i64) (ref03_Check n)))] ∧ (ref12_Closed_m n).nrm = tabN [([0, 1, 0, 1, 1], ref12_Closed_n1)] ∧ (ref12_Closed_m n).cut = tabF [] ∧ (ref12_Closed_m n).n = n ∧ (ref12_Closed_m n).out = outR Try.prog [.tmp 2] tyB ∧ (ref12_Closed_m n).isE = tabI [] := ⟨rfl, rfl, rfl, rfl, rfl, rfl, rfl, rfl⟩
theorem ref12_Closed_c (n : Nat) : (ref12_Closed_m n).body = (Try.f53.body).getD .skip := rfl
theorem ref12_Closed_d (n : Nat) : drawP (ref12_Closed_m n) [0, 0, 0, 1, 0, 0, 1, 0, 1, 1] = true := by kernel_rfl
noncomputable def ref12_Closed_b1 (n : Nat) : { B : (Int → Decl → Option Bool) → Int → Decl → Option Bool // ∀ m X0, (∀ (v0 : Int) (o0 : Decl), run (ref12_Closed_m n) [.lq m [0, 1, 0, 1, 1], .blk 0, .cut [1, 1, 1], .at [1, 1, 1]] ⟨[.any, .ptr 0 0, .any, .int .i64 v0, .any, .any, .any, .any, .any, .any, .any, .any, .any, .any, .any, .any, .any, .any, .any, .any, .any, .any, .any, .any, .any, .any, .any, .any, .any, .any, .any, .any, .any, .any, .any, .any, .any, .any, .any, .any, .any, .any, .any], [.cells (Decl.cells o0)], 0⟩ = X0 v0 o0) → ∀ (v0 : Int) (o0 : Decl), run (ref12_Closed_m n) [.at [0, 0, 1, 0, 1, 1], .lp m [0, 1, 0, 1, 1], .blk 0, .cut [1, 1, 1], .at [1, 1, 1]] ⟨[.any, .ptr 0 0, .any, .int .i64 v0, .any, .any, .any, .any, .any, .any, .any, .any, .any, .any, .any, .any, .any, .any, .any, .any, .any, .any, .any, .any, .any, .any, .any, .any, .any, .any, .any, .any, .any, .any, .any, .any, .any, .any, .any, .any, .any, .any, .any], [.cells (Decl.cells o0)], 0⟩ = B X0 v0 o0 } := by
  apply Subtype.mk
  intro m X0 ih v0 o0
  simp (config := { maxSteps := 100000000 }) only [go_sem, Nat.reduceAdd, Nat.reduceSub, Nat.reduceLeDiff, Nat.reduceEqDiff, Nat.reduceBEq, Nat.reduceMul, Nat.reduceLT, Int.reduceLE, Int.reduceLT, Int.reduceToNat, Int.reduceBEq, Int.reduceEq, ref12_Closed_f, ref12_Closed_c, Try.f53, Option.getD_some, mixed, ref12_Closed_d, ref12_Closed_n1, ih]
  exact rfl
noncomputable def ref12_Closed_l1 (n : Nat) : Nat → Int → Decl → Option Bool
  | 0, _, _ => none
  | m + 1, v0, o0 => (ref12_Closed_b1 n).1 (ref12_Closed_l1 n m) v0 o0
theorem ref12_Closed_l1_eq (n : Nat) : ∀ (m : Nat), (∀ (v0 : Int) (o0 : Decl), run (ref12_Closed_m n) [.lq m [0, 1, 0, 1, 1], .blk 0, .cut [1, 1, 1], .at [1, 1, 1]] ⟨[.any, .ptr 0 0, .any, .int .i64 v0, .any, .any, .any, .any, .any, .any, .any, .any, .any, .any, .any, .any, .any, .any, .any, .any, .any, .any, .any, .any, .any, .any, .any, .any, .any, .any, .any, .any, .any, .any, .any, .any, .any, .any, .any, .any, .any, .any, .any], [.cells (Decl.cells o0)], 0⟩ = ref12_Closed_l1 n m v0 o0)
  | 0 => by intros; exact run_lq_zero
  | m + 1 => by
    have ih := ref12_Closed_l1_eq n m
    intro v0 o0
    rw [run_lq_succ]
    exact (ref12_Closed_b1 n).2  m _  ih v0 o0
noncomputable def ref12_Closed_e (n : Nat) : { B : Decl → Option Bool // ∀ (a0 : Decl), run (ref12_Closed_m n) [.at []] { slots := [(tyC Decl.cel).enc a0] ++ List.replicate (43 - [(tyC Decl.cel).enc a0].length) .any, heap := [] } = B a0 } := by
  apply Subtype.mk
  intro a0
  simp (config := { maxSteps := 100000000 }) only [go_sem, Nat.reduceAdd, Nat.reduceSub, Nat.reduceLeDiff, Nat.reduceEqDiff, Nat.reduceBEq, Nat.reduceMul, Nat.reduceLT, Int.reduceLE, Int.reduceLT, Int.reduceToNat, Int.reduceBEq, Int.reduceEq, ref12_Closed_f, ref12_Closed_c, Try.f53, Option.getD_some, mixed, ref12_Closed_d, ref12_Closed_n1, ref12_Closed_l1_eq n]
  exact rfl
noncomputable def ref12_Closed : Nat → Decl → Option Bool
  | 0, _ => none
  | n + 1, a0 => (ref12_Closed_e n).1 a0
theorem ref12_Closed_ok : ∀ (n : Nat) (a0 : Decl) (r : Bool), ref12_Closed n a0 = some r → FnC Try.prog 53 [(tyC Decl.cel).enc a0] (fun v => v = tyB.enc r)
  | 0, _, _, h => by cases h
  | n + 1, a0, r, h => by
    exact fnC_run (M := ref12_Closed_m n) ⟨(tabA_cons_ok (ent5_ok (ref03_Check_ok n)) tabA_nil_ok), (tabD_cons_ok (ent5_okD (ref03_Check_ok n)) tabD_nil_ok), tabN_ok _, tabF_ok _, noY_ok, noE_ok⟩ Try.func53 rfl rfl ⟨(tyC Decl.cel).nb 0 _, trivial⟩ Try.ntmps53 Try.results53 (fun σ hs => outR_ok (P := Try.prog) (rs := [.tmp 2]) (t := tyB) (σ := σ) (r := r) hs) (((ref12_Closed_e n).2 a0).trans h)

noncomputable def family_alike_Term_term_Same_m (n : Nat) : Mach Bool where
  body := (Try.f97.body).getD .skip
  P := Try.prog
  cl := tabA [(65, ent3 (tyL Term.row) (tyL Term.row) (tyF 26) tyB (slices_EqualFunc_Term_term_Same n))]
  cd := tabD []
  nrm := tabN []
  cut := tabF []
  n := n
  out := outR Try.prog [.tmp 6] tyB
theorem family_alike_Term_term_Same_f (n : Nat) : (family_alike_Term_term_Same_m n).P = Try.prog ∧ (family_alike_Term_term_Same_m n).cl = tabA [(65, ent3 (tyL Term.row) (tyL Term.row) (tyF 26) tyB (slices_EqualFunc_Term_term_Same n))] ∧ (family_alike_Term_term_Same_m n).cd = tabD [] ∧ (family_alike_Term_term_Same_m n).nrm = tabN [] ∧ (family_alike_Term_term_Same_m n).cut = tabF [] ∧ (family_alike_Term_term_Same_m n).n = n ∧ (family_alike_Term_term_Same_m n).out = outR Try.prog [.tmp 6] tyB := ⟨rfl, rfl, rfl, rfl, rfl, rfl, rfl⟩
theorem family_alike_Term_term_Same_c (n : Nat) : (family_alike_Term_term_Same_m n).body = (Try.f97.body).getD .skip := rfl
noncomputable def family_alike_Term_term_Same_e (n : Nat) : { B : (List Term) → (List Term) → Unit → Option Bool // ∀ (a0 : (List Term)) (a1 : (List Term)) (a2 : Unit), run (family_alike_Term_term_Same_m n) [.at []] { slots := [(tyL Term.row).enc a0, (tyL Term.row).enc a1, (tyF 26).enc a2] ++ List.replicate (18 - [(tyL Term.row).enc a0, (tyL Term.row).enc a1, (tyF 26).enc a2].length) .any, heap := [] } = B a0 a1 a2 } := by
  apply Subtype.mk
  intro a0 a1 a2
  simp (config := { maxSteps := 100000000 }) only [go_sem, Nat.reduceAdd, Nat.reduceSub, Nat.reduceLeDiff, Nat.reduceEqDiff, Nat.reduceBEq, Nat.reduceMul, Nat.reduceLT, Int.reduceLE, Int.reduceLT, Int.reduceToNat, Int.reduceBEq, Int.reduceEq, family_alike_Term_term_Same_f, family_alike_Term_term_Same_c, Try.f97, Option.getD_some, mixed]
  exact rfl
noncomputable def family_alike_Term_term_Same : Nat → (List Term) → (List Term) → Unit → Option Bool
  | 0, _, _, _ => none
  | n + 1, a0, a1, a2 => (family_alike_Term_term_Same_e n).1 a0 a1 a2
theorem family_alike_Term_term_Same_ok : ∀ (n : Nat) (a0 : (List Term)) (a1 : (List Term)) (a2 : Unit) (r : Bool), family_alike_Term_term_Same n a0 a1 a2 = some r → FnC Try.prog 97 [(tyL Term.row).enc a0, (tyL Term.row).enc a1, (tyF 26).enc a2] (fun v => v = tyB.enc r)
  | 0, _, _, _, _, h => by cases h
  | n + 1, a0, a1, a2, r, h => by
    exact fnC_run (M := family_alike_Term_term_Same_m n) ⟨(tabA_cons_ok (ent3_ok (slices_EqualFunc_Term_term_Same_ok n)) tabA_nil_ok), tabD_nil_ok, tabN_ok _, tabF_ok _, noY_ok, noE_ok⟩ Try.func97 rfl rfl ⟨(tyL Term.row).nb 0 _, (tyL Term.row).nb 0 _, (tyF 26).nb 0 _, trivial⟩ Try.ntmps97 Try.results97 (fun σ hs => outR_ok (P := Try.prog) (rs := [.tmp 6]) (t := tyB) (σ := σ) (r := r) hs) (((family_alike_Term_term_Same_e n).2 a0 a1 a2).trans h)

noncomputable def ref12_result_m (n : Nat) : Mach ((List Term) × Bool) where
  body := (Try.f100.body).getD .skip
  P := Try.prog
  cl := tabA [(74, entG [] osN (asT (tyC Term.cel) asN) (osC (oaT true Term.row) osN) (rsT (tyC Term.cel) (rsA 0 (fun (b : ((List Term) × Unit)) => b.1.length) rsN)) (fun (b : Unit) a => (ref05_Spine_h n) a.1))]
  cd := tabD [(23, entD (ent2 (tyC Term.cel) (tyC Term.cel) tyB (ref03_Same n))), (34, entD (ent2 (tyL Term.row) (tyL Term.row) tyB (ref05_SameList n))), (86, entD (ent2 (tyI .i64) (tyI .i64) (tyL Term.row) (ref05_Vars n)))]
  nrm := tabN []
  cut := tabF []
  n := n
  out := outR Try.prog [.tmp 10, .tmp 11] (ty2 (tyL Term.row) tyB)
  isE := tabI []
theorem ref12_result_f (n : Nat) : (ref12_result_m n).P = Try.prog ∧ (ref12_result_m n).cl = tabA [(74, entG [] osN (asT (tyC Term.cel) asN) (osC (oaT true Term.row) osN) (rsT (tyC Term.cel) (rsA 0 (fun (b : ((List Term) × Unit)) => b.1.length) rsN)) (fun (b : Unit) a => (ref05_Spine_h n) a.1))] ∧ (ref12_result_m n).cd = tabD [(23, entD (ent2 (tyC Term.cel) (tyC Term.cel) tyB (ref03_Same n))), (34, entD (ent2 (tyL Term.row) (tyL Term.row) tyB (ref05_SameList n))), (86, entD (ent2 (tyI .i64) (tyI .i64) (tyL Term.row) (ref05_Vars n)))] ∧ (ref12_result_m n).nrm = tabN [] ∧ (ref12_result_m n).cut = tabF [] ∧ (ref12_result_m n).n = n ∧ (ref12_result_m n).out = outR Try.prog [.tmp 10, .tmp 11] (ty2 (tyL Term.row) tyB) ∧ (ref12_result_m n).isE = tabI [] := ⟨rfl, rfl, rfl, rfl, rfl, rfl, rfl, rfl⟩
theorem ref12_result_c (n : Nat) : (ref12_result_m n).body = (Try.f100.body).getD .skip := rfl
theorem ref12_result_d (n : Nat) : drawP (ref12_result_m n) [0, 0, 1, 1] = true := by kernel_rfl
noncomputable def ref12_result_e (n : Nat) : { B : Term → Term → Int → Int → Int → Option ((List Term) × Bool) // ∀ (a0 : Term) (a1 : Term) (a2 : Int) (a3 : Int) (a4 : Int), run (ref12_result_m n) [.at []] { slots := [(tyC Term.cel).enc a0, (tyC Term.cel).enc a1, (tyI .i64).enc a2, (tyI .i64).enc a3, (tyI .i64).enc a4] ++ List.replicate (44 - [(tyC Term.cel).enc a0, (tyC Term.cel).enc a1, (tyI .i64).enc a2, (tyI .i64).enc a3, (tyI .i64).enc a4].length) .any, heap := [] } = B a0 a1 a2 a3 a4 } := by
  apply Subtype.mk
  intro a0 a1 a2 a3 a4
  simp (config := { maxSteps := 100000000 }) only [go_sem, Nat.reduceAdd, Nat.reduceSub, Nat.reduceLeDiff, Nat.reduceEqDiff, Nat.reduceBEq, Nat.reduceMul, Nat.reduceLT, Int.reduceLE, Int.reduceLT, Int.reduceToNat, Int.reduceBEq, Int.reduceEq, ref12_result_f, ref12_result_c, Try.f100, Option.getD_some, mixed, ref12_result_d]
  exact rfl
noncomputable def ref12_result : Nat → Term → Term → Int → Int → Int → Option ((List Term) × Bool)
  | 0, _, _, _, _, _ => none
  | n + 1, a0, a1, a2, a3, a4 => (ref12_result_e n).1 a0 a1 a2 a3 a4
theorem ref12_result_ok : ∀ (n : Nat) (a0 : Term) (a1 : Term) (a2 : Int) (a3 : Int) (a4 : Int) (r : ((List Term) × Bool)), ref12_result n a0 a1 a2 a3 a4 = some r → FnC Try.prog 100 [(tyC Term.cel).enc a0, (tyC Term.cel).enc a1, (tyI .i64).enc a2, (tyI .i64).enc a3, (tyI .i64).enc a4] (fun v => v = (ty2 (tyL Term.row) tyB).enc r)
  | 0, _, _, _, _, _, _, h => by cases h
  | n + 1, a0, a1, a2, a3, a4, r, h => by
    exact fnC_run (M := ref12_result_m n) ⟨(tabA_cons_ok (entG_ok (fun b a r h => (ref05_Spine_h_ok n) a.1 r h)) tabA_nil_ok), (tabD_cons_ok (ent2_okD (ref03_Same_ok n)) (tabD_cons_ok (ent2_okD (ref05_SameList_ok n)) (tabD_cons_ok (ent2_okD (ref05_Vars_ok n)) tabD_nil_ok))), tabN_ok _, tabF_ok _, noY_ok, noE_ok⟩ Try.func100 rfl rfl ⟨(tyC Term.cel).nb 0 _, (tyC Term.cel).nb 0 _, (tyI .i64).nb 0 _, (tyI .i64).nb 0 _, (tyI .i64).nb 0 _, trivial⟩ Try.ntmps100 Try.results100 (fun σ hs => outR_ok (P := Try.prog) (rs := [.tmp 10, .tmp 11]) (t := (ty2 (tyL Term.row) tyB)) (σ := σ) (r := r) hs) (((ref12_result_e n).2 a0 a1 a2 a3 a4).trans h)

noncomputable def ref12_CtorType_m (n : Nat) : Mach (Term × Int) where
  body := (Try.f25.body).getD .skip
  P := Try.prog
  cl := tabA []
  cd := tabD [(22, entD (ent2 (tyL Term.row) (tyC Term.cel) (tyC Term.cel) (ref05_Pis n))), (41, entD (ent3 (tyC Family.cel) (tyI .i64) (tyL Term.row) (tyC Term.cel) (ref12_Result n)))]
  nrm := tabN []
  cut := tabF []
  n := n
  out := outR Try.prog [.cell 4 25, .tmp 5] (ty2 (tyC Term.cel) (tyI .i64))
  isE := tabI []
theorem ref12_CtorType_f (n : Nat) : (ref12_CtorType_m n).P = Try.prog ∧ (ref12_CtorType_m n).cl = tabA [] ∧ (ref12_CtorType_m n).cd = tabD [(22, entD (ent2 (tyL Term.row) (tyC Term.cel) (tyC Term.cel) (ref05_Pis n))), (41, entD (ent3 (tyC Family.cel) (tyI .i64) (tyL Term.row) (tyC Term.cel) (ref12_Result n)))] ∧ (ref12_CtorType_m n).nrm = tabN [] ∧ (ref12_CtorType_m n).cut = tabF [] ∧ (ref12_CtorType_m n).n = n ∧ (ref12_CtorType_m n).out = outR Try.prog [.cell 4 25, .tmp 5] (ty2 (tyC Term.cel) (tyI .i64)) ∧ (ref12_CtorType_m n).isE = tabI [] := ⟨rfl, rfl, rfl, rfl, rfl, rfl, rfl, rfl⟩
theorem ref12_CtorType_c (n : Nat) : (ref12_CtorType_m n).body = (Try.f25.body).getD .skip := rfl
theorem ref12_CtorType_d (n : Nat) : drawP (ref12_CtorType_m n) [0, 1, 1, 1] = true := by kernel_rfl
theorem ref12_CtorType_o (n : Nat) : ordP (ref12_CtorType_m n) [0, 1, 1, 1] 1 13 = true ∧ ordP (ref12_CtorType_m n) [0, 1, 1, 1] 3 13 = true ∧ ordP (ref12_CtorType_m n) [0, 1, 1, 1] 4 13 = true ∧ ordP (ref12_CtorType_m n) [0, 1, 1, 1] 6 13 = true ∧ ordP (ref12_CtorType_m n) [0, 1, 1, 1] 7 13 = true ∧ ordP (ref12_CtorType_m n) [0, 1, 1, 1] 9 13 = true := ⟨by kernel_rfl, by kernel_rfl, by kernel_rfl, by kernel_rfl, by kernel_rfl, by kernel_rfl⟩
noncomputable def ref12_CtorType_e (n : Nat) : { B : Family → Int → Option (Term × Int) // ∀ (a0 : Family) (a1 : Int), run (ref12_CtorType_m n) [.at []] { slots := [(tyC Family.cel).enc a0, (tyI .i64).enc a1] ++ List.replicate (35 - [(tyC Family.cel).enc a0, (tyI .i64).enc a1].length) .any, heap := [] } = B a0 a1 } := by
  apply Subtype.mk
  intro a0 a1
  simp (config := { maxSteps := 100000000 }) only [go_sem, Nat.reduceAdd, Nat.reduceSub, Nat.reduceLeDiff, Nat.reduceEqDiff, Nat.reduceBEq, Nat.reduceMul, Nat.reduceLT, Int.reduceLE, Int.reduceLT, Int.reduceToNat, Int.reduceBEq, Int.reduceEq, ref12_CtorType_f, ref12_CtorType_c, Try.f25, Option.getD_some, mixed, ref12_CtorType_d, ref12_CtorType_o]
  exact rfl
noncomputable def ref12_CtorType : Nat → Family → Int → Option (Term × Int)
  | 0, _, _ => none
  | n + 1, a0, a1 => (ref12_CtorType_e n).1 a0 a1
theorem ref12_CtorType_ok : ∀ (n : Nat) (a0 : Family) (a1 : Int) (r : (Term × Int)), ref12_CtorType n a0 a1 = some r → FnC Try.prog 25 [(tyC Family.cel).enc a0, (tyI .i64).enc a1] (fun v => v = (ty2 (tyC Term.cel) (tyI .i64)).enc r)
  | 0, _, _, _, h => by cases h
  | n + 1, a0, a1, r, h => by
    exact fnC_run (M := ref12_CtorType_m n) ⟨tabA_nil_ok, (tabD_cons_ok (ent2_okD (ref05_Pis_ok n)) (tabD_cons_ok (ent3_okD (ref12_Result_ok n)) tabD_nil_ok)), tabN_ok _, tabF_ok _, noY_ok, noE_ok⟩ Try.func25 rfl rfl ⟨(tyC Family.cel).nb 0 _, (tyI .i64).nb 0 _, trivial⟩ Try.ntmps25 Try.results25 (fun σ hs => outR_ok (P := Try.prog) (rs := [.cell 4 25, .tmp 5]) (t := (ty2 (tyC Term.cel) (tyI .i64))) (σ := σ) (r := r) hs) (((ref12_CtorType_e n).2 a0 a1).trans h)
end Go.Abs
namespace Go.Abs
open Go.Proofs
set_option maxRecDepth 100000
set_option maxHeartbeats 4000000
set_option linter.unusedSimpArgs false
set_option linter.unusedVariables false
noncomputable def law12_Few_m (n : Nat) : Mach Bool where
  body := (Try.f16.body).getD .skip
  P := Try.prog
  cl := tabA [(52, ent1 (tyC Decl.cel) tyB (law07_FewDecl n)), (53, ent1 (tyC Decl.cel) tyB (ref12_Closed n)), (54, ent1 tyS tyB (ref03_Name n))]
  cd := tabD []
  nrm := tabN []
  cut := tabF []
  n := n
  out := outR Try.prog [.tmp 2] tyB
theorem law12_Few_f (n : Nat) : (law12_Few_m n).P = Try.prog ∧ (law12_Few_m n).cl = tabA [(52, ent1 (tyC Decl.cel) tyB (law07_FewDecl n)), (53, ent1 (tyC Decl.cel) tyB (ref12_Closed n)), (54, ent1 tyS tyB (ref03_Name n))] ∧ (law12_Few_m n).cd = tabD [] ∧ (law12_Few_m n).nrm = tabN [] ∧ (law12_Few_m n).cut = tabF [] ∧ (law12_Few_m n).n = n ∧ (law12_Few_m n).out = outR Try.prog [.tmp 2] tyB := ⟨rfl, rfl, rfl, rfl, rfl, rfl, rfl⟩
theorem law12_Few_c (n : Nat) : (law12_Few_m n).body = (Try.f16.body).getD .skip := rfl
noncomputable def law12_Few_e (n : Nat) : { B : Decl → Option Bool // ∀ (a0 : Decl), run (law12_Few_m n) [.at []] { slots := [(tyC Decl.cel).enc a0] ++ List.replicate (14 - [(tyC Decl.cel).enc a0].length) .any, heap := [] } = B a0 } := by
  apply Subtype.mk
  intro a0
  simp (config := { maxSteps := 100000000 }) only [go_sem, Nat.reduceAdd, Nat.reduceSub, Nat.reduceLeDiff, Nat.reduceEqDiff, Nat.reduceBEq, Nat.reduceMul, Nat.reduceLT, Int.reduceLE, Int.reduceLT, Int.reduceToNat, Int.reduceBEq, Int.reduceEq, law12_Few_f, law12_Few_c, Try.f16, Option.getD_some, mixed]
  exact rfl
noncomputable def law12_Few : Nat → Decl → Option Bool
  | 0, _ => none
  | n + 1, a0 => (law12_Few_e n).1 a0
theorem law12_Few_ok : ∀ (n : Nat) (a0 : Decl) (r : Bool), law12_Few n a0 = some r → FnC Try.prog 16 [(tyC Decl.cel).enc a0] (fun v => v = tyB.enc r)
  | 0, _, _, h => by cases h
  | n + 1, a0, r, h => by
    exact fnC_run (M := law12_Few_m n) ⟨(tabA_cons_ok (ent1_ok (law07_FewDecl_ok n)) (tabA_cons_ok (ent1_ok (ref12_Closed_ok n)) (tabA_cons_ok (ent1_ok (ref03_Name_ok n)) tabA_nil_ok))), tabD_nil_ok, tabN_ok _, tabF_ok _, noY_ok, noE_ok⟩ Try.func16 rfl rfl ⟨(tyC Decl.cel).nb 0 _, trivial⟩ Try.ntmps16 Try.results16 (fun σ hs => outR_ok (P := Try.prog) (rs := [.tmp 2]) (t := tyB) (σ := σ) (r := r) hs) (((law12_Few_e n).2 a0).trans h)

noncomputable def family_shape_result_m (n : Nat) : Mach ((List Term) × Bool) where
  body := (Try.f98.body).getD .skip
  P := Try.prog
  cl := tabA [(72, ent1 (tyC Term.cel) (ty2 (tyC Term.cel) (tyL Term.row)) (telescope_Spine n))]
  cd := tabD [(26, entD (ent2 (tyC Term.cel) (tyC Term.cel) tyB (term_Same n))), (47, entD (ent2 (tyI .i64) (tyI .i64) (tyL Term.row) (telescope_Vars n))), (97, entD (ent3 (tyL Term.row) (tyL Term.row) (tyF 26) tyB (family_alike_Term_term_Same n)))]
  nrm := tabN []
  cut := tabF []
  n := n
  out := outR Try.prog [.tmp 6, .tmp 7] (ty2 (tyL Term.row) tyB)
  isE := tabI []
theorem family_shape_result_f (n : Nat) : (family_shape_result_m n).P = Try.prog ∧ (family_shape_result_m n).cl = tabA [(72, ent1 (tyC Term.cel) (ty2 (tyC Term.cel) (tyL Term.row)) (telescope_Spine n))] ∧ (family_shape_result_m n).cd = tabD [(26, entD (ent2 (tyC Term.cel) (tyC Term.cel) tyB (term_Same n))), (47, entD (ent2 (tyI .i64) (tyI .i64) (tyL Term.row) (telescope_Vars n))), (97, entD (ent3 (tyL Term.row) (tyL Term.row) (tyF 26) tyB (family_alike_Term_term_Same n)))] ∧ (family_shape_result_m n).nrm = tabN [] ∧ (family_shape_result_m n).cut = tabF [] ∧ (family_shape_result_m n).n = n ∧ (family_shape_result_m n).out = outR Try.prog [.tmp 6, .tmp 7] (ty2 (tyL Term.row) tyB) ∧ (family_shape_result_m n).isE = tabI [] := ⟨rfl, rfl, rfl, rfl, rfl, rfl, rfl, rfl⟩
theorem family_shape_result_c (n : Nat) : (family_shape_result_m n).body = (Try.f98.body).getD .skip := rfl
theorem family_shape_result_d (n : Nat) : drawP (family_shape_result_m n) [0, 0, 1, 1, 1] = true := by kernel_rfl
noncomputable def family_shape_result_e (n : Nat) : { B : FamilyShape → Term → Int → Option ((List Term) × Bool) // ∀ (a0 : FamilyShape) (a1 : Term) (a2 : Int), run (family_shape_result_m n) [.at []] { slots := [(tyC FamilyShape.cel).enc a0, (tyC Term.cel).enc a1, (tyI .i64).enc a2] ++ List.replicate (46 - [(tyC FamilyShape.cel).enc a0, (tyC Term.cel).enc a1, (tyI .i64).enc a2].length) .any, heap := [] } = B a0 a1 a2 } := by
  apply Subtype.mk
  intro a0 a1 a2
  simp (config := { maxSteps := 100000000 }) only [go_sem, Nat.reduceAdd, Nat.reduceSub, Nat.reduceLeDiff, Nat.reduceEqDiff, Nat.reduceBEq, Nat.reduceMul, Nat.reduceLT, Int.reduceLE, Int.reduceLT, Int.reduceToNat, Int.reduceBEq, Int.reduceEq, family_shape_result_f, family_shape_result_c, Try.f98, Option.getD_some, mixed, family_shape_result_d]
  exact rfl
noncomputable def family_shape_result : Nat → FamilyShape → Term → Int → Option ((List Term) × Bool)
  | 0, _, _, _ => none
  | n + 1, a0, a1, a2 => (family_shape_result_e n).1 a0 a1 a2
theorem family_shape_result_ok : ∀ (n : Nat) (a0 : FamilyShape) (a1 : Term) (a2 : Int) (r : ((List Term) × Bool)), family_shape_result n a0 a1 a2 = some r → FnC Try.prog 98 [(tyC FamilyShape.cel).enc a0, (tyC Term.cel).enc a1, (tyI .i64).enc a2] (fun v => v = (ty2 (tyL Term.row) tyB).enc r)
  | 0, _, _, _, _, h => by cases h
  | n + 1, a0, a1, a2, r, h => by
    exact fnC_run (M := family_shape_result_m n) ⟨(tabA_cons_ok (ent1_ok (telescope_Spine_ok n)) tabA_nil_ok), (tabD_cons_ok (ent2_okD (term_Same_ok n)) (tabD_cons_ok (ent2_okD (telescope_Vars_ok n)) (tabD_cons_ok (ent3_okD (family_alike_Term_term_Same_ok n)) tabD_nil_ok))), tabN_ok _, tabF_ok _, noY_ok, noE_ok⟩ Try.func98 rfl rfl ⟨(tyC FamilyShape.cel).nb 0 _, (tyC Term.cel).nb 0 _, (tyI .i64).nb 0 _, trivial⟩ Try.ntmps98 Try.results98 (fun σ hs => outR_ok (P := Try.prog) (rs := [.tmp 6, .tmp 7]) (t := (ty2 (tyL Term.row) tyB)) (σ := σ) (r := r) hs) (((family_shape_result_e n).2 a0 a1 a2).trans h)

noncomputable def ref12_ctor_n1 : Nrm := ⟨[], [(5, 2, 3)], [zA, zA, zA, zA, zK, zA, zK, zA, zA, zK, zK, zK, zA, zA, zK, zA, zA, zA, zA, zA, zA, zA, zA, zA, zA, zA, zA, zA, zA, zA, zA, zA, zA, zA, zA, zA, zA, zA, zA, zA, zA, zA, zA, zA, zA, zA, zA, zA, zA, zA, zA, zA, zA, zA, zA, zA, zA, zA, zA, zA, zA, zA, zA, zA, zA, zA, zA, zA, zA, zA, zA, zA, zA, zA, zA, zA, zA, zA, zA, zA, zA, zA, zA, zA, zA, zA, zA, zA, zA, zA, zA, zA, zA, zA, zA, zA, zA, zA, zA, zA, zA, zA, zA, zA, zA, zA, zA, zA, zA, zA, zA], [oD, oD, oK, oT Term.cel, oD, oC [zK, zT (tyL Term.row), zK, zT (tyL Term.row)], oA RecField.row], none⟩
noncomputable def ref12_ctor_m (n : Nat) : Mach (CtorForm × Bool) where
  body := (Try.f59.body).getD .skip
  P := Try.prog
  cl := tabA [(21, ent1 (tyC Term.cel) (ty2 (tyL Term.row) (tyC Term.cel)) (ref05_All n)), (85, ent2 tyS (tyI .i64) (tyC Term.cel) (ref12_Own n)), (100, ent5 (tyC Term.cel) (tyC Term.cel) (tyI .i64) (tyI .i64) (tyI .i64) (ty2 (tyL Term.row) tyB) (ref12_result n))]
  cd := tabD [(34, entD (ent2 (tyL Term.row) (tyL Term.row) tyB (ref05_SameList n)))]
  nrm := tabN [([0, 1, 0, 1, 1, 1, 1, 1, 1, 1, 1, 1], ref12_ctor_n1)]
  cut := tabF []
  n := n
  out := outR Try.prog [.cell 4 60, .tmp 5] (ty2 (tyC CtorForm.cel) tyB)
  isE := tabI []
theorem ref12_ctor_f (n : Nat) : (ref12_ctor_m n).P = Try.prog ∧ (ref12_ctor_m n).cl = tabA [(21, ent1 (tyC Term.cel) (ty2 (tyL Term.row) (tyC Term.cel)) (ref05_All n)), (85, ent2 tyS (tyI .i64) (tyC Term.cel) (ref12_Own n)), (100, ent5 (tyC Term.cel) (tyC Term.cel) (tyI .i64) (tyI .i64) (tyI .i64) (ty2 (tyL Term.row) tyB) (ref12_result n))] ∧ (ref12_ctor_m n).cd = tabD [(34, entD (ent2 (tyL Term.row) (tyL Term.row) tyB (ref05_SameList n)))] ∧ (ref12_ctor_m n).nrm = tabN [([0, 1, 0, 1, 1, 1, 1, 1, 1, 1, 1, 1], ref12_ctor_n1)] ∧ (ref12_ctor_m n).cut = tabF [] ∧ (ref12_ctor_m n).n = n ∧ (ref12_ctor_m n).out = outR Try.prog [.cell 4 60, .tmp 5] (ty2 (tyC CtorForm.cel) tyB) ∧ (ref12_ctor_m n).isE = tabI [] := ⟨rfl, rfl, rfl, rfl, rfl, rfl, rfl, rfl⟩
theorem ref12_ctor_c (n : Nat) : (ref12_ctor_m n).body = (Try.f59.body).getD .skip := rfl
theorem ref12_ctor_d (n : Nat) : drawP (ref12_ctor_m n) [0, 0, 1, 1, 1, 1] = true ∧ drawP (ref12_ctor_m n) [0, 1, 1, 1] = true ∧ drawP (ref12_ctor_m n) [0, 1, 1, 1, 1, 1] = true := ⟨by kernel_rfl, by kernel_rfl, by kernel_rfl⟩
theorem ref12_ctor_o (n : Nat) : ordP (ref12_ctor_m n) [0, 1, 1, 1, 1, 1] 1 7 = true ∧ ordP (ref12_ctor_m n) [0, 1, 1, 1, 1, 1] 4 7 = true ∧ ordP (ref12_ctor_m n) [0, 1, 1, 1, 1, 1] 6 7 = true := ⟨by kernel_rfl, by kernel_rfl, by kernel_rfl⟩
noncomputable def ref12_ctor_b1 (n : Nat) : { B : (Int → Int → Int → Term → Str → (List Term) → (List Term) → (List RecField) → Option (CtorForm × Bool)) → Int → Int → Int → Term → Str → (List Term) → (List Term) → (List RecField) → Option (CtorForm × Bool) // ∀ m X0, (∀ (v0 : Int) (v1 : Int) (v2 : Int) (o3 : Term) (v4 : Str) (v5 : List Term) (v6 : List Term) (r6 : List RecField) (c6 : Nat), c6 = r6.length → run (ref12_ctor_m n) [.lq m [0, 1, 0, 1, 1, 1, 1, 1, 1, 1, 1, 1], .blk 0, .cut [1, 1, 1, 1, 1, 1, 1, 1, 1, 1], .at [1, 1, 1, 1, 1, 1, 1, 1, 1, 1]] ⟨[.any, .any, .any, .any, .ptr 2 0, .any, .ptr 3 0, .any, .any, .int .i64 v0, .int .i64 v1, .ptr 5 0, .any, .any, .int .i64 v2, .any, .any, .any, .any, .any, .any, .any, .any, .any, .any, .any, .any, .any, .any, .any, .any, .any, .any, .any, .any, .any, .any, .any, .any, .any, .any, .any, .any, .any, .any, .any, .any, .any, .any, .any, .any, .any, .any, .any, .any, .any, .any, .any, .any, .any, .any, .any, .any, .any, .any, .any, .any, .any, .any, .any, .any, .any, .any, .any, .any, .any, .any, .any, .any, .any, .any, .any, .any, .any, .any, .any, .any, .any, .any, .any, .any, .any, .any, .any, .any, .any, .any, .any, .any, .any, .any, .any, .any, .any, .any, .any, .any, .any, .any, .any, .any], [.dead, .dead, .cells [.str (sb []), .lst true 0 [], .lst true 0 [], .lst true 0 []], .cells (Term.cells o3), .dead, .cells [.str (sb v4), .lst false 5 (mp Term.cells v5), .acc 6 c6, .lst false 5 (mp Term.cells v6)], .acc true 3 (mp RecField.cells r6)], 0⟩ = X0 v0 v1 v2 o3 v4 v5 v6 r6) → ∀ (v0 : Int) (v1 : Int) (v2 : Int) (o3 : Term) (v4 : Str) (v5 : List Term) (v6 : List Term) (r6 : List RecField), run (ref12_ctor_m n) [.at [0, 0, 1, 0, 1, 1, 1, 1, 1, 1, 1, 1, 1], .lp m [0, 1, 0, 1, 1, 1, 1, 1, 1, 1, 1, 1], .blk 0, .cut [1, 1, 1, 1, 1, 1, 1, 1, 1, 1], .at [1, 1, 1, 1, 1, 1, 1, 1, 1, 1]] ⟨[.any, .any, .any, .any, .ptr 2 0, .any, .ptr 3 0, .any, .any, .int .i64 v0, .int .i64 v1, .ptr 5 0, .any, .any, .int .i64 v2, .any, .any, .any, .any, .any, .any, .any, .any, .any, .any, .any, .any, .any, .any, .any, .any, .any, .any, .any, .any, .any, .any, .any, .any, .any, .any, .any, .any, .any, .any, .any, .any, .any, .any, .any, .any, .any, .any, .any, .any, .any, .any, .any, .any, .any, .any, .any, .any, .any, .any, .any, .any, .any, .any, .any, .any, .any, .any, .any, .any, .any, .any, .any, .any, .any, .any, .any, .any, .any, .any, .any, .any, .any, .any, .any, .any, .any, .any, .any, .any, .any, .any, .any, .any, .any, .any, .any, .any, .any, .any, .any, .any, .any, .any, .any, .any], [.dead, .dead, .cells [.str (sb []), .lst true 0 [], .lst true 0 [], .lst true 0 []], .cells (Term.cells o3), .dead, .cells [.str (sb v4), .lst false 5 (mp Term.cells v5), .acc 6 r6.length, .lst false 5 (mp Term.cells v6)], .acc true 3 (mp RecField.cells r6)], 0⟩ = B X0 v0 v1 v2 o3 v4 v5 v6 r6 } := by
  apply Subtype.mk
  intro m X0 ih v0 v1 v2 o3 v4 v5 v6 r6
  simp (config := { maxSteps := 100000000 }) only [go_sem, Nat.reduceAdd, Nat.reduceSub, Nat.reduceLeDiff, Nat.reduceEqDiff, Nat.reduceBEq, Nat.reduceMul, Nat.reduceLT, Int.reduceLE, Int.reduceLT, Int.reduceToNat, Int.reduceBEq, Int.reduceEq, ref12_ctor_f, ref12_ctor_c, Try.f59, Option.getD_some, mixed, ref12_ctor_d, ref12_ctor_o, ref12_ctor_n1, ih]
  exact rfl
noncomputable def ref12_ctor_l1 (n : Nat) : Nat → Int → Int → Int → Term → Str → (List Term) → (List Term) → (List RecField) → Option (CtorForm × Bool)
  | 0, _, _, _, _, _, _, _, _ => none
  | m + 1, v0, v1, v2, o3, v4, v5, v6, r6 => (ref12_ctor_b1 n).1 (ref12_ctor_l1 n m) v0 v1 v2 o3 v4 v5 v6 r6
theorem ref12_ctor_l1_eq (n : Nat) : ∀ (m : Nat), (∀ (v0 : Int) (v1 : Int) (v2 : Int) (o3 : Term) (v4 : Str) (v5 : List Term) (v6 : List Term) (r6 : List RecField) (c6 : Nat), c6 = r6.length → run (ref12_ctor_m n) [.lq m [0, 1, 0, 1, 1, 1, 1, 1, 1, 1, 1, 1], .blk 0, .cut [1, 1, 1, 1, 1, 1, 1, 1, 1, 1], .at [1, 1, 1, 1, 1, 1, 1, 1, 1, 1]] ⟨[.any, .any, .any, .any, .ptr 2 0, .any, .ptr 3 0, .any, .any, .int .i64 v0, .int .i64 v1, .ptr 5 0, .any, .any, .int .i64 v2, .any, .any, .any, .any, .any, .any, .any, .any, .any, .any, .any, .any, .any, .any, .any, .any, .any, .any, .any, .any, .any, .any, .any, .any, .any, .any, .any, .any, .any, .any, .any, .any, .any, .any, .any, .any, .any, .any, .any, .any, .any, .any, .any, .any, .any, .any, .any, .any, .any, .any, .any, .any, .any, .any, .any, .any, .any, .any, .any, .any, .any, .any, .any, .any, .any, .any, .any, .any, .any, .any, .any, .any, .any, .any, .any, .any, .any, .any, .any, .any, .any, .any, .any, .any, .any, .any, .any, .any, .any, .any, .any, .any, .any, .any, .any, .any], [.dead, .dead, .cells [.str (sb []), .lst true 0 [], .lst true 0 [], .lst true 0 []], .cells (Term.cells o3), .dead, .cells [.str (sb v4), .lst false 5 (mp Term.cells v5), .acc 6 c6, .lst false 5 (mp Term.cells v6)], .acc true 3 (mp RecField.cells r6)], 0⟩ = ref12_ctor_l1 n m v0 v1 v2 o3 v4 v5 v6 r6)
  | 0 => by intros; exact run_lq_zero
  | m + 1 => by
    have ih := ref12_ctor_l1_eq n m
    intro v0 v1 v2 o3 v4 v5 v6 r6 c6 ec6
    subst ec6
    rw [run_lq_succ]
    exact (ref12_ctor_b1 n).2  m _  ih v0 v1 v2 o3 v4 v5 v6 r6
noncomputable def ref12_ctor_e (n : Nat) : { B : Family → Ctor → Option (CtorForm × Bool) // ∀ (a0 : Family) (a1 : Ctor), run (ref12_ctor_m n) [.at []] { slots := [(tyC Family.cel).enc a0, (tyC Ctor.cel).enc a1] ++ List.replicate (111 - [(tyC Family.cel).enc a0, (tyC Ctor.cel).enc a1].length) .any, heap := [] } = B a0 a1 } := by
  apply Subtype.mk
  intro a0 a1
  simp (config := { maxSteps := 100000000 }) only [go_sem, Nat.reduceAdd, Nat.reduceSub, Nat.reduceLeDiff, Nat.reduceEqDiff, Nat.reduceBEq, Nat.reduceMul, Nat.reduceLT, Int.reduceLE, Int.reduceLT, Int.reduceToNat, Int.reduceBEq, Int.reduceEq, ref12_ctor_f, ref12_ctor_c, Try.f59, Option.getD_some, mixed, ref12_ctor_d, ref12_ctor_o, ref12_ctor_n1, ref12_ctor_l1_eq n]
  exact rfl
noncomputable def ref12_ctor : Nat → Family → Ctor → Option (CtorForm × Bool)
  | 0, _, _ => none
  | n + 1, a0, a1 => (ref12_ctor_e n).1 a0 a1
theorem ref12_ctor_ok : ∀ (n : Nat) (a0 : Family) (a1 : Ctor) (r : (CtorForm × Bool)), ref12_ctor n a0 a1 = some r → FnC Try.prog 59 [(tyC Family.cel).enc a0, (tyC Ctor.cel).enc a1] (fun v => v = (ty2 (tyC CtorForm.cel) tyB).enc r)
  | 0, _, _, _, h => by cases h
  | n + 1, a0, a1, r, h => by
    exact fnC_run (M := ref12_ctor_m n) ⟨(tabA_cons_ok (ent1_ok (ref05_All_ok n)) (tabA_cons_ok (ent2_ok (ref12_Own_ok n)) (tabA_cons_ok (ent5_ok (ref12_result_ok n)) tabA_nil_ok))), (tabD_cons_ok (ent2_okD (ref05_SameList_ok n)) tabD_nil_ok), tabN_ok _, tabF_ok _, noY_ok, noE_ok⟩ Try.func59 rfl rfl ⟨(tyC Family.cel).nb 0 _, (tyC Ctor.cel).nb 0 _, trivial⟩ Try.ntmps59 Try.results59 (fun σ hs => outR_ok (P := Try.prog) (rs := [.cell 4 60, .tmp 5]) (t := (ty2 (tyC CtorForm.cel) tyB)) (σ := σ) (r := r) hs) (((ref12_ctor_e n).2 a0 a1).trans h)
end Go.Abs
namespace Go.Abs
open Go.Proofs
set_option maxRecDepth 100000
set_option maxHeartbeats 4000000
set_option linter.unusedSimpArgs false
set_option linter.unusedVariables false
noncomputable def family_shape_recursive_n1 : Nrm := ⟨[(5, 3, true)], [], [zA, zA, zK, zA, zA, zK, zA, zA, zA, zA, zA, zA, zT (tyL Term.row), zK, zK, zA, zA, zA, zA, zA, zA, zA, zA, zA, zA, zA, zA, zA, zA, zA, zA, zA, zA, zA, zA, zA, zA, zA, zA, zA, zA, zA, zA, zA, zA], [oT FamilyShape.cel, oA RecField.row], none⟩
noncomputable def family_shape_recursive_m (n : Nat) : Mach (List RecField) where
  body := (Try.f99.body).getD .skip
  P := Try.prog
  cl := tabA [(49, ent1 (tyC Term.cel) (ty2 (tyL Term.row) (tyC Term.cel)) (telescope_All n)), (98, ent3 (tyC FamilyShape.cel) (tyC Term.cel) (tyI .i64) (ty2 (tyL Term.row) tyB) (family_shape_result n))]
  cd := tabD []
  nrm := tabN [([0, 1, 0, 1, 1, 0, 1], family_shape_recursive_n1)]
  cut := tabF []
  n := n
  out := outR Try.prog [.tmp 4] (tyL RecField.row)
theorem family_shape_recursive_f (n : Nat) : (family_shape_recursive_m n).P = Try.prog ∧ (family_shape_recursive_m n).cl = tabA [(49, ent1 (tyC Term.cel) (ty2 (tyL Term.row) (tyC Term.cel)) (telescope_All n)), (98, ent3 (tyC FamilyShape.cel) (tyC Term.cel) (tyI .i64) (ty2 (tyL Term.row) tyB) (family_shape_result n))] ∧ (family_shape_recursive_m n).cd = tabD [] ∧ (family_shape_recursive_m n).nrm = tabN [([0, 1, 0, 1, 1, 0, 1], family_shape_recursive_n1)] ∧ (family_shape_recursive_m n).cut = tabF [] ∧ (family_shape_recursive_m n).n = n ∧ (family_shape_recursive_m n).out = outR Try.prog [.tmp 4] (tyL RecField.row) := ⟨rfl, rfl, rfl, rfl, rfl, rfl, rfl⟩
theorem family_shape_recursive_c (n : Nat) : (family_shape_recursive_m n).body = (Try.f99.body).getD .skip := rfl
noncomputable def family_shape_recursive_b1 (n : Nat) : { B : ((List Term) → Int → Int → FamilyShape → (List RecField) → Option (List RecField)) → (List Term) → Int → Int → FamilyShape → (List RecField) → Option (List RecField) // ∀ m X0, (∀ (v0 : List Term) (v1 : Int) (v2 : Int) (o0 : FamilyShape) (r1 : List RecField) (c1 : Nat), c1 = r1.length → run (family_shape_recursive_m n) [.lq m [0, 1, 0, 1, 1, 0, 1], .blk 0, .cut [1, 1, 1, 0, 1], .at [1, 1, 1, 0, 1]] ⟨[.any, .any, .ptr 0 0, .any, .any, .acc 1 c1, .any, .any, .any, .any, .any, .any, .lst false 5 (mp Term.cells v0), .int .i64 v1, .int .i64 v2, .any, .any, .any, .any, .any, .any, .any, .any, .any, .any, .any, .any, .any, .any, .any, .any, .any, .any, .any, .any, .any, .any, .any, .any, .any, .any, .any, .any, .any, .any], [.cells (FamilyShape.cells o0), .acc true 3 (mp RecField.cells r1)], 0⟩ = X0 v0 v1 v2 o0 r1) → ∀ (v0 : List Term) (v1 : Int) (v2 : Int) (o0 : FamilyShape) (r1 : List RecField), run (family_shape_recursive_m n) [.at [0, 0, 1, 0, 1, 1, 0, 1], .lp m [0, 1, 0, 1, 1, 0, 1], .blk 0, .cut [1, 1, 1, 0, 1], .at [1, 1, 1, 0, 1]] ⟨[.any, .any, .ptr 0 0, .any, .any, .acc 1 r1.length, .any, .any, .any, .any, .any, .any, .lst false 5 (mp Term.cells v0), .int .i64 v1, .int .i64 v2, .any, .any, .any, .any, .any, .any, .any, .any, .any, .any, .any, .any, .any, .any, .any, .any, .any, .any, .any, .any, .any, .any, .any, .any, .any, .any, .any, .any, .any, .any], [.cells (FamilyShape.cells o0), .acc true 3 (mp RecField.cells r1)], 0⟩ = B X0 v0 v1 v2 o0 r1 } := by
  apply Subtype.mk
  intro m X0 ih v0 v1 v2 o0 r1
  simp (config := { maxSteps := 100000000 }) only [go_sem, Nat.reduceAdd, Nat.reduceSub, Nat.reduceLeDiff, Nat.reduceEqDiff, Nat.reduceBEq, Nat.reduceMul, Nat.reduceLT, Int.reduceLE, Int.reduceLT, Int.reduceToNat, Int.reduceBEq, Int.reduceEq, family_shape_recursive_f, family_shape_recursive_c, Try.f99, Option.getD_some, mixed, family_shape_recursive_n1, ih]
  exact rfl
noncomputable def family_shape_recursive_l1 (n : Nat) : Nat → (List Term) → Int → Int → FamilyShape → (List RecField) → Option (List RecField)
  | 0, _, _, _, _, _ => none
  | m + 1, v0, v1, v2, o0, r1 => (family_shape_recursive_b1 n).1 (family_shape_recursive_l1 n m) v0 v1 v2 o0 r1
theorem family_shape_recursive_l1_eq (n : Nat) : ∀ (m : Nat), (∀ (v0 : List Term) (v1 : Int) (v2 : Int) (o0 : FamilyShape) (r1 : List RecField) (c1 : Nat), c1 = r1.length → run (family_shape_recursive_m n) [.lq m [0, 1, 0, 1, 1, 0, 1], .blk 0, .cut [1, 1, 1, 0, 1], .at [1, 1, 1, 0, 1]] ⟨[.any, .any, .ptr 0 0, .any, .any, .acc 1 c1, .any, .any, .any, .any, .any, .any, .lst false 5 (mp Term.cells v0), .int .i64 v1, .int .i64 v2, .any, .any, .any, .any, .any, .any, .any, .any, .any, .any, .any, .any, .any, .any, .any, .any, .any, .any, .any, .any, .any, .any, .any, .any, .any, .any, .any, .any, .any, .any], [.cells (FamilyShape.cells o0), .acc true 3 (mp RecField.cells r1)], 0⟩ = family_shape_recursive_l1 n m v0 v1 v2 o0 r1)
  | 0 => by intros; exact run_lq_zero
  | m + 1 => by
    have ih := family_shape_recursive_l1_eq n m
    intro v0 v1 v2 o0 r1 c1 ec1
    subst ec1
    rw [run_lq_succ]
    exact (family_shape_recursive_b1 n).2  m _  ih v0 v1 v2 o0 r1
noncomputable def family_shape_recursive_e (n : Nat) : { B : FamilyShape → (List Term) → Option (List RecField) // ∀ (a0 : FamilyShape) (a1 : (List Term)), run (family_shape_recursive_m n) [.at []] { slots := [(tyC FamilyShape.cel).enc a0, (tyL Term.row).enc a1] ++ List.replicate (45 - [(tyC FamilyShape.cel).enc a0, (tyL Term.row).enc a1].length) .any, heap := [] } = B a0 a1 } := by
  apply Subtype.mk
  intro a0 a1
  simp (config := { maxSteps := 100000000 }) only [go_sem, Nat.reduceAdd, Nat.reduceSub, Nat.reduceLeDiff, Nat.reduceEqDiff, Nat.reduceBEq, Nat.reduceMul, Nat.reduceLT, Int.reduceLE, Int.reduceLT, Int.reduceToNat, Int.reduceBEq, Int.reduceEq, family_shape_recursive_f, family_shape_recursive_c, Try.f99, Option.getD_some, mixed, family_shape_recursive_n1, family_shape_recursive_l1_eq n]
  exact rfl
noncomputable def family_shape_recursive : Nat → FamilyShape → (List Term) → Option (List RecField)
  | 0, _, _ => none
  | n + 1, a0, a1 => (family_shape_recursive_e n).1 a0 a1
theorem family_shape_recursive_ok : ∀ (n : Nat) (a0 : FamilyShape) (a1 : (List Term)) (r : (List RecField)), family_shape_recursive n a0 a1 = some r → FnC Try.prog 99 [(tyC FamilyShape.cel).enc a0, (tyL Term.row).enc a1] (fun v => v = (tyL RecField.row).enc r)
  | 0, _, _, _, h => by cases h
  | n + 1, a0, a1, r, h => by
    exact fnC_run (M := family_shape_recursive_m n) ⟨(tabA_cons_ok (ent1_ok (telescope_All_ok n)) (tabA_cons_ok (ent3_ok (family_shape_result_ok n)) tabA_nil_ok)), tabD_nil_ok, tabN_ok _, tabF_ok _, noY_ok, noE_ok⟩ Try.func99 rfl rfl ⟨(tyC FamilyShape.cel).nb 0 _, (tyL Term.row).nb 0 _, trivial⟩ Try.ntmps99 Try.results99 (fun σ hs => outR_ok (P := Try.prog) (rs := [.tmp 4]) (t := (tyL RecField.row)) (σ := σ) (r := r) hs) (((family_shape_recursive_e n).2 a0 a1).trans h)

noncomputable def ref12_Analyse_n1 : Nrm := ⟨[], [(3, 9, 4)], [zA, zK, zK, zA, zA, zA, zK, zK, zA, zA, zA, zA, zA, zA, zA, zA, zA, zA, zA, zA, zA, zA, zA, zA, zA, zA, zA, zA, zA, zA, zA, zA, zA, zA, zA, zA, zA, zA, zA, zA, zA, zA, zA, zA, zA, zA, zA, zA, zA, zA, zA, zA, zA, zA, zA, zA, zA, zA, zA, zA, zA, zA, zA, zA, zA, zA, zA, zA, zA, zA, zA, zA, zA, zA, zA, zA, zA], [oT Decl.cel, oK, oD, oC [zK, zK, zT (tyL Term.row), zT (tyL Term.row), zK, zK, zK, zT (tyL Level.row), zT (tyL Term.row), zK], oA CtorForm.row], none⟩
noncomputable def ref12_Analyse_m (n : Nat) : Mach (Family × Int) where
  body := (Try.f19.body).getD .skip
  P := Try.prog
  cl := tabA [(21, ent1 (tyC Term.cel) (ty2 (tyL Term.row) (tyC Term.cel)) (ref05_All n)), (58, ent1 (tyC Term.cel) tyB (ref12_sort n))]
  cd := tabD [(59, entD (ent2 (tyC Family.cel) (tyC Ctor.cel) (ty2 (tyC CtorForm.cel) tyB) (ref12_ctor n)))]
  nrm := tabN [([0, 1, 0, 1, 1, 1, 1, 1], ref12_Analyse_n1)]
  cut := tabF []
  n := n
  out := outR Try.prog [.cell 2 36, .tmp 3] (ty2 (tyC Family.cel) (tyI .i64))
  isE := tabI []
theorem ref12_Analyse_f (n : Nat) : (ref12_Analyse_m n).P = Try.prog ∧ (ref12_Analyse_m n).cl = tabA [(21, ent1 (tyC Term.cel) (ty2 (tyL Term.row) (tyC Term.cel)) (ref05_All n)), (58, ent1 (tyC Term.cel) tyB (ref12_sort n))] ∧ (ref12_Analyse_m n).cd = tabD [(59, entD (ent2 (tyC Family.cel) (tyC Ctor.cel) (ty2 (tyC CtorForm.cel) tyB) (ref12_ctor n)))] ∧ (ref12_Analyse_m n).nrm = tabN [([0, 1, 0, 1, 1, 1, 1, 1], ref12_Analyse_n1)] ∧ (ref12_Analyse_m n).cut = tabF [] ∧ (ref12_Analyse_m n).n = n ∧ (ref12_Analyse_m n).out = outR Try.prog [.cell 2 36, .tmp 3] (ty2 (tyC Family.cel) (tyI .i64)) ∧ (ref12_Analyse_m n).isE = tabI [] := ⟨rfl, rfl, rfl, rfl, rfl, rfl, rfl, rfl⟩
theorem ref12_Analyse_c (n : Nat) : (ref12_Analyse_m n).body = (Try.f19.body).getD .skip := rfl
theorem ref12_Analyse_d (n : Nat) : drawP (ref12_Analyse_m n) [0, 0, 0, 1, 0, 0, 1, 0, 1, 1, 1, 1, 1] = true ∧ drawP (ref12_Analyse_m n) [0, 1, 1, 1, 1] = true := ⟨by kernel_rfl, by kernel_rfl⟩
theorem ref12_Analyse_o (n : Nat) : ordP (ref12_Analyse_m n) [0, 0, 0, 1, 0, 0, 1, 0, 1, 1, 1, 1, 1] 0 11 = true ∧ ordP (ref12_Analyse_m n) [0, 0, 0, 1, 0, 0, 1, 0, 1, 1, 1, 1, 1] 2 11 = true ∧ ordP (ref12_Analyse_m n) [0, 0, 0, 1, 0, 0, 1, 0, 1, 1, 1, 1, 1] 4 11 = true ∧ ordP (ref12_Analyse_m n) [0, 0, 0, 1, 0, 0, 1, 0, 1, 1, 1, 1, 1] 5 11 = true ∧ ordP (ref12_Analyse_m n) [0, 0, 0, 1, 0, 0, 1, 0, 1, 1, 1, 1, 1] 10 11 = true ∧ ordP (ref12_Analyse_m n) [0, 1, 1, 1, 1] 1 15 = true ∧ ordP (ref12_Analyse_m n) [0, 1, 1, 1, 1] 3 15 = true ∧ ordP (ref12_Analyse_m n) [0, 1, 1, 1, 1] 6 15 = true ∧ ordP (ref12_Analyse_m n) [0, 1, 1, 1, 1] 7 15 = true ∧ ordP (ref12_Analyse_m n) [0, 1, 1, 1, 1] 10 15 = true ∧ ordP (ref12_Analyse_m n) [0, 1, 1, 1, 1] 11 15 = true ∧ ordP (ref12_Analyse_m n) [0, 1, 1, 1, 1] 12 15 = true ∧ ordP (ref12_Analyse_m n) [0, 1, 1, 1, 1] 14 15 = true := ⟨by kernel_rfl, by kernel_rfl, by kernel_rfl, by kernel_rfl, by kernel_rfl, by kernel_rfl, by kernel_rfl, by kernel_rfl, by kernel_rfl, by kernel_rfl, by kernel_rfl, by kernel_rfl, by kernel_rfl⟩
noncomputable def ref12_Analyse_b1 (n : Nat) : { B : (Int → Decl → Str → Int → (List Term) → (List Term) → Int → Int → Str → (List Level) → (List Term) → (List CtorForm) → Option (Family × Int)) → Int → Decl → Str → Int → (List Term) → (List Term) → Int → Int → Str → (List Level) → (List Term) → (List CtorForm) → Option (Family × Int) // ∀ m X0, (∀ (v0 : Int) (o0 : Decl) (v2 : Str) (v3 : Int) (v4 : List Term) (v5 : List Term) (v6 : Int) (v7 : Int) (v8 : Str) (v9 : List Level) (v10 : List Term) (r4 : List CtorForm) (c4 : Nat), c4 = r4.length → run (ref12_Analyse_m n) [.lq m [0, 1, 0, 1, 1, 1, 1, 1], .blk 0, .cut [1, 1, 1, 1, 1, 1], .at [1, 1, 1, 1, 1, 1]] ⟨[.any, .ptr 0 0, .ptr 1 0, .any, .any, .any, .ptr 3 0, .int .i64 v0, .any, .any, .any, .any, .any, .any, .any, .any, .any, .any, .any, .any, .any, .any, .any, .any, .any, .any, .any, .any, .any, .any, .any, .any, .any, .any, .any, .any, .any, .any, .any, .any, .any, .any, .any, .any, .any, .any, .any, .any, .any, .any, .any, .any, .any, .any, .any, .any, .any, .any, .any, .any, .any, .any, .any, .any, .any, .any, .any, .any, .any, .any, .any, .any, .any, .any, .any, .any, .any], [.cells (Decl.cells o0), .cells [.str (sb []), .int .i64 0, .lst true 0 [], .lst true 0 [], .int .i64 0, .int .i64 0, .str (sb []), .lst true 0 [], .lst true 0 [], .lst true 0 []], .dead, .cells [.str (sb v2), .int .i64 v3, .lst false 5 (mp Term.cells v4), .lst false 5 (mp Term.cells v5), .int .i64 v6, .int .i64 v7, .str (sb v8), .lst false 2 (mp Level.cells v9), .lst false 5 (mp Term.cells v10), .acc 4 c4], .acc true 4 (mp CtorForm.cells r4)], 0⟩ = X0 v0 o0 v2 v3 v4 v5 v6 v7 v8 v9 v10 r4) → ∀ (v0 : Int) (o0 : Decl) (v2 : Str) (v3 : Int) (v4 : List Term) (v5 : List Term) (v6 : Int) (v7 : Int) (v8 : Str) (v9 : List Level) (v10 : List Term) (r4 : List CtorForm), run (ref12_Analyse_m n) [.at [0, 0, 1, 0, 1, 1, 1, 1, 1], .lp m [0, 1, 0, 1, 1, 1, 1, 1], .blk 0, .cut [1, 1, 1, 1, 1, 1], .at [1, 1, 1, 1, 1, 1]] ⟨[.any, .ptr 0 0, .ptr 1 0, .any, .any, .any, .ptr 3 0, .int .i64 v0, .any, .any, .any, .any, .any, .any, .any, .any, .any, .any, .any, .any, .any, .any, .any, .any, .any, .any, .any, .any, .any, .any, .any, .any, .any, .any, .any, .any, .any, .any, .any, .any, .any, .any, .any, .any, .any, .any, .any, .any, .any, .any, .any, .any, .any, .any, .any, .any, .any, .any, .any, .any, .any, .any, .any, .any, .any, .any, .any, .any, .any, .any, .any, .any, .any, .any, .any, .any, .any], [.cells (Decl.cells o0), .cells [.str (sb []), .int .i64 0, .lst true 0 [], .lst true 0 [], .int .i64 0, .int .i64 0, .str (sb []), .lst true 0 [], .lst true 0 [], .lst true 0 []], .dead, .cells [.str (sb v2), .int .i64 v3, .lst false 5 (mp Term.cells v4), .lst false 5 (mp Term.cells v5), .int .i64 v6, .int .i64 v7, .str (sb v8), .lst false 2 (mp Level.cells v9), .lst false 5 (mp Term.cells v10), .acc 4 r4.length], .acc true 4 (mp CtorForm.cells r4)], 0⟩ = B X0 v0 o0 v2 v3 v4 v5 v6 v7 v8 v9 v10 r4 } := by
  apply Subtype.mk
  intro m X0 ih v0 o0 v2 v3 v4 v5 v6 v7 v8 v9 v10 r4
  simp (config := { maxSteps := 100000000 }) only [go_sem, Nat.reduceAdd, Nat.reduceSub, Nat.reduceLeDiff, Nat.reduceEqDiff, Nat.reduceBEq, Nat.reduceMul, Nat.reduceLT, Int.reduceLE, Int.reduceLT, Int.reduceToNat, Int.reduceBEq, Int.reduceEq, ref12_Analyse_f, ref12_Analyse_c, Try.f19, Option.getD_some, mixed, ref12_Analyse_d, ref12_Analyse_o, ref12_Analyse_n1, ih]
  exact rfl
noncomputable def ref12_Analyse_l1 (n : Nat) : Nat → Int → Decl → Str → Int → (List Term) → (List Term) → Int → Int → Str → (List Level) → (List Term) → (List CtorForm) → Option (Family × Int)
  | 0, _, _, _, _, _, _, _, _, _, _, _, _ => none
  | m + 1, v0, o0, v2, v3, v4, v5, v6, v7, v8, v9, v10, r4 => (ref12_Analyse_b1 n).1 (ref12_Analyse_l1 n m) v0 o0 v2 v3 v4 v5 v6 v7 v8 v9 v10 r4
theorem ref12_Analyse_l1_eq (n : Nat) : ∀ (m : Nat), (∀ (v0 : Int) (o0 : Decl) (v2 : Str) (v3 : Int) (v4 : List Term) (v5 : List Term) (v6 : Int) (v7 : Int) (v8 : Str) (v9 : List Level) (v10 : List Term) (r4 : List CtorForm) (c4 : Nat), c4 = r4.length → run (ref12_Analyse_m n) [.lq m [0, 1, 0, 1, 1, 1, 1, 1], .blk 0, .cut [1, 1, 1, 1, 1, 1], .at [1, 1, 1, 1, 1, 1]] ⟨[.any, .ptr 0 0, .ptr 1 0, .any, .any, .any, .ptr 3 0, .int .i64 v0, .any, .any, .any, .any, .any, .any, .any, .any, .any, .any, .any, .any, .any, .any, .any, .any, .any, .any, .any, .any, .any, .any, .any, .any, .any, .any, .any, .any, .any, .any, .any, .any, .any, .any, .any, .any, .any, .any, .any, .any, .any, .any, .any, .any, .any, .any, .any, .any, .any, .any, .any, .any, .any, .any, .any, .any, .any, .any, .any, .any, .any, .any, .any, .any, .any, .any, .any, .any, .any], [.cells (Decl.cells o0), .cells [.str (sb []), .int .i64 0, .lst true 0 [], .lst true 0 [], .int .i64 0, .int .i64 0, .str (sb []), .lst true 0 [], .lst true 0 [], .lst true 0 []], .dead, .cells [.str (sb v2), .int .i64 v3, .lst false 5 (mp Term.cells v4), .lst false 5 (mp Term.cells v5), .int .i64 v6, .int .i64 v7, .str (sb v8), .lst false 2 (mp Level.cells v9), .lst false 5 (mp Term.cells v10), .acc 4 c4], .acc true 4 (mp CtorForm.cells r4)], 0⟩ = ref12_Analyse_l1 n m v0 o0 v2 v3 v4 v5 v6 v7 v8 v9 v10 r4)
  | 0 => by intros; exact run_lq_zero
  | m + 1 => by
    have ih := ref12_Analyse_l1_eq n m
    intro v0 o0 v2 v3 v4 v5 v6 v7 v8 v9 v10 r4 c4 ec4
    subst ec4
    rw [run_lq_succ]
    exact (ref12_Analyse_b1 n).2  m _  ih v0 o0 v2 v3 v4 v5 v6 v7 v8 v9 v10 r4
noncomputable def ref12_Analyse_e (n : Nat) : { B : Decl → Option (Family × Int) // ∀ (a0 : Decl), run (ref12_Analyse_m n) [.at []] { slots := [(tyC Decl.cel).enc a0] ++ List.replicate (77 - [(tyC Decl.cel).enc a0].length) .any, heap := [] } = B a0 } := by
  apply Subtype.mk
  intro a0
  simp (config := { maxSteps := 100000000 }) only [go_sem, Nat.reduceAdd, Nat.reduceSub, Nat.reduceLeDiff, Nat.reduceEqDiff, Nat.reduceBEq, Nat.reduceMul, Nat.reduceLT, Int.reduceLE, Int.reduceLT, Int.reduceToNat, Int.reduceBEq, Int.reduceEq, ref12_Analyse_f, ref12_Analyse_c, Try.f19, Option.getD_some, mixed, ref12_Analyse_d, ref12_Analyse_o, ref12_Analyse_n1, ref12_Analyse_l1_eq n]
  exact rfl
noncomputable def ref12_Analyse : Nat → Decl → Option (Family × Int)
  | 0, _ => none
  | n + 1, a0 => (ref12_Analyse_e n).1 a0
theorem ref12_Analyse_ok : ∀ (n : Nat) (a0 : Decl) (r : (Family × Int)), ref12_Analyse n a0 = some r → FnC Try.prog 19 [(tyC Decl.cel).enc a0] (fun v => v = (ty2 (tyC Family.cel) (tyI .i64)).enc r)
  | 0, _, _, h => by cases h
  | n + 1, a0, r, h => by
    exact fnC_run (M := ref12_Analyse_m n) ⟨(tabA_cons_ok (ent1_ok (ref05_All_ok n)) (tabA_cons_ok (ent1_ok (ref12_sort_ok n)) tabA_nil_ok)), (tabD_cons_ok (ent2_okD (ref12_ctor_ok n)) tabD_nil_ok), tabN_ok _, tabF_ok _, noY_ok, noE_ok⟩ Try.func19 rfl rfl ⟨(tyC Decl.cel).nb 0 _, trivial⟩ Try.ntmps19 Try.results19 (fun σ hs => outR_ok (P := Try.prog) (rs := [.cell 2 36, .tmp 3]) (t := (ty2 (tyC Family.cel) (tyI .i64))) (σ := σ) (r := r) hs) (((ref12_Analyse_e n).2 a0).trans h)
end Go.Abs
namespace Go.Abs
open Go.Proofs
set_option maxRecDepth 100000
set_option maxHeartbeats 4000000
set_option linter.unusedSimpArgs false
set_option linter.unusedVariables false
noncomputable def family_shape_ctor_m (n : Nat) : Mach (CtorForm × Bool) where
  body := (Try.f57.body).getD .skip
  P := Try.prog
  cl := tabA [(49, ent1 (tyC Term.cel) (ty2 (tyL Term.row) (tyC Term.cel)) (telescope_All n)), (98, ent3 (tyC FamilyShape.cel) (tyC Term.cel) (tyI .i64) (ty2 (tyL Term.row) tyB) (family_shape_result n))]
  cd := tabD [(97, entD (ent3 (tyL Term.row) (tyL Term.row) (tyF 26) tyB (family_alike_Term_term_Same n))), (99, entD (ent2 (tyC FamilyShape.cel) (tyL Term.row) (tyL RecField.row) (family_shape_recursive n)))]
  nrm := tabN []
  cut := tabF []
  n := n
  out := outR Try.prog [.cell 4 60, .tmp 5] (ty2 (tyC CtorForm.cel) tyB)
  isE := tabI []
theorem family_shape_ctor_f (n : Nat) : (family_shape_ctor_m n).P = Try.prog ∧ (family_shape_ctor_m n).cl = tabA [(49, ent1 (tyC Term.cel) (ty2 (tyL Term.row) (tyC Term.cel)) (telescope_All n)), (98, ent3 (tyC FamilyShape.cel) (tyC Term.cel) (tyI .i64) (ty2 (tyL Term.row) tyB) (family_shape_result n))] ∧ (family_shape_ctor_m n).cd = tabD [(97, entD (ent3 (tyL Term.row) (tyL Term.row) (tyF 26) tyB (family_alike_Term_term_Same n))), (99, entD (ent2 (tyC FamilyShape.cel) (tyL Term.row) (tyL RecField.row) (family_shape_recursive n)))] ∧ (family_shape_ctor_m n).nrm = tabN [] ∧ (family_shape_ctor_m n).cut = tabF [] ∧ (family_shape_ctor_m n).n = n ∧ (family_shape_ctor_m n).out = outR Try.prog [.cell 4 60, .tmp 5] (ty2 (tyC CtorForm.cel) tyB) ∧ (family_shape_ctor_m n).isE = tabI [] := ⟨rfl, rfl, rfl, rfl, rfl, rfl, rfl, rfl⟩
theorem family_shape_ctor_c (n : Nat) : (family_shape_ctor_m n).body = (Try.f57.body).getD .skip := rfl
theorem family_shape_ctor_d (n : Nat) : drawP (family_shape_ctor_m n) [0, 0, 1, 1, 1] = true ∧ drawP (family_shape_ctor_m n) [0, 1, 1, 1, 1, 1, 1, 1] = true := ⟨by kernel_rfl, by kernel_rfl⟩
theorem family_shape_ctor_o (n : Nat) : ordP (family_shape_ctor_m n) [0, 1, 1, 1, 1, 1, 1, 1] 1 8 = true ∧ ordP (family_shape_ctor_m n) [0, 1, 1, 1, 1, 1, 1, 1] 3 8 = true := ⟨by kernel_rfl, by kernel_rfl⟩
noncomputable def family_shape_ctor_e (n : Nat) : { B : FamilyShape → Ctor → Option (CtorForm × Bool) // ∀ (a0 : FamilyShape) (a1 : Ctor), run (family_shape_ctor_m n) [.at []] { slots := [(tyC FamilyShape.cel).enc a0, (tyC Ctor.cel).enc a1] ++ List.replicate (57 - [(tyC FamilyShape.cel).enc a0, (tyC Ctor.cel).enc a1].length) .any, heap := [] } = B a0 a1 } := by
  apply Subtype.mk
  intro a0 a1
  simp (config := { maxSteps := 100000000 }) only [go_sem, Nat.reduceAdd, Nat.reduceSub, Nat.reduceLeDiff, Nat.reduceEqDiff, Nat.reduceBEq, Nat.reduceMul, Nat.reduceLT, Int.reduceLE, Int.reduceLT, Int.reduceToNat, Int.reduceBEq, Int.reduceEq, family_shape_ctor_f, family_shape_ctor_c, Try.f57, Option.getD_some, mixed, family_shape_ctor_d, family_shape_ctor_o]
  exact rfl
noncomputable def family_shape_ctor : Nat → FamilyShape → Ctor → Option (CtorForm × Bool)
  | 0, _, _ => none
  | n + 1, a0, a1 => (family_shape_ctor_e n).1 a0 a1
theorem family_shape_ctor_ok : ∀ (n : Nat) (a0 : FamilyShape) (a1 : Ctor) (r : (CtorForm × Bool)), family_shape_ctor n a0 a1 = some r → FnC Try.prog 57 [(tyC FamilyShape.cel).enc a0, (tyC Ctor.cel).enc a1] (fun v => v = (ty2 (tyC CtorForm.cel) tyB).enc r)
  | 0, _, _, _, h => by cases h
  | n + 1, a0, a1, r, h => by
    exact fnC_run (M := family_shape_ctor_m n) ⟨(tabA_cons_ok (ent1_ok (telescope_All_ok n)) (tabA_cons_ok (ent3_ok (family_shape_result_ok n)) tabA_nil_ok)), (tabD_cons_ok (ent3_okD (family_alike_Term_term_Same_ok n)) (tabD_cons_ok (ent2_okD (family_shape_recursive_ok n)) tabD_nil_ok)), tabN_ok _, tabF_ok _, noY_ok, noE_ok⟩ Try.func57 rfl rfl ⟨(tyC FamilyShape.cel).nb 0 _, (tyC Ctor.cel).nb 0 _, trivial⟩ Try.ntmps57 Try.results57 (fun σ hs => outR_ok (P := Try.prog) (rs := [.cell 4 60, .tmp 5]) (t := (ty2 (tyC CtorForm.cel) tyB)) (σ := σ) (r := r) hs) (((family_shape_ctor_e n).2 a0 a1).trans h)
end Go.Abs
namespace Go.Abs
open Go.Proofs
set_option maxRecDepth 100000
set_option maxHeartbeats 4000000
set_option linter.unusedSimpArgs false
set_option linter.unusedVariables false
noncomputable def family_Analyse_n1 : Nrm := ⟨[], [(3, 9, 4)], [zA, zA, zK, zA, zA, zA, zK, zK, zA, zA, zA, zA, zA, zA, zA, zA, zA, zA, zA, zA, zA, zA, zA, zA, zA, zA, zA, zA, zA, zA, zA, zA, zA, zA, zA, zA, zA, zA, zA, zA, zA, zA, zA, zA, zA, zA, zA, zA, zA, zA, zA, zA, zA, zA, zA, zA, zA, zA, zA, zA, zA, zA, zA, zA, zA, zA, zA, zA, zA, zT (tyL Ctor.row), zK, zK, zA, zA, zA, zA, zA, zA, zA, zA, zA, zA, zA, zA, zA, zA, zA, zA, zA, zA, zA, zA], [oD, oK, oD, oC [zK, zK, zT (tyL Term.row), zT (tyL Term.row), zK, zK, zK, zT (tyL Level.row), zT (tyL Term.row), zK], oT FamilyShape.cel, oA CtorForm.row], none⟩
noncomputable def family_Analyse_m (n : Nat) : Mach (Family × Int) where
  body := (Try.f18.body).getD .skip
  P := Try.prog
  cl := tabA [(49, ent1 (tyC Term.cel) (ty2 (tyL Term.row) (tyC Term.cel)) (telescope_All n)), (57, ent2 (tyC FamilyShape.cel) (tyC Ctor.cel) (ty2 (tyC CtorForm.cel) tyB) (family_shape_ctor n))]
  cd := tabD [(56, entD (ent2 tyS (tyI .i64) (tyC Term.cel) (family_itself n)))]
  nrm := tabN [([0, 1, 0, 1, 1, 1, 1, 1, 1], family_Analyse_n1)]
  cut := tabF []
  n := n
  out := outR Try.prog [.cell 2 36, .tmp 3] (ty2 (tyC Family.cel) (tyI .i64))
  isE := tabI []
theorem family_Analyse_f (n : Nat) : (family_Analyse_m n).P = Try.prog ∧ (family_Analyse_m n).cl = tabA [(49, ent1 (tyC Term.cel) (ty2 (tyL Term.row) (tyC Term.cel)) (telescope_All n)), (57, ent2 (tyC FamilyShape.cel) (tyC Ctor.cel) (ty2 (tyC CtorForm.cel) tyB) (family_shape_ctor n))] ∧ (family_Analyse_m n).cd = tabD [(56, entD (ent2 tyS (tyI .i64) (tyC Term.cel) (family_itself n)))] ∧ (family_Analyse_m n).nrm = tabN [([0, 1, 0, 1, 1, 1, 1, 1, 1], family_Analyse_n1)] ∧ (family_Analyse_m n).cut = tabF [] ∧ (family_Analyse_m n).n = n ∧ (family_Analyse_m n).out = outR Try.prog [.cell 2 36, .tmp 3] (ty2 (tyC Family.cel) (tyI .i64)) ∧ (family_Analyse_m n).isE = tabI [] := ⟨rfl, rfl, rfl, rfl, rfl, rfl, rfl, rfl⟩
theorem family_Analyse_c (n : Nat) : (family_Analyse_m n).body = (Try.f18.body).getD .skip := rfl
theorem family_Analyse_d (n : Nat) : drawP (family_Analyse_m n) [0, 1, 1, 1, 1] = true ∧ drawP (family_Analyse_m n) [0, 1, 1, 1, 1, 1] = true := ⟨by kernel_rfl, by kernel_rfl⟩
theorem family_Analyse_o (n : Nat) : ordP (family_Analyse_m n) [0, 1, 1, 1, 1] 1 15 = true ∧ ordP (family_Analyse_m n) [0, 1, 1, 1, 1] 3 15 = true ∧ ordP (family_Analyse_m n) [0, 1, 1, 1, 1] 6 15 = true ∧ ordP (family_Analyse_m n) [0, 1, 1, 1, 1] 7 15 = true ∧ ordP (family_Analyse_m n) [0, 1, 1, 1, 1] 10 15 = true ∧ ordP (family_Analyse_m n) [0, 1, 1, 1, 1] 11 15 = true ∧ ordP (family_Analyse_m n) [0, 1, 1, 1, 1] 12 15 = true ∧ ordP (family_Analyse_m n) [0, 1, 1, 1, 1] 14 15 = true ∧ ordP (family_Analyse_m n) [0, 1, 1, 1, 1, 1] 1 12 = true ∧ ordP (family_Analyse_m n) [0, 1, 1, 1, 1, 1] 3 12 = true ∧ ordP (family_Analyse_m n) [0, 1, 1, 1, 1, 1] 6 12 = true ∧ ordP (family_Analyse_m n) [0, 1, 1, 1, 1, 1] 8 12 = true ∧ ordP (family_Analyse_m n) [0, 1, 1, 1, 1, 1] 9 12 = true ∧ ordP (family_Analyse_m n) [0, 1, 1, 1, 1, 1] 11 12 = true := ⟨by kernel_rfl, by kernel_rfl, by kernel_rfl, by kernel_rfl, by kernel_rfl, by kernel_rfl, by kernel_rfl, by kernel_rfl, by kernel_rfl, by kernel_rfl, by kernel_rfl, by kernel_rfl, by kernel_rfl, by kernel_rfl⟩
noncomputable def family_Analyse_b1 (n : Nat) : { B : ((List Ctor) → Int → Int → Str → Int → (List Term) → (List Term) → Int → Int → Str → (List Level) → (List Term) → FamilyShape → (List CtorForm) → Option (Family × Int)) → (List Ctor) → Int → Int → Str → Int → (List Term) → (List Term) → Int → Int → Str → (List Level) → (List Term) → FamilyShape → (List CtorForm) → Option (Family × Int) // ∀ m X0, (∀ (v0 : List Ctor) (v1 : Int) (v2 : Int) (v3 : Str) (v4 : Int) (v5 : List Term) (v6 : List Term) (v7 : Int) (v8 : Int) (v9 : Str) (v10 : List Level) (v11 : List Term) (o4 : FamilyShape) (r5 : List CtorForm) (c5 : Nat), c5 = r5.length → run (family_Analyse_m n) [.lq m [0, 1, 0, 1, 1, 1, 1, 1, 1], .blk 0, .cut [1, 1, 1, 1, 1, 1, 1], .at [1, 1, 1, 1, 1, 1, 1]] ⟨[.any, .any, .ptr 1 0, .any, .any, .any, .ptr 3 0, .ptr 4 0, .any, .any, .any, .any, .any, .any, .any, .any, .any, .any, .any, .any, .any, .any, .any, .any, .any, .any, .any, .any, .any, .any, .any, .any, .any, .any, .any, .any, .any, .any, .any, .any, .any, .any, .any, .any, .any, .any, .any, .any, .any, .any, .any, .any, .any, .any, .any, .any, .any, .any, .any, .any, .any, .any, .any, .any, .any, .any, .any, .any, .any, .lst false 6 (mp Ctor.cells v0), .int .i64 v1, .int .i64 v2, .any, .any, .any, .any, .any, .any, .any, .any, .any, .any, .any, .any, .any, .any, .any, .any, .any, .any, .any, .any], [.dead, .cells [.str (sb []), .int .i64 0, .lst true 0 [], .lst true 0 [], .int .i64 0, .int .i64 0, .str (sb []), .lst true 0 [], .lst true 0 [], .lst true 0 []], .dead, .cells [.str (sb v3), .int .i64 v4, .lst false 5 (mp Term.cells v5), .lst false 5 (mp Term.cells v6), .int .i64 v7, .int .i64 v8, .str (sb v9), .lst false 2 (mp Level.cells v10), .lst false 5 (mp Term.cells v11), .acc 5 c5], .cells (FamilyShape.cells o4), .acc true 4 (mp CtorForm.cells r5)], 0⟩ = X0 v0 v1 v2 v3 v4 v5 v6 v7 v8 v9 v10 v11 o4 r5) → ∀ (v0 : List Ctor) (v1 : Int) (v2 : Int) (v3 : Str) (v4 : Int) (v5 : List Term) (v6 : List Term) (v7 : Int) (v8 : Int) (v9 : Str) (v10 : List Level) (v11 : List Term) (o4 : FamilyShape) (r5 : List CtorForm), run (family_Analyse_m n) [.at [0, 0, 1, 0, 1, 1, 1, 1, 1, 1], .lp m [0, 1, 0, 1, 1, 1, 1, 1, 1], .blk 0, .cut [1, 1, 1, 1, 1, 1, 1], .at [1, 1, 1, 1, 1, 1, 1]] ⟨[.any, .any, .ptr 1 0, .any, .any, .any, .ptr 3 0, .ptr 4 0, .any, .any, .any, .any, .any, .any, .any, .any, .any, .any, .any, .any, .any, .any, .any, .any, .any, .any, .any, .any, .any, .any, .any, .any, .any, .any, .any, .any, .any, .any, .any, .any, .any, .any, .any, .any, .any, .any, .any, .any, .any, .any, .any, .any, .any, .any, .any, .any, .any, .any, .any, .any, .any, .any, .any, .any, .any, .any, .any, .any, .any, .lst false 6 (mp Ctor.cells v0), .int .i64 v1, .int .i64 v2, .any, .any, .any, .any, .any, .any, .any, .any, .any, .any, .any, .any, .any, .any, .any, .any, .any, .any, .any, .any], [.dead, .cells [.str (sb []), .int .i64 0, .lst true 0 [], .lst true 0 [], .int .i64 0, .int .i64 0, .str (sb []), .lst true 0 [], .lst true 0 [], .lst true 0 []], .dead, .cells [.str (sb v3), .int .i64 v4, .lst false 5 (mp Term.cells v5), .lst false 5 (mp Term.cells v6), .int .i64 v7, .int .i64 v8, .str (sb v9), .lst false 2 (mp Level.cells v10), .lst false 5 (mp Term.cells v11), .acc 5 r5.length], .cells (FamilyShape.cells o4), .acc true 4 (mp CtorForm.cells r5)], 0⟩ = B X0 v0 v1 v2 v3 v4 v5 v6 v7 v8 v9 v10 v11 o4 r5 } := by
  apply Subtype.mk
  intro m X0 ih v0 v1 v2 v3 v4 v5 v6 v7 v8 v9 v10 v11 o4 r5
  simp (config := { maxSteps := 100000000 }) only [go_sem, Nat.reduceAdd, Nat.reduceSub, Nat.reduceLeDiff, Nat.reduceEqDiff, Nat.reduceBEq, Nat.reduceMul, Nat.reduceLT, Int.reduceLE, Int.reduceLT, Int.reduceToNat, Int.reduceBEq, Int.reduceEq, family_Analyse_f, family_Analyse_c, Try.f18, Option.getD_some, mixed, family_Analyse_d, family_Analyse_o, family_Analyse_n1, ih]
  exact rfl
noncomputable def family_Analyse_l1 (n : Nat) : Nat → (List Ctor) → Int → Int → Str → Int → (List Term) → (List Term) → Int → Int → Str → (List Level) → (List Term) → FamilyShape → (List CtorForm) → Option (Family × Int)
  | 0, _, _, _, _, _, _, _, _, _, _, _, _, _, _ => none
  | m + 1, v0, v1, v2, v3, v4, v5, v6, v7, v8, v9, v10, v11, o4, r5 => (family_Analyse_b1 n).1 (family_Analyse_l1 n m) v0 v1 v2 v3 v4 v5 v6 v7 v8 v9 v10 v11 o4 r5
theorem family_Analyse_l1_eq (n : Nat) : ∀ (m : Nat), (∀ (v0 : List Ctor) (v1 : Int) (v2 : Int) (v3 : Str) (v4 : Int) (v5 : List Term) (v6 : List Term) (v7 : Int) (v8 : Int) (v9 : Str) (v10 : List Level) (v11 : List Term) (o4 : FamilyShape) (r5 : List CtorForm) (c5 : Nat), c5 = r5.length → run (family_Analyse_m n) [.lq m [0, 1, 0, 1, 1, 1, 1, 1, 1], .blk 0, .cut [1, 1, 1, 1, 1, 1, 1], .at [1, 1, 1, 1, 1, 1, 1]] ⟨[.any, .any, .ptr 1 0, .any, .any, .any, .ptr 3 0, .ptr 4 0, .any, .any, .any, .any, .any, .any, .any, .any, .any, .any, .any, .any, .any, .any, .any, .any, .any, .any, .any, .any, .any, .any, .any, .any, .any, .any, .any, .any, .any, .any, .any, .any, .any, .any, .any, .any, .any, .any, .any, .any, .any, .any, .any, .any, .any, .any, .any, .any, .any, .any, .any, .any, .any, .any, .any, .any, .any, .any, .any, .any, .any, .lst false 6 (mp Ctor.cells v0), .int .i64 v1, .int .i64 v2, .any, .any, .any, .any, .any, .any, .any, .any, .any, .any, .any, .any, .any, .any, .any, .any, .any, .any, .any, .any], [.dead, .cells [.str (sb []), .int .i64 0, .lst true 0 [], .lst true 0 [], .int .i64 0, .int .i64 0, .str (sb []), .lst true 0 [], .lst true 0 [], .lst true 0 []], .dead, .cells [.str (sb v3), .int .i64 v4, .lst false 5 (mp Term.cells v5), .lst false 5 (mp Term.cells v6), .int .i64 v7, .int .i64 v8, .str (sb v9), .lst false 2 (mp Level.cells v10), .lst false 5 (mp Term.cells v11), .acc 5 c5], .cells (FamilyShape.cells o4), .acc true 4 (mp CtorForm.cells r5)], 0⟩ = family_Analyse_l1 n m v0 v1 v2 v3 v4 v5 v6 v7 v8 v9 v10 v11 o4 r5)
  | 0 => by intros; exact run_lq_zero
  | m + 1 => by
    have ih := family_Analyse_l1_eq n m
    intro v0 v1 v2 v3 v4 v5 v6 v7 v8 v9 v10 v11 o4 r5 c5 ec5
    subst ec5
    rw [run_lq_succ]
    exact (family_Analyse_b1 n).2  m _  ih v0 v1 v2 v3 v4 v5 v6 v7 v8 v9 v10 v11 o4 r5
noncomputable def family_Analyse_e (n : Nat) : { B : Decl → Option (Family × Int) // ∀ (a0 : Decl), run (family_Analyse_m n) [.at []] { slots := [(tyC Decl.cel).enc a0] ++ List.replicate (92 - [(tyC Decl.cel).enc a0].length) .any, heap := [] } = B a0 } := by
  apply Subtype.mk
  intro a0
  simp (config := { maxSteps := 100000000 }) only [go_sem, Nat.reduceAdd, Nat.reduceSub, Nat.reduceLeDiff, Nat.reduceEqDiff, Nat.reduceBEq, Nat.reduceMul, Nat.reduceLT, Int.reduceLE, Int.reduceLT, Int.reduceToNat, Int.reduceBEq, Int.reduceEq, family_Analyse_f, family_Analyse_c, Try.f18, Option.getD_some, mixed, family_Analyse_d, family_Analyse_o, family_Analyse_n1, family_Analyse_l1_eq n]
  exact rfl
noncomputable def family_Analyse : Nat → Decl → Option (Family × Int)
  | 0, _ => none
  | n + 1, a0 => (family_Analyse_e n).1 a0
theorem family_Analyse_ok : ∀ (n : Nat) (a0 : Decl) (r : (Family × Int)), family_Analyse n a0 = some r → FnC Try.prog 18 [(tyC Decl.cel).enc a0] (fun v => v = (ty2 (tyC Family.cel) (tyI .i64)).enc r)
  | 0, _, _, h => by cases h
  | n + 1, a0, r, h => by
    exact fnC_run (M := family_Analyse_m n) ⟨(tabA_cons_ok (ent1_ok (telescope_All_ok n)) (tabA_cons_ok (ent2_ok (family_shape_ctor_ok n)) tabA_nil_ok)), (tabD_cons_ok (ent2_okD (family_itself_ok n)) tabD_nil_ok), tabN_ok _, tabF_ok _, noY_ok, noE_ok⟩ Try.func18 rfl rfl ⟨(tyC Decl.cel).nb 0 _, trivial⟩ Try.ntmps18 Try.results18 (fun σ hs => outR_ok (P := Try.prog) (rs := [.cell 2 36, .tmp 3]) (t := (ty2 (tyC Family.cel) (tyI .i64))) (σ := σ) (r := r) hs) (((family_Analyse_e n).2 a0).trans h)
end Go.Abs
namespace Go.Abs
open Go.Proofs
set_option maxRecDepth 100000
set_option maxHeartbeats 4000000
set_option linter.unusedSimpArgs false
set_option linter.unusedVariables false
noncomputable def law12_awake_m (n : Nat) : Mach Bool where
  body := (Try.f17.body).getD .skip
  P := Try.prog
  cl := tabA [(18, ent1 (tyC Decl.cel) (ty2 (tyC Family.cel) (tyI .i64)) (family_Analyse n)), (26, ent2 (tyC Term.cel) (tyC Term.cel) tyB (term_Same n)), (55, ent1 (tyI .i64) (tyC Decl.cel) (law12_vec n))]
  cd := tabD []
  nrm := tabN []
  cut := tabF []
  n := n
  out := outR Try.prog [.tmp 0] tyB
theorem law12_awake_f (n : Nat) : (law12_awake_m n).P = Try.prog ∧ (law12_awake_m n).cl = tabA [(18, ent1 (tyC Decl.cel) (ty2 (tyC Family.cel) (tyI .i64)) (family_Analyse n)), (26, ent2 (tyC Term.cel) (tyC Term.cel) tyB (term_Same n)), (55, ent1 (tyI .i64) (tyC Decl.cel) (law12_vec n))] ∧ (law12_awake_m n).cd = tabD [] ∧ (law12_awake_m n).nrm = tabN [] ∧ (law12_awake_m n).cut = tabF [] ∧ (law12_awake_m n).n = n ∧ (law12_awake_m n).out = outR Try.prog [.tmp 0] tyB := ⟨rfl, rfl, rfl, rfl, rfl, rfl, rfl⟩
theorem law12_awake_c (n : Nat) : (law12_awake_m n).body = (Try.f17.body).getD .skip := rfl
noncomputable def law12_awake_e (n : Nat) : { B : Option Bool // run (law12_awake_m n) [.at []] { slots := ([] : List AV) ++ List.replicate (109 - ([] : List AV).length) .any, heap := [] } = B } := by
  apply Subtype.mk
  simp (config := { maxSteps := 100000000 }) only [go_sem, Nat.reduceAdd, Nat.reduceSub, Nat.reduceLeDiff, Nat.reduceEqDiff, Nat.reduceBEq, Nat.reduceMul, Nat.reduceLT, Int.reduceLE, Int.reduceLT, Int.reduceToNat, Int.reduceBEq, Int.reduceEq, law12_awake_f, law12_awake_c, Try.f17, Option.getD_some, mixed]
  exact rfl
noncomputable def law12_awake : Nat → Option Bool
  | 0 => none
  | n + 1 => (law12_awake_e n).1
theorem law12_awake_ok : ∀ (n : Nat) (r : Bool), law12_awake n = some r → FnC Try.prog 17 [] (fun v => v = tyB.enc r)
  | 0, _, h => by cases h
  | n + 1, r, h => by
    exact fnC_run (M := law12_awake_m n) ⟨(tabA_cons_ok (ent1_ok (family_Analyse_ok n)) (tabA_cons_ok (ent2_ok (term_Same_ok n)) (tabA_cons_ok (ent1_ok (law12_vec_ok n)) tabA_nil_ok))), tabD_nil_ok, tabN_ok _, tabF_ok _, noY_ok, noE_ok⟩ Try.func17 rfl rfl trivial Try.ntmps17 Try.results17 (fun σ hs => outR_ok (P := Try.prog) (rs := [.tmp 0]) (t := tyB) (σ := σ) (r := r) hs) (((law12_awake_e n).2).trans h)
end Go.Abs
namespace Go.Abs
open Go.Proofs
set_option maxRecDepth 100000
set_option maxHeartbeats 4000000
set_option linter.unusedSimpArgs false
set_option linter.unusedVariables false
noncomputable def law12_FamilyFields_n1 : Nrm := ⟨[], [], [zA, zK, zA, zK, zA, zK, zK, zK, zK, zK, zA, zA, zA, zA, zA, zA, zA, zA, zA, zA, zA, zA, zA, zA, zA, zA, zA, zA, zA, zA, zA, zA, zA, zA, zA, zA, zA, zA, zA, zA, zA, zA, zA, zA, zA, zA, zA, zA, zA, zA, zA, zA, zA, zA, zA, zA, zA, zA, zA, zA, zA, zA, zA, zA, zA, zA, zA, zA, zA, zA, zA, zA, zA, zA, zA, zA, zA, zA, zA, zA, zA, zA, zA, zA, zA, zA, zA, zA, zA, zA, zA, zA, zA, zA, zA, zA, zA, zA, zA, zA, zA, zA, zA, zA, zA, zA, zA, zA, zA, zA, zA, zA, zA, zA, zA, zA, zA, zA, zA, zA, zA, zA, zA, zA], [oT Decl.cel, oT Family.cel, oC [zK, zK, zK, zT (tyL Level.row), zK], oT CtorForm.cel], none⟩
noncomputable def law12_FamilyFields_n2 : Nrm := ⟨[], [], [zA, zK, zA, zK, zA, zK, zK, zA, zA, zA, zA, zA, zA, zA, zA, zA, zA, zA, zA, zA, zA, zA, zA, zA, zA, zA, zA, zA, zA, zA, zA, zA, zA, zA, zA, zA, zA, zA, zA, zA, zA, zA, zA, zA, zA, zA, zA, zA, zA, zA, zA, zA, zA, zA, zA, zA, zA, zA, zA, zA, zA, zA, zA, zA, zA, zA, zA, zA, zA, zA, zA, zA, zA, zA, zA, zA, zA, zA, zA, zA, zA, zA, zA, zA, zA, zA, zA, zA, zA, zA, zA, zA, zA, zA, zA, zA, zA, zA, zA, zA, zA, zA, zA, zA, zA, zA, zA, zA, zA, zA, zA, zA, zA, zA, zA, zA, zA, zA, zA, zA, zA, zA, zA, zA], [oT Decl.cel, oT Family.cel, oC [zK, zK, zK, zT (tyL Level.row), zK]], none⟩
noncomputable def law12_FamilyFields_m (n : Nat) : Mach Bool where
  body := (Try.f13.body).getD .skip
  P := Try.prog
  cl := tabA [(16, ent1 (tyC Decl.cel) tyB (law12_Few n)), (17, ent0  tyB (law12_awake n)), (18, ent1 (tyC Decl.cel) (ty2 (tyC Family.cel) (tyI .i64)) (family_Analyse n))]
  cd := tabD [(26, entD (ent2 (tyC Term.cel) (tyC Term.cel) tyB (term_Same n))), (27, entD (ent2 (tyL Term.row) (tyC Term.cel) (tyC Term.cel) (telescope_Pis n))), (43, entD (ent2 (tyL rowS) tyS tyB (ref07_Has n))), (45, entD (ent1 (tyI .i64) (tyL Level.row) (ref07_Params n))), (46, entD (ent2 (tyC Term.cel) (tyL Term.row) (tyC Term.cel) (telescope_Apply n))), (47, entD (ent2 (tyI .i64) (tyI .i64) (tyL Term.row) (telescope_Vars n))), (48, entD (ent1 (tyC Term.cel) (tyL rowS) (term_Consts n)))]
  nrm := tabN [([0, 1, 0, 1, 0, 0, 1, 0, 0, 1, 0, 1, 1, 1, 1, 1], law12_FamilyFields_n1), ([0, 1, 0, 1, 1, 1, 1, 1], law12_FamilyFields_n2)]
  cut := tabF []
  n := n
  out := outR Try.prog [.tmp 2] tyB
  isE := tabI []
theorem law12_FamilyFields_f (n : Nat) : (law12_FamilyFields_m n).P = Try.prog ∧ (law12_FamilyFields_m n).cl = tabA [(16, ent1 (tyC Decl.cel) tyB (law12_Few n)), (17, ent0  tyB (law12_awake n)), (18, ent1 (tyC Decl.cel) (ty2 (tyC Family.cel) (tyI .i64)) (family_Analyse n))] ∧ (law12_FamilyFields_m n).cd = tabD [(26, entD (ent2 (tyC Term.cel) (tyC Term.cel) tyB (term_Same n))), (27, entD (ent2 (tyL Term.row) (tyC Term.cel) (tyC Term.cel) (telescope_Pis n))), (43, entD (ent2 (tyL rowS) tyS tyB (ref07_Has n))), (45, entD (ent1 (tyI .i64) (tyL Level.row) (ref07_Params n))), (46, entD (ent2 (tyC Term.cel) (tyL Term.row) (tyC Term.cel) (telescope_Apply n))), (47, entD (ent2 (tyI .i64) (tyI .i64) (tyL Term.row) (telescope_Vars n))), (48, entD (ent1 (tyC Term.cel) (tyL rowS) (term_Consts n)))] ∧ (law12_FamilyFields_m n).nrm = tabN [([0, 1, 0, 1, 0, 0, 1, 0, 0, 1, 0, 1, 1, 1, 1, 1], law12_FamilyFields_n1), ([0, 1, 0, 1, 1, 1, 1, 1], law12_FamilyFields_n2)] ∧ (law12_FamilyFields_m n).cut = tabF [] ∧ (law12_FamilyFields_m n).n = n ∧ (law12_FamilyFields_m n).out = outR Try.prog [.tmp 2] tyB ∧ (law12_FamilyFields_m n).isE = tabI [] := ⟨rfl, rfl, rfl, rfl, rfl, rfl, rfl, rfl⟩
theorem law12_FamilyFields_c (n : Nat) : (law12_FamilyFields_m n).body = (Try.f13.body).getD .skip := rfl
theorem law12_FamilyFields_d (n : Nat) : drawP (law12_FamilyFields_m n) [0, 1, 1, 1, 0, 0, 1, 0, 0, 1, 0, 1, 0, 0, 1, 0, 0, 1, 0, 1, 1, 1, 1, 1] = true ∧ drawP (law12_FamilyFields_m n) [0, 1, 1, 1, 1] = true ∧ drawP (law12_FamilyFields_m n) [0, 1, 1, 1, 1, 0, 0, 1, 0, 0, 1, 0, 1, 0, 0, 1, 0, 0, 1, 0, 1, 1, 1, 1, 1] = true := ⟨by kernel_rfl, by kernel_rfl, by kernel_rfl⟩
theorem law12_FamilyFields_o (n : Nat) : ordP (law12_FamilyFields_m n) [0, 1, 1, 1, 0, 0, 1, 0, 0, 1, 0, 1, 0, 0, 1, 0, 0, 1, 0, 1, 1, 1, 1, 1] 0 15 = true ∧ ordP (law12_FamilyFields_m n) [0, 1, 1, 1, 0, 0, 1, 0, 0, 1, 0, 1, 0, 0, 1, 0, 0, 1, 0, 1, 1, 1, 1, 1] 2 15 = true ∧ ordP (law12_FamilyFields_m n) [0, 1, 1, 1, 0, 0, 1, 0, 0, 1, 0, 1, 0, 0, 1, 0, 0, 1, 0, 1, 1, 1, 1, 1] 4 15 = true ∧ ordP (law12_FamilyFields_m n) [0, 1, 1, 1, 0, 0, 1, 0, 0, 1, 0, 1, 0, 0, 1, 0, 0, 1, 0, 1, 1, 1, 1, 1] 6 15 = true ∧ ordP (law12_FamilyFields_m n) [0, 1, 1, 1, 0, 0, 1, 0, 0, 1, 0, 1, 0, 0, 1, 0, 0, 1, 0, 1, 1, 1, 1, 1] 7 15 = true ∧ ordP (law12_FamilyFields_m n) [0, 1, 1, 1, 0, 0, 1, 0, 0, 1, 0, 1, 0, 0, 1, 0, 0, 1, 0, 1, 1, 1, 1, 1] 12 15 = true ∧ ordP (law12_FamilyFields_m n) [0, 1, 1, 1, 0, 0, 1, 0, 0, 1, 0, 1, 0, 0, 1, 0, 0, 1, 0, 1, 1, 1, 1, 1] 14 15 = true ∧ ordP (law12_FamilyFields_m n) [0, 1, 1, 1, 1] 1 7 = true ∧ ordP (law12_FamilyFields_m n) [0, 1, 1, 1, 1] 3 7 = true ∧ ordP (law12_FamilyFields_m n) [0, 1, 1, 1, 1] 6 7 = true := ⟨by kernel_rfl, by kernel_rfl, by kernel_rfl, by kernel_rfl, by kernel_rfl, by kernel_rfl, by kernel_rfl, by kernel_rfl, by kernel_rfl, by kernel_rfl⟩
noncomputable def law12_FamilyFields_b1 (n : Nat) : { B : (Int → Decl → Family → Int → Str → (List Level) → Option Bool) → (Int → Int → Int → Decl → Family → Int → Str → (List Level) → CtorForm → Option Bool) → Int → Int → Int → Decl → Family → Int → Str → (List Level) → CtorForm → Option Bool // ∀ m2 X2 m X0, (∀ (v0 : Int) (o0 : Decl) (o1 : Family) (v3 : Int) (v4 : Str) (v5 : List Level), run (law12_FamilyFields_m n) [.lq m2 [0, 1, 0, 1, 1, 1, 1, 1], .blk 0, .cut [1, 1, 1, 1, 1, 1], .at [1, 1, 1, 1, 1, 1]] ⟨[.any, .ptr 0 0, .any, .ptr 1 0, .any, .ptr 2 0, .int .i64 v0, .any, .any, .any, .any, .any, .any, .any, .any, .any, .any, .any, .any, .any, .any, .any, .any, .any, .any, .any, .any, .any, .any, .any, .any, .any, .any, .any, .any, .any, .any, .any, .any, .any, .any, .any, .any, .any, .any, .any, .any, .any, .any, .any, .any, .any, .any, .any, .any, .any, .any, .any, .any, .any, .any, .any, .any, .any, .any, .any, .any, .any, .any, .any, .any, .any, .any, .any, .any, .any, .any, .any, .any, .any, .any, .any, .any, .any, .any, .any, .any, .any, .any, .any, .any, .any, .any, .any, .any, .any, .any, .any, .any, .any, .any, .any, .any, .any, .any, .any, .any, .any, .any, .any, .any, .any, .any, .any, .any, .any, .any, .any, .any, .any, .any, .any, .any, .any], [.cells (Decl.cells o0), .cells (Family.cells o1), .cells [.int .i64 v3, .int .i64 0, .str (sb v4), .lst false 2 (mp Level.cells v5), .lst true 0 []]], 0⟩ = X2 v0 o0 o1 v3 v4 v5) → (∀ (v0 : Int) (v1 : Int) (v2 : Int) (o0 : Decl) (o1 : Family) (v5 : Int) (v6 : Str) (v7 : List Level) (o3 : CtorForm), run (law12_FamilyFields_m n) [.lq m [0, 1, 0, 1, 0, 0, 1, 0, 0, 1, 0, 1, 1, 1, 1, 1], .blk 2, .cut [1, 1, 0, 0, 1, 0, 0, 1, 0, 1, 1, 1, 1, 1], .at [1, 1, 0, 0, 1, 0, 0, 1, 0, 1, 1, 1, 1, 1], .blk 1, .cut [1, 1, 0, 0, 1, 0, 1, 1, 1, 1, 1], .at [1, 1, 0, 0, 1, 0, 1, 1, 1, 1, 1], .lp m2 [0, 1, 0, 1, 1, 1, 1, 1], .blk 0, .cut [1, 1, 1, 1, 1, 1], .at [1, 1, 1, 1, 1, 1]] ⟨[.any, .ptr 0 0, .any, .ptr 1 0, .any, .ptr 2 0, .int .i64 v0, .ptr 3 0, .int .i64 v1, .int .i64 v2, .any, .any, .any, .any, .any, .any, .any, .any, .any, .any, .any, .any, .any, .any, .any, .any, .any, .any, .any, .any, .any, .any, .any, .any, .any, .any, .any, .any, .any, .any, .any, .any, .any, .any, .any, .any, .any, .any, .any, .any, .any, .any, .any, .any, .any, .any, .any, .any, .any, .any, .any, .any, .any, .any, .any, .any, .any, .any, .any, .any, .any, .any, .any, .any, .any, .any, .any, .any, .any, .any, .any, .any, .any, .any, .any, .any, .any, .any, .any, .any, .any, .any, .any, .any, .any, .any, .any, .any, .any, .any, .any, .any, .any, .any, .any, .any, .any, .any, .any, .any, .any, .any, .any, .any, .any, .any, .any, .any, .any, .any, .any, .any, .any, .any], [.cells (Decl.cells o0), .cells (Family.cells o1), .cells [.int .i64 v5, .int .i64 0, .str (sb v6), .lst false 2 (mp Level.cells v7), .lst true 0 []], .cells (CtorForm.cells o3)], 0⟩ = X0 v0 v1 v2 o0 o1 v5 v6 v7 o3) → ∀ (v0 : Int) (v1 : Int) (v2 : Int) (o0 : Decl) (o1 : Family) (v5 : Int) (v6 : Str) (v7 : List Level) (o3 : CtorForm), run (law12_FamilyFields_m n) [.at [0, 0, 1, 0, 1, 0, 0, 1, 0, 0, 1, 0, 1, 1, 1, 1, 1], .lp m [0, 1, 0, 1, 0, 0, 1, 0, 0, 1, 0, 1, 1, 1, 1, 1], .blk 2, .cut [1, 1, 0, 0, 1, 0, 0, 1, 0, 1, 1, 1, 1, 1], .at [1, 1, 0, 0, 1, 0, 0, 1, 0, 1, 1, 1, 1, 1], .blk 1, .cut [1, 1, 0, 0, 1, 0, 1, 1, 1, 1, 1], .at [1, 1, 0, 0, 1, 0, 1, 1, 1, 1, 1], .lp m2 [0, 1, 0, 1, 1, 1, 1, 1], .blk 0, .cut [1, 1, 1, 1, 1, 1], .at [1, 1, 1, 1, 1, 1]] ⟨[.any, .ptr 0 0, .any, .ptr 1 0, .any, .ptr 2 0, .int .i64 v0, .ptr 3 0, .int .i64 v1, .int .i64 v2, .any, .any, .any, .any, .any, .any, .any, .any, .any, .any, .any, .any, .any, .any, .any, .any, .any, .any, .any, .any, .any, .any, .any, .any, .any, .any, .any, .any, .any, .any, .any, .any, .any, .any, .any, .any, .any, .any, .any, .any, .any, .any, .any, .any, .any, .any, .any, .any, .any, .any, .any, .any, .any, .any, .any, .any, .any, .any, .any, .any, .any, .any, .any, .any, .any, .any, .any, .any, .any, .any, .any, .any, .any, .any, .any, .any, .any, .any, .any, .any, .any, .any, .any, .any, .any, .any, .any, .any, .any, .any, .any, .any, .any, .any, .any, .any, .any, .any, .any, .any, .any, .any, .any, .any, .any, .any, .any, .any, .any, .any, .any, .any, .any, .any], [.cells (Decl.cells o0), .cells (Family.cells o1), .cells [.int .i64 v5, .int .i64 0, .str (sb v6), .lst false 2 (mp Level.cells v7), .lst true 0 []], .cells (CtorForm.cells o3)], 0⟩ = B X2 X0 v0 v1 v2 o0 o1 v5 v6 v7 o3 } := by
  apply Subtype.mk
  intro m2 X2 m X0 h2 ih v0 v1 v2 o0 o1 v5 v6 v7 o3
  simp (config := { maxSteps := 100000000 }) only [go_sem, Nat.reduceAdd, Nat.reduceSub, Nat.reduceLeDiff, Nat.reduceEqDiff, Nat.reduceBEq, Nat.reduceMul, Nat.reduceLT, Int.reduceLE, Int.reduceLT, Int.reduceToNat, Int.reduceBEq, Int.reduceEq, law12_FamilyFields_f, law12_FamilyFields_c, Try.f13, Option.getD_some, mixed, law12_FamilyFields_d, law12_FamilyFields_o, law12_FamilyFields_n1, law12_FamilyFields_n2, h2, ih]
  exact rfl
noncomputable def law12_FamilyFields_l1 (n : Nat) (X2 : Int → Decl → Family → Int → Str → (List Level) → Option Bool) : Nat → Int → Int → Int → Decl → Family → Int → Str → (List Level) → CtorForm → Option Bool
  | 0, _, _, _, _, _, _, _, _, _ => none
  | m + 1, v0, v1, v2, o0, o1, v5, v6, v7, o3 => (law12_FamilyFields_b1 n).1 X2 (law12_FamilyFields_l1 n X2 m) v0 v1 v2 o0 o1 v5 v6 v7 o3
theorem law12_FamilyFields_l1_eq (n : Nat) (m2 : Nat) (X2 : Int → Decl → Family → Int → Str → (List Level) → Option Bool) (h2 : (∀ (v0 : Int) (o0 : Decl) (o1 : Family) (v3 : Int) (v4 : Str) (v5 : List Level), run (law12_FamilyFields_m n) [.lq m2 [0, 1, 0, 1, 1, 1, 1, 1], .blk 0, .cut [1, 1, 1, 1, 1, 1], .at [1, 1, 1, 1, 1, 1]] ⟨[.any, .ptr 0 0, .any, .ptr 1 0, .any, .ptr 2 0, .int .i64 v0, .any, .any, .any, .any, .any, .any, .any, .any, .any, .any, .any, .any, .any, .any, .any, .any, .any, .any, .any, .any, .any, .any, .any, .any, .any, .any, .any, .any, .any, .any, .any, .any, .any, .any, .any, .any, .any, .any, .any, .any, .any, .any, .any, .any, .any, .any, .any, .any, .any, .any, .any, .any, .any, .any, .any, .any, .any, .any, .any, .any, .any, .any, .any, .any, .any, .any, .any, .any, .any, .any, .any, .any, .any, .any, .any, .any, .any, .any, .any, .any, .any, .any, .any, .any, .any, .any, .any, .any, .any, .any, .any, .any, .any, .any, .any, .any, .any, .any, .any, .any, .any, .any, .any, .any, .any, .any, .any, .any, .any, .any, .any, .any, .any, .any, .any, .any, .any], [.cells (Decl.cells o0), .cells (Family.cells o1), .cells [.int .i64 v3, .int .i64 0, .str (sb v4), .lst false 2 (mp Level.cells v5), .lst true 0 []]], 0⟩ = X2 v0 o0 o1 v3 v4 v5)) : ∀ (m : Nat), (∀ (v0 : Int) (v1 : Int) (v2 : Int) (o0 : Decl) (o1 : Family) (v5 : Int) (v6 : Str) (v7 : List Level) (o3 : CtorForm), run (law12_FamilyFields_m n) [.lq m [0, 1, 0, 1, 0, 0, 1, 0, 0, 1, 0, 1, 1, 1, 1, 1], .blk 2, .cut [1, 1, 0, 0, 1, 0, 0, 1, 0, 1, 1, 1, 1, 1], .at [1, 1, 0, 0, 1, 0, 0, 1, 0, 1, 1, 1, 1, 1], .blk 1, .cut [1, 1, 0, 0, 1, 0, 1, 1, 1, 1, 1], .at [1, 1, 0, 0, 1, 0, 1, 1, 1, 1, 1], .lp m2 [0, 1, 0, 1, 1, 1, 1, 1], .blk 0, .cut [1, 1, 1, 1, 1, 1], .at [1, 1, 1, 1, 1, 1]] ⟨[.any, .ptr 0 0, .any, .ptr 1 0, .any, .ptr 2 0, .int .i64 v0, .ptr 3 0, .int .i64 v1, .int .i64 v2, .any, .any, .any, .any, .any, .any, .any, .any, .any, .any, .any, .any, .any, .any, .any, .any, .any, .any, .any, .any, .any, .any, .any, .any, .any, .any, .any, .any, .any, .any, .any, .any, .any, .any, .any, .any, .any, .any, .any, .any, .any, .any, .any, .any, .any, .any, .any, .any, .any, .any, .any, .any, .any, .any, .any, .any, .any, .any, .any, .any, .any, .any, .any, .any, .any, .any, .any, .any, .any, .any, .any, .any, .any, .any, .any, .any, .any, .any, .any, .any, .any, .any, .any, .any, .any, .any, .any, .any, .any, .any, .any, .any, .any, .any, .any, .any, .any, .any, .any, .any, .any, .any, .any, .any, .any, .any, .any, .any, .any, .any, .any, .any, .any, .any], [.cells (Decl.cells o0), .cells (Family.cells o1), .cells [.int .i64 v5, .int .i64 0, .str (sb v6), .lst false 2 (mp Level.cells v7), .lst true 0 []], .cells (CtorForm.cells o3)], 0⟩ = law12_FamilyFields_l1 n X2 m v0 v1 v2 o0 o1 v5 v6 v7 o3)
  | 0 => by intros; exact run_lq_zero
  | m + 1 => by
    have ih := law12_FamilyFields_l1_eq n m2 X2 h2 m
    intro v0 v1 v2 o0 o1 v5 v6 v7 o3
    rw [run_lq_succ]
    exact (law12_FamilyFields_b1 n).2 m2 X2 m _ h2 ih v0 v1 v2 o0 o1 v5 v6 v7 o3
noncomputable def law12_FamilyFields_b2 (n : Nat) : { B : (Int → Decl → Family → Int → Str → (List Level) → Option Bool) → Int → Decl → Family → Int → Str → (List Level) → Option Bool // ∀ m X0, (∀ (v0 : Int) (o0 : Decl) (o1 : Family) (v3 : Int) (v4 : Str) (v5 : List Level), run (law12_FamilyFields_m n) [.lq m [0, 1, 0, 1, 1, 1, 1, 1], .blk 0, .cut [1, 1, 1, 1, 1, 1], .at [1, 1, 1, 1, 1, 1]] ⟨[.any, .ptr 0 0, .any, .ptr 1 0, .any, .ptr 2 0, .int .i64 v0, .any, .any, .any, .any, .any, .any, .any, .any, .any, .any, .any, .any, .any, .any, .any, .any, .any, .any, .any, .any, .any, .any, .any, .any, .any, .any, .any, .any, .any, .any, .any, .any, .any, .any, .any, .any, .any, .any, .any, .any, .any, .any, .any, .any, .any, .any, .any, .any, .any, .any, .any, .any, .any, .any, .any, .any, .any, .any, .any, .any, .any, .any, .any, .any, .any, .any, .any, .any, .any, .any, .any, .any, .any, .any, .any, .any, .any, .any, .any, .any, .any, .any, .any, .any, .any, .any, .any, .any, .any, .any, .any, .any, .any, .any, .any, .any, .any, .any, .any, .any, .any, .any, .any, .any, .any, .any, .any, .any, .any, .any, .any, .any, .any, .any, .any, .any, .any], [.cells (Decl.cells o0), .cells (Family.cells o1), .cells [.int .i64 v3, .int .i64 0, .str (sb v4), .lst false 2 (mp Level.cells v5), .lst true 0 []]], 0⟩ = X0 v0 o0 o1 v3 v4 v5) → ∀ (v0 : Int) (o0 : Decl) (o1 : Family) (v3 : Int) (v4 : Str) (v5 : List Level), run (law12_FamilyFields_m n) [.at [0, 0, 1, 0, 1, 1, 1, 1, 1], .lp m [0, 1, 0, 1, 1, 1, 1, 1], .blk 0, .cut [1, 1, 1, 1, 1, 1], .at [1, 1, 1, 1, 1, 1]] ⟨[.any, .ptr 0 0, .any, .ptr 1 0, .any, .ptr 2 0, .int .i64 v0, .any, .any, .any, .any, .any, .any, .any, .any, .any, .any, .any, .any, .any, .any, .any, .any, .any, .any, .any, .any, .any, .any, .any, .any, .any, .any, .any, .any, .any, .any, .any, .any, .any, .any, .any, .any, .any, .any, .any, .any, .any, .any, .any, .any, .any, .any, .any, .any, .any, .any, .any, .any, .any, .any, .any, .any, .any, .any, .any, .any, .any, .any, .any, .any, .any, .any, .any, .any, .any, .any, .any, .any, .any, .any, .any, .any, .any, .any, .any, .any, .any, .any, .any, .any, .any, .any, .any, .any, .any, .any, .any, .any, .any, .any, .any, .any, .any, .any, .any, .any, .any, .any, .any, .any, .any, .any, .any, .any, .any, .any, .any, .any, .any, .any, .any, .any, .any], [.cells (Decl.cells o0), .cells (Family.cells o1), .cells [.int .i64 v3, .int .i64 0, .str (sb v4), .lst false 2 (mp Level.cells v5), .lst true 0 []]], 0⟩ = B X0 v0 o0 o1 v3 v4 v5 } := by
  apply Subtype.mk
  intro m X0 ih v0 o0 o1 v3 v4 v5
  simp (config := { maxSteps := 100000000 }) only [go_sem, Nat.reduceAdd, Nat.reduceSub, Nat.reduceLeDiff, Nat.reduceEqDiff, Nat.reduceBEq, Nat.reduceMul, Nat.reduceLT, Int.reduceLE, Int.reduceLT, Int.reduceToNat, Int.reduceBEq, Int.reduceEq, law12_FamilyFields_f, law12_FamilyFields_c, Try.f13, Option.getD_some, mixed, law12_FamilyFields_d, law12_FamilyFields_o, law12_FamilyFields_n1, law12_FamilyFields_n2, law12_FamilyFields_l1_eq n m X0 ih, ih]
  exact rfl
noncomputable def law12_FamilyFields_l2 (n : Nat) : Nat → Int → Decl → Family → Int → Str → (List Level) → Option Bool
  | 0, _, _, _, _, _, _ => none
  | m + 1, v0, o0, o1, v3, v4, v5 => (law12_FamilyFields_b2 n).1 (law12_FamilyFields_l2 n m) v0 o0 o1 v3 v4 v5
theorem law12_FamilyFields_l2_eq (n : Nat) : ∀ (m : Nat), (∀ (v0 : Int) (o0 : Decl) (o1 : Family) (v3 : Int) (v4 : Str) (v5 : List Level), run (law12_FamilyFields_m n) [.lq m [0, 1, 0, 1, 1, 1, 1, 1], .blk 0, .cut [1, 1, 1, 1, 1, 1], .at [1, 1, 1, 1, 1, 1]] ⟨[.any, .ptr 0 0, .any, .ptr 1 0, .any, .ptr 2 0, .int .i64 v0, .any, .any, .any, .any, .any, .any, .any, .any, .any, .any, .any, .any, .any, .any, .any, .any, .any, .any, .any, .any, .any, .any, .any, .any, .any, .any, .any, .any, .any, .any, .any, .any, .any, .any, .any, .any, .any, .any, .any, .any, .any, .any, .any, .any, .any, .any, .any, .any, .any, .any, .any, .any, .any, .any, .any, .any, .any, .any, .any, .any, .any, .any, .any, .any, .any, .any, .any, .any, .any, .any, .any, .any, .any, .any, .any, .any, .any, .any, .any, .any, .any, .any, .any, .any, .any, .any, .any, .any, .any, .any, .any, .any, .any, .any, .any, .any, .any, .any, .any, .any, .any, .any, .any, .any, .any, .any, .any, .any, .any, .any, .any, .any, .any, .any, .any, .any, .any], [.cells (Decl.cells o0), .cells (Family.cells o1), .cells [.int .i64 v3, .int .i64 0, .str (sb v4), .lst false 2 (mp Level.cells v5), .lst true 0 []]], 0⟩ = law12_FamilyFields_l2 n m v0 o0 o1 v3 v4 v5)
  | 0 => by intros; exact run_lq_zero
  | m + 1 => by
    have ih := law12_FamilyFields_l2_eq n m
    intro v0 o0 o1 v3 v4 v5
    rw [run_lq_succ]
    exact (law12_FamilyFields_b2 n).2  m _  ih v0 o0 o1 v3 v4 v5
noncomputable def law12_FamilyFields_e (n : Nat) : { B : Decl → Option Bool // ∀ (a0 : Decl), run (law12_FamilyFields_m n) [.at []] { slots := [(tyC Decl.cel).enc a0] ++ List.replicate (124 - [(tyC Decl.cel).enc a0].length) .any, heap := [] } = B a0 } := by
  apply Subtype.mk
  intro a0
  simp (config := { maxSteps := 100000000 }) only [go_sem, Nat.reduceAdd, Nat.reduceSub, Nat.reduceLeDiff, Nat.reduceEqDiff, Nat.reduceBEq, Nat.reduceMul, Nat.reduceLT, Int.reduceLE, Int.reduceLT, Int.reduceToNat, Int.reduceBEq, Int.reduceEq, law12_FamilyFields_f, law12_FamilyFields_c, Try.f13, Option.getD_some, mixed, law12_FamilyFields_d, law12_FamilyFields_o, law12_FamilyFields_n1, law12_FamilyFields_n2, law12_FamilyFields_l2_eq n]
  exact rfl
noncomputable def law12_FamilyFields : Nat → Decl → Option Bool
  | 0, _ => none
  | n + 1, a0 => (law12_FamilyFields_e n).1 a0
theorem law12_FamilyFields_ok : ∀ (n : Nat) (a0 : Decl) (r : Bool), law12_FamilyFields n a0 = some r → FnC Try.prog 13 [(tyC Decl.cel).enc a0] (fun v => v = tyB.enc r)
  | 0, _, _, h => by cases h
  | n + 1, a0, r, h => by
    exact fnC_run (M := law12_FamilyFields_m n) ⟨(tabA_cons_ok (ent1_ok (law12_Few_ok n)) (tabA_cons_ok (ent0_ok (law12_awake_ok n)) (tabA_cons_ok (ent1_ok (family_Analyse_ok n)) tabA_nil_ok))), (tabD_cons_ok (ent2_okD (term_Same_ok n)) (tabD_cons_ok (ent2_okD (telescope_Pis_ok n)) (tabD_cons_ok (ent2_okD (ref07_Has_ok n)) (tabD_cons_ok (ent1_okD (ref07_Params_ok n)) (tabD_cons_ok (ent2_okD (telescope_Apply_ok n)) (tabD_cons_ok (ent2_okD (telescope_Vars_ok n)) (tabD_cons_ok (ent1_okD (term_Consts_ok n)) tabD_nil_ok))))))), tabN_ok _, tabF_ok _, noY_ok, noE_ok⟩ Try.func13 rfl rfl ⟨(tyC Decl.cel).nb 0 _, trivial⟩ Try.ntmps13 Try.results13 (fun σ hs => outR_ok (P := Try.prog) (rs := [.tmp 2]) (t := tyB) (σ := σ) (r := r) hs) (((law12_FamilyFields_e n).2 a0).trans h)
end Go.Abs
