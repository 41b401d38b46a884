/- A part of the proof: what the functions compute. -/
import Derived.Test.YtplbjppbollcjaaDoorDataA
import Derived.Test.YtplbjppbollcjaaDoorWalkA
import Derived.Test.YtplbjppbollcjaaDoorExtA
set_option linter.all false
namespace Go.Abs
open Go.Proofs
set_option maxRecDepth 100000
set_option maxHeartbeats 4000000
set_option linter.unusedSimpArgs false
set_option linter.unusedVariables false
noncomputable def law27_Few_n1 : Nrm := ⟨[], [], [zA, zK, zA, zA, zA, zA, zA, zA, zA, zA, zT (tyL Decl.row), zK, zK, zA, zA, zA, zA, zA, zA, zA, zA, zA, zA, zA, zA, zA, zA, zA, zA, zA, zA, zA, zA, zA, zA, zA, zA, zA, zA, zA, zA, zA, zA, zA, zA, zT (tyL Fun.row), zK, zK, zA, zA, zA, zA, zA, zA, zA, zA, zA, zA, zA, zA, zA, zA, zA, zA, zA, zA, zA, zA, zA, zA, zA, zA, zA, zA, zA, zA, zA, zA, zA, zA, zA, zA, zA, zA, zA, zA, zA, zA], [oT State.cel], none⟩
noncomputable def law27_Few_n2 : Nrm := ⟨[], [], [zA, zK, zA, zA, zK, zA, zA, zA, zA, zA, zT (tyL Decl.row), zK, zK, zA, zA, zA, zA, zA, zA, zA, zA, zA, zA, zA, zA, zA, zA, zA, zA, zA, zA, zA, zA, zT (tyL Ctor.row), zK, zK, zA, zA, zA, zA, zA, zA, zA, zA, zA, zA, zA, zA, zA, zA, zA, zA, zA, zA, zA, zA, zA, zA, zA, zA, zA, zA, zA, zA, zA, zA, zA, zA, zA, zA, zA, zA, zA, zA, zA, zA, zA, zA, zA, zA, zA, zA, zA, zA, zA, zA, zA, zA], [oT State.cel, oT Decl.cel], none⟩
noncomputable def law27_Few_n3 : Nrm := ⟨[], [], [zA, zK, zA, zA, zA, zA, zA, zA, zA, zA, zT (tyL Decl.row), zK, zK, zA, zA, zA, zA, zA, zA, zA, zA, zA, zA, zA, zA, zA, zA, zA, zA, zA, zA, zA, zA, zA, zA, zA, zA, zA, zA, zA, zA, zA, zA, zA, zA, zA, zA, zA, zA, zA, zA, zA, zA, zA, zA, zA, zA, zA, zA, zA, zA, zA, zA, zA, zA, zA, zA, zA, zA, zA, zA, zA, zA, zA, zA, zA, zA, zA, zA, zA, zA, zA, zA, zA, zA, zA, zA, zA], [oT State.cel], none⟩
noncomputable def law27_Few_m (n : Nat) : Mach Bool where
  body := (Tryd.f9.body).getD .skip
  P := Tryd.prog
  cl := tabA [(23, ent1 (tyL rowS) tyB (law27_short n)), (33, ent2 (tyL rowS) (tyF 34) tyB (slices_ContainsFunc_string_law27_Few_1 n))]
  cd := tabD []
  nrm := tabN [([0, 1, 1, 1, 1, 0, 0, 1, 1, 0, 0, 1, 0, 1], law27_Few_n1), ([0, 1, 0, 1, 1, 0, 0, 1, 1, 0, 0, 1, 0, 1], law27_Few_n2), ([0, 1, 0, 1], law27_Few_n3)]
  cut := tabF []
  n := n
  out := outR Tryd.prog [.tmp 2] tyB
theorem law27_Few_f (n : Nat) : (law27_Few_m n).P = Tryd.prog ∧ (law27_Few_m n).cl = tabA [(23, ent1 (tyL rowS) tyB (law27_short n)), (33, ent2 (tyL rowS) (tyF 34) tyB (slices_ContainsFunc_string_law27_Few_1 n))] ∧ (law27_Few_m n).cd = tabD [] ∧ (law27_Few_m n).nrm = tabN [([0, 1, 1, 1, 1, 0, 0, 1, 1, 0, 0, 1, 0, 1], law27_Few_n1), ([0, 1, 0, 1, 1, 0, 0, 1, 1, 0, 0, 1, 0, 1], law27_Few_n2), ([0, 1, 0, 1], law27_Few_n3)] ∧ (law27_Few_m n).cut = tabF [] ∧ (law27_Few_m n).n = n ∧ (law27_Few_m n).out = outR Tryd.prog [.tmp 2] tyB := ⟨rfl, rfl, rfl, rfl, rfl, rfl, rfl⟩
theorem law27_Few_c (n : Nat) : (law27_Few_m n).body = (Tryd.f9.body).getD .skip := rfl
noncomputable def law27_Few_b1 (n : Nat) : { B : ((List Decl) → Int → Int → State → Option Bool) → ((List Decl) → Int → Int → (List Fun) → Int → Int → State → Option Bool) → (List Decl) → Int → Int → (List Fun) → Int → Int → State → Option Bool // ∀ m3 X3 m X0, (∀ (v0 : List Decl) (v1 : Int) (v2 : Int) (o0 : State), run (law27_Few_m n) [.lq m3 [0, 1, 0, 1], .blk 0, .cut [1, 1], .at [1, 1]] ⟨[.any, .ptr 0 0, .any, .any, .any, .any, .any, .any, .any, .any, .lst false 23 (mp Decl.cells v0), .int .i64 v1, .int .i64 v2, .any, .any, .any, .any, .any, .any, .any, .any, .any, .any, .any, .any, .any, .any, .any, .any, .any, .any, .any, .any, .any, .any, .any, .any, .any, .any, .any, .any, .any, .any, .any, .any, .any, .any, .any, .any, .any, .any, .any, .any, .any, .any, .any, .any, .any, .any, .any, .any, .any, .any, .any, .any, .any, .any, .any, .any, .any, .any, .any, .any, .any, .any, .any, .any, .any, .any, .any, .any, .any, .any, .any, .any, .any, .any, .any], [.cells (State.cells o0)], 0⟩ = X3 v0 v1 v2 o0) → (∀ (v0 : List Decl) (v1 : Int) (v2 : Int) (v3 : List Fun) (v4 : Int) (v5 : Int) (o0 : State), run (law27_Few_m n) [.lq m [0, 1, 1, 1, 1, 0, 0, 1, 1, 0, 0, 1, 0, 1], .blk 4, .blk 1, .cut [1, 1, 1, 0, 0, 1, 0, 1], .at [1, 1, 1, 0, 0, 1, 0, 1], .lp m3 [0, 1, 0, 1], .blk 0, .cut [1, 1], .at [1, 1]] ⟨[.any, .ptr 0 0, .any, .any, .any, .any, .any, .any, .any, .any, .lst false 23 (mp Decl.cells v0), .int .i64 v1, .int .i64 v2, .any, .any, .any, .any, .any, .any, .any, .any, .any, .any, .any, .any, .any, .any, .any, .any, .any, .any, .any, .any, .any, .any, .any, .any, .any, .any, .any, .any, .any, .any, .any, .any, .lst false 15 (mp Fun.cells v3), .int .i64 v4, .int .i64 v5, .any, .any, .any, .any, .any, .any, .any, .any, .any, .any, .any, .any, .any, .any, .any, .any, .any, .any, .any, .any, .any, .any, .any, .any, .any, .any, .any, .any, .any, .any, .any, .any, .any, .any, .any, .any, .any, .any, .any, .any], [.cells (State.cells o0)], 0⟩ = X0 v0 v1 v2 v3 v4 v5 o0) → ∀ (v0 : List Decl) (v1 : Int) (v2 : Int) (v3 : List Fun) (v4 : Int) (v5 : Int) (o0 : State), run (law27_Few_m n) [.at [0, 0, 1, 1, 1, 1, 0, 0, 1, 1, 0, 0, 1, 0, 1], .lp m [0, 1, 1, 1, 1, 0, 0, 1, 1, 0, 0, 1, 0, 1], .blk 4, .blk 1, .cut [1, 1, 1, 0, 0, 1, 0, 1], .at [1, 1, 1, 0, 0, 1, 0, 1], .lp m3 [0, 1, 0, 1], .blk 0, .cut [1, 1], .at [1, 1]] ⟨[.any, .ptr 0 0, .any, .any, .any, .any, .any, .any, .any, .any, .lst false 23 (mp Decl.cells v0), .int .i64 v1, .int .i64 v2, .any, .any, .any, .any, .any, .any, .any, .any, .any, .any, .any, .any, .any, .any, .any, .any, .any, .any, .any, .any, .any, .any, .any, .any, .any, .any, .any, .any, .any, .any, .any, .any, .lst false 15 (mp Fun.cells v3), .int .i64 v4, .int .i64 v5, .any, .any, .any, .any, .any, .any, .any, .any, .any, .any, .any, .any, .any, .any, .any, .any, .any, .any, .any, .any, .any, .any, .any, .any, .any, .any, .any, .any, .any, .any, .any, .any, .any, .any, .any, .any, .any, .any, .any, .any], [.cells (State.cells o0)], 0⟩ = B X3 X0 v0 v1 v2 v3 v4 v5 o0 } := by
  apply Subtype.mk
  intro m3 X3 m X0 h3 ih v0 v1 v2 v3 v4 v5 o0
  simp (config := { maxSteps := 100000000 }) only [go_sem, Nat.reduceAdd, Nat.reduceSub, Nat.reduceLeDiff, Nat.reduceEqDiff, Nat.reduceBEq, Nat.reduceMul, Nat.reduceLT, Int.reduceLE, Int.reduceLT, Int.reduceToNat, Int.reduceBEq, Int.reduceEq, law27_Few_f, law27_Few_c, Tryd.f9, Option.getD_some, mixed, law27_Few_n1, law27_Few_n2, law27_Few_n3, h3, ih]
  exact rfl
noncomputable def law27_Few_l1 (n : Nat) (X3 : (List Decl) → Int → Int → State → Option Bool) : Nat → (List Decl) → Int → Int → (List Fun) → Int → Int → State → Option Bool
  | 0, _, _, _, _, _, _, _ => none
  | m + 1, v0, v1, v2, v3, v4, v5, o0 => (law27_Few_b1 n).1 X3 (law27_Few_l1 n X3 m) v0 v1 v2 v3 v4 v5 o0
theorem law27_Few_l1_eq (n : Nat) (m3 : Nat) (X3 : (List Decl) → Int → Int → State → Option Bool) (h3 : (∀ (v0 : List Decl) (v1 : Int) (v2 : Int) (o0 : State), run (law27_Few_m n) [.lq m3 [0, 1, 0, 1], .blk 0, .cut [1, 1], .at [1, 1]] ⟨[.any, .ptr 0 0, .any, .any, .any, .any, .any, .any, .any, .any, .lst false 23 (mp Decl.cells v0), .int .i64 v1, .int .i64 v2, .any, .any, .any, .any, .any, .any, .any, .any, .any, .any, .any, .any, .any, .any, .any, .any, .any, .any, .any, .any, .any, .any, .any, .any, .any, .any, .any, .any, .any, .any, .any, .any, .any, .any, .any, .any, .any, .any, .any, .any, .any, .any, .any, .any, .any, .any, .any, .any, .any, .any, .any, .any, .any, .any, .any, .any, .any, .any, .any, .any, .any, .any, .any, .any, .any, .any, .any, .any, .any, .any, .any, .any, .any, .any, .any], [.cells (State.cells o0)], 0⟩ = X3 v0 v1 v2 o0)) : ∀ (m : Nat), (∀ (v0 : List Decl) (v1 : Int) (v2 : Int) (v3 : List Fun) (v4 : Int) (v5 : Int) (o0 : State), run (law27_Few_m n) [.lq m [0, 1, 1, 1, 1, 0, 0, 1, 1, 0, 0, 1, 0, 1], .blk 4, .blk 1, .cut [1, 1, 1, 0, 0, 1, 0, 1], .at [1, 1, 1, 0, 0, 1, 0, 1], .lp m3 [0, 1, 0, 1], .blk 0, .cut [1, 1], .at [1, 1]] ⟨[.any, .ptr 0 0, .any, .any, .any, .any, .any, .any, .any, .any, .lst false 23 (mp Decl.cells v0), .int .i64 v1, .int .i64 v2, .any, .any, .any, .any, .any, .any, .any, .any, .any, .any, .any, .any, .any, .any, .any, .any, .any, .any, .any, .any, .any, .any, .any, .any, .any, .any, .any, .any, .any, .any, .any, .any, .lst false 15 (mp Fun.cells v3), .int .i64 v4, .int .i64 v5, .any, .any, .any, .any, .any, .any, .any, .any, .any, .any, .any, .any, .any, .any, .any, .any, .any, .any, .any, .any, .any, .any, .any, .any, .any, .any, .any, .any, .any, .any, .any, .any, .any, .any, .any, .any, .any, .any, .any, .any], [.cells (State.cells o0)], 0⟩ = law27_Few_l1 n X3 m v0 v1 v2 v3 v4 v5 o0)
  | 0 => by intros; exact run_lq_zero
  | m + 1 => by
    have ih := law27_Few_l1_eq n m3 X3 h3 m
    intro v0 v1 v2 v3 v4 v5 o0
    rw [run_lq_succ]
    exact (law27_Few_b1 n).2 m3 X3 m _ h3 ih v0 v1 v2 v3 v4 v5 o0
noncomputable def law27_Few_b2 (n : Nat) : { B : ((List Decl) → Int → Int → State → Option Bool) → ((List Decl) → Int → Int → (List Ctor) → Int → Int → State → Decl → Option Bool) → (List Decl) → Int → Int → (List Ctor) → Int → Int → State → Decl → Option Bool // ∀ m3 X3 m X0, (∀ (v0 : List Decl) (v1 : Int) (v2 : Int) (o0 : State), run (law27_Few_m n) [.lq m3 [0, 1, 0, 1], .blk 0, .cut [1, 1], .at [1, 1]] ⟨[.any, .ptr 0 0, .any, .any, .any, .any, .any, .any, .any, .any, .lst false 23 (mp Decl.cells v0), .int .i64 v1, .int .i64 v2, .any, .any, .any, .any, .any, .any, .any, .any, .any, .any, .any, .any, .any, .any, .any, .any, .any, .any, .any, .any, .any, .any, .any, .any, .any, .any, .any, .any, .any, .any, .any, .any, .any, .any, .any, .any, .any, .any, .any, .any, .any, .any, .any, .any, .any, .any, .any, .any, .any, .any, .any, .any, .any, .any, .any, .any, .any, .any, .any, .any, .any, .any, .any, .any, .any, .any, .any, .any, .any, .any, .any, .any, .any, .any, .any], [.cells (State.cells o0)], 0⟩ = X3 v0 v1 v2 o0) → (∀ (v0 : List Decl) (v1 : Int) (v2 : Int) (v3 : List Ctor) (v4 : Int) (v5 : Int) (o0 : State) (o1 : Decl), run (law27_Few_m n) [.lq m [0, 1, 0, 1, 1, 0, 0, 1, 1, 0, 0, 1, 0, 1], .blk 2, .cut [1, 1, 1, 0, 0, 1, 1, 0, 0, 1, 0, 1], .at [1, 1, 1, 0, 0, 1, 1, 0, 0, 1, 0, 1], .blk 1, .cut [1, 1, 1, 0, 0, 1, 0, 1], .at [1, 1, 1, 0, 0, 1, 0, 1], .lp m3 [0, 1, 0, 1], .blk 0, .cut [1, 1], .at [1, 1]] ⟨[.any, .ptr 0 0, .any, .any, .ptr 1 0, .any, .any, .any, .any, .any, .lst false 23 (mp Decl.cells v0), .int .i64 v1, .int .i64 v2, .any, .any, .any, .any, .any, .any, .any, .any, .any, .any, .any, .any, .any, .any, .any, .any, .any, .any, .any, .any, .lst false 6 (mp Ctor.cells v3), .int .i64 v4, .int .i64 v5, .any, .any, .any, .any, .any, .any, .any, .any, .any, .any, .any, .any, .any, .any, .any, .any, .any, .any, .any, .any, .any, .any, .any, .any, .any, .any, .any, .any, .any, .any, .any, .any, .any, .any, .any, .any, .any, .any, .any, .any, .any, .any, .any, .any, .any, .any, .any, .any, .any, .any, .any, .any], [.cells (State.cells o0), .cells (Decl.cells o1)], 0⟩ = X0 v0 v1 v2 v3 v4 v5 o0 o1) → ∀ (v0 : List Decl) (v1 : Int) (v2 : Int) (v3 : List Ctor) (v4 : Int) (v5 : Int) (o0 : State) (o1 : Decl), run (law27_Few_m n) [.at [0, 0, 1, 0, 1, 1, 0, 0, 1, 1, 0, 0, 1, 0, 1], .lp m [0, 1, 0, 1, 1, 0, 0, 1, 1, 0, 0, 1, 0, 1], .blk 2, .cut [1, 1, 1, 0, 0, 1, 1, 0, 0, 1, 0, 1], .at [1, 1, 1, 0, 0, 1, 1, 0, 0, 1, 0, 1], .blk 1, .cut [1, 1, 1, 0, 0, 1, 0, 1], .at [1, 1, 1, 0, 0, 1, 0, 1], .lp m3 [0, 1, 0, 1], .blk 0, .cut [1, 1], .at [1, 1]] ⟨[.any, .ptr 0 0, .any, .any, .ptr 1 0, .any, .any, .any, .any, .any, .lst false 23 (mp Decl.cells v0), .int .i64 v1, .int .i64 v2, .any, .any, .any, .any, .any, .any, .any, .any, .any, .any, .any, .any, .any, .any, .any, .any, .any, .any, .any, .any, .lst false 6 (mp Ctor.cells v3), .int .i64 v4, .int .i64 v5, .any, .any, .any, .any, .any, .any, .any, .any, .any, .any, .any, .any, .any, .any, .any, .any, .any, .any, .any, .any, .any, .any, .any, .any, .any, .any, .any, .any, .any, .any, .any, .any, .any, .any, .any, .any, .any, .any, .any, .any, .any, .any, .any, .any, .any, .any, .any, .any, .any, .any, .any, .any], [.cells (State.cells o0), .cells (Decl.cells o1)], 0⟩ = B X3 X0 v0 v1 v2 v3 v4 v5 o0 o1 } := by
  apply Subtype.mk
  intro m3 X3 m X0 h3 ih v0 v1 v2 v3 v4 v5 o0 o1
  simp (config := { maxSteps := 100000000 }) only [go_sem, Nat.reduceAdd, Nat.reduceSub, Nat.reduceLeDiff, Nat.reduceEqDiff, Nat.reduceBEq, Nat.reduceMul, Nat.reduceLT, Int.reduceLE, Int.reduceLT, Int.reduceToNat, Int.reduceBEq, Int.reduceEq, law27_Few_f, law27_Few_c, Tryd.f9, Option.getD_some, mixed, law27_Few_n1, law27_Few_n2, law27_Few_n3, law27_Few_l1_eq n m3 X3 h3, h3, ih]
  exact rfl
noncomputable def law27_Few_l2 (n : Nat) (X3 : (List Decl) → Int → Int → State → Option Bool) : Nat → (List Decl) → Int → Int → (List Ctor) → Int → Int → State → Decl → Option Bool
  | 0, _, _, _, _, _, _, _, _ => none
  | m + 1, v0, v1, v2, v3, v4, v5, o0, o1 => (law27_Few_b2 n).1 X3 (law27_Few_l2 n X3 m) v0 v1 v2 v3 v4 v5 o0 o1
theorem law27_Few_l2_eq (n : Nat) (m3 : Nat) (X3 : (List Decl) → Int → Int → State → Option Bool) (h3 : (∀ (v0 : List Decl) (v1 : Int) (v2 : Int) (o0 : State), run (law27_Few_m n) [.lq m3 [0, 1, 0, 1], .blk 0, .cut [1, 1], .at [1, 1]] ⟨[.any, .ptr 0 0, .any, .any, .any, .any, .any, .any, .any, .any, .lst false 23 (mp Decl.cells v0), .int .i64 v1, .int .i64 v2, .any, .any, .any, .any, .any, .any, .any, .any, .any, .any, .any, .any, .any, .any, .any, .any, .any, .any, .any, .any, .any, .any, .any, .any, .any, .any, .any, .any, .any, .any, .any, .any, .any, .any, .any, .any, .any, .any, .any, .any, .any, .any, .any, .any, .any, .any, .any, .any, .any, .any, .any, .any, .any, .any, .any, .any, .any, .any, .any, .any, .any, .any, .any, .any, .any, .any, .any, .any, .any, .any, .any, .any, .any, .any, .any], [.cells (State.cells o0)], 0⟩ = X3 v0 v1 v2 o0)) : ∀ (m : Nat), (∀ (v0 : List Decl) (v1 : Int) (v2 : Int) (v3 : List Ctor) (v4 : Int) (v5 : Int) (o0 : State) (o1 : Decl), run (law27_Few_m n) [.lq m [0, 1, 0, 1, 1, 0, 0, 1, 1, 0, 0, 1, 0, 1], .blk 2, .cut [1, 1, 1, 0, 0, 1, 1, 0, 0, 1, 0, 1], .at [1, 1, 1, 0, 0, 1, 1, 0, 0, 1, 0, 1], .blk 1, .cut [1, 1, 1, 0, 0, 1, 0, 1], .at [1, 1, 1, 0, 0, 1, 0, 1], .lp m3 [0, 1, 0, 1], .blk 0, .cut [1, 1], .at [1, 1]] ⟨[.any, .ptr 0 0, .any, .any, .ptr 1 0, .any, .any, .any, .any, .any, .lst false 23 (mp Decl.cells v0), .int .i64 v1, .int .i64 v2, .any, .any, .any, .any, .any, .any, .any, .any, .any, .any, .any, .any, .any, .any, .any, .any, .any, .any, .any, .any, .lst false 6 (mp Ctor.cells v3), .int .i64 v4, .int .i64 v5, .any, .any, .any, .any, .any, .any, .any, .any, .any, .any, .any, .any, .any, .any, .any, .any, .any, .any, .any, .any, .any, .any, .any, .any, .any, .any, .any, .any, .any, .any, .any, .any, .any, .any, .any, .any, .any, .any, .any, .any, .any, .any, .any, .any, .any, .any, .any, .any, .any, .any, .any, .any], [.cells (State.cells o0), .cells (Decl.cells o1)], 0⟩ = law27_Few_l2 n X3 m v0 v1 v2 v3 v4 v5 o0 o1)
  | 0 => by intros; exact run_lq_zero
  | m + 1 => by
    have ih := law27_Few_l2_eq n m3 X3 h3 m
    intro v0 v1 v2 v3 v4 v5 o0 o1
    rw [run_lq_succ]
    exact (law27_Few_b2 n).2 m3 X3 m _ h3 ih v0 v1 v2 v3 v4 v5 o0 o1
noncomputable def law27_Few_b3 (n : Nat) : { B : ((List Decl) → Int → Int → State → Option Bool) → (List Decl) → Int → Int → State → Option Bool // ∀ m X0, (∀ (v0 : List Decl) (v1 : Int) (v2 : Int) (o0 : State), run (law27_Few_m n) [.lq m [0, 1, 0, 1], .blk 0, .cut [1, 1], .at [1, 1]] ⟨[.any, .ptr 0 0, .any, .any, .any, .any, .any, .any, .any, .any, .lst false 23 (mp Decl.cells v0), .int .i64 v1, .int .i64 v2, .any, .any, .any, .any, .any, .any, .any, .any, .any, .any, .any, .any, .any, .any, .any, .any, .any, .any, .any, .any, .any, .any, .any, .any, .any, .any, .any, .any, .any, .any, .any, .any, .any, .any, .any, .any, .any, .any, .any, .any, .any, .any, .any, .any, .any, .any, .any, .any, .any, .any, .any, .any, .any, .any, .any, .any, .any, .any, .any, .any, .any, .any, .any, .any, .any, .any, .any, .any, .any, .any, .any, .any, .any, .any, .any], [.cells (State.cells o0)], 0⟩ = X0 v0 v1 v2 o0) → ∀ (v0 : List Decl) (v1 : Int) (v2 : Int) (o0 : State), run (law27_Few_m n) [.at [0, 0, 1, 0, 1], .lp m [0, 1, 0, 1], .blk 0, .cut [1, 1], .at [1, 1]] ⟨[.any, .ptr 0 0, .any, .any, .any, .any, .any, .any, .any, .any, .lst false 23 (mp Decl.cells v0), .int .i64 v1, .int .i64 v2, .any, .any, .any, .any, .any, .any, .any, .any, .any, .any, .any, .any, .any, .any, .any, .any, .any, .any, .any, .any, .any, .any, .any, .any, .any, .any, .any, .any, .any, .any, .any, .any, .any, .any, .any, .any, .any, .any, .any, .any, .any, .any, .any, .any, .any, .any, .any, .any, .any, .any, .any, .any, .any, .any, .any, .any, .any, .any, .any, .any, .any, .any, .any, .any, .any, .any, .any, .any, .any, .any, .any, .any, .any, .any, .any], [.cells (State.cells o0)], 0⟩ = B X0 v0 v1 v2 o0 } := by
  apply Subtype.mk
  intro m X0 ih v0 v1 v2 o0
  simp (config := { maxSteps := 100000000 }) only [go_sem, Nat.reduceAdd, Nat.reduceSub, Nat.reduceLeDiff, Nat.reduceEqDiff, Nat.reduceBEq, Nat.reduceMul, Nat.reduceLT, Int.reduceLE, Int.reduceLT, Int.reduceToNat, Int.reduceBEq, Int.reduceEq, law27_Few_f, law27_Few_c, Tryd.f9, Option.getD_some, mixed, law27_Few_n1, law27_Few_n2, law27_Few_n3, law27_Few_l1_eq n m X0 ih, law27_Few_l2_eq n m X0 ih, ih]
  exact rfl
noncomputable def law27_Few_l3 (n : Nat) : Nat → (List Decl) → Int → Int → State → Option Bool
  | 0, _, _, _, _ => none
  | m + 1, v0, v1, v2, o0 => (law27_Few_b3 n).1 (law27_Few_l3 n m) v0 v1 v2 o0
theorem law27_Few_l3_eq (n : Nat) : ∀ (m : Nat), (∀ (v0 : List Decl) (v1 : Int) (v2 : Int) (o0 : State), run (law27_Few_m n) [.lq m [0, 1, 0, 1], .blk 0, .cut [1, 1], .at [1, 1]] ⟨[.any, .ptr 0 0, .any, .any, .any, .any, .any, .any, .any, .any, .lst false 23 (mp Decl.cells v0), .int .i64 v1, .int .i64 v2, .any, .any, .any, .any, .any, .any, .any, .any, .any, .any, .any, .any, .any, .any, .any, .any, .any, .any, .any, .any, .any, .any, .any, .any, .any, .any, .any, .any, .any, .any, .any, .any, .any, .any, .any, .any, .any, .any, .any, .any, .any, .any, .any, .any, .any, .any, .any, .any, .any, .any, .any, .any, .any, .any, .any, .any, .any, .any, .any, .any, .any, .any, .any, .any, .any, .any, .any, .any, .any, .any, .any, .any, .any, .any, .any], [.cells (State.cells o0)], 0⟩ = law27_Few_l3 n m v0 v1 v2 o0)
  | 0 => by intros; exact run_lq_zero
  | m + 1 => by
    have ih := law27_Few_l3_eq n m
    intro v0 v1 v2 o0
    rw [run_lq_succ]
    exact (law27_Few_b3 n).2  m _  ih v0 v1 v2 o0
noncomputable def law27_Few_e (n : Nat) : { B : State → Option Bool // ∀ (a0 : State), run (law27_Few_m n) [.at []] { slots := [(tyC State.cel).enc a0] ++ List.replicate (88 - [(tyC State.cel).enc a0].length) .any, heap := [] } = B a0 } := by
  apply Subtype.mk
  intro a0
  simp (config := { maxSteps := 100000000 }) only [go_sem, Nat.reduceAdd, Nat.reduceSub, Nat.reduceLeDiff, Nat.reduceEqDiff, Nat.reduceBEq, Nat.reduceMul, Nat.reduceLT, Int.reduceLE, Int.reduceLT, Int.reduceToNat, Int.reduceBEq, Int.reduceEq, law27_Few_f, law27_Few_c, Tryd.f9, Option.getD_some, mixed, law27_Few_n1, law27_Few_n2, law27_Few_n3, law27_Few_l3_eq n]
  exact rfl
noncomputable def law27_Few : Nat → State → Option Bool
  | 0, _ => none
  | n + 1, a0 => (law27_Few_e n).1 a0
theorem law27_Few_ok : ∀ (n : Nat) (a0 : State) (r : Bool), law27_Few n a0 = some r → FnC Tryd.prog 9 [(tyC State.cel).enc a0] (fun v => v = tyB.enc r)
  | 0, _, _, h => by cases h
  | n + 1, a0, r, h => by
    exact fnC_run (M := law27_Few_m n) ⟨(tabA_cons_ok (ent1_ok (law27_short_ok n)) (tabA_cons_ok (ent2_ok (slices_ContainsFunc_string_law27_Few_1_ok n)) tabA_nil_ok)), tabD_nil_ok, tabN_ok _, tabF_ok _, noY_ok, noE_ok⟩ Tryd.func9 rfl rfl ⟨(tyC State.cel).nb 0 _, trivial⟩ Tryd.ntmps9 Tryd.results9 (fun σ hs => outR_ok (P := Tryd.prog) (rs := [.tmp 2]) (t := tyB) (σ := σ) (r := r) hs) (((law27_Few_e n).2 a0).trans h)

noncomputable def slices_ContainsFunc_Decl_scope_Declared_1_as : AL ((List Decl) × (Unit × Unit)) := (alT (tyL Decl.row) (alF 44 (vlP 0 vlN) alN))
noncomputable def slices_ContainsFunc_Decl_scope_Declared_1_m (n : Nat) : Mach (((Str × Unit) × Unit) × (Bool × Unit)) where
  body := (Tryd.f43.body).getD .skip
  P := Tryd.prog
  cl := tabA [(65, entX [.arg 1 [0]] (olC (ogC (alC cS 1 alN)) olN) slices_IndexFunc_Decl_scope_Declared_1_as (olC (ogC (alC cS 1 alN)) olN) (alT (tyI .i64) alN) (fun (b : ((Str × Unit) × Unit)) (a : ((List Decl) × (Unit × Unit))) => (slices_IndexFunc_Decl_scope_Declared_1 n) a.1 b.1.1))]
  cd := tabD []
  nrm := tabN []
  cut := tabF []
  n := n
  out := outS Tryd.prog [.tmp 4] [] [0] 1 (olC (ogC (alC cS 1 alN)) olN) (alT tyB alN)
theorem slices_ContainsFunc_Decl_scope_Declared_1_f (n : Nat) : (slices_ContainsFunc_Decl_scope_Declared_1_m n).P = Tryd.prog ∧ (slices_ContainsFunc_Decl_scope_Declared_1_m n).cl = tabA [(65, entX [.arg 1 [0]] (olC (ogC (alC cS 1 alN)) olN) slices_IndexFunc_Decl_scope_Declared_1_as (olC (ogC (alC cS 1 alN)) olN) (alT (tyI .i64) alN) (fun (b : ((Str × Unit) × Unit)) (a : ((List Decl) × (Unit × Unit))) => (slices_IndexFunc_Decl_scope_Declared_1 n) a.1 b.1.1))] ∧ (slices_ContainsFunc_Decl_scope_Declared_1_m n).cd = tabD [] ∧ (slices_ContainsFunc_Decl_scope_Declared_1_m n).nrm = tabN [] ∧ (slices_ContainsFunc_Decl_scope_Declared_1_m n).cut = tabF [] ∧ (slices_ContainsFunc_Decl_scope_Declared_1_m n).n = n ∧ (slices_ContainsFunc_Decl_scope_Declared_1_m n).out = outS Tryd.prog [.tmp 4] [] [0] 1 (olC (ogC (alC cS 1 alN)) olN) (alT tyB alN) := ⟨rfl, rfl, rfl, rfl, rfl, rfl, rfl⟩
theorem slices_ContainsFunc_Decl_scope_Declared_1_c (n : Nat) : (slices_ContainsFunc_Decl_scope_Declared_1_m n).body = (Tryd.f43.body).getD .skip := rfl
noncomputable def slices_ContainsFunc_Decl_scope_Declared_1_e (n : Nat) : { B : (List Decl) → Str → Option (((Str × Unit) × Unit) × (Bool × Unit)) // ∀ (a0 : (List Decl)) (o0 : Str), run (slices_ContainsFunc_Decl_scope_Declared_1_m n) [.at []] { slots := (slices_ContainsFunc_Decl_scope_Declared_1_as.enc ((olC (ogC (alC cS 1 alN)) olN).lens ((o0, ()), ())) (a0, (), ())) ++ List.replicate (9 - (slices_ContainsFunc_Decl_scope_Declared_1_as.enc ((olC (ogC (alC cS 1 alN)) olN).lens ((o0, ()), ())) (a0, (), ())).length) .any, heap := ((olC (ogC (alC cS 1 alN)) olN).enc ((olC (ogC (alC cS 1 alN)) olN).lens ((o0, ()), ())) ((o0, ()), ())), low := ((olC (ogC (alC cS 1 alN)) olN).enc ((olC (ogC (alC cS 1 alN)) olN).lens ((o0, ()), ())) ((o0, ()), ())).length } = B a0 o0 } := by
  apply Subtype.mk
  intro a0 o0
  simp (config := { maxSteps := 100000000 }) only [go_sem, Nat.reduceAdd, Nat.reduceSub, Nat.reduceLeDiff, Nat.reduceEqDiff, Nat.reduceBEq, Nat.reduceMul, Nat.reduceLT, Int.reduceLE, Int.reduceLT, Int.reduceToNat, Int.reduceBEq, Int.reduceEq, slices_ContainsFunc_Decl_scope_Declared_1_f, slices_ContainsFunc_Decl_scope_Declared_1_c, Tryd.f43, Option.getD_some, mixed, slices_ContainsFunc_Decl_scope_Declared_1_as, slices_IndexFunc_Decl_scope_Declared_1_as]
  exact rfl
noncomputable def slices_ContainsFunc_Decl_scope_Declared_1 : Nat → (List Decl) → Str → Option (((Str × Unit) × Unit) × (Bool × Unit))
  | 0, _, _ => none
  | n + 1, a0, o0 => (slices_ContainsFunc_Decl_scope_Declared_1_e n).1 a0 o0
theorem slices_ContainsFunc_Decl_scope_Declared_1_ok : ∀ (n : Nat) (a0 : (List Decl)) (o0 : Str) (r : (((Str × Unit) × Unit) × (Bool × Unit))), slices_ContainsFunc_Decl_scope_Declared_1 n a0 o0 = some r → FnG Tryd.prog 43 (slices_ContainsFunc_Decl_scope_Declared_1_as.enc ((olC (ogC (alC cS 1 alN)) olN).lens ((o0, ()), ())) (a0, (), ())) ((olC (ogC (alC cS 1 alN)) olN).enc ((olC (ogC (alC cS 1 alN)) olN).lens ((o0, ()), ())) ((o0, ()), ())) (fun o H' => o = .ret (tupOf ((alT tyB alN).enc ((olC (ogC (alC cS 1 alN)) olN).lens r.1) r.2)) ∧ H' = (olC (ogC (alC cS 1 alN)) olN).enc ((olC (ogC (alC cS 1 alN)) olN).lens r.1) r.1)
  | 0, _, _, _, h => by cases h
  | n + 1, a0, o0, r, h => by
    exact fnG_run (M := slices_ContainsFunc_Decl_scope_Declared_1_m n) ⟨(tabA_cons_ok (entX_ok (fun b a r h => (slices_IndexFunc_Decl_scope_Declared_1_ok n) a.1 b.1.1 r h)) tabA_nil_ok), tabD_nil_ok, tabN_ok _, tabF_ok _, noY_ok, noE_ok⟩ Tryd.func43 rfl rfl (nbL_le (Nat.le_trans (of_decide_eq_true (by kernel_rfl)) (Nat.le_of_eq ((olC (ogC (alC cS 1 alN)) olN).sz _ _).symm)) _ (slices_ContainsFunc_Decl_scope_Declared_1_as.nb _ _)) (fun x hx => objNb_le' (Nat.le_trans (of_decide_eq_true (by kernel_rfl)) (Nat.le_of_eq ((olC (ogC (alC cS 1 alN)) olN).sz _ _).symm)) _ ((olC (ogC (alC cS 1 alN)) olN).nb _ _ x hx)) Tryd.ntmps43 Tryd.results43 (fun σ hs => outS_ok (P := Tryd.prog) (rs := [.tmp 4]) (pos := []) (base := [0]) (low := 1) (os := (olC (ogC (alC cS 1 alN)) olN)) (s := (alT tyB alN)) (σ := σ) (r := r) (by rfl) hs) (((slices_ContainsFunc_Decl_scope_Declared_1_e n).2 a0 o0).trans h)

noncomputable def slices_ContainsFunc_string_scope_Open_1_m (n : Nat) : Mach Bool where
  body := (Tryd.f33.body).getD .skip
  P := Tryd.prog
  cl := tabA [(60, ent2 (tyL rowS) (tyK1 54 (tyP cS)) (tyI .i64) (slices_IndexFunc_string_scope_Open_1 n))]
  cd := tabD []
  nrm := tabN []
  cut := tabF []
  n := n
  out := outR Tryd.prog [.tmp 4] tyB
theorem slices_ContainsFunc_string_scope_Open_1_f (n : Nat) : (slices_ContainsFunc_string_scope_Open_1_m n).P = Tryd.prog ∧ (slices_ContainsFunc_string_scope_Open_1_m n).cl = tabA [(60, ent2 (tyL rowS) (tyK1 54 (tyP cS)) (tyI .i64) (slices_IndexFunc_string_scope_Open_1 n))] ∧ (slices_ContainsFunc_string_scope_Open_1_m n).cd = tabD [] ∧ (slices_ContainsFunc_string_scope_Open_1_m n).nrm = tabN [] ∧ (slices_ContainsFunc_string_scope_Open_1_m n).cut = tabF [] ∧ (slices_ContainsFunc_string_scope_Open_1_m n).n = n ∧ (slices_ContainsFunc_string_scope_Open_1_m n).out = outR Tryd.prog [.tmp 4] tyB := ⟨rfl, rfl, rfl, rfl, rfl, rfl, rfl⟩
theorem slices_ContainsFunc_string_scope_Open_1_c (n : Nat) : (slices_ContainsFunc_string_scope_Open_1_m n).body = (Tryd.f33.body).getD .skip := rfl
noncomputable def slices_ContainsFunc_string_scope_Open_1_e (n : Nat) : { B : (List Str) → Str → Option Bool // ∀ (a0 : (List Str)) (a1 : Str), run (slices_ContainsFunc_string_scope_Open_1_m n) [.at []] { slots := [(tyL rowS).enc a0, (tyK1 54 (tyP cS)).enc a1] ++ List.replicate (9 - [(tyL rowS).enc a0, (tyK1 54 (tyP cS)).enc a1].length) .any, heap := [] } = B a0 a1 } := by
  apply Subtype.mk
  intro a0 a1
  simp (config := { maxSteps := 100000000 }) only [go_sem, Nat.reduceAdd, Nat.reduceSub, Nat.reduceLeDiff, Nat.reduceEqDiff, Nat.reduceBEq, Nat.reduceMul, Nat.reduceLT, Int.reduceLE, Int.reduceLT, Int.reduceToNat, Int.reduceBEq, Int.reduceEq, slices_ContainsFunc_string_scope_Open_1_f, slices_ContainsFunc_string_scope_Open_1_c, Tryd.f33, Option.getD_some, mixed]
  exact rfl
noncomputable def slices_ContainsFunc_string_scope_Open_1 : Nat → (List Str) → Str → Option Bool
  | 0, _, _ => none
  | n + 1, a0, a1 => (slices_ContainsFunc_string_scope_Open_1_e n).1 a0 a1
theorem slices_ContainsFunc_string_scope_Open_1_ok : ∀ (n : Nat) (a0 : (List Str)) (a1 : Str) (r : Bool), slices_ContainsFunc_string_scope_Open_1 n a0 a1 = some r → FnC Tryd.prog 33 [(tyL rowS).enc a0, (tyK1 54 (tyP cS)).enc a1] (fun v => v = tyB.enc r)
  | 0, _, _, _, h => by cases h
  | n + 1, a0, a1, r, h => by
    exact fnC_run (M := slices_ContainsFunc_string_scope_Open_1_m n) ⟨(tabA_cons_ok (ent2_ok (slices_IndexFunc_string_scope_Open_1_ok n)) tabA_nil_ok), tabD_nil_ok, tabN_ok _, tabF_ok _, noY_ok, noE_ok⟩ Tryd.func33 rfl rfl ⟨(tyL rowS).nb 0 _, (tyK1 54 (tyP cS)).nb 0 _, trivial⟩ Tryd.ntmps33 Tryd.results33 (fun σ hs => outR_ok (P := Tryd.prog) (rs := [.tmp 4]) (t := tyB) (σ := σ) (r := r) hs) (((slices_ContainsFunc_string_scope_Open_1_e n).2 a0 a1).trans h)
end Go.Abs
namespace Go.Abs
open Go.Proofs
set_option maxRecDepth 100000
set_option maxHeartbeats 4000000
set_option linter.unusedSimpArgs false
set_option linter.unusedVariables false
noncomputable def scope_Declared_m (n : Nat) : Mach Bool where
  body := (Tryd.f15.body).getD .skip
  P := Tryd.prog
  cl := tabA [(43, entX [.arg 1 [0]] (olC (ogC (alC cS 1 alN)) olN) slices_ContainsFunc_Decl_scope_Declared_1_as (olC (ogC (alC cS 1 alN)) olN) (alT tyB alN) (fun (b : ((Str × Unit) × Unit)) (a : ((List Decl) × (Unit × Unit))) => (slices_ContainsFunc_Decl_scope_Declared_1 n) a.1 b.1.1))]
  cd := tabD []
  nrm := tabN []
  cut := tabF [([1, 1], [1])]
  n := n
  out := outR Tryd.prog [.tmp 4] tyB
theorem scope_Declared_f (n : Nat) : (scope_Declared_m n).P = Tryd.prog ∧ (scope_Declared_m n).cl = tabA [(43, entX [.arg 1 [0]] (olC (ogC (alC cS 1 alN)) olN) slices_ContainsFunc_Decl_scope_Declared_1_as (olC (ogC (alC cS 1 alN)) olN) (alT tyB alN) (fun (b : ((Str × Unit) × Unit)) (a : ((List Decl) × (Unit × Unit))) => (slices_ContainsFunc_Decl_scope_Declared_1 n) a.1 b.1.1))] ∧ (scope_Declared_m n).cd = tabD [] ∧ (scope_Declared_m n).nrm = tabN [] ∧ (scope_Declared_m n).cut = tabF [([1, 1], [1])] ∧ (scope_Declared_m n).n = n ∧ (scope_Declared_m n).out = outR Tryd.prog [.tmp 4] tyB := ⟨rfl, rfl, rfl, rfl, rfl, rfl, rfl⟩
theorem scope_Declared_c (n : Nat) : (scope_Declared_m n).body = (Tryd.f15.body).getD .skip := rfl
noncomputable def scope_Declared_e (n : Nat) : { B : State → Str → Option Bool // ∀ (a0 : State) (a1 : Str), run (scope_Declared_m n) [.at []] { slots := [(tyC State.cel).enc a0, tyS.enc a1] ++ List.replicate (9 - [(tyC State.cel).enc a0, tyS.enc a1].length) .any, heap := [] } = B a0 a1 } := by
  apply Subtype.mk
  intro a0 a1
  simp (config := { maxSteps := 100000000 }) only [go_sem, Nat.reduceAdd, Nat.reduceSub, Nat.reduceLeDiff, Nat.reduceEqDiff, Nat.reduceBEq, Nat.reduceMul, Nat.reduceLT, Int.reduceLE, Int.reduceLT, Int.reduceToNat, Int.reduceBEq, Int.reduceEq, scope_Declared_f, scope_Declared_c, Tryd.f15, Option.getD_some, mixed, slices_ContainsFunc_Decl_scope_Declared_1_as]
  exact rfl
noncomputable def scope_Declared : Nat → State → Str → Option Bool
  | 0, _, _ => none
  | n + 1, a0, a1 => (scope_Declared_e n).1 a0 a1
theorem scope_Declared_ok : ∀ (n : Nat) (a0 : State) (a1 : Str) (r : Bool), scope_Declared n a0 a1 = some r → FnC Tryd.prog 15 [(tyC State.cel).enc a0, tyS.enc a1] (fun v => v = tyB.enc r)
  | 0, _, _, _, h => by cases h
  | n + 1, a0, a1, r, h => by
    exact fnC_run (M := scope_Declared_m n) ⟨(tabA_cons_ok (entX_ok (fun b a r h => (slices_ContainsFunc_Decl_scope_Declared_1_ok n) a.1 b.1.1 r h)) tabA_nil_ok), tabD_nil_ok, tabN_ok _, tabF_ok _, noY_ok, noE_ok⟩ Tryd.func15 rfl rfl ⟨(tyC State.cel).nb 0 _, tyS.nb 0 _, trivial⟩ Tryd.ntmps15 Tryd.results15 (fun σ hs => outR_ok (P := Tryd.prog) (rs := [.tmp 4]) (t := tyB) (σ := σ) (r := r) hs) (((scope_Declared_e n).2 a0 a1).trans h)

noncomputable def scope_Open_2_os : OL (((Str × Unit) × Unit) × Unit) := (olC (ogC (alF 54 (vlT (tyP cS) vlN) alN)) olN)
noncomputable def scope_Open_2_o1 : OL (((Str × Unit) × Unit) × Unit) := (olC (ogC (alF 54 (vlT (tyP cS) vlN) alN)) olN)
noncomputable def scope_Open_2_m (n : Nat) : Mach ((((Str × Unit) × Unit) × Unit) × (Bool × Unit)) where
  body := (Tryd.f56.body).getD .skip
  P := Tryd.prog
  cl := tabA []
  cd := tabD [(33, entD (ent2 (tyL rowS) (tyK1 54 (tyP cS)) tyB (slices_ContainsFunc_string_scope_Open_1 n))), (45, entD (ent1 (tyC Decl.cel) (tyL rowS) (signature_Names n)))]
  nrm := tabN []
  cut := tabF []
  n := n
  out := outS Tryd.prog [.tmp 3] [] [0] 1 scope_Open_2_o1 (alT tyB alN)
  isE := tabI []
theorem scope_Open_2_f (n : Nat) : (scope_Open_2_m n).P = Tryd.prog ∧ (scope_Open_2_m n).cl = tabA [] ∧ (scope_Open_2_m n).cd = tabD [(33, entD (ent2 (tyL rowS) (tyK1 54 (tyP cS)) tyB (slices_ContainsFunc_string_scope_Open_1 n))), (45, entD (ent1 (tyC Decl.cel) (tyL rowS) (signature_Names n)))] ∧ (scope_Open_2_m n).nrm = tabN [] ∧ (scope_Open_2_m n).cut = tabF [] ∧ (scope_Open_2_m n).n = n ∧ (scope_Open_2_m n).out = outS Tryd.prog [.tmp 3] [] [0] 1 scope_Open_2_o1 (alT tyB alN) ∧ (scope_Open_2_m n).isE = tabI [] := ⟨rfl, rfl, rfl, rfl, rfl, rfl, rfl, rfl⟩
theorem scope_Open_2_c (n : Nat) : (scope_Open_2_m n).body = (Tryd.f56.body).getD .skip := rfl
theorem scope_Open_2_d (n : Nat) : drawP (scope_Open_2_m n) [0, 1] = true := by kernel_rfl
noncomputable def scope_Open_2_e (n : Nat) : { B : Decl → Str → Option ((((Str × Unit) × Unit) × Unit) × (Bool × Unit)) // ∀ (a0 : Decl) (o0 : Str), run (scope_Open_2_m n) [.at []] { slots := ((alT (tyC Decl.cel) (alP 0 alN)).enc (scope_Open_2_os.lens (((o0, ()), ()), ())) (a0, ())) ++ List.replicate (8 - ((alT (tyC Decl.cel) (alP 0 alN)).enc (scope_Open_2_os.lens (((o0, ()), ()), ())) (a0, ())).length) .any, heap := (scope_Open_2_os.enc (scope_Open_2_os.lens (((o0, ()), ()), ())) (((o0, ()), ()), ())), low := (scope_Open_2_os.enc (scope_Open_2_os.lens (((o0, ()), ()), ())) (((o0, ()), ()), ())).length } = B a0 o0 } := by
  apply Subtype.mk
  intro a0 o0
  simp (config := { maxSteps := 100000000 }) only [go_sem, Nat.reduceAdd, Nat.reduceSub, Nat.reduceLeDiff, Nat.reduceEqDiff, Nat.reduceBEq, Nat.reduceMul, Nat.reduceLT, Int.reduceLE, Int.reduceLT, Int.reduceToNat, Int.reduceBEq, Int.reduceEq, scope_Open_2_f, scope_Open_2_c, Tryd.f56, Option.getD_some, mixed, scope_Open_2_os, scope_Open_2_o1, scope_Open_2_d]
  exact rfl
noncomputable def scope_Open_2 : Nat → Decl → Str → Option ((((Str × Unit) × Unit) × Unit) × (Bool × Unit))
  | 0, _, _ => none
  | n + 1, a0, o0 => (scope_Open_2_e n).1 a0 o0
theorem scope_Open_2_ok : ∀ (n : Nat) (a0 : Decl) (o0 : Str) (r : ((((Str × Unit) × Unit) × Unit) × (Bool × Unit))), scope_Open_2 n a0 o0 = some r → FnG Tryd.prog 56 ((alT (tyC Decl.cel) (alP 0 alN)).enc (scope_Open_2_os.lens (((o0, ()), ()), ())) (a0, ())) (scope_Open_2_os.enc (scope_Open_2_os.lens (((o0, ()), ()), ())) (((o0, ()), ()), ())) (fun o H' => o = .ret (tupOf ((alT tyB alN).enc (scope_Open_2_o1.lens r.1) r.2)) ∧ H' = scope_Open_2_o1.enc (scope_Open_2_o1.lens r.1) r.1)
  | 0, _, _, _, h => by cases h
  | n + 1, a0, o0, r, h => by
    exact fnG_run (M := scope_Open_2_m n) ⟨tabA_nil_ok, (tabD_cons_ok (ent2_okD (slices_ContainsFunc_string_scope_Open_1_ok n)) (tabD_cons_ok (ent1_okD (signature_Names_ok n)) tabD_nil_ok)), tabN_ok _, tabF_ok _, noY_ok, noE_ok⟩ Tryd.func56 rfl rfl (nbL_le (Nat.le_trans (of_decide_eq_true (by kernel_rfl)) (Nat.le_of_eq (scope_Open_2_os.sz _ _).symm)) _ ((alT (tyC Decl.cel) (alP 0 alN)).nb _ _)) (fun x hx => objNb_le' (Nat.le_trans (of_decide_eq_true (by kernel_rfl)) (Nat.le_of_eq (scope_Open_2_os.sz _ _).symm)) _ (scope_Open_2_os.nb _ _ x hx)) Tryd.ntmps56 Tryd.results56 (fun σ hs => outS_ok (P := Tryd.prog) (rs := [.tmp 3]) (pos := []) (base := [0]) (low := 1) (os := scope_Open_2_o1) (s := (alT tyB alN)) (σ := σ) (r := r) (by rfl) hs) (((scope_Open_2_e n).2 a0 o0).trans h)
end Go.Abs
namespace Go.Abs
open Go.Proofs
set_option maxRecDepth 100000
set_option maxHeartbeats 4000000
set_option linter.unusedSimpArgs false
set_option linter.unusedVariables false
noncomputable def scope_Resolve_k0_1_0_1_1 : LoopC := (lkAt [(1, .ret)] (sub [0, 1, 0, 1, 1] ((Tryd.f11.body).getD .skip)))
theorem scope_Resolve_k0_1_0_1_1_f : scope_Resolve_k0_1_0_1_1.ps.size = 1 ∧ ∀ j : Int, pendOf scope_Resolve_k0_1_0_1_1.js j = bif j == 0 then none else some .ret := ⟨by kernel_rfl, fun j => rfl⟩
noncomputable def scope_Resolve_k0_1_0_1_1_r_os : OL (Unit × ((State × Unit) × ((Str × Unit) × ((Str × Unit) × ((Int × Unit) × Unit))))) := (olC (ogL0 scope_Resolve_k0_1_0_1_1 (alZ (alZ (alP 1 (alP 2 (alP 3 (alP 4 (alZs 35 alN)))))))) (olC (ogC (alC State.cel 7 alN)) (olC (ogC (alC cS 1 alN)) (olC (ogC (alC cS 1 alN)) (olC (ogC (alC (cI .i64) 1 alN)) olN)))))
noncomputable def scope_Resolve_k0_1_0_1_1_r_o1 : OL ((Unit × Int) × ((State × Unit) × ((Str × Unit) × ((Str × Unit) × ((Int × Unit) × Unit))))) := (olC (ogL scope_Resolve_k0_1_0_1_1 (alZ (alZ (alP 1 (alP 2 (alP 3 (alP 4 (alZs 35 alN)))))))) (olC (ogC (alC State.cel 7 alN)) (olC (ogC (alC cS 1 alN)) (olC (ogC (alC cS 1 alN)) (olC (ogC (alC (cI .i64) 1 alN)) olN)))))
noncomputable def scope_Resolve_k0_1_0_1_1_r_m (n : Nat) : Mach (((Unit × Int) × ((State × Unit) × ((Str × Unit) × ((Str × Unit) × ((Int × Unit) × Unit))))) × (Bool × Unit)) where
  body := .seq (asgnC (sub [0, 1, 0, 1, 1] ((Tryd.f11.body).getD .skip))) (bdyC (sub [0, 1, 0, 1, 1] ((Tryd.f11.body).getD .skip)))
  P := Tryd.prog
  cl := tabA [(15, ent2 (tyC State.cel) tyS tyB (scope_Declared n)), (38, ent2 (tyL rowS) tyS tyS (scope_path_joined n))]
  cd := tabD []
  nrm := tabN []
  cut := tabF []
  n := n
  out := (fun _ => none)
  outR := outRd [(1, .ret)] [] [0, 1, 2, 3, 4] 5 scope_Resolve_k0_1_0_1_1_r_o1
theorem scope_Resolve_k0_1_0_1_1_r_f (n : Nat) : (scope_Resolve_k0_1_0_1_1_r_m n).P = Tryd.prog ∧ (scope_Resolve_k0_1_0_1_1_r_m n).cl = tabA [(15, ent2 (tyC State.cel) tyS tyB (scope_Declared n)), (38, ent2 (tyL rowS) tyS tyS (scope_path_joined n))] ∧ (scope_Resolve_k0_1_0_1_1_r_m n).cd = tabD [] ∧ (scope_Resolve_k0_1_0_1_1_r_m n).nrm = tabN [] ∧ (scope_Resolve_k0_1_0_1_1_r_m n).cut = tabF [] ∧ (scope_Resolve_k0_1_0_1_1_r_m n).n = n ∧ (scope_Resolve_k0_1_0_1_1_r_m n).out = (fun _ => none) ∧ (scope_Resolve_k0_1_0_1_1_r_m n).outR = outRd [(1, .ret)] [] [0, 1, 2, 3, 4] 5 scope_Resolve_k0_1_0_1_1_r_o1 := ⟨rfl, rfl, rfl, rfl, rfl, rfl, rfl, rfl⟩
theorem scope_Resolve_k0_1_0_1_1_r_c (n : Nat) : (scope_Resolve_k0_1_0_1_1_r_m n).body = .seq (asgnC (sub [0, 1, 0, 1, 1] ((Tryd.f11.body).getD .skip))) (bdyC (sub [0, 1, 0, 1, 1] ((Tryd.f11.body).getD .skip))) := rfl
theorem scope_Resolve_k0_1_0_1_1_r_s : Code.seq (asgnC (sub [0, 1, 0, 1, 1] ((Tryd.f11.body).getD .skip))) (bdyC (sub [0, 1, 0, 1, 1] ((Tryd.f11.body).getD .skip))) = Code.seq scope_Resolve_k0_1_0_1_1.assign scope_Resolve_k0_1_0_1_1.body := by kernel_rfl
noncomputable def scope_Resolve_k0_1_0_1_1_r_e (n : Nat) : { B : (List Str) → State → Str → Str → Int → Option (((Unit × Int) × ((State × Unit) × ((Str × Unit) × ((Str × Unit) × ((Int × Unit) × Unit))))) × (Bool × Unit)) // ∀ (a0 : (List Str)) (o0 : State) (o1 : Str) (o2 : Str) (o3 : Int), run (scope_Resolve_k0_1_0_1_1_r_m n) [.at [0], .rb, .at [1], .rd] { slots := setPs ((alZ (alZ (alP 1 (alP 2 (alP 3 (alP 4 (alZs 35 alN))))))).enc (scope_Resolve_k0_1_0_1_1_r_os.lens ((), (o0, ()), (o1, ()), (o2, ()), (o3, ()), ())) ()) [14] ((alT (tyL rowS) alN).enc (scope_Resolve_k0_1_0_1_1_r_os.lens ((), (o0, ()), (o1, ()), (o2, ()), (o3, ()), ())) (a0, ())), heap := (scope_Resolve_k0_1_0_1_1_r_os.enc (scope_Resolve_k0_1_0_1_1_r_os.lens ((), (o0, ()), (o1, ()), (o2, ()), (o3, ()), ())) ((), (o0, ()), (o1, ()), (o2, ()), (o3, ()), ())), low := (scope_Resolve_k0_1_0_1_1_r_os.enc (scope_Resolve_k0_1_0_1_1_r_os.lens ((), (o0, ()), (o1, ()), (o2, ()), (o3, ()), ())) ((), (o0, ()), (o1, ()), (o2, ()), (o3, ()), ())).length } = B a0 o0 o1 o2 o3 } := by
  apply Subtype.mk
  intro a0 o0 o1 o2 o3
  simp (config := { maxSteps := 100000000 }) only [go_sem, Nat.reduceAdd, Nat.reduceSub, Nat.reduceLeDiff, Nat.reduceEqDiff, Nat.reduceBEq, Nat.reduceMul, Nat.reduceLT, Int.reduceLE, Int.reduceLT, Int.reduceToNat, Int.reduceBEq, Int.reduceEq, scope_Resolve_k0_1_0_1_1_r_f, scope_Resolve_k0_1_0_1_1_r_c, Tryd.f11, Option.getD_some, mixed, scope_Resolve_k0_1_0_1_1_r_os, scope_Resolve_k0_1_0_1_1_r_o1, scope_Resolve_k0_1_0_1_1_f]
  exact rfl
noncomputable def scope_Resolve_k0_1_0_1_1_r : Nat → (List Str) → State → Str → Str → Int → Option (((Unit × Int) × ((State × Unit) × ((Str × Unit) × ((Str × Unit) × ((Int × Unit) × Unit))))) × (Bool × Unit))
  | 0, _, _, _, _, _ => none
  | n + 1, a0, o0, o1, o2, o3 => (scope_Resolve_k0_1_0_1_1_r_e n).1 a0 o0 o1 o2 o3
theorem scope_Resolve_k0_1_0_1_1_r_ok : ∀ (n : Nat) (a0 : (List Str)) (o0 : State) (o1 : Str) (o2 : Str) (o3 : Int) (r : (((Unit × Int) × ((State × Unit) × ((Str × Unit) × ((Str × Unit) × ((Int × Unit) × Unit))))) × (Bool × Unit))), scope_Resolve_k0_1_0_1_1_r n a0 o0 o1 o2 o3 = some r → FnT Tryd.prog (Rounds Tryd.prog) ((alT (tyL rowS) alN).enc (scope_Resolve_k0_1_0_1_1_r_os.lens ((), (o0, ()), (o1, ()), (o2, ()), (o3, ()), ())) (a0, ())) (scope_Resolve_k0_1_0_1_1_r_os.enc (scope_Resolve_k0_1_0_1_1_r_os.lens ((), (o0, ()), (o1, ()), (o2, ()), (o3, ()), ())) ((), (o0, ()), (o1, ()), (o2, ()), (o3, ()), ())) (fun o H' => o = .ret (tupOf ((alT tyB alN).enc (scope_Resolve_k0_1_0_1_1_r_o1.lens r.1) r.2)) ∧ H' = scope_Resolve_k0_1_0_1_1_r_o1.enc (scope_Resolve_k0_1_0_1_1_r_o1.lens r.1) r.1)
  | 0, _, _, _, _, _, _, h => by cases h
  | n + 1, a0, o0, o1, o2, o3, r, h => by
    exact fnT_run (M := scope_Resolve_k0_1_0_1_1_r_m n) (lk := scope_Resolve_k0_1_0_1_1) (slots := ((alZ (alZ (alP 1 (alP 2 (alP 3 (alP 4 (alZs 35 alN))))))).enc (scope_Resolve_k0_1_0_1_1_r_os.lens ((), (o0, ()), (o1, ()), (o2, ()), (o3, ()), ())) ())) ⟨(tabA_cons_ok (ent2_ok (scope_Declared_ok n)) (tabA_cons_ok (ent2_ok (scope_path_joined_ok n)) tabA_nil_ok)), tabD_nil_ok, tabN_ok _, tabF_ok _, noY_ok, noE_ok⟩ scope_Resolve_k0_1_0_1_1_r_s (by kernel_rfl) ⟨by kernel_rfl, by kernel_rfl⟩ rfl (nbL_le (Nat.le_trans (of_decide_eq_true (by kernel_rfl)) (Nat.le_of_eq (scope_Resolve_k0_1_0_1_1_r_os.sz _ _).symm)) _ ((alT (tyL rowS) alN).nb _ _)) (fun x hx => objNb_le' (Nat.le_trans (of_decide_eq_true (by kernel_rfl)) (Nat.le_of_eq (scope_Resolve_k0_1_0_1_1_r_os.sz _ _).symm)) _ (scope_Resolve_k0_1_0_1_1_r_os.nb _ _ x hx)) (fun e σ hs => outRd_ok (js := [(1, .ret)]) (pos := []) (base := [0, 1, 2, 3, 4]) (low := 5) (os := scope_Resolve_k0_1_0_1_1_r_o1) (e := e) (σ := σ) (r := r) (by rfl) hs) (((scope_Resolve_k0_1_0_1_1_r_e n).2 a0 o0 o1 o2 o3).trans h)

noncomputable def scope_opened_n1 : Nrm := ⟨[(5, 1, true)], [], [zA, zK, zK, zA, zA, zK, zA, zA, zA, zA, zT (tyL rowS), zK, zK, zA, zA, zA, zA, zA, zA, zA, zA, zA, zA, zA, zA, zA, zA, zA, zA, zA, zA, zA, zA, zA, zA], [oT State.cel, oA rowS], none⟩
noncomputable def scope_opened_m (n : Nat) : Mach (List Str) where
  body := (Tryd.f39.body).getD .skip
  P := Tryd.prog
  cl := tabA [(15, ent2 (tyC State.cel) tyS tyB (scope_Declared n)), (32, ent2 (tyL rowS) tyS tyB (slices_Contains_string n)), (38, ent2 (tyL rowS) tyS tyS (scope_path_joined n))]
  cd := tabD []
  nrm := tabN [([0, 1, 0, 1, 1], scope_opened_n1)]
  cut := tabF []
  n := n
  out := outR Tryd.prog [.tmp 4] (tyL rowS)
theorem scope_opened_f (n : Nat) : (scope_opened_m n).P = Tryd.prog ∧ (scope_opened_m n).cl = tabA [(15, ent2 (tyC State.cel) tyS tyB (scope_Declared n)), (32, ent2 (tyL rowS) tyS tyB (slices_Contains_string n)), (38, ent2 (tyL rowS) tyS tyS (scope_path_joined n))] ∧ (scope_opened_m n).cd = tabD [] ∧ (scope_opened_m n).nrm = tabN [([0, 1, 0, 1, 1], scope_opened_n1)] ∧ (scope_opened_m n).cut = tabF [] ∧ (scope_opened_m n).n = n ∧ (scope_opened_m n).out = outR Tryd.prog [.tmp 4] (tyL rowS) := ⟨rfl, rfl, rfl, rfl, rfl, rfl, rfl⟩
theorem scope_opened_c (n : Nat) : (scope_opened_m n).body = (Tryd.f39.body).getD .skip := rfl
noncomputable def scope_opened_b1 (n : Nat) : { B : (Str → (List Str) → Int → Int → State → (List Str) → Option (List Str)) → Str → (List Str) → Int → Int → State → (List Str) → Option (List Str) // ∀ m X0, (∀ (v0 : Str) (v1 : List Str) (v2 : Int) (v3 : Int) (o0 : State) (r1 : List Str) (c1 : Nat), c1 = r1.length → run (scope_opened_m n) [.lq m [0, 1, 0, 1, 1], .blk 0, .cut [1, 1, 1], .at [1, 1, 1]] ⟨[.any, .str (sb v0), .ptr 0 0, .any, .any, .acc 1 c1, .any, .any, .any, .any, .lst false 1 (mp scell v1), .int .i64 v2, .int .i64 v3, .any, .any, .any, .any, .any, .any, .any, .any, .any, .any, .any, .any, .any, .any, .any, .any, .any, .any, .any, .any, .any, .any], [.cells (State.cells o0), .acc true 1 (mp scell r1)], 0⟩ = X0 v0 v1 v2 v3 o0 r1) → ∀ (v0 : Str) (v1 : List Str) (v2 : Int) (v3 : Int) (o0 : State) (r1 : List Str), run (scope_opened_m n) [.at [0, 0, 1, 0, 1, 1], .lp m [0, 1, 0, 1, 1], .blk 0, .cut [1, 1, 1], .at [1, 1, 1]] ⟨[.any, .str (sb v0), .ptr 0 0, .any, .any, .acc 1 r1.length, .any, .any, .any, .any, .lst false 1 (mp scell v1), .int .i64 v2, .int .i64 v3, .any, .any, .any, .any, .any, .any, .any, .any, .any, .any, .any, .any, .any, .any, .any, .any, .any, .any, .any, .any, .any, .any], [.cells (State.cells o0), .acc true 1 (mp scell r1)], 0⟩ = B X0 v0 v1 v2 v3 o0 r1 } := by
  apply Subtype.mk
  intro m X0 ih v0 v1 v2 v3 o0 r1
  simp (config := { maxSteps := 100000000 }) only [go_sem, Nat.reduceAdd, Nat.reduceSub, Nat.reduceLeDiff, Nat.reduceEqDiff, Nat.reduceBEq, Nat.reduceMul, Nat.reduceLT, Int.reduceLE, Int.reduceLT, Int.reduceToNat, Int.reduceBEq, Int.reduceEq, scope_opened_f, scope_opened_c, Tryd.f39, Option.getD_some, mixed, scope_opened_n1, ih]
  exact rfl
noncomputable def scope_opened_l1 (n : Nat) : Nat → Str → (List Str) → Int → Int → State → (List Str) → Option (List Str)
  | 0, _, _, _, _, _, _ => none
  | m + 1, v0, v1, v2, v3, o0, r1 => (scope_opened_b1 n).1 (scope_opened_l1 n m) v0 v1 v2 v3 o0 r1
theorem scope_opened_l1_eq (n : Nat) : ∀ (m : Nat), (∀ (v0 : Str) (v1 : List Str) (v2 : Int) (v3 : Int) (o0 : State) (r1 : List Str) (c1 : Nat), c1 = r1.length → run (scope_opened_m n) [.lq m [0, 1, 0, 1, 1], .blk 0, .cut [1, 1, 1], .at [1, 1, 1]] ⟨[.any, .str (sb v0), .ptr 0 0, .any, .any, .acc 1 c1, .any, .any, .any, .any, .lst false 1 (mp scell v1), .int .i64 v2, .int .i64 v3, .any, .any, .any, .any, .any, .any, .any, .any, .any, .any, .any, .any, .any, .any, .any, .any, .any, .any, .any, .any, .any, .any], [.cells (State.cells o0), .acc true 1 (mp scell r1)], 0⟩ = scope_opened_l1 n m v0 v1 v2 v3 o0 r1)
  | 0 => by intros; exact run_lq_zero
  | m + 1 => by
    have ih := scope_opened_l1_eq n m
    intro v0 v1 v2 v3 o0 r1 c1 ec1
    subst ec1
    rw [run_lq_succ]
    exact (scope_opened_b1 n).2  m _  ih v0 v1 v2 v3 o0 r1
noncomputable def scope_opened_e (n : Nat) : { B : State → Str → Option (List Str) // ∀ (a0 : State) (a1 : Str), run (scope_opened_m n) [.at []] { slots := [(tyC State.cel).enc a0, tyS.enc a1] ++ List.replicate (35 - [(tyC State.cel).enc a0, tyS.enc a1].length) .any, heap := [] } = B a0 a1 } := by
  apply Subtype.mk
  intro a0 a1
  simp (config := { maxSteps := 100000000 }) only [go_sem, Nat.reduceAdd, Nat.reduceSub, Nat.reduceLeDiff, Nat.reduceEqDiff, Nat.reduceBEq, Nat.reduceMul, Nat.reduceLT, Int.reduceLE, Int.reduceLT, Int.reduceToNat, Int.reduceBEq, Int.reduceEq, scope_opened_f, scope_opened_c, Tryd.f39, Option.getD_some, mixed, scope_opened_n1, scope_opened_l1_eq n]
  exact rfl
noncomputable def scope_opened : Nat → State → Str → Option (List Str)
  | 0, _, _ => none
  | n + 1, a0, a1 => (scope_opened_e n).1 a0 a1
theorem scope_opened_ok : ∀ (n : Nat) (a0 : State) (a1 : Str) (r : (List Str)), scope_opened n a0 a1 = some r → FnC Tryd.prog 39 [(tyC State.cel).enc a0, tyS.enc a1] (fun v => v = (tyL rowS).enc r)
  | 0, _, _, _, h => by cases h
  | n + 1, a0, a1, r, h => by
    exact fnC_run (M := scope_opened_m n) ⟨(tabA_cons_ok (ent2_ok (scope_Declared_ok n)) (tabA_cons_ok (ent2_ok (slices_Contains_string_ok n)) (tabA_cons_ok (ent2_ok (scope_path_joined_ok n)) tabA_nil_ok))), tabD_nil_ok, tabN_ok _, tabF_ok _, noY_ok, noE_ok⟩ Tryd.func39 rfl rfl ⟨(tyC State.cel).nb 0 _, tyS.nb 0 _, trivial⟩ Tryd.ntmps39 Tryd.results39 (fun σ hs => outR_ok (P := Tryd.prog) (rs := [.tmp 4]) (t := (tyL rowS)) (σ := σ) (r := r) hs) (((scope_opened_e n).2 a0 a1).trans h)

noncomputable def slices_IndexFunc_Decl_scope_Open_2_n1 : Nrm := ⟨[], [], [zT (tyL Decl.row), zK, zA, zA, zA, zA, zA, zK, zK, zA, zA, zA, zA, zA, zA, zA, zA, zA, zA], [oC [zT (tyK1 54 (tyP cS))]], none⟩
noncomputable def slices_IndexFunc_Decl_scope_Open_2_as : AL ((List Decl) × (Unit × Unit)) := (alT (tyL Decl.row) (alF 56 (vlP 0 vlN) alN))
noncomputable def slices_IndexFunc_Decl_scope_Open_2_os : OL (((Str × Unit) × Unit) × Unit) := (olC (ogC (alF 54 (vlT (tyP cS) vlN) alN)) olN)
noncomputable def slices_IndexFunc_Decl_scope_Open_2_o1 : OL (((Str × Unit) × Unit) × Unit) := (olC (ogC (alF 54 (vlT (tyP cS) vlN) alN)) olN)
noncomputable def slices_IndexFunc_Decl_scope_Open_2_m (n : Nat) : Mach ((((Str × Unit) × Unit) × Unit) × (Int × Unit)) where
  body := (Tryd.f65.body).getD .skip
  P := Tryd.prog
  cl := tabA [(56, entX [.arg 1 []] scope_Open_2_os (alT (tyC Decl.cel) (alP 0 alN)) scope_Open_2_o1 (alT tyB alN) (fun (b : (((Str × Unit) × Unit) × Unit)) (a : (Decl × Unit)) => (scope_Open_2 n) a.1 b.1.1.1))]
  cd := tabD []
  nrm := tabN [([0, 1, 0, 1], slices_IndexFunc_Decl_scope_Open_2_n1)]
  cut := tabF []
  n := n
  out := outS Tryd.prog [.tmp 4] [] [0] 1 slices_IndexFunc_Decl_scope_Open_2_o1 (alT (tyI .i64) alN)
theorem slices_IndexFunc_Decl_scope_Open_2_f (n : Nat) : (slices_IndexFunc_Decl_scope_Open_2_m n).P = Tryd.prog ∧ (slices_IndexFunc_Decl_scope_Open_2_m n).cl = tabA [(56, entX [.arg 1 []] scope_Open_2_os (alT (tyC Decl.cel) (alP 0 alN)) scope_Open_2_o1 (alT tyB alN) (fun (b : (((Str × Unit) × Unit) × Unit)) (a : (Decl × Unit)) => (scope_Open_2 n) a.1 b.1.1.1))] ∧ (slices_IndexFunc_Decl_scope_Open_2_m n).cd = tabD [] ∧ (slices_IndexFunc_Decl_scope_Open_2_m n).nrm = tabN [([0, 1, 0, 1], slices_IndexFunc_Decl_scope_Open_2_n1)] ∧ (slices_IndexFunc_Decl_scope_Open_2_m n).cut = tabF [] ∧ (slices_IndexFunc_Decl_scope_Open_2_m n).n = n ∧ (slices_IndexFunc_Decl_scope_Open_2_m n).out = outS Tryd.prog [.tmp 4] [] [0] 1 slices_IndexFunc_Decl_scope_Open_2_o1 (alT (tyI .i64) alN) := ⟨rfl, rfl, rfl, rfl, rfl, rfl, rfl⟩
theorem slices_IndexFunc_Decl_scope_Open_2_c (n : Nat) : (slices_IndexFunc_Decl_scope_Open_2_m n).body = (Tryd.f65.body).getD .skip := rfl
noncomputable def slices_IndexFunc_Decl_scope_Open_2_b1 (n : Nat) : { B : ((List Decl) → Int → Int → Str → Option ((((Str × Unit) × Unit) × Unit) × (Int × Unit))) → (List Decl) → Int → Int → Str → Option ((((Str × Unit) × Unit) × Unit) × (Int × Unit)) // ∀ m X0, (∀ (v0 : List Decl) (v1 : Int) (v2 : Int) (v3 : Str), run (slices_IndexFunc_Decl_scope_Open_2_m n) [.lq m [0, 1, 0, 1], .blk 0, .cut [1, 1], .at [1, 1]] ⟨[.lst false 23 (mp Decl.cells v0), .func (.func 56) [] [.ptr 0 0], .any, .any, .any, .any, .any, .int .i64 v1, .int .i64 v2, .any, .any, .any, .any, .any, .any, .any, .any, .any, .any], [.cells [.func (.func 54) [] [.pp [.str (sb v3)]]]], 1⟩ = X0 v0 v1 v2 v3) → ∀ (v0 : List Decl) (v1 : Int) (v2 : Int) (v3 : Str), run (slices_IndexFunc_Decl_scope_Open_2_m n) [.at [0, 0, 1, 0, 1], .lp m [0, 1, 0, 1], .blk 0, .cut [1, 1], .at [1, 1]] ⟨[.lst false 23 (mp Decl.cells v0), .func (.func 56) [] [.ptr 0 0], .any, .any, .any, .any, .any, .int .i64 v1, .int .i64 v2, .any, .any, .any, .any, .any, .any, .any, .any, .any, .any], [.cells [.func (.func 54) [] [.pp [.str (sb v3)]]]], 1⟩ = B X0 v0 v1 v2 v3 } := by
  apply Subtype.mk
  intro m X0 ih v0 v1 v2 v3
  simp (config := { maxSteps := 100000000 }) only [go_sem, Nat.reduceAdd, Nat.reduceSub, Nat.reduceLeDiff, Nat.reduceEqDiff, Nat.reduceBEq, Nat.reduceMul, Nat.reduceLT, Int.reduceLE, Int.reduceLT, Int.reduceToNat, Int.reduceBEq, Int.reduceEq, slices_IndexFunc_Decl_scope_Open_2_f, slices_IndexFunc_Decl_scope_Open_2_c, Tryd.f65, Option.getD_some, mixed, slices_IndexFunc_Decl_scope_Open_2_as, slices_IndexFunc_Decl_scope_Open_2_os, slices_IndexFunc_Decl_scope_Open_2_o1, scope_Open_2_os, scope_Open_2_o1, slices_IndexFunc_Decl_scope_Open_2_n1, ih]
  exact rfl
noncomputable def slices_IndexFunc_Decl_scope_Open_2_l1 (n : Nat) : Nat → (List Decl) → Int → Int → Str → Option ((((Str × Unit) × Unit) × Unit) × (Int × Unit))
  | 0, _, _, _, _ => none
  | m + 1, v0, v1, v2, v3 => (slices_IndexFunc_Decl_scope_Open_2_b1 n).1 (slices_IndexFunc_Decl_scope_Open_2_l1 n m) v0 v1 v2 v3
theorem slices_IndexFunc_Decl_scope_Open_2_l1_eq (n : Nat) : ∀ (m : Nat), (∀ (v0 : List Decl) (v1 : Int) (v2 : Int) (v3 : Str), run (slices_IndexFunc_Decl_scope_Open_2_m n) [.lq m [0, 1, 0, 1], .blk 0, .cut [1, 1], .at [1, 1]] ⟨[.lst false 23 (mp Decl.cells v0), .func (.func 56) [] [.ptr 0 0], .any, .any, .any, .any, .any, .int .i64 v1, .int .i64 v2, .any, .any, .any, .any, .any, .any, .any, .any, .any, .any], [.cells [.func (.func 54) [] [.pp [.str (sb v3)]]]], 1⟩ = slices_IndexFunc_Decl_scope_Open_2_l1 n m v0 v1 v2 v3)
  | 0 => by intros; exact run_lq_zero
  | m + 1 => by
    have ih := slices_IndexFunc_Decl_scope_Open_2_l1_eq n m
    intro v0 v1 v2 v3
    rw [run_lq_succ]
    exact (slices_IndexFunc_Decl_scope_Open_2_b1 n).2  m _  ih v0 v1 v2 v3
noncomputable def slices_IndexFunc_Decl_scope_Open_2_e (n : Nat) : { B : (List Decl) → Str → Option ((((Str × Unit) × Unit) × Unit) × (Int × Unit)) // ∀ (a0 : (List Decl)) (o0 : Str), run (slices_IndexFunc_Decl_scope_Open_2_m n) [.at []] { slots := (slices_IndexFunc_Decl_scope_Open_2_as.enc (slices_IndexFunc_Decl_scope_Open_2_os.lens (((o0, ()), ()), ())) (a0, (), ())) ++ List.replicate (19 - (slices_IndexFunc_Decl_scope_Open_2_as.enc (slices_IndexFunc_Decl_scope_Open_2_os.lens (((o0, ()), ()), ())) (a0, (), ())).length) .any, heap := (slices_IndexFunc_Decl_scope_Open_2_os.enc (slices_IndexFunc_Decl_scope_Open_2_os.lens (((o0, ()), ()), ())) (((o0, ()), ()), ())), low := (slices_IndexFunc_Decl_scope_Open_2_os.enc (slices_IndexFunc_Decl_scope_Open_2_os.lens (((o0, ()), ()), ())) (((o0, ()), ()), ())).length } = B a0 o0 } := by
  apply Subtype.mk
  intro a0 o0
  simp (config := { maxSteps := 100000000 }) only [go_sem, Nat.reduceAdd, Nat.reduceSub, Nat.reduceLeDiff, Nat.reduceEqDiff, Nat.reduceBEq, Nat.reduceMul, Nat.reduceLT, Int.reduceLE, Int.reduceLT, Int.reduceToNat, Int.reduceBEq, Int.reduceEq, slices_IndexFunc_Decl_scope_Open_2_f, slices_IndexFunc_Decl_scope_Open_2_c, Tryd.f65, Option.getD_some, mixed, slices_IndexFunc_Decl_scope_Open_2_as, slices_IndexFunc_Decl_scope_Open_2_os, slices_IndexFunc_Decl_scope_Open_2_o1, scope_Open_2_os, scope_Open_2_o1, slices_IndexFunc_Decl_scope_Open_2_n1, slices_IndexFunc_Decl_scope_Open_2_l1_eq n]
  exact rfl
noncomputable def slices_IndexFunc_Decl_scope_Open_2 : Nat → (List Decl) → Str → Option ((((Str × Unit) × Unit) × Unit) × (Int × Unit))
  | 0, _, _ => none
  | n + 1, a0, o0 => (slices_IndexFunc_Decl_scope_Open_2_e n).1 a0 o0
theorem slices_IndexFunc_Decl_scope_Open_2_ok : ∀ (n : Nat) (a0 : (List Decl)) (o0 : Str) (r : ((((Str × Unit) × Unit) × Unit) × (Int × Unit))), slices_IndexFunc_Decl_scope_Open_2 n a0 o0 = some r → FnG Tryd.prog 65 (slices_IndexFunc_Decl_scope_Open_2_as.enc (slices_IndexFunc_Decl_scope_Open_2_os.lens (((o0, ()), ()), ())) (a0, (), ())) (slices_IndexFunc_Decl_scope_Open_2_os.enc (slices_IndexFunc_Decl_scope_Open_2_os.lens (((o0, ()), ()), ())) (((o0, ()), ()), ())) (fun o H' => o = .ret (tupOf ((alT (tyI .i64) alN).enc (slices_IndexFunc_Decl_scope_Open_2_o1.lens r.1) r.2)) ∧ H' = slices_IndexFunc_Decl_scope_Open_2_o1.enc (slices_IndexFunc_Decl_scope_Open_2_o1.lens r.1) r.1)
  | 0, _, _, _, h => by cases h
  | n + 1, a0, o0, r, h => by
    exact fnG_run (M := slices_IndexFunc_Decl_scope_Open_2_m n) ⟨(tabA_cons_ok (entX_ok (fun b a r h => (scope_Open_2_ok n) a.1 b.1.1.1 r h)) tabA_nil_ok), tabD_nil_ok, tabN_ok _, tabF_ok _, noY_ok, noE_ok⟩ Tryd.func65 rfl rfl (nbL_le (Nat.le_trans (of_decide_eq_true (by kernel_rfl)) (Nat.le_of_eq (slices_IndexFunc_Decl_scope_Open_2_os.sz _ _).symm)) _ (slices_IndexFunc_Decl_scope_Open_2_as.nb _ _)) (fun x hx => objNb_le' (Nat.le_trans (of_decide_eq_true (by kernel_rfl)) (Nat.le_of_eq (slices_IndexFunc_Decl_scope_Open_2_os.sz _ _).symm)) _ (slices_IndexFunc_Decl_scope_Open_2_os.nb _ _ x hx)) Tryd.ntmps65 Tryd.results65 (fun σ hs => outS_ok (P := Tryd.prog) (rs := [.tmp 4]) (pos := []) (base := [0]) (low := 1) (os := slices_IndexFunc_Decl_scope_Open_2_o1) (s := (alT (tyI .i64) alN)) (σ := σ) (r := r) (by rfl) hs) (((slices_IndexFunc_Decl_scope_Open_2_e n).2 a0 o0).trans h)
end Go.Abs
namespace Go.Abs
open Go.Proofs
set_option maxRecDepth 100000
set_option maxHeartbeats 4000000
set_option linter.unusedSimpArgs false
set_option linter.unusedVariables false
noncomputable def scope_enclosing_1_n1 : Nrm := ⟨[], [], [zK, zT (tyP State.cel), zA, zK, zA, zA, zA, zA, zA, zA, zA, zA, zA, zA, zA, zA, zA, zA], [oL [zA, zA, zK, zK, zK, zK, zA, zA, zA, zA, zA, zA, zA, zA, zA, zA, zA, zA, zA, zA, zA, zA, zA, zA, zA, zA, zA, zA, zA, zA, zA, zA, zA, zA, zA, zA, zA, zA, zA, zA, zA], oT State.cel, oC [zK], oC [zK], oC [zK]], none⟩
noncomputable def scope_enclosing_1_os : OL (Unit × ((State × Unit) × ((Str × Unit) × ((Str × Unit) × ((Int × Unit) × Unit))))) := (olC (ogL0 scope_Resolve_k0_1_0_1_1 (alZ (alZ (alP 1 (alP 2 (alP 3 (alP 4 (alZs 35 alN)))))))) (olC (ogC (alC State.cel 7 alN)) (olC (ogC (alC cS 1 alN)) (olC (ogC (alC cS 1 alN)) (olC (ogC (alC (cI .i64) 1 alN)) olN)))))
noncomputable def scope_enclosing_1_o1 : OL ((Unit × Int) × ((State × Unit) × ((Str × Unit) × ((Str × Unit) × ((Int × Unit) × Unit))))) := (olC (ogL scope_Resolve_k0_1_0_1_1 (alZ (alZ (alP 1 (alP 2 (alP 3 (alP 4 (alZs 35 alN)))))))) (olC (ogC (alC State.cel 7 alN)) (olC (ogC (alC cS 1 alN)) (olC (ogC (alC cS 1 alN)) (olC (ogC (alC (cI .i64) 1 alN)) olN)))))
noncomputable def scope_enclosing_1_m (n : Nat) : Mach (((Unit × Int) × ((State × Unit) × ((Str × Unit) × ((Str × Unit) × ((Int × Unit) × Unit))))) × Unit) where
  body := (Tryd.f62.body).getD .skip
  P := Tryd.prog
  cl := tabA []
  cd := tabD []
  nrm := tabN [([0, 1], scope_enclosing_1_n1)]
  cut := tabF []
  n := n
  out := outS Tryd.prog [] [] [0, 1, 2, 3, 4] 5 scope_enclosing_1_o1 alN
  cy := tabY [(0, entY [.obj 0 2 [], .obj 0 3 [], .obj 0 4 [], .obj 0 5 []] scope_Resolve_k0_1_0_1_1_r_os (alT (tyL rowS) alN) scope_Resolve_k0_1_0_1_1_r_o1 (alT tyB alN) (fun (b : (Unit × ((State × Unit) × ((Str × Unit) × ((Str × Unit) × ((Int × Unit) × Unit)))))) (a : ((List Str) × Unit)) => (scope_Resolve_k0_1_0_1_1_r n) a.1 b.2.1.1 b.2.2.1.1 b.2.2.2.1.1 b.2.2.2.2.1.1))]
theorem scope_enclosing_1_f (n : Nat) : (scope_enclosing_1_m n).P = Tryd.prog ∧ (scope_enclosing_1_m n).cl = tabA [] ∧ (scope_enclosing_1_m n).cd = tabD [] ∧ (scope_enclosing_1_m n).nrm = tabN [([0, 1], scope_enclosing_1_n1)] ∧ (scope_enclosing_1_m n).cut = tabF [] ∧ (scope_enclosing_1_m n).n = n ∧ (scope_enclosing_1_m n).out = outS Tryd.prog [] [] [0, 1, 2, 3, 4] 5 scope_enclosing_1_o1 alN ∧ (scope_enclosing_1_m n).cy = tabY [(0, entY [.obj 0 2 [], .obj 0 3 [], .obj 0 4 [], .obj 0 5 []] scope_Resolve_k0_1_0_1_1_r_os (alT (tyL rowS) alN) scope_Resolve_k0_1_0_1_1_r_o1 (alT tyB alN) (fun (b : (Unit × ((State × Unit) × ((Str × Unit) × ((Str × Unit) × ((Int × Unit) × Unit)))))) (a : ((List Str) × Unit)) => (scope_Resolve_k0_1_0_1_1_r n) a.1 b.2.1.1 b.2.2.1.1 b.2.2.2.1.1 b.2.2.2.2.1.1))] := ⟨rfl, rfl, rfl, rfl, rfl, rfl, rfl, rfl⟩
theorem scope_enclosing_1_c (n : Nat) : (scope_enclosing_1_m n).body = (Tryd.f62.body).getD .skip := rfl
noncomputable def scope_enclosing_1_b1 (n : Nat) : { B : (State → Int → Int → State → Str → Str → Int → Option (((Unit × Int) × ((State × Unit) × ((Str × Unit) × ((Str × Unit) × ((Int × Unit) × Unit))))) × Unit)) → State → Int → Int → State → Str → Str → Int → Option (((Unit × Int) × ((State × Unit) × ((Str × Unit) × ((Str × Unit) × ((Int × Unit) × Unit))))) × Unit) // ∀ m X0, (∀ (v0 : State) (v1 : Int) (j0 : Int) (o1 : State) (v4 : Str) (v5 : Str) (v6 : Int), run (scope_enclosing_1_m n) [.lq m [0, 1], .blk 0] ⟨[.map 0, .pp (State.cells v0), .any, .int .i64 v1, .any, .any, .any, .any, .any, .any, .any, .any, .any, .any, .any, .any, .any, .any], [.loop scope_Resolve_k0_1_0_1_1 [.any, .any, .ptr 1 0, .ptr 2 0, .ptr 3 0, .ptr 4 0, .any, .any, .any, .any, .any, .any, .any, .any, .any, .any, .any, .any, .any, .any, .any, .any, .any, .any, .any, .any, .any, .any, .any, .any, .any, .any, .any, .any, .any, .any, .any, .any, .any, .any, .any] (stJ scope_Resolve_k0_1_0_1_1 j0) j0, .cells (State.cells o1), .cells [.str (sb v4)], .cells [.str (sb v5)], .cells [.int .i64 v6]], 5⟩ = X0 v0 v1 j0 o1 v4 v5 v6) → ∀ (v0 : State) (v1 : Int) (j0 : Int) (o1 : State) (v4 : Str) (v5 : Str) (v6 : Int), run (scope_enclosing_1_m n) [.at [0, 0, 1], .lp m [0, 1], .blk 0] ⟨[.map 0, .pp (State.cells v0), .any, .int .i64 v1, .any, .any, .any, .any, .any, .any, .any, .any, .any, .any, .any, .any, .any, .any], [.loop scope_Resolve_k0_1_0_1_1 [.any, .any, .ptr 1 0, .ptr 2 0, .ptr 3 0, .ptr 4 0, .any, .any, .any, .any, .any, .any, .any, .any, .any, .any, .any, .any, .any, .any, .any, .any, .any, .any, .any, .any, .any, .any, .any, .any, .any, .any, .any, .any, .any, .any, .any, .any, .any, .any, .any] (stJ scope_Resolve_k0_1_0_1_1 j0) j0, .cells (State.cells o1), .cells [.str (sb v4)], .cells [.str (sb v5)], .cells [.int .i64 v6]], 5⟩ = B X0 v0 v1 j0 o1 v4 v5 v6 } := by
  apply Subtype.mk
  intro m X0 ih v0 v1 j0 o1 v4 v5 v6
  simp (config := { maxSteps := 100000000 }) only [go_sem, Nat.reduceAdd, Nat.reduceSub, Nat.reduceLeDiff, Nat.reduceEqDiff, Nat.reduceBEq, Nat.reduceMul, Nat.reduceLT, Int.reduceLE, Int.reduceLT, Int.reduceToNat, Int.reduceBEq, Int.reduceEq, scope_enclosing_1_f, scope_enclosing_1_c, Tryd.f62, Option.getD_some, mixed, scope_enclosing_1_os, scope_enclosing_1_o1, scope_Resolve_k0_1_0_1_1_r_os, scope_Resolve_k0_1_0_1_1_r_o1, scope_Resolve_k0_1_0_1_1_f, scope_enclosing_1_n1, ih]
  exact rfl
noncomputable def scope_enclosing_1_l1 (n : Nat) : Nat → State → Int → Int → State → Str → Str → Int → Option (((Unit × Int) × ((State × Unit) × ((Str × Unit) × ((Str × Unit) × ((Int × Unit) × Unit))))) × Unit)
  | 0, _, _, _, _, _, _, _ => none
  | m + 1, v0, v1, j0, o1, v4, v5, v6 => (scope_enclosing_1_b1 n).1 (scope_enclosing_1_l1 n m) v0 v1 j0 o1 v4 v5 v6
theorem scope_enclosing_1_l1_eq (n : Nat) : ∀ (m : Nat), (∀ (v0 : State) (v1 : Int) (j0 : Int) (o1 : State) (v4 : Str) (v5 : Str) (v6 : Int), run (scope_enclosing_1_m n) [.lq m [0, 1], .blk 0] ⟨[.map 0, .pp (State.cells v0), .any, .int .i64 v1, .any, .any, .any, .any, .any, .any, .any, .any, .any, .any, .any, .any, .any, .any], [.loop scope_Resolve_k0_1_0_1_1 [.any, .any, .ptr 1 0, .ptr 2 0, .ptr 3 0, .ptr 4 0, .any, .any, .any, .any, .any, .any, .any, .any, .any, .any, .any, .any, .any, .any, .any, .any, .any, .any, .any, .any, .any, .any, .any, .any, .any, .any, .any, .any, .any, .any, .any, .any, .any, .any, .any] (stJ scope_Resolve_k0_1_0_1_1 j0) j0, .cells (State.cells o1), .cells [.str (sb v4)], .cells [.str (sb v5)], .cells [.int .i64 v6]], 5⟩ = scope_enclosing_1_l1 n m v0 v1 j0 o1 v4 v5 v6)
  | 0 => by intros; exact run_lq_zero
  | m + 1 => by
    have ih := scope_enclosing_1_l1_eq n m
    intro v0 v1 j0 o1 v4 v5 v6
    rw [run_lq_succ]
    exact (scope_enclosing_1_b1 n).2  m _  ih v0 v1 j0 o1 v4 v5 v6
noncomputable def scope_enclosing_1_e (n : Nat) : { B : State → State → Str → Str → Int → Option (((Unit × Int) × ((State × Unit) × ((Str × Unit) × ((Str × Unit) × ((Int × Unit) × Unit))))) × Unit) // ∀ (a0 : State) (o0 : State) (o1 : Str) (o2 : Str) (o3 : Int), run (scope_enclosing_1_m n) [.at []] { slots := ((alM 0 (alT (tyP State.cel) alN)).enc (scope_enclosing_1_os.lens ((), (o0, ()), (o1, ()), (o2, ()), (o3, ()), ())) (a0, ())) ++ List.replicate (18 - ((alM 0 (alT (tyP State.cel) alN)).enc (scope_enclosing_1_os.lens ((), (o0, ()), (o1, ()), (o2, ()), (o3, ()), ())) (a0, ())).length) .any, heap := (scope_enclosing_1_os.enc (scope_enclosing_1_os.lens ((), (o0, ()), (o1, ()), (o2, ()), (o3, ()), ())) ((), (o0, ()), (o1, ()), (o2, ()), (o3, ()), ())), low := (scope_enclosing_1_os.enc (scope_enclosing_1_os.lens ((), (o0, ()), (o1, ()), (o2, ()), (o3, ()), ())) ((), (o0, ()), (o1, ()), (o2, ()), (o3, ()), ())).length } = B a0 o0 o1 o2 o3 } := by
  apply Subtype.mk
  intro a0 o0 o1 o2 o3
  simp (config := { maxSteps := 100000000 }) only [go_sem, Nat.reduceAdd, Nat.reduceSub, Nat.reduceLeDiff, Nat.reduceEqDiff, Nat.reduceBEq, Nat.reduceMul, Nat.reduceLT, Int.reduceLE, Int.reduceLT, Int.reduceToNat, Int.reduceBEq, Int.reduceEq, scope_enclosing_1_f, scope_enclosing_1_c, Tryd.f62, Option.getD_some, mixed, scope_enclosing_1_os, scope_enclosing_1_o1, scope_Resolve_k0_1_0_1_1_r_os, scope_Resolve_k0_1_0_1_1_r_o1, scope_Resolve_k0_1_0_1_1_f, scope_enclosing_1_n1, scope_enclosing_1_l1_eq n]
  exact rfl
noncomputable def scope_enclosing_1 : Nat → State → State → Str → Str → Int → Option (((Unit × Int) × ((State × Unit) × ((Str × Unit) × ((Str × Unit) × ((Int × Unit) × Unit))))) × Unit)
  | 0, _, _, _, _, _ => none
  | n + 1, a0, o0, o1, o2, o3 => (scope_enclosing_1_e n).1 a0 o0 o1 o2 o3
theorem scope_enclosing_1_ok : ∀ (n : Nat) (a0 : State) (o0 : State) (o1 : Str) (o2 : Str) (o3 : Int) (r : (((Unit × Int) × ((State × Unit) × ((Str × Unit) × ((Str × Unit) × ((Int × Unit) × Unit))))) × Unit)), scope_enclosing_1 n a0 o0 o1 o2 o3 = some r → FnG Tryd.prog 62 ((alM 0 (alT (tyP State.cel) alN)).enc (scope_enclosing_1_os.lens ((), (o0, ()), (o1, ()), (o2, ()), (o3, ()), ())) (a0, ())) (scope_enclosing_1_os.enc (scope_enclosing_1_os.lens ((), (o0, ()), (o1, ()), (o2, ()), (o3, ()), ())) ((), (o0, ()), (o1, ()), (o2, ()), (o3, ()), ())) (fun o H' => o = .ret (tupOf (alN.enc (scope_enclosing_1_o1.lens r.1) r.2)) ∧ H' = scope_enclosing_1_o1.enc (scope_enclosing_1_o1.lens r.1) r.1)
  | 0, _, _, _, _, _, _, h => by cases h
  | n + 1, a0, o0, o1, o2, o3, r, h => by
    exact fnG_run (M := scope_enclosing_1_m n) ⟨tabA_nil_ok, tabD_nil_ok, tabN_ok _, tabF_ok _, (tabY_cons_ok (fun _ _ _ _ _ h => entY_ok (fun b a r h => (scope_Resolve_k0_1_0_1_1_r_ok n) a.1 b.2.1.1 b.2.2.1.1 b.2.2.2.1.1 b.2.2.2.2.1.1 r h) h) tabY_nil_ok), noE_ok⟩ Tryd.func62 rfl rfl (nbL_le (Nat.le_trans (of_decide_eq_true (by kernel_rfl)) (Nat.le_of_eq (scope_enclosing_1_os.sz _ _).symm)) _ ((alM 0 (alT (tyP State.cel) alN)).nb _ _)) (fun x hx => objNb_le' (Nat.le_trans (of_decide_eq_true (by kernel_rfl)) (Nat.le_of_eq (scope_enclosing_1_os.sz _ _).symm)) _ (scope_enclosing_1_os.nb _ _ x hx)) Tryd.ntmps62 Tryd.results62 (fun σ hs => outS_ok (P := Tryd.prog) (rs := []) (pos := []) (base := [0, 1, 2, 3, 4]) (low := 5) (os := scope_enclosing_1_o1) (s := alN) (σ := σ) (r := r) (by rfl) hs) (((scope_enclosing_1_e n).2 a0 o0 o1 o2 o3).trans h)

noncomputable def slices_ContainsFunc_Decl_scope_Open_2_as : AL ((List Decl) × (Unit × Unit)) := (alT (tyL Decl.row) (alF 56 (vlP 0 vlN) alN))
noncomputable def slices_ContainsFunc_Decl_scope_Open_2_os : OL (((Str × Unit) × Unit) × Unit) := (olC (ogC (alF 54 (vlT (tyP cS) vlN) alN)) olN)
noncomputable def slices_ContainsFunc_Decl_scope_Open_2_o1 : OL (((Str × Unit) × Unit) × Unit) := (olC (ogC (alF 54 (vlT (tyP cS) vlN) alN)) olN)
noncomputable def slices_ContainsFunc_Decl_scope_Open_2_m (n : Nat) : Mach ((((Str × Unit) × Unit) × Unit) × (Bool × Unit)) where
  body := (Tryd.f43.body).getD .skip
  P := Tryd.prog
  cl := tabA [(65, entX [.arg 1 [0]] slices_IndexFunc_Decl_scope_Open_2_os slices_IndexFunc_Decl_scope_Open_2_as slices_IndexFunc_Decl_scope_Open_2_o1 (alT (tyI .i64) alN) (fun (b : (((Str × Unit) × Unit) × Unit)) (a : ((List Decl) × (Unit × Unit))) => (slices_IndexFunc_Decl_scope_Open_2 n) a.1 b.1.1.1))]
  cd := tabD []
  nrm := tabN []
  cut := tabF []
  n := n
  out := outS Tryd.prog [.tmp 4] [] [0] 1 slices_ContainsFunc_Decl_scope_Open_2_o1 (alT tyB alN)
theorem slices_ContainsFunc_Decl_scope_Open_2_f (n : Nat) : (slices_ContainsFunc_Decl_scope_Open_2_m n).P = Tryd.prog ∧ (slices_ContainsFunc_Decl_scope_Open_2_m n).cl = tabA [(65, entX [.arg 1 [0]] slices_IndexFunc_Decl_scope_Open_2_os slices_IndexFunc_Decl_scope_Open_2_as slices_IndexFunc_Decl_scope_Open_2_o1 (alT (tyI .i64) alN) (fun (b : (((Str × Unit) × Unit) × Unit)) (a : ((List Decl) × (Unit × Unit))) => (slices_IndexFunc_Decl_scope_Open_2 n) a.1 b.1.1.1))] ∧ (slices_ContainsFunc_Decl_scope_Open_2_m n).cd = tabD [] ∧ (slices_ContainsFunc_Decl_scope_Open_2_m n).nrm = tabN [] ∧ (slices_ContainsFunc_Decl_scope_Open_2_m n).cut = tabF [] ∧ (slices_ContainsFunc_Decl_scope_Open_2_m n).n = n ∧ (slices_ContainsFunc_Decl_scope_Open_2_m n).out = outS Tryd.prog [.tmp 4] [] [0] 1 slices_ContainsFunc_Decl_scope_Open_2_o1 (alT tyB alN) := ⟨rfl, rfl, rfl, rfl, rfl, rfl, rfl⟩
theorem slices_ContainsFunc_Decl_scope_Open_2_c (n : Nat) : (slices_ContainsFunc_Decl_scope_Open_2_m n).body = (Tryd.f43.body).getD .skip := rfl
noncomputable def slices_ContainsFunc_Decl_scope_Open_2_e (n : Nat) : { B : (List Decl) → Str → Option ((((Str × Unit) × Unit) × Unit) × (Bool × Unit)) // ∀ (a0 : (List Decl)) (o0 : Str), run (slices_ContainsFunc_Decl_scope_Open_2_m n) [.at []] { slots := (slices_ContainsFunc_Decl_scope_Open_2_as.enc (slices_ContainsFunc_Decl_scope_Open_2_os.lens (((o0, ()), ()), ())) (a0, (), ())) ++ List.replicate (9 - (slices_ContainsFunc_Decl_scope_Open_2_as.enc (slices_ContainsFunc_Decl_scope_Open_2_os.lens (((o0, ()), ()), ())) (a0, (), ())).length) .any, heap := (slices_ContainsFunc_Decl_scope_Open_2_os.enc (slices_ContainsFunc_Decl_scope_Open_2_os.lens (((o0, ()), ()), ())) (((o0, ()), ()), ())), low := (slices_ContainsFunc_Decl_scope_Open_2_os.enc (slices_ContainsFunc_Decl_scope_Open_2_os.lens (((o0, ()), ()), ())) (((o0, ()), ()), ())).length } = B a0 o0 } := by
  apply Subtype.mk
  intro a0 o0
  simp (config := { maxSteps := 100000000 }) only [go_sem, Nat.reduceAdd, Nat.reduceSub, Nat.reduceLeDiff, Nat.reduceEqDiff, Nat.reduceBEq, Nat.reduceMul, Nat.reduceLT, Int.reduceLE, Int.reduceLT, Int.reduceToNat, Int.reduceBEq, Int.reduceEq, slices_ContainsFunc_Decl_scope_Open_2_f, slices_ContainsFunc_Decl_scope_Open_2_c, Tryd.f43, Option.getD_some, mixed, slices_ContainsFunc_Decl_scope_Open_2_as, slices_ContainsFunc_Decl_scope_Open_2_os, slices_ContainsFunc_Decl_scope_Open_2_o1, slices_IndexFunc_Decl_scope_Open_2_as, slices_IndexFunc_Decl_scope_Open_2_os, slices_IndexFunc_Decl_scope_Open_2_o1]
  exact rfl
noncomputable def slices_ContainsFunc_Decl_scope_Open_2 : Nat → (List Decl) → Str → Option ((((Str × Unit) × Unit) × Unit) × (Bool × Unit))
  | 0, _, _ => none
  | n + 1, a0, o0 => (slices_ContainsFunc_Decl_scope_Open_2_e n).1 a0 o0
theorem slices_ContainsFunc_Decl_scope_Open_2_ok : ∀ (n : Nat) (a0 : (List Decl)) (o0 : Str) (r : ((((Str × Unit) × Unit) × Unit) × (Bool × Unit))), slices_ContainsFunc_Decl_scope_Open_2 n a0 o0 = some r → FnG Tryd.prog 43 (slices_ContainsFunc_Decl_scope_Open_2_as.enc (slices_ContainsFunc_Decl_scope_Open_2_os.lens (((o0, ()), ()), ())) (a0, (), ())) (slices_ContainsFunc_Decl_scope_Open_2_os.enc (slices_ContainsFunc_Decl_scope_Open_2_os.lens (((o0, ()), ()), ())) (((o0, ()), ()), ())) (fun o H' => o = .ret (tupOf ((alT tyB alN).enc (slices_ContainsFunc_Decl_scope_Open_2_o1.lens r.1) r.2)) ∧ H' = slices_ContainsFunc_Decl_scope_Open_2_o1.enc (slices_ContainsFunc_Decl_scope_Open_2_o1.lens r.1) r.1)
  | 0, _, _, _, h => by cases h
  | n + 1, a0, o0, r, h => by
    exact fnG_run (M := slices_ContainsFunc_Decl_scope_Open_2_m n) ⟨(tabA_cons_ok (entX_ok (fun b a r h => (slices_IndexFunc_Decl_scope_Open_2_ok n) a.1 b.1.1.1 r h)) tabA_nil_ok), tabD_nil_ok, tabN_ok _, tabF_ok _, noY_ok, noE_ok⟩ Tryd.func43 rfl rfl (nbL_le (Nat.le_trans (of_decide_eq_true (by kernel_rfl)) (Nat.le_of_eq (slices_ContainsFunc_Decl_scope_Open_2_os.sz _ _).symm)) _ (slices_ContainsFunc_Decl_scope_Open_2_as.nb _ _)) (fun x hx => objNb_le' (Nat.le_trans (of_decide_eq_true (by kernel_rfl)) (Nat.le_of_eq (slices_ContainsFunc_Decl_scope_Open_2_os.sz _ _).symm)) _ (slices_ContainsFunc_Decl_scope_Open_2_os.nb _ _ x hx)) Tryd.ntmps43 Tryd.results43 (fun σ hs => outS_ok (P := Tryd.prog) (rs := [.tmp 4]) (pos := []) (base := [0]) (low := 1) (os := slices_ContainsFunc_Decl_scope_Open_2_o1) (s := (alT tyB alN)) (σ := σ) (r := r) (by rfl) hs) (((slices_ContainsFunc_Decl_scope_Open_2_e n).2 a0 o0).trans h)
end Go.Abs
namespace Go.Abs
open Go.Proofs
set_option maxRecDepth 100000
set_option maxHeartbeats 4000000
set_option linter.unusedSimpArgs false
set_option linter.unusedVariables false
noncomputable def scope_Resolve_m (n : Nat) : Mach (Str × Int) where
  body := (Tryd.f11.body).getD .skip
  P := Tryd.prog
  cl := tabA [(15, ent2 (tyC State.cel) tyS tyB (scope_Declared n)), (36, ent1 tyS tyB (term_Name n)), (37, ent1 (tyC State.cel) (tyK1 62 (tyP State.cel)) (scope_enclosing n)), (39, ent2 (tyC State.cel) tyS (tyL rowS) (scope_opened n)), (62, entX [.arg 0 [], .obj 0 2 [], .obj 0 3 [], .obj 0 4 [], .obj 0 5 []] scope_enclosing_1_os (alM 0 (alT (tyP State.cel) alN)) scope_enclosing_1_o1 alN (fun (b : (Unit × ((State × Unit) × ((Str × Unit) × ((Str × Unit) × ((Int × Unit) × Unit)))))) (a : (State × Unit)) => (scope_enclosing_1 n) a.1 b.2.1.1 b.2.2.1.1 b.2.2.2.1.1 b.2.2.2.2.1.1))]
  cd := tabD []
  nrm := tabN []
  cut := tabF []
  n := n
  out := outR Tryd.prog [.cell 4 9, .cell 5 30] (ty2 tyS (tyI .i64))
  js := tabJ [([0, 1, 0, 1, 1], [(1, .ret)])]
theorem scope_Resolve_f (n : Nat) : (scope_Resolve_m n).P = Tryd.prog ∧ (scope_Resolve_m n).cl = tabA [(15, ent2 (tyC State.cel) tyS tyB (scope_Declared n)), (36, ent1 tyS tyB (term_Name n)), (37, ent1 (tyC State.cel) (tyK1 62 (tyP State.cel)) (scope_enclosing n)), (39, ent2 (tyC State.cel) tyS (tyL rowS) (scope_opened n)), (62, entX [.arg 0 [], .obj 0 2 [], .obj 0 3 [], .obj 0 4 [], .obj 0 5 []] scope_enclosing_1_os (alM 0 (alT (tyP State.cel) alN)) scope_enclosing_1_o1 alN (fun (b : (Unit × ((State × Unit) × ((Str × Unit) × ((Str × Unit) × ((Int × Unit) × Unit)))))) (a : (State × Unit)) => (scope_enclosing_1 n) a.1 b.2.1.1 b.2.2.1.1 b.2.2.2.1.1 b.2.2.2.2.1.1))] ∧ (scope_Resolve_m n).cd = tabD [] ∧ (scope_Resolve_m n).nrm = tabN [] ∧ (scope_Resolve_m n).cut = tabF [] ∧ (scope_Resolve_m n).n = n ∧ (scope_Resolve_m n).out = outR Tryd.prog [.cell 4 9, .cell 5 30] (ty2 tyS (tyI .i64)) ∧ (scope_Resolve_m n).js = tabJ [([0, 1, 0, 1, 1], [(1, .ret)])] := ⟨rfl, rfl, rfl, rfl, rfl, rfl, rfl, rfl⟩
theorem scope_Resolve_c (n : Nat) : (scope_Resolve_m n).body = (Tryd.f11.body).getD .skip := rfl
theorem scope_Resolve_k0_ (n : Nat) : lkM (scope_Resolve_m n) [0, 1, 0, 1, 1] = scope_Resolve_k0_1_0_1_1 := rfl
noncomputable def scope_Resolve_e (n : Nat) : { B : State → Str → Option (Str × Int) // ∀ (a0 : State) (a1 : Str), run (scope_Resolve_m n) [.at []] { slots := [(tyC State.cel).enc a0, tyS.enc a1] ++ List.replicate (41 - [(tyC State.cel).enc a0, tyS.enc a1].length) .any, heap := [] } = B a0 a1 } := by
  apply Subtype.mk
  intro a0 a1
  simp (config := { maxSteps := 100000000 }) only [go_sem, Nat.reduceAdd, Nat.reduceSub, Nat.reduceLeDiff, Nat.reduceEqDiff, Nat.reduceBEq, Nat.reduceMul, Nat.reduceLT, Int.reduceLE, Int.reduceLT, Int.reduceToNat, Int.reduceBEq, Int.reduceEq, scope_Resolve_f, scope_Resolve_c, Tryd.f11, Option.getD_some, mixed, scope_enclosing_1_os, scope_enclosing_1_o1, scope_Resolve_k0_1_0_1_1_f, scope_Resolve_k0_]
  exact rfl
noncomputable def scope_Resolve : Nat → State → Str → Option (Str × Int)
  | 0, _, _ => none
  | n + 1, a0, a1 => (scope_Resolve_e n).1 a0 a1
theorem scope_Resolve_ok : ∀ (n : Nat) (a0 : State) (a1 : Str) (r : (Str × Int)), scope_Resolve n a0 a1 = some r → FnC Tryd.prog 11 [(tyC State.cel).enc a0, tyS.enc a1] (fun v => v = (ty2 tyS (tyI .i64)).enc r)
  | 0, _, _, _, h => by cases h
  | n + 1, a0, a1, r, h => by
    exact fnC_run (M := scope_Resolve_m n) ⟨(tabA_cons_ok (ent2_ok (scope_Declared_ok n)) (tabA_cons_ok (ent1_ok (term_Name_ok n)) (tabA_cons_ok (ent1_ok (scope_enclosing_ok n)) (tabA_cons_ok (ent2_ok (scope_opened_ok n)) (tabA_cons_ok (entX_ok (fun b a r h => (scope_enclosing_1_ok n) a.1 b.2.1.1 b.2.2.1.1 b.2.2.2.1.1 b.2.2.2.2.1.1 r h)) tabA_nil_ok))))), tabD_nil_ok, tabN_ok _, tabF_ok _, noY_ok, noE_ok⟩ Tryd.func11 rfl rfl ⟨(tyC State.cel).nb 0 _, tyS.nb 0 _, trivial⟩ Tryd.ntmps11 Tryd.results11 (fun σ hs => outR_ok (P := Tryd.prog) (rs := [.cell 4 9, .cell 5 30]) (t := (ty2 tyS (tyI .i64))) (σ := σ) (r := r) hs) (((scope_Resolve_e n).2 a0 a1).trans h)

noncomputable def scope_Open_m (n : Nat) : Mach (State × Int) where
  body := (Tryd.f25.body).getD .skip
  P := Tryd.prog
  cl := tabA [(32, ent2 (tyL rowS) tyS tyB (slices_Contains_string n)), (36, ent1 tyS tyB (term_Name n)), (43, entX [.arg 1 [0]] slices_ContainsFunc_Decl_scope_Open_2_os slices_ContainsFunc_Decl_scope_Open_2_as slices_ContainsFunc_Decl_scope_Open_2_o1 (alT tyB alN) (fun (b : (((Str × Unit) × Unit) × Unit)) (a : ((List Decl) × (Unit × Unit))) => (slices_ContainsFunc_Decl_scope_Open_2 n) a.1 b.1.1.1))]
  cd := tabD []
  nrm := tabN []
  cut := tabF [([1, 1, 1], [1]), ([1, 0, 0, 1, 1, 1], [3])]
  n := n
  out := outR Tryd.prog [.cell 4 27, .tmp 5] (ty2 (tyC State.cel) (tyI .i64))
  isE := tabI [21]
  ce := tabE [(21, entE (asT (tyL rowS) asN) (osC (oaT true rowS) osN) (rsA 0 (fun (b : ((List Str) × Unit)) => b.1.length) rsN) (fun a => (slices_Clone_string_2_h n) a.1))]
theorem scope_Open_f (n : Nat) : (scope_Open_m n).P = Tryd.prog ∧ (scope_Open_m n).cl = tabA [(32, ent2 (tyL rowS) tyS tyB (slices_Contains_string n)), (36, ent1 tyS tyB (term_Name n)), (43, entX [.arg 1 [0]] slices_ContainsFunc_Decl_scope_Open_2_os slices_ContainsFunc_Decl_scope_Open_2_as slices_ContainsFunc_Decl_scope_Open_2_o1 (alT tyB alN) (fun (b : (((Str × Unit) × Unit) × Unit)) (a : ((List Decl) × (Unit × Unit))) => (slices_ContainsFunc_Decl_scope_Open_2 n) a.1 b.1.1.1))] ∧ (scope_Open_m n).cd = tabD [] ∧ (scope_Open_m n).nrm = tabN [] ∧ (scope_Open_m n).cut = tabF [([1, 1, 1], [1]), ([1, 0, 0, 1, 1, 1], [3])] ∧ (scope_Open_m n).n = n ∧ (scope_Open_m n).out = outR Tryd.prog [.cell 4 27, .tmp 5] (ty2 (tyC State.cel) (tyI .i64)) ∧ (scope_Open_m n).isE = tabI [21] ∧ (scope_Open_m n).ce = tabE [(21, entE (asT (tyL rowS) asN) (osC (oaT true rowS) osN) (rsA 0 (fun (b : ((List Str) × Unit)) => b.1.length) rsN) (fun a => (slices_Clone_string_2_h n) a.1))] := ⟨rfl, rfl, rfl, rfl, rfl, rfl, rfl, rfl, rfl⟩
theorem scope_Open_c (n : Nat) : (scope_Open_m n).body = (Tryd.f25.body).getD .skip := rfl
theorem scope_Open_d (n : Nat) : drawP (scope_Open_m n) [0, 1, 1, 1, 1] = true := by kernel_rfl
theorem scope_Open_o (n : Nat) : ordP (scope_Open_m n) [0, 1, 1, 1, 1] 1 5 = true ∧ ordP (scope_Open_m n) [0, 1, 1, 1, 1] 2 5 = true ∧ ordP (scope_Open_m n) [0, 1, 1, 1, 1] 3 5 = true ∧ ordP (scope_Open_m n) [0, 1, 1, 1, 1] 1 7 = true ∧ ordP (scope_Open_m n) [0, 1, 1, 1, 1] 2 7 = true ∧ ordP (scope_Open_m n) [0, 1, 1, 1, 1] 3 7 = true ∧ ordP (scope_Open_m n) [0, 1, 1, 1, 1] 5 7 = true := ⟨by kernel_rfl, by kernel_rfl, by kernel_rfl, by kernel_rfl, by kernel_rfl, by kernel_rfl, by kernel_rfl⟩
noncomputable def scope_Open_e (n : Nat) : { B : State → Str → Option (State × Int) // ∀ (a0 : State) (a1 : Str), run (scope_Open_m n) [.at []] { slots := [(tyC State.cel).enc a0, tyS.enc a1] ++ List.replicate (39 - [(tyC State.cel).enc a0, tyS.enc a1].length) .any, heap := [] } = B a0 a1 } := by
  apply Subtype.mk
  intro a0 a1
  simp (config := { maxSteps := 100000000 }) only [go_sem, Nat.reduceAdd, Nat.reduceSub, Nat.reduceLeDiff, Nat.reduceEqDiff, Nat.reduceBEq, Nat.reduceMul, Nat.reduceLT, Int.reduceLE, Int.reduceLT, Int.reduceToNat, Int.reduceBEq, Int.reduceEq, scope_Open_f, scope_Open_c, Tryd.f25, Option.getD_some, mixed, slices_ContainsFunc_Decl_scope_Open_2_as, slices_ContainsFunc_Decl_scope_Open_2_os, slices_ContainsFunc_Decl_scope_Open_2_o1, scope_Open_d, scope_Open_o]
  exact rfl
noncomputable def scope_Open : Nat → State → Str → Option (State × Int)
  | 0, _, _ => none
  | n + 1, a0, a1 => (scope_Open_e n).1 a0 a1
theorem scope_Open_ok : ∀ (n : Nat) (a0 : State) (a1 : Str) (r : (State × Int)), scope_Open n a0 a1 = some r → FnC Tryd.prog 25 [(tyC State.cel).enc a0, tyS.enc a1] (fun v => v = (ty2 (tyC State.cel) (tyI .i64)).enc r)
  | 0, _, _, _, h => by cases h
  | n + 1, a0, a1, r, h => by
    exact fnC_run (M := scope_Open_m n) ⟨(tabA_cons_ok (ent2_ok (slices_Contains_string_ok n)) (tabA_cons_ok (ent1_ok (term_Name_ok n)) (tabA_cons_ok (entX_ok (fun b a r h => (slices_ContainsFunc_Decl_scope_Open_2_ok n) a.1 b.1.1.1 r h)) tabA_nil_ok))), tabD_nil_ok, tabN_ok _, tabF_ok _, noY_ok, (tabE_cons_ok (entE_ok (fun a => ⟨(tyL rowS).nb 0 _, trivial⟩) (fun a r h => (slices_Clone_string_2_h_ok n) a.1 r h)) tabE_nil_ok)⟩ Tryd.func25 rfl rfl ⟨(tyC State.cel).nb 0 _, tyS.nb 0 _, trivial⟩ Tryd.ntmps25 Tryd.results25 (fun σ hs => outR_ok (P := Tryd.prog) (rs := [.cell 4 27, .tmp 5]) (t := (ty2 (tyC State.cel) (tyI .i64))) (σ := σ) (r := r) hs) (((scope_Open_e n).2 a0 a1).trans h)
end Go.Abs
namespace Go.Abs
open Go.Proofs
set_option maxRecDepth 100000
set_option maxHeartbeats 4000000
set_option linter.unusedSimpArgs false
set_option linter.unusedVariables false
noncomputable def scope_Shortest_k0_1_0_1_1 : LoopC := (lkAt [(1, .ret)] (sub [0, 1, 0, 1, 1] ((Tryd.f13.body).getD .skip)))
theorem scope_Shortest_k0_1_0_1_1_f : scope_Shortest_k0_1_0_1_1.ps.size = 1 ∧ ∀ j : Int, pendOf scope_Shortest_k0_1_0_1_1.js j = bif j == 0 then none else some .ret := ⟨by kernel_rfl, fun j => rfl⟩
noncomputable def scope_Shortest_k0_1_0_1_1_r_os : OL (Unit × ((State × Unit) × ((Str × Unit) × ((Str × Unit) × ((Int × Unit) × Unit))))) := (olC (ogL0 scope_Shortest_k0_1_0_1_1 (alZ (alZ (alP 1 (alP 2 (alP 3 (alP 4 (alZs 25 alN)))))))) (olC (ogC (alC State.cel 7 alN)) (olC (ogC (alC cS 1 alN)) (olC (ogC (alC cS 1 alN)) (olC (ogC (alC (cI .i64) 1 alN)) olN)))))
noncomputable def scope_Shortest_k0_1_0_1_1_r_o1 : OL ((Unit × Int) × ((State × Unit) × ((Str × Unit) × ((Str × Unit) × ((Int × Unit) × Unit))))) := (olC (ogL scope_Shortest_k0_1_0_1_1 (alZ (alZ (alP 1 (alP 2 (alP 3 (alP 4 (alZs 25 alN)))))))) (olC (ogC (alC State.cel 7 alN)) (olC (ogC (alC cS 1 alN)) (olC (ogC (alC cS 1 alN)) (olC (ogC (alC (cI .i64) 1 alN)) olN)))))
noncomputable def scope_Shortest_k0_1_0_1_1_r_m (n : Nat) : Mach (((Unit × Int) × ((State × Unit) × ((Str × Unit) × ((Str × Unit) × ((Int × Unit) × Unit))))) × (Bool × Unit)) where
  body := .seq (asgnC (sub [0, 1, 0, 1, 1] ((Tryd.f13.body).getD .skip))) (bdyC (sub [0, 1, 0, 1, 1] ((Tryd.f13.body).getD .skip)))
  P := Tryd.prog
  cl := tabA [(11, ent2 (tyC State.cel) tyS (ty2 tyS (tyI .i64)) (scope_Resolve n))]
  cd := tabD []
  nrm := tabN []
  cut := tabF []
  n := n
  out := (fun _ => none)
  outR := outRd [(1, .ret)] [] [0, 1, 2, 3, 4] 5 scope_Shortest_k0_1_0_1_1_r_o1
theorem scope_Shortest_k0_1_0_1_1_r_f (n : Nat) : (scope_Shortest_k0_1_0_1_1_r_m n).P = Tryd.prog ∧ (scope_Shortest_k0_1_0_1_1_r_m n).cl = tabA [(11, ent2 (tyC State.cel) tyS (ty2 tyS (tyI .i64)) (scope_Resolve n))] ∧ (scope_Shortest_k0_1_0_1_1_r_m n).cd = tabD [] ∧ (scope_Shortest_k0_1_0_1_1_r_m n).nrm = tabN [] ∧ (scope_Shortest_k0_1_0_1_1_r_m n).cut = tabF [] ∧ (scope_Shortest_k0_1_0_1_1_r_m n).n = n ∧ (scope_Shortest_k0_1_0_1_1_r_m n).out = (fun _ => none) ∧ (scope_Shortest_k0_1_0_1_1_r_m n).outR = outRd [(1, .ret)] [] [0, 1, 2, 3, 4] 5 scope_Shortest_k0_1_0_1_1_r_o1 := ⟨rfl, rfl, rfl, rfl, rfl, rfl, rfl, rfl⟩
theorem scope_Shortest_k0_1_0_1_1_r_c (n : Nat) : (scope_Shortest_k0_1_0_1_1_r_m n).body = .seq (asgnC (sub [0, 1, 0, 1, 1] ((Tryd.f13.body).getD .skip))) (bdyC (sub [0, 1, 0, 1, 1] ((Tryd.f13.body).getD .skip))) := rfl
theorem scope_Shortest_k0_1_0_1_1_r_s : Code.seq (asgnC (sub [0, 1, 0, 1, 1] ((Tryd.f13.body).getD .skip))) (bdyC (sub [0, 1, 0, 1, 1] ((Tryd.f13.body).getD .skip))) = Code.seq scope_Shortest_k0_1_0_1_1.assign scope_Shortest_k0_1_0_1_1.body := by kernel_rfl
noncomputable def scope_Shortest_k0_1_0_1_1_r_e (n : Nat) : { B : Str → State → Str → Str → Int → Option (((Unit × Int) × ((State × Unit) × ((Str × Unit) × ((Str × Unit) × ((Int × Unit) × Unit))))) × (Bool × Unit)) // ∀ (a0 : Str) (o0 : State) (o1 : Str) (o2 : Str) (o3 : Int), run (scope_Shortest_k0_1_0_1_1_r_m n) [.at [0], .rb, .at [1], .rd] { slots := setPs ((alZ (alZ (alP 1 (alP 2 (alP 3 (alP 4 (alZs 25 alN))))))).enc (scope_Shortest_k0_1_0_1_1_r_os.lens ((), (o0, ()), (o1, ()), (o2, ()), (o3, ()), ())) ()) [16] ((alT tyS alN).enc (scope_Shortest_k0_1_0_1_1_r_os.lens ((), (o0, ()), (o1, ()), (o2, ()), (o3, ()), ())) (a0, ())), heap := (scope_Shortest_k0_1_0_1_1_r_os.enc (scope_Shortest_k0_1_0_1_1_r_os.lens ((), (o0, ()), (o1, ()), (o2, ()), (o3, ()), ())) ((), (o0, ()), (o1, ()), (o2, ()), (o3, ()), ())), low := (scope_Shortest_k0_1_0_1_1_r_os.enc (scope_Shortest_k0_1_0_1_1_r_os.lens ((), (o0, ()), (o1, ()), (o2, ()), (o3, ()), ())) ((), (o0, ()), (o1, ()), (o2, ()), (o3, ()), ())).length } = B a0 o0 o1 o2 o3 } := by
  apply Subtype.mk
  intro a0 o0 o1 o2 o3
  simp (config := { maxSteps := 100000000 }) only [go_sem, Nat.reduceAdd, Nat.reduceSub, Nat.reduceLeDiff, Nat.reduceEqDiff, Nat.reduceBEq, Nat.reduceMul, Nat.reduceLT, Int.reduceLE, Int.reduceLT, Int.reduceToNat, Int.reduceBEq, Int.reduceEq, scope_Shortest_k0_1_0_1_1_r_f, scope_Shortest_k0_1_0_1_1_r_c, Tryd.f13, Option.getD_some, mixed, scope_Shortest_k0_1_0_1_1_r_os, scope_Shortest_k0_1_0_1_1_r_o1, scope_Shortest_k0_1_0_1_1_f]
  exact rfl
noncomputable def scope_Shortest_k0_1_0_1_1_r : Nat → Str → State → Str → Str → Int → Option (((Unit × Int) × ((State × Unit) × ((Str × Unit) × ((Str × Unit) × ((Int × Unit) × Unit))))) × (Bool × Unit))
  | 0, _, _, _, _, _ => none
  | n + 1, a0, o0, o1, o2, o3 => (scope_Shortest_k0_1_0_1_1_r_e n).1 a0 o0 o1 o2 o3
theorem scope_Shortest_k0_1_0_1_1_r_ok : ∀ (n : Nat) (a0 : Str) (o0 : State) (o1 : Str) (o2 : Str) (o3 : Int) (r : (((Unit × Int) × ((State × Unit) × ((Str × Unit) × ((Str × Unit) × ((Int × Unit) × Unit))))) × (Bool × Unit))), scope_Shortest_k0_1_0_1_1_r n a0 o0 o1 o2 o3 = some r → FnT Tryd.prog (Rounds Tryd.prog) ((alT tyS alN).enc (scope_Shortest_k0_1_0_1_1_r_os.lens ((), (o0, ()), (o1, ()), (o2, ()), (o3, ()), ())) (a0, ())) (scope_Shortest_k0_1_0_1_1_r_os.enc (scope_Shortest_k0_1_0_1_1_r_os.lens ((), (o0, ()), (o1, ()), (o2, ()), (o3, ()), ())) ((), (o0, ()), (o1, ()), (o2, ()), (o3, ()), ())) (fun o H' => o = .ret (tupOf ((alT tyB alN).enc (scope_Shortest_k0_1_0_1_1_r_o1.lens r.1) r.2)) ∧ H' = scope_Shortest_k0_1_0_1_1_r_o1.enc (scope_Shortest_k0_1_0_1_1_r_o1.lens r.1) r.1)
  | 0, _, _, _, _, _, _, h => by cases h
  | n + 1, a0, o0, o1, o2, o3, r, h => by
    exact fnT_run (M := scope_Shortest_k0_1_0_1_1_r_m n) (lk := scope_Shortest_k0_1_0_1_1) (slots := ((alZ (alZ (alP 1 (alP 2 (alP 3 (alP 4 (alZs 25 alN))))))).enc (scope_Shortest_k0_1_0_1_1_r_os.lens ((), (o0, ()), (o1, ()), (o2, ()), (o3, ()), ())) ())) ⟨(tabA_cons_ok (ent2_ok (scope_Resolve_ok n)) tabA_nil_ok), tabD_nil_ok, tabN_ok _, tabF_ok _, noY_ok, noE_ok⟩ scope_Shortest_k0_1_0_1_1_r_s (by kernel_rfl) ⟨by kernel_rfl, by kernel_rfl⟩ rfl (nbL_le (Nat.le_trans (of_decide_eq_true (by kernel_rfl)) (Nat.le_of_eq (scope_Shortest_k0_1_0_1_1_r_os.sz _ _).symm)) _ ((alT tyS alN).nb _ _)) (fun x hx => objNb_le' (Nat.le_trans (of_decide_eq_true (by kernel_rfl)) (Nat.le_of_eq (scope_Shortest_k0_1_0_1_1_r_os.sz _ _).symm)) _ (scope_Shortest_k0_1_0_1_1_r_os.nb _ _ x hx)) (fun e σ hs => outRd_ok (js := [(1, .ret)]) (pos := []) (base := [0, 1, 2, 3, 4]) (low := 5) (os := scope_Shortest_k0_1_0_1_1_r_o1) (e := e) (σ := σ) (r := r) (by rfl) hs) (((scope_Shortest_k0_1_0_1_1_r_e n).2 a0 o0 o1 o2 o3).trans h)
end Go.Abs
namespace Go.Abs
open Go.Proofs
set_option maxRecDepth 100000
set_option maxHeartbeats 4000000
set_option linter.unusedSimpArgs false
set_option linter.unusedVariables false
noncomputable def scope_path_ends_n1 : Nrm := ⟨[], [], [zT (tyL rowS), zK, zA, zA, zK, zA, zA, zA, zA, zA, zA, zA, zA, zA, zA, zA, zA, zA, zA], [oL [zA, zA, zK, zK, zK, zK, zA, zA, zA, zA, zA, zA, zA, zA, zA, zA, zA, zA, zA, zA, zA, zA, zA, zA, zA, zA, zA, zA, zA, zA, zA], oT State.cel, oC [zK], oC [zK], oC [zK]], none⟩
noncomputable def scope_path_ends_os : OL (Unit × ((State × Unit) × ((Str × Unit) × ((Str × Unit) × ((Int × Unit) × Unit))))) := (olC (ogL0 scope_Shortest_k0_1_0_1_1 (alZ (alZ (alP 1 (alP 2 (alP 3 (alP 4 (alZs 25 alN)))))))) (olC (ogC (alC State.cel 7 alN)) (olC (ogC (alC cS 1 alN)) (olC (ogC (alC cS 1 alN)) (olC (ogC (alC (cI .i64) 1 alN)) olN)))))
noncomputable def scope_path_ends_o1 : OL ((Unit × Int) × ((State × Unit) × ((Str × Unit) × ((Str × Unit) × ((Int × Unit) × Unit))))) := (olC (ogL scope_Shortest_k0_1_0_1_1 (alZ (alZ (alP 1 (alP 2 (alP 3 (alP 4 (alZs 25 alN)))))))) (olC (ogC (alC State.cel 7 alN)) (olC (ogC (alC cS 1 alN)) (olC (ogC (alC cS 1 alN)) (olC (ogC (alC (cI .i64) 1 alN)) olN)))))
noncomputable def scope_path_ends_m (n : Nat) : Mach (((Unit × Int) × ((State × Unit) × ((Str × Unit) × ((Str × Unit) × ((Int × Unit) × Unit))))) × Unit) where
  body := (Tryd.f42.body).getD .skip
  P := Tryd.prog
  cl := tabA [(20, ent2 (tyL rowS) tyS tyS (strings_Join n))]
  cd := tabD []
  nrm := tabN [([0, 1], scope_path_ends_n1)]
  cut := tabF []
  n := n
  out := outS Tryd.prog [] [] [0, 1, 2, 3, 4] 5 scope_path_ends_o1 alN
  cy := tabY [(0, entY [.obj 0 2 [], .obj 0 3 [], .obj 0 4 [], .obj 0 5 []] scope_Shortest_k0_1_0_1_1_r_os (alT tyS alN) scope_Shortest_k0_1_0_1_1_r_o1 (alT tyB alN) (fun (b : (Unit × ((State × Unit) × ((Str × Unit) × ((Str × Unit) × ((Int × Unit) × Unit)))))) (a : (Str × Unit)) => (scope_Shortest_k0_1_0_1_1_r n) a.1 b.2.1.1 b.2.2.1.1 b.2.2.2.1.1 b.2.2.2.2.1.1))]
theorem scope_path_ends_f (n : Nat) : (scope_path_ends_m n).P = Tryd.prog ∧ (scope_path_ends_m n).cl = tabA [(20, ent2 (tyL rowS) tyS tyS (strings_Join n))] ∧ (scope_path_ends_m n).cd = tabD [] ∧ (scope_path_ends_m n).nrm = tabN [([0, 1], scope_path_ends_n1)] ∧ (scope_path_ends_m n).cut = tabF [] ∧ (scope_path_ends_m n).n = n ∧ (scope_path_ends_m n).out = outS Tryd.prog [] [] [0, 1, 2, 3, 4] 5 scope_path_ends_o1 alN ∧ (scope_path_ends_m n).cy = tabY [(0, entY [.obj 0 2 [], .obj 0 3 [], .obj 0 4 [], .obj 0 5 []] scope_Shortest_k0_1_0_1_1_r_os (alT tyS alN) scope_Shortest_k0_1_0_1_1_r_o1 (alT tyB alN) (fun (b : (Unit × ((State × Unit) × ((Str × Unit) × ((Str × Unit) × ((Int × Unit) × Unit)))))) (a : (Str × Unit)) => (scope_Shortest_k0_1_0_1_1_r n) a.1 b.2.1.1 b.2.2.1.1 b.2.2.2.1.1 b.2.2.2.2.1.1))] := ⟨rfl, rfl, rfl, rfl, rfl, rfl, rfl, rfl⟩
theorem scope_path_ends_c (n : Nat) : (scope_path_ends_m n).body = (Tryd.f42.body).getD .skip := rfl
noncomputable def scope_path_ends_b1 (n : Nat) : { B : ((List Str) → Int → Int → State → Str → Str → Int → Option (((Unit × Int) × ((State × Unit) × ((Str × Unit) × ((Str × Unit) × ((Int × Unit) × Unit))))) × Unit)) → (List Str) → Int → Int → State → Str → Str → Int → Option (((Unit × Int) × ((State × Unit) × ((Str × Unit) × ((Str × Unit) × ((Int × Unit) × Unit))))) × Unit) // ∀ m X0, (∀ (v0 : List Str) (v1 : Int) (j0 : Int) (o1 : State) (v4 : Str) (v5 : Str) (v6 : Int), run (scope_path_ends_m n) [.lq m [0, 1], .blk 0] ⟨[.lst false 1 (mp scell v0), .map 0, .any, .any, .int .i64 v1, .any, .any, .any, .any, .any, .any, .any, .any, .any, .any, .any, .any, .any, .any], [.loop scope_Shortest_k0_1_0_1_1 [.any, .any, .ptr 1 0, .ptr 2 0, .ptr 3 0, .ptr 4 0, .any, .any, .any, .any, .any, .any, .any, .any, .any, .any, .any, .any, .any, .any, .any, .any, .any, .any, .any, .any, .any, .any, .any, .any, .any] (stJ scope_Shortest_k0_1_0_1_1 j0) j0, .cells (State.cells o1), .cells [.str (sb v4)], .cells [.str (sb v5)], .cells [.int .i64 v6]], 5⟩ = X0 v0 v1 j0 o1 v4 v5 v6) → ∀ (v0 : List Str) (v1 : Int) (j0 : Int) (o1 : State) (v4 : Str) (v5 : Str) (v6 : Int), run (scope_path_ends_m n) [.at [0, 0, 1], .lp m [0, 1], .blk 0] ⟨[.lst false 1 (mp scell v0), .map 0, .any, .any, .int .i64 v1, .any, .any, .any, .any, .any, .any, .any, .any, .any, .any, .any, .any, .any, .any], [.loop scope_Shortest_k0_1_0_1_1 [.any, .any, .ptr 1 0, .ptr 2 0, .ptr 3 0, .ptr 4 0, .any, .any, .any, .any, .any, .any, .any, .any, .any, .any, .any, .any, .any, .any, .any, .any, .any, .any, .any, .any, .any, .any, .any, .any, .any] (stJ scope_Shortest_k0_1_0_1_1 j0) j0, .cells (State.cells o1), .cells [.str (sb v4)], .cells [.str (sb v5)], .cells [.int .i64 v6]], 5⟩ = B X0 v0 v1 j0 o1 v4 v5 v6 } := by
  apply Subtype.mk
  intro m X0 ih v0 v1 j0 o1 v4 v5 v6
  simp (config := { maxSteps := 100000000 }) only [go_sem, Nat.reduceAdd, Nat.reduceSub, Nat.reduceLeDiff, Nat.reduceEqDiff, Nat.reduceBEq, Nat.reduceMul, Nat.reduceLT, Int.reduceLE, Int.reduceLT, Int.reduceToNat, Int.reduceBEq, Int.reduceEq, scope_path_ends_f, scope_path_ends_c, Tryd.f42, Option.getD_some, mixed, scope_path_ends_os, scope_path_ends_o1, scope_Shortest_k0_1_0_1_1_r_os, scope_Shortest_k0_1_0_1_1_r_o1, scope_Shortest_k0_1_0_1_1_f, scope_path_ends_n1, ih]
  exact rfl
noncomputable def scope_path_ends_l1 (n : Nat) : Nat → (List Str) → Int → Int → State → Str → Str → Int → Option (((Unit × Int) × ((State × Unit) × ((Str × Unit) × ((Str × Unit) × ((Int × Unit) × Unit))))) × Unit)
  | 0, _, _, _, _, _, _, _ => none
  | m + 1, v0, v1, j0, o1, v4, v5, v6 => (scope_path_ends_b1 n).1 (scope_path_ends_l1 n m) v0 v1 j0 o1 v4 v5 v6
theorem scope_path_ends_l1_eq (n : Nat) : ∀ (m : Nat), (∀ (v0 : List Str) (v1 : Int) (j0 : Int) (o1 : State) (v4 : Str) (v5 : Str) (v6 : Int), run (scope_path_ends_m n) [.lq m [0, 1], .blk 0] ⟨[.lst false 1 (mp scell v0), .map 0, .any, .any, .int .i64 v1, .any, .any, .any, .any, .any, .any, .any, .any, .any, .any, .any, .any, .any, .any], [.loop scope_Shortest_k0_1_0_1_1 [.any, .any, .ptr 1 0, .ptr 2 0, .ptr 3 0, .ptr 4 0, .any, .any, .any, .any, .any, .any, .any, .any, .any, .any, .any, .any, .any, .any, .any, .any, .any, .any, .any, .any, .any, .any, .any, .any, .any] (stJ scope_Shortest_k0_1_0_1_1 j0) j0, .cells (State.cells o1), .cells [.str (sb v4)], .cells [.str (sb v5)], .cells [.int .i64 v6]], 5⟩ = scope_path_ends_l1 n m v0 v1 j0 o1 v4 v5 v6)
  | 0 => by intros; exact run_lq_zero
  | m + 1 => by
    have ih := scope_path_ends_l1_eq n m
    intro v0 v1 j0 o1 v4 v5 v6
    rw [run_lq_succ]
    exact (scope_path_ends_b1 n).2  m _  ih v0 v1 j0 o1 v4 v5 v6
noncomputable def scope_path_ends_e (n : Nat) : { B : (List Str) → State → Str → Str → Int → Option (((Unit × Int) × ((State × Unit) × ((Str × Unit) × ((Str × Unit) × ((Int × Unit) × Unit))))) × Unit) // ∀ (a0 : (List Str)) (o0 : State) (o1 : Str) (o2 : Str) (o3 : Int), run (scope_path_ends_m n) [.at []] { slots := ((alT (tyL rowS) (alM 0 alN)).enc (scope_path_ends_os.lens ((), (o0, ()), (o1, ()), (o2, ()), (o3, ()), ())) (a0, ())) ++ List.replicate (19 - ((alT (tyL rowS) (alM 0 alN)).enc (scope_path_ends_os.lens ((), (o0, ()), (o1, ()), (o2, ()), (o3, ()), ())) (a0, ())).length) .any, heap := (scope_path_ends_os.enc (scope_path_ends_os.lens ((), (o0, ()), (o1, ()), (o2, ()), (o3, ()), ())) ((), (o0, ()), (o1, ()), (o2, ()), (o3, ()), ())), low := (scope_path_ends_os.enc (scope_path_ends_os.lens ((), (o0, ()), (o1, ()), (o2, ()), (o3, ()), ())) ((), (o0, ()), (o1, ()), (o2, ()), (o3, ()), ())).length } = B a0 o0 o1 o2 o3 } := by
  apply Subtype.mk
  intro a0 o0 o1 o2 o3
  simp (config := { maxSteps := 100000000 }) only [go_sem, Nat.reduceAdd, Nat.reduceSub, Nat.reduceLeDiff, Nat.reduceEqDiff, Nat.reduceBEq, Nat.reduceMul, Nat.reduceLT, Int.reduceLE, Int.reduceLT, Int.reduceToNat, Int.reduceBEq, Int.reduceEq, scope_path_ends_f, scope_path_ends_c, Tryd.f42, Option.getD_some, mixed, scope_path_ends_os, scope_path_ends_o1, scope_Shortest_k0_1_0_1_1_r_os, scope_Shortest_k0_1_0_1_1_r_o1, scope_Shortest_k0_1_0_1_1_f, scope_path_ends_n1, scope_path_ends_l1_eq n]
  exact rfl
noncomputable def scope_path_ends : Nat → (List Str) → State → Str → Str → Int → Option (((Unit × Int) × ((State × Unit) × ((Str × Unit) × ((Str × Unit) × ((Int × Unit) × Unit))))) × Unit)
  | 0, _, _, _, _, _ => none
  | n + 1, a0, o0, o1, o2, o3 => (scope_path_ends_e n).1 a0 o0 o1 o2 o3
theorem scope_path_ends_ok : ∀ (n : Nat) (a0 : (List Str)) (o0 : State) (o1 : Str) (o2 : Str) (o3 : Int) (r : (((Unit × Int) × ((State × Unit) × ((Str × Unit) × ((Str × Unit) × ((Int × Unit) × Unit))))) × Unit)), scope_path_ends n a0 o0 o1 o2 o3 = some r → FnG Tryd.prog 42 ((alT (tyL rowS) (alM 0 alN)).enc (scope_path_ends_os.lens ((), (o0, ()), (o1, ()), (o2, ()), (o3, ()), ())) (a0, ())) (scope_path_ends_os.enc (scope_path_ends_os.lens ((), (o0, ()), (o1, ()), (o2, ()), (o3, ()), ())) ((), (o0, ()), (o1, ()), (o2, ()), (o3, ()), ())) (fun o H' => o = .ret (tupOf (alN.enc (scope_path_ends_o1.lens r.1) r.2)) ∧ H' = scope_path_ends_o1.enc (scope_path_ends_o1.lens r.1) r.1)
  | 0, _, _, _, _, _, _, h => by cases h
  | n + 1, a0, o0, o1, o2, o3, r, h => by
    exact fnG_run (M := scope_path_ends_m n) ⟨(tabA_cons_ok (ent2_ok (strings_Join_ok n)) tabA_nil_ok), tabD_nil_ok, tabN_ok _, tabF_ok _, (tabY_cons_ok (fun _ _ _ _ _ h => entY_ok (fun b a r h => (scope_Shortest_k0_1_0_1_1_r_ok n) a.1 b.2.1.1 b.2.2.1.1 b.2.2.2.1.1 b.2.2.2.2.1.1 r h) h) tabY_nil_ok), noE_ok⟩ Tryd.func42 rfl rfl (nbL_le (Nat.le_trans (of_decide_eq_true (by kernel_rfl)) (Nat.le_of_eq (scope_path_ends_os.sz _ _).symm)) _ ((alT (tyL rowS) (alM 0 alN)).nb _ _)) (fun x hx => objNb_le' (Nat.le_trans (of_decide_eq_true (by kernel_rfl)) (Nat.le_of_eq (scope_path_ends_os.sz _ _).symm)) _ (scope_path_ends_os.nb _ _ x hx)) Tryd.ntmps42 Tryd.results42 (fun σ hs => outS_ok (P := Tryd.prog) (rs := []) (pos := []) (base := [0, 1, 2, 3, 4]) (low := 5) (os := scope_path_ends_o1) (s := alN) (σ := σ) (r := r) (by rfl) hs) (((scope_path_ends_e n).2 a0 o0 o1 o2 o3).trans h)
end Go.Abs
namespace Go.Abs
open Go.Proofs
set_option maxRecDepth 100000
set_option maxHeartbeats 4000000
set_option linter.unusedSimpArgs false
set_option linter.unusedVariables false
noncomputable def scope_Shortest_m (n : Nat) : Mach (Str × Int) where
  body := (Tryd.f13.body).getD .skip
  P := Tryd.prog
  cl := tabA [(15, ent2 (tyC State.cel) tyS tyB (scope_Declared n)), (19, ent2 tyS tyS (tyL rowS) (strings_Split n)), (42, entX [.arg 1 [], .obj 0 2 [], .obj 0 3 [], .obj 0 4 [], .obj 0 5 []] scope_path_ends_os (alT (tyL rowS) (alM 0 alN)) scope_path_ends_o1 alN (fun (b : (Unit × ((State × Unit) × ((Str × Unit) × ((Str × Unit) × ((Int × Unit) × Unit)))))) (a : ((List Str) × Unit)) => (scope_path_ends n) a.1 b.2.1.1 b.2.2.1.1 b.2.2.2.1.1 b.2.2.2.2.1.1))]
  cd := tabD []
  nrm := tabN []
  cut := tabF []
  n := n
  out := outR Tryd.prog [.cell 4 9, .cell 5 30] (ty2 tyS (tyI .i64))
  js := tabJ [([0, 1, 0, 1, 1], [(1, .ret)])]
theorem scope_Shortest_f (n : Nat) : (scope_Shortest_m n).P = Tryd.prog ∧ (scope_Shortest_m n).cl = tabA [(15, ent2 (tyC State.cel) tyS tyB (scope_Declared n)), (19, ent2 tyS tyS (tyL rowS) (strings_Split n)), (42, entX [.arg 1 [], .obj 0 2 [], .obj 0 3 [], .obj 0 4 [], .obj 0 5 []] scope_path_ends_os (alT (tyL rowS) (alM 0 alN)) scope_path_ends_o1 alN (fun (b : (Unit × ((State × Unit) × ((Str × Unit) × ((Str × Unit) × ((Int × Unit) × Unit)))))) (a : ((List Str) × Unit)) => (scope_path_ends n) a.1 b.2.1.1 b.2.2.1.1 b.2.2.2.1.1 b.2.2.2.2.1.1))] ∧ (scope_Shortest_m n).cd = tabD [] ∧ (scope_Shortest_m n).nrm = tabN [] ∧ (scope_Shortest_m n).cut = tabF [] ∧ (scope_Shortest_m n).n = n ∧ (scope_Shortest_m n).out = outR Tryd.prog [.cell 4 9, .cell 5 30] (ty2 tyS (tyI .i64)) ∧ (scope_Shortest_m n).js = tabJ [([0, 1, 0, 1, 1], [(1, .ret)])] := ⟨rfl, rfl, rfl, rfl, rfl, rfl, rfl, rfl⟩
theorem scope_Shortest_c (n : Nat) : (scope_Shortest_m n).body = (Tryd.f13.body).getD .skip := rfl
theorem scope_Shortest_k0_ (n : Nat) : lkM (scope_Shortest_m n) [0, 1, 0, 1, 1] = scope_Shortest_k0_1_0_1_1 := rfl
noncomputable def scope_Shortest_e (n : Nat) : { B : State → Str → Option (Str × Int) // ∀ (a0 : State) (a1 : Str), run (scope_Shortest_m n) [.at []] { slots := [(tyC State.cel).enc a0, tyS.enc a1] ++ List.replicate (31 - [(tyC State.cel).enc a0, tyS.enc a1].length) .any, heap := [] } = B a0 a1 } := by
  apply Subtype.mk
  intro a0 a1
  simp (config := { maxSteps := 100000000 }) only [go_sem, Nat.reduceAdd, Nat.reduceSub, Nat.reduceLeDiff, Nat.reduceEqDiff, Nat.reduceBEq, Nat.reduceMul, Nat.reduceLT, Int.reduceLE, Int.reduceLT, Int.reduceToNat, Int.reduceBEq, Int.reduceEq, scope_Shortest_f, scope_Shortest_c, Tryd.f13, Option.getD_some, mixed, scope_path_ends_os, scope_path_ends_o1, scope_Shortest_k0_1_0_1_1_f, scope_Shortest_k0_]
  exact rfl
noncomputable def scope_Shortest : Nat → State → Str → Option (Str × Int)
  | 0, _, _ => none
  | n + 1, a0, a1 => (scope_Shortest_e n).1 a0 a1
theorem scope_Shortest_ok : ∀ (n : Nat) (a0 : State) (a1 : Str) (r : (Str × Int)), scope_Shortest n a0 a1 = some r → FnC Tryd.prog 13 [(tyC State.cel).enc a0, tyS.enc a1] (fun v => v = (ty2 tyS (tyI .i64)).enc r)
  | 0, _, _, _, h => by cases h
  | n + 1, a0, a1, r, h => by
    exact fnC_run (M := scope_Shortest_m n) ⟨(tabA_cons_ok (ent2_ok (scope_Declared_ok n)) (tabA_cons_ok (ent2_ok (strings_Split_ok n)) (tabA_cons_ok (entX_ok (fun b a r h => (scope_path_ends_ok n) a.1 b.2.1.1 b.2.2.1.1 b.2.2.2.1.1 b.2.2.2.2.1.1 r h)) tabA_nil_ok))), tabD_nil_ok, tabN_ok _, tabF_ok _, noY_ok, noE_ok⟩ Tryd.func13 rfl rfl ⟨(tyC State.cel).nb 0 _, tyS.nb 0 _, trivial⟩ Tryd.ntmps13 Tryd.results13 (fun σ hs => outR_ok (P := Tryd.prog) (rs := [.cell 4 9, .cell 5 30]) (t := (ty2 tyS (tyI .i64))) (σ := σ) (r := r) hs) (((scope_Shortest_e n).2 a0 a1).trans h)
end Go.Abs
namespace Go.Abs
open Go.Proofs
set_option maxRecDepth 100000
set_option maxHeartbeats 4000000
set_option linter.unusedSimpArgs false
set_option linter.unusedVariables false
noncomputable def law27_awake_m (n : Nat) : Mach Bool where
  body := (Tryd.f10.body).getD .skip
  P := Tryd.prog
  cl := tabA [(11, ent2 (tyC State.cel) tyS (ty2 tyS (tyI .i64)) (scope_Resolve n)), (13, ent2 (tyC State.cel) tyS (ty2 tyS (tyI .i64)) (scope_Shortest n)), (17, ent2 (tyC State.cel) tyS tyS (scope_Qualify n)), (24, ent1 (tyL rowS) (tyC State.cel) (law27_state n)), (35, ent3 (tyL rowS) (tyL rowS) (tyP State.cel) (tyC State.cel) (law27_awake_1 n))]
  cd := tabD []
  nrm := tabN []
  cut := tabF [([1, 1, 1], [0])]
  n := n
  out := outR Tryd.prog [.tmp 0] tyB
theorem law27_awake_f (n : Nat) : (law27_awake_m n).P = Tryd.prog ∧ (law27_awake_m n).cl = tabA [(11, ent2 (tyC State.cel) tyS (ty2 tyS (tyI .i64)) (scope_Resolve n)), (13, ent2 (tyC State.cel) tyS (ty2 tyS (tyI .i64)) (scope_Shortest n)), (17, ent2 (tyC State.cel) tyS tyS (scope_Qualify n)), (24, ent1 (tyL rowS) (tyC State.cel) (law27_state n)), (35, ent3 (tyL rowS) (tyL rowS) (tyP State.cel) (tyC State.cel) (law27_awake_1 n))] ∧ (law27_awake_m n).cd = tabD [] ∧ (law27_awake_m n).nrm = tabN [] ∧ (law27_awake_m n).cut = tabF [([1, 1, 1], [0])] ∧ (law27_awake_m n).n = n ∧ (law27_awake_m n).out = outR Tryd.prog [.tmp 0] tyB := ⟨rfl, rfl, rfl, rfl, rfl, rfl, rfl⟩
theorem law27_awake_c (n : Nat) : (law27_awake_m n).body = (Tryd.f10.body).getD .skip := rfl
noncomputable def law27_awake_e (n : Nat) : { B : Option Bool // run (law27_awake_m n) [.at []] { slots := ([] : List AV) ++ List.replicate (115 - ([] : List AV).length) .any, heap := [] } = B } := by
  apply Subtype.mk
  simp (config := { maxSteps := 100000000 }) only [go_sem, Nat.reduceAdd, Nat.reduceSub, Nat.reduceLeDiff, Nat.reduceEqDiff, Nat.reduceBEq, Nat.reduceMul, Nat.reduceLT, Int.reduceLE, Int.reduceLT, Int.reduceToNat, Int.reduceBEq, Int.reduceEq, law27_awake_f, law27_awake_c, Tryd.f10, Option.getD_some, mixed]
  exact rfl
noncomputable def law27_awake : Nat → Option Bool
  | 0 => none
  | n + 1 => (law27_awake_e n).1
theorem law27_awake_ok : ∀ (n : Nat) (r : Bool), law27_awake n = some r → FnC Tryd.prog 10 [] (fun v => v = tyB.enc r)
  | 0, _, h => by cases h
  | n + 1, r, h => by
    exact fnC_run (M := law27_awake_m n) ⟨(tabA_cons_ok (ent2_ok (scope_Resolve_ok n)) (tabA_cons_ok (ent2_ok (scope_Shortest_ok n)) (tabA_cons_ok (ent2_ok (scope_Qualify_ok n)) (tabA_cons_ok (ent1_ok (law27_state_ok n)) (tabA_cons_ok (ent3_ok (law27_awake_1_ok n)) tabA_nil_ok))))), tabD_nil_ok, tabN_ok _, tabF_ok _, noY_ok, noE_ok⟩ Tryd.func10 rfl rfl trivial Tryd.ntmps10 Tryd.results10 (fun σ hs => outR_ok (P := Tryd.prog) (rs := [.tmp 0]) (t := tyB) (σ := σ) (r := r) hs) (((law27_awake_e n).2).trans h)
end Go.Abs
namespace Go.Abs
open Go.Proofs
set_option maxRecDepth 100000
set_option maxHeartbeats 4000000
set_option linter.unusedSimpArgs false
set_option linter.unusedVariables false
noncomputable def law27_ScopeResolves_m (n : Nat) : Mach Bool where
  body := (Tryd.f3.body).getD .skip
  P := Tryd.prog
  cl := tabA [(9, ent1 (tyC State.cel) tyB (law27_Few n)), (10, ent0  tyB (law27_awake n)), (11, ent2 (tyC State.cel) tyS (ty2 tyS (tyI .i64)) (scope_Resolve n)), (12, ent2 (tyC State.cel) tyS (ty2 tyS (tyI .i64)) (ref27_Resolve n)), (13, ent2 (tyC State.cel) tyS (ty2 tyS (tyI .i64)) (scope_Shortest n)), (14, ent2 (tyC State.cel) tyS (ty2 tyS (tyI .i64)) (ref27_Shortest n))]
  cd := tabD [(10, entD (ent0  tyB (law27_awake n))), (15, entD (ent2 (tyC State.cel) tyS tyB (scope_Declared n))), (16, entD (ent2 (tyC State.cel) tyS tyB (ref27_Declared n))), (17, entD (ent2 (tyC State.cel) tyS tyS (scope_Qualify n))), (18, entD (ent2 (tyC State.cel) tyS tyS (ref27_Qualify n)))]
  nrm := tabN []
  cut := tabF []
  n := n
  out := outR Tryd.prog [.tmp 4] tyB
  isE := tabI []
theorem law27_ScopeResolves_f (n : Nat) : (law27_ScopeResolves_m n).P = Tryd.prog ∧ (law27_ScopeResolves_m n).cl = tabA [(9, ent1 (tyC State.cel) tyB (law27_Few n)), (10, ent0  tyB (law27_awake n)), (11, ent2 (tyC State.cel) tyS (ty2 tyS (tyI .i64)) (scope_Resolve n)), (12, ent2 (tyC State.cel) tyS (ty2 tyS (tyI .i64)) (ref27_Resolve n)), (13, ent2 (tyC State.cel) tyS (ty2 tyS (tyI .i64)) (scope_Shortest n)), (14, ent2 (tyC State.cel) tyS (ty2 tyS (tyI .i64)) (ref27_Shortest n))] ∧ (law27_ScopeResolves_m n).cd = tabD [(10, entD (ent0  tyB (law27_awake n))), (15, entD (ent2 (tyC State.cel) tyS tyB (scope_Declared n))), (16, entD (ent2 (tyC State.cel) tyS tyB (ref27_Declared n))), (17, entD (ent2 (tyC State.cel) tyS tyS (scope_Qualify n))), (18, entD (ent2 (tyC State.cel) tyS tyS (ref27_Qualify n)))] ∧ (law27_ScopeResolves_m n).nrm = tabN [] ∧ (law27_ScopeResolves_m n).cut = tabF [] ∧ (law27_ScopeResolves_m n).n = n ∧ (law27_ScopeResolves_m n).out = outR Tryd.prog [.tmp 4] tyB ∧ (law27_ScopeResolves_m n).isE = tabI [] := ⟨rfl, rfl, rfl, rfl, rfl, rfl, rfl, rfl⟩
theorem law27_ScopeResolves_c (n : Nat) : (law27_ScopeResolves_m n).body = (Tryd.f3.body).getD .skip := rfl
theorem law27_ScopeResolves_d (n : Nat) : drawP (law27_ScopeResolves_m n) [0, 1, 1, 1, 1, 1, 1] = true := by kernel_rfl
noncomputable def law27_ScopeResolves_e (n : Nat) : { B : State → Str → Option Bool // ∀ (a0 : State) (a1 : Str), run (law27_ScopeResolves_m n) [.at []] { slots := [(tyC State.cel).enc a0, tyS.enc a1] ++ List.replicate (85 - [(tyC State.cel).enc a0, tyS.enc a1].length) .any, heap := [] } = B a0 a1 } := by
  apply Subtype.mk
  intro a0 a1
  simp (config := { maxSteps := 100000000 }) only [go_sem, Nat.reduceAdd, Nat.reduceSub, Nat.reduceLeDiff, Nat.reduceEqDiff, Nat.reduceBEq, Nat.reduceMul, Nat.reduceLT, Int.reduceLE, Int.reduceLT, Int.reduceToNat, Int.reduceBEq, Int.reduceEq, law27_ScopeResolves_f, law27_ScopeResolves_c, Tryd.f3, Option.getD_some, mixed, law27_ScopeResolves_d]
  exact rfl
noncomputable def law27_ScopeResolves : Nat → State → Str → Option Bool
  | 0, _, _ => none
  | n + 1, a0, a1 => (law27_ScopeResolves_e n).1 a0 a1
theorem law27_ScopeResolves_ok : ∀ (n : Nat) (a0 : State) (a1 : Str) (r : Bool), law27_ScopeResolves n a0 a1 = some r → FnC Tryd.prog 3 [(tyC State.cel).enc a0, tyS.enc a1] (fun v => v = tyB.enc r)
  | 0, _, _, _, h => by cases h
  | n + 1, a0, a1, r, h => by
    exact fnC_run (M := law27_ScopeResolves_m n) ⟨(tabA_cons_ok (ent1_ok (law27_Few_ok n)) (tabA_cons_ok (ent0_ok (law27_awake_ok n)) (tabA_cons_ok (ent2_ok (scope_Resolve_ok n)) (tabA_cons_ok (ent2_ok (ref27_Resolve_ok n)) (tabA_cons_ok (ent2_ok (scope_Shortest_ok n)) (tabA_cons_ok (ent2_ok (ref27_Shortest_ok n)) tabA_nil_ok)))))), (tabD_cons_ok (ent0_okD (law27_awake_ok n)) (tabD_cons_ok (ent2_okD (scope_Declared_ok n)) (tabD_cons_ok (ent2_okD (ref27_Declared_ok n)) (tabD_cons_ok (ent2_okD (scope_Qualify_ok n)) (tabD_cons_ok (ent2_okD (ref27_Qualify_ok n)) tabD_nil_ok))))), tabN_ok _, tabF_ok _, noY_ok, noE_ok⟩ Tryd.func3 rfl rfl ⟨(tyC State.cel).nb 0 _, tyS.nb 0 _, trivial⟩ Tryd.ntmps3 Tryd.results3 (fun σ hs => outR_ok (P := Tryd.prog) (rs := [.tmp 4]) (t := tyB) (σ := σ) (r := r) hs) (((law27_ScopeResolves_e n).2 a0 a1).trans h)

noncomputable def law27_ScopeShortens_n1 : Nrm := ⟨[], [], [zA, zK, zK, zA, zA, zK, zK, zT (tyL rowS), zK, zA, zA, zA, zA, zA, zA, zA, zA, zA, zA, zA, zA, zA, zA, zA, zA, zA, zA, zA, zA, zA, zA, zA, zA, zA, zA, zA, zA, zA, zA, zA, zA, zA, zA, zA, zA, zA, zA, zA, zA, zA, zA, zA, zA, zA, zA, zA, zA, zA, zA, zA, zA, zA, zA, zA, zA, zA, zA, zA, zA, zA, zA, zA, zA, zA, zA, zA, zA], [oT State.cel], none⟩
noncomputable def law27_ScopeShortens_m (n : Nat) : Mach Bool where
  body := (Tryd.f4.body).getD .skip
  P := Tryd.prog
  cl := tabA [(9, ent1 (tyC State.cel) tyB (law27_Few n)), (10, ent0  tyB (law27_awake n)), (11, ent2 (tyC State.cel) tyS (ty2 tyS (tyI .i64)) (scope_Resolve n)), (13, ent2 (tyC State.cel) tyS (ty2 tyS (tyI .i64)) (scope_Shortest n)), (19, ent2 tyS tyS (tyL rowS) (strings_Split n)), (20, ent2 (tyL rowS) tyS tyS (strings_Join n))]
  cd := tabD []
  nrm := tabN [([0, 1, 0, 1, 1, 1, 1], law27_ScopeShortens_n1)]
  cut := tabF []
  n := n
  out := outR Tryd.prog [.tmp 4] tyB
theorem law27_ScopeShortens_f (n : Nat) : (law27_ScopeShortens_m n).P = Tryd.prog ∧ (law27_ScopeShortens_m n).cl = tabA [(9, ent1 (tyC State.cel) tyB (law27_Few n)), (10, ent0  tyB (law27_awake n)), (11, ent2 (tyC State.cel) tyS (ty2 tyS (tyI .i64)) (scope_Resolve n)), (13, ent2 (tyC State.cel) tyS (ty2 tyS (tyI .i64)) (scope_Shortest n)), (19, ent2 tyS tyS (tyL rowS) (strings_Split n)), (20, ent2 (tyL rowS) tyS tyS (strings_Join n))] ∧ (law27_ScopeShortens_m n).cd = tabD [] ∧ (law27_ScopeShortens_m n).nrm = tabN [([0, 1, 0, 1, 1, 1, 1], law27_ScopeShortens_n1)] ∧ (law27_ScopeShortens_m n).cut = tabF [] ∧ (law27_ScopeShortens_m n).n = n ∧ (law27_ScopeShortens_m n).out = outR Tryd.prog [.tmp 4] tyB := ⟨rfl, rfl, rfl, rfl, rfl, rfl, rfl⟩
theorem law27_ScopeShortens_c (n : Nat) : (law27_ScopeShortens_m n).body = (Tryd.f4.body).getD .skip := rfl
noncomputable def law27_ScopeShortens_b1 (n : Nat) : { B : (Str → Str → Int → (List Str) → Int → State → Option Bool) → Str → Str → Int → (List Str) → Int → State → Option Bool // ∀ m X0, (∀ (v0 : Str) (v1 : Str) (v2 : Int) (v3 : List Str) (v4 : Int) (o0 : State), run (law27_ScopeShortens_m n) [.lq m [0, 1, 0, 1, 1, 1, 1], .blk 0, .cut [1, 1, 1, 1, 1], .at [1, 1, 1, 1, 1]] ⟨[.any, .str (sb v0), .ptr 0 0, .any, .any, .str (sb v1), .int .i64 v2, .lst false 1 (mp scell v3), .int .i64 v4, .any, .any, .any, .any, .any, .any, .any, .any, .any, .any, .any, .any, .any, .any, .any, .any, .any, .any, .any, .any, .any, .any, .any, .any, .any, .any, .any, .any, .any, .any, .any, .any, .any, .any, .any, .any, .any, .any, .any, .any, .any, .any, .any, .any, .any, .any, .any, .any, .any, .any, .any, .any, .any, .any, .any, .any, .any, .any, .any, .any, .any, .any, .any, .any, .any, .any, .any, .any], [.cells (State.cells o0)], 0⟩ = X0 v0 v1 v2 v3 v4 o0) → ∀ (v0 : Str) (v1 : Str) (v2 : Int) (v3 : List Str) (v4 : Int) (o0 : State), run (law27_ScopeShortens_m n) [.at [0, 0, 1, 0, 1, 1, 1, 1], .lp m [0, 1, 0, 1, 1, 1, 1], .blk 0, .cut [1, 1, 1, 1, 1], .at [1, 1, 1, 1, 1]] ⟨[.any, .str (sb v0), .ptr 0 0, .any, .any, .str (sb v1), .int .i64 v2, .lst false 1 (mp scell v3), .int .i64 v4, .any, .any, .any, .any, .any, .any, .any, .any, .any, .any, .any, .any, .any, .any, .any, .any, .any, .any, .any, .any, .any, .any, .any, .any, .any, .any, .any, .any, .any, .any, .any, .any, .any, .any, .any, .any, .any, .any, .any, .any, .any, .any, .any, .any, .any, .any, .any, .any, .any, .any, .any, .any, .any, .any, .any, .any, .any, .any, .any, .any, .any, .any, .any, .any, .any, .any, .any, .any], [.cells (State.cells o0)], 0⟩ = B X0 v0 v1 v2 v3 v4 o0 } := by
  apply Subtype.mk
  intro m X0 ih v0 v1 v2 v3 v4 o0
  simp (config := { maxSteps := 100000000 }) only [go_sem, Nat.reduceAdd, Nat.reduceSub, Nat.reduceLeDiff, Nat.reduceEqDiff, Nat.reduceBEq, Nat.reduceMul, Nat.reduceLT, Int.reduceLE, Int.reduceLT, Int.reduceToNat, Int.reduceBEq, Int.reduceEq, law27_ScopeShortens_f, law27_ScopeShortens_c, Tryd.f4, Option.getD_some, mixed, law27_ScopeShortens_n1, ih]
  exact rfl
noncomputable def law27_ScopeShortens_l1 (n : Nat) : Nat → Str → Str → Int → (List Str) → Int → State → Option Bool
  | 0, _, _, _, _, _, _ => none
  | m + 1, v0, v1, v2, v3, v4, o0 => (law27_ScopeShortens_b1 n).1 (law27_ScopeShortens_l1 n m) v0 v1 v2 v3 v4 o0
theorem law27_ScopeShortens_l1_eq (n : Nat) : ∀ (m : Nat), (∀ (v0 : Str) (v1 : Str) (v2 : Int) (v3 : List Str) (v4 : Int) (o0 : State), run (law27_ScopeShortens_m n) [.lq m [0, 1, 0, 1, 1, 1, 1], .blk 0, .cut [1, 1, 1, 1, 1], .at [1, 1, 1, 1, 1]] ⟨[.any, .str (sb v0), .ptr 0 0, .any, .any, .str (sb v1), .int .i64 v2, .lst false 1 (mp scell v3), .int .i64 v4, .any, .any, .any, .any, .any, .any, .any, .any, .any, .any, .any, .any, .any, .any, .any, .any, .any, .any, .any, .any, .any, .any, .any, .any, .any, .any, .any, .any, .any, .any, .any, .any, .any, .any, .any, .any, .any, .any, .any, .any, .any, .any, .any, .any, .any, .any, .any, .any, .any, .any, .any, .any, .any, .any, .any, .any, .any, .any, .any, .any, .any, .any, .any, .any, .any, .any, .any, .any], [.cells (State.cells o0)], 0⟩ = law27_ScopeShortens_l1 n m v0 v1 v2 v3 v4 o0)
  | 0 => by intros; exact run_lq_zero
  | m + 1 => by
    have ih := law27_ScopeShortens_l1_eq n m
    intro v0 v1 v2 v3 v4 o0
    rw [run_lq_succ]
    exact (law27_ScopeShortens_b1 n).2  m _  ih v0 v1 v2 v3 v4 o0
noncomputable def law27_ScopeShortens_e (n : Nat) : { B : State → Str → Option Bool // ∀ (a0 : State) (a1 : Str), run (law27_ScopeShortens_m n) [.at []] { slots := [(tyC State.cel).enc a0, tyS.enc a1] ++ List.replicate (77 - [(tyC State.cel).enc a0, tyS.enc a1].length) .any, heap := [] } = B a0 a1 } := by
  apply Subtype.mk
  intro a0 a1
  simp (config := { maxSteps := 100000000 }) only [go_sem, Nat.reduceAdd, Nat.reduceSub, Nat.reduceLeDiff, Nat.reduceEqDiff, Nat.reduceBEq, Nat.reduceMul, Nat.reduceLT, Int.reduceLE, Int.reduceLT, Int.reduceToNat, Int.reduceBEq, Int.reduceEq, law27_ScopeShortens_f, law27_ScopeShortens_c, Tryd.f4, Option.getD_some, mixed, law27_ScopeShortens_n1, law27_ScopeShortens_l1_eq n]
  exact rfl
noncomputable def law27_ScopeShortens : Nat → State → Str → Option Bool
  | 0, _, _ => none
  | n + 1, a0, a1 => (law27_ScopeShortens_e n).1 a0 a1
theorem law27_ScopeShortens_ok : ∀ (n : Nat) (a0 : State) (a1 : Str) (r : Bool), law27_ScopeShortens n a0 a1 = some r → FnC Tryd.prog 4 [(tyC State.cel).enc a0, tyS.enc a1] (fun v => v = tyB.enc r)
  | 0, _, _, _, h => by cases h
  | n + 1, a0, a1, r, h => by
    exact fnC_run (M := law27_ScopeShortens_m n) ⟨(tabA_cons_ok (ent1_ok (law27_Few_ok n)) (tabA_cons_ok (ent0_ok (law27_awake_ok n)) (tabA_cons_ok (ent2_ok (scope_Resolve_ok n)) (tabA_cons_ok (ent2_ok (scope_Shortest_ok n)) (tabA_cons_ok (ent2_ok (strings_Split_ok n)) (tabA_cons_ok (ent2_ok (strings_Join_ok n)) tabA_nil_ok)))))), tabD_nil_ok, tabN_ok _, tabF_ok _, noY_ok, noE_ok⟩ Tryd.func4 rfl rfl ⟨(tyC State.cel).nb 0 _, tyS.nb 0 _, trivial⟩ Tryd.ntmps4 Tryd.results4 (fun σ hs => outR_ok (P := Tryd.prog) (rs := [.tmp 4]) (t := tyB) (σ := σ) (r := r) hs) (((law27_ScopeShortens_e n).2 a0 a1).trans h)

noncomputable def law27_ScopeFinds_m (n : Nat) : Mach Bool where
  body := (Tryd.f5.body).getD .skip
  P := Tryd.prog
  cl := tabA [(9, ent1 (tyC State.cel) tyB (law27_Few n)), (10, ent0  tyB (law27_awake n)), (11, ent2 (tyC State.cel) tyS (ty2 tyS (tyI .i64)) (scope_Resolve n)), (15, ent2 (tyC State.cel) tyS tyB (scope_Declared n)), (20, ent2 (tyL rowS) tyS tyS (strings_Join n)), (21, entG [] osN (asT (tyL rowS) asN) (osC (oaT true rowS) osN) (rsA 0 (fun (b : ((List Str) × Unit)) => b.1.length) rsN) (fun (b : Unit) a => (slices_Clone_string_2_h n) a.1)), (22, ent2 tyS tyS tyB (strings_HasSuffix n))]
  cd := tabD [(10, entD (ent0  tyB (law27_awake n))), (15, entD (ent2 (tyC State.cel) tyS tyB (scope_Declared n)))]
  nrm := tabN []
  cut := tabF []
  n := n
  out := outR Tryd.prog [.tmp 4] tyB
  isE := tabI [21, 20]
  ce := tabE [(21, entE (asT (tyL rowS) asN) (osC (oaT true rowS) osN) (rsA 0 (fun (b : ((List Str) × Unit)) => b.1.length) rsN) (fun a => (slices_Clone_string_2_h n) a.1)), (20, entR (entD (ent2 (tyL rowS) tyS tyS (strings_Join n))))]
theorem law27_ScopeFinds_f (n : Nat) : (law27_ScopeFinds_m n).P = Tryd.prog ∧ (law27_ScopeFinds_m n).cl = tabA [(9, ent1 (tyC State.cel) tyB (law27_Few n)), (10, ent0  tyB (law27_awake n)), (11, ent2 (tyC State.cel) tyS (ty2 tyS (tyI .i64)) (scope_Resolve n)), (15, ent2 (tyC State.cel) tyS tyB (scope_Declared n)), (20, ent2 (tyL rowS) tyS tyS (strings_Join n)), (21, entG [] osN (asT (tyL rowS) asN) (osC (oaT true rowS) osN) (rsA 0 (fun (b : ((List Str) × Unit)) => b.1.length) rsN) (fun (b : Unit) a => (slices_Clone_string_2_h n) a.1)), (22, ent2 tyS tyS tyB (strings_HasSuffix n))] ∧ (law27_ScopeFinds_m n).cd = tabD [(10, entD (ent0  tyB (law27_awake n))), (15, entD (ent2 (tyC State.cel) tyS tyB (scope_Declared n)))] ∧ (law27_ScopeFinds_m n).nrm = tabN [] ∧ (law27_ScopeFinds_m n).cut = tabF [] ∧ (law27_ScopeFinds_m n).n = n ∧ (law27_ScopeFinds_m n).out = outR Tryd.prog [.tmp 4] tyB ∧ (law27_ScopeFinds_m n).isE = tabI [21, 20] ∧ (law27_ScopeFinds_m n).ce = tabE [(21, entE (asT (tyL rowS) asN) (osC (oaT true rowS) osN) (rsA 0 (fun (b : ((List Str) × Unit)) => b.1.length) rsN) (fun a => (slices_Clone_string_2_h n) a.1)), (20, entR (entD (ent2 (tyL rowS) tyS tyS (strings_Join n))))] := ⟨rfl, rfl, rfl, rfl, rfl, rfl, rfl, rfl, rfl⟩
theorem law27_ScopeFinds_c (n : Nat) : (law27_ScopeFinds_m n).body = (Tryd.f5.body).getD .skip := rfl
theorem law27_ScopeFinds_d (n : Nat) : drawP (law27_ScopeFinds_m n) [0, 0, 1, 0, 1, 1, 1] = true := by kernel_rfl
theorem law27_ScopeFinds_o (n : Nat) : ordP (law27_ScopeFinds_m n) [0, 0, 1, 0, 1, 1, 1] 8 12 = true ∧ ordP (law27_ScopeFinds_m n) [0, 0, 1, 0, 1, 1, 1] 9 12 = true ∧ ordP (law27_ScopeFinds_m n) [0, 0, 1, 0, 1, 1, 1] 9 13 = true ∧ ordP (law27_ScopeFinds_m n) [0, 0, 1, 0, 1, 1, 1] 12 13 = true ∧ ordP (law27_ScopeFinds_m n) [0, 0, 1, 0, 1, 1, 1] 9 19 = true ∧ ordP (law27_ScopeFinds_m n) [0, 0, 1, 0, 1, 1, 1] 12 19 = true ∧ ordP (law27_ScopeFinds_m n) [0, 0, 1, 0, 1, 1, 1] 13 19 = true ∧ ordP (law27_ScopeFinds_m n) [0, 0, 1, 0, 1, 1, 1] 9 20 = true ∧ ordP (law27_ScopeFinds_m n) [0, 0, 1, 0, 1, 1, 1] 12 20 = true ∧ ordP (law27_ScopeFinds_m n) [0, 0, 1, 0, 1, 1, 1] 13 20 = true := ⟨by kernel_rfl, by kernel_rfl, by kernel_rfl, by kernel_rfl, by kernel_rfl, by kernel_rfl, by kernel_rfl, by kernel_rfl, by kernel_rfl, by kernel_rfl⟩
noncomputable def law27_ScopeFinds_e (n : Nat) : { B : State → Str → Option Bool // ∀ (a0 : State) (a1 : Str), run (law27_ScopeFinds_m n) [.at []] { slots := [(tyC State.cel).enc a0, tyS.enc a1] ++ List.replicate (97 - [(tyC State.cel).enc a0, tyS.enc a1].length) .any, heap := [] } = B a0 a1 } := by
  apply Subtype.mk
  intro a0 a1
  simp (config := { maxSteps := 100000000 }) only [go_sem, Nat.reduceAdd, Nat.reduceSub, Nat.reduceLeDiff, Nat.reduceEqDiff, Nat.reduceBEq, Nat.reduceMul, Nat.reduceLT, Int.reduceLE, Int.reduceLT, Int.reduceToNat, Int.reduceBEq, Int.reduceEq, law27_ScopeFinds_f, law27_ScopeFinds_c, Tryd.f5, Option.getD_some, mixed, law27_ScopeFinds_d, law27_ScopeFinds_o]
  exact rfl
noncomputable def law27_ScopeFinds : Nat → State → Str → Option Bool
  | 0, _, _ => none
  | n + 1, a0, a1 => (law27_ScopeFinds_e n).1 a0 a1
theorem law27_ScopeFinds_ok : ∀ (n : Nat) (a0 : State) (a1 : Str) (r : Bool), law27_ScopeFinds n a0 a1 = some r → FnC Tryd.prog 5 [(tyC State.cel).enc a0, tyS.enc a1] (fun v => v = tyB.enc r)
  | 0, _, _, _, h => by cases h
  | n + 1, a0, a1, r, h => by
    exact fnC_run (M := law27_ScopeFinds_m n) ⟨(tabA_cons_ok (ent1_ok (law27_Few_ok n)) (tabA_cons_ok (ent0_ok (law27_awake_ok n)) (tabA_cons_ok (ent2_ok (scope_Resolve_ok n)) (tabA_cons_ok (ent2_ok (scope_Declared_ok n)) (tabA_cons_ok (ent2_ok (strings_Join_ok n)) (tabA_cons_ok (entG_ok (fun b a r h => (slices_Clone_string_2_h_ok n) a.1 r h)) (tabA_cons_ok (ent2_ok (strings_HasSuffix_ok n)) tabA_nil_ok))))))), (tabD_cons_ok (ent0_okD (law27_awake_ok n)) (tabD_cons_ok (ent2_okD (scope_Declared_ok n)) tabD_nil_ok)), tabN_ok _, tabF_ok _, noY_ok, (tabE_cons_ok (entE_ok (fun a => ⟨(tyL rowS).nb 0 _, trivial⟩) (fun a r h => (slices_Clone_string_2_h_ok n) a.1 r h)) (tabE_cons_ok (entR_ok (ent2_okD (strings_Join_ok n))) tabE_nil_ok))⟩ Tryd.func5 rfl rfl ⟨(tyC State.cel).nb 0 _, tyS.nb 0 _, trivial⟩ Tryd.ntmps5 Tryd.results5 (fun σ hs => outR_ok (P := Tryd.prog) (rs := [.tmp 4]) (t := tyB) (σ := σ) (r := r) hs) (((law27_ScopeFinds_e n).2 a0 a1).trans h)

noncomputable def law27_ScopeOpens_m (n : Nat) : Mach Bool where
  body := (Tryd.f6.body).getD .skip
  P := Tryd.prog
  cl := tabA [(10, ent0  tyB (law27_awake n)), (11, ent2 (tyC State.cel) tyS (ty2 tyS (tyI .i64)) (scope_Resolve n)), (23, ent1 (tyL rowS) tyB (law27_short n)), (24, ent1 (tyL rowS) (tyC State.cel) (law27_state n)), (25, ent2 (tyC State.cel) tyS (ty2 (tyC State.cel) (tyI .i64)) (scope_Open n))]
  cd := tabD []
  nrm := tabN []
  cut := tabF []
  n := n
  out := outR Tryd.prog [.tmp 6] tyB
theorem law27_ScopeOpens_f (n : Nat) : (law27_ScopeOpens_m n).P = Tryd.prog ∧ (law27_ScopeOpens_m n).cl = tabA [(10, ent0  tyB (law27_awake n)), (11, ent2 (tyC State.cel) tyS (ty2 tyS (tyI .i64)) (scope_Resolve n)), (23, ent1 (tyL rowS) tyB (law27_short n)), (24, ent1 (tyL rowS) (tyC State.cel) (law27_state n)), (25, ent2 (tyC State.cel) tyS (ty2 (tyC State.cel) (tyI .i64)) (scope_Open n))] ∧ (law27_ScopeOpens_m n).cd = tabD [] ∧ (law27_ScopeOpens_m n).nrm = tabN [] ∧ (law27_ScopeOpens_m n).cut = tabF [] ∧ (law27_ScopeOpens_m n).n = n ∧ (law27_ScopeOpens_m n).out = outR Tryd.prog [.tmp 6] tyB := ⟨rfl, rfl, rfl, rfl, rfl, rfl, rfl⟩
theorem law27_ScopeOpens_c (n : Nat) : (law27_ScopeOpens_m n).body = (Tryd.f6.body).getD .skip := rfl
noncomputable def law27_ScopeOpens_e (n : Nat) : { B : (List Str) → Str → Int → Option Bool // ∀ (a0 : (List Str)) (a1 : Str) (a2 : Int), run (law27_ScopeOpens_m n) [.at []] { slots := [(tyL rowS).enc a0, tyS.enc a1, (tyI .u8).enc a2] ++ List.replicate (96 - [(tyL rowS).enc a0, tyS.enc a1, (tyI .u8).enc a2].length) .any, heap := [] } = B a0 a1 a2 } := by
  apply Subtype.mk
  intro a0 a1 a2
  simp (config := { maxSteps := 100000000 }) only [go_sem, Nat.reduceAdd, Nat.reduceSub, Nat.reduceLeDiff, Nat.reduceEqDiff, Nat.reduceBEq, Nat.reduceMul, Nat.reduceLT, Int.reduceLE, Int.reduceLT, Int.reduceToNat, Int.reduceBEq, Int.reduceEq, law27_ScopeOpens_f, law27_ScopeOpens_c, Tryd.f6, Option.getD_some, mixed]
  exact rfl
noncomputable def law27_ScopeOpens : Nat → (List Str) → Str → Int → Option Bool
  | 0, _, _, _ => none
  | n + 1, a0, a1, a2 => (law27_ScopeOpens_e n).1 a0 a1 a2
theorem law27_ScopeOpens_ok : ∀ (n : Nat) (a0 : (List Str)) (a1 : Str) (a2 : Int) (r : Bool), law27_ScopeOpens n a0 a1 a2 = some r → FnC Tryd.prog 6 [(tyL rowS).enc a0, tyS.enc a1, (tyI .u8).enc a2] (fun v => v = tyB.enc r)
  | 0, _, _, _, _, h => by cases h
  | n + 1, a0, a1, a2, r, h => by
    exact fnC_run (M := law27_ScopeOpens_m n) ⟨(tabA_cons_ok (ent0_ok (law27_awake_ok n)) (tabA_cons_ok (ent2_ok (scope_Resolve_ok n)) (tabA_cons_ok (ent1_ok (law27_short_ok n)) (tabA_cons_ok (ent1_ok (law27_state_ok n)) (tabA_cons_ok (ent2_ok (scope_Open_ok n)) tabA_nil_ok))))), tabD_nil_ok, tabN_ok _, tabF_ok _, noY_ok, noE_ok⟩ Tryd.func6 rfl rfl ⟨(tyL rowS).nb 0 _, tyS.nb 0 _, (tyI .u8).nb 0 _, trivial⟩ Tryd.ntmps6 Tryd.results6 (fun σ hs => outR_ok (P := Tryd.prog) (rs := [.tmp 6]) (t := tyB) (σ := σ) (r := r) hs) (((law27_ScopeOpens_e n).2 a0 a1 a2).trans h)

noncomputable def law27_ScopeEnters_m (n : Nat) : Mach Bool where
  body := (Tryd.f7.body).getD .skip
  P := Tryd.prog
  cl := tabA [(9, ent1 (tyC State.cel) tyB (law27_Few n)), (10, ent0  tyB (law27_awake n)), (25, ent2 (tyC State.cel) tyS (ty2 (tyC State.cel) (tyI .i64)) (scope_Open n)), (26, ent2 (tyC State.cel) tyS (ty2 (tyC State.cel) (tyI .i64)) (scope_Namespace n)), (27, ent2 (tyC State.cel) tyS (ty2 (tyC State.cel) (tyI .i64)) (ref27_Namespace n)), (28, ent2 (tyC State.cel) (tyC State.cel) tyB (ref27_Same n)), (29, ent2 (tyC State.cel) tyS (ty2 (tyC State.cel) (tyI .i64)) (scope_End n)), (30, ent2 (tyC State.cel) tyS (ty2 (tyC State.cel) (tyI .i64)) (ref27_End n)), (31, ent2 (tyC State.cel) tyS (ty2 (tyC State.cel) (tyI .i64)) (ref27_Open n))]
  cd := tabD []
  nrm := tabN []
  cut := tabF []
  n := n
  out := outR Tryd.prog [.tmp 4] tyB
theorem law27_ScopeEnters_f (n : Nat) : (law27_ScopeEnters_m n).P = Tryd.prog ∧ (law27_ScopeEnters_m n).cl = tabA [(9, ent1 (tyC State.cel) tyB (law27_Few n)), (10, ent0  tyB (law27_awake n)), (25, ent2 (tyC State.cel) tyS (ty2 (tyC State.cel) (tyI .i64)) (scope_Open n)), (26, ent2 (tyC State.cel) tyS (ty2 (tyC State.cel) (tyI .i64)) (scope_Namespace n)), (27, ent2 (tyC State.cel) tyS (ty2 (tyC State.cel) (tyI .i64)) (ref27_Namespace n)), (28, ent2 (tyC State.cel) (tyC State.cel) tyB (ref27_Same n)), (29, ent2 (tyC State.cel) tyS (ty2 (tyC State.cel) (tyI .i64)) (scope_End n)), (30, ent2 (tyC State.cel) tyS (ty2 (tyC State.cel) (tyI .i64)) (ref27_End n)), (31, ent2 (tyC State.cel) tyS (ty2 (tyC State.cel) (tyI .i64)) (ref27_Open n))] ∧ (law27_ScopeEnters_m n).cd = tabD [] ∧ (law27_ScopeEnters_m n).nrm = tabN [] ∧ (law27_ScopeEnters_m n).cut = tabF [] ∧ (law27_ScopeEnters_m n).n = n ∧ (law27_ScopeEnters_m n).out = outR Tryd.prog [.tmp 4] tyB := ⟨rfl, rfl, rfl, rfl, rfl, rfl, rfl⟩
theorem law27_ScopeEnters_c (n : Nat) : (law27_ScopeEnters_m n).body = (Tryd.f7.body).getD .skip := rfl
noncomputable def law27_ScopeEnters_e (n : Nat) : { B : State → Str → Option Bool // ∀ (a0 : State) (a1 : Str), run (law27_ScopeEnters_m n) [.at []] { slots := [(tyC State.cel).enc a0, tyS.enc a1] ++ List.replicate (83 - [(tyC State.cel).enc a0, tyS.enc a1].length) .any, heap := [] } = B a0 a1 } := by
  apply Subtype.mk
  intro a0 a1
  simp (config := { maxSteps := 100000000 }) only [go_sem, Nat.reduceAdd, Nat.reduceSub, Nat.reduceLeDiff, Nat.reduceEqDiff, Nat.reduceBEq, Nat.reduceMul, Nat.reduceLT, Int.reduceLE, Int.reduceLT, Int.reduceToNat, Int.reduceBEq, Int.reduceEq, law27_ScopeEnters_f, law27_ScopeEnters_c, Tryd.f7, Option.getD_some, mixed]
  exact rfl
noncomputable def law27_ScopeEnters : Nat → State → Str → Option Bool
  | 0, _, _ => none
  | n + 1, a0, a1 => (law27_ScopeEnters_e n).1 a0 a1
theorem law27_ScopeEnters_ok : ∀ (n : Nat) (a0 : State) (a1 : Str) (r : Bool), law27_ScopeEnters n a0 a1 = some r → FnC Tryd.prog 7 [(tyC State.cel).enc a0, tyS.enc a1] (fun v => v = tyB.enc r)
  | 0, _, _, _, h => by cases h
  | n + 1, a0, a1, r, h => by
    exact fnC_run (M := law27_ScopeEnters_m n) ⟨(tabA_cons_ok (ent1_ok (law27_Few_ok n)) (tabA_cons_ok (ent0_ok (law27_awake_ok n)) (tabA_cons_ok (ent2_ok (scope_Open_ok n)) (tabA_cons_ok (ent2_ok (scope_Namespace_ok n)) (tabA_cons_ok (ent2_ok (ref27_Namespace_ok n)) (tabA_cons_ok (ent2_ok (ref27_Same_ok n)) (tabA_cons_ok (ent2_ok (scope_End_ok n)) (tabA_cons_ok (ent2_ok (ref27_End_ok n)) (tabA_cons_ok (ent2_ok (ref27_Open_ok n)) tabA_nil_ok))))))))), tabD_nil_ok, tabN_ok _, tabF_ok _, noY_ok, noE_ok⟩ Tryd.func7 rfl rfl ⟨(tyC State.cel).nb 0 _, tyS.nb 0 _, trivial⟩ Tryd.ntmps7 Tryd.results7 (fun σ hs => outR_ok (P := Tryd.prog) (rs := [.tmp 4]) (t := tyB) (σ := σ) (r := r) hs) (((law27_ScopeEnters_e n).2 a0 a1).trans h)

noncomputable def law27_ScopeBacks_m (n : Nat) : Mach Bool where
  body := (Tryd.f8.body).getD .skip
  P := Tryd.prog
  cl := tabA [(9, ent1 (tyC State.cel) tyB (law27_Few n)), (10, ent0  tyB (law27_awake n)), (25, ent2 (tyC State.cel) tyS (ty2 (tyC State.cel) (tyI .i64)) (scope_Open n)), (26, ent2 (tyC State.cel) tyS (ty2 (tyC State.cel) (tyI .i64)) (scope_Namespace n)), (28, ent2 (tyC State.cel) (tyC State.cel) tyB (ref27_Same n)), (29, ent2 (tyC State.cel) tyS (ty2 (tyC State.cel) (tyI .i64)) (scope_End n)), (32, ent2 (tyL rowS) tyS tyB (slices_Contains_string n))]
  cd := tabD []
  nrm := tabN []
  cut := tabF []
  n := n
  out := outR Tryd.prog [.tmp 4] tyB
theorem law27_ScopeBacks_f (n : Nat) : (law27_ScopeBacks_m n).P = Tryd.prog ∧ (law27_ScopeBacks_m n).cl = tabA [(9, ent1 (tyC State.cel) tyB (law27_Few n)), (10, ent0  tyB (law27_awake n)), (25, ent2 (tyC State.cel) tyS (ty2 (tyC State.cel) (tyI .i64)) (scope_Open n)), (26, ent2 (tyC State.cel) tyS (ty2 (tyC State.cel) (tyI .i64)) (scope_Namespace n)), (28, ent2 (tyC State.cel) (tyC State.cel) tyB (ref27_Same n)), (29, ent2 (tyC State.cel) tyS (ty2 (tyC State.cel) (tyI .i64)) (scope_End n)), (32, ent2 (tyL rowS) tyS tyB (slices_Contains_string n))] ∧ (law27_ScopeBacks_m n).cd = tabD [] ∧ (law27_ScopeBacks_m n).nrm = tabN [] ∧ (law27_ScopeBacks_m n).cut = tabF [] ∧ (law27_ScopeBacks_m n).n = n ∧ (law27_ScopeBacks_m n).out = outR Tryd.prog [.tmp 4] tyB := ⟨rfl, rfl, rfl, rfl, rfl, rfl, rfl⟩
theorem law27_ScopeBacks_c (n : Nat) : (law27_ScopeBacks_m n).body = (Tryd.f8.body).getD .skip := rfl
noncomputable def law27_ScopeBacks_e (n : Nat) : { B : State → Str → Option Bool // ∀ (a0 : State) (a1 : Str), run (law27_ScopeBacks_m n) [.at []] { slots := [(tyC State.cel).enc a0, tyS.enc a1] ++ List.replicate (97 - [(tyC State.cel).enc a0, tyS.enc a1].length) .any, heap := [] } = B a0 a1 } := by
  apply Subtype.mk
  intro a0 a1
  simp (config := { maxSteps := 100000000 }) only [go_sem, Nat.reduceAdd, Nat.reduceSub, Nat.reduceLeDiff, Nat.reduceEqDiff, Nat.reduceBEq, Nat.reduceMul, Nat.reduceLT, Int.reduceLE, Int.reduceLT, Int.reduceToNat, Int.reduceBEq, Int.reduceEq, law27_ScopeBacks_f, law27_ScopeBacks_c, Tryd.f8, Option.getD_some, mixed]
  exact rfl
noncomputable def law27_ScopeBacks : Nat → State → Str → Option Bool
  | 0, _, _ => none
  | n + 1, a0, a1 => (law27_ScopeBacks_e n).1 a0 a1
theorem law27_ScopeBacks_ok : ∀ (n : Nat) (a0 : State) (a1 : Str) (r : Bool), law27_ScopeBacks n a0 a1 = some r → FnC Tryd.prog 8 [(tyC State.cel).enc a0, tyS.enc a1] (fun v => v = tyB.enc r)
  | 0, _, _, _, h => by cases h
  | n + 1, a0, a1, r, h => by
    exact fnC_run (M := law27_ScopeBacks_m n) ⟨(tabA_cons_ok (ent1_ok (law27_Few_ok n)) (tabA_cons_ok (ent0_ok (law27_awake_ok n)) (tabA_cons_ok (ent2_ok (scope_Open_ok n)) (tabA_cons_ok (ent2_ok (scope_Namespace_ok n)) (tabA_cons_ok (ent2_ok (ref27_Same_ok n)) (tabA_cons_ok (ent2_ok (scope_End_ok n)) (tabA_cons_ok (ent2_ok (slices_Contains_string_ok n)) tabA_nil_ok))))))), tabD_nil_ok, tabN_ok _, tabF_ok _, noY_ok, noE_ok⟩ Tryd.func8 rfl rfl ⟨(tyC State.cel).nb 0 _, tyS.nb 0 _, trivial⟩ Tryd.ntmps8 Tryd.results8 (fun σ hs => outR_ok (P := Tryd.prog) (rs := [.tmp 4]) (t := tyB) (σ := σ) (r := r) hs) (((law27_ScopeBacks_e n).2 a0 a1).trans h)
end Go.Abs
