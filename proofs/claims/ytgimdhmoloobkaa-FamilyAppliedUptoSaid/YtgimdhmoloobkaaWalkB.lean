/- A part of the proof: what the functions compute. -/
import Derived.Test.YtgimdhmoloobkaaDataA
import Derived.Test.YtgimdhmoloobkaaWalkA
set_option linter.all false
namespace Go.Abs
open Go.Proofs
set_option maxRecDepth 100000
set_option maxHeartbeats 4000000
set_option linter.unusedSimpArgs false
set_option linter.unusedVariables false
noncomputable def z0d_n1 : Nrm := ⟨[], [], [zA, zK, zK, zA, zA, zK, zA, zA, zA, zA, zA, zA, zA, zA, zA, zA, zA, zA, zA, zA, zA, zA, zA, zA, zA, zA, zA, zA, zA, zA, zA, zA, zA, zA, zA, zA, zA, zA, zA, zA, zA, zA, zA, zA, zA, zA, zA], [oT Tree.cel], none⟩
noncomputable def z0d_m (X : Tree → Int → Option Bool) (n : Nat) : Mach Bool where
  body := (Try.f91.body).getD .skip
  P := Try.prog
  cl := tabA [(90, ent1 (tyC Term.cel) tyB (z14 n)), (91, ent2 (tyC Tree.cel) (tyI .i64) tyB X)]
  cd := tabD []
  nrm := tabN [([0, 1, 0, 1, 1], z0d_n1)]
  cut := tabF []
  n := n
  out := outR Try.prog [.tmp 4] tyB
theorem z0d_f (X : Tree → Int → Option Bool) (n : Nat) : (z0d_m X n).P = Try.prog ∧ (z0d_m X n).cl = tabA [(90, ent1 (tyC Term.cel) tyB (z14 n)), (91, ent2 (tyC Tree.cel) (tyI .i64) tyB X)] ∧ (z0d_m X n).cd = tabD [] ∧ (z0d_m X n).nrm = tabN [([0, 1, 0, 1, 1], z0d_n1)] ∧ (z0d_m X n).cut = tabF [] ∧ (z0d_m X n).n = n ∧ (z0d_m X n).out = outR Try.prog [.tmp 4] tyB := ⟨rfl, rfl, rfl, rfl, rfl, rfl, rfl⟩
theorem z0d_c (X : Tree → Int → Option Bool) (n : Nat) : (z0d_m X n).body = (Try.f91.body).getD .skip := rfl
noncomputable def z0d_b1 (X : Tree → Int → Option Bool) (n : Nat) : { B : (Int → Int → Tree → Option Bool) → Int → Int → Tree → Option Bool // ∀ m X0, (∀ (v0 : Int) (v1 : Int) (o0 : Tree), run (z0d_m X n) [.lq m [0, 1, 0, 1, 1], .blk 0, .cut [1, 1, 1], .at [1, 1, 1]] ⟨[.any, .int .i64 v0, .ptr 0 0, .any, .any, .int .i64 v1, .any, .any, .any, .any, .any, .any, .any, .any, .any, .any, .any, .any, .any, .any, .any, .any, .any, .any, .any, .any, .any, .any, .any, .any, .any, .any, .any, .any, .any, .any, .any, .any, .any, .any, .any, .any, .any, .any, .any, .any, .any], [.cells (Tree.cells o0)], 0⟩ = X0 v0 v1 o0) → ∀ (v0 : Int) (v1 : Int) (o0 : Tree), run (z0d_m X n) [.at [0, 0, 1, 0, 1, 1], .lp m [0, 1, 0, 1, 1], .blk 0, .cut [1, 1, 1], .at [1, 1, 1]] ⟨[.any, .int .i64 v0, .ptr 0 0, .any, .any, .int .i64 v1, .any, .any, .any, .any, .any, .any, .any, .any, .any, .any, .any, .any, .any, .any, .any, .any, .any, .any, .any, .any, .any, .any, .any, .any, .any, .any, .any, .any, .any, .any, .any, .any, .any, .any, .any, .any, .any, .any, .any, .any, .any], [.cells (Tree.cells o0)], 0⟩ = B X0 v0 v1 o0 } := by
  apply Subtype.mk
  intro m X0 ih v0 v1 o0
  simp (maxSteps := 100000000) only [go_sem, Nat.reduceAdd, Nat.reduceSub, Nat.reduceLeDiff, Nat.reduceEqDiff, Nat.reduceBEq, Nat.reduceMul, Nat.reduceLT, Int.reduceLE, Int.reduceLT, Int.reduceToNat, Int.reduceBEq, Int.reduceEq, z0d_f, z0d_c, Try.f91, Option.getD_some, mixed, z0d_n1, ih]
  exact rfl
noncomputable def z0d_l1 (X : Tree → Int → Option Bool) (n : Nat) : Nat → Int → Int → Tree → Option Bool
  | 0, _, _, _ => none
  | m + 1, v0, v1, o0 => (z0d_b1 X n).1 (z0d_l1 X n m) v0 v1 o0
theorem z0d_l1_eq (X : Tree → Int → Option Bool) (n : Nat) : ∀ (m : Nat), (∀ (v0 : Int) (v1 : Int) (o0 : Tree), run (z0d_m X n) [.lq m [0, 1, 0, 1, 1], .blk 0, .cut [1, 1, 1], .at [1, 1, 1]] ⟨[.any, .int .i64 v0, .ptr 0 0, .any, .any, .int .i64 v1, .any, .any, .any, .any, .any, .any, .any, .any, .any, .any, .any, .any, .any, .any, .any, .any, .any, .any, .any, .any, .any, .any, .any, .any, .any, .any, .any, .any, .any, .any, .any, .any, .any, .any, .any, .any, .any, .any, .any, .any, .any], [.cells (Tree.cells o0)], 0⟩ = z0d_l1 X n m v0 v1 o0)
  | 0 => by intros; exact run_lq_zero
  | m + 1 => by
    have ih := z0d_l1_eq X n m
    intro v0 v1 o0
    rw [run_lq_succ]
    exact (z0d_b1 X n).2  m _  ih v0 v1 o0
noncomputable def z0d_e (X : Tree → Int → Option Bool) (n : Nat) : { B : Tree → Int → Option Bool // ∀ (a0 : Tree) (a1 : Int), run (z0d_m X n) [.at []] { slots := [(tyC Tree.cel).enc a0, (tyI .i64).enc a1] ++ List.replicate (47 - [(tyC Tree.cel).enc a0, (tyI .i64).enc a1].length) .any, heap := [] } = B a0 a1 } := by
  apply Subtype.mk
  intro a0 a1
  simp (maxSteps := 100000000) only [go_sem, Nat.reduceAdd, Nat.reduceSub, Nat.reduceLeDiff, Nat.reduceEqDiff, Nat.reduceBEq, Nat.reduceMul, Nat.reduceLT, Int.reduceLE, Int.reduceLT, Int.reduceToNat, Int.reduceBEq, Int.reduceEq, z0d_f, z0d_c, Try.f91, Option.getD_some, mixed, z0d_n1, z0d_l1_eq X n]
  exact rfl
noncomputable def z0d : Nat → Tree → Int → Option Bool
  | 0, _, _ => none
  | n + 1, a0, a1 => (z0d_e (z0d n) n).1 a0 a1
theorem z0d_ok : ∀ (n : Nat) (a0 : Tree) (a1 : Int) (r : Bool), z0d n a0 a1 = some r → FnC Try.prog 91 [(tyC Tree.cel).enc a0, (tyI .i64).enc a1] (fun v => v = tyB.enc r)
  | 0, _, _, _, h => by cases h
  | n + 1, a0, a1, r, h => by
    have ih_law07_smallTree := z0d_ok n
    exact fnC_run (M := z0d_m (z0d n) n) ⟨(tabA_cons_ok (ent1_ok (z14_ok n)) (tabA_cons_ok (ent2_ok (ih_law07_smallTree)) tabA_nil_ok)), tabD_nil_ok, tabN_ok _, tabF_ok _, noY_ok, noE_ok⟩ Try.func91 rfl rfl ⟨(tyC Tree.cel).nb 0 _, (tyI .i64).nb 0 _, trivial⟩ Try.ntmps91 Try.results91 (fun σ hs => outR_ok (P := Try.prog) (rs := [.tmp 4]) (t := tyB) (σ := σ) (r := r) hs) (((z0d_e (z0d n) n).2 a0 a1).trans h)

noncomputable def z1p_n1 : Nrm := ⟨[], [], [zA, zA, zK, zK, zA, zK, zA, zA, zA, zA, zA, zA, zA, zA, zA, zA, zA, zA, zA, zA, zA, zA, zA, zA, zA, zA, zA, zA, zA, zA, zA, zA, zA, zA, zA, zA, zA, zA, zA, zA, zA, zA, zA, zA, zA, zA, zA, zA, zA, zA, zA, zA, zA, zA, zA, zA, zA, zA, zA, zA, zA], [oT Term.cel, oT Term.cel], none⟩
noncomputable def z1p_m (X : Term → Term → Option Bool) (n : Nat) : Mach Bool where
  body := (Try.f23.body).getD .skip
  P := Try.prog
  cl := tabA [(62, ent2 (tyL Level.row) (tyL Level.row) tyB (z0e n))]
  cd := tabD [(23, entD (ent2 (tyC Term.cel) (tyC Term.cel) tyB X))]
  nrm := tabN [([0, 1, 0, 1, 1], z1p_n1)]
  cut := tabF []
  n := n
  out := outR Try.prog [.tmp 4] tyB
  isE := tabI []
theorem z1p_f (X : Term → Term → Option Bool) (n : Nat) : (z1p_m X n).P = Try.prog ∧ (z1p_m X n).cl = tabA [(62, ent2 (tyL Level.row) (tyL Level.row) tyB (z0e n))] ∧ (z1p_m X n).cd = tabD [(23, entD (ent2 (tyC Term.cel) (tyC Term.cel) tyB X))] ∧ (z1p_m X n).nrm = tabN [([0, 1, 0, 1, 1], z1p_n1)] ∧ (z1p_m X n).cut = tabF [] ∧ (z1p_m X n).n = n ∧ (z1p_m X n).out = outR Try.prog [.tmp 4] tyB ∧ (z1p_m X n).isE = tabI [] := ⟨rfl, rfl, rfl, rfl, rfl, rfl, rfl, rfl⟩
theorem z1p_c (X : Term → Term → Option Bool) (n : Nat) : (z1p_m X n).body = (Try.f23.body).getD .skip := rfl
theorem z1p_d (X : Term → Term → Option Bool) (n : Nat) : drawP (z1p_m X n) [0, 0, 0, 1, 0, 0, 1, 0, 1, 1] = true := by kernel_rfl
noncomputable def z1p_b1 (X : Term → Term → Option Bool) (n : Nat) : { B : (Int → Term → Term → Option Bool) → Int → Term → Term → Option Bool // ∀ m X0, (∀ (v0 : Int) (o0 : Term) (o1 : Term), run (z1p_m X n) [.lq m [0, 1, 0, 1, 1], .blk 0, .cut [1, 1, 1], .at [1, 1, 1]] ⟨[.any, .any, .ptr 0 0, .ptr 1 0, .any, .int .i64 v0, .any, .any, .any, .any, .any, .any, .any, .any, .any, .any, .any, .any, .any, .any, .any, .any, .any, .any, .any, .any, .any, .any, .any, .any, .any, .any, .any, .any, .any, .any, .any, .any, .any, .any, .any, .any, .any, .any, .any, .any, .any, .any, .any, .any, .any, .any, .any, .any, .any, .any, .any, .any, .any, .any, .any], [.cells (Term.cells o0), .cells (Term.cells o1)], 0⟩ = X0 v0 o0 o1) → ∀ (v0 : Int) (o0 : Term) (o1 : Term), run (z1p_m X n) [.at [0, 0, 1, 0, 1, 1], .lp m [0, 1, 0, 1, 1], .blk 0, .cut [1, 1, 1], .at [1, 1, 1]] ⟨[.any, .any, .ptr 0 0, .ptr 1 0, .any, .int .i64 v0, .any, .any, .any, .any, .any, .any, .any, .any, .any, .any, .any, .any, .any, .any, .any, .any, .any, .any, .any, .any, .any, .any, .any, .any, .any, .any, .any, .any, .any, .any, .any, .any, .any, .any, .any, .any, .any, .any, .any, .any, .any, .any, .any, .any, .any, .any, .any, .any, .any, .any, .any, .any, .any, .any, .any], [.cells (Term.cells o0), .cells (Term.cells o1)], 0⟩ = B X0 v0 o0 o1 } := by
  apply Subtype.mk
  intro m X0 ih v0 o0 o1
  simp (maxSteps := 100000000) only [go_sem, Nat.reduceAdd, Nat.reduceSub, Nat.reduceLeDiff, Nat.reduceEqDiff, Nat.reduceBEq, Nat.reduceMul, Nat.reduceLT, Int.reduceLE, Int.reduceLT, Int.reduceToNat, Int.reduceBEq, Int.reduceEq, z1p_f, z1p_c, Try.f23, Option.getD_some, mixed, z1p_d, z1p_n1, ih]
  exact rfl
noncomputable def z1p_l1 (X : Term → Term → Option Bool) (n : Nat) : Nat → Int → Term → Term → Option Bool
  | 0, _, _, _ => none
  | m + 1, v0, o0, o1 => (z1p_b1 X n).1 (z1p_l1 X n m) v0 o0 o1
theorem z1p_l1_eq (X : Term → Term → Option Bool) (n : Nat) : ∀ (m : Nat), (∀ (v0 : Int) (o0 : Term) (o1 : Term), run (z1p_m X n) [.lq m [0, 1, 0, 1, 1], .blk 0, .cut [1, 1, 1], .at [1, 1, 1]] ⟨[.any, .any, .ptr 0 0, .ptr 1 0, .any, .int .i64 v0, .any, .any, .any, .any, .any, .any, .any, .any, .any, .any, .any, .any, .any, .any, .any, .any, .any, .any, .any, .any, .any, .any, .any, .any, .any, .any, .any, .any, .any, .any, .any, .any, .any, .any, .any, .any, .any, .any, .any, .any, .any, .any, .any, .any, .any, .any, .any, .any, .any, .any, .any, .any, .any, .any, .any], [.cells (Term.cells o0), .cells (Term.cells o1)], 0⟩ = z1p_l1 X n m v0 o0 o1)
  | 0 => by intros; exact run_lq_zero
  | m + 1 => by
    have ih := z1p_l1_eq X n m
    intro v0 o0 o1
    rw [run_lq_succ]
    exact (z1p_b1 X n).2  m _  ih v0 o0 o1
noncomputable def z1p_e (X : Term → Term → Option Bool) (n : Nat) : { B : Term → Term → Option Bool // ∀ (a0 : Term) (a1 : Term), run (z1p_m X n) [.at []] { slots := [(tyC Term.cel).enc a0, (tyC Term.cel).enc a1] ++ List.replicate (61 - [(tyC Term.cel).enc a0, (tyC Term.cel).enc a1].length) .any, heap := [] } = B a0 a1 } := by
  apply Subtype.mk
  intro a0 a1
  simp (maxSteps := 100000000) only [go_sem, Nat.reduceAdd, Nat.reduceSub, Nat.reduceLeDiff, Nat.reduceEqDiff, Nat.reduceBEq, Nat.reduceMul, Nat.reduceLT, Int.reduceLE, Int.reduceLT, Int.reduceToNat, Int.reduceBEq, Int.reduceEq, z1p_f, z1p_c, Try.f23, Option.getD_some, mixed, z1p_d, z1p_n1, z1p_l1_eq X n]
  exact rfl
noncomputable def z1p : Nat → Term → Term → Option Bool
  | 0, _, _ => none
  | n + 1, a0, a1 => (z1p_e (z1p n) n).1 a0 a1
theorem z1p_ok : ∀ (n : Nat) (a0 : Term) (a1 : Term) (r : Bool), z1p n a0 a1 = some r → FnC Try.prog 23 [(tyC Term.cel).enc a0, (tyC Term.cel).enc a1] (fun v => v = tyB.enc r)
  | 0, _, _, _, h => by cases h
  | n + 1, a0, a1, r, h => by
    have ih_ref03_Same := z1p_ok n
    exact fnC_run (M := z1p_m (z1p n) n) ⟨(tabA_cons_ok (ent2_ok (z0e_ok n)) tabA_nil_ok), (tabD_cons_ok (ent2_okD (ih_ref03_Same)) tabD_nil_ok), tabN_ok _, tabF_ok _, noY_ok, noE_ok⟩ Try.func23 rfl rfl ⟨(tyC Term.cel).nb 0 _, (tyC Term.cel).nb 0 _, trivial⟩ Try.ntmps23 Try.results23 (fun σ hs => outR_ok (P := Try.prog) (rs := [.tmp 4]) (t := tyB) (σ := σ) (r := r) hs) (((z1p_e (z1p n) n).2 a0 a1).trans h)

noncomputable def z10_n1 : Nrm := ⟨[], [], [zA, zK, zA, zK, zA, zA, zA, zA, zA, zA, zA, zA, zA, zA, zA, zA, zA, zA, zA, zA, zA, zA, zA, zA, zA, zA, zA, zA, zA, zA, zA, zA, zA, zA, zA, zA, zA, zA, zA, zA, zA, zA, zA, zA, zA, zA, zA, zA, zA, zA, zA, zA, zA, zA, zA, zA, zA, zA, zA, zA, zA, zA, zA, zA, zA, zA, zA, zA, zA, zA, zA, zA, zA, zA, zA, zA, zA, zA, zA, zA, zA, zA, zA, zA, zA, zA, zA, zA, zA, zA, zA, zA, zA, zA, zA, zA], [oT Decl.cel], none⟩
noncomputable def z10_m (n : Nat) : Mach Int where
  body := (Try.f119.body).getD .skip
  P := Try.prog
  cl := tabA [(130, ent1 (tyC Decl.cel) tyB (z1k n))]
  cd := tabD []
  nrm := tabN [([0, 1, 0, 1, 1, 1], z10_n1)]
  cut := tabF []
  n := n
  out := outR Try.prog [.tmp 2] (tyI .i64)
theorem z10_f (n : Nat) : (z10_m n).P = Try.prog ∧ (z10_m n).cl = tabA [(130, ent1 (tyC Decl.cel) tyB (z1k n))] ∧ (z10_m n).cd = tabD [] ∧ (z10_m n).nrm = tabN [([0, 1, 0, 1, 1, 1], z10_n1)] ∧ (z10_m n).cut = tabF [] ∧ (z10_m n).n = n ∧ (z10_m n).out = outR Try.prog [.tmp 2] (tyI .i64) := ⟨rfl, rfl, rfl, rfl, rfl, rfl, rfl⟩
theorem z10_c (n : Nat) : (z10_m n).body = (Try.f119.body).getD .skip := rfl
noncomputable def z10_b1 (n : Nat) : { B : (Int → Decl → Option Int) → Int → Decl → Option Int // ∀ m X0, (∀ (v0 : Int) (o0 : Decl), run (z10_m n) [.lq m [0, 1, 0, 1, 1, 1], .blk 0, .cut [1, 1, 1, 1], .at [1, 1, 1, 1]] ⟨[.any, .ptr 0 0, .any, .int .i64 v0, .any, .any, .any, .any, .any, .any, .any, .any, .any, .any, .any, .any, .any, .any, .any, .any, .any, .any, .any, .any, .any, .any, .any, .any, .any, .any, .any, .any, .any, .any, .any, .any, .any, .any, .any, .any, .any, .any, .any, .any, .any, .any, .any, .any, .any, .any, .any, .any, .any, .any, .any, .any, .any, .any, .any, .any, .any, .any, .any, .any, .any, .any, .any, .any, .any, .any, .any, .any, .any, .any, .any, .any, .any, .any, .any, .any, .any, .any, .any, .any, .any, .any, .any, .any, .any, .any, .any, .any, .any, .any, .any, .any], [.cells (Decl.cells o0)], 0⟩ = X0 v0 o0) → ∀ (v0 : Int) (o0 : Decl), run (z10_m n) [.at [0, 0, 1, 0, 1, 1, 1], .lp m [0, 1, 0, 1, 1, 1], .blk 0, .cut [1, 1, 1, 1], .at [1, 1, 1, 1]] ⟨[.any, .ptr 0 0, .any, .int .i64 v0, .any, .any, .any, .any, .any, .any, .any, .any, .any, .any, .any, .any, .any, .any, .any, .any, .any, .any, .any, .any, .any, .any, .any, .any, .any, .any, .any, .any, .any, .any, .any, .any, .any, .any, .any, .any, .any, .any, .any, .any, .any, .any, .any, .any, .any, .any, .any, .any, .any, .any, .any, .any, .any, .any, .any, .any, .any, .any, .any, .any, .any, .any, .any, .any, .any, .any, .any, .any, .any, .any, .any, .any, .any, .any, .any, .any, .any, .any, .any, .any, .any, .any, .any, .any, .any, .any, .any, .any, .any, .any, .any, .any], [.cells (Decl.cells o0)], 0⟩ = B X0 v0 o0 } := by
  apply Subtype.mk
  intro m X0 ih v0 o0
  simp (maxSteps := 100000000) only [go_sem, Nat.reduceAdd, Nat.reduceSub, Nat.reduceLeDiff, Nat.reduceEqDiff, Nat.reduceBEq, Nat.reduceMul, Nat.reduceLT, Int.reduceLE, Int.reduceLT, Int.reduceToNat, Int.reduceBEq, Int.reduceEq, z10_f, z10_c, Try.f119, Option.getD_some, mixed, z10_n1, ih]
  exact rfl
noncomputable def z10_l1 (n : Nat) : Nat → Int → Decl → Option Int
  | 0, _, _ => none
  | m + 1, v0, o0 => (z10_b1 n).1 (z10_l1 n m) v0 o0
theorem z10_l1_eq (n : Nat) : ∀ (m : Nat), (∀ (v0 : Int) (o0 : Decl), run (z10_m n) [.lq m [0, 1, 0, 1, 1, 1], .blk 0, .cut [1, 1, 1, 1], .at [1, 1, 1, 1]] ⟨[.any, .ptr 0 0, .any, .int .i64 v0, .any, .any, .any, .any, .any, .any, .any, .any, .any, .any, .any, .any, .any, .any, .any, .any, .any, .any, .any, .any, .any, .any, .any, .any, .any, .any, .any, .any, .any, .any, .any, .any, .any, .any, .any, .any, .any, .any, .any, .any, .any, .any, .any, .any, .any, .any, .any, .any, .any, .any, .any, .any, .any, .any, .any, .any, .any, .any, .any, .any, .any, .any, .any, .any, .any, .any, .any, .any, .any, .any, .any, .any, .any, .any, .any, .any, .any, .any, .any, .any, .any, .any, .any, .any, .any, .any, .any, .any, .any, .any, .any, .any], [.cells (Decl.cells o0)], 0⟩ = z10_l1 n m v0 o0)
  | 0 => by intros; exact run_lq_zero
  | m + 1 => by
    have ih := z10_l1_eq n m
    intro v0 o0
    rw [run_lq_succ]
    exact (z10_b1 n).2  m _  ih v0 o0
noncomputable def z10_e (n : Nat) : { B : Decl → Option Int // ∀ (a0 : Decl), run (z10_m n) [.at []] { slots := [(tyC Decl.cel).enc a0] ++ List.replicate (96 - [(tyC Decl.cel).enc a0].length) .any, heap := [] } = B a0 } := by
  apply Subtype.mk
  intro a0
  simp (maxSteps := 100000000) only [go_sem, Nat.reduceAdd, Nat.reduceSub, Nat.reduceLeDiff, Nat.reduceEqDiff, Nat.reduceBEq, Nat.reduceMul, Nat.reduceLT, Int.reduceLE, Int.reduceLT, Int.reduceToNat, Int.reduceBEq, Int.reduceEq, z10_f, z10_c, Try.f119, Option.getD_some, mixed, z10_n1, z10_l1_eq n]
  exact rfl
noncomputable def z10 : Nat → Decl → Option Int
  | 0, _ => none
  | n + 1, a0 => (z10_e n).1 a0
theorem z10_ok : ∀ (n : Nat) (a0 : Decl) (r : Int), z10 n a0 = some r → FnC Try.prog 119 [(tyC Decl.cel).enc a0] (fun v => v = (tyI .i64).enc r)
  | 0, _, _, h => by cases h
  | n + 1, a0, r, h => by
    exact fnC_run (M := z10_m n) ⟨(tabA_cons_ok (ent1_ok (z1k_ok n)) tabA_nil_ok), tabD_nil_ok, tabN_ok _, tabF_ok _, noY_ok, noE_ok⟩ Try.func119 rfl rfl ⟨(tyC Decl.cel).nb 0 _, trivial⟩ Try.ntmps119 Try.results119 (fun σ hs => outR_ok (P := Try.prog) (rs := [.tmp 2]) (t := (tyI .i64)) (σ := σ) (r := r) hs) (((z10_e n).2 a0).trans h)

noncomputable def z0f_n1 : Nrm := ⟨[], [], [zT (tyL Decl.row), zA, zA, zA, zA, zT (tyL rowS), zK, zA, zA, zA, zA, zA, zA, zA, zA, zA, zA, zA, zA, zA, zA, zA, zA, zA, zA, zA, zA, zA, zA, zA, zA, zA, zA, zA, zA, zA, zA, zA, zA, zA, zA, zA, zA, zA], [], none⟩
noncomputable def z0f_m (n : Nat) : Mach Int where
  body := (Try.f120.body).getD .skip
  P := Try.prog
  cl := tabA [(54, ent1 tyS tyB (z1o n)), (109, ent2 (tyL Decl.row) tyS (ty2 (tyC Entry.cel) (tyI .i64)) (z1t n)), (126, ent1 (tyC Decl.cel) (tyL rowS) (z1h n))]
  cd := tabD [(43, entD (ent2 (tyL rowS) tyS tyB (z1z n)))]
  nrm := tabN [([0, 1, 0, 1, 1], z0f_n1)]
  cut := tabF []
  n := n
  out := outR Try.prog [.tmp 4] (tyI .i64)
  isE := tabI []
theorem z0f_f (n : Nat) : (z0f_m n).P = Try.prog ∧ (z0f_m n).cl = tabA [(54, ent1 tyS tyB (z1o n)), (109, ent2 (tyL Decl.row) tyS (ty2 (tyC Entry.cel) (tyI .i64)) (z1t n)), (126, ent1 (tyC Decl.cel) (tyL rowS) (z1h n))] ∧ (z0f_m n).cd = tabD [(43, entD (ent2 (tyL rowS) tyS tyB (z1z n)))] ∧ (z0f_m n).nrm = tabN [([0, 1, 0, 1, 1], z0f_n1)] ∧ (z0f_m n).cut = tabF [] ∧ (z0f_m n).n = n ∧ (z0f_m n).out = outR Try.prog [.tmp 4] (tyI .i64) ∧ (z0f_m n).isE = tabI [] := ⟨rfl, rfl, rfl, rfl, rfl, rfl, rfl, rfl⟩
theorem z0f_c (n : Nat) : (z0f_m n).body = (Try.f120.body).getD .skip := rfl
theorem z0f_d (n : Nat) : drawP (z0f_m n) [0, 1, 1, 0, 0, 1, 0, 0, 1, 0, 1, 1] = true := by kernel_rfl
noncomputable def z0f_b1 (n : Nat) : { B : ((List Decl) → (List Str) → Int → Option Int) → (List Decl) → (List Str) → Int → Option Int // ∀ m X0, (∀ (v0 : List Decl) (v1 : List Str) (v2 : Int), run (z0f_m n) [.lq m [0, 1, 0, 1, 1], .blk 0, .cut [1, 1, 1], .at [1, 1, 1]] ⟨[.lst false 23 (mp Decl.cells v0), .any, .any, .any, .any, .lst false 1 (mp scell v1), .int .i64 v2, .any, .any, .any, .any, .any, .any, .any, .any, .any, .any, .any, .any, .any, .any, .any, .any, .any, .any, .any, .any, .any, .any, .any, .any, .any, .any, .any, .any, .any, .any, .any, .any, .any, .any, .any, .any, .any], [], 0⟩ = X0 v0 v1 v2) → ∀ (v0 : List Decl) (v1 : List Str) (v2 : Int), run (z0f_m n) [.at [0, 0, 1, 0, 1, 1], .lp m [0, 1, 0, 1, 1], .blk 0, .cut [1, 1, 1], .at [1, 1, 1]] ⟨[.lst false 23 (mp Decl.cells v0), .any, .any, .any, .any, .lst false 1 (mp scell v1), .int .i64 v2, .any, .any, .any, .any, .any, .any, .any, .any, .any, .any, .any, .any, .any, .any, .any, .any, .any, .any, .any, .any, .any, .any, .any, .any, .any, .any, .any, .any, .any, .any, .any, .any, .any, .any, .any, .any, .any], [], 0⟩ = B X0 v0 v1 v2 } := by
  apply Subtype.mk
  intro m X0 ih v0 v1 v2
  simp (maxSteps := 100000000) only [go_sem, Nat.reduceAdd, Nat.reduceSub, Nat.reduceLeDiff, Nat.reduceEqDiff, Nat.reduceBEq, Nat.reduceMul, Nat.reduceLT, Int.reduceLE, Int.reduceLT, Int.reduceToNat, Int.reduceBEq, Int.reduceEq, z0f_f, z0f_c, Try.f120, Option.getD_some, mixed, z0f_d, z0f_n1, ih]
  exact rfl
noncomputable def z0f_l1 (n : Nat) : Nat → (List Decl) → (List Str) → Int → Option Int
  | 0, _, _, _ => none
  | m + 1, v0, v1, v2 => (z0f_b1 n).1 (z0f_l1 n m) v0 v1 v2
theorem z0f_l1_eq (n : Nat) : ∀ (m : Nat), (∀ (v0 : List Decl) (v1 : List Str) (v2 : Int), run (z0f_m n) [.lq m [0, 1, 0, 1, 1], .blk 0, .cut [1, 1, 1], .at [1, 1, 1]] ⟨[.lst false 23 (mp Decl.cells v0), .any, .any, .any, .any, .lst false 1 (mp scell v1), .int .i64 v2, .any, .any, .any, .any, .any, .any, .any, .any, .any, .any, .any, .any, .any, .any, .any, .any, .any, .any, .any, .any, .any, .any, .any, .any, .any, .any, .any, .any, .any, .any, .any, .any, .any, .any, .any, .any, .any], [], 0⟩ = z0f_l1 n m v0 v1 v2)
  | 0 => by intros; exact run_lq_zero
  | m + 1 => by
    have ih := z0f_l1_eq n m
    intro v0 v1 v2
    rw [run_lq_succ]
    exact (z0f_b1 n).2  m _  ih v0 v1 v2
noncomputable def z0f_e (n : Nat) : { B : (List Decl) → Decl → Option Int // ∀ (a0 : (List Decl)) (a1 : Decl), run (z0f_m n) [.at []] { slots := [(tyL Decl.row).enc a0, (tyC Decl.cel).enc a1] ++ List.replicate (44 - [(tyL Decl.row).enc a0, (tyC Decl.cel).enc a1].length) .any, heap := [] } = B a0 a1 } := by
  apply Subtype.mk
  intro a0 a1
  simp (maxSteps := 100000000) only [go_sem, Nat.reduceAdd, Nat.reduceSub, Nat.reduceLeDiff, Nat.reduceEqDiff, Nat.reduceBEq, Nat.reduceMul, Nat.reduceLT, Int.reduceLE, Int.reduceLT, Int.reduceToNat, Int.reduceBEq, Int.reduceEq, z0f_f, z0f_c, Try.f120, Option.getD_some, mixed, z0f_d, z0f_n1, z0f_l1_eq n]
  exact rfl
noncomputable def z0f : Nat → (List Decl) → Decl → Option Int
  | 0, _, _ => none
  | n + 1, a0, a1 => (z0f_e n).1 a0 a1
theorem z0f_ok : ∀ (n : Nat) (a0 : (List Decl)) (a1 : Decl) (r : Int), z0f n a0 a1 = some r → FnC Try.prog 120 [(tyL Decl.row).enc a0, (tyC Decl.cel).enc a1] (fun v => v = (tyI .i64).enc r)
  | 0, _, _, _, h => by cases h
  | n + 1, a0, a1, r, h => by
    exact fnC_run (M := z0f_m n) ⟨(tabA_cons_ok (ent1_ok (z1o_ok n)) (tabA_cons_ok (ent2_ok (z1t_ok n)) (tabA_cons_ok (ent1_ok (z1h_ok n)) tabA_nil_ok))), (tabD_cons_ok (ent2_okD (z1z_ok n)) tabD_nil_ok), tabN_ok _, tabF_ok _, noY_ok, noE_ok⟩ Try.func120 rfl rfl ⟨(tyL Decl.row).nb 0 _, (tyC Decl.cel).nb 0 _, trivial⟩ Try.ntmps120 Try.results120 (fun σ hs => outR_ok (P := Try.prog) (rs := [.tmp 4]) (t := (tyI .i64)) (σ := σ) (r := r) hs) (((z0f_e n).2 a0 a1).trans h)

noncomputable def z1e_n1 : Nrm := ⟨[], [], [zA, zK, zK, zK, zK, zK, zK, zA, zA, zA, zA, zA, zA, zA, zA, zK, zA, zA, zA, zA, zA, zA, zA, zA, zA, zA, zA, zA, zA, zA, zA, zA, zA, zA, zA, zA, zA, zA, zA, zA, zA, zA, zA, zA, zA, zA, zA, zA, zA, zA, zA, zA, zA, zA, zA, zA, zA, zA, zA, zA, zA, zA, zA, zA, zA, zA, zA, zA, zA, zA, zA, zA, zA, zA, zA, zA, zA, zA, zA, zA, zA, zA, zA, zA, zA, zA, zA, zA, zA, zA, zA, zA, zA, zA, zA, zA, zA, zA, zA, zA, zA, zA, zA, zA, zA, zA, zA], [oT Term.cel], none⟩
noncomputable def z1e_n2 : Nrm := ⟨[], [], [zA, zK, zK, zK, zK, zK, zK, zA, zA, zA, zA, zA, zA, zK, zA, zA, zA, zA, zA, zA, zA, zA, zA, zA, zA, zA, zA, zA, zA, zA, zA, zA, zA, zA, zA, zA, zA, zA, zA, zA, zA, zA, zA, zA, zA, zA, zA, zA, zA, zA, zA, zA, zA, zA, zA, zA, zA, zA, zA, zA, zA, zA, zA, zA, zA, zA, zA, zA, zA, zA, zA, zA, zA, zA, zA, zA, zA, zA, zA, zA, zA, zA, zA, zA, zA, zA, zA, zA, zA, zA, zA, zA, zA, zA, zA, zA, zA, zA, zA, zA, zA, zA, zA, zA, zA, zA, zA], [oT Term.cel], none⟩
noncomputable def z1e_m (X : Term → Int → Int → Int → Int → Int → Option Int) (n : Nat) : Mach Int where
  body := (Try.f106.body).getD .skip
  P := Try.prog
  cl := tabA [(54, ent1 tyS tyB (z1o n)), (122, ent1 (tyC Term.cel) tyB (z1r n)), (123, ent3 (tyC Level.cel) (tyI .i64) (tyI .i64) (tyI .i64) (z1f n))]
  cd := tabD [(106, entD (ent6 (tyC Term.cel) (tyI .i64) (tyI .i64) (tyI .i64) (tyI .i64) (tyI .i64) (tyI .i64) X)), (124, entD (ent2 (tyI .i64) (tyI .i64) (tyI .i64) (z1b n)))]
  nrm := tabN [([0, 1, 0, 1, 1, 1, 1, 1, 1, 1], z1e_n1), ([0, 1, 0, 1, 1, 1, 1], z1e_n2)]
  cut := tabF []
  n := n
  out := outR Try.prog [.tmp 12] (tyI .i64)
  isE := tabI []
theorem z1e_f (X : Term → Int → Int → Int → Int → Int → Option Int) (n : Nat) : (z1e_m X n).P = Try.prog ∧ (z1e_m X n).cl = tabA [(54, ent1 tyS tyB (z1o n)), (122, ent1 (tyC Term.cel) tyB (z1r n)), (123, ent3 (tyC Level.cel) (tyI .i64) (tyI .i64) (tyI .i64) (z1f n))] ∧ (z1e_m X n).cd = tabD [(106, entD (ent6 (tyC Term.cel) (tyI .i64) (tyI .i64) (tyI .i64) (tyI .i64) (tyI .i64) (tyI .i64) X)), (124, entD (ent2 (tyI .i64) (tyI .i64) (tyI .i64) (z1b n)))] ∧ (z1e_m X n).nrm = tabN [([0, 1, 0, 1, 1, 1, 1, 1, 1, 1], z1e_n1), ([0, 1, 0, 1, 1, 1, 1], z1e_n2)] ∧ (z1e_m X n).cut = tabF [] ∧ (z1e_m X n).n = n ∧ (z1e_m X n).out = outR Try.prog [.tmp 12] (tyI .i64) ∧ (z1e_m X n).isE = tabI [] := ⟨rfl, rfl, rfl, rfl, rfl, rfl, rfl, rfl⟩
theorem z1e_c (X : Term → Int → Int → Int → Int → Int → Option Int) (n : Nat) : (z1e_m X n).body = (Try.f106.body).getD .skip := rfl
theorem z1e_d (X : Term → Int → Int → Int → Int → Int → Option Int) (n : Nat) : drawP (z1e_m X n) [0, 0, 0, 1, 0, 0, 1, 0, 1, 1, 1, 1, 1, 1, 1] = true := by kernel_rfl
noncomputable def z1e_b1 (X : Term → Int → Int → Int → Int → Int → Option Int) (n : Nat) : { B : (Int → Int → Int → Int → Int → Int → Term → Option Int) → Int → Int → Int → Int → Int → Int → Term → Option Int // ∀ m X0, (∀ (v0 : Int) (v1 : Int) (v2 : Int) (v3 : Int) (v4 : Int) (v5 : Int) (o0 : Term), run (z1e_m X n) [.lq m [0, 1, 0, 1, 1, 1, 1, 1, 1, 1], .blk 2, .cut [1, 1, 1, 1, 1, 1, 1, 1], .at [1, 1, 1, 1, 1, 1, 1, 1]] ⟨[.any, .int .i64 v0, .int .i64 v1, .int .i64 v2, .int .i64 v3, .int .i64 v4, .ptr 0 0, .any, .any, .any, .any, .any, .any, .any, .any, .int .i64 v5, .any, .any, .any, .any, .any, .any, .any, .any, .any, .any, .any, .any, .any, .any, .any, .any, .any, .any, .any, .any, .any, .any, .any, .any, .any, .any, .any, .any, .any, .any, .any, .any, .any, .any, .any, .any, .any, .any, .any, .any, .any, .any, .any, .any, .any, .any, .any, .any, .any, .any, .any, .any, .any, .any, .any, .any, .any, .any, .any, .any, .any, .any, .any, .any, .any, .any, .any, .any, .any, .any, .any, .any, .any, .any, .any, .any, .any, .any, .any, .any, .any, .any, .any, .any, .any, .any, .any, .any, .any, .any, .any], [.cells (Term.cells o0)], 0⟩ = X0 v0 v1 v2 v3 v4 v5 o0) → ∀ (v0 : Int) (v1 : Int) (v2 : Int) (v3 : Int) (v4 : Int) (v5 : Int) (o0 : Term), run (z1e_m X n) [.at [0, 0, 1, 0, 1, 1, 1, 1, 1, 1, 1], .lp m [0, 1, 0, 1, 1, 1, 1, 1, 1, 1], .blk 2, .cut [1, 1, 1, 1, 1, 1, 1, 1], .at [1, 1, 1, 1, 1, 1, 1, 1]] ⟨[.any, .int .i64 v0, .int .i64 v1, .int .i64 v2, .int .i64 v3, .int .i64 v4, .ptr 0 0, .any, .any, .any, .any, .any, .any, .any, .any, .int .i64 v5, .any, .any, .any, .any, .any, .any, .any, .any, .any, .any, .any, .any, .any, .any, .any, .any, .any, .any, .any, .any, .any, .any, .any, .any, .any, .any, .any, .any, .any, .any, .any, .any, .any, .any, .any, .any, .any, .any, .any, .any, .any, .any, .any, .any, .any, .any, .any, .any, .any, .any, .any, .any, .any, .any, .any, .any, .any, .any, .any, .any, .any, .any, .any, .any, .any, .any, .any, .any, .any, .any, .any, .any, .any, .any, .any, .any, .any, .any, .any, .any, .any, .any, .any, .any, .any, .any, .any, .any, .any, .any, .any], [.cells (Term.cells o0)], 0⟩ = B X0 v0 v1 v2 v3 v4 v5 o0 } := by
  apply Subtype.mk
  intro m X0 ih v0 v1 v2 v3 v4 v5 o0
  simp (maxSteps := 100000000) only [go_sem, Nat.reduceAdd, Nat.reduceSub, Nat.reduceLeDiff, Nat.reduceEqDiff, Nat.reduceBEq, Nat.reduceMul, Nat.reduceLT, Int.reduceLE, Int.reduceLT, Int.reduceToNat, Int.reduceBEq, Int.reduceEq, z1e_f, z1e_c, Try.f106, Option.getD_some, mixed, z1e_d, z1e_n1, z1e_n2, ih]
  exact rfl
noncomputable def z1e_l1 (X : Term → Int → Int → Int → Int → Int → Option Int) (n : Nat) : Nat → Int → Int → Int → Int → Int → Int → Term → Option Int
  | 0, _, _, _, _, _, _, _ => none
  | m + 1, v0, v1, v2, v3, v4, v5, o0 => (z1e_b1 X n).1 (z1e_l1 X n m) v0 v1 v2 v3 v4 v5 o0
theorem z1e_l1_eq (X : Term → Int → Int → Int → Int → Int → Option Int) (n : Nat) : ∀ (m : Nat), (∀ (v0 : Int) (v1 : Int) (v2 : Int) (v3 : Int) (v4 : Int) (v5 : Int) (o0 : Term), run (z1e_m X n) [.lq m [0, 1, 0, 1, 1, 1, 1, 1, 1, 1], .blk 2, .cut [1, 1, 1, 1, 1, 1, 1, 1], .at [1, 1, 1, 1, 1, 1, 1, 1]] ⟨[.any, .int .i64 v0, .int .i64 v1, .int .i64 v2, .int .i64 v3, .int .i64 v4, .ptr 0 0, .any, .any, .any, .any, .any, .any, .any, .any, .int .i64 v5, .any, .any, .any, .any, .any, .any, .any, .any, .any, .any, .any, .any, .any, .any, .any, .any, .any, .any, .any, .any, .any, .any, .any, .any, .any, .any, .any, .any, .any, .any, .any, .any, .any, .any, .any, .any, .any, .any, .any, .any, .any, .any, .any, .any, .any, .any, .any, .any, .any, .any, .any, .any, .any, .any, .any, .any, .any, .any, .any, .any, .any, .any, .any, .any, .any, .any, .any, .any, .any, .any, .any, .any, .any, .any, .any, .any, .any, .any, .any, .any, .any, .any, .any, .any, .any, .any, .any, .any, .any, .any, .any], [.cells (Term.cells o0)], 0⟩ = z1e_l1 X n m v0 v1 v2 v3 v4 v5 o0)
  | 0 => by intros; exact run_lq_zero
  | m + 1 => by
    have ih := z1e_l1_eq X n m
    intro v0 v1 v2 v3 v4 v5 o0
    rw [run_lq_succ]
    exact (z1e_b1 X n).2  m _  ih v0 v1 v2 v3 v4 v5 o0
noncomputable def z1e_b2 (X : Term → Int → Int → Int → Int → Int → Option Int) (n : Nat) : { B : (Int → Int → Int → Int → Int → Int → Term → Option Int) → Int → Int → Int → Int → Int → Int → Term → Option Int // ∀ m X0, (∀ (v0 : Int) (v1 : Int) (v2 : Int) (v3 : Int) (v4 : Int) (v5 : Int) (o0 : Term), run (z1e_m X n) [.lq m [0, 1, 0, 1, 1, 1, 1], .blk 0, .cut [1, 1, 1, 1, 1], .at [1, 1, 1, 1, 1]] ⟨[.any, .int .i64 v0, .int .i64 v1, .int .i64 v2, .int .i64 v3, .int .i64 v4, .ptr 0 0, .any, .any, .any, .any, .any, .any, .int .i64 v5, .any, .any, .any, .any, .any, .any, .any, .any, .any, .any, .any, .any, .any, .any, .any, .any, .any, .any, .any, .any, .any, .any, .any, .any, .any, .any, .any, .any, .any, .any, .any, .any, .any, .any, .any, .any, .any, .any, .any, .any, .any, .any, .any, .any, .any, .any, .any, .any, .any, .any, .any, .any, .any, .any, .any, .any, .any, .any, .any, .any, .any, .any, .any, .any, .any, .any, .any, .any, .any, .any, .any, .any, .any, .any, .any, .any, .any, .any, .any, .any, .any, .any, .any, .any, .any, .any, .any, .any, .any, .any, .any, .any, .any], [.cells (Term.cells o0)], 0⟩ = X0 v0 v1 v2 v3 v4 v5 o0) → ∀ (v0 : Int) (v1 : Int) (v2 : Int) (v3 : Int) (v4 : Int) (v5 : Int) (o0 : Term), run (z1e_m X n) [.at [0, 0, 1, 0, 1, 1, 1, 1], .lp m [0, 1, 0, 1, 1, 1, 1], .blk 0, .cut [1, 1, 1, 1, 1], .at [1, 1, 1, 1, 1]] ⟨[.any, .int .i64 v0, .int .i64 v1, .int .i64 v2, .int .i64 v3, .int .i64 v4, .ptr 0 0, .any, .any, .any, .any, .any, .any, .int .i64 v5, .any, .any, .any, .any, .any, .any, .any, .any, .any, .any, .any, .any, .any, .any, .any, .any, .any, .any, .any, .any, .any, .any, .any, .any, .any, .any, .any, .any, .any, .any, .any, .any, .any, .any, .any, .any, .any, .any, .any, .any, .any, .any, .any, .any, .any, .any, .any, .any, .any, .any, .any, .any, .any, .any, .any, .any, .any, .any, .any, .any, .any, .any, .any, .any, .any, .any, .any, .any, .any, .any, .any, .any, .any, .any, .any, .any, .any, .any, .any, .any, .any, .any, .any, .any, .any, .any, .any, .any, .any, .any, .any, .any, .any], [.cells (Term.cells o0)], 0⟩ = B X0 v0 v1 v2 v3 v4 v5 o0 } := by
  apply Subtype.mk
  intro m X0 ih v0 v1 v2 v3 v4 v5 o0
  simp (maxSteps := 100000000) only [go_sem, Nat.reduceAdd, Nat.reduceSub, Nat.reduceLeDiff, Nat.reduceEqDiff, Nat.reduceBEq, Nat.reduceMul, Nat.reduceLT, Int.reduceLE, Int.reduceLT, Int.reduceToNat, Int.reduceBEq, Int.reduceEq, z1e_f, z1e_c, Try.f106, Option.getD_some, mixed, z1e_d, z1e_n1, z1e_n2, z1e_l1_eq X n, ih]
  exact rfl
noncomputable def z1e_l2 (X : Term → Int → Int → Int → Int → Int → Option Int) (n : Nat) : Nat → Int → Int → Int → Int → Int → Int → Term → Option Int
  | 0, _, _, _, _, _, _, _ => none
  | m + 1, v0, v1, v2, v3, v4, v5, o0 => (z1e_b2 X n).1 (z1e_l2 X n m) v0 v1 v2 v3 v4 v5 o0
theorem z1e_l2_eq (X : Term → Int → Int → Int → Int → Int → Option Int) (n : Nat) : ∀ (m : Nat), (∀ (v0 : Int) (v1 : Int) (v2 : Int) (v3 : Int) (v4 : Int) (v5 : Int) (o0 : Term), run (z1e_m X n) [.lq m [0, 1, 0, 1, 1, 1, 1], .blk 0, .cut [1, 1, 1, 1, 1], .at [1, 1, 1, 1, 1]] ⟨[.any, .int .i64 v0, .int .i64 v1, .int .i64 v2, .int .i64 v3, .int .i64 v4, .ptr 0 0, .any, .any, .any, .any, .any, .any, .int .i64 v5, .any, .any, .any, .any, .any, .any, .any, .any, .any, .any, .any, .any, .any, .any, .any, .any, .any, .any, .any, .any, .any, .any, .any, .any, .any, .any, .any, .any, .any, .any, .any, .any, .any, .any, .any, .any, .any, .any, .any, .any, .any, .any, .any, .any, .any, .any, .any, .any, .any, .any, .any, .any, .any, .any, .any, .any, .any, .any, .any, .any, .any, .any, .any, .any, .any, .any, .any, .any, .any, .any, .any, .any, .any, .any, .any, .any, .any, .any, .any, .any, .any, .any, .any, .any, .any, .any, .any, .any, .any, .any, .any, .any, .any], [.cells (Term.cells o0)], 0⟩ = z1e_l2 X n m v0 v1 v2 v3 v4 v5 o0)
  | 0 => by intros; exact run_lq_zero
  | m + 1 => by
    have ih := z1e_l2_eq X n m
    intro v0 v1 v2 v3 v4 v5 o0
    rw [run_lq_succ]
    exact (z1e_b2 X n).2  m _  ih v0 v1 v2 v3 v4 v5 o0
noncomputable def z1e_e (X : Term → Int → Int → Int → Int → Int → Option Int) (n : Nat) : { B : Term → Int → Int → Int → Int → Int → Option Int // ∀ (a0 : Term) (a1 : Int) (a2 : Int) (a3 : Int) (a4 : Int) (a5 : Int), run (z1e_m X n) [.at []] { slots := [(tyC Term.cel).enc a0, (tyI .i64).enc a1, (tyI .i64).enc a2, (tyI .i64).enc a3, (tyI .i64).enc a4, (tyI .i64).enc a5] ++ List.replicate (107 - [(tyC Term.cel).enc a0, (tyI .i64).enc a1, (tyI .i64).enc a2, (tyI .i64).enc a3, (tyI .i64).enc a4, (tyI .i64).enc a5].length) .any, heap := [] } = B a0 a1 a2 a3 a4 a5 } := by
  apply Subtype.mk
  intro a0 a1 a2 a3 a4 a5
  simp (maxSteps := 100000000) only [go_sem, Nat.reduceAdd, Nat.reduceSub, Nat.reduceLeDiff, Nat.reduceEqDiff, Nat.reduceBEq, Nat.reduceMul, Nat.reduceLT, Int.reduceLE, Int.reduceLT, Int.reduceToNat, Int.reduceBEq, Int.reduceEq, z1e_f, z1e_c, Try.f106, Option.getD_some, mixed, z1e_d, z1e_n1, z1e_n2, z1e_l1_eq X n, z1e_l2_eq X n]
  exact rfl
noncomputable def z1e : Nat → Term → Int → Int → Int → Int → Int → Option Int
  | 0, _, _, _, _, _, _ => none
  | n + 1, a0, a1, a2, a3, a4, a5 => (z1e_e (z1e n) n).1 a0 a1 a2 a3 a4 a5
theorem z1e_ok : ∀ (n : Nat) (a0 : Term) (a1 : Int) (a2 : Int) (a3 : Int) (a4 : Int) (a5 : Int) (r : Int), z1e n a0 a1 a2 a3 a4 a5 = some r → FnC Try.prog 106 [(tyC Term.cel).enc a0, (tyI .i64).enc a1, (tyI .i64).enc a2, (tyI .i64).enc a3, (tyI .i64).enc a4, (tyI .i64).enc a5] (fun v => v = (tyI .i64).enc r)
  | 0, _, _, _, _, _, _, _, h => by cases h
  | n + 1, a0, a1, a2, a3, a4, a5, r, h => by
    have ih_ref03_check := z1e_ok n
    exact fnC_run (M := z1e_m (z1e n) n) ⟨(tabA_cons_ok (ent1_ok (z1o_ok n)) (tabA_cons_ok (ent1_ok (z1r_ok n)) (tabA_cons_ok (ent3_ok (z1f_ok n)) tabA_nil_ok))), (tabD_cons_ok (ent6_okD (ih_ref03_check)) (tabD_cons_ok (ent2_okD (z1b_ok n)) tabD_nil_ok)), tabN_ok _, tabF_ok _, noY_ok, noE_ok⟩ Try.func106 rfl rfl ⟨(tyC Term.cel).nb 0 _, (tyI .i64).nb 0 _, (tyI .i64).nb 0 _, (tyI .i64).nb 0 _, (tyI .i64).nb 0 _, (tyI .i64).nb 0 _, trivial⟩ Try.ntmps106 Try.results106 (fun σ hs => outR_ok (P := Try.prog) (rs := [.tmp 12]) (t := (tyI .i64)) (σ := σ) (r := r) hs) (((z1e_e (z1e n) n).2 a0 a1 a2 a3 a4 a5).trans h)

noncomputable def z0g_n1 : Nrm := ⟨[], [], [zA, zA, zK, zK, zA, zA, zA, zK, zA, zA, zA, zA, zA, zA, zA, zA, zA, zA, zA, zA, zA, zA, zA, zA, zA, zA, zA, zA, zA, zA, zA, zA, zA, zA, zA, zA, zA, zA, zA, zA, zA, zA, zA, zA, zA, zA, zA, zA, zA, zA, zA, zA, zA, zA, zA, zA, zA, zA, zA], [oT Ref07Scope.cel, oT Term.cel], none⟩
noncomputable def z0g_m (X : Ref07Scope → Term → Option Int) (n : Nat) : Mach Int where
  body := (Try.f136.body).getD .skip
  P := Try.prog
  cl := tabA [(43, ent2 (tyL rowS) tyS tyB (z1z n)), (109, ent2 (tyL Decl.row) tyS (ty2 (tyC Entry.cel) (tyI .i64)) (z1t n)), (127, ent3 (tyC Decl.cel) (tyI .i64) tyS (tyC Entry.cel) (z1j n))]
  cd := tabD [(136, entD (ent2 (tyC Ref07Scope.cel) (tyC Term.cel) (tyI .i64) X))]
  nrm := tabN [([0, 1, 0, 1, 1], z0g_n1)]
  cut := tabF []
  n := n
  out := outR Try.prog [.tmp 4] (tyI .i64)
  isE := tabI []
theorem z0g_f (X : Ref07Scope → Term → Option Int) (n : Nat) : (z0g_m X n).P = Try.prog ∧ (z0g_m X n).cl = tabA [(43, ent2 (tyL rowS) tyS tyB (z1z n)), (109, ent2 (tyL Decl.row) tyS (ty2 (tyC Entry.cel) (tyI .i64)) (z1t n)), (127, ent3 (tyC Decl.cel) (tyI .i64) tyS (tyC Entry.cel) (z1j n))] ∧ (z0g_m X n).cd = tabD [(136, entD (ent2 (tyC Ref07Scope.cel) (tyC Term.cel) (tyI .i64) X))] ∧ (z0g_m X n).nrm = tabN [([0, 1, 0, 1, 1], z0g_n1)] ∧ (z0g_m X n).cut = tabF [] ∧ (z0g_m X n).n = n ∧ (z0g_m X n).out = outR Try.prog [.tmp 4] (tyI .i64) ∧ (z0g_m X n).isE = tabI [] := ⟨rfl, rfl, rfl, rfl, rfl, rfl, rfl, rfl⟩
theorem z0g_c (X : Ref07Scope → Term → Option Int) (n : Nat) : (z0g_m X n).body = (Try.f136.body).getD .skip := rfl
theorem z0g_d (X : Ref07Scope → Term → Option Int) (n : Nat) : drawP (z0g_m X n) [0, 0, 0, 1, 0, 0, 1, 0, 1, 1] = true := by kernel_rfl
noncomputable def z0g_b1 (X : Ref07Scope → Term → Option Int) (n : Nat) : { B : (Int → Ref07Scope → Term → Option Int) → Int → Ref07Scope → Term → Option Int // ∀ m X0, (∀ (v0 : Int) (o0 : Ref07Scope) (o1 : Term), run (z0g_m X n) [.lq m [0, 1, 0, 1, 1], .blk 0, .cut [1, 1, 1], .at [1, 1, 1]] ⟨[.any, .any, .ptr 0 0, .ptr 1 0, .any, .any, .any, .int .i64 v0, .any, .any, .any, .any, .any, .any, .any, .any, .any, .any, .any, .any, .any, .any, .any, .any, .any, .any, .any, .any, .any, .any, .any, .any, .any, .any, .any, .any, .any, .any, .any, .any, .any, .any, .any, .any, .any, .any, .any, .any, .any, .any, .any, .any, .any, .any, .any, .any, .any, .any, .any], [.cells (Ref07Scope.cells o0), .cells (Term.cells o1)], 0⟩ = X0 v0 o0 o1) → ∀ (v0 : Int) (o0 : Ref07Scope) (o1 : Term), run (z0g_m X n) [.at [0, 0, 1, 0, 1, 1], .lp m [0, 1, 0, 1, 1], .blk 0, .cut [1, 1, 1], .at [1, 1, 1]] ⟨[.any, .any, .ptr 0 0, .ptr 1 0, .any, .any, .any, .int .i64 v0, .any, .any, .any, .any, .any, .any, .any, .any, .any, .any, .any, .any, .any, .any, .any, .any, .any, .any, .any, .any, .any, .any, .any, .any, .any, .any, .any, .any, .any, .any, .any, .any, .any, .any, .any, .any, .any, .any, .any, .any, .any, .any, .any, .any, .any, .any, .any, .any, .any, .any, .any], [.cells (Ref07Scope.cells o0), .cells (Term.cells o1)], 0⟩ = B X0 v0 o0 o1 } := by
  apply Subtype.mk
  intro m X0 ih v0 o0 o1
  simp (maxSteps := 100000000) only [go_sem, Nat.reduceAdd, Nat.reduceSub, Nat.reduceLeDiff, Nat.reduceEqDiff, Nat.reduceBEq, Nat.reduceMul, Nat.reduceLT, Int.reduceLE, Int.reduceLT, Int.reduceToNat, Int.reduceBEq, Int.reduceEq, z0g_f, z0g_c, Try.f136, Option.getD_some, mixed, z0g_d, z0g_n1, ih]
  exact rfl
noncomputable def z0g_l1 (X : Ref07Scope → Term → Option Int) (n : Nat) : Nat → Int → Ref07Scope → Term → Option Int
  | 0, _, _, _ => none
  | m + 1, v0, o0, o1 => (z0g_b1 X n).1 (z0g_l1 X n m) v0 o0 o1
theorem z0g_l1_eq (X : Ref07Scope → Term → Option Int) (n : Nat) : ∀ (m : Nat), (∀ (v0 : Int) (o0 : Ref07Scope) (o1 : Term), run (z0g_m X n) [.lq m [0, 1, 0, 1, 1], .blk 0, .cut [1, 1, 1], .at [1, 1, 1]] ⟨[.any, .any, .ptr 0 0, .ptr 1 0, .any, .any, .any, .int .i64 v0, .any, .any, .any, .any, .any, .any, .any, .any, .any, .any, .any, .any, .any, .any, .any, .any, .any, .any, .any, .any, .any, .any, .any, .any, .any, .any, .any, .any, .any, .any, .any, .any, .any, .any, .any, .any, .any, .any, .any, .any, .any, .any, .any, .any, .any, .any, .any, .any, .any, .any, .any], [.cells (Ref07Scope.cells o0), .cells (Term.cells o1)], 0⟩ = z0g_l1 X n m v0 o0 o1)
  | 0 => by intros; exact run_lq_zero
  | m + 1 => by
    have ih := z0g_l1_eq X n m
    intro v0 o0 o1
    rw [run_lq_succ]
    exact (z0g_b1 X n).2  m _  ih v0 o0 o1
noncomputable def z0g_e (X : Ref07Scope → Term → Option Int) (n : Nat) : { B : Ref07Scope → Term → Option Int // ∀ (a0 : Ref07Scope) (a1 : Term), run (z0g_m X n) [.at []] { slots := [(tyC Ref07Scope.cel).enc a0, (tyC Term.cel).enc a1] ++ List.replicate (59 - [(tyC Ref07Scope.cel).enc a0, (tyC Term.cel).enc a1].length) .any, heap := [] } = B a0 a1 } := by
  apply Subtype.mk
  intro a0 a1
  simp (maxSteps := 100000000) only [go_sem, Nat.reduceAdd, Nat.reduceSub, Nat.reduceLeDiff, Nat.reduceEqDiff, Nat.reduceBEq, Nat.reduceMul, Nat.reduceLT, Int.reduceLE, Int.reduceLT, Int.reduceToNat, Int.reduceBEq, Int.reduceEq, z0g_f, z0g_c, Try.f136, Option.getD_some, mixed, z0g_d, z0g_n1, z0g_l1_eq X n]
  exact rfl
noncomputable def z0g : Nat → Ref07Scope → Term → Option Int
  | 0, _, _ => none
  | n + 1, a0, a1 => (z0g_e (z0g n) n).1 a0 a1
theorem z0g_ok : ∀ (n : Nat) (a0 : Ref07Scope) (a1 : Term) (r : Int), z0g n a0 a1 = some r → FnC Try.prog 136 [(tyC Ref07Scope.cel).enc a0, (tyC Term.cel).enc a1] (fun v => v = (tyI .i64).enc r)
  | 0, _, _, _, h => by cases h
  | n + 1, a0, a1, r, h => by
    have ih_ref07_constants := z0g_ok n
    exact fnC_run (M := z0g_m (z0g n) n) ⟨(tabA_cons_ok (ent2_ok (z1z_ok n)) (tabA_cons_ok (ent2_ok (z1t_ok n)) (tabA_cons_ok (ent3_ok (z1j_ok n)) tabA_nil_ok))), (tabD_cons_ok (ent2_okD (ih_ref07_constants)) tabD_nil_ok), tabN_ok _, tabF_ok _, noY_ok, noE_ok⟩ Try.func136 rfl rfl ⟨(tyC Ref07Scope.cel).nb 0 _, (tyC Term.cel).nb 0 _, trivial⟩ Try.ntmps136 Try.results136 (fun σ hs => outR_ok (P := Try.prog) (rs := [.tmp 4]) (t := (tyI .i64)) (σ := σ) (r := r) hs) (((z0g_e (z0g n) n).2 a0 a1).trans h)
end Go.Abs
namespace Go.Abs
open Go.Proofs
set_option maxRecDepth 100000
set_option maxHeartbeats 4000000
set_option linter.unusedSimpArgs false
set_option linter.unusedVariables false
noncomputable def z1x_m (n : Nat) : Mach Decl where
  body := (Try.f55.body).getD .skip
  P := Try.prog
  cl := tabA []
  cd := tabD [(93, entD (ent1 (tyI .i64) (tyC Term.cel) (z16 n))), (94, entD (ent2 (tyC Term.cel) (tyC Term.cel) (tyC Term.cel) (z17 n))), (95, entD (ent2 (tyC Term.cel) (tyC Term.cel) (tyC Term.cel) (z18 n))), (96, entD (ent4 (tyC Term.cel) (tyC Term.cel) (tyP (cF 95)) (tyP (cL Level.row)) (tyC Term.cel) (z19 n)))]
  nrm := tabN []
  cut := tabF [([1, 1, 1, 1, 1, 1, 1], [1, 2])]
  n := n
  out := outR Try.prog [.cell 2 31] (tyC Decl.cel)
  isE := tabI []
theorem z1x_f (n : Nat) : (z1x_m n).P = Try.prog ∧ (z1x_m n).cl = tabA [] ∧ (z1x_m n).cd = tabD [(93, entD (ent1 (tyI .i64) (tyC Term.cel) (z16 n))), (94, entD (ent2 (tyC Term.cel) (tyC Term.cel) (tyC Term.cel) (z17 n))), (95, entD (ent2 (tyC Term.cel) (tyC Term.cel) (tyC Term.cel) (z18 n))), (96, entD (ent4 (tyC Term.cel) (tyC Term.cel) (tyP (cF 95)) (tyP (cL Level.row)) (tyC Term.cel) (z19 n)))] ∧ (z1x_m n).nrm = tabN [] ∧ (z1x_m n).cut = tabF [([1, 1, 1, 1, 1, 1, 1], [1, 2])] ∧ (z1x_m n).n = n ∧ (z1x_m n).out = outR Try.prog [.cell 2 31] (tyC Decl.cel) ∧ (z1x_m n).isE = tabI [] := ⟨rfl, rfl, rfl, rfl, rfl, rfl, rfl, rfl⟩
theorem z1x_c (n : Nat) : (z1x_m n).body = (Try.f55.body).getD .skip := rfl
theorem z1x_d (n : Nat) : drawP (z1x_m n) [0, 1, 1, 1, 1, 1, 1, 1, 1] = true := by kernel_rfl
theorem z1x_o (n : Nat) : ordP (z1x_m n) [0, 1, 1, 1, 1, 1, 1, 1, 1] 1 47 = true ∧ ordP (z1x_m n) [0, 1, 1, 1, 1, 1, 1, 1, 1] 3 47 = true ∧ ordP (z1x_m n) [0, 1, 1, 1, 1, 1, 1, 1, 1] 4 47 = true ∧ ordP (z1x_m n) [0, 1, 1, 1, 1, 1, 1, 1, 1] 9 47 = true ∧ ordP (z1x_m n) [0, 1, 1, 1, 1, 1, 1, 1, 1] 13 47 = true ∧ ordP (z1x_m n) [0, 1, 1, 1, 1, 1, 1, 1, 1] 18 47 = true ∧ ordP (z1x_m n) [0, 1, 1, 1, 1, 1, 1, 1, 1] 20 47 = true ∧ ordP (z1x_m n) [0, 1, 1, 1, 1, 1, 1, 1, 1] 34 47 = true ∧ ordP (z1x_m n) [0, 1, 1, 1, 1, 1, 1, 1, 1] 35 47 = true := ⟨by kernel_rfl, by kernel_rfl, by kernel_rfl, by kernel_rfl, by kernel_rfl, by kernel_rfl, by kernel_rfl, by kernel_rfl, by kernel_rfl⟩
noncomputable def z1x_e (n : Nat) : { B : Int → Option Decl // ∀ (a0 : Int), run (z1x_m n) [.at []] { slots := [(tyI .i64).enc a0] ++ List.replicate (69 - [(tyI .i64).enc a0].length) .any, heap := [] } = B a0 } := by
  apply Subtype.mk
  intro a0
  simp (maxSteps := 100000000) only [go_sem, Nat.reduceAdd, Nat.reduceSub, Nat.reduceLeDiff, Nat.reduceEqDiff, Nat.reduceBEq, Nat.reduceMul, Nat.reduceLT, Int.reduceLE, Int.reduceLT, Int.reduceToNat, Int.reduceBEq, Int.reduceEq, z1x_f, z1x_c, Try.f55, Option.getD_some, mixed, z1x_d, z1x_o]
  exact rfl
noncomputable def z1x : Nat → Int → Option Decl
  | 0, _ => none
  | n + 1, a0 => (z1x_e n).1 a0
theorem z1x_ok : ∀ (n : Nat) (a0 : Int) (r : Decl), z1x n a0 = some r → FnC Try.prog 55 [(tyI .i64).enc a0] (fun v => v = (tyC Decl.cel).enc r)
  | 0, _, _, h => by cases h
  | n + 1, a0, r, h => by
    exact fnC_run (M := z1x_m n) ⟨tabA_nil_ok, (tabD_cons_ok (ent1_okD (z16_ok n)) (tabD_cons_ok (ent2_okD (z17_ok n)) (tabD_cons_ok (ent2_okD (z18_ok n)) (tabD_cons_ok (ent4_okD (z19_ok n)) tabD_nil_ok)))), tabN_ok _, tabF_ok _, noY_ok, noE_ok⟩ Try.func55 rfl rfl ⟨(tyI .i64).nb 0 _, trivial⟩ Try.ntmps55 Try.results55 (fun σ hs => outR_ok (P := Try.prog) (rs := [.cell 2 31]) (t := (tyC Decl.cel)) (σ := σ) (r := r) hs) (((z1x_e n).2 a0).trans h)

noncomputable def z01_n1 : Nrm := ⟨[], [], [zA, zT (tyL Level.row), zT (tyF 64), zA, zA, zA, zA, zA, zA, zA, zA, zA, zA, zA, zA, zT (tyL Level.row), zK, zK, zA, zA, zA, zA, zA, zA, zA, zA, zA, zA, zA, zA, zA, zA], [], none⟩
noncomputable def z01_m (n : Nat) : Mach Bool where
  body := (Try.f63.body).getD .skip
  P := Try.prog
  cl := tabA [(64, ent2 (tyC Level.cel) (tyC Level.cel) tyB (z0p n))]
  cd := tabD []
  nrm := tabN [([0, 1, 0, 1, 1], z01_n1)]
  cut := tabF []
  n := n
  out := outR Try.prog [.tmp 6] tyB
theorem z01_f (n : Nat) : (z01_m n).P = Try.prog ∧ (z01_m n).cl = tabA [(64, ent2 (tyC Level.cel) (tyC Level.cel) tyB (z0p n))] ∧ (z01_m n).cd = tabD [] ∧ (z01_m n).nrm = tabN [([0, 1, 0, 1, 1], z01_n1)] ∧ (z01_m n).cut = tabF [] ∧ (z01_m n).n = n ∧ (z01_m n).out = outR Try.prog [.tmp 6] tyB := ⟨rfl, rfl, rfl, rfl, rfl, rfl, rfl⟩
theorem z01_c (n : Nat) : (z01_m n).body = (Try.f63.body).getD .skip := rfl
noncomputable def z01_b1 (n : Nat) : { B : ((List Level) → (List Level) → Int → Int → Option Bool) → (List Level) → (List Level) → Int → Int → Option Bool // ∀ m X0, (∀ (v0 : List Level) (v1 : List Level) (v2 : Int) (v3 : Int), run (z01_m n) [.lq m [0, 1, 0, 1, 1], .blk 0, .cut [1, 1, 1], .at [1, 1, 1]] ⟨[.any, .lst false 2 (mp Level.cells v0), .func (.func 64) [] [], .any, .any, .any, .any, .any, .any, .any, .any, .any, .any, .any, .any, .lst false 2 (mp Level.cells v1), .int .i64 v2, .int .i64 v3, .any, .any, .any, .any, .any, .any, .any, .any, .any, .any, .any, .any, .any, .any], [], 0⟩ = X0 v0 v1 v2 v3) → ∀ (v0 : List Level) (v1 : List Level) (v2 : Int) (v3 : Int), run (z01_m n) [.at [0, 0, 1, 0, 1, 1], .lp m [0, 1, 0, 1, 1], .blk 0, .cut [1, 1, 1], .at [1, 1, 1]] ⟨[.any, .lst false 2 (mp Level.cells v0), .func (.func 64) [] [], .any, .any, .any, .any, .any, .any, .any, .any, .any, .any, .any, .any, .lst false 2 (mp Level.cells v1), .int .i64 v2, .int .i64 v3, .any, .any, .any, .any, .any, .any, .any, .any, .any, .any, .any, .any, .any, .any], [], 0⟩ = B X0 v0 v1 v2 v3 } := by
  apply Subtype.mk
  intro m X0 ih v0 v1 v2 v3
  simp (maxSteps := 100000000) only [go_sem, Nat.reduceAdd, Nat.reduceSub, Nat.reduceLeDiff, Nat.reduceEqDiff, Nat.reduceBEq, Nat.reduceMul, Nat.reduceLT, Int.reduceLE, Int.reduceLT, Int.reduceToNat, Int.reduceBEq, Int.reduceEq, z01_f, z01_c, Try.f63, Option.getD_some, mixed, z01_n1, ih]
  exact rfl
noncomputable def z01_l1 (n : Nat) : Nat → (List Level) → (List Level) → Int → Int → Option Bool
  | 0, _, _, _, _ => none
  | m + 1, v0, v1, v2, v3 => (z01_b1 n).1 (z01_l1 n m) v0 v1 v2 v3
theorem z01_l1_eq (n : Nat) : ∀ (m : Nat), (∀ (v0 : List Level) (v1 : List Level) (v2 : Int) (v3 : Int), run (z01_m n) [.lq m [0, 1, 0, 1, 1], .blk 0, .cut [1, 1, 1], .at [1, 1, 1]] ⟨[.any, .lst false 2 (mp Level.cells v0), .func (.func 64) [] [], .any, .any, .any, .any, .any, .any, .any, .any, .any, .any, .any, .any, .lst false 2 (mp Level.cells v1), .int .i64 v2, .int .i64 v3, .any, .any, .any, .any, .any, .any, .any, .any, .any, .any, .any, .any, .any, .any], [], 0⟩ = z01_l1 n m v0 v1 v2 v3)
  | 0 => by intros; exact run_lq_zero
  | m + 1 => by
    have ih := z01_l1_eq n m
    intro v0 v1 v2 v3
    rw [run_lq_succ]
    exact (z01_b1 n).2  m _  ih v0 v1 v2 v3
noncomputable def z01_e (n : Nat) : { B : (List Level) → (List Level) → Unit → Option Bool // ∀ (a0 : (List Level)) (a1 : (List Level)) (a2 : Unit), run (z01_m n) [.at []] { slots := [(tyL Level.row).enc a0, (tyL Level.row).enc a1, (tyF 64).enc a2] ++ List.replicate (32 - [(tyL Level.row).enc a0, (tyL Level.row).enc a1, (tyF 64).enc a2].length) .any, heap := [] } = B a0 a1 a2 } := by
  apply Subtype.mk
  intro a0 a1 a2
  simp (maxSteps := 100000000) only [go_sem, Nat.reduceAdd, Nat.reduceSub, Nat.reduceLeDiff, Nat.reduceEqDiff, Nat.reduceBEq, Nat.reduceMul, Nat.reduceLT, Int.reduceLE, Int.reduceLT, Int.reduceToNat, Int.reduceBEq, Int.reduceEq, z01_f, z01_c, Try.f63, Option.getD_some, mixed, z01_n1, z01_l1_eq n]
  exact rfl
noncomputable def z01 : Nat → (List Level) → (List Level) → Unit → Option Bool
  | 0, _, _, _ => none
  | n + 1, a0, a1, a2 => (z01_e n).1 a0 a1 a2
theorem z01_ok : ∀ (n : Nat) (a0 : (List Level)) (a1 : (List Level)) (a2 : Unit) (r : Bool), z01 n a0 a1 a2 = some r → FnC Try.prog 63 [(tyL Level.row).enc a0, (tyL Level.row).enc a1, (tyF 64).enc a2] (fun v => v = tyB.enc r)
  | 0, _, _, _, _, h => by cases h
  | n + 1, a0, a1, a2, r, h => by
    exact fnC_run (M := z01_m n) ⟨(tabA_cons_ok (ent2_ok (z0p_ok n)) tabA_nil_ok), tabD_nil_ok, tabN_ok _, tabF_ok _, noY_ok, noE_ok⟩ Try.func63 rfl rfl ⟨(tyL Level.row).nb 0 _, (tyL Level.row).nb 0 _, (tyF 64).nb 0 _, trivial⟩ Try.ntmps63 Try.results63 (fun σ hs => outR_ok (P := Try.prog) (rs := [.tmp 6]) (t := tyB) (σ := σ) (r := r) hs) (((z01_e n).2 a0 a1 a2).trans h)

noncomputable def z0n_n1 : Nrm := ⟨[], [], [zA, zA, zA, zK, zK, zK, zA, zA, zA, zA, zT (tyL Decl.row), zK, zK, zA, zA, zA, zA, zA, zA, zA, zA, zA, zA, zA, zA, zA, zA, zA], [oC [zK], oT Entry.cel, oC [zK]], none⟩
noncomputable def z0n_m (n : Nat) : Mach (Entry × Int) where
  body := (Try.f73.body).getD .skip
  P := Try.prog
  cl := tabA [(108, ent2 (tyC Decl.cel) (tyI .i64) (tyK2 125 (tyP (cI .i64)) (tyP Decl.cel)) (z0b n)), (125, entX [.arg 0 [], .obj 0 3 [], .obj 0 4 [], .obj 0 5 []] z08_os z08_as z08_o1 alN (fun (b : (Unit × ((Str × Unit) × ((Entry × Unit) × ((Int × Unit) × Unit))))) (a : (Int × (Decl × Unit))) => (z08 n) a.1 a.2.1 b.2.1.1 b.2.2.1.1 b.2.2.2.1.1))]
  cd := tabD []
  nrm := tabN [([0, 1, 0, 1], z0n_n1)]
  cut := tabF []
  n := n
  out := outR Try.prog [.cell 4 111, .cell 5 37] (ty2 (tyC Entry.cel) (tyI .i64))
  js := tabJ [([0, 1, 1, 0, 0, 1, 1, 0, 0, 1, 0, 1], [(1, .ret)])]
theorem z0n_f (n : Nat) : (z0n_m n).P = Try.prog ∧ (z0n_m n).cl = tabA [(108, ent2 (tyC Decl.cel) (tyI .i64) (tyK2 125 (tyP (cI .i64)) (tyP Decl.cel)) (z0b n)), (125, entX [.arg 0 [], .obj 0 3 [], .obj 0 4 [], .obj 0 5 []] z08_os z08_as z08_o1 alN (fun (b : (Unit × ((Str × Unit) × ((Entry × Unit) × ((Int × Unit) × Unit))))) (a : (Int × (Decl × Unit))) => (z08 n) a.1 a.2.1 b.2.1.1 b.2.2.1.1 b.2.2.2.1.1))] ∧ (z0n_m n).cd = tabD [] ∧ (z0n_m n).nrm = tabN [([0, 1, 0, 1], z0n_n1)] ∧ (z0n_m n).cut = tabF [] ∧ (z0n_m n).n = n ∧ (z0n_m n).out = outR Try.prog [.cell 4 111, .cell 5 37] (ty2 (tyC Entry.cel) (tyI .i64)) ∧ (z0n_m n).js = tabJ [([0, 1, 1, 0, 0, 1, 1, 0, 0, 1, 0, 1], [(1, .ret)])] := ⟨rfl, rfl, rfl, rfl, rfl, rfl, rfl, rfl⟩
theorem z0n_c (n : Nat) : (z0n_m n).body = (Try.f73.body).getD .skip := rfl
theorem z0n_k0_ (n : Nat) : lkM (z0n_m n) [0, 1, 1, 0, 0, 1, 1, 0, 0, 1, 0, 1] = z0n_k0_1_1_0_0_1_1_0_0_1_0_1 := rfl
noncomputable def z0n_b1 (n : Nat) : { B : ((List Decl) → Int → Int → Str → Entry → Int → Option (Entry × Int)) → (List Decl) → Int → Int → Str → Entry → Int → Option (Entry × Int) // ∀ m X0, (∀ (v0 : List Decl) (v1 : Int) (v2 : Int) (v3 : Str) (o1 : Entry) (v5 : Int), run (z0n_m n) [.lq m [0, 1, 0, 1], .blk 0, .cut [1, 1], .at [1, 1]] ⟨[.any, .any, .any, .ptr 0 0, .ptr 1 0, .ptr 2 0, .any, .any, .any, .any, .lst false 23 (mp Decl.cells v0), .int .i64 v1, .int .i64 v2, .any, .any, .any, .any, .any, .any, .any, .any, .any, .any, .any, .any, .any, .any, .any], [.cells [.str (sb v3)], .cells (Entry.cells o1), .cells [.int .i64 v5]], 0⟩ = X0 v0 v1 v2 v3 o1 v5) → ∀ (v0 : List Decl) (v1 : Int) (v2 : Int) (v3 : Str) (o1 : Entry) (v5 : Int), run (z0n_m n) [.at [0, 0, 1, 0, 1], .lp m [0, 1, 0, 1], .blk 0, .cut [1, 1], .at [1, 1]] ⟨[.any, .any, .any, .ptr 0 0, .ptr 1 0, .ptr 2 0, .any, .any, .any, .any, .lst false 23 (mp Decl.cells v0), .int .i64 v1, .int .i64 v2, .any, .any, .any, .any, .any, .any, .any, .any, .any, .any, .any, .any, .any, .any, .any], [.cells [.str (sb v3)], .cells (Entry.cells o1), .cells [.int .i64 v5]], 0⟩ = B X0 v0 v1 v2 v3 o1 v5 } := by
  apply Subtype.mk
  intro m X0 ih v0 v1 v2 v3 o1 v5
  simp (maxSteps := 100000000) only [go_sem, Nat.reduceAdd, Nat.reduceSub, Nat.reduceLeDiff, Nat.reduceEqDiff, Nat.reduceBEq, Nat.reduceMul, Nat.reduceLT, Int.reduceLE, Int.reduceLT, Int.reduceToNat, Int.reduceBEq, Int.reduceEq, z0n_f, z0n_c, Try.f73, Option.getD_some, mixed, z08_as, z08_os, z08_o1, z0n_k0_1_1_0_0_1_1_0_0_1_0_1_f, z0n_k0_, z0n_n1, ih]
  exact rfl
noncomputable def z0n_l1 (n : Nat) : Nat → (List Decl) → Int → Int → Str → Entry → Int → Option (Entry × Int)
  | 0, _, _, _, _, _, _ => none
  | m + 1, v0, v1, v2, v3, o1, v5 => (z0n_b1 n).1 (z0n_l1 n m) v0 v1 v2 v3 o1 v5
theorem z0n_l1_eq (n : Nat) : ∀ (m : Nat), (∀ (v0 : List Decl) (v1 : Int) (v2 : Int) (v3 : Str) (o1 : Entry) (v5 : Int), run (z0n_m n) [.lq m [0, 1, 0, 1], .blk 0, .cut [1, 1], .at [1, 1]] ⟨[.any, .any, .any, .ptr 0 0, .ptr 1 0, .ptr 2 0, .any, .any, .any, .any, .lst false 23 (mp Decl.cells v0), .int .i64 v1, .int .i64 v2, .any, .any, .any, .any, .any, .any, .any, .any, .any, .any, .any, .any, .any, .any, .any], [.cells [.str (sb v3)], .cells (Entry.cells o1), .cells [.int .i64 v5]], 0⟩ = z0n_l1 n m v0 v1 v2 v3 o1 v5)
  | 0 => by intros; exact run_lq_zero
  | m + 1 => by
    have ih := z0n_l1_eq n m
    intro v0 v1 v2 v3 o1 v5
    rw [run_lq_succ]
    exact (z0n_b1 n).2  m _  ih v0 v1 v2 v3 o1 v5
noncomputable def z0n_e (n : Nat) : { B : (List Decl) → Str → Option (Entry × Int) // ∀ (a0 : (List Decl)) (a1 : Str), run (z0n_m n) [.at []] { slots := [(tyL Decl.row).enc a0, tyS.enc a1] ++ List.replicate (28 - [(tyL Decl.row).enc a0, tyS.enc a1].length) .any, heap := [] } = B a0 a1 } := by
  apply Subtype.mk
  intro a0 a1
  simp (maxSteps := 100000000) only [go_sem, Nat.reduceAdd, Nat.reduceSub, Nat.reduceLeDiff, Nat.reduceEqDiff, Nat.reduceBEq, Nat.reduceMul, Nat.reduceLT, Int.reduceLE, Int.reduceLT, Int.reduceToNat, Int.reduceBEq, Int.reduceEq, z0n_f, z0n_c, Try.f73, Option.getD_some, mixed, z08_as, z08_os, z08_o1, z0n_k0_1_1_0_0_1_1_0_0_1_0_1_f, z0n_k0_, z0n_n1, z0n_l1_eq n]
  exact rfl
noncomputable def z0n : Nat → (List Decl) → Str → Option (Entry × Int)
  | 0, _, _ => none
  | n + 1, a0, a1 => (z0n_e n).1 a0 a1
theorem z0n_ok : ∀ (n : Nat) (a0 : (List Decl)) (a1 : Str) (r : (Entry × Int)), z0n n a0 a1 = some r → FnC Try.prog 73 [(tyL Decl.row).enc a0, tyS.enc a1] (fun v => v = (ty2 (tyC Entry.cel) (tyI .i64)).enc r)
  | 0, _, _, _, h => by cases h
  | n + 1, a0, a1, r, h => by
    exact fnC_run (M := z0n_m n) ⟨(tabA_cons_ok (ent2_ok (z0b_ok n)) (tabA_cons_ok (entX_ok (fun b a r h => (z08_ok n) a.1 a.2.1 b.2.1.1 b.2.2.1.1 b.2.2.2.1.1 r h)) tabA_nil_ok)), tabD_nil_ok, tabN_ok _, tabF_ok _, noY_ok, noE_ok⟩ Try.func73 rfl rfl ⟨(tyL Decl.row).nb 0 _, tyS.nb 0 _, trivial⟩ Try.ntmps73 Try.results73 (fun σ hs => outR_ok (P := Try.prog) (rs := [.cell 4 111, .cell 5 37]) (t := (ty2 (tyC Entry.cel) (tyI .i64))) (σ := σ) (r := r) hs) (((z0n_e n).2 a0 a1).trans h)

noncomputable def z0y_m (n : Nat) : Mach (Decl × Int × Bool) where
  body := (Try.f75.body).getD .skip
  P := Try.prog
  cl := tabA [(109, ent2 (tyL Decl.row) tyS (ty2 (tyC Entry.cel) (tyI .i64)) (z1t n))]
  cd := tabD []
  nrm := tabN []
  cut := tabF []
  n := n
  out := outR Try.prog [.cell 4 31, .tmp 5, .tmp 6] (ty3 (tyC Decl.cel) (tyI .i64) tyB)
  isE := tabI []
theorem z0y_f (n : Nat) : (z0y_m n).P = Try.prog ∧ (z0y_m n).cl = tabA [(109, ent2 (tyL Decl.row) tyS (ty2 (tyC Entry.cel) (tyI .i64)) (z1t n))] ∧ (z0y_m n).cd = tabD [] ∧ (z0y_m n).nrm = tabN [] ∧ (z0y_m n).cut = tabF [] ∧ (z0y_m n).n = n ∧ (z0y_m n).out = outR Try.prog [.cell 4 31, .tmp 5, .tmp 6] (ty3 (tyC Decl.cel) (tyI .i64) tyB) ∧ (z0y_m n).isE = tabI [] := ⟨rfl, rfl, rfl, rfl, rfl, rfl, rfl, rfl⟩
theorem z0y_c (n : Nat) : (z0y_m n).body = (Try.f75.body).getD .skip := rfl
theorem z0y_d (n : Nat) : drawP (z0y_m n) [0, 0, 1, 1, 1, 0, 1, 0, 1, 1, 1] = true := by kernel_rfl
theorem z0y_o (n : Nat) : ordP (z0y_m n) [0, 0, 1, 1, 1, 0, 1, 0, 1, 1, 1] 2 7 = true ∧ ordP (z0y_m n) [0, 0, 1, 1, 1, 0, 1, 0, 1, 1, 1] 3 7 = true ∧ ordP (z0y_m n) [0, 0, 1, 1, 1, 0, 1, 0, 1, 1, 1] 4 7 = true := ⟨by kernel_rfl, by kernel_rfl, by kernel_rfl⟩
noncomputable def z0y_e (n : Nat) : { B : (List Decl) → Str → Option (Decl × Int × Bool) // ∀ (a0 : (List Decl)) (a1 : Str), run (z0y_m n) [.at []] { slots := [(tyL Decl.row).enc a0, tyS.enc a1] ++ List.replicate (44 - [(tyL Decl.row).enc a0, tyS.enc a1].length) .any, heap := [] } = B a0 a1 } := by
  apply Subtype.mk
  intro a0 a1
  simp (maxSteps := 100000000) only [go_sem, Nat.reduceAdd, Nat.reduceSub, Nat.reduceLeDiff, Nat.reduceEqDiff, Nat.reduceBEq, Nat.reduceMul, Nat.reduceLT, Int.reduceLE, Int.reduceLT, Int.reduceToNat, Int.reduceBEq, Int.reduceEq, z0y_f, z0y_c, Try.f75, Option.getD_some, mixed, z0y_d, z0y_o]
  exact rfl
noncomputable def z0y : Nat → (List Decl) → Str → Option (Decl × Int × Bool)
  | 0, _, _ => none
  | n + 1, a0, a1 => (z0y_e n).1 a0 a1
theorem z0y_ok : ∀ (n : Nat) (a0 : (List Decl)) (a1 : Str) (r : (Decl × Int × Bool)), z0y n a0 a1 = some r → FnC Try.prog 75 [(tyL Decl.row).enc a0, tyS.enc a1] (fun v => v = (ty3 (tyC Decl.cel) (tyI .i64) tyB).enc r)
  | 0, _, _, _, h => by cases h
  | n + 1, a0, a1, r, h => by
    exact fnC_run (M := z0y_m n) ⟨(tabA_cons_ok (ent2_ok (z1t_ok n)) tabA_nil_ok), tabD_nil_ok, tabN_ok _, tabF_ok _, noY_ok, noE_ok⟩ Try.func75 rfl rfl ⟨(tyL Decl.row).nb 0 _, tyS.nb 0 _, trivial⟩ Try.ntmps75 Try.results75 (fun σ hs => outR_ok (P := Try.prog) (rs := [.cell 4 31, .tmp 5, .tmp 6]) (t := (ty3 (tyC Decl.cel) (tyI .i64) tyB)) (σ := σ) (r := r) hs) (((z0y_e n).2 a0 a1).trans h)
end Go.Abs
namespace Go.Abs
open Go.Proofs
set_option maxRecDepth 100000
set_option maxHeartbeats 4000000
set_option linter.unusedSimpArgs false
set_option linter.unusedVariables false
noncomputable def z0r_n1 : Nrm := ⟨[], [], [zA, zK, zA, zA, zA, zK, zA, zA, zA, zA, zA, zA, zA, zA, zA, zA, zA, zA, zA, zA, zA, zA, zA, zA, zA, zA, zA, zA, zA, zA, zA, zA, zA, zA, zA, zA, zA, zA, zA, zA, zA, zA, zA, zA, zA, zA, zA, zA, zA, zA, zA, zA, zA, zA, zA, zA, zA, zA, zA, zA, zA, zA, zA, zA, zA, zA, zA, zA, zA, zA, zA, zA, zA, zA, zA, zA, zA, zA, zA, zA, zA, zA, zA, zA, zA, zA, zA, zA, zA, zA, zA, zA, zA, zA, zA, zA, zA, zA, zA, zA, zA, zA, zA, zA, zA, zA, zA, zA, zA, zA, zA, zA, zA, zA, zA, zA, zA, zA, zA, zA, zA, zA, zA, zA], [oT Decl.cel], none⟩
noncomputable def z0r_n2 : Nrm := ⟨[], [], [zA, zK, zA, zA, zK, zA, zA, zA, zA, zA, zA, zA, zA, zA, zA, zA, zA, zA, zA, zA, zA, zA, zA, zA, zA, zA, zA, zA, zA, zA, zA, zA, zA, zA, zA, zA, zA, zA, zA, zA, zA, zA, zA, zA, zA, zA, zA, zA, zA, zA, zA, zA, zA, zA, zA, zA, zA, zA, zA, zA, zA, zA, zA, zA, zA, zA, zA, zA, zA, zA, zA, zA, zA, zA, zA, zA, zA, zA, zA, zA, zA, zA, zA, zA, zA, zA, zA, zA, zA, zA, zA, zA, zA, zA, zA, zA, zA, zA, zA, zA, zA, zA, zA, zA, zA, zA, zA, zA, zA, zA, zA, zA, zA, zA, zA, zA, zA, zA, zA, zA, zA, zA, zA, zA], [oT Decl.cel], none⟩
noncomputable def z0r_n3 : Nrm := ⟨[], [], [zA, zK, zA, zK, zA, zA, zA, zA, zA, zA, zA, zA, zA, zA, zA, zA, zA, zA, zA, zA, zA, zA, zA, zA, zA, zA, zA, zA, zA, zA, zA, zA, zA, zA, zA, zA, zA, zA, zA, zA, zA, zA, zA, zA, zA, zA, zA, zA, zA, zA, zA, zA, zA, zA, zA, zA, zA, zA, zA, zA, zA, zA, zA, zA, zA, zA, zA, zA, zA, zA, zA, zA, zA, zA, zA, zA, zA, zA, zA, zA, zA, zA, zA, zA, zA, zA, zA, zA, zA, zA, zA, zA, zA, zA, zA, zA, zA, zA, zA, zA, zA, zA, zA, zA, zA, zA, zA, zA, zA, zA, zA, zA, zA, zA, zA, zA, zA, zA, zA, zA, zA, zA, zA, zA], [oT Decl.cel], none⟩
noncomputable def z0r_m (n : Nat) : Mach Bool where
  body := (Try.f52.body).getD .skip
  P := Try.prog
  cl := tabA [(90, ent1 (tyC Term.cel) tyB (z14 n)), (91, ent2 (tyC Tree.cel) (tyI .i64) tyB (z0d n))]
  cd := tabD []
  nrm := tabN [([0, 1, 0, 1, 1, 1, 1], z0r_n1), ([0, 1, 0, 1, 1, 1], z0r_n2), ([0, 1, 0, 1, 1], z0r_n3)]
  cut := tabF []
  n := n
  out := outR Try.prog [.tmp 2] tyB
theorem z0r_f (n : Nat) : (z0r_m n).P = Try.prog ∧ (z0r_m n).cl = tabA [(90, ent1 (tyC Term.cel) tyB (z14 n)), (91, ent2 (tyC Tree.cel) (tyI .i64) tyB (z0d n))] ∧ (z0r_m n).cd = tabD [] ∧ (z0r_m n).nrm = tabN [([0, 1, 0, 1, 1, 1, 1], z0r_n1), ([0, 1, 0, 1, 1, 1], z0r_n2), ([0, 1, 0, 1, 1], z0r_n3)] ∧ (z0r_m n).cut = tabF [] ∧ (z0r_m n).n = n ∧ (z0r_m n).out = outR Try.prog [.tmp 2] tyB := ⟨rfl, rfl, rfl, rfl, rfl, rfl, rfl⟩
theorem z0r_c (n : Nat) : (z0r_m n).body = (Try.f52.body).getD .skip := rfl
noncomputable def z0r_b1 (n : Nat) : { B : (Int → Decl → Option Bool) → Int → Decl → Option Bool // ∀ m X0, (∀ (v0 : Int) (o0 : Decl), run (z0r_m n) [.lq m [0, 1, 0, 1, 1, 1, 1], .blk 4, .cut [1, 1, 1, 1, 1], .at [1, 1, 1, 1, 1]] ⟨[.any, .ptr 0 0, .any, .any, .any, .int .i64 v0, .any, .any, .any, .any, .any, .any, .any, .any, .any, .any, .any, .any, .any, .any, .any, .any, .any, .any, .any, .any, .any, .any, .any, .any, .any, .any, .any, .any, .any, .any, .any, .any, .any, .any, .any, .any, .any, .any, .any, .any, .any, .any, .any, .any, .any, .any, .any, .any, .any, .any, .any, .any, .any, .any, .any, .any, .any, .any, .any, .any, .any, .any, .any, .any, .any, .any, .any, .any, .any, .any, .any, .any, .any, .any, .any, .any, .any, .any, .any, .any, .any, .any, .any, .any, .any, .any, .any, .any, .any, .any, .any, .any, .any, .any, .any, .any, .any, .any, .any, .any, .any, .any, .any, .any, .any, .any, .any, .any, .any, .any, .any, .any, .any, .any, .any, .any, .any, .any], [.cells (Decl.cells o0)], 0⟩ = X0 v0 o0) → ∀ (v0 : Int) (o0 : Decl), run (z0r_m n) [.at [0, 0, 1, 0, 1, 1, 1, 1], .lp m [0, 1, 0, 1, 1, 1, 1], .blk 4, .cut [1, 1, 1, 1, 1], .at [1, 1, 1, 1, 1]] ⟨[.any, .ptr 0 0, .any, .any, .any, .int .i64 v0, .any, .any, .any, .any, .any, .any, .any, .any, .any, .any, .any, .any, .any, .any, .any, .any, .any, .any, .any, .any, .any, .any, .any, .any, .any, .any, .any, .any, .any, .any, .any, .any, .any, .any, .any, .any, .any, .any, .any, .any, .any, .any, .any, .any, .any, .any, .any, .any, .any, .any, .any, .any, .any, .any, .any, .any, .any, .any, .any, .any, .any, .any, .any, .any, .any, .any, .any, .any, .any, .any, .any, .any, .any, .any, .any, .any, .any, .any, .any, .any, .any, .any, .any, .any, .any, .any, .any, .any, .any, .any, .any, .any, .any, .any, .any, .any, .any, .any, .any, .any, .any, .any, .any, .any, .any, .any, .any, .any, .any, .any, .any, .any, .any, .any, .any, .any, .any, .any], [.cells (Decl.cells o0)], 0⟩ = B X0 v0 o0 } := by
  apply Subtype.mk
  intro m X0 ih v0 o0
  simp (maxSteps := 100000000) only [go_sem, Nat.reduceAdd, Nat.reduceSub, Nat.reduceLeDiff, Nat.reduceEqDiff, Nat.reduceBEq, Nat.reduceMul, Nat.reduceLT, Int.reduceLE, Int.reduceLT, Int.reduceToNat, Int.reduceBEq, Int.reduceEq, z0r_f, z0r_c, Try.f52, Option.getD_some, mixed, z0r_n1, z0r_n2, z0r_n3, ih]
  exact rfl
noncomputable def z0r_l1 (n : Nat) : Nat → Int → Decl → Option Bool
  | 0, _, _ => none
  | m + 1, v0, o0 => (z0r_b1 n).1 (z0r_l1 n m) v0 o0
theorem z0r_l1_eq (n : Nat) : ∀ (m : Nat), (∀ (v0 : Int) (o0 : Decl), run (z0r_m n) [.lq m [0, 1, 0, 1, 1, 1, 1], .blk 4, .cut [1, 1, 1, 1, 1], .at [1, 1, 1, 1, 1]] ⟨[.any, .ptr 0 0, .any, .any, .any, .int .i64 v0, .any, .any, .any, .any, .any, .any, .any, .any, .any, .any, .any, .any, .any, .any, .any, .any, .any, .any, .any, .any, .any, .any, .any, .any, .any, .any, .any, .any, .any, .any, .any, .any, .any, .any, .any, .any, .any, .any, .any, .any, .any, .any, .any, .any, .any, .any, .any, .any, .any, .any, .any, .any, .any, .any, .any, .any, .any, .any, .any, .any, .any, .any, .any, .any, .any, .any, .any, .any, .any, .any, .any, .any, .any, .any, .any, .any, .any, .any, .any, .any, .any, .any, .any, .any, .any, .any, .any, .any, .any, .any, .any, .any, .any, .any, .any, .any, .any, .any, .any, .any, .any, .any, .any, .any, .any, .any, .any, .any, .any, .any, .any, .any, .any, .any, .any, .any, .any, .any], [.cells (Decl.cells o0)], 0⟩ = z0r_l1 n m v0 o0)
  | 0 => by intros; exact run_lq_zero
  | m + 1 => by
    have ih := z0r_l1_eq n m
    intro v0 o0
    rw [run_lq_succ]
    exact (z0r_b1 n).2  m _  ih v0 o0
noncomputable def z0r_b2 (n : Nat) : { B : (Int → Decl → Option Bool) → Int → Decl → Option Bool // ∀ m X0, (∀ (v0 : Int) (o0 : Decl), run (z0r_m n) [.lq m [0, 1, 0, 1, 1, 1], .blk 2, .cut [1, 1, 1, 1], .at [1, 1, 1, 1]] ⟨[.any, .ptr 0 0, .any, .any, .int .i64 v0, .any, .any, .any, .any, .any, .any, .any, .any, .any, .any, .any, .any, .any, .any, .any, .any, .any, .any, .any, .any, .any, .any, .any, .any, .any, .any, .any, .any, .any, .any, .any, .any, .any, .any, .any, .any, .any, .any, .any, .any, .any, .any, .any, .any, .any, .any, .any, .any, .any, .any, .any, .any, .any, .any, .any, .any, .any, .any, .any, .any, .any, .any, .any, .any, .any, .any, .any, .any, .any, .any, .any, .any, .any, .any, .any, .any, .any, .any, .any, .any, .any, .any, .any, .any, .any, .any, .any, .any, .any, .any, .any, .any, .any, .any, .any, .any, .any, .any, .any, .any, .any, .any, .any, .any, .any, .any, .any, .any, .any, .any, .any, .any, .any, .any, .any, .any, .any, .any, .any], [.cells (Decl.cells o0)], 0⟩ = X0 v0 o0) → ∀ (v0 : Int) (o0 : Decl), run (z0r_m n) [.at [0, 0, 1, 0, 1, 1, 1], .lp m [0, 1, 0, 1, 1, 1], .blk 2, .cut [1, 1, 1, 1], .at [1, 1, 1, 1]] ⟨[.any, .ptr 0 0, .any, .any, .int .i64 v0, .any, .any, .any, .any, .any, .any, .any, .any, .any, .any, .any, .any, .any, .any, .any, .any, .any, .any, .any, .any, .any, .any, .any, .any, .any, .any, .any, .any, .any, .any, .any, .any, .any, .any, .any, .any, .any, .any, .any, .any, .any, .any, .any, .any, .any, .any, .any, .any, .any, .any, .any, .any, .any, .any, .any, .any, .any, .any, .any, .any, .any, .any, .any, .any, .any, .any, .any, .any, .any, .any, .any, .any, .any, .any, .any, .any, .any, .any, .any, .any, .any, .any, .any, .any, .any, .any, .any, .any, .any, .any, .any, .any, .any, .any, .any, .any, .any, .any, .any, .any, .any, .any, .any, .any, .any, .any, .any, .any, .any, .any, .any, .any, .any, .any, .any, .any, .any, .any, .any], [.cells (Decl.cells o0)], 0⟩ = B X0 v0 o0 } := by
  apply Subtype.mk
  intro m X0 ih v0 o0
  simp (maxSteps := 100000000) only [go_sem, Nat.reduceAdd, Nat.reduceSub, Nat.reduceLeDiff, Nat.reduceEqDiff, Nat.reduceBEq, Nat.reduceMul, Nat.reduceLT, Int.reduceLE, Int.reduceLT, Int.reduceToNat, Int.reduceBEq, Int.reduceEq, z0r_f, z0r_c, Try.f52, Option.getD_some, mixed, z0r_n1, z0r_n2, z0r_n3, z0r_l1_eq n, ih]
  exact rfl
noncomputable def z0r_l2 (n : Nat) : Nat → Int → Decl → Option Bool
  | 0, _, _ => none
  | m + 1, v0, o0 => (z0r_b2 n).1 (z0r_l2 n m) v0 o0
theorem z0r_l2_eq (n : Nat) : ∀ (m : Nat), (∀ (v0 : Int) (o0 : Decl), run (z0r_m n) [.lq m [0, 1, 0, 1, 1, 1], .blk 2, .cut [1, 1, 1, 1], .at [1, 1, 1, 1]] ⟨[.any, .ptr 0 0, .any, .any, .int .i64 v0, .any, .any, .any, .any, .any, .any, .any, .any, .any, .any, .any, .any, .any, .any, .any, .any, .any, .any, .any, .any, .any, .any, .any, .any, .any, .any, .any, .any, .any, .any, .any, .any, .any, .any, .any, .any, .any, .any, .any, .any, .any, .any, .any, .any, .any, .any, .any, .any, .any, .any, .any, .any, .any, .any, .any, .any, .any, .any, .any, .any, .any, .any, .any, .any, .any, .any, .any, .any, .any, .any, .any, .any, .any, .any, .any, .any, .any, .any, .any, .any, .any, .any, .any, .any, .any, .any, .any, .any, .any, .any, .any, .any, .any, .any, .any, .any, .any, .any, .any, .any, .any, .any, .any, .any, .any, .any, .any, .any, .any, .any, .any, .any, .any, .any, .any, .any, .any, .any, .any], [.cells (Decl.cells o0)], 0⟩ = z0r_l2 n m v0 o0)
  | 0 => by intros; exact run_lq_zero
  | m + 1 => by
    have ih := z0r_l2_eq n m
    intro v0 o0
    rw [run_lq_succ]
    exact (z0r_b2 n).2  m _  ih v0 o0
noncomputable def z0r_b3 (n : Nat) : { B : (Int → Decl → Option Bool) → Int → Decl → Option Bool // ∀ m X0, (∀ (v0 : Int) (o0 : Decl), run (z0r_m n) [.lq m [0, 1, 0, 1, 1], .blk 0, .cut [1, 1, 1], .at [1, 1, 1]] ⟨[.any, .ptr 0 0, .any, .int .i64 v0, .any, .any, .any, .any, .any, .any, .any, .any, .any, .any, .any, .any, .any, .any, .any, .any, .any, .any, .any, .any, .any, .any, .any, .any, .any, .any, .any, .any, .any, .any, .any, .any, .any, .any, .any, .any, .any, .any, .any, .any, .any, .any, .any, .any, .any, .any, .any, .any, .any, .any, .any, .any, .any, .any, .any, .any, .any, .any, .any, .any, .any, .any, .any, .any, .any, .any, .any, .any, .any, .any, .any, .any, .any, .any, .any, .any, .any, .any, .any, .any, .any, .any, .any, .any, .any, .any, .any, .any, .any, .any, .any, .any, .any, .any, .any, .any, .any, .any, .any, .any, .any, .any, .any, .any, .any, .any, .any, .any, .any, .any, .any, .any, .any, .any, .any, .any, .any, .any, .any, .any], [.cells (Decl.cells o0)], 0⟩ = X0 v0 o0) → ∀ (v0 : Int) (o0 : Decl), run (z0r_m n) [.at [0, 0, 1, 0, 1, 1], .lp m [0, 1, 0, 1, 1], .blk 0, .cut [1, 1, 1], .at [1, 1, 1]] ⟨[.any, .ptr 0 0, .any, .int .i64 v0, .any, .any, .any, .any, .any, .any, .any, .any, .any, .any, .any, .any, .any, .any, .any, .any, .any, .any, .any, .any, .any, .any, .any, .any, .any, .any, .any, .any, .any, .any, .any, .any, .any, .any, .any, .any, .any, .any, .any, .any, .any, .any, .any, .any, .any, .any, .any, .any, .any, .any, .any, .any, .any, .any, .any, .any, .any, .any, .any, .any, .any, .any, .any, .any, .any, .any, .any, .any, .any, .any, .any, .any, .any, .any, .any, .any, .any, .any, .any, .any, .any, .any, .any, .any, .any, .any, .any, .any, .any, .any, .any, .any, .any, .any, .any, .any, .any, .any, .any, .any, .any, .any, .any, .any, .any, .any, .any, .any, .any, .any, .any, .any, .any, .any, .any, .any, .any, .any, .any, .any], [.cells (Decl.cells o0)], 0⟩ = B X0 v0 o0 } := by
  apply Subtype.mk
  intro m X0 ih v0 o0
  simp (maxSteps := 100000000) only [go_sem, Nat.reduceAdd, Nat.reduceSub, Nat.reduceLeDiff, Nat.reduceEqDiff, Nat.reduceBEq, Nat.reduceMul, Nat.reduceLT, Int.reduceLE, Int.reduceLT, Int.reduceToNat, Int.reduceBEq, Int.reduceEq, z0r_f, z0r_c, Try.f52, Option.getD_some, mixed, z0r_n1, z0r_n2, z0r_n3, z0r_l1_eq n, z0r_l2_eq n, ih]
  exact rfl
noncomputable def z0r_l3 (n : Nat) : Nat → Int → Decl → Option Bool
  | 0, _, _ => none
  | m + 1, v0, o0 => (z0r_b3 n).1 (z0r_l3 n m) v0 o0
theorem z0r_l3_eq (n : Nat) : ∀ (m : Nat), (∀ (v0 : Int) (o0 : Decl), run (z0r_m n) [.lq m [0, 1, 0, 1, 1], .blk 0, .cut [1, 1, 1], .at [1, 1, 1]] ⟨[.any, .ptr 0 0, .any, .int .i64 v0, .any, .any, .any, .any, .any, .any, .any, .any, .any, .any, .any, .any, .any, .any, .any, .any, .any, .any, .any, .any, .any, .any, .any, .any, .any, .any, .any, .any, .any, .any, .any, .any, .any, .any, .any, .any, .any, .any, .any, .any, .any, .any, .any, .any, .any, .any, .any, .any, .any, .any, .any, .any, .any, .any, .any, .any, .any, .any, .any, .any, .any, .any, .any, .any, .any, .any, .any, .any, .any, .any, .any, .any, .any, .any, .any, .any, .any, .any, .any, .any, .any, .any, .any, .any, .any, .any, .any, .any, .any, .any, .any, .any, .any, .any, .any, .any, .any, .any, .any, .any, .any, .any, .any, .any, .any, .any, .any, .any, .any, .any, .any, .any, .any, .any, .any, .any, .any, .any, .any, .any], [.cells (Decl.cells o0)], 0⟩ = z0r_l3 n m v0 o0)
  | 0 => by intros; exact run_lq_zero
  | m + 1 => by
    have ih := z0r_l3_eq n m
    intro v0 o0
    rw [run_lq_succ]
    exact (z0r_b3 n).2  m _  ih v0 o0
noncomputable def z0r_e (n : Nat) : { B : Decl → Option Bool // ∀ (a0 : Decl), run (z0r_m n) [.at []] { slots := [(tyC Decl.cel).enc a0] ++ List.replicate (124 - [(tyC Decl.cel).enc a0].length) .any, heap := [] } = B a0 } := by
  apply Subtype.mk
  intro a0
  simp (maxSteps := 100000000) only [go_sem, Nat.reduceAdd, Nat.reduceSub, Nat.reduceLeDiff, Nat.reduceEqDiff, Nat.reduceBEq, Nat.reduceMul, Nat.reduceLT, Int.reduceLE, Int.reduceLT, Int.reduceToNat, Int.reduceBEq, Int.reduceEq, z0r_f, z0r_c, Try.f52, Option.getD_some, mixed, z0r_n1, z0r_n2, z0r_n3, z0r_l1_eq n, z0r_l2_eq n, z0r_l3_eq n]
  exact rfl
noncomputable def z0r : Nat → Decl → Option Bool
  | 0, _ => none
  | n + 1, a0 => (z0r_e n).1 a0
theorem z0r_ok : ∀ (n : Nat) (a0 : Decl) (r : Bool), z0r n a0 = some r → FnC Try.prog 52 [(tyC Decl.cel).enc a0] (fun v => v = tyB.enc r)
  | 0, _, _, h => by cases h
  | n + 1, a0, r, h => by
    exact fnC_run (M := z0r_m n) ⟨(tabA_cons_ok (ent1_ok (z14_ok n)) (tabA_cons_ok (ent2_ok (z0d_ok n)) tabA_nil_ok)), tabD_nil_ok, tabN_ok _, tabF_ok _, noY_ok, noE_ok⟩ Try.func52 rfl rfl ⟨(tyC Decl.cel).nb 0 _, trivial⟩ Try.ntmps52 Try.results52 (fun σ hs => outR_ok (P := Try.prog) (rs := [.tmp 2]) (t := tyB) (σ := σ) (r := r) hs) (((z0r_e n).2 a0).trans h)

noncomputable def z1u_m (n : Nat) : Mach Bool where
  body := (Try.f129.body).getD .skip
  P := Try.prog
  cl := tabA [(23, ent2 (tyC Term.cel) (tyC Term.cel) tyB (z1p n))]
  cd := tabD []
  nrm := tabN []
  cut := tabF []
  n := n
  out := outR Try.prog [.tmp 2] tyB
theorem z1u_f (n : Nat) : (z1u_m n).P = Try.prog ∧ (z1u_m n).cl = tabA [(23, ent2 (tyC Term.cel) (tyC Term.cel) tyB (z1p n))] ∧ (z1u_m n).cd = tabD [] ∧ (z1u_m n).nrm = tabN [] ∧ (z1u_m n).cut = tabF [] ∧ (z1u_m n).n = n ∧ (z1u_m n).out = outR Try.prog [.tmp 2] tyB := ⟨rfl, rfl, rfl, rfl, rfl, rfl, rfl⟩
theorem z1u_c (n : Nat) : (z1u_m n).body = (Try.f129.body).getD .skip := rfl
noncomputable def z1u_e (n : Nat) : { B : Term → Option Bool // ∀ (a0 : Term), run (z1u_m n) [.at []] { slots := [(tyC Term.cel).enc a0] ++ List.replicate (6 - [(tyC Term.cel).enc a0].length) .any, heap := [] } = B a0 } := by
  apply Subtype.mk
  intro a0
  simp (maxSteps := 100000000) only [go_sem, Nat.reduceAdd, Nat.reduceSub, Nat.reduceLeDiff, Nat.reduceEqDiff, Nat.reduceBEq, Nat.reduceMul, Nat.reduceLT, Int.reduceLE, Int.reduceLT, Int.reduceToNat, Int.reduceBEq, Int.reduceEq, z1u_f, z1u_c, Try.f129, Option.getD_some, mixed]
  exact rfl
noncomputable def z1u : Nat → Term → Option Bool
  | 0, _ => none
  | n + 1, a0 => (z1u_e n).1 a0
theorem z1u_ok : ∀ (n : Nat) (a0 : Term) (r : Bool), z1u n a0 = some r → FnC Try.prog 129 [(tyC Term.cel).enc a0] (fun v => v = tyB.enc r)
  | 0, _, _, h => by cases h
  | n + 1, a0, r, h => by
    exact fnC_run (M := z1u_m n) ⟨(tabA_cons_ok (ent2_ok (z1p_ok n)) tabA_nil_ok), tabD_nil_ok, tabN_ok _, tabF_ok _, noY_ok, noE_ok⟩ Try.func129 rfl rfl ⟨(tyC Term.cel).nb 0 _, trivial⟩ Try.ntmps129 Try.results129 (fun σ hs => outR_ok (P := Try.prog) (rs := [.tmp 2]) (t := tyB) (σ := σ) (r := r) hs) (((z1u_e n).2 a0).trans h)

noncomputable def z1c_m (n : Nat) : Mach Int where
  body := (Try.f71.body).getD .skip
  P := Try.prog
  cl := tabA [(69, ent1 (tyC Term.cel) (tyI .i64) (z1q n)), (70, ent1 (tyC Term.cel) (tyI .i64) (z1d n)), (106, ent6 (tyC Term.cel) (tyI .i64) (tyI .i64) (tyI .i64) (tyI .i64) (tyI .i64) (tyI .i64) (z1e n))]
  cd := tabD []
  nrm := tabN []
  cut := tabF []
  n := n
  out := outR Try.prog [.tmp 10] (tyI .i64)
theorem z1c_f (n : Nat) : (z1c_m n).P = Try.prog ∧ (z1c_m n).cl = tabA [(69, ent1 (tyC Term.cel) (tyI .i64) (z1q n)), (70, ent1 (tyC Term.cel) (tyI .i64) (z1d n)), (106, ent6 (tyC Term.cel) (tyI .i64) (tyI .i64) (tyI .i64) (tyI .i64) (tyI .i64) (tyI .i64) (z1e n))] ∧ (z1c_m n).cd = tabD [] ∧ (z1c_m n).nrm = tabN [] ∧ (z1c_m n).cut = tabF [] ∧ (z1c_m n).n = n ∧ (z1c_m n).out = outR Try.prog [.tmp 10] (tyI .i64) := ⟨rfl, rfl, rfl, rfl, rfl, rfl, rfl⟩
theorem z1c_c (n : Nat) : (z1c_m n).body = (Try.f71.body).getD .skip := rfl
noncomputable def z1c_e (n : Nat) : { B : Term → Int → Int → Int → Int → Option Int // ∀ (a0 : Term) (a1 : Int) (a2 : Int) (a3 : Int) (a4 : Int), run (z1c_m n) [.at []] { slots := [(tyC Term.cel).enc a0, (tyI .i64).enc a1, (tyI .i64).enc a2, (tyI .i64).enc a3, (tyI .i64).enc a4] ++ List.replicate (28 - [(tyC Term.cel).enc a0, (tyI .i64).enc a1, (tyI .i64).enc a2, (tyI .i64).enc a3, (tyI .i64).enc a4].length) .any, heap := [] } = B a0 a1 a2 a3 a4 } := by
  apply Subtype.mk
  intro a0 a1 a2 a3 a4
  simp (maxSteps := 100000000) only [go_sem, Nat.reduceAdd, Nat.reduceSub, Nat.reduceLeDiff, Nat.reduceEqDiff, Nat.reduceBEq, Nat.reduceMul, Nat.reduceLT, Int.reduceLE, Int.reduceLT, Int.reduceToNat, Int.reduceBEq, Int.reduceEq, z1c_f, z1c_c, Try.f71, Option.getD_some, mixed]
  exact rfl
noncomputable def z1c : Nat → Term → Int → Int → Int → Int → Option Int
  | 0, _, _, _, _, _ => none
  | n + 1, a0, a1, a2, a3, a4 => (z1c_e n).1 a0 a1 a2 a3 a4
theorem z1c_ok : ∀ (n : Nat) (a0 : Term) (a1 : Int) (a2 : Int) (a3 : Int) (a4 : Int) (r : Int), z1c n a0 a1 a2 a3 a4 = some r → FnC Try.prog 71 [(tyC Term.cel).enc a0, (tyI .i64).enc a1, (tyI .i64).enc a2, (tyI .i64).enc a3, (tyI .i64).enc a4] (fun v => v = (tyI .i64).enc r)
  | 0, _, _, _, _, _, _, h => by cases h
  | n + 1, a0, a1, a2, a3, a4, r, h => by
    exact fnC_run (M := z1c_m n) ⟨(tabA_cons_ok (ent1_ok (z1q_ok n)) (tabA_cons_ok (ent1_ok (z1d_ok n)) (tabA_cons_ok (ent6_ok (z1e_ok n)) tabA_nil_ok))), tabD_nil_ok, tabN_ok _, tabF_ok _, noY_ok, noE_ok⟩ Try.func71 rfl rfl ⟨(tyC Term.cel).nb 0 _, (tyI .i64).nb 0 _, (tyI .i64).nb 0 _, (tyI .i64).nb 0 _, (tyI .i64).nb 0 _, trivial⟩ Try.ntmps71 Try.results71 (fun σ hs => outR_ok (P := Try.prog) (rs := [.tmp 10]) (t := (tyI .i64)) (σ := σ) (r := r) hs) (((z1c_e n).2 a0 a1 a2 a3 a4).trans h)

noncomputable def z0m_n1 : Nrm := ⟨[], [], [zA, zA, zK, zK, zA, zK, zA, zA, zA, zA, zA, zA, zA, zA, zA, zA, zA, zA, zA, zA, zA, zA, zA, zA, zA, zA, zA, zA, zA, zA, zA, zA, zA, zA, zA, zA, zA, zA, zA, zA, zA, zA, zA, zA, zA, zA, zA, zA, zA, zA, zA, zA, zA, zA, zA, zA, zA, zA, zA, zA, zA, zA, zA, zA, zA, zA, zA, zA, zA, zA, zA, zA, zA, zA], [oT Tree.cel, oT Tree.cel], none⟩
noncomputable def z0m_m (X : Tree → Tree → Option Bool) (n : Nat) : Mach Bool where
  body := (Try.f77.body).getD .skip
  P := Try.prog
  cl := tabA [(23, ent2 (tyC Term.cel) (tyC Term.cel) tyB (z1p n)), (77, ent2 (tyC Tree.cel) (tyC Tree.cel) tyB X)]
  cd := tabD []
  nrm := tabN [([0, 1, 0, 1, 1], z0m_n1)]
  cut := tabF []
  n := n
  out := outR Try.prog [.tmp 4] tyB
  isE := tabI []
theorem z0m_f (X : Tree → Tree → Option Bool) (n : Nat) : (z0m_m X n).P = Try.prog ∧ (z0m_m X n).cl = tabA [(23, ent2 (tyC Term.cel) (tyC Term.cel) tyB (z1p n)), (77, ent2 (tyC Tree.cel) (tyC Tree.cel) tyB X)] ∧ (z0m_m X n).cd = tabD [] ∧ (z0m_m X n).nrm = tabN [([0, 1, 0, 1, 1], z0m_n1)] ∧ (z0m_m X n).cut = tabF [] ∧ (z0m_m X n).n = n ∧ (z0m_m X n).out = outR Try.prog [.tmp 4] tyB ∧ (z0m_m X n).isE = tabI [] := ⟨rfl, rfl, rfl, rfl, rfl, rfl, rfl, rfl⟩
theorem z0m_c (X : Tree → Tree → Option Bool) (n : Nat) : (z0m_m X n).body = (Try.f77.body).getD .skip := rfl
theorem z0m_d (X : Tree → Tree → Option Bool) (n : Nat) : drawP (z0m_m X n) [0, 0, 0, 1, 0, 0, 1, 0, 1, 1] = true := by kernel_rfl
theorem z0m_o (X : Tree → Tree → Option Bool) (n : Nat) : ordP (z0m_m X n) [0, 0, 0, 1, 0, 0, 1, 0, 1, 1] 1 12 = true ∧ ordP (z0m_m X n) [0, 0, 0, 1, 0, 0, 1, 0, 1, 1] 3 12 = true ∧ ordP (z0m_m X n) [0, 0, 0, 1, 0, 0, 1, 0, 1, 1] 4 12 = true ∧ ordP (z0m_m X n) [0, 0, 0, 1, 0, 0, 1, 0, 1, 1] 10 12 = true ∧ ordP (z0m_m X n) [0, 0, 0, 1, 0, 0, 1, 0, 1, 1] 11 12 = true ∧ ordP (z0m_m X n) [0, 0, 0, 1, 0, 0, 1, 0, 1, 1] 1 13 = true ∧ ordP (z0m_m X n) [0, 0, 0, 1, 0, 0, 1, 0, 1, 1] 3 13 = true ∧ ordP (z0m_m X n) [0, 0, 0, 1, 0, 0, 1, 0, 1, 1] 4 13 = true ∧ ordP (z0m_m X n) [0, 0, 0, 1, 0, 0, 1, 0, 1, 1] 6 13 = true ∧ ordP (z0m_m X n) [0, 0, 0, 1, 0, 0, 1, 0, 1, 1] 8 13 = true ∧ ordP (z0m_m X n) [0, 0, 0, 1, 0, 0, 1, 0, 1, 1] 9 13 = true ∧ ordP (z0m_m X n) [0, 0, 0, 1, 0, 0, 1, 0, 1, 1] 10 13 = true ∧ ordP (z0m_m X n) [0, 0, 0, 1, 0, 0, 1, 0, 1, 1] 11 13 = true ∧ ordP (z0m_m X n) [0, 0, 0, 1, 0, 0, 1, 0, 1, 1] 12 13 = true ∧ ordP (z0m_m X n) [0, 0, 0, 1, 0, 0, 1, 0, 1, 1] 10 11 = true := ⟨by kernel_rfl, by kernel_rfl, by kernel_rfl, by kernel_rfl, by kernel_rfl, by kernel_rfl, by kernel_rfl, by kernel_rfl, by kernel_rfl, by kernel_rfl, by kernel_rfl, by kernel_rfl, by kernel_rfl, by kernel_rfl, by kernel_rfl⟩
noncomputable def z0m_b1 (X : Tree → Tree → Option Bool) (n : Nat) : { B : (Int → Tree → Tree → Option Bool) → Int → Tree → Tree → Option Bool // ∀ m X0, (∀ (v0 : Int) (o0 : Tree) (o1 : Tree), run (z0m_m X n) [.lq m [0, 1, 0, 1, 1], .blk 0, .cut [1, 1, 1], .at [1, 1, 1]] ⟨[.any, .any, .ptr 0 0, .ptr 1 0, .any, .int .i64 v0, .any, .any, .any, .any, .any, .any, .any, .any, .any, .any, .any, .any, .any, .any, .any, .any, .any, .any, .any, .any, .any, .any, .any, .any, .any, .any, .any, .any, .any, .any, .any, .any, .any, .any, .any, .any, .any, .any, .any, .any, .any, .any, .any, .any, .any, .any, .any, .any, .any, .any, .any, .any, .any, .any, .any, .any, .any, .any, .any, .any, .any, .any, .any, .any, .any, .any, .any, .any], [.cells (Tree.cells o0), .cells (Tree.cells o1)], 0⟩ = X0 v0 o0 o1) → ∀ (v0 : Int) (o0 : Tree) (o1 : Tree), run (z0m_m X n) [.at [0, 0, 1, 0, 1, 1], .lp m [0, 1, 0, 1, 1], .blk 0, .cut [1, 1, 1], .at [1, 1, 1]] ⟨[.any, .any, .ptr 0 0, .ptr 1 0, .any, .int .i64 v0, .any, .any, .any, .any, .any, .any, .any, .any, .any, .any, .any, .any, .any, .any, .any, .any, .any, .any, .any, .any, .any, .any, .any, .any, .any, .any, .any, .any, .any, .any, .any, .any, .any, .any, .any, .any, .any, .any, .any, .any, .any, .any, .any, .any, .any, .any, .any, .any, .any, .any, .any, .any, .any, .any, .any, .any, .any, .any, .any, .any, .any, .any, .any, .any, .any, .any, .any, .any], [.cells (Tree.cells o0), .cells (Tree.cells o1)], 0⟩ = B X0 v0 o0 o1 } := by
  apply Subtype.mk
  intro m X0 ih v0 o0 o1
  simp (maxSteps := 100000000) only [go_sem, Nat.reduceAdd, Nat.reduceSub, Nat.reduceLeDiff, Nat.reduceEqDiff, Nat.reduceBEq, Nat.reduceMul, Nat.reduceLT, Int.reduceLE, Int.reduceLT, Int.reduceToNat, Int.reduceBEq, Int.reduceEq, z0m_f, z0m_c, Try.f77, Option.getD_some, mixed, z0m_d, z0m_o, z0m_n1, ih]
  exact rfl
noncomputable def z0m_l1 (X : Tree → Tree → Option Bool) (n : Nat) : Nat → Int → Tree → Tree → Option Bool
  | 0, _, _, _ => none
  | m + 1, v0, o0, o1 => (z0m_b1 X n).1 (z0m_l1 X n m) v0 o0 o1
theorem z0m_l1_eq (X : Tree → Tree → Option Bool) (n : Nat) : ∀ (m : Nat), (∀ (v0 : Int) (o0 : Tree) (o1 : Tree), run (z0m_m X n) [.lq m [0, 1, 0, 1, 1], .blk 0, .cut [1, 1, 1], .at [1, 1, 1]] ⟨[.any, .any, .ptr 0 0, .ptr 1 0, .any, .int .i64 v0, .any, .any, .any, .any, .any, .any, .any, .any, .any, .any, .any, .any, .any, .any, .any, .any, .any, .any, .any, .any, .any, .any, .any, .any, .any, .any, .any, .any, .any, .any, .any, .any, .any, .any, .any, .any, .any, .any, .any, .any, .any, .any, .any, .any, .any, .any, .any, .any, .any, .any, .any, .any, .any, .any, .any, .any, .any, .any, .any, .any, .any, .any, .any, .any, .any, .any, .any, .any], [.cells (Tree.cells o0), .cells (Tree.cells o1)], 0⟩ = z0m_l1 X n m v0 o0 o1)
  | 0 => by intros; exact run_lq_zero
  | m + 1 => by
    have ih := z0m_l1_eq X n m
    intro v0 o0 o1
    rw [run_lq_succ]
    exact (z0m_b1 X n).2  m _  ih v0 o0 o1
noncomputable def z0m_e (X : Tree → Tree → Option Bool) (n : Nat) : { B : Tree → Tree → Option Bool // ∀ (a0 : Tree) (a1 : Tree), run (z0m_m X n) [.at []] { slots := [(tyC Tree.cel).enc a0, (tyC Tree.cel).enc a1] ++ List.replicate (74 - [(tyC Tree.cel).enc a0, (tyC Tree.cel).enc a1].length) .any, heap := [] } = B a0 a1 } := by
  apply Subtype.mk
  intro a0 a1
  simp (maxSteps := 100000000) only [go_sem, Nat.reduceAdd, Nat.reduceSub, Nat.reduceLeDiff, Nat.reduceEqDiff, Nat.reduceBEq, Nat.reduceMul, Nat.reduceLT, Int.reduceLE, Int.reduceLT, Int.reduceToNat, Int.reduceBEq, Int.reduceEq, z0m_f, z0m_c, Try.f77, Option.getD_some, mixed, z0m_d, z0m_o, z0m_n1, z0m_l1_eq X n]
  exact rfl
noncomputable def z0m : Nat → Tree → Tree → Option Bool
  | 0, _, _ => none
  | n + 1, a0, a1 => (z0m_e (z0m n) n).1 a0 a1
theorem z0m_ok : ∀ (n : Nat) (a0 : Tree) (a1 : Tree) (r : Bool), z0m n a0 a1 = some r → FnC Try.prog 77 [(tyC Tree.cel).enc a0, (tyC Tree.cel).enc a1] (fun v => v = tyB.enc r)
  | 0, _, _, _, h => by cases h
  | n + 1, a0, a1, r, h => by
    have ih_ref07_SameTree := z0m_ok n
    exact fnC_run (M := z0m_m (z0m n) n) ⟨(tabA_cons_ok (ent2_ok (z1p_ok n)) (tabA_cons_ok (ent2_ok (ih_ref07_SameTree)) tabA_nil_ok)), tabD_nil_ok, tabN_ok _, tabF_ok _, noY_ok, noE_ok⟩ Try.func77 rfl rfl ⟨(tyC Tree.cel).nb 0 _, (tyC Tree.cel).nb 0 _, trivial⟩ Try.ntmps77 Try.results77 (fun σ hs => outR_ok (P := Try.prog) (rs := [.tmp 4]) (t := tyB) (σ := σ) (r := r) hs) (((z0m_e (z0m n) n).2 a0 a1).trans h)

noncomputable def z20_m (X_term_Same : Term → Term → Option Bool) (X_slices_EqualFunc_Term_term_Same : (List Term) → (List Term) → Unit → Option Bool) (n : Nat) : Mach Bool where
  body := (Try.f26.body).getD .skip
  P := Try.prog
  cl := tabA [(63, ent3 (tyL Level.row) (tyL Level.row) (tyF 64) tyB (z01 n)), (65, ent3 (tyL Term.row) (tyL Term.row) (tyF 26) tyB X_slices_EqualFunc_Term_term_Same)]
  cd := tabD []
  nrm := tabN []
  cut := tabF []
  n := n
  out := outR Try.prog [.tmp 4] tyB
theorem z20_f (X_term_Same : Term → Term → Option Bool) (X_slices_EqualFunc_Term_term_Same : (List Term) → (List Term) → Unit → Option Bool) (n : Nat) : (z20_m X_term_Same X_slices_EqualFunc_Term_term_Same n).P = Try.prog ∧ (z20_m X_term_Same X_slices_EqualFunc_Term_term_Same n).cl = tabA [(63, ent3 (tyL Level.row) (tyL Level.row) (tyF 64) tyB (z01 n)), (65, ent3 (tyL Term.row) (tyL Term.row) (tyF 26) tyB X_slices_EqualFunc_Term_term_Same)] ∧ (z20_m X_term_Same X_slices_EqualFunc_Term_term_Same n).cd = tabD [] ∧ (z20_m X_term_Same X_slices_EqualFunc_Term_term_Same n).nrm = tabN [] ∧ (z20_m X_term_Same X_slices_EqualFunc_Term_term_Same n).cut = tabF [] ∧ (z20_m X_term_Same X_slices_EqualFunc_Term_term_Same n).n = n ∧ (z20_m X_term_Same X_slices_EqualFunc_Term_term_Same n).out = outR Try.prog [.tmp 4] tyB := ⟨rfl, rfl, rfl, rfl, rfl, rfl, rfl⟩
theorem z20_c (X_term_Same : Term → Term → Option Bool) (X_slices_EqualFunc_Term_term_Same : (List Term) → (List Term) → Unit → Option Bool) (n : Nat) : (z20_m X_term_Same X_slices_EqualFunc_Term_term_Same n).body = (Try.f26.body).getD .skip := rfl
noncomputable def z20_e (X_term_Same : Term → Term → Option Bool) (X_slices_EqualFunc_Term_term_Same : (List Term) → (List Term) → Unit → Option Bool) (n : Nat) : { B : Term → Term → Option Bool // ∀ (a0 : Term) (a1 : Term), run (z20_m X_term_Same X_slices_EqualFunc_Term_term_Same n) [.at []] { slots := [(tyC Term.cel).enc a0, (tyC Term.cel).enc a1] ++ List.replicate (38 - [(tyC Term.cel).enc a0, (tyC Term.cel).enc a1].length) .any, heap := [] } = B a0 a1 } := by
  apply Subtype.mk
  intro a0 a1
  simp (maxSteps := 100000000) only [go_sem, Nat.reduceAdd, Nat.reduceSub, Nat.reduceLeDiff, Nat.reduceEqDiff, Nat.reduceBEq, Nat.reduceMul, Nat.reduceLT, Int.reduceLE, Int.reduceLT, Int.reduceToNat, Int.reduceBEq, Int.reduceEq, z20_f, z20_c, Try.f26, Option.getD_some, mixed]
  exact rfl
noncomputable def z02_n1 : Nrm := ⟨[], [], [zA, zT (tyL Term.row), zT (tyF 26), zA, zA, zA, zA, zA, zA, zA, zA, zA, zA, zA, zA, zT (tyL Term.row), zK, zK, zA, zA, zA, zA, zA, zA, zA, zA, zA, zA, zA, zA, zA, zA], [], none⟩
noncomputable def z02_m (X_term_Same : Term → Term → Option Bool) (X_slices_EqualFunc_Term_term_Same : (List Term) → (List Term) → Unit → Option Bool) (n : Nat) : Mach Bool where
  body := (Try.f65.body).getD .skip
  P := Try.prog
  cl := tabA [(26, ent2 (tyC Term.cel) (tyC Term.cel) tyB X_term_Same)]
  cd := tabD []
  nrm := tabN [([0, 1, 0, 1, 1], z02_n1)]
  cut := tabF []
  n := n
  out := outR Try.prog [.tmp 6] tyB
theorem z02_f (X_term_Same : Term → Term → Option Bool) (X_slices_EqualFunc_Term_term_Same : (List Term) → (List Term) → Unit → Option Bool) (n : Nat) : (z02_m X_term_Same X_slices_EqualFunc_Term_term_Same n).P = Try.prog ∧ (z02_m X_term_Same X_slices_EqualFunc_Term_term_Same n).cl = tabA [(26, ent2 (tyC Term.cel) (tyC Term.cel) tyB X_term_Same)] ∧ (z02_m X_term_Same X_slices_EqualFunc_Term_term_Same n).cd = tabD [] ∧ (z02_m X_term_Same X_slices_EqualFunc_Term_term_Same n).nrm = tabN [([0, 1, 0, 1, 1], z02_n1)] ∧ (z02_m X_term_Same X_slices_EqualFunc_Term_term_Same n).cut = tabF [] ∧ (z02_m X_term_Same X_slices_EqualFunc_Term_term_Same n).n = n ∧ (z02_m X_term_Same X_slices_EqualFunc_Term_term_Same n).out = outR Try.prog [.tmp 6] tyB := ⟨rfl, rfl, rfl, rfl, rfl, rfl, rfl⟩
theorem z02_c (X_term_Same : Term → Term → Option Bool) (X_slices_EqualFunc_Term_term_Same : (List Term) → (List Term) → Unit → Option Bool) (n : Nat) : (z02_m X_term_Same X_slices_EqualFunc_Term_term_Same n).body = (Try.f65.body).getD .skip := rfl
noncomputable def z02_b1 (X_term_Same : Term → Term → Option Bool) (X_slices_EqualFunc_Term_term_Same : (List Term) → (List Term) → Unit → Option Bool) (n : Nat) : { B : ((List Term) → (List Term) → Int → Int → Option Bool) → (List Term) → (List Term) → Int → Int → Option Bool // ∀ m X0, (∀ (v0 : List Term) (v1 : List Term) (v2 : Int) (v3 : Int), run (z02_m X_term_Same X_slices_EqualFunc_Term_term_Same n) [.lq m [0, 1, 0, 1, 1], .blk 0, .cut [1, 1, 1], .at [1, 1, 1]] ⟨[.any, .lst false 5 (mp Term.cells v0), .func (.func 26) [] [], .any, .any, .any, .any, .any, .any, .any, .any, .any, .any, .any, .any, .lst false 5 (mp Term.cells v1), .int .i64 v2, .int .i64 v3, .any, .any, .any, .any, .any, .any, .any, .any, .any, .any, .any, .any, .any, .any], [], 0⟩ = X0 v0 v1 v2 v3) → ∀ (v0 : List Term) (v1 : List Term) (v2 : Int) (v3 : Int), run (z02_m X_term_Same X_slices_EqualFunc_Term_term_Same n) [.at [0, 0, 1, 0, 1, 1], .lp m [0, 1, 0, 1, 1], .blk 0, .cut [1, 1, 1], .at [1, 1, 1]] ⟨[.any, .lst false 5 (mp Term.cells v0), .func (.func 26) [] [], .any, .any, .any, .any, .any, .any, .any, .any, .any, .any, .any, .any, .lst false 5 (mp Term.cells v1), .int .i64 v2, .int .i64 v3, .any, .any, .any, .any, .any, .any, .any, .any, .any, .any, .any, .any, .any, .any], [], 0⟩ = B X0 v0 v1 v2 v3 } := by
  apply Subtype.mk
  intro m X0 ih v0 v1 v2 v3
  simp (maxSteps := 100000000) only [go_sem, Nat.reduceAdd, Nat.reduceSub, Nat.reduceLeDiff, Nat.reduceEqDiff, Nat.reduceBEq, Nat.reduceMul, Nat.reduceLT, Int.reduceLE, Int.reduceLT, Int.reduceToNat, Int.reduceBEq, Int.reduceEq, z02_f, z02_c, Try.f65, Option.getD_some, mixed, z02_n1, ih]
  exact rfl
noncomputable def z02_l1 (X_term_Same : Term → Term → Option Bool) (X_slices_EqualFunc_Term_term_Same : (List Term) → (List Term) → Unit → Option Bool) (n : Nat) : Nat → (List Term) → (List Term) → Int → Int → Option Bool
  | 0, _, _, _, _ => none
  | m + 1, v0, v1, v2, v3 => (z02_b1 X_term_Same X_slices_EqualFunc_Term_term_Same n).1 (z02_l1 X_term_Same X_slices_EqualFunc_Term_term_Same n m) v0 v1 v2 v3
theorem z02_l1_eq (X_term_Same : Term → Term → Option Bool) (X_slices_EqualFunc_Term_term_Same : (List Term) → (List Term) → Unit → Option Bool) (n : Nat) : ∀ (m : Nat), (∀ (v0 : List Term) (v1 : List Term) (v2 : Int) (v3 : Int), run (z02_m X_term_Same X_slices_EqualFunc_Term_term_Same n) [.lq m [0, 1, 0, 1, 1], .blk 0, .cut [1, 1, 1], .at [1, 1, 1]] ⟨[.any, .lst false 5 (mp Term.cells v0), .func (.func 26) [] [], .any, .any, .any, .any, .any, .any, .any, .any, .any, .any, .any, .any, .lst false 5 (mp Term.cells v1), .int .i64 v2, .int .i64 v3, .any, .any, .any, .any, .any, .any, .any, .any, .any, .any, .any, .any, .any, .any], [], 0⟩ = z02_l1 X_term_Same X_slices_EqualFunc_Term_term_Same n m v0 v1 v2 v3)
  | 0 => by intros; exact run_lq_zero
  | m + 1 => by
    have ih := z02_l1_eq X_term_Same X_slices_EqualFunc_Term_term_Same n m
    intro v0 v1 v2 v3
    rw [run_lq_succ]
    exact (z02_b1 X_term_Same X_slices_EqualFunc_Term_term_Same n).2  m _  ih v0 v1 v2 v3
noncomputable def z02_e (X_term_Same : Term → Term → Option Bool) (X_slices_EqualFunc_Term_term_Same : (List Term) → (List Term) → Unit → Option Bool) (n : Nat) : { B : (List Term) → (List Term) → Unit → Option Bool // ∀ (a0 : (List Term)) (a1 : (List Term)) (a2 : Unit), run (z02_m X_term_Same X_slices_EqualFunc_Term_term_Same n) [.at []] { slots := [(tyL Term.row).enc a0, (tyL Term.row).enc a1, (tyF 26).enc a2] ++ List.replicate (32 - [(tyL Term.row).enc a0, (tyL Term.row).enc a1, (tyF 26).enc a2].length) .any, heap := [] } = B a0 a1 a2 } := by
  apply Subtype.mk
  intro a0 a1 a2
  simp (maxSteps := 100000000) only [go_sem, Nat.reduceAdd, Nat.reduceSub, Nat.reduceLeDiff, Nat.reduceEqDiff, Nat.reduceBEq, Nat.reduceMul, Nat.reduceLT, Int.reduceLE, Int.reduceLT, Int.reduceToNat, Int.reduceBEq, Int.reduceEq, z02_f, z02_c, Try.f65, Option.getD_some, mixed, z02_n1, z02_l1_eq X_term_Same X_slices_EqualFunc_Term_term_Same n]
  exact rfl
mutual
noncomputable def z20 : Nat → Term → Term → Option Bool
  | 0, _, _ => none
  | n + 1, a0, a1 => (z20_e (z20 n) (z02 n) n).1 a0 a1
noncomputable def z02 : Nat → (List Term) → (List Term) → Unit → Option Bool
  | 0, _, _, _ => none
  | n + 1, a0, a1, a2 => (z02_e (z20 n) (z02 n) n).1 a0 a1 a2
end
mutual
theorem z20_ok : ∀ (n : Nat) (a0 : Term) (a1 : Term) (r : Bool), z20 n a0 a1 = some r → FnC Try.prog 26 [(tyC Term.cel).enc a0, (tyC Term.cel).enc a1] (fun v => v = tyB.enc r)
  | 0, _, _, _, h => by simp only [z20] at h; cases h
  | n + 1, a0, a1, r, h => by
    simp only [z20] at h
    have ih_term_Same := z20_ok n
    have ih_slices_EqualFunc_Term_term_Same := z02_ok n
    exact fnC_run (M := z20_m (z20 n) (z02 n) n) ⟨(tabA_cons_ok (ent3_ok (z01_ok n)) (tabA_cons_ok (ent3_ok (ih_slices_EqualFunc_Term_term_Same)) tabA_nil_ok)), tabD_nil_ok, tabN_ok _, tabF_ok _, noY_ok, noE_ok⟩ Try.func26 rfl rfl ⟨(tyC Term.cel).nb 0 _, (tyC Term.cel).nb 0 _, trivial⟩ Try.ntmps26 Try.results26 (fun σ hs => outR_ok (P := Try.prog) (rs := [.tmp 4]) (t := tyB) (σ := σ) (r := r) hs) (((z20_e (z20 n) (z02 n) n).2 a0 a1).trans h)
theorem z02_ok : ∀ (n : Nat) (a0 : (List Term)) (a1 : (List Term)) (a2 : Unit) (r : Bool), z02 n a0 a1 a2 = some r → FnC Try.prog 65 [(tyL Term.row).enc a0, (tyL Term.row).enc a1, (tyF 26).enc a2] (fun v => v = tyB.enc r)
  | 0, _, _, _, _, h => by simp only [z02] at h; cases h
  | n + 1, a0, a1, a2, r, h => by
    simp only [z02] at h
    have ih_term_Same := z20_ok n
    have ih_slices_EqualFunc_Term_term_Same := z02_ok n
    exact fnC_run (M := z02_m (z20 n) (z02 n) n) ⟨(tabA_cons_ok (ent2_ok (ih_term_Same)) tabA_nil_ok), tabD_nil_ok, tabN_ok _, tabF_ok _, noY_ok, noE_ok⟩ Try.func65 rfl rfl ⟨(tyL Term.row).nb 0 _, (tyL Term.row).nb 0 _, (tyF 26).nb 0 _, trivial⟩ Try.ntmps65 Try.results65 (fun σ hs => outR_ok (P := Try.prog) (rs := [.tmp 6]) (t := tyB) (σ := σ) (r := r) hs) (((z02_e (z20 n) (z02 n) n).2 a0 a1 a2).trans h)
end

noncomputable def z0j_m (n : Nat) : Mach (Decl × (List Level) × (List Term) × (List Term) × Bool) where
  body := (Try.f30.body).getD .skip
  P := Try.prog
  cl := tabA [(49, ent1 (tyC Term.cel) (ty2 (tyL Term.row) (tyC Term.cel)) (z0w n)), (72, ent1 (tyC Term.cel) (ty2 (tyC Term.cel) (tyL Term.row)) (z0h n)), (73, ent2 (tyL Decl.row) tyS (ty2 (tyC Entry.cel) (tyI .i64)) (z0n n))]
  cd := tabD []
  nrm := tabN []
  cut := tabF []
  n := n
  out := outR Try.prog [.cell 4 31, .tmp 5, .tmp 6, .tmp 7, .tmp 8] (ty5 (tyC Decl.cel) (tyL Level.row) (tyL Term.row) (tyL Term.row) tyB)
  isE := tabI []
theorem z0j_f (n : Nat) : (z0j_m n).P = Try.prog ∧ (z0j_m n).cl = tabA [(49, ent1 (tyC Term.cel) (ty2 (tyL Term.row) (tyC Term.cel)) (z0w n)), (72, ent1 (tyC Term.cel) (ty2 (tyC Term.cel) (tyL Term.row)) (z0h n)), (73, ent2 (tyL Decl.row) tyS (ty2 (tyC Entry.cel) (tyI .i64)) (z0n n))] ∧ (z0j_m n).cd = tabD [] ∧ (z0j_m n).nrm = tabN [] ∧ (z0j_m n).cut = tabF [] ∧ (z0j_m n).n = n ∧ (z0j_m n).out = outR Try.prog [.cell 4 31, .tmp 5, .tmp 6, .tmp 7, .tmp 8] (ty5 (tyC Decl.cel) (tyL Level.row) (tyL Term.row) (tyL Term.row) tyB) ∧ (z0j_m n).isE = tabI [] := ⟨rfl, rfl, rfl, rfl, rfl, rfl, rfl, rfl⟩
theorem z0j_c (n : Nat) : (z0j_m n).body = (Try.f30.body).getD .skip := rfl
theorem z0j_d (n : Nat) : drawP (z0j_m n) [0, 1, 1, 1, 1, 1, 1, 1, 1] = true := by kernel_rfl
theorem z0j_o (n : Nat) : ordP (z0j_m n) [0, 1, 1, 1, 1, 1, 1, 1, 1] 0 11 = true := by kernel_rfl
noncomputable def z0j_e (n : Nat) : { B : (List Decl) → Term → Option (Decl × (List Level) × (List Term) × (List Term) × Bool) // ∀ (a0 : (List Decl)) (a1 : Term), run (z0j_m n) [.at []] { slots := [(tyL Decl.row).enc a0, (tyC Term.cel).enc a1] ++ List.replicate (75 - [(tyL Decl.row).enc a0, (tyC Term.cel).enc a1].length) .any, heap := [] } = B a0 a1 } := by
  apply Subtype.mk
  intro a0 a1
  simp (maxSteps := 100000000) only [go_sem, Nat.reduceAdd, Nat.reduceSub, Nat.reduceLeDiff, Nat.reduceEqDiff, Nat.reduceBEq, Nat.reduceMul, Nat.reduceLT, Int.reduceLE, Int.reduceLT, Int.reduceToNat, Int.reduceBEq, Int.reduceEq, z0j_f, z0j_c, Try.f30, Option.getD_some, mixed, z0j_d, z0j_o]
  exact rfl
noncomputable def z0j : Nat → (List Decl) → Term → Option (Decl × (List Level) × (List Term) × (List Term) × Bool)
  | 0, _, _ => none
  | n + 1, a0, a1 => (z0j_e n).1 a0 a1
theorem z0j_ok : ∀ (n : Nat) (a0 : (List Decl)) (a1 : Term) (r : (Decl × (List Level) × (List Term) × (List Term) × Bool)), z0j n a0 a1 = some r → FnC Try.prog 30 [(tyL Decl.row).enc a0, (tyC Term.cel).enc a1] (fun v => v = (ty5 (tyC Decl.cel) (tyL Level.row) (tyL Term.row) (tyL Term.row) tyB).enc r)
  | 0, _, _, _, h => by cases h
  | n + 1, a0, a1, r, h => by
    exact fnC_run (M := z0j_m n) ⟨(tabA_cons_ok (ent1_ok (z0w_ok n)) (tabA_cons_ok (ent1_ok (z0h_ok n)) (tabA_cons_ok (ent2_ok (z0n_ok n)) tabA_nil_ok))), tabD_nil_ok, tabN_ok _, tabF_ok _, noY_ok, noE_ok⟩ Try.func30 rfl rfl ⟨(tyL Decl.row).nb 0 _, (tyC Term.cel).nb 0 _, trivial⟩ Try.ntmps30 Try.results30 (fun σ hs => outR_ok (P := Try.prog) (rs := [.cell 4 31, .tmp 5, .tmp 6, .tmp 7, .tmp 8]) (t := (ty5 (tyC Decl.cel) (tyL Level.row) (tyL Term.row) (tyL Term.row) tyB)) (σ := σ) (r := r) hs) (((z0j_e n).2 a0 a1).trans h)
end Go.Abs
namespace Go.Abs
open Go.Proofs
set_option maxRecDepth 100000
set_option maxHeartbeats 4000000
set_option linter.unusedSimpArgs false
set_option linter.unusedVariables false
noncomputable def z0v_m (n : Nat) : Mach (Decl × (List Level) × (List Term) × (List Term) × Bool) where
  body := (Try.f31.body).getD .skip
  P := Try.prog
  cl := tabA [(21, ent1 (tyC Term.cel) (ty2 (tyL Term.row) (tyC Term.cel)) (z1y n)), (74, entG [] osN (asT (tyC Term.cel) asN) (osC (oaT true Term.row) osN) (rsT (tyC Term.cel) (rsA 0 (fun (b : ((List Term) × Unit)) => b.1.length) rsN)) (fun (b : Unit) a => (z0s n) a.1)), (75, ent2 (tyL Decl.row) tyS (ty3 (tyC Decl.cel) (tyI .i64) tyB) (z0y n))]
  cd := tabD []
  nrm := tabN []
  cut := tabF []
  n := n
  out := outR Try.prog [.cell 4 31, .tmp 5, .tmp 6, .tmp 7, .tmp 8] (ty5 (tyC Decl.cel) (tyL Level.row) (tyL Term.row) (tyL Term.row) tyB)
  isE := tabI []
theorem z0v_f (n : Nat) : (z0v_m n).P = Try.prog ∧ (z0v_m n).cl = tabA [(21, ent1 (tyC Term.cel) (ty2 (tyL Term.row) (tyC Term.cel)) (z1y n)), (74, entG [] osN (asT (tyC Term.cel) asN) (osC (oaT true Term.row) osN) (rsT (tyC Term.cel) (rsA 0 (fun (b : ((List Term) × Unit)) => b.1.length) rsN)) (fun (b : Unit) a => (z0s n) a.1)), (75, ent2 (tyL Decl.row) tyS (ty3 (tyC Decl.cel) (tyI .i64) tyB) (z0y n))] ∧ (z0v_m n).cd = tabD [] ∧ (z0v_m n).nrm = tabN [] ∧ (z0v_m n).cut = tabF [] ∧ (z0v_m n).n = n ∧ (z0v_m n).out = outR Try.prog [.cell 4 31, .tmp 5, .tmp 6, .tmp 7, .tmp 8] (ty5 (tyC Decl.cel) (tyL Level.row) (tyL Term.row) (tyL Term.row) tyB) ∧ (z0v_m n).isE = tabI [] := ⟨rfl, rfl, rfl, rfl, rfl, rfl, rfl, rfl⟩
theorem z0v_c (n : Nat) : (z0v_m n).body = (Try.f31.body).getD .skip := rfl
theorem z0v_d (n : Nat) : drawP (z0v_m n) [0, 1, 1, 1, 1, 1, 1] = true := by kernel_rfl
theorem z0v_o (n : Nat) : ordP (z0v_m n) [0, 1, 1, 1, 1, 1, 1] 0 11 = true := by kernel_rfl
noncomputable def z0v_e (n : Nat) : { B : (List Decl) → Term → Option (Decl × (List Level) × (List Term) × (List Term) × Bool) // ∀ (a0 : (List Decl)) (a1 : Term), run (z0v_m n) [.at []] { slots := [(tyL Decl.row).enc a0, (tyC Term.cel).enc a1] ++ List.replicate (71 - [(tyL Decl.row).enc a0, (tyC Term.cel).enc a1].length) .any, heap := [] } = B a0 a1 } := by
  apply Subtype.mk
  intro a0 a1
  simp (maxSteps := 100000000) only [go_sem, Nat.reduceAdd, Nat.reduceSub, Nat.reduceLeDiff, Nat.reduceEqDiff, Nat.reduceBEq, Nat.reduceMul, Nat.reduceLT, Int.reduceLE, Int.reduceLT, Int.reduceToNat, Int.reduceBEq, Int.reduceEq, z0v_f, z0v_c, Try.f31, Option.getD_some, mixed, z0v_d, z0v_o]
  exact rfl
noncomputable def z0v : Nat → (List Decl) → Term → Option (Decl × (List Level) × (List Term) × (List Term) × Bool)
  | 0, _, _ => none
  | n + 1, a0, a1 => (z0v_e n).1 a0 a1
theorem z0v_ok : ∀ (n : Nat) (a0 : (List Decl)) (a1 : Term) (r : (Decl × (List Level) × (List Term) × (List Term) × Bool)), z0v n a0 a1 = some r → FnC Try.prog 31 [(tyL Decl.row).enc a0, (tyC Term.cel).enc a1] (fun v => v = (ty5 (tyC Decl.cel) (tyL Level.row) (tyL Term.row) (tyL Term.row) tyB).enc r)
  | 0, _, _, _, h => by cases h
  | n + 1, a0, a1, r, h => by
    exact fnC_run (M := z0v_m n) ⟨(tabA_cons_ok (ent1_ok (z1y_ok n)) (tabA_cons_ok (entG_ok (fun b a r h => (z0s_ok n) a.1 r h)) (tabA_cons_ok (ent2_ok (z0y_ok n)) tabA_nil_ok))), tabD_nil_ok, tabN_ok _, tabF_ok _, noY_ok, noE_ok⟩ Try.func31 rfl rfl ⟨(tyL Decl.row).nb 0 _, (tyC Term.cel).nb 0 _, trivial⟩ Try.ntmps31 Try.results31 (fun σ hs => outR_ok (P := Try.prog) (rs := [.cell 4 31, .tmp 5, .tmp 6, .tmp 7, .tmp 8]) (t := (ty5 (tyC Decl.cel) (tyL Level.row) (tyL Term.row) (tyL Term.row) tyB)) (σ := σ) (r := r) hs) (((z0v_e n).2 a0 a1).trans h)

noncomputable def z0k_n1 : Nrm := ⟨[], [], [zT (tyL Term.row), zT (tyL Term.row), zA, zA, zA, zK, zA, zA, zA, zA, zA, zA, zA, zA, zA, zA, zA, zA, zA, zA, zA, zA, zA, zA, zA, zA, zA], [], none⟩
noncomputable def z0k_m (n : Nat) : Mach Bool where
  body := (Try.f34.body).getD .skip
  P := Try.prog
  cl := tabA []
  cd := tabD [(23, entD (ent2 (tyC Term.cel) (tyC Term.cel) tyB (z1p n)))]
  nrm := tabN [([0, 1, 0, 1, 1], z0k_n1)]
  cut := tabF []
  n := n
  out := outR Try.prog [.tmp 4] tyB
  isE := tabI []
theorem z0k_f (n : Nat) : (z0k_m n).P = Try.prog ∧ (z0k_m n).cl = tabA [] ∧ (z0k_m n).cd = tabD [(23, entD (ent2 (tyC Term.cel) (tyC Term.cel) tyB (z1p n)))] ∧ (z0k_m n).nrm = tabN [([0, 1, 0, 1, 1], z0k_n1)] ∧ (z0k_m n).cut = tabF [] ∧ (z0k_m n).n = n ∧ (z0k_m n).out = outR Try.prog [.tmp 4] tyB ∧ (z0k_m n).isE = tabI [] := ⟨rfl, rfl, rfl, rfl, rfl, rfl, rfl, rfl⟩
theorem z0k_c (n : Nat) : (z0k_m n).body = (Try.f34.body).getD .skip := rfl
theorem z0k_d (n : Nat) : drawP (z0k_m n) [0, 0, 0, 1, 0, 0, 1, 0, 1, 1] = true := by kernel_rfl
noncomputable def z0k_b1 (n : Nat) : { B : ((List Term) → (List Term) → Int → Option Bool) → (List Term) → (List Term) → Int → Option Bool // ∀ m X0, (∀ (v0 : List Term) (v1 : List Term) (v2 : Int), run (z0k_m n) [.lq m [0, 1, 0, 1, 1], .blk 0, .cut [1, 1, 1], .at [1, 1, 1]] ⟨[.lst false 5 (mp Term.cells v0), .lst false 5 (mp Term.cells v1), .any, .any, .any, .int .i64 v2, .any, .any, .any, .any, .any, .any, .any, .any, .any, .any, .any, .any, .any, .any, .any, .any, .any, .any, .any, .any, .any], [], 0⟩ = X0 v0 v1 v2) → ∀ (v0 : List Term) (v1 : List Term) (v2 : Int), run (z0k_m n) [.at [0, 0, 1, 0, 1, 1], .lp m [0, 1, 0, 1, 1], .blk 0, .cut [1, 1, 1], .at [1, 1, 1]] ⟨[.lst false 5 (mp Term.cells v0), .lst false 5 (mp Term.cells v1), .any, .any, .any, .int .i64 v2, .any, .any, .any, .any, .any, .any, .any, .any, .any, .any, .any, .any, .any, .any, .any, .any, .any, .any, .any, .any, .any], [], 0⟩ = B X0 v0 v1 v2 } := by
  apply Subtype.mk
  intro m X0 ih v0 v1 v2
  simp (maxSteps := 100000000) only [go_sem, Nat.reduceAdd, Nat.reduceSub, Nat.reduceLeDiff, Nat.reduceEqDiff, Nat.reduceBEq, Nat.reduceMul, Nat.reduceLT, Int.reduceLE, Int.reduceLT, Int.reduceToNat, Int.reduceBEq, Int.reduceEq, z0k_f, z0k_c, Try.f34, Option.getD_some, mixed, z0k_d, z0k_n1, ih]
  exact rfl
noncomputable def z0k_l1 (n : Nat) : Nat → (List Term) → (List Term) → Int → Option Bool
  | 0, _, _, _ => none
  | m + 1, v0, v1, v2 => (z0k_b1 n).1 (z0k_l1 n m) v0 v1 v2
theorem z0k_l1_eq (n : Nat) : ∀ (m : Nat), (∀ (v0 : List Term) (v1 : List Term) (v2 : Int), run (z0k_m n) [.lq m [0, 1, 0, 1, 1], .blk 0, .cut [1, 1, 1], .at [1, 1, 1]] ⟨[.lst false 5 (mp Term.cells v0), .lst false 5 (mp Term.cells v1), .any, .any, .any, .int .i64 v2, .any, .any, .any, .any, .any, .any, .any, .any, .any, .any, .any, .any, .any, .any, .any, .any, .any, .any, .any, .any, .any], [], 0⟩ = z0k_l1 n m v0 v1 v2)
  | 0 => by intros; exact run_lq_zero
  | m + 1 => by
    have ih := z0k_l1_eq n m
    intro v0 v1 v2
    rw [run_lq_succ]
    exact (z0k_b1 n).2  m _  ih v0 v1 v2
noncomputable def z0k_e (n : Nat) : { B : (List Term) → (List Term) → Option Bool // ∀ (a0 : (List Term)) (a1 : (List Term)), run (z0k_m n) [.at []] { slots := [(tyL Term.row).enc a0, (tyL Term.row).enc a1] ++ List.replicate (27 - [(tyL Term.row).enc a0, (tyL Term.row).enc a1].length) .any, heap := [] } = B a0 a1 } := by
  apply Subtype.mk
  intro a0 a1
  simp (maxSteps := 100000000) only [go_sem, Nat.reduceAdd, Nat.reduceSub, Nat.reduceLeDiff, Nat.reduceEqDiff, Nat.reduceBEq, Nat.reduceMul, Nat.reduceLT, Int.reduceLE, Int.reduceLT, Int.reduceToNat, Int.reduceBEq, Int.reduceEq, z0k_f, z0k_c, Try.f34, Option.getD_some, mixed, z0k_d, z0k_n1, z0k_l1_eq n]
  exact rfl
noncomputable def z0k : Nat → (List Term) → (List Term) → Option Bool
  | 0, _, _ => none
  | n + 1, a0, a1 => (z0k_e n).1 a0 a1
theorem z0k_ok : ∀ (n : Nat) (a0 : (List Term)) (a1 : (List Term)) (r : Bool), z0k n a0 a1 = some r → FnC Try.prog 34 [(tyL Term.row).enc a0, (tyL Term.row).enc a1] (fun v => v = tyB.enc r)
  | 0, _, _, _, h => by cases h
  | n + 1, a0, a1, r, h => by
    exact fnC_run (M := z0k_m n) ⟨tabA_nil_ok, (tabD_cons_ok (ent2_okD (z1p_ok n)) tabD_nil_ok), tabN_ok _, tabF_ok _, noY_ok, noE_ok⟩ Try.func34 rfl rfl ⟨(tyL Term.row).nb 0 _, (tyL Term.row).nb 0 _, trivial⟩ Try.ntmps34 Try.results34 (fun σ hs => outR_ok (P := Try.prog) (rs := [.tmp 4]) (t := tyB) (σ := σ) (r := r) hs) (((z0k_e n).2 a0 a1).trans h)

noncomputable def z0c_m (n : Nat) : Mach Bool where
  body := (Try.f33.body).getD .skip
  P := Try.prog
  cl := tabA [(23, ent2 (tyC Term.cel) (tyC Term.cel) tyB (z1p n))]
  cd := tabD []
  nrm := tabN []
  cut := tabF []
  n := n
  out := outR Try.prog [.tmp 4] tyB
theorem z0c_f (n : Nat) : (z0c_m n).P = Try.prog ∧ (z0c_m n).cl = tabA [(23, ent2 (tyC Term.cel) (tyC Term.cel) tyB (z1p n))] ∧ (z0c_m n).cd = tabD [] ∧ (z0c_m n).nrm = tabN [] ∧ (z0c_m n).cut = tabF [] ∧ (z0c_m n).n = n ∧ (z0c_m n).out = outR Try.prog [.tmp 4] tyB := ⟨rfl, rfl, rfl, rfl, rfl, rfl, rfl⟩
theorem z0c_c (n : Nat) : (z0c_m n).body = (Try.f33.body).getD .skip := rfl
noncomputable def z0c_e (n : Nat) : { B : (List Level) → (List Level) → Option Bool // ∀ (a0 : (List Level)) (a1 : (List Level)), run (z0c_m n) [.at []] { slots := [(tyL Level.row).enc a0, (tyL Level.row).enc a1] ++ List.replicate (10 - [(tyL Level.row).enc a0, (tyL Level.row).enc a1].length) .any, heap := [] } = B a0 a1 } := by
  apply Subtype.mk
  intro a0 a1
  simp (maxSteps := 100000000) only [go_sem, Nat.reduceAdd, Nat.reduceSub, Nat.reduceLeDiff, Nat.reduceEqDiff, Nat.reduceBEq, Nat.reduceMul, Nat.reduceLT, Int.reduceLE, Int.reduceLT, Int.reduceToNat, Int.reduceBEq, Int.reduceEq, z0c_f, z0c_c, Try.f33, Option.getD_some, mixed]
  exact rfl
noncomputable def z0c : Nat → (List Level) → (List Level) → Option Bool
  | 0, _, _ => none
  | n + 1, a0, a1 => (z0c_e n).1 a0 a1
theorem z0c_ok : ∀ (n : Nat) (a0 : (List Level)) (a1 : (List Level)) (r : Bool), z0c n a0 a1 = some r → FnC Try.prog 33 [(tyL Level.row).enc a0, (tyL Level.row).enc a1] (fun v => v = tyB.enc r)
  | 0, _, _, _, h => by cases h
  | n + 1, a0, a1, r, h => by
    exact fnC_run (M := z0c_m n) ⟨(tabA_cons_ok (ent2_ok (z1p_ok n)) tabA_nil_ok), tabD_nil_ok, tabN_ok _, tabF_ok _, noY_ok, noE_ok⟩ Try.func33 rfl rfl ⟨(tyL Level.row).nb 0 _, (tyL Level.row).nb 0 _, trivial⟩ Try.ntmps33 Try.results33 (fun σ hs => outR_ok (P := Try.prog) (rs := [.tmp 4]) (t := tyB) (σ := σ) (r := r) hs) (((z0c_e n).2 a0 a1).trans h)
end Go.Abs
namespace Go.Abs
open Go.Proofs
set_option maxRecDepth 100000
set_option maxHeartbeats 4000000
set_option linter.unusedSimpArgs false
set_option linter.unusedVariables false
noncomputable def z1w_n1 : Nrm := ⟨[], [], [zT (tyL Decl.row), zA, zA, zK, zA, zA, zA, zA, zA, zA, zA, zA, zA, zA, zA, zA, zA, zA, zA, zA, zA, zA, zA], [], none⟩
noncomputable def z1w_m (n : Nat) : Mach Bool where
  body := (Try.f67.body).getD .skip
  P := Try.prog
  cl := tabA [(52, ent1 (tyC Decl.cel) tyB (z0r n))]
  cd := tabD []
  nrm := tabN [([0, 1, 0, 1], z1w_n1)]
  cut := tabF []
  n := n
  out := outR Try.prog [.tmp 2] tyB
theorem z1w_f (n : Nat) : (z1w_m n).P = Try.prog ∧ (z1w_m n).cl = tabA [(52, ent1 (tyC Decl.cel) tyB (z0r n))] ∧ (z1w_m n).cd = tabD [] ∧ (z1w_m n).nrm = tabN [([0, 1, 0, 1], z1w_n1)] ∧ (z1w_m n).cut = tabF [] ∧ (z1w_m n).n = n ∧ (z1w_m n).out = outR Try.prog [.tmp 2] tyB := ⟨rfl, rfl, rfl, rfl, rfl, rfl, rfl⟩
theorem z1w_c (n : Nat) : (z1w_m n).body = (Try.f67.body).getD .skip := rfl
noncomputable def z1w_b1 (n : Nat) : { B : ((List Decl) → Int → Option Bool) → (List Decl) → Int → Option Bool // ∀ m X0, (∀ (v0 : List Decl) (v1 : Int), run (z1w_m n) [.lq m [0, 1, 0, 1], .blk 0, .cut [1, 1], .at [1, 1]] ⟨[.lst false 23 (mp Decl.cells v0), .any, .any, .int .i64 v1, .any, .any, .any, .any, .any, .any, .any, .any, .any, .any, .any, .any, .any, .any, .any, .any, .any, .any, .any], [], 0⟩ = X0 v0 v1) → ∀ (v0 : List Decl) (v1 : Int), run (z1w_m n) [.at [0, 0, 1, 0, 1], .lp m [0, 1, 0, 1], .blk 0, .cut [1, 1], .at [1, 1]] ⟨[.lst false 23 (mp Decl.cells v0), .any, .any, .int .i64 v1, .any, .any, .any, .any, .any, .any, .any, .any, .any, .any, .any, .any, .any, .any, .any, .any, .any, .any, .any], [], 0⟩ = B X0 v0 v1 } := by
  apply Subtype.mk
  intro m X0 ih v0 v1
  simp (maxSteps := 100000000) only [go_sem, Nat.reduceAdd, Nat.reduceSub, Nat.reduceLeDiff, Nat.reduceEqDiff, Nat.reduceBEq, Nat.reduceMul, Nat.reduceLT, Int.reduceLE, Int.reduceLT, Int.reduceToNat, Int.reduceBEq, Int.reduceEq, z1w_f, z1w_c, Try.f67, Option.getD_some, mixed, z1w_n1, ih]
  exact rfl
noncomputable def z1w_l1 (n : Nat) : Nat → (List Decl) → Int → Option Bool
  | 0, _, _ => none
  | m + 1, v0, v1 => (z1w_b1 n).1 (z1w_l1 n m) v0 v1
theorem z1w_l1_eq (n : Nat) : ∀ (m : Nat), (∀ (v0 : List Decl) (v1 : Int), run (z1w_m n) [.lq m [0, 1, 0, 1], .blk 0, .cut [1, 1], .at [1, 1]] ⟨[.lst false 23 (mp Decl.cells v0), .any, .any, .int .i64 v1, .any, .any, .any, .any, .any, .any, .any, .any, .any, .any, .any, .any, .any, .any, .any, .any, .any, .any, .any], [], 0⟩ = z1w_l1 n m v0 v1)
  | 0 => by intros; exact run_lq_zero
  | m + 1 => by
    have ih := z1w_l1_eq n m
    intro v0 v1
    rw [run_lq_succ]
    exact (z1w_b1 n).2  m _  ih v0 v1
noncomputable def z1w_e (n : Nat) : { B : (List Decl) → Option Bool // ∀ (a0 : (List Decl)), run (z1w_m n) [.at []] { slots := [(tyL Decl.row).enc a0] ++ List.replicate (23 - [(tyL Decl.row).enc a0].length) .any, heap := [] } = B a0 } := by
  apply Subtype.mk
  intro a0
  simp (maxSteps := 100000000) only [go_sem, Nat.reduceAdd, Nat.reduceSub, Nat.reduceLeDiff, Nat.reduceEqDiff, Nat.reduceBEq, Nat.reduceMul, Nat.reduceLT, Int.reduceLE, Int.reduceLT, Int.reduceToNat, Int.reduceBEq, Int.reduceEq, z1w_f, z1w_c, Try.f67, Option.getD_some, mixed, z1w_n1, z1w_l1_eq n]
  exact rfl
noncomputable def z1w : Nat → (List Decl) → Option Bool
  | 0, _ => none
  | n + 1, a0 => (z1w_e n).1 a0
theorem z1w_ok : ∀ (n : Nat) (a0 : (List Decl)) (r : Bool), z1w n a0 = some r → FnC Try.prog 67 [(tyL Decl.row).enc a0] (fun v => v = tyB.enc r)
  | 0, _, _, h => by cases h
  | n + 1, a0, r, h => by
    exact fnC_run (M := z1w_m n) ⟨(tabA_cons_ok (ent1_ok (z0r_ok n)) tabA_nil_ok), tabD_nil_ok, tabN_ok _, tabF_ok _, noY_ok, noE_ok⟩ Try.func67 rfl rfl ⟨(tyL Decl.row).nb 0 _, trivial⟩ Try.ntmps67 Try.results67 (fun σ hs => outR_ok (P := Try.prog) (rs := [.tmp 2]) (t := tyB) (σ := σ) (r := r) hs) (((z1w_e n).2 a0).trans h)

noncomputable def z13_m (n : Nat) : Mach Bool where
  body := (Try.f118.body).getD .skip
  P := Try.prog
  cl := tabA [(129, ent1 (tyC Term.cel) tyB (z1u n))]
  cd := tabD []
  nrm := tabN []
  cut := tabF []
  n := n
  out := outR Try.prog [.tmp 2] tyB
theorem z13_f (n : Nat) : (z13_m n).P = Try.prog ∧ (z13_m n).cl = tabA [(129, ent1 (tyC Term.cel) tyB (z1u n))] ∧ (z13_m n).cd = tabD [] ∧ (z13_m n).nrm = tabN [] ∧ (z13_m n).cut = tabF [] ∧ (z13_m n).n = n ∧ (z13_m n).out = outR Try.prog [.tmp 2] tyB := ⟨rfl, rfl, rfl, rfl, rfl, rfl, rfl⟩
theorem z13_c (n : Nat) : (z13_m n).body = (Try.f118.body).getD .skip := rfl
noncomputable def z13_e (n : Nat) : { B : Decl → Option Bool // ∀ (a0 : Decl), run (z13_m n) [.at []] { slots := [(tyC Decl.cel).enc a0] ++ List.replicate (87 - [(tyC Decl.cel).enc a0].length) .any, heap := [] } = B a0 } := by
  apply Subtype.mk
  intro a0
  simp (maxSteps := 100000000) only [go_sem, Nat.reduceAdd, Nat.reduceSub, Nat.reduceLeDiff, Nat.reduceEqDiff, Nat.reduceBEq, Nat.reduceMul, Nat.reduceLT, Int.reduceLE, Int.reduceLT, Int.reduceToNat, Int.reduceBEq, Int.reduceEq, z13_f, z13_c, Try.f118, Option.getD_some, mixed]
  exact rfl
noncomputable def z13 : Nat → Decl → Option Bool
  | 0, _ => none
  | n + 1, a0 => (z13_e n).1 a0
theorem z13_ok : ∀ (n : Nat) (a0 : Decl) (r : Bool), z13 n a0 = some r → FnC Try.prog 118 [(tyC Decl.cel).enc a0] (fun v => v = tyB.enc r)
  | 0, _, _, h => by cases h
  | n + 1, a0, r, h => by
    exact fnC_run (M := z13_m n) ⟨(tabA_cons_ok (ent1_ok (z1u_ok n)) tabA_nil_ok), tabD_nil_ok, tabN_ok _, tabF_ok _, noY_ok, noE_ok⟩ Try.func118 rfl rfl ⟨(tyC Decl.cel).nb 0 _, trivial⟩ Try.ntmps118 Try.results118 (fun σ hs => outR_ok (P := Try.prog) (rs := [.tmp 2]) (t := tyB) (σ := σ) (r := r) hs) (((z13_e n).2 a0).trans h)

noncomputable def z11_m (n : Nat) : Mach Int where
  body := (Try.f131.body).getD .skip
  P := Try.prog
  cl := tabA [(71, ent5 (tyC Term.cel) (tyI .i64) (tyI .i64) (tyI .i64) (tyI .i64) (tyI .i64) (z1c n)), (136, ent2 (tyC Ref07Scope.cel) (tyC Term.cel) (tyI .i64) (z0g n))]
  cd := tabD []
  nrm := tabN []
  cut := tabF []
  n := n
  out := outR Try.prog [.tmp 8] (tyI .i64)
theorem z11_f (n : Nat) : (z11_m n).P = Try.prog ∧ (z11_m n).cl = tabA [(71, ent5 (tyC Term.cel) (tyI .i64) (tyI .i64) (tyI .i64) (tyI .i64) (tyI .i64) (z1c n)), (136, ent2 (tyC Ref07Scope.cel) (tyC Term.cel) (tyI .i64) (z0g n))] ∧ (z11_m n).cd = tabD [] ∧ (z11_m n).nrm = tabN [] ∧ (z11_m n).cut = tabF [] ∧ (z11_m n).n = n ∧ (z11_m n).out = outR Try.prog [.tmp 8] (tyI .i64) := ⟨rfl, rfl, rfl, rfl, rfl, rfl, rfl⟩
theorem z11_c (n : Nat) : (z11_m n).body = (Try.f131.body).getD .skip := rfl
noncomputable def z11_e (n : Nat) : { B : Ref07Scope → Term → Int → Int → Option Int // ∀ (a0 : Ref07Scope) (a1 : Term) (a2 : Int) (a3 : Int), run (z11_m n) [.at []] { slots := [(tyC Ref07Scope.cel).enc a0, (tyC Term.cel).enc a1, (tyI .i64).enc a2, (tyI .i64).enc a3] ++ List.replicate (20 - [(tyC Ref07Scope.cel).enc a0, (tyC Term.cel).enc a1, (tyI .i64).enc a2, (tyI .i64).enc a3].length) .any, heap := [] } = B a0 a1 a2 a3 } := by
  apply Subtype.mk
  intro a0 a1 a2 a3
  simp (maxSteps := 100000000) only [go_sem, Nat.reduceAdd, Nat.reduceSub, Nat.reduceLeDiff, Nat.reduceEqDiff, Nat.reduceBEq, Nat.reduceMul, Nat.reduceLT, Int.reduceLE, Int.reduceLT, Int.reduceToNat, Int.reduceBEq, Int.reduceEq, z11_f, z11_c, Try.f131, Option.getD_some, mixed]
  exact rfl
noncomputable def z11 : Nat → Ref07Scope → Term → Int → Int → Option Int
  | 0, _, _, _, _ => none
  | n + 1, a0, a1, a2, a3 => (z11_e n).1 a0 a1 a2 a3
theorem z11_ok : ∀ (n : Nat) (a0 : Ref07Scope) (a1 : Term) (a2 : Int) (a3 : Int) (r : Int), z11 n a0 a1 a2 a3 = some r → FnC Try.prog 131 [(tyC Ref07Scope.cel).enc a0, (tyC Term.cel).enc a1, (tyI .i64).enc a2, (tyI .i64).enc a3] (fun v => v = (tyI .i64).enc r)
  | 0, _, _, _, _, _, h => by cases h
  | n + 1, a0, a1, a2, a3, r, h => by
    exact fnC_run (M := z11_m n) ⟨(tabA_cons_ok (ent5_ok (z1c_ok n)) (tabA_cons_ok (ent2_ok (z0g_ok n)) tabA_nil_ok)), tabD_nil_ok, tabN_ok _, tabF_ok _, noY_ok, noE_ok⟩ Try.func131 rfl rfl ⟨(tyC Ref07Scope.cel).nb 0 _, (tyC Term.cel).nb 0 _, (tyI .i64).nb 0 _, (tyI .i64).nb 0 _, trivial⟩ Try.ntmps131 Try.results131 (fun σ hs => outR_ok (P := Try.prog) (rs := [.tmp 8]) (t := (tyI .i64)) (σ := σ) (r := r) hs) (((z11_e n).2 a0 a1 a2 a3).trans h)

noncomputable def z1v_m (n : Nat) : Mach Bool where
  body := (Try.f29.body).getD .skip
  P := Try.prog
  cl := tabA [(69, ent1 (tyC Term.cel) (tyI .i64) (z1q n)), (70, ent1 (tyC Term.cel) (tyI .i64) (z1d n)), (71, ent5 (tyC Term.cel) (tyI .i64) (tyI .i64) (tyI .i64) (tyI .i64) (tyI .i64) (z1c n))]
  cd := tabD []
  nrm := tabN []
  cut := tabF []
  n := n
  out := outR Try.prog [.tmp 4] tyB
theorem z1v_f (n : Nat) : (z1v_m n).P = Try.prog ∧ (z1v_m n).cl = tabA [(69, ent1 (tyC Term.cel) (tyI .i64) (z1q n)), (70, ent1 (tyC Term.cel) (tyI .i64) (z1d n)), (71, ent5 (tyC Term.cel) (tyI .i64) (tyI .i64) (tyI .i64) (tyI .i64) (tyI .i64) (z1c n))] ∧ (z1v_m n).cd = tabD [] ∧ (z1v_m n).nrm = tabN [] ∧ (z1v_m n).cut = tabF [] ∧ (z1v_m n).n = n ∧ (z1v_m n).out = outR Try.prog [.tmp 4] tyB := ⟨rfl, rfl, rfl, rfl, rfl, rfl, rfl⟩
theorem z1v_c (n : Nat) : (z1v_m n).body = (Try.f29.body).getD .skip := rfl
noncomputable def z1v_e (n : Nat) : { B : Term → Int → Option Bool // ∀ (a0 : Term) (a1 : Int), run (z1v_m n) [.at []] { slots := [(tyC Term.cel).enc a0, (tyI .i64).enc a1] ++ List.replicate (19 - [(tyC Term.cel).enc a0, (tyI .i64).enc a1].length) .any, heap := [] } = B a0 a1 } := by
  apply Subtype.mk
  intro a0 a1
  simp (maxSteps := 100000000) only [go_sem, Nat.reduceAdd, Nat.reduceSub, Nat.reduceLeDiff, Nat.reduceEqDiff, Nat.reduceBEq, Nat.reduceMul, Nat.reduceLT, Int.reduceLE, Int.reduceLT, Int.reduceToNat, Int.reduceBEq, Int.reduceEq, z1v_f, z1v_c, Try.f29, Option.getD_some, mixed]
  exact rfl
noncomputable def z1v : Nat → Term → Int → Option Bool
  | 0, _, _ => none
  | n + 1, a0, a1 => (z1v_e n).1 a0 a1
theorem z1v_ok : ∀ (n : Nat) (a0 : Term) (a1 : Int) (r : Bool), z1v n a0 a1 = some r → FnC Try.prog 29 [(tyC Term.cel).enc a0, (tyI .i64).enc a1] (fun v => v = tyB.enc r)
  | 0, _, _, _, h => by cases h
  | n + 1, a0, a1, r, h => by
    exact fnC_run (M := z1v_m n) ⟨(tabA_cons_ok (ent1_ok (z1q_ok n)) (tabA_cons_ok (ent1_ok (z1d_ok n)) (tabA_cons_ok (ent5_ok (z1c_ok n)) tabA_nil_ok))), tabD_nil_ok, tabN_ok _, tabF_ok _, noY_ok, noE_ok⟩ Try.func29 rfl rfl ⟨(tyC Term.cel).nb 0 _, (tyI .i64).nb 0 _, trivial⟩ Try.ntmps29 Try.results29 (fun σ hs => outR_ok (P := Try.prog) (rs := [.tmp 4]) (t := tyB) (σ := σ) (r := r) hs) (((z1v_e n).2 a0 a1).trans h)

noncomputable def z03_m (n : Nat) : Mach Bool where
  body := (Try.f97.body).getD .skip
  P := Try.prog
  cl := tabA [(65, ent3 (tyL Term.row) (tyL Term.row) (tyF 26) tyB (z02 n))]
  cd := tabD []
  nrm := tabN []
  cut := tabF []
  n := n
  out := outR Try.prog [.tmp 6] tyB
theorem z03_f (n : Nat) : (z03_m n).P = Try.prog ∧ (z03_m n).cl = tabA [(65, ent3 (tyL Term.row) (tyL Term.row) (tyF 26) tyB (z02 n))] ∧ (z03_m n).cd = tabD [] ∧ (z03_m n).nrm = tabN [] ∧ (z03_m n).cut = tabF [] ∧ (z03_m n).n = n ∧ (z03_m n).out = outR Try.prog [.tmp 6] tyB := ⟨rfl, rfl, rfl, rfl, rfl, rfl, rfl⟩
theorem z03_c (n : Nat) : (z03_m n).body = (Try.f97.body).getD .skip := rfl
noncomputable def z03_e (n : Nat) : { B : (List Term) → (List Term) → Unit → Option Bool // ∀ (a0 : (List Term)) (a1 : (List Term)) (a2 : Unit), run (z03_m n) [.at []] { slots := [(tyL Term.row).enc a0, (tyL Term.row).enc a1, (tyF 26).enc a2] ++ List.replicate (18 - [(tyL Term.row).enc a0, (tyL Term.row).enc a1, (tyF 26).enc a2].length) .any, heap := [] } = B a0 a1 a2 } := by
  apply Subtype.mk
  intro a0 a1 a2
  simp (maxSteps := 100000000) only [go_sem, Nat.reduceAdd, Nat.reduceSub, Nat.reduceLeDiff, Nat.reduceEqDiff, Nat.reduceBEq, Nat.reduceMul, Nat.reduceLT, Int.reduceLE, Int.reduceLT, Int.reduceToNat, Int.reduceBEq, Int.reduceEq, z03_f, z03_c, Try.f97, Option.getD_some, mixed]
  exact rfl
noncomputable def z03 : Nat → (List Term) → (List Term) → Unit → Option Bool
  | 0, _, _, _ => none
  | n + 1, a0, a1, a2 => (z03_e n).1 a0 a1 a2
theorem z03_ok : ∀ (n : Nat) (a0 : (List Term)) (a1 : (List Term)) (a2 : Unit) (r : Bool), z03 n a0 a1 a2 = some r → FnC Try.prog 97 [(tyL Term.row).enc a0, (tyL Term.row).enc a1, (tyF 26).enc a2] (fun v => v = tyB.enc r)
  | 0, _, _, _, _, h => by cases h
  | n + 1, a0, a1, a2, r, h => by
    exact fnC_run (M := z03_m n) ⟨(tabA_cons_ok (ent3_ok (z02_ok n)) tabA_nil_ok), tabD_nil_ok, tabN_ok _, tabF_ok _, noY_ok, noE_ok⟩ Try.func97 rfl rfl ⟨(tyL Term.row).nb 0 _, (tyL Term.row).nb 0 _, (tyF 26).nb 0 _, trivial⟩ Try.ntmps97 Try.results97 (fun σ hs => outR_ok (P := Try.prog) (rs := [.tmp 6]) (t := tyB) (σ := σ) (r := r) hs) (((z03_e n).2 a0 a1 a2).trans h)

noncomputable def z0t_m (n : Nat) : Mach Bool where
  body := (Try.f76.body).getD .skip
  P := Try.prog
  cl := tabA [(23, ent2 (tyC Term.cel) (tyC Term.cel) tyB (z1p n)), (34, ent2 (tyL Term.row) (tyL Term.row) tyB (z0k n))]
  cd := tabD []
  nrm := tabN []
  cut := tabF []
  n := n
  out := outR Try.prog [.tmp 4] tyB
theorem z0t_f (n : Nat) : (z0t_m n).P = Try.prog ∧ (z0t_m n).cl = tabA [(23, ent2 (tyC Term.cel) (tyC Term.cel) tyB (z1p n)), (34, ent2 (tyL Term.row) (tyL Term.row) tyB (z0k n))] ∧ (z0t_m n).cd = tabD [] ∧ (z0t_m n).nrm = tabN [] ∧ (z0t_m n).cut = tabF [] ∧ (z0t_m n).n = n ∧ (z0t_m n).out = outR Try.prog [.tmp 4] tyB := ⟨rfl, rfl, rfl, rfl, rfl, rfl, rfl⟩
theorem z0t_c (n : Nat) : (z0t_m n).body = (Try.f76.body).getD .skip := rfl
noncomputable def z0t_e (n : Nat) : { B : Recursor → Recursor → Option Bool // ∀ (a0 : Recursor) (a1 : Recursor), run (z0t_m n) [.at []] { slots := [(tyC Recursor.cel).enc a0, (tyC Recursor.cel).enc a1] ++ List.replicate (24 - [(tyC Recursor.cel).enc a0, (tyC Recursor.cel).enc a1].length) .any, heap := [] } = B a0 a1 } := by
  apply Subtype.mk
  intro a0 a1
  simp (maxSteps := 100000000) only [go_sem, Nat.reduceAdd, Nat.reduceSub, Nat.reduceLeDiff, Nat.reduceEqDiff, Nat.reduceBEq, Nat.reduceMul, Nat.reduceLT, Int.reduceLE, Int.reduceLT, Int.reduceToNat, Int.reduceBEq, Int.reduceEq, z0t_f, z0t_c, Try.f76, Option.getD_some, mixed]
  exact rfl
noncomputable def z0t : Nat → Recursor → Recursor → Option Bool
  | 0, _, _ => none
  | n + 1, a0, a1 => (z0t_e n).1 a0 a1
theorem z0t_ok : ∀ (n : Nat) (a0 : Recursor) (a1 : Recursor) (r : Bool), z0t n a0 a1 = some r → FnC Try.prog 76 [(tyC Recursor.cel).enc a0, (tyC Recursor.cel).enc a1] (fun v => v = tyB.enc r)
  | 0, _, _, _, h => by cases h
  | n + 1, a0, a1, r, h => by
    exact fnC_run (M := z0t_m n) ⟨(tabA_cons_ok (ent2_ok (z1p_ok n)) (tabA_cons_ok (ent2_ok (z0k_ok n)) tabA_nil_ok)), tabD_nil_ok, tabN_ok _, tabF_ok _, noY_ok, noE_ok⟩ Try.func76 rfl rfl ⟨(tyC Recursor.cel).nb 0 _, (tyC Recursor.cel).nb 0 _, trivial⟩ Try.ntmps76 Try.results76 (fun σ hs => outR_ok (P := Try.prog) (rs := [.tmp 4]) (t := tyB) (σ := σ) (r := r) hs) (((z0t_e n).2 a0 a1).trans h)
end Go.Abs
namespace Go.Abs
open Go.Proofs
set_option maxRecDepth 100000
set_option maxHeartbeats 4000000
set_option linter.unusedSimpArgs false
set_option linter.unusedVariables false
noncomputable def z12_n1 : Nrm := ⟨[], [], [zA, zA, zK, zK, zK, zK, zA, zA, zA, zK, zA, zA, zA, zA, zA, zA, zA, zA, zA, zA, zA, zA, zA, zA, zA, zA, zA, zA, zA, zA, zA, zA, zA, zA, zA, zA, zA, zA, zA, zA, zA, zA, zA, zA, zA, zA, zA, zA, zA, zA, zA, zA, zA, zA, zA, zA, zA, zA, zA, zA, zA, zA, zA, zA, zA, zA, zA, zA, zA, zA, zA, zA, zA, zA, zA, zA, zA, zA, zA, zA, zA, zA, zA, zA, zA, zA, zA, zA, zA, zA, zA, zA, zA, zA, zA, zA, zA, zA, zA, zA, zA, zA, zA, zA, zA, zA, zA, zA, zA, zA], [oT Ref07Scope.cel, oT Tree.cel], none⟩
noncomputable def z12_m (X : Ref07Scope → Tree → Int → Int → Option Int) (n : Nat) : Mach Int where
  body := (Try.f132.body).getD .skip
  P := Try.prog
  cl := tabA [(77, ent2 (tyC Tree.cel) (tyC Tree.cel) tyB (z0m n)), (109, ent2 (tyL Decl.row) tyS (ty2 (tyC Entry.cel) (tyI .i64)) (z1t n)), (129, ent1 (tyC Term.cel) tyB (z1u n)), (131, ent4 (tyC Ref07Scope.cel) (tyC Term.cel) (tyI .i64) (tyI .i64) (tyI .i64) (z11 n))]
  cd := tabD [(132, entD (ent4 (tyC Ref07Scope.cel) (tyC Tree.cel) (tyI .i64) (tyI .i64) (tyI .i64) X)), (137, entD (ent2 (tyC Decl.cel) (tyI .i64) (tyI .i64) (z0z n)))]
  nrm := tabN [([0, 1, 0, 1, 1, 1, 1, 1], z12_n1)]
  cut := tabF []
  n := n
  out := outR Try.prog [.tmp 8] (tyI .i64)
  isE := tabI []
theorem z12_f (X : Ref07Scope → Tree → Int → Int → Option Int) (n : Nat) : (z12_m X n).P = Try.prog ∧ (z12_m X n).cl = tabA [(77, ent2 (tyC Tree.cel) (tyC Tree.cel) tyB (z0m n)), (109, ent2 (tyL Decl.row) tyS (ty2 (tyC Entry.cel) (tyI .i64)) (z1t n)), (129, ent1 (tyC Term.cel) tyB (z1u n)), (131, ent4 (tyC Ref07Scope.cel) (tyC Term.cel) (tyI .i64) (tyI .i64) (tyI .i64) (z11 n))] ∧ (z12_m X n).cd = tabD [(132, entD (ent4 (tyC Ref07Scope.cel) (tyC Tree.cel) (tyI .i64) (tyI .i64) (tyI .i64) X)), (137, entD (ent2 (tyC Decl.cel) (tyI .i64) (tyI .i64) (z0z n)))] ∧ (z12_m X n).nrm = tabN [([0, 1, 0, 1, 1, 1, 1, 1], z12_n1)] ∧ (z12_m X n).cut = tabF [] ∧ (z12_m X n).n = n ∧ (z12_m X n).out = outR Try.prog [.tmp 8] (tyI .i64) ∧ (z12_m X n).isE = tabI [] := ⟨rfl, rfl, rfl, rfl, rfl, rfl, rfl, rfl⟩
theorem z12_c (X : Ref07Scope → Tree → Int → Int → Option Int) (n : Nat) : (z12_m X n).body = (Try.f132.body).getD .skip := rfl
theorem z12_d (X : Ref07Scope → Tree → Int → Int → Option Int) (n : Nat) : drawP (z12_m X n) [0, 1, 1, 1, 1, 0, 0, 1, 0, 0, 1, 0, 1, 1, 1, 1, 1] = true := by kernel_rfl
noncomputable def z12_b1 (X : Ref07Scope → Tree → Int → Int → Option Int) (n : Nat) : { B : (Int → Int → Int → Ref07Scope → Tree → Option Int) → Int → Int → Int → Ref07Scope → Tree → Option Int // ∀ m X0, (∀ (v0 : Int) (v1 : Int) (v2 : Int) (o0 : Ref07Scope) (o1 : Tree), run (z12_m X n) [.lq m [0, 1, 0, 1, 1, 1, 1, 1], .blk 1, .cut [1, 1, 1, 1, 1, 1], .at [1, 1, 1, 1, 1, 1]] ⟨[.any, .any, .int .i64 v0, .int .i64 v1, .ptr 0 0, .ptr 1 0, .any, .any, .any, .int .i64 v2, .any, .any, .any, .any, .any, .any, .any, .any, .any, .any, .any, .any, .any, .any, .any, .any, .any, .any, .any, .any, .any, .any, .any, .any, .any, .any, .any, .any, .any, .any, .any, .any, .any, .any, .any, .any, .any, .any, .any, .any, .any, .any, .any, .any, .any, .any, .any, .any, .any, .any, .any, .any, .any, .any, .any, .any, .any, .any, .any, .any, .any, .any, .any, .any, .any, .any, .any, .any, .any, .any, .any, .any, .any, .any, .any, .any, .any, .any, .any, .any, .any, .any, .any, .any, .any, .any, .any, .any, .any, .any, .any, .any, .any, .any, .any, .any, .any, .any, .any, .any], [.cells (Ref07Scope.cells o0), .cells (Tree.cells o1)], 0⟩ = X0 v0 v1 v2 o0 o1) → ∀ (v0 : Int) (v1 : Int) (v2 : Int) (o0 : Ref07Scope) (o1 : Tree), run (z12_m X n) [.at [0, 0, 1, 0, 1, 1, 1, 1, 1], .lp m [0, 1, 0, 1, 1, 1, 1, 1], .blk 1, .cut [1, 1, 1, 1, 1, 1], .at [1, 1, 1, 1, 1, 1]] ⟨[.any, .any, .int .i64 v0, .int .i64 v1, .ptr 0 0, .ptr 1 0, .any, .any, .any, .int .i64 v2, .any, .any, .any, .any, .any, .any, .any, .any, .any, .any, .any, .any, .any, .any, .any, .any, .any, .any, .any, .any, .any, .any, .any, .any, .any, .any, .any, .any, .any, .any, .any, .any, .any, .any, .any, .any, .any, .any, .any, .any, .any, .any, .any, .any, .any, .any, .any, .any, .any, .any, .any, .any, .any, .any, .any, .any, .any, .any, .any, .any, .any, .any, .any, .any, .any, .any, .any, .any, .any, .any, .any, .any, .any, .any, .any, .any, .any, .any, .any, .any, .any, .any, .any, .any, .any, .any, .any, .any, .any, .any, .any, .any, .any, .any, .any, .any, .any, .any, .any, .any], [.cells (Ref07Scope.cells o0), .cells (Tree.cells o1)], 0⟩ = B X0 v0 v1 v2 o0 o1 } := by
  apply Subtype.mk
  intro m X0 ih v0 v1 v2 o0 o1
  simp (maxSteps := 100000000) only [go_sem, Nat.reduceAdd, Nat.reduceSub, Nat.reduceLeDiff, Nat.reduceEqDiff, Nat.reduceBEq, Nat.reduceMul, Nat.reduceLT, Int.reduceLE, Int.reduceLT, Int.reduceToNat, Int.reduceBEq, Int.reduceEq, z12_f, z12_c, Try.f132, Option.getD_some, mixed, z12_d, z12_n1, ih]
  exact rfl
noncomputable def z12_l1 (X : Ref07Scope → Tree → Int → Int → Option Int) (n : Nat) : Nat → Int → Int → Int → Ref07Scope → Tree → Option Int
  | 0, _, _, _, _, _ => none
  | m + 1, v0, v1, v2, o0, o1 => (z12_b1 X n).1 (z12_l1 X n m) v0 v1 v2 o0 o1
theorem z12_l1_eq (X : Ref07Scope → Tree → Int → Int → Option Int) (n : Nat) : ∀ (m : Nat), (∀ (v0 : Int) (v1 : Int) (v2 : Int) (o0 : Ref07Scope) (o1 : Tree), run (z12_m X n) [.lq m [0, 1, 0, 1, 1, 1, 1, 1], .blk 1, .cut [1, 1, 1, 1, 1, 1], .at [1, 1, 1, 1, 1, 1]] ⟨[.any, .any, .int .i64 v0, .int .i64 v1, .ptr 0 0, .ptr 1 0, .any, .any, .any, .int .i64 v2, .any, .any, .any, .any, .any, .any, .any, .any, .any, .any, .any, .any, .any, .any, .any, .any, .any, .any, .any, .any, .any, .any, .any, .any, .any, .any, .any, .any, .any, .any, .any, .any, .any, .any, .any, .any, .any, .any, .any, .any, .any, .any, .any, .any, .any, .any, .any, .any, .any, .any, .any, .any, .any, .any, .any, .any, .any, .any, .any, .any, .any, .any, .any, .any, .any, .any, .any, .any, .any, .any, .any, .any, .any, .any, .any, .any, .any, .any, .any, .any, .any, .any, .any, .any, .any, .any, .any, .any, .any, .any, .any, .any, .any, .any, .any, .any, .any, .any, .any, .any], [.cells (Ref07Scope.cells o0), .cells (Tree.cells o1)], 0⟩ = z12_l1 X n m v0 v1 v2 o0 o1)
  | 0 => by intros; exact run_lq_zero
  | m + 1 => by
    have ih := z12_l1_eq X n m
    intro v0 v1 v2 o0 o1
    rw [run_lq_succ]
    exact (z12_b1 X n).2  m _  ih v0 v1 v2 o0 o1
noncomputable def z12_e (X : Ref07Scope → Tree → Int → Int → Option Int) (n : Nat) : { B : Ref07Scope → Tree → Int → Int → Option Int // ∀ (a0 : Ref07Scope) (a1 : Tree) (a2 : Int) (a3 : Int), run (z12_m X n) [.at []] { slots := [(tyC Ref07Scope.cel).enc a0, (tyC Tree.cel).enc a1, (tyI .i64).enc a2, (tyI .i64).enc a3] ++ List.replicate (110 - [(tyC Ref07Scope.cel).enc a0, (tyC Tree.cel).enc a1, (tyI .i64).enc a2, (tyI .i64).enc a3].length) .any, heap := [] } = B a0 a1 a2 a3 } := by
  apply Subtype.mk
  intro a0 a1 a2 a3
  simp (maxSteps := 100000000) only [go_sem, Nat.reduceAdd, Nat.reduceSub, Nat.reduceLeDiff, Nat.reduceEqDiff, Nat.reduceBEq, Nat.reduceMul, Nat.reduceLT, Int.reduceLE, Int.reduceLT, Int.reduceToNat, Int.reduceBEq, Int.reduceEq, z12_f, z12_c, Try.f132, Option.getD_some, mixed, z12_d, z12_n1, z12_l1_eq X n]
  exact rfl
noncomputable def z12 : Nat → Ref07Scope → Tree → Int → Int → Option Int
  | 0, _, _, _, _ => none
  | n + 1, a0, a1, a2, a3 => (z12_e (z12 n) n).1 a0 a1 a2 a3
theorem z12_ok : ∀ (n : Nat) (a0 : Ref07Scope) (a1 : Tree) (a2 : Int) (a3 : Int) (r : Int), z12 n a0 a1 a2 a3 = some r → FnC Try.prog 132 [(tyC Ref07Scope.cel).enc a0, (tyC Tree.cel).enc a1, (tyI .i64).enc a2, (tyI .i64).enc a3] (fun v => v = (tyI .i64).enc r)
  | 0, _, _, _, _, _, h => by cases h
  | n + 1, a0, a1, a2, a3, r, h => by
    have ih_ref07_ofTree := z12_ok n
    exact fnC_run (M := z12_m (z12 n) n) ⟨(tabA_cons_ok (ent2_ok (z0m_ok n)) (tabA_cons_ok (ent2_ok (z1t_ok n)) (tabA_cons_ok (ent1_ok (z1u_ok n)) (tabA_cons_ok (ent4_ok (z11_ok n)) tabA_nil_ok)))), (tabD_cons_ok (ent4_okD (ih_ref07_ofTree)) (tabD_cons_ok (ent2_okD (z0z_ok n)) tabD_nil_ok)), tabN_ok _, tabF_ok _, noY_ok, noE_ok⟩ Try.func132 rfl rfl ⟨(tyC Ref07Scope.cel).nb 0 _, (tyC Tree.cel).nb 0 _, (tyI .i64).nb 0 _, (tyI .i64).nb 0 _, trivial⟩ Try.ntmps132 Try.results132 (fun σ hs => outR_ok (P := Try.prog) (rs := [.tmp 8]) (t := (tyI .i64)) (σ := σ) (r := r) hs) (((z12_e (z12 n) n).2 a0 a1 a2 a3).trans h)

noncomputable def z06_m (n : Nat) : Mach ((List Term) × Bool) where
  body := (Try.f98.body).getD .skip
  P := Try.prog
  cl := tabA [(72, ent1 (tyC Term.cel) (ty2 (tyC Term.cel) (tyL Term.row)) (z0h n))]
  cd := tabD [(26, entD (ent2 (tyC Term.cel) (tyC Term.cel) tyB (z20 n))), (47, entD (ent2 (tyI .i64) (tyI .i64) (tyL Term.row) (z0o n))), (97, entD (ent3 (tyL Term.row) (tyL Term.row) (tyF 26) tyB (z03 n)))]
  nrm := tabN []
  cut := tabF []
  n := n
  out := outR Try.prog [.tmp 6, .tmp 7] (ty2 (tyL Term.row) tyB)
  isE := tabI []
theorem z06_f (n : Nat) : (z06_m n).P = Try.prog ∧ (z06_m n).cl = tabA [(72, ent1 (tyC Term.cel) (ty2 (tyC Term.cel) (tyL Term.row)) (z0h n))] ∧ (z06_m n).cd = tabD [(26, entD (ent2 (tyC Term.cel) (tyC Term.cel) tyB (z20 n))), (47, entD (ent2 (tyI .i64) (tyI .i64) (tyL Term.row) (z0o n))), (97, entD (ent3 (tyL Term.row) (tyL Term.row) (tyF 26) tyB (z03 n)))] ∧ (z06_m n).nrm = tabN [] ∧ (z06_m n).cut = tabF [] ∧ (z06_m n).n = n ∧ (z06_m n).out = outR Try.prog [.tmp 6, .tmp 7] (ty2 (tyL Term.row) tyB) ∧ (z06_m n).isE = tabI [] := ⟨rfl, rfl, rfl, rfl, rfl, rfl, rfl, rfl⟩
theorem z06_c (n : Nat) : (z06_m n).body = (Try.f98.body).getD .skip := rfl
theorem z06_d (n : Nat) : drawP (z06_m n) [0, 0, 1, 1, 1] = true := by kernel_rfl
noncomputable def z06_e (n : Nat) : { B : FamilyShape → Term → Int → Option ((List Term) × Bool) // ∀ (a0 : FamilyShape) (a1 : Term) (a2 : Int), run (z06_m n) [.at []] { slots := [(tyC FamilyShape.cel).enc a0, (tyC Term.cel).enc a1, (tyI .i64).enc a2] ++ List.replicate (46 - [(tyC FamilyShape.cel).enc a0, (tyC Term.cel).enc a1, (tyI .i64).enc a2].length) .any, heap := [] } = B a0 a1 a2 } := by
  apply Subtype.mk
  intro a0 a1 a2
  simp (maxSteps := 100000000) only [go_sem, Nat.reduceAdd, Nat.reduceSub, Nat.reduceLeDiff, Nat.reduceEqDiff, Nat.reduceBEq, Nat.reduceMul, Nat.reduceLT, Int.reduceLE, Int.reduceLT, Int.reduceToNat, Int.reduceBEq, Int.reduceEq, z06_f, z06_c, Try.f98, Option.getD_some, mixed, z06_d]
  exact rfl
noncomputable def z06 : Nat → FamilyShape → Term → Int → Option ((List Term) × Bool)
  | 0, _, _, _ => none
  | n + 1, a0, a1, a2 => (z06_e n).1 a0 a1 a2
theorem z06_ok : ∀ (n : Nat) (a0 : FamilyShape) (a1 : Term) (a2 : Int) (r : ((List Term) × Bool)), z06 n a0 a1 a2 = some r → FnC Try.prog 98 [(tyC FamilyShape.cel).enc a0, (tyC Term.cel).enc a1, (tyI .i64).enc a2] (fun v => v = (ty2 (tyL Term.row) tyB).enc r)
  | 0, _, _, _, _, h => by cases h
  | n + 1, a0, a1, a2, r, h => by
    exact fnC_run (M := z06_m n) ⟨(tabA_cons_ok (ent1_ok (z0h_ok n)) tabA_nil_ok), (tabD_cons_ok (ent2_okD (z20_ok n)) (tabD_cons_ok (ent2_okD (z0o_ok n)) (tabD_cons_ok (ent3_okD (z03_ok n)) tabD_nil_ok))), tabN_ok _, tabF_ok _, noY_ok, noE_ok⟩ Try.func98 rfl rfl ⟨(tyC FamilyShape.cel).nb 0 _, (tyC Term.cel).nb 0 _, (tyI .i64).nb 0 _, trivial⟩ Try.ntmps98 Try.results98 (fun σ hs => outR_ok (P := Try.prog) (rs := [.tmp 6, .tmp 7]) (t := (ty2 (tyL Term.row) tyB)) (σ := σ) (r := r) hs) (((z06_e n).2 a0 a1 a2).trans h)

noncomputable def z0l_n1 : Nrm := ⟨[], [], [zA, zA, zK, zK, zA, zA, zK, zA, zA, zA, zA, zA, zA, zA, zA, zA, zA, zA, zA, zA, zA, zA, zA, zA, zA, zA, zA, zA, zA, zA, zA, zA, zA, zA, zA, zA, zA, zA, zA, zA, zA, zA, zA, zA, zA, zA, zA, zA, zA, zA, zA, zA, zA, zA, zA, zA, zA, zA, zA, zA, zA, zA, zA, zA, zA, zA, zA, zA, zA, zA, zA, zA, zA, zA, zA, zA, zA, zA, zA, zA, zA, zA, zA, zA, zA, zA, zA, zA, zA, zA, zA, zA, zA, zA, zA, zA, zA, zA, zA, zA, zA, zA, zA, zA, zA, zA, zA, zA, zA, zA, zA, zA, zA, zA, zA, zA, zA, zA, zA, zA, zA, zA, zA, zA, zA, zA, zA, zA, zA, zA, zA, zA, zA, zA, zA, zA, zA, zA, zA, zA, zA, zA, zA, zA, zA, zA, zA, zA, zA, zA, zA, zA, zA, zA, zA, zA], [oT Decl.cel, oT Decl.cel], none⟩
noncomputable def z0l_n2 : Nrm := ⟨[], [], [zA, zA, zK, zK, zA, zK, zA, zA, zA, zA, zA, zA, zA, zA, zA, zA, zA, zA, zA, zA, zA, zA, zA, zA, zA, zA, zA, zA, zA, zA, zA, zA, zA, zA, zA, zA, zA, zA, zA, zA, zA, zA, zA, zA, zA, zA, zA, zA, zA, zA, zA, zA, zA, zA, zA, zA, zA, zA, zA, zA, zA, zA, zA, zA, zA, zA, zA, zA, zA, zA, zA, zA, zA, zA, zA, zA, zA, zA, zA, zA, zA, zA, zA, zA, zA, zA, zA, zA, zA, zA, zA, zA, zA, zA, zA, zA, zA, zA, zA, zA, zA, zA, zA, zA, zA, zA, zA, zA, zA, zA, zA, zA, zA, zA, zA, zA, zA, zA, zA, zA, zA, zA, zA, zA, zA, zA, zA, zA, zA, zA, zA, zA, zA, zA, zA, zA, zA, zA, zA, zA, zA, zA, zA, zA, zA, zA, zA, zA, zA, zA, zA, zA, zA, zA, zA, zA], [oT Decl.cel, oT Decl.cel], none⟩
noncomputable def z0l_m (n : Nat) : Mach Bool where
  body := (Try.f32.body).getD .skip
  P := Try.prog
  cl := tabA [(23, ent2 (tyC Term.cel) (tyC Term.cel) tyB (z1p n)), (76, ent2 (tyC Recursor.cel) (tyC Recursor.cel) tyB (z0t n)), (77, ent2 (tyC Tree.cel) (tyC Tree.cel) tyB (z0m n))]
  cd := tabD [(23, entD (ent2 (tyC Term.cel) (tyC Term.cel) tyB (z1p n)))]
  nrm := tabN [([0, 1, 0, 1, 1, 1, 1], z0l_n1), ([0, 1, 0, 1, 1, 1], z0l_n2)]
  cut := tabF []
  n := n
  out := outR Try.prog [.tmp 4] tyB
  isE := tabI []
theorem z0l_f (n : Nat) : (z0l_m n).P = Try.prog ∧ (z0l_m n).cl = tabA [(23, ent2 (tyC Term.cel) (tyC Term.cel) tyB (z1p n)), (76, ent2 (tyC Recursor.cel) (tyC Recursor.cel) tyB (z0t n)), (77, ent2 (tyC Tree.cel) (tyC Tree.cel) tyB (z0m n))] ∧ (z0l_m n).cd = tabD [(23, entD (ent2 (tyC Term.cel) (tyC Term.cel) tyB (z1p n)))] ∧ (z0l_m n).nrm = tabN [([0, 1, 0, 1, 1, 1, 1], z0l_n1), ([0, 1, 0, 1, 1, 1], z0l_n2)] ∧ (z0l_m n).cut = tabF [] ∧ (z0l_m n).n = n ∧ (z0l_m n).out = outR Try.prog [.tmp 4] tyB ∧ (z0l_m n).isE = tabI [] := ⟨rfl, rfl, rfl, rfl, rfl, rfl, rfl, rfl⟩
theorem z0l_c (n : Nat) : (z0l_m n).body = (Try.f32.body).getD .skip := rfl
theorem z0l_d (n : Nat) : drawP (z0l_m n) [0, 0, 0, 1, 0, 0, 1, 0, 1, 1, 1] = true ∧ drawP (z0l_m n) [0, 0, 0, 1, 0, 0, 1, 0, 1, 1, 1, 1] = true := ⟨by kernel_rfl, by kernel_rfl⟩
theorem z0l_o (n : Nat) : ordP (z0l_m n) [0, 0, 0, 1, 0, 0, 1, 0, 1, 1, 1, 1] 1 12 = true ∧ ordP (z0l_m n) [0, 0, 0, 1, 0, 0, 1, 0, 1, 1, 1, 1] 3 12 = true ∧ ordP (z0l_m n) [0, 0, 0, 1, 0, 0, 1, 0, 1, 1, 1, 1] 4 12 = true ∧ ordP (z0l_m n) [0, 0, 0, 1, 0, 0, 1, 0, 1, 1, 1, 1] 10 12 = true ∧ ordP (z0l_m n) [0, 0, 0, 1, 0, 0, 1, 0, 1, 1, 1, 1] 11 12 = true ∧ ordP (z0l_m n) [0, 0, 0, 1, 0, 0, 1, 0, 1, 1, 1, 1] 1 13 = true ∧ ordP (z0l_m n) [0, 0, 0, 1, 0, 0, 1, 0, 1, 1, 1, 1] 3 13 = true ∧ ordP (z0l_m n) [0, 0, 0, 1, 0, 0, 1, 0, 1, 1, 1, 1] 4 13 = true ∧ ordP (z0l_m n) [0, 0, 0, 1, 0, 0, 1, 0, 1, 1, 1, 1] 6 13 = true ∧ ordP (z0l_m n) [0, 0, 0, 1, 0, 0, 1, 0, 1, 1, 1, 1] 8 13 = true ∧ ordP (z0l_m n) [0, 0, 0, 1, 0, 0, 1, 0, 1, 1, 1, 1] 9 13 = true ∧ ordP (z0l_m n) [0, 0, 0, 1, 0, 0, 1, 0, 1, 1, 1, 1] 10 13 = true ∧ ordP (z0l_m n) [0, 0, 0, 1, 0, 0, 1, 0, 1, 1, 1, 1] 11 13 = true ∧ ordP (z0l_m n) [0, 0, 0, 1, 0, 0, 1, 0, 1, 1, 1, 1] 12 13 = true ∧ ordP (z0l_m n) [0, 0, 0, 1, 0, 0, 1, 0, 1, 1, 1, 1] 10 11 = true := ⟨by kernel_rfl, by kernel_rfl, by kernel_rfl, by kernel_rfl, by kernel_rfl, by kernel_rfl, by kernel_rfl, by kernel_rfl, by kernel_rfl, by kernel_rfl, by kernel_rfl, by kernel_rfl, by kernel_rfl, by kernel_rfl, by kernel_rfl⟩
noncomputable def z0l_b1 (n : Nat) : { B : (Int → Decl → Decl → Option Bool) → Int → Decl → Decl → Option Bool // ∀ m X0, (∀ (v0 : Int) (o0 : Decl) (o1 : Decl), run (z0l_m n) [.lq m [0, 1, 0, 1, 1, 1, 1], .blk 2, .cut [1, 1, 1, 1, 1], .at [1, 1, 1, 1, 1]] ⟨[.any, .any, .ptr 0 0, .ptr 1 0, .any, .any, .int .i64 v0, .any, .any, .any, .any, .any, .any, .any, .any, .any, .any, .any, .any, .any, .any, .any, .any, .any, .any, .any, .any, .any, .any, .any, .any, .any, .any, .any, .any, .any, .any, .any, .any, .any, .any, .any, .any, .any, .any, .any, .any, .any, .any, .any, .any, .any, .any, .any, .any, .any, .any, .any, .any, .any, .any, .any, .any, .any, .any, .any, .any, .any, .any, .any, .any, .any, .any, .any, .any, .any, .any, .any, .any, .any, .any, .any, .any, .any, .any, .any, .any, .any, .any, .any, .any, .any, .any, .any, .any, .any, .any, .any, .any, .any, .any, .any, .any, .any, .any, .any, .any, .any, .any, .any, .any, .any, .any, .any, .any, .any, .any, .any, .any, .any, .any, .any, .any, .any, .any, .any, .any, .any, .any, .any, .any, .any, .any, .any, .any, .any, .any, .any, .any, .any, .any, .any, .any, .any, .any, .any, .any, .any, .any, .any, .any, .any, .any, .any, .any, .any], [.cells (Decl.cells o0), .cells (Decl.cells o1)], 0⟩ = X0 v0 o0 o1) → ∀ (v0 : Int) (o0 : Decl) (o1 : Decl), run (z0l_m n) [.at [0, 0, 1, 0, 1, 1, 1, 1], .lp m [0, 1, 0, 1, 1, 1, 1], .blk 2, .cut [1, 1, 1, 1, 1], .at [1, 1, 1, 1, 1]] ⟨[.any, .any, .ptr 0 0, .ptr 1 0, .any, .any, .int .i64 v0, .any, .any, .any, .any, .any, .any, .any, .any, .any, .any, .any, .any, .any, .any, .any, .any, .any, .any, .any, .any, .any, .any, .any, .any, .any, .any, .any, .any, .any, .any, .any, .any, .any, .any, .any, .any, .any, .any, .any, .any, .any, .any, .any, .any, .any, .any, .any, .any, .any, .any, .any, .any, .any, .any, .any, .any, .any, .any, .any, .any, .any, .any, .any, .any, .any, .any, .any, .any, .any, .any, .any, .any, .any, .any, .any, .any, .any, .any, .any, .any, .any, .any, .any, .any, .any, .any, .any, .any, .any, .any, .any, .any, .any, .any, .any, .any, .any, .any, .any, .any, .any, .any, .any, .any, .any, .any, .any, .any, .any, .any, .any, .any, .any, .any, .any, .any, .any, .any, .any, .any, .any, .any, .any, .any, .any, .any, .any, .any, .any, .any, .any, .any, .any, .any, .any, .any, .any, .any, .any, .any, .any, .any, .any, .any, .any, .any, .any, .any, .any], [.cells (Decl.cells o0), .cells (Decl.cells o1)], 0⟩ = B X0 v0 o0 o1 } := by
  apply Subtype.mk
  intro m X0 ih v0 o0 o1
  simp (maxSteps := 100000000) only [go_sem, Nat.reduceAdd, Nat.reduceSub, Nat.reduceLeDiff, Nat.reduceEqDiff, Nat.reduceBEq, Nat.reduceMul, Nat.reduceLT, Int.reduceLE, Int.reduceLT, Int.reduceToNat, Int.reduceBEq, Int.reduceEq, z0l_f, z0l_c, Try.f32, Option.getD_some, mixed, z0l_d, z0l_o, z0l_n1, z0l_n2, ih]
  exact rfl
noncomputable def z0l_l1 (n : Nat) : Nat → Int → Decl → Decl → Option Bool
  | 0, _, _, _ => none
  | m + 1, v0, o0, o1 => (z0l_b1 n).1 (z0l_l1 n m) v0 o0 o1
theorem z0l_l1_eq (n : Nat) : ∀ (m : Nat), (∀ (v0 : Int) (o0 : Decl) (o1 : Decl), run (z0l_m n) [.lq m [0, 1, 0, 1, 1, 1, 1], .blk 2, .cut [1, 1, 1, 1, 1], .at [1, 1, 1, 1, 1]] ⟨[.any, .any, .ptr 0 0, .ptr 1 0, .any, .any, .int .i64 v0, .any, .any, .any, .any, .any, .any, .any, .any, .any, .any, .any, .any, .any, .any, .any, .any, .any, .any, .any, .any, .any, .any, .any, .any, .any, .any, .any, .any, .any, .any, .any, .any, .any, .any, .any, .any, .any, .any, .any, .any, .any, .any, .any, .any, .any, .any, .any, .any, .any, .any, .any, .any, .any, .any, .any, .any, .any, .any, .any, .any, .any, .any, .any, .any, .any, .any, .any, .any, .any, .any, .any, .any, .any, .any, .any, .any, .any, .any, .any, .any, .any, .any, .any, .any, .any, .any, .any, .any, .any, .any, .any, .any, .any, .any, .any, .any, .any, .any, .any, .any, .any, .any, .any, .any, .any, .any, .any, .any, .any, .any, .any, .any, .any, .any, .any, .any, .any, .any, .any, .any, .any, .any, .any, .any, .any, .any, .any, .any, .any, .any, .any, .any, .any, .any, .any, .any, .any, .any, .any, .any, .any, .any, .any, .any, .any, .any, .any, .any, .any], [.cells (Decl.cells o0), .cells (Decl.cells o1)], 0⟩ = z0l_l1 n m v0 o0 o1)
  | 0 => by intros; exact run_lq_zero
  | m + 1 => by
    have ih := z0l_l1_eq n m
    intro v0 o0 o1
    rw [run_lq_succ]
    exact (z0l_b1 n).2  m _  ih v0 o0 o1
noncomputable def z0l_b2 (n : Nat) : { B : (Int → Decl → Decl → Option Bool) → Int → Decl → Decl → Option Bool // ∀ m X0, (∀ (v0 : Int) (o0 : Decl) (o1 : Decl), run (z0l_m n) [.lq m [0, 1, 0, 1, 1, 1], .blk 0, .cut [1, 1, 1, 1], .at [1, 1, 1, 1]] ⟨[.any, .any, .ptr 0 0, .ptr 1 0, .any, .int .i64 v0, .any, .any, .any, .any, .any, .any, .any, .any, .any, .any, .any, .any, .any, .any, .any, .any, .any, .any, .any, .any, .any, .any, .any, .any, .any, .any, .any, .any, .any, .any, .any, .any, .any, .any, .any, .any, .any, .any, .any, .any, .any, .any, .any, .any, .any, .any, .any, .any, .any, .any, .any, .any, .any, .any, .any, .any, .any, .any, .any, .any, .any, .any, .any, .any, .any, .any, .any, .any, .any, .any, .any, .any, .any, .any, .any, .any, .any, .any, .any, .any, .any, .any, .any, .any, .any, .any, .any, .any, .any, .any, .any, .any, .any, .any, .any, .any, .any, .any, .any, .any, .any, .any, .any, .any, .any, .any, .any, .any, .any, .any, .any, .any, .any, .any, .any, .any, .any, .any, .any, .any, .any, .any, .any, .any, .any, .any, .any, .any, .any, .any, .any, .any, .any, .any, .any, .any, .any, .any, .any, .any, .any, .any, .any, .any, .any, .any, .any, .any, .any, .any], [.cells (Decl.cells o0), .cells (Decl.cells o1)], 0⟩ = X0 v0 o0 o1) → ∀ (v0 : Int) (o0 : Decl) (o1 : Decl), run (z0l_m n) [.at [0, 0, 1, 0, 1, 1, 1], .lp m [0, 1, 0, 1, 1, 1], .blk 0, .cut [1, 1, 1, 1], .at [1, 1, 1, 1]] ⟨[.any, .any, .ptr 0 0, .ptr 1 0, .any, .int .i64 v0, .any, .any, .any, .any, .any, .any, .any, .any, .any, .any, .any, .any, .any, .any, .any, .any, .any, .any, .any, .any, .any, .any, .any, .any, .any, .any, .any, .any, .any, .any, .any, .any, .any, .any, .any, .any, .any, .any, .any, .any, .any, .any, .any, .any, .any, .any, .any, .any, .any, .any, .any, .any, .any, .any, .any, .any, .any, .any, .any, .any, .any, .any, .any, .any, .any, .any, .any, .any, .any, .any, .any, .any, .any, .any, .any, .any, .any, .any, .any, .any, .any, .any, .any, .any, .any, .any, .any, .any, .any, .any, .any, .any, .any, .any, .any, .any, .any, .any, .any, .any, .any, .any, .any, .any, .any, .any, .any, .any, .any, .any, .any, .any, .any, .any, .any, .any, .any, .any, .any, .any, .any, .any, .any, .any, .any, .any, .any, .any, .any, .any, .any, .any, .any, .any, .any, .any, .any, .any, .any, .any, .any, .any, .any, .any, .any, .any, .any, .any, .any, .any], [.cells (Decl.cells o0), .cells (Decl.cells o1)], 0⟩ = B X0 v0 o0 o1 } := by
  apply Subtype.mk
  intro m X0 ih v0 o0 o1
  simp (maxSteps := 100000000) only [go_sem, Nat.reduceAdd, Nat.reduceSub, Nat.reduceLeDiff, Nat.reduceEqDiff, Nat.reduceBEq, Nat.reduceMul, Nat.reduceLT, Int.reduceLE, Int.reduceLT, Int.reduceToNat, Int.reduceBEq, Int.reduceEq, z0l_f, z0l_c, Try.f32, Option.getD_some, mixed, z0l_d, z0l_o, z0l_n1, z0l_n2, z0l_l1_eq n, ih]
  exact rfl
noncomputable def z0l_l2 (n : Nat) : Nat → Int → Decl → Decl → Option Bool
  | 0, _, _, _ => none
  | m + 1, v0, o0, o1 => (z0l_b2 n).1 (z0l_l2 n m) v0 o0 o1
theorem z0l_l2_eq (n : Nat) : ∀ (m : Nat), (∀ (v0 : Int) (o0 : Decl) (o1 : Decl), run (z0l_m n) [.lq m [0, 1, 0, 1, 1, 1], .blk 0, .cut [1, 1, 1, 1], .at [1, 1, 1, 1]] ⟨[.any, .any, .ptr 0 0, .ptr 1 0, .any, .int .i64 v0, .any, .any, .any, .any, .any, .any, .any, .any, .any, .any, .any, .any, .any, .any, .any, .any, .any, .any, .any, .any, .any, .any, .any, .any, .any, .any, .any, .any, .any, .any, .any, .any, .any, .any, .any, .any, .any, .any, .any, .any, .any, .any, .any, .any, .any, .any, .any, .any, .any, .any, .any, .any, .any, .any, .any, .any, .any, .any, .any, .any, .any, .any, .any, .any, .any, .any, .any, .any, .any, .any, .any, .any, .any, .any, .any, .any, .any, .any, .any, .any, .any, .any, .any, .any, .any, .any, .any, .any, .any, .any, .any, .any, .any, .any, .any, .any, .any, .any, .any, .any, .any, .any, .any, .any, .any, .any, .any, .any, .any, .any, .any, .any, .any, .any, .any, .any, .any, .any, .any, .any, .any, .any, .any, .any, .any, .any, .any, .any, .any, .any, .any, .any, .any, .any, .any, .any, .any, .any, .any, .any, .any, .any, .any, .any, .any, .any, .any, .any, .any, .any], [.cells (Decl.cells o0), .cells (Decl.cells o1)], 0⟩ = z0l_l2 n m v0 o0 o1)
  | 0 => by intros; exact run_lq_zero
  | m + 1 => by
    have ih := z0l_l2_eq n m
    intro v0 o0 o1
    rw [run_lq_succ]
    exact (z0l_b2 n).2  m _  ih v0 o0 o1
noncomputable def z0l_e (n : Nat) : { B : Decl → Decl → Option Bool // ∀ (a0 : Decl) (a1 : Decl), run (z0l_m n) [.at []] { slots := [(tyC Decl.cel).enc a0, (tyC Decl.cel).enc a1] ++ List.replicate (156 - [(tyC Decl.cel).enc a0, (tyC Decl.cel).enc a1].length) .any, heap := [] } = B a0 a1 } := by
  apply Subtype.mk
  intro a0 a1
  simp (maxSteps := 100000000) only [go_sem, Nat.reduceAdd, Nat.reduceSub, Nat.reduceLeDiff, Nat.reduceEqDiff, Nat.reduceBEq, Nat.reduceMul, Nat.reduceLT, Int.reduceLE, Int.reduceLT, Int.reduceToNat, Int.reduceBEq, Int.reduceEq, z0l_f, z0l_c, Try.f32, Option.getD_some, mixed, z0l_d, z0l_o, z0l_n1, z0l_n2, z0l_l1_eq n, z0l_l2_eq n]
  exact rfl
noncomputable def z0l : Nat → Decl → Decl → Option Bool
  | 0, _, _ => none
  | n + 1, a0, a1 => (z0l_e n).1 a0 a1
theorem z0l_ok : ∀ (n : Nat) (a0 : Decl) (a1 : Decl) (r : Bool), z0l n a0 a1 = some r → FnC Try.prog 32 [(tyC Decl.cel).enc a0, (tyC Decl.cel).enc a1] (fun v => v = tyB.enc r)
  | 0, _, _, _, h => by cases h
  | n + 1, a0, a1, r, h => by
    exact fnC_run (M := z0l_m n) ⟨(tabA_cons_ok (ent2_ok (z1p_ok n)) (tabA_cons_ok (ent2_ok (z0t_ok n)) (tabA_cons_ok (ent2_ok (z0m_ok n)) tabA_nil_ok))), (tabD_cons_ok (ent2_okD (z1p_ok n)) tabD_nil_ok), tabN_ok _, tabF_ok _, noY_ok, noE_ok⟩ Try.func32 rfl rfl ⟨(tyC Decl.cel).nb 0 _, (tyC Decl.cel).nb 0 _, trivial⟩ Try.ntmps32 Try.results32 (fun σ hs => outR_ok (P := Try.prog) (rs := [.tmp 4]) (t := tyB) (σ := σ) (r := r) hs) (((z0l_e n).2 a0 a1).trans h)
end Go.Abs
namespace Go.Abs
open Go.Proofs
set_option maxRecDepth 100000
set_option maxHeartbeats 4000000
set_option linter.unusedSimpArgs false
set_option linter.unusedVariables false
noncomputable def z1i_n1 : Nrm := ⟨[], [], [zA, zA, zA, zK, zA, zK, zA, zA, zA, zA, zA, zK, zA, zA, zA, zA, zA, zA, zA, zA, zA, zA, zA, zA, zA, zA, zA, zA, zA, zA, zA, zA, zA, zA, zA, zA, zA, zA, zA, zA, zA, zA, zA, zA, zA, zA, zA, zA, zA, zA, zA, zA, zA, zA, zA, zA, zA, zA, zA, zA, zA, zA, zA, zA, zA, zA, zA, zA, zA, zA, zA, zA, zA, zA, zA, zA, zA, zA, zA, zA, zA, zA, zA, zA, zA, zA, zA, zA, zA, zA, zA, zA, zA, zA, zA, zA, zA, zA, zA, zA, zA, zA, zA, zA, zA, zA, zA, zA, zA, zA, zA, zA, zA, zA, zA, zA, zA, zA, zA, zA, zA, zA, zA, zA, zA, zA, zA, zA, zA, zA, zA, zA, zA, zA, zA, zA, zA, zA, zA, zA, zA, zA, zA, zA, zA, zA, zA, zA, zA, zA, zA, zA, zA, zA, zA, zA, zA, zA, zA, zA, zA], [oT Decl.cel, oT Ref07Scope.cel], none⟩
noncomputable def z1i_n2 : Nrm := ⟨[], [], [zA, zA, zA, zK, zA, zK, zA, zK, zA, zA, zA, zA, zA, zA, zA, zA, zA, zA, zA, zA, zA, zA, zA, zA, zA, zA, zA, zA, zA, zA, zA, zA, zA, zA, zA, zA, zA, zA, zA, zA, zA, zA, zA, zA, zA, zA, zA, zA, zA, zA, zA, zA, zA, zA, zA, zA, zA, zA, zA, zA, zA, zA, zA, zA, zA, zA, zA, zA, zA, zA, zA, zA, zA, zA, zA, zA, zA, zA, zA, zA, zA, zA, zA, zA, zA, zA, zA, zA, zA, zA, zA, zA, zA, zA, zA, zA, zA, zA, zA, zA, zA, zA, zA, zA, zA, zA, zA, zA, zA, zA, zA, zA, zA, zA, zA, zA, zA, zA, zA, zA, zA, zA, zA, zA, zA, zA, zA, zA, zA, zA, zA, zA, zA, zA, zA, zA, zA, zA, zA, zA, zA, zA, zA, zA, zA, zA, zA, zA, zA, zA, zA, zA, zA, zA, zA, zA, zA, zA, zA, zA, zA], [oT Decl.cel, oT Ref07Scope.cel], none⟩
noncomputable def z1i_n3 : Nrm := ⟨[], [], [zA, zA, zA, zK, zA, zK, zA, zA, zA, zA, zA, zA, zA, zA, zA, zK, zA, zA, zA, zA, zA, zA, zA, zA, zA, zA, zA, zA, zA, zA, zA, zA, zA, zA, zA, zA, zA, zA, zA, zA, zA, zA, zA, zA, zA, zA, zA, zA, zA, zA, zA, zA, zA, zA, zA, zA, zA, zA, zA, zA, zA, zA, zA, zA, zA, zA, zA, zA, zA, zA, zA, zA, zA, zA, zA, zA, zA, zA, zA, zA, zA, zA, zA, zA, zA, zA, zA, zA, zA, zA, zA, zA, zA, zA, zA, zA, zA, zA, zA, zA, zA, zA, zA, zA, zA, zA, zA, zA, zA, zA, zA, zA, zA, zA, zA, zA, zA, zA, zA, zA, zA, zA, zA, zA, zA, zA, zA, zA, zA, zA, zA, zA, zA, zA, zA, zA, zA, zA, zA, zA, zA, zA, zA, zA, zA, zA, zA, zA, zA, zA, zA, zA, zA, zA, zA, zA, zA, zA, zA, zA, zA], [oT Decl.cel, oT Ref07Scope.cel], none⟩
noncomputable def z1i_n4 : Nrm := ⟨[], [], [zA, zA, zA, zK, zA, zK, zA, zA, zA, zA, zA, zA, zA, zK, zA, zA, zA, zA, zA, zA, zA, zA, zA, zA, zA, zA, zA, zA, zA, zA, zA, zA, zA, zA, zA, zA, zA, zA, zA, zA, zA, zA, zA, zA, zA, zA, zA, zA, zA, zA, zA, zA, zA, zA, zA, zA, zA, zA, zA, zA, zA, zA, zA, zA, zA, zA, zA, zA, zA, zA, zA, zA, zA, zA, zA, zA, zA, zA, zA, zA, zA, zA, zA, zA, zA, zA, zA, zA, zA, zA, zA, zA, zA, zA, zA, zA, zA, zA, zA, zA, zA, zA, zA, zA, zA, zA, zA, zA, zA, zA, zA, zA, zA, zA, zA, zA, zA, zA, zA, zA, zA, zA, zA, zA, zA, zA, zA, zA, zA, zA, zA, zA, zA, zA, zA, zA, zA, zA, zA, zA, zA, zA, zA, zA, zA, zA, zA, zA, zA, zA, zA, zA, zA, zA, zA, zA, zA, zA, zA, zA, zA], [oT Decl.cel, oC [zT (tyL Decl.row), zK, zK, zK, zK, zK, zK, zK, zT (tyL Level.row), zT (tyL Term.row), zK, zK, zK, zT (tyL Level.row), zT (tyL Term.row), zK, zT (tyL Ctor.row), zK, zK, zK, zK, zT (tyL Level.row), zT (tyL Term.row), zT (tyL Term.row), zT (tyL Fun.row)]], none⟩
noncomputable def z1i_m (n : Nat) : Mach Int where
  body := (Try.f121.body).getD .skip
  P := Try.prog
  cl := tabA [(126, ent1 (tyC Decl.cel) (tyL rowS) (z1h n)), (131, ent4 (tyC Ref07Scope.cel) (tyC Term.cel) (tyI .i64) (tyI .i64) (tyI .i64) (z11 n))]
  cd := tabD [(131, entD (ent4 (tyC Ref07Scope.cel) (tyC Term.cel) (tyI .i64) (tyI .i64) (tyI .i64) (z11 n))), (132, entD (ent4 (tyC Ref07Scope.cel) (tyC Tree.cel) (tyI .i64) (tyI .i64) (tyI .i64) (z12 n)))]
  nrm := tabN [([0, 1, 1, 1, 1, 1, 1, 1, 0, 1, 1, 1, 0, 1, 0, 1, 1, 1], z1i_n1), ([0, 1, 0, 1, 0, 1, 1, 1, 0, 1, 0, 1, 1, 1], z1i_n2), ([0, 1, 1, 1, 0, 1, 1, 1, 1, 1, 0, 1, 0, 1, 1, 1], z1i_n3), ([0, 1, 0, 0, 1, 1, 1, 1, 1, 0, 1, 0, 1, 1, 1], z1i_n4)]
  cut := tabF []
  n := n
  out := outR Try.prog [.tmp 4] (tyI .i64)
  isE := tabI []
theorem z1i_f (n : Nat) : (z1i_m n).P = Try.prog ∧ (z1i_m n).cl = tabA [(126, ent1 (tyC Decl.cel) (tyL rowS) (z1h n)), (131, ent4 (tyC Ref07Scope.cel) (tyC Term.cel) (tyI .i64) (tyI .i64) (tyI .i64) (z11 n))] ∧ (z1i_m n).cd = tabD [(131, entD (ent4 (tyC Ref07Scope.cel) (tyC Term.cel) (tyI .i64) (tyI .i64) (tyI .i64) (z11 n))), (132, entD (ent4 (tyC Ref07Scope.cel) (tyC Tree.cel) (tyI .i64) (tyI .i64) (tyI .i64) (z12 n)))] ∧ (z1i_m n).nrm = tabN [([0, 1, 1, 1, 1, 1, 1, 1, 0, 1, 1, 1, 0, 1, 0, 1, 1, 1], z1i_n1), ([0, 1, 0, 1, 0, 1, 1, 1, 0, 1, 0, 1, 1, 1], z1i_n2), ([0, 1, 1, 1, 0, 1, 1, 1, 1, 1, 0, 1, 0, 1, 1, 1], z1i_n3), ([0, 1, 0, 0, 1, 1, 1, 1, 1, 0, 1, 0, 1, 1, 1], z1i_n4)] ∧ (z1i_m n).cut = tabF [] ∧ (z1i_m n).n = n ∧ (z1i_m n).out = outR Try.prog [.tmp 4] (tyI .i64) ∧ (z1i_m n).isE = tabI [] := ⟨rfl, rfl, rfl, rfl, rfl, rfl, rfl, rfl⟩
theorem z1i_c (n : Nat) : (z1i_m n).body = (Try.f121.body).getD .skip := rfl
theorem z1i_d (n : Nat) : drawP (z1i_m n) [0, 0, 0, 1, 0, 0, 1, 0, 0, 1, 1, 1, 1, 1, 0, 1, 0, 1, 1, 1] = true ∧ drawP (z1i_m n) [0, 0, 0, 1, 0, 0, 1, 0, 1, 0, 1, 1, 1, 0, 1, 0, 1, 1, 1] = true ∧ drawP (z1i_m n) [0, 0, 0, 1, 0, 0, 1, 1, 1, 0, 1, 1, 1, 1, 1, 0, 1, 0, 1, 1, 1] = true ∧ drawP (z1i_m n) [0, 0, 0, 1, 0, 0, 1, 1, 1, 1, 1, 1, 1, 0, 1, 1, 1, 0, 1, 0, 1, 1, 1] = true := ⟨by kernel_rfl, by kernel_rfl, by kernel_rfl, by kernel_rfl⟩
noncomputable def z1i_b1 (n : Nat) : { B : (Int → Decl → Ref07Scope → Option Int) → Int → Decl → Ref07Scope → Option Int // ∀ m X0, (∀ (v0 : Int) (o0 : Decl) (o1 : Ref07Scope), run (z1i_m n) [.lq m [0, 1, 1, 1, 1, 1, 1, 1, 0, 1, 1, 1, 0, 1, 0, 1, 1, 1], .blk 3, .blk 0, .cut [1, 1, 1, 1], .at [1, 1, 1, 1]] ⟨[.any, .any, .any, .ptr 0 0, .any, .ptr 1 0, .any, .any, .any, .any, .any, .int .i64 v0, .any, .any, .any, .any, .any, .any, .any, .any, .any, .any, .any, .any, .any, .any, .any, .any, .any, .any, .any, .any, .any, .any, .any, .any, .any, .any, .any, .any, .any, .any, .any, .any, .any, .any, .any, .any, .any, .any, .any, .any, .any, .any, .any, .any, .any, .any, .any, .any, .any, .any, .any, .any, .any, .any, .any, .any, .any, .any, .any, .any, .any, .any, .any, .any, .any, .any, .any, .any, .any, .any, .any, .any, .any, .any, .any, .any, .any, .any, .any, .any, .any, .any, .any, .any, .any, .any, .any, .any, .any, .any, .any, .any, .any, .any, .any, .any, .any, .any, .any, .any, .any, .any, .any, .any, .any, .any, .any, .any, .any, .any, .any, .any, .any, .any, .any, .any, .any, .any, .any, .any, .any, .any, .any, .any, .any, .any, .any, .any, .any, .any, .any, .any, .any, .any, .any, .any, .any, .any, .any, .any, .any, .any, .any, .any, .any, .any, .any, .any, .any], [.cells (Decl.cells o0), .cells (Ref07Scope.cells o1)], 0⟩ = X0 v0 o0 o1) → ∀ (v0 : Int) (o0 : Decl) (o1 : Ref07Scope), run (z1i_m n) [.at [0, 0, 1, 1, 1, 1, 1, 1, 1, 0, 1, 1, 1, 0, 1, 0, 1, 1, 1], .lp m [0, 1, 1, 1, 1, 1, 1, 1, 0, 1, 1, 1, 0, 1, 0, 1, 1, 1], .blk 3, .blk 0, .cut [1, 1, 1, 1], .at [1, 1, 1, 1]] ⟨[.any, .any, .any, .ptr 0 0, .any, .ptr 1 0, .any, .any, .any, .any, .any, .int .i64 v0, .any, .any, .any, .any, .any, .any, .any, .any, .any, .any, .any, .any, .any, .any, .any, .any, .any, .any, .any, .any, .any, .any, .any, .any, .any, .any, .any, .any, .any, .any, .any, .any, .any, .any, .any, .any, .any, .any, .any, .any, .any, .any, .any, .any, .any, .any, .any, .any, .any, .any, .any, .any, .any, .any, .any, .any, .any, .any, .any, .any, .any, .any, .any, .any, .any, .any, .any, .any, .any, .any, .any, .any, .any, .any, .any, .any, .any, .any, .any, .any, .any, .any, .any, .any, .any, .any, .any, .any, .any, .any, .any, .any, .any, .any, .any, .any, .any, .any, .any, .any, .any, .any, .any, .any, .any, .any, .any, .any, .any, .any, .any, .any, .any, .any, .any, .any, .any, .any, .any, .any, .any, .any, .any, .any, .any, .any, .any, .any, .any, .any, .any, .any, .any, .any, .any, .any, .any, .any, .any, .any, .any, .any, .any, .any, .any, .any, .any, .any, .any], [.cells (Decl.cells o0), .cells (Ref07Scope.cells o1)], 0⟩ = B X0 v0 o0 o1 } := by
  apply Subtype.mk
  intro m X0 ih v0 o0 o1
  simp (maxSteps := 100000000) only [go_sem, Nat.reduceAdd, Nat.reduceSub, Nat.reduceLeDiff, Nat.reduceEqDiff, Nat.reduceBEq, Nat.reduceMul, Nat.reduceLT, Int.reduceLE, Int.reduceLT, Int.reduceToNat, Int.reduceBEq, Int.reduceEq, z1i_f, z1i_c, Try.f121, Option.getD_some, mixed, z1i_d, z1i_n1, z1i_n2, z1i_n3, z1i_n4, ih]
  exact rfl
noncomputable def z1i_l1 (n : Nat) : Nat → Int → Decl → Ref07Scope → Option Int
  | 0, _, _, _ => none
  | m + 1, v0, o0, o1 => (z1i_b1 n).1 (z1i_l1 n m) v0 o0 o1
theorem z1i_l1_eq (n : Nat) : ∀ (m : Nat), (∀ (v0 : Int) (o0 : Decl) (o1 : Ref07Scope), run (z1i_m n) [.lq m [0, 1, 1, 1, 1, 1, 1, 1, 0, 1, 1, 1, 0, 1, 0, 1, 1, 1], .blk 3, .blk 0, .cut [1, 1, 1, 1], .at [1, 1, 1, 1]] ⟨[.any, .any, .any, .ptr 0 0, .any, .ptr 1 0, .any, .any, .any, .any, .any, .int .i64 v0, .any, .any, .any, .any, .any, .any, .any, .any, .any, .any, .any, .any, .any, .any, .any, .any, .any, .any, .any, .any, .any, .any, .any, .any, .any, .any, .any, .any, .any, .any, .any, .any, .any, .any, .any, .any, .any, .any, .any, .any, .any, .any, .any, .any, .any, .any, .any, .any, .any, .any, .any, .any, .any, .any, .any, .any, .any, .any, .any, .any, .any, .any, .any, .any, .any, .any, .any, .any, .any, .any, .any, .any, .any, .any, .any, .any, .any, .any, .any, .any, .any, .any, .any, .any, .any, .any, .any, .any, .any, .any, .any, .any, .any, .any, .any, .any, .any, .any, .any, .any, .any, .any, .any, .any, .any, .any, .any, .any, .any, .any, .any, .any, .any, .any, .any, .any, .any, .any, .any, .any, .any, .any, .any, .any, .any, .any, .any, .any, .any, .any, .any, .any, .any, .any, .any, .any, .any, .any, .any, .any, .any, .any, .any, .any, .any, .any, .any, .any, .any], [.cells (Decl.cells o0), .cells (Ref07Scope.cells o1)], 0⟩ = z1i_l1 n m v0 o0 o1)
  | 0 => by intros; exact run_lq_zero
  | m + 1 => by
    have ih := z1i_l1_eq n m
    intro v0 o0 o1
    rw [run_lq_succ]
    exact (z1i_b1 n).2  m _  ih v0 o0 o1
noncomputable def z1i_b2 (n : Nat) : { B : (Int → Decl → Ref07Scope → Option Int) → Int → Decl → Ref07Scope → Option Int // ∀ m X0, (∀ (v0 : Int) (o0 : Decl) (o1 : Ref07Scope), run (z1i_m n) [.lq m [0, 1, 0, 1, 0, 1, 1, 1, 0, 1, 0, 1, 1, 1], .blk 1, .cut [1, 1, 0, 1, 1, 1, 0, 1, 0, 1, 1, 1], .at [1, 1, 0, 1, 1, 1, 0, 1, 0, 1, 1, 1], .blk 0, .cut [1, 1, 1, 1], .at [1, 1, 1, 1]] ⟨[.any, .any, .any, .ptr 0 0, .any, .ptr 1 0, .any, .int .i64 v0, .any, .any, .any, .any, .any, .any, .any, .any, .any, .any, .any, .any, .any, .any, .any, .any, .any, .any, .any, .any, .any, .any, .any, .any, .any, .any, .any, .any, .any, .any, .any, .any, .any, .any, .any, .any, .any, .any, .any, .any, .any, .any, .any, .any, .any, .any, .any, .any, .any, .any, .any, .any, .any, .any, .any, .any, .any, .any, .any, .any, .any, .any, .any, .any, .any, .any, .any, .any, .any, .any, .any, .any, .any, .any, .any, .any, .any, .any, .any, .any, .any, .any, .any, .any, .any, .any, .any, .any, .any, .any, .any, .any, .any, .any, .any, .any, .any, .any, .any, .any, .any, .any, .any, .any, .any, .any, .any, .any, .any, .any, .any, .any, .any, .any, .any, .any, .any, .any, .any, .any, .any, .any, .any, .any, .any, .any, .any, .any, .any, .any, .any, .any, .any, .any, .any, .any, .any, .any, .any, .any, .any, .any, .any, .any, .any, .any, .any, .any, .any, .any, .any, .any, .any], [.cells (Decl.cells o0), .cells (Ref07Scope.cells o1)], 0⟩ = X0 v0 o0 o1) → ∀ (v0 : Int) (o0 : Decl) (o1 : Ref07Scope), run (z1i_m n) [.at [0, 0, 1, 0, 1, 0, 1, 1, 1, 0, 1, 0, 1, 1, 1], .lp m [0, 1, 0, 1, 0, 1, 1, 1, 0, 1, 0, 1, 1, 1], .blk 1, .cut [1, 1, 0, 1, 1, 1, 0, 1, 0, 1, 1, 1], .at [1, 1, 0, 1, 1, 1, 0, 1, 0, 1, 1, 1], .blk 0, .cut [1, 1, 1, 1], .at [1, 1, 1, 1]] ⟨[.any, .any, .any, .ptr 0 0, .any, .ptr 1 0, .any, .int .i64 v0, .any, .any, .any, .any, .any, .any, .any, .any, .any, .any, .any, .any, .any, .any, .any, .any, .any, .any, .any, .any, .any, .any, .any, .any, .any, .any, .any, .any, .any, .any, .any, .any, .any, .any, .any, .any, .any, .any, .any, .any, .any, .any, .any, .any, .any, .any, .any, .any, .any, .any, .any, .any, .any, .any, .any, .any, .any, .any, .any, .any, .any, .any, .any, .any, .any, .any, .any, .any, .any, .any, .any, .any, .any, .any, .any, .any, .any, .any, .any, .any, .any, .any, .any, .any, .any, .any, .any, .any, .any, .any, .any, .any, .any, .any, .any, .any, .any, .any, .any, .any, .any, .any, .any, .any, .any, .any, .any, .any, .any, .any, .any, .any, .any, .any, .any, .any, .any, .any, .any, .any, .any, .any, .any, .any, .any, .any, .any, .any, .any, .any, .any, .any, .any, .any, .any, .any, .any, .any, .any, .any, .any, .any, .any, .any, .any, .any, .any, .any, .any, .any, .any, .any, .any], [.cells (Decl.cells o0), .cells (Ref07Scope.cells o1)], 0⟩ = B X0 v0 o0 o1 } := by
  apply Subtype.mk
  intro m X0 ih v0 o0 o1
  simp (maxSteps := 100000000) only [go_sem, Nat.reduceAdd, Nat.reduceSub, Nat.reduceLeDiff, Nat.reduceEqDiff, Nat.reduceBEq, Nat.reduceMul, Nat.reduceLT, Int.reduceLE, Int.reduceLT, Int.reduceToNat, Int.reduceBEq, Int.reduceEq, z1i_f, z1i_c, Try.f121, Option.getD_some, mixed, z1i_d, z1i_n1, z1i_n2, z1i_n3, z1i_n4, z1i_l1_eq n, ih]
  exact rfl
noncomputable def z1i_l2 (n : Nat) : Nat → Int → Decl → Ref07Scope → Option Int
  | 0, _, _, _ => none
  | m + 1, v0, o0, o1 => (z1i_b2 n).1 (z1i_l2 n m) v0 o0 o1
theorem z1i_l2_eq (n : Nat) : ∀ (m : Nat), (∀ (v0 : Int) (o0 : Decl) (o1 : Ref07Scope), run (z1i_m n) [.lq m [0, 1, 0, 1, 0, 1, 1, 1, 0, 1, 0, 1, 1, 1], .blk 1, .cut [1, 1, 0, 1, 1, 1, 0, 1, 0, 1, 1, 1], .at [1, 1, 0, 1, 1, 1, 0, 1, 0, 1, 1, 1], .blk 0, .cut [1, 1, 1, 1], .at [1, 1, 1, 1]] ⟨[.any, .any, .any, .ptr 0 0, .any, .ptr 1 0, .any, .int .i64 v0, .any, .any, .any, .any, .any, .any, .any, .any, .any, .any, .any, .any, .any, .any, .any, .any, .any, .any, .any, .any, .any, .any, .any, .any, .any, .any, .any, .any, .any, .any, .any, .any, .any, .any, .any, .any, .any, .any, .any, .any, .any, .any, .any, .any, .any, .any, .any, .any, .any, .any, .any, .any, .any, .any, .any, .any, .any, .any, .any, .any, .any, .any, .any, .any, .any, .any, .any, .any, .any, .any, .any, .any, .any, .any, .any, .any, .any, .any, .any, .any, .any, .any, .any, .any, .any, .any, .any, .any, .any, .any, .any, .any, .any, .any, .any, .any, .any, .any, .any, .any, .any, .any, .any, .any, .any, .any, .any, .any, .any, .any, .any, .any, .any, .any, .any, .any, .any, .any, .any, .any, .any, .any, .any, .any, .any, .any, .any, .any, .any, .any, .any, .any, .any, .any, .any, .any, .any, .any, .any, .any, .any, .any, .any, .any, .any, .any, .any, .any, .any, .any, .any, .any, .any], [.cells (Decl.cells o0), .cells (Ref07Scope.cells o1)], 0⟩ = z1i_l2 n m v0 o0 o1)
  | 0 => by intros; exact run_lq_zero
  | m + 1 => by
    have ih := z1i_l2_eq n m
    intro v0 o0 o1
    rw [run_lq_succ]
    exact (z1i_b2 n).2  m _  ih v0 o0 o1
noncomputable def z1i_b3 (n : Nat) : { B : (Int → Decl → Ref07Scope → Option Int) → Int → Decl → Ref07Scope → Option Int // ∀ m X0, (∀ (v0 : Int) (o0 : Decl) (o1 : Ref07Scope), run (z1i_m n) [.lq m [0, 1, 1, 1, 0, 1, 1, 1, 1, 1, 0, 1, 0, 1, 1, 1], .blk 7, .blk 0, .cut [1, 1, 1, 1], .at [1, 1, 1, 1]] ⟨[.any, .any, .any, .ptr 0 0, .any, .ptr 1 0, .any, .any, .any, .any, .any, .any, .any, .any, .any, .int .i64 v0, .any, .any, .any, .any, .any, .any, .any, .any, .any, .any, .any, .any, .any, .any, .any, .any, .any, .any, .any, .any, .any, .any, .any, .any, .any, .any, .any, .any, .any, .any, .any, .any, .any, .any, .any, .any, .any, .any, .any, .any, .any, .any, .any, .any, .any, .any, .any, .any, .any, .any, .any, .any, .any, .any, .any, .any, .any, .any, .any, .any, .any, .any, .any, .any, .any, .any, .any, .any, .any, .any, .any, .any, .any, .any, .any, .any, .any, .any, .any, .any, .any, .any, .any, .any, .any, .any, .any, .any, .any, .any, .any, .any, .any, .any, .any, .any, .any, .any, .any, .any, .any, .any, .any, .any, .any, .any, .any, .any, .any, .any, .any, .any, .any, .any, .any, .any, .any, .any, .any, .any, .any, .any, .any, .any, .any, .any, .any, .any, .any, .any, .any, .any, .any, .any, .any, .any, .any, .any, .any, .any, .any, .any, .any, .any, .any], [.cells (Decl.cells o0), .cells (Ref07Scope.cells o1)], 0⟩ = X0 v0 o0 o1) → ∀ (v0 : Int) (o0 : Decl) (o1 : Ref07Scope), run (z1i_m n) [.at [0, 0, 1, 1, 1, 0, 1, 1, 1, 1, 1, 0, 1, 0, 1, 1, 1], .lp m [0, 1, 1, 1, 0, 1, 1, 1, 1, 1, 0, 1, 0, 1, 1, 1], .blk 7, .blk 0, .cut [1, 1, 1, 1], .at [1, 1, 1, 1]] ⟨[.any, .any, .any, .ptr 0 0, .any, .ptr 1 0, .any, .any, .any, .any, .any, .any, .any, .any, .any, .int .i64 v0, .any, .any, .any, .any, .any, .any, .any, .any, .any, .any, .any, .any, .any, .any, .any, .any, .any, .any, .any, .any, .any, .any, .any, .any, .any, .any, .any, .any, .any, .any, .any, .any, .any, .any, .any, .any, .any, .any, .any, .any, .any, .any, .any, .any, .any, .any, .any, .any, .any, .any, .any, .any, .any, .any, .any, .any, .any, .any, .any, .any, .any, .any, .any, .any, .any, .any, .any, .any, .any, .any, .any, .any, .any, .any, .any, .any, .any, .any, .any, .any, .any, .any, .any, .any, .any, .any, .any, .any, .any, .any, .any, .any, .any, .any, .any, .any, .any, .any, .any, .any, .any, .any, .any, .any, .any, .any, .any, .any, .any, .any, .any, .any, .any, .any, .any, .any, .any, .any, .any, .any, .any, .any, .any, .any, .any, .any, .any, .any, .any, .any, .any, .any, .any, .any, .any, .any, .any, .any, .any, .any, .any, .any, .any, .any, .any], [.cells (Decl.cells o0), .cells (Ref07Scope.cells o1)], 0⟩ = B X0 v0 o0 o1 } := by
  apply Subtype.mk
  intro m X0 ih v0 o0 o1
  simp (maxSteps := 100000000) only [go_sem, Nat.reduceAdd, Nat.reduceSub, Nat.reduceLeDiff, Nat.reduceEqDiff, Nat.reduceBEq, Nat.reduceMul, Nat.reduceLT, Int.reduceLE, Int.reduceLT, Int.reduceToNat, Int.reduceBEq, Int.reduceEq, z1i_f, z1i_c, Try.f121, Option.getD_some, mixed, z1i_d, z1i_n1, z1i_n2, z1i_n3, z1i_n4, z1i_l1_eq n, z1i_l2_eq n, ih]
  exact rfl
noncomputable def z1i_l3 (n : Nat) : Nat → Int → Decl → Ref07Scope → Option Int
  | 0, _, _, _ => none
  | m + 1, v0, o0, o1 => (z1i_b3 n).1 (z1i_l3 n m) v0 o0 o1
theorem z1i_l3_eq (n : Nat) : ∀ (m : Nat), (∀ (v0 : Int) (o0 : Decl) (o1 : Ref07Scope), run (z1i_m n) [.lq m [0, 1, 1, 1, 0, 1, 1, 1, 1, 1, 0, 1, 0, 1, 1, 1], .blk 7, .blk 0, .cut [1, 1, 1, 1], .at [1, 1, 1, 1]] ⟨[.any, .any, .any, .ptr 0 0, .any, .ptr 1 0, .any, .any, .any, .any, .any, .any, .any, .any, .any, .int .i64 v0, .any, .any, .any, .any, .any, .any, .any, .any, .any, .any, .any, .any, .any, .any, .any, .any, .any, .any, .any, .any, .any, .any, .any, .any, .any, .any, .any, .any, .any, .any, .any, .any, .any, .any, .any, .any, .any, .any, .any, .any, .any, .any, .any, .any, .any, .any, .any, .any, .any, .any, .any, .any, .any, .any, .any, .any, .any, .any, .any, .any, .any, .any, .any, .any, .any, .any, .any, .any, .any, .any, .any, .any, .any, .any, .any, .any, .any, .any, .any, .any, .any, .any, .any, .any, .any, .any, .any, .any, .any, .any, .any, .any, .any, .any, .any, .any, .any, .any, .any, .any, .any, .any, .any, .any, .any, .any, .any, .any, .any, .any, .any, .any, .any, .any, .any, .any, .any, .any, .any, .any, .any, .any, .any, .any, .any, .any, .any, .any, .any, .any, .any, .any, .any, .any, .any, .any, .any, .any, .any, .any, .any, .any, .any, .any, .any], [.cells (Decl.cells o0), .cells (Ref07Scope.cells o1)], 0⟩ = z1i_l3 n m v0 o0 o1)
  | 0 => by intros; exact run_lq_zero
  | m + 1 => by
    have ih := z1i_l3_eq n m
    intro v0 o0 o1
    rw [run_lq_succ]
    exact (z1i_b3 n).2  m _  ih v0 o0 o1
noncomputable def z1i_b4 (n : Nat) : { B : (Int → Decl → (List Decl) → Int → Str → Int → Int → Int → Str → (List Level) → (List Term) → Int → Int → Str → (List Level) → (List Term) → Int → (List Ctor) → Int → Int → Int → Str → (List Level) → (List Term) → (List Term) → (List Fun) → Option Int) → Int → Decl → (List Decl) → Int → Str → Int → Int → Int → Str → (List Level) → (List Term) → Int → Int → Str → (List Level) → (List Term) → Int → (List Ctor) → Int → Int → Int → Str → (List Level) → (List Term) → (List Term) → (List Fun) → Option Int // ∀ m X0, (∀ (v0 : Int) (o0 : Decl) (v2 : List Decl) (v3 : Int) (v4 : Str) (v5 : Int) (v6 : Int) (v7 : Int) (v8 : Str) (v9 : List Level) (v10 : List Term) (v11 : Int) (v12 : Int) (v13 : Str) (v14 : List Level) (v15 : List Term) (v16 : Int) (v17 : List Ctor) (v18 : Int) (v19 : Int) (v20 : Int) (v21 : Str) (v22 : List Level) (v23 : List Term) (v24 : List Term) (v25 : List Fun), run (z1i_m n) [.lq m [0, 1, 0, 0, 1, 1, 1, 1, 1, 0, 1, 0, 1, 1, 1], .blk 5, .cut [1, 0, 1, 1, 1, 1, 1, 0, 1, 0, 1, 1, 1], .at [1, 0, 1, 1, 1, 1, 1, 0, 1, 0, 1, 1, 1], .blk 0, .cut [1, 1, 1, 1], .at [1, 1, 1, 1]] ⟨[.any, .any, .any, .ptr 0 0, .any, .ptr 1 0, .any, .any, .any, .any, .any, .any, .any, .int .i64 v0, .any, .any, .any, .any, .any, .any, .any, .any, .any, .any, .any, .any, .any, .any, .any, .any, .any, .any, .any, .any, .any, .any, .any, .any, .any, .any, .any, .any, .any, .any, .any, .any, .any, .any, .any, .any, .any, .any, .any, .any, .any, .any, .any, .any, .any, .any, .any, .any, .any, .any, .any, .any, .any, .any, .any, .any, .any, .any, .any, .any, .any, .any, .any, .any, .any, .any, .any, .any, .any, .any, .any, .any, .any, .any, .any, .any, .any, .any, .any, .any, .any, .any, .any, .any, .any, .any, .any, .any, .any, .any, .any, .any, .any, .any, .any, .any, .any, .any, .any, .any, .any, .any, .any, .any, .any, .any, .any, .any, .any, .any, .any, .any, .any, .any, .any, .any, .any, .any, .any, .any, .any, .any, .any, .any, .any, .any, .any, .any, .any, .any, .any, .any, .any, .any, .any, .any, .any, .any, .any, .any, .any, .any, .any, .any, .any, .any, .any], [.cells (Decl.cells o0), .cells [.lst false 23 (mp Decl.cells v2), .lst true 0 [], .int .i64 v3, .str (sb v4), .int .i64 v5, .int .i64 v6, .int .i64 v7, .str (sb v8), .lst false 2 (mp Level.cells v9), .lst false 5 (mp Term.cells v10), .int .i64 v11, .int .i64 v12, .str (sb v13), .lst false 2 (mp Level.cells v14), .lst false 5 (mp Term.cells v15), .int .i64 v16, .lst false 6 (mp Ctor.cells v17), .int .i64 v18, .int .i64 v19, .int .i64 v20, .str (sb v21), .lst false 2 (mp Level.cells v22), .lst false 5 (mp Term.cells v23), .lst false 5 (mp Term.cells v24), .lst false 15 (mp Fun.cells v25)]], 0⟩ = X0 v0 o0 v2 v3 v4 v5 v6 v7 v8 v9 v10 v11 v12 v13 v14 v15 v16 v17 v18 v19 v20 v21 v22 v23 v24 v25) → ∀ (v0 : Int) (o0 : Decl) (v2 : List Decl) (v3 : Int) (v4 : Str) (v5 : Int) (v6 : Int) (v7 : Int) (v8 : Str) (v9 : List Level) (v10 : List Term) (v11 : Int) (v12 : Int) (v13 : Str) (v14 : List Level) (v15 : List Term) (v16 : Int) (v17 : List Ctor) (v18 : Int) (v19 : Int) (v20 : Int) (v21 : Str) (v22 : List Level) (v23 : List Term) (v24 : List Term) (v25 : List Fun), run (z1i_m n) [.at [0, 0, 1, 0, 0, 1, 1, 1, 1, 1, 0, 1, 0, 1, 1, 1], .lp m [0, 1, 0, 0, 1, 1, 1, 1, 1, 0, 1, 0, 1, 1, 1], .blk 5, .cut [1, 0, 1, 1, 1, 1, 1, 0, 1, 0, 1, 1, 1], .at [1, 0, 1, 1, 1, 1, 1, 0, 1, 0, 1, 1, 1], .blk 0, .cut [1, 1, 1, 1], .at [1, 1, 1, 1]] ⟨[.any, .any, .any, .ptr 0 0, .any, .ptr 1 0, .any, .any, .any, .any, .any, .any, .any, .int .i64 v0, .any, .any, .any, .any, .any, .any, .any, .any, .any, .any, .any, .any, .any, .any, .any, .any, .any, .any, .any, .any, .any, .any, .any, .any, .any, .any, .any, .any, .any, .any, .any, .any, .any, .any, .any, .any, .any, .any, .any, .any, .any, .any, .any, .any, .any, .any, .any, .any, .any, .any, .any, .any, .any, .any, .any, .any, .any, .any, .any, .any, .any, .any, .any, .any, .any, .any, .any, .any, .any, .any, .any, .any, .any, .any, .any, .any, .any, .any, .any, .any, .any, .any, .any, .any, .any, .any, .any, .any, .any, .any, .any, .any, .any, .any, .any, .any, .any, .any, .any, .any, .any, .any, .any, .any, .any, .any, .any, .any, .any, .any, .any, .any, .any, .any, .any, .any, .any, .any, .any, .any, .any, .any, .any, .any, .any, .any, .any, .any, .any, .any, .any, .any, .any, .any, .any, .any, .any, .any, .any, .any, .any, .any, .any, .any, .any, .any, .any], [.cells (Decl.cells o0), .cells [.lst false 23 (mp Decl.cells v2), .lst true 0 [], .int .i64 v3, .str (sb v4), .int .i64 v5, .int .i64 v6, .int .i64 v7, .str (sb v8), .lst false 2 (mp Level.cells v9), .lst false 5 (mp Term.cells v10), .int .i64 v11, .int .i64 v12, .str (sb v13), .lst false 2 (mp Level.cells v14), .lst false 5 (mp Term.cells v15), .int .i64 v16, .lst false 6 (mp Ctor.cells v17), .int .i64 v18, .int .i64 v19, .int .i64 v20, .str (sb v21), .lst false 2 (mp Level.cells v22), .lst false 5 (mp Term.cells v23), .lst false 5 (mp Term.cells v24), .lst false 15 (mp Fun.cells v25)]], 0⟩ = B X0 v0 o0 v2 v3 v4 v5 v6 v7 v8 v9 v10 v11 v12 v13 v14 v15 v16 v17 v18 v19 v20 v21 v22 v23 v24 v25 } := by
  apply Subtype.mk
  intro m X0 ih v0 o0 v2 v3 v4 v5 v6 v7 v8 v9 v10 v11 v12 v13 v14 v15 v16 v17 v18 v19 v20 v21 v22 v23 v24 v25
  simp (maxSteps := 100000000) only [go_sem, Nat.reduceAdd, Nat.reduceSub, Nat.reduceLeDiff, Nat.reduceEqDiff, Nat.reduceBEq, Nat.reduceMul, Nat.reduceLT, Int.reduceLE, Int.reduceLT, Int.reduceToNat, Int.reduceBEq, Int.reduceEq, z1i_f, z1i_c, Try.f121, Option.getD_some, mixed, z1i_d, z1i_n1, z1i_n2, z1i_n3, z1i_n4, z1i_l1_eq n, z1i_l2_eq n, z1i_l3_eq n, ih]
  exact rfl
noncomputable def z1i_l4 (n : Nat) : Nat → Int → Decl → (List Decl) → Int → Str → Int → Int → Int → Str → (List Level) → (List Term) → Int → Int → Str → (List Level) → (List Term) → Int → (List Ctor) → Int → Int → Int → Str → (List Level) → (List Term) → (List Term) → (List Fun) → Option Int
  | 0, _, _, _, _, _, _, _, _, _, _, _, _, _, _, _, _, _, _, _, _, _, _, _, _, _, _ => none
  | m + 1, v0, o0, v2, v3, v4, v5, v6, v7, v8, v9, v10, v11, v12, v13, v14, v15, v16, v17, v18, v19, v20, v21, v22, v23, v24, v25 => (z1i_b4 n).1 (z1i_l4 n m) v0 o0 v2 v3 v4 v5 v6 v7 v8 v9 v10 v11 v12 v13 v14 v15 v16 v17 v18 v19 v20 v21 v22 v23 v24 v25
theorem z1i_l4_eq (n : Nat) : ∀ (m : Nat), (∀ (v0 : Int) (o0 : Decl) (v2 : List Decl) (v3 : Int) (v4 : Str) (v5 : Int) (v6 : Int) (v7 : Int) (v8 : Str) (v9 : List Level) (v10 : List Term) (v11 : Int) (v12 : Int) (v13 : Str) (v14 : List Level) (v15 : List Term) (v16 : Int) (v17 : List Ctor) (v18 : Int) (v19 : Int) (v20 : Int) (v21 : Str) (v22 : List Level) (v23 : List Term) (v24 : List Term) (v25 : List Fun), run (z1i_m n) [.lq m [0, 1, 0, 0, 1, 1, 1, 1, 1, 0, 1, 0, 1, 1, 1], .blk 5, .cut [1, 0, 1, 1, 1, 1, 1, 0, 1, 0, 1, 1, 1], .at [1, 0, 1, 1, 1, 1, 1, 0, 1, 0, 1, 1, 1], .blk 0, .cut [1, 1, 1, 1], .at [1, 1, 1, 1]] ⟨[.any, .any, .any, .ptr 0 0, .any, .ptr 1 0, .any, .any, .any, .any, .any, .any, .any, .int .i64 v0, .any, .any, .any, .any, .any, .any, .any, .any, .any, .any, .any, .any, .any, .any, .any, .any, .any, .any, .any, .any, .any, .any, .any, .any, .any, .any, .any, .any, .any, .any, .any, .any, .any, .any, .any, .any, .any, .any, .any, .any, .any, .any, .any, .any, .any, .any, .any, .any, .any, .any, .any, .any, .any, .any, .any, .any, .any, .any, .any, .any, .any, .any, .any, .any, .any, .any, .any, .any, .any, .any, .any, .any, .any, .any, .any, .any, .any, .any, .any, .any, .any, .any, .any, .any, .any, .any, .any, .any, .any, .any, .any, .any, .any, .any, .any, .any, .any, .any, .any, .any, .any, .any, .any, .any, .any, .any, .any, .any, .any, .any, .any, .any, .any, .any, .any, .any, .any, .any, .any, .any, .any, .any, .any, .any, .any, .any, .any, .any, .any, .any, .any, .any, .any, .any, .any, .any, .any, .any, .any, .any, .any, .any, .any, .any, .any, .any, .any], [.cells (Decl.cells o0), .cells [.lst false 23 (mp Decl.cells v2), .lst true 0 [], .int .i64 v3, .str (sb v4), .int .i64 v5, .int .i64 v6, .int .i64 v7, .str (sb v8), .lst false 2 (mp Level.cells v9), .lst false 5 (mp Term.cells v10), .int .i64 v11, .int .i64 v12, .str (sb v13), .lst false 2 (mp Level.cells v14), .lst false 5 (mp Term.cells v15), .int .i64 v16, .lst false 6 (mp Ctor.cells v17), .int .i64 v18, .int .i64 v19, .int .i64 v20, .str (sb v21), .lst false 2 (mp Level.cells v22), .lst false 5 (mp Term.cells v23), .lst false 5 (mp Term.cells v24), .lst false 15 (mp Fun.cells v25)]], 0⟩ = z1i_l4 n m v0 o0 v2 v3 v4 v5 v6 v7 v8 v9 v10 v11 v12 v13 v14 v15 v16 v17 v18 v19 v20 v21 v22 v23 v24 v25)
  | 0 => by intros; exact run_lq_zero
  | m + 1 => by
    have ih := z1i_l4_eq n m
    intro v0 o0 v2 v3 v4 v5 v6 v7 v8 v9 v10 v11 v12 v13 v14 v15 v16 v17 v18 v19 v20 v21 v22 v23 v24 v25
    rw [run_lq_succ]
    exact (z1i_b4 n).2  m _  ih v0 o0 v2 v3 v4 v5 v6 v7 v8 v9 v10 v11 v12 v13 v14 v15 v16 v17 v18 v19 v20 v21 v22 v23 v24 v25
noncomputable def z1i_e (n : Nat) : { B : (List Decl) → Decl → Option Int // ∀ (a0 : (List Decl)) (a1 : Decl), run (z1i_m n) [.at []] { slots := [(tyL Decl.row).enc a0, (tyC Decl.cel).enc a1] ++ List.replicate (161 - [(tyL Decl.row).enc a0, (tyC Decl.cel).enc a1].length) .any, heap := [] } = B a0 a1 } := by
  apply Subtype.mk
  intro a0 a1
  simp (maxSteps := 100000000) only [go_sem, Nat.reduceAdd, Nat.reduceSub, Nat.reduceLeDiff, Nat.reduceEqDiff, Nat.reduceBEq, Nat.reduceMul, Nat.reduceLT, Int.reduceLE, Int.reduceLT, Int.reduceToNat, Int.reduceBEq, Int.reduceEq, z1i_f, z1i_c, Try.f121, Option.getD_some, mixed, z1i_d, z1i_n1, z1i_n2, z1i_n3, z1i_n4, z1i_l1_eq n, z1i_l2_eq n, z1i_l3_eq n, z1i_l4_eq n]
  exact rfl
noncomputable def z1i : Nat → (List Decl) → Decl → Option Int
  | 0, _, _ => none
  | n + 1, a0, a1 => (z1i_e n).1 a0 a1
theorem z1i_ok : ∀ (n : Nat) (a0 : (List Decl)) (a1 : Decl) (r : Int), z1i n a0 a1 = some r → FnC Try.prog 121 [(tyL Decl.row).enc a0, (tyC Decl.cel).enc a1] (fun v => v = (tyI .i64).enc r)
  | 0, _, _, _, h => by cases h
  | n + 1, a0, a1, r, h => by
    exact fnC_run (M := z1i_m n) ⟨(tabA_cons_ok (ent1_ok (z1h_ok n)) (tabA_cons_ok (ent4_ok (z11_ok n)) tabA_nil_ok)), (tabD_cons_ok (ent4_okD (z11_ok n)) (tabD_cons_ok (ent4_okD (z12_ok n)) tabD_nil_ok)), tabN_ok _, tabF_ok _, noY_ok, noE_ok⟩ Try.func121 rfl rfl ⟨(tyL Decl.row).nb 0 _, (tyC Decl.cel).nb 0 _, trivial⟩ Try.ntmps121 Try.results121 (fun σ hs => outR_ok (P := Try.prog) (rs := [.tmp 4]) (t := (tyI .i64)) (σ := σ) (r := r) hs) (((z1i_e n).2 a0 a1).trans h)

noncomputable def z04_n1 : Nrm := ⟨[(5, 3, true)], [], [zA, zA, zK, zA, zA, zK, zA, zA, zA, zA, zA, zA, zT (tyL Term.row), zK, zK, zA, zA, zA, zA, zA, zA, zA, zA, zA, zA, zA, zA, zA, zA, zA, zA, zA, zA, zA, zA, zA, zA, zA, zA, zA, zA, zA, zA, zA, zA], [oT FamilyShape.cel, oA RecField.row], none⟩
noncomputable def z04_m (n : Nat) : Mach (List RecField) where
  body := (Try.f99.body).getD .skip
  P := Try.prog
  cl := tabA [(49, ent1 (tyC Term.cel) (ty2 (tyL Term.row) (tyC Term.cel)) (z0w n)), (98, ent3 (tyC FamilyShape.cel) (tyC Term.cel) (tyI .i64) (ty2 (tyL Term.row) tyB) (z06 n))]
  cd := tabD []
  nrm := tabN [([0, 1, 0, 1, 1, 0, 1], z04_n1)]
  cut := tabF []
  n := n
  out := outR Try.prog [.tmp 4] (tyL RecField.row)
theorem z04_f (n : Nat) : (z04_m n).P = Try.prog ∧ (z04_m n).cl = tabA [(49, ent1 (tyC Term.cel) (ty2 (tyL Term.row) (tyC Term.cel)) (z0w n)), (98, ent3 (tyC FamilyShape.cel) (tyC Term.cel) (tyI .i64) (ty2 (tyL Term.row) tyB) (z06 n))] ∧ (z04_m n).cd = tabD [] ∧ (z04_m n).nrm = tabN [([0, 1, 0, 1, 1, 0, 1], z04_n1)] ∧ (z04_m n).cut = tabF [] ∧ (z04_m n).n = n ∧ (z04_m n).out = outR Try.prog [.tmp 4] (tyL RecField.row) := ⟨rfl, rfl, rfl, rfl, rfl, rfl, rfl⟩
theorem z04_c (n : Nat) : (z04_m n).body = (Try.f99.body).getD .skip := rfl
noncomputable def z04_b1 (n : Nat) : { B : ((List Term) → Int → Int → FamilyShape → (List RecField) → Option (List RecField)) → (List Term) → Int → Int → FamilyShape → (List RecField) → Option (List RecField) // ∀ m X0, (∀ (v0 : List Term) (v1 : Int) (v2 : Int) (o0 : FamilyShape) (r1 : List RecField) (c1 : Nat), c1 = r1.length → run (z04_m n) [.lq m [0, 1, 0, 1, 1, 0, 1], .blk 0, .cut [1, 1, 1, 0, 1], .at [1, 1, 1, 0, 1]] ⟨[.any, .any, .ptr 0 0, .any, .any, .acc 1 c1, .any, .any, .any, .any, .any, .any, .lst false 5 (mp Term.cells v0), .int .i64 v1, .int .i64 v2, .any, .any, .any, .any, .any, .any, .any, .any, .any, .any, .any, .any, .any, .any, .any, .any, .any, .any, .any, .any, .any, .any, .any, .any, .any, .any, .any, .any, .any, .any], [.cells (FamilyShape.cells o0), .acc true 3 (mp RecField.cells r1)], 0⟩ = X0 v0 v1 v2 o0 r1) → ∀ (v0 : List Term) (v1 : Int) (v2 : Int) (o0 : FamilyShape) (r1 : List RecField), run (z04_m n) [.at [0, 0, 1, 0, 1, 1, 0, 1], .lp m [0, 1, 0, 1, 1, 0, 1], .blk 0, .cut [1, 1, 1, 0, 1], .at [1, 1, 1, 0, 1]] ⟨[.any, .any, .ptr 0 0, .any, .any, .acc 1 r1.length, .any, .any, .any, .any, .any, .any, .lst false 5 (mp Term.cells v0), .int .i64 v1, .int .i64 v2, .any, .any, .any, .any, .any, .any, .any, .any, .any, .any, .any, .any, .any, .any, .any, .any, .any, .any, .any, .any, .any, .any, .any, .any, .any, .any, .any, .any, .any, .any], [.cells (FamilyShape.cells o0), .acc true 3 (mp RecField.cells r1)], 0⟩ = B X0 v0 v1 v2 o0 r1 } := by
  apply Subtype.mk
  intro m X0 ih v0 v1 v2 o0 r1
  simp (maxSteps := 100000000) only [go_sem, Nat.reduceAdd, Nat.reduceSub, Nat.reduceLeDiff, Nat.reduceEqDiff, Nat.reduceBEq, Nat.reduceMul, Nat.reduceLT, Int.reduceLE, Int.reduceLT, Int.reduceToNat, Int.reduceBEq, Int.reduceEq, z04_f, z04_c, Try.f99, Option.getD_some, mixed, z04_n1, ih]
  exact rfl
noncomputable def z04_l1 (n : Nat) : Nat → (List Term) → Int → Int → FamilyShape → (List RecField) → Option (List RecField)
  | 0, _, _, _, _, _ => none
  | m + 1, v0, v1, v2, o0, r1 => (z04_b1 n).1 (z04_l1 n m) v0 v1 v2 o0 r1
theorem z04_l1_eq (n : Nat) : ∀ (m : Nat), (∀ (v0 : List Term) (v1 : Int) (v2 : Int) (o0 : FamilyShape) (r1 : List RecField) (c1 : Nat), c1 = r1.length → run (z04_m n) [.lq m [0, 1, 0, 1, 1, 0, 1], .blk 0, .cut [1, 1, 1, 0, 1], .at [1, 1, 1, 0, 1]] ⟨[.any, .any, .ptr 0 0, .any, .any, .acc 1 c1, .any, .any, .any, .any, .any, .any, .lst false 5 (mp Term.cells v0), .int .i64 v1, .int .i64 v2, .any, .any, .any, .any, .any, .any, .any, .any, .any, .any, .any, .any, .any, .any, .any, .any, .any, .any, .any, .any, .any, .any, .any, .any, .any, .any, .any, .any, .any, .any], [.cells (FamilyShape.cells o0), .acc true 3 (mp RecField.cells r1)], 0⟩ = z04_l1 n m v0 v1 v2 o0 r1)
  | 0 => by intros; exact run_lq_zero
  | m + 1 => by
    have ih := z04_l1_eq n m
    intro v0 v1 v2 o0 r1 c1 ec1
    subst ec1
    rw [run_lq_succ]
    exact (z04_b1 n).2  m _  ih v0 v1 v2 o0 r1
noncomputable def z04_e (n : Nat) : { B : FamilyShape → (List Term) → Option (List RecField) // ∀ (a0 : FamilyShape) (a1 : (List Term)), run (z04_m n) [.at []] { slots := [(tyC FamilyShape.cel).enc a0, (tyL Term.row).enc a1] ++ List.replicate (45 - [(tyC FamilyShape.cel).enc a0, (tyL Term.row).enc a1].length) .any, heap := [] } = B a0 a1 } := by
  apply Subtype.mk
  intro a0 a1
  simp (maxSteps := 100000000) only [go_sem, Nat.reduceAdd, Nat.reduceSub, Nat.reduceLeDiff, Nat.reduceEqDiff, Nat.reduceBEq, Nat.reduceMul, Nat.reduceLT, Int.reduceLE, Int.reduceLT, Int.reduceToNat, Int.reduceBEq, Int.reduceEq, z04_f, z04_c, Try.f99, Option.getD_some, mixed, z04_n1, z04_l1_eq n]
  exact rfl
noncomputable def z04 : Nat → FamilyShape → (List Term) → Option (List RecField)
  | 0, _, _ => none
  | n + 1, a0, a1 => (z04_e n).1 a0 a1
theorem z04_ok : ∀ (n : Nat) (a0 : FamilyShape) (a1 : (List Term)) (r : (List RecField)), z04 n a0 a1 = some r → FnC Try.prog 99 [(tyC FamilyShape.cel).enc a0, (tyL Term.row).enc a1] (fun v => v = (tyL RecField.row).enc r)
  | 0, _, _, _, h => by cases h
  | n + 1, a0, a1, r, h => by
    exact fnC_run (M := z04_m n) ⟨(tabA_cons_ok (ent1_ok (z0w_ok n)) (tabA_cons_ok (ent3_ok (z06_ok n)) tabA_nil_ok)), tabD_nil_ok, tabN_ok _, tabF_ok _, noY_ok, noE_ok⟩ Try.func99 rfl rfl ⟨(tyC FamilyShape.cel).nb 0 _, (tyL Term.row).nb 0 _, trivial⟩ Try.ntmps99 Try.results99 (fun σ hs => outR_ok (P := Try.prog) (rs := [.tmp 4]) (t := (tyL RecField.row)) (σ := σ) (r := r) hs) (((z04_e n).2 a0 a1).trans h)
end Go.Abs
namespace Go.Abs
open Go.Proofs
set_option maxRecDepth 100000
set_option maxHeartbeats 4000000
set_option linter.unusedSimpArgs false
set_option linter.unusedVariables false
noncomputable def z1s_m (n : Nat) : Mach Int where
  body := (Try.f105.body).getD .skip
  P := Try.prog
  cl := tabA [(118, ent1 (tyC Decl.cel) tyB (z13 n)), (119, ent1 (tyC Decl.cel) (tyI .i64) (z10 n)), (120, ent2 (tyL Decl.row) (tyC Decl.cel) (tyI .i64) (z0f n)), (121, ent2 (tyL Decl.row) (tyC Decl.cel) (tyI .i64) (z1i n))]
  cd := tabD []
  nrm := tabN []
  cut := tabF []
  n := n
  out := outR Try.prog [.tmp 4] (tyI .i64)
theorem z1s_f (n : Nat) : (z1s_m n).P = Try.prog ∧ (z1s_m n).cl = tabA [(118, ent1 (tyC Decl.cel) tyB (z13 n)), (119, ent1 (tyC Decl.cel) (tyI .i64) (z10 n)), (120, ent2 (tyL Decl.row) (tyC Decl.cel) (tyI .i64) (z0f n)), (121, ent2 (tyL Decl.row) (tyC Decl.cel) (tyI .i64) (z1i n))] ∧ (z1s_m n).cd = tabD [] ∧ (z1s_m n).nrm = tabN [] ∧ (z1s_m n).cut = tabF [] ∧ (z1s_m n).n = n ∧ (z1s_m n).out = outR Try.prog [.tmp 4] (tyI .i64) := ⟨rfl, rfl, rfl, rfl, rfl, rfl, rfl⟩
theorem z1s_c (n : Nat) : (z1s_m n).body = (Try.f105.body).getD .skip := rfl
noncomputable def z1s_e (n : Nat) : { B : (List Decl) → Decl → Option Int // ∀ (a0 : (List Decl)) (a1 : Decl), run (z1s_m n) [.at []] { slots := [(tyL Decl.row).enc a0, (tyC Decl.cel).enc a1] ++ List.replicate (32 - [(tyL Decl.row).enc a0, (tyC Decl.cel).enc a1].length) .any, heap := [] } = B a0 a1 } := by
  apply Subtype.mk
  intro a0 a1
  simp (maxSteps := 100000000) only [go_sem, Nat.reduceAdd, Nat.reduceSub, Nat.reduceLeDiff, Nat.reduceEqDiff, Nat.reduceBEq, Nat.reduceMul, Nat.reduceLT, Int.reduceLE, Int.reduceLT, Int.reduceToNat, Int.reduceBEq, Int.reduceEq, z1s_f, z1s_c, Try.f105, Option.getD_some, mixed]
  exact rfl
noncomputable def z1s : Nat → (List Decl) → Decl → Option Int
  | 0, _, _ => none
  | n + 1, a0, a1 => (z1s_e n).1 a0 a1
theorem z1s_ok : ∀ (n : Nat) (a0 : (List Decl)) (a1 : Decl) (r : Int), z1s n a0 a1 = some r → FnC Try.prog 105 [(tyL Decl.row).enc a0, (tyC Decl.cel).enc a1] (fun v => v = (tyI .i64).enc r)
  | 0, _, _, _, h => by cases h
  | n + 1, a0, a1, r, h => by
    exact fnC_run (M := z1s_m n) ⟨(tabA_cons_ok (ent1_ok (z13_ok n)) (tabA_cons_ok (ent1_ok (z10_ok n)) (tabA_cons_ok (ent2_ok (z0f_ok n)) (tabA_cons_ok (ent2_ok (z1i_ok n)) tabA_nil_ok)))), tabD_nil_ok, tabN_ok _, tabF_ok _, noY_ok, noE_ok⟩ Try.func105 rfl rfl ⟨(tyL Decl.row).nb 0 _, (tyC Decl.cel).nb 0 _, trivial⟩ Try.ntmps105 Try.results105 (fun σ hs => outR_ok (P := Try.prog) (rs := [.tmp 4]) (t := (tyI .i64)) (σ := σ) (r := r) hs) (((z1s_e n).2 a0 a1).trans h)

noncomputable def z0a_m (n : Nat) : Mach (CtorForm × Bool) where
  body := (Try.f57.body).getD .skip
  P := Try.prog
  cl := tabA [(49, ent1 (tyC Term.cel) (ty2 (tyL Term.row) (tyC Term.cel)) (z0w n)), (98, ent3 (tyC FamilyShape.cel) (tyC Term.cel) (tyI .i64) (ty2 (tyL Term.row) tyB) (z06 n))]
  cd := tabD [(97, entD (ent3 (tyL Term.row) (tyL Term.row) (tyF 26) tyB (z03 n))), (99, entD (ent2 (tyC FamilyShape.cel) (tyL Term.row) (tyL RecField.row) (z04 n)))]
  nrm := tabN []
  cut := tabF []
  n := n
  out := outR Try.prog [.cell 4 60, .tmp 5] (ty2 (tyC CtorForm.cel) tyB)
  isE := tabI []
theorem z0a_f (n : Nat) : (z0a_m n).P = Try.prog ∧ (z0a_m n).cl = tabA [(49, ent1 (tyC Term.cel) (ty2 (tyL Term.row) (tyC Term.cel)) (z0w n)), (98, ent3 (tyC FamilyShape.cel) (tyC Term.cel) (tyI .i64) (ty2 (tyL Term.row) tyB) (z06 n))] ∧ (z0a_m n).cd = tabD [(97, entD (ent3 (tyL Term.row) (tyL Term.row) (tyF 26) tyB (z03 n))), (99, entD (ent2 (tyC FamilyShape.cel) (tyL Term.row) (tyL RecField.row) (z04 n)))] ∧ (z0a_m n).nrm = tabN [] ∧ (z0a_m n).cut = tabF [] ∧ (z0a_m n).n = n ∧ (z0a_m n).out = outR Try.prog [.cell 4 60, .tmp 5] (ty2 (tyC CtorForm.cel) tyB) ∧ (z0a_m n).isE = tabI [] := ⟨rfl, rfl, rfl, rfl, rfl, rfl, rfl, rfl⟩
theorem z0a_c (n : Nat) : (z0a_m n).body = (Try.f57.body).getD .skip := rfl
theorem z0a_d (n : Nat) : drawP (z0a_m n) [0, 0, 1, 1, 1] = true ∧ drawP (z0a_m n) [0, 1, 1, 1, 1, 1, 1, 1] = true := ⟨by kernel_rfl, by kernel_rfl⟩
theorem z0a_o (n : Nat) : ordP (z0a_m n) [0, 1, 1, 1, 1, 1, 1, 1] 1 8 = true ∧ ordP (z0a_m n) [0, 1, 1, 1, 1, 1, 1, 1] 3 8 = true := ⟨by kernel_rfl, by kernel_rfl⟩
noncomputable def z0a_e (n : Nat) : { B : FamilyShape → Ctor → Option (CtorForm × Bool) // ∀ (a0 : FamilyShape) (a1 : Ctor), run (z0a_m n) [.at []] { slots := [(tyC FamilyShape.cel).enc a0, (tyC Ctor.cel).enc a1] ++ List.replicate (57 - [(tyC FamilyShape.cel).enc a0, (tyC Ctor.cel).enc a1].length) .any, heap := [] } = B a0 a1 } := by
  apply Subtype.mk
  intro a0 a1
  simp (maxSteps := 100000000) only [go_sem, Nat.reduceAdd, Nat.reduceSub, Nat.reduceLeDiff, Nat.reduceEqDiff, Nat.reduceBEq, Nat.reduceMul, Nat.reduceLT, Int.reduceLE, Int.reduceLT, Int.reduceToNat, Int.reduceBEq, Int.reduceEq, z0a_f, z0a_c, Try.f57, Option.getD_some, mixed, z0a_d, z0a_o]
  exact rfl
noncomputable def z0a : Nat → FamilyShape → Ctor → Option (CtorForm × Bool)
  | 0, _, _ => none
  | n + 1, a0, a1 => (z0a_e n).1 a0 a1
theorem z0a_ok : ∀ (n : Nat) (a0 : FamilyShape) (a1 : Ctor) (r : (CtorForm × Bool)), z0a n a0 a1 = some r → FnC Try.prog 57 [(tyC FamilyShape.cel).enc a0, (tyC Ctor.cel).enc a1] (fun v => v = (ty2 (tyC CtorForm.cel) tyB).enc r)
  | 0, _, _, _, h => by cases h
  | n + 1, a0, a1, r, h => by
    exact fnC_run (M := z0a_m n) ⟨(tabA_cons_ok (ent1_ok (z0w_ok n)) (tabA_cons_ok (ent3_ok (z06_ok n)) tabA_nil_ok)), (tabD_cons_ok (ent3_okD (z03_ok n)) (tabD_cons_ok (ent2_okD (z04_ok n)) tabD_nil_ok)), tabN_ok _, tabF_ok _, noY_ok, noE_ok⟩ Try.func57 rfl rfl ⟨(tyC FamilyShape.cel).nb 0 _, (tyC Ctor.cel).nb 0 _, trivial⟩ Try.ntmps57 Try.results57 (fun σ hs => outR_ok (P := Try.prog) (rs := [.cell 4 60, .tmp 5]) (t := (ty2 (tyC CtorForm.cel) tyB)) (σ := σ) (r := r) hs) (((z0a_e n).2 a0 a1).trans h)
end Go.Abs
