/- A part of the proof: what the functions compute. -/
import Derived.Test.YtgimdhmoloobkaaDataA
import Derived.Test.YtgimdhmoloobkaaWalkA
set_option linter.all false
open Nat renaming reduceAdd → q00, reduceSub → q01, reduceLeDiff → q02, reduceEqDiff → q03, reduceBEq → q04, reduceMul → q05, reduceLT → q06
open Int renaming reduceLE → q10, reduceLT → q11, reduceToNat → q12, reduceBEq → q13, reduceEq → q14
namespace Go.Abs
open Go.Proofs
set_option maxRecDepth 100000
set_option maxHeartbeats 4000000
set_option linter.unusedSimpArgs false
set_option linter.unusedVariables false
noncomputable def z0j_n1 : Nrm := ⟨[], [], [zA, zK, zK, zA, zA, zK, zA, zA, zA, zA, zA, zA, zA, zA, zA, zA, zA, zA, zA, zA, zA, zA, zA, zA, zA, zA, zA, zA, zA, zA, zA, zA, zA, zA, zA, zA, zA, zA, zA, zA, zA, zA, zA, zA, zA, zA, zA], [oT Tree.cel], none⟩
noncomputable def z0j_m (X : Tree → Int → Option Bool) (n : Nat) : Mach Bool where
  body := (Try.f91.body).getD .skip
  P := Try.prog
  cl := tabA [(90, ent1 (tyC Term.cel) tyB (z19 n)), (91, ent2 (tyC Tree.cel) (tyI .i64) tyB X)]
  cd := tabD []
  nrm := tabN [([0, 1, 0, 1, 1], z0j_n1)]
  cut := tabF []
  n := n
  out := outR Try.prog [.tmp 4] tyB
theorem z0j_f (X : Tree → Int → Option Bool) (n : Nat) : (z0j_m X n).P = Try.prog ∧ (z0j_m X n).cl = tabA [(90, ent1 (tyC Term.cel) tyB (z19 n)), (91, ent2 (tyC Tree.cel) (tyI .i64) tyB X)] ∧ (z0j_m X n).cd = tabD [] ∧ (z0j_m X n).nrm = tabN [([0, 1, 0, 1, 1], z0j_n1)] ∧ (z0j_m X n).cut = tabF [] ∧ (z0j_m X n).n = n ∧ (z0j_m X n).out = outR Try.prog [.tmp 4] tyB := ⟨rfl, rfl, rfl, rfl, rfl, rfl, rfl⟩
theorem z0j_c (X : Tree → Int → Option Bool) (n : Nat) : (z0j_m X n).body = (Try.f91.body).getD .skip := rfl
noncomputable def z0j_b1 (X : Tree → Int → Option Bool) (n : Nat) : { B : (Int → Int → Tree → Option Bool) → Int → Int → Tree → Option Bool // ∀ m X0, (∀ (v0 : Int) (v1 : Int) (o0 : Tree), run (z0j_m X n) [.lq m [0, 1, 0, 1, 1], .blk 0, .cut [1, 1, 1], .at [1, 1, 1]] ⟨[.any, .int .i64 v0, .ptr 0 0, .any, .any, .int .i64 v1, .any, .any, .any, .any, .any, .any, .any, .any, .any, .any, .any, .any, .any, .any, .any, .any, .any, .any, .any, .any, .any, .any, .any, .any, .any, .any, .any, .any, .any, .any, .any, .any, .any, .any, .any, .any, .any, .any, .any, .any, .any], [.cells (Tree.cells o0)], 0⟩ = X0 v0 v1 o0) → ∀ (v0 : Int) (v1 : Int) (o0 : Tree), run (z0j_m X n) [.at [0, 0, 1, 0, 1, 1], .lp m [0, 1, 0, 1, 1], .blk 0, .cut [1, 1, 1], .at [1, 1, 1]] ⟨[.any, .int .i64 v0, .ptr 0 0, .any, .any, .int .i64 v1, .any, .any, .any, .any, .any, .any, .any, .any, .any, .any, .any, .any, .any, .any, .any, .any, .any, .any, .any, .any, .any, .any, .any, .any, .any, .any, .any, .any, .any, .any, .any, .any, .any, .any, .any, .any, .any, .any, .any, .any, .any], [.cells (Tree.cells o0)], 0⟩ = B X0 v0 v1 o0 } := by
  apply Subtype.mk
  intro m X0 ih v0 v1 o0
  simp (maxSteps := 100000000) only [go_sem, q00, q01, q02, q03, q04, q05, q06, q10, q11, q12, q13, q14, z0j_f, z0j_c, Try.f91, Option.getD_some, mixed, z0j_n1, ih]
  exact rfl
noncomputable def z0j_l1 (X : Tree → Int → Option Bool) (n : Nat) : Nat → Int → Int → Tree → Option Bool
  | 0, _, _, _ => none
  | m + 1, v0, v1, o0 => (z0j_b1 X n).1 (z0j_l1 X n m) v0 v1 o0
theorem z0j_l1_eq (X : Tree → Int → Option Bool) (n : Nat) : ∀ (m : Nat), (∀ (v0 : Int) (v1 : Int) (o0 : Tree), run (z0j_m X n) [.lq m [0, 1, 0, 1, 1], .blk 0, .cut [1, 1, 1], .at [1, 1, 1]] ⟨[.any, .int .i64 v0, .ptr 0 0, .any, .any, .int .i64 v1, .any, .any, .any, .any, .any, .any, .any, .any, .any, .any, .any, .any, .any, .any, .any, .any, .any, .any, .any, .any, .any, .any, .any, .any, .any, .any, .any, .any, .any, .any, .any, .any, .any, .any, .any, .any, .any, .any, .any, .any, .any], [.cells (Tree.cells o0)], 0⟩ = z0j_l1 X n m v0 v1 o0)
  | 0 => by intros; exact run_lq_zero
  | m + 1 => by
    have ih := z0j_l1_eq X n m
    intro v0 v1 o0
    rw [run_lq_succ]
    exact (z0j_b1 X n).2  m _  ih v0 v1 o0
noncomputable def z0j_e (X : Tree → Int → Option Bool) (n : Nat) : { B : Tree → Int → Option Bool // ∀ (a0 : Tree) (a1 : Int), run (z0j_m X n) [.at []] { slots := [(tyC Tree.cel).enc a0, (tyI .i64).enc a1] ++ List.replicate (47 - [(tyC Tree.cel).enc a0, (tyI .i64).enc a1].length) .any, heap := [] } = B a0 a1 } := by
  apply Subtype.mk
  intro a0 a1
  simp (maxSteps := 100000000) only [go_sem, q00, q01, q02, q03, q04, q05, q06, q10, q11, q12, q13, q14, z0j_f, z0j_c, Try.f91, Option.getD_some, mixed, z0j_n1, z0j_l1_eq X n]
  exact rfl
noncomputable def z0j : Nat → Tree → Int → Option Bool
  | 0, _, _ => none
  | n + 1, a0, a1 => (z0j_e (z0j n) n).1 a0 a1
theorem z0j_ok : ∀ (n : Nat) (a0 : Tree) (a1 : Int) (r : Bool), z0j n a0 a1 = some r → FnC Try.prog 91 [(tyC Tree.cel).enc a0, (tyI .i64).enc a1] (fun v => v = tyB.enc r)
  | 0, _, _, _, h => by cases h
  | n + 1, a0, a1, r, h => by
    have ih_law07_smallTree := z0j_ok n
    exact fnC_run (M := z0j_m (z0j n) n) ⟨(tabA_cons_ok (ent1_ok (z19_ok n)) (tabA_cons_ok (ent2_ok (ih_law07_smallTree)) tabA_nil_ok)), tabD_nil_ok, tabN_ok _, tabF_ok _, noY_ok, noE_ok⟩ Try.func91 rfl rfl ⟨(tyC Tree.cel).nb 0 _, (tyI .i64).nb 0 _, trivial⟩ Try.ntmps91 Try.results91 (fun σ hs => outR_ok (P := Try.prog) (rs := [.tmp 4]) (t := tyB) (σ := σ) (r := r) hs) (((z0j_e (z0j n) n).2 a0 a1).trans h)

noncomputable def z1u_n1 : Nrm := ⟨[], [], [zA, zA, zK, zK, zA, zK, zA, zA, zA, zA, zA, zA, zA, zA, zA, zA, zA, zA, zA, zA, zA, zA, zA, zA, zA, zA, zA, zA, zA, zA, zA, zA, zA, zA, zA, zA, zA, zA, zA, zA, zA, zA, zA, zA, zA, zA, zA, zA, zA, zA, zA, zA, zA, zA, zA, zA, zA, zA, zA, zA, zA], [oT Term.cel, oT Term.cel], none⟩
noncomputable def z1u_m (X : Term → Term → Option Bool) (n : Nat) : Mach Bool where
  body := (Try.f23.body).getD .skip
  P := Try.prog
  cl := tabA [(62, ent2 (tyL Level.row) (tyL Level.row) tyB (z0k n))]
  cd := tabD [(23, entD (ent2 (tyC Term.cel) (tyC Term.cel) tyB X))]
  nrm := tabN [([0, 1, 0, 1, 1], z1u_n1)]
  cut := tabF []
  n := n
  out := outR Try.prog [.tmp 4] tyB
  isE := tabI []
theorem z1u_f (X : Term → Term → Option Bool) (n : Nat) : (z1u_m X n).P = Try.prog ∧ (z1u_m X n).cl = tabA [(62, ent2 (tyL Level.row) (tyL Level.row) tyB (z0k n))] ∧ (z1u_m X n).cd = tabD [(23, entD (ent2 (tyC Term.cel) (tyC Term.cel) tyB X))] ∧ (z1u_m X n).nrm = tabN [([0, 1, 0, 1, 1], z1u_n1)] ∧ (z1u_m X n).cut = tabF [] ∧ (z1u_m X n).n = n ∧ (z1u_m X n).out = outR Try.prog [.tmp 4] tyB ∧ (z1u_m X n).isE = tabI [] := ⟨rfl, rfl, rfl, rfl, rfl, rfl, rfl, rfl⟩
theorem z1u_c (X : Term → Term → Option Bool) (n : Nat) : (z1u_m X n).body = (Try.f23.body).getD .skip := rfl
theorem z1u_d (X : Term → Term → Option Bool) (n : Nat) : drawP (z1u_m X n) [0, 0, 0, 1, 0, 0, 1, 0, 1, 1] = true := by kernel_rfl
noncomputable def z1u_b1 (X : Term → Term → Option Bool) (n : Nat) : { B : (Int → Term → Term → Option Bool) → Int → Term → Term → Option Bool // ∀ m X0, (∀ (v0 : Int) (o0 : Term) (o1 : Term), run (z1u_m X n) [.lq m [0, 1, 0, 1, 1], .blk 0, .cut [1, 1, 1], .at [1, 1, 1]] ⟨[.any, .any, .ptr 0 0, .ptr 1 0, .any, .int .i64 v0, .any, .any, .any, .any, .any, .any, .any, .any, .any, .any, .any, .any, .any, .any, .any, .any, .any, .any, .any, .any, .any, .any, .any, .any, .any, .any, .any, .any, .any, .any, .any, .any, .any, .any, .any, .any, .any, .any, .any, .any, .any, .any, .any, .any, .any, .any, .any, .any, .any, .any, .any, .any, .any, .any, .any], [.cells (Term.cells o0), .cells (Term.cells o1)], 0⟩ = X0 v0 o0 o1) → ∀ (v0 : Int) (o0 : Term) (o1 : Term), run (z1u_m X n) [.at [0, 0, 1, 0, 1, 1], .lp m [0, 1, 0, 1, 1], .blk 0, .cut [1, 1, 1], .at [1, 1, 1]] ⟨[.any, .any, .ptr 0 0, .ptr 1 0, .any, .int .i64 v0, .any, .any, .any, .any, .any, .any, .any, .any, .any, .any, .any, .any, .any, .any, .any, .any, .any, .any, .any, .any, .any, .any, .any, .any, .any, .any, .any, .any, .any, .any, .any, .any, .any, .any, .any, .any, .any, .any, .any, .any, .any, .any, .any, .any, .any, .any, .any, .any, .any, .any, .any, .any, .any, .any, .any], [.cells (Term.cells o0), .cells (Term.cells o1)], 0⟩ = B X0 v0 o0 o1 } := by
  apply Subtype.mk
  intro m X0 ih v0 o0 o1
  simp (maxSteps := 100000000) only [go_sem, q00, q01, q02, q03, q04, q05, q06, q10, q11, q12, q13, q14, z1u_f, z1u_c, Try.f23, Option.getD_some, mixed, z1u_d, z1u_n1, ih]
  exact rfl
noncomputable def z1u_l1 (X : Term → Term → Option Bool) (n : Nat) : Nat → Int → Term → Term → Option Bool
  | 0, _, _, _ => none
  | m + 1, v0, o0, o1 => (z1u_b1 X n).1 (z1u_l1 X n m) v0 o0 o1
theorem z1u_l1_eq (X : Term → Term → Option Bool) (n : Nat) : ∀ (m : Nat), (∀ (v0 : Int) (o0 : Term) (o1 : Term), run (z1u_m X n) [.lq m [0, 1, 0, 1, 1], .blk 0, .cut [1, 1, 1], .at [1, 1, 1]] ⟨[.any, .any, .ptr 0 0, .ptr 1 0, .any, .int .i64 v0, .any, .any, .any, .any, .any, .any, .any, .any, .any, .any, .any, .any, .any, .any, .any, .any, .any, .any, .any, .any, .any, .any, .any, .any, .any, .any, .any, .any, .any, .any, .any, .any, .any, .any, .any, .any, .any, .any, .any, .any, .any, .any, .any, .any, .any, .any, .any, .any, .any, .any, .any, .any, .any, .any, .any], [.cells (Term.cells o0), .cells (Term.cells o1)], 0⟩ = z1u_l1 X n m v0 o0 o1)
  | 0 => by intros; exact run_lq_zero
  | m + 1 => by
    have ih := z1u_l1_eq X n m
    intro v0 o0 o1
    rw [run_lq_succ]
    exact (z1u_b1 X n).2  m _  ih v0 o0 o1
noncomputable def z1u_e (X : Term → Term → Option Bool) (n : Nat) : { B : Term → Term → Option Bool // ∀ (a0 : Term) (a1 : Term), run (z1u_m X n) [.at []] { slots := [(tyC Term.cel).enc a0, (tyC Term.cel).enc a1] ++ List.replicate (61 - [(tyC Term.cel).enc a0, (tyC Term.cel).enc a1].length) .any, heap := [] } = B a0 a1 } := by
  apply Subtype.mk
  intro a0 a1
  simp (maxSteps := 100000000) only [go_sem, q00, q01, q02, q03, q04, q05, q06, q10, q11, q12, q13, q14, z1u_f, z1u_c, Try.f23, Option.getD_some, mixed, z1u_d, z1u_n1, z1u_l1_eq X n]
  exact rfl
noncomputable def z1u : Nat → Term → Term → Option Bool
  | 0, _, _ => none
  | n + 1, a0, a1 => (z1u_e (z1u n) n).1 a0 a1
theorem z1u_ok : ∀ (n : Nat) (a0 : Term) (a1 : Term) (r : Bool), z1u n a0 a1 = some r → FnC Try.prog 23 [(tyC Term.cel).enc a0, (tyC Term.cel).enc a1] (fun v => v = tyB.enc r)
  | 0, _, _, _, h => by cases h
  | n + 1, a0, a1, r, h => by
    have ih_ref03_Same := z1u_ok n
    exact fnC_run (M := z1u_m (z1u n) n) ⟨(tabA_cons_ok (ent2_ok (z0k_ok n)) tabA_nil_ok), (tabD_cons_ok (ent2_okD (ih_ref03_Same)) tabD_nil_ok), tabN_ok _, tabF_ok _, noY_ok, noE_ok⟩ Try.func23 rfl rfl ⟨(tyC Term.cel).nb 0 _, (tyC Term.cel).nb 0 _, trivial⟩ Try.ntmps23 Try.results23 (fun σ hs => outR_ok (P := Try.prog) (rs := [.tmp 4]) (t := tyB) (σ := σ) (r := r) hs) (((z1u_e (z1u n) n).2 a0 a1).trans h)

noncomputable def z15_n1 : Nrm := ⟨[], [], [zA, zK, zA, zK, zA, zA, zA, zA, zA, zA, zA, zA, zA, zA, zA, zA, zA, zA, zA, zA, zA, zA, zA, zA, zA, zA, zA, zA, zA, zA, zA, zA, zA, zA, zA, zA, zA, zA, zA, zA, zA, zA, zA, zA, zA, zA, zA, zA, zA, zA, zA, zA, zA, zA, zA, zA, zA, zA, zA, zA, zA, zA, zA, zA, zA, zA, zA, zA, zA, zA, zA, zA, zA, zA, zA, zA, zA, zA, zA, zA, zA, zA, zA, zA, zA, zA, zA, zA, zA, zA, zA, zA, zA, zA, zA, zA], [oT Decl.cel], none⟩
noncomputable def z15_m (n : Nat) : Mach Int where
  body := (Try.f119.body).getD .skip
  P := Try.prog
  cl := tabA [(130, ent1 (tyC Decl.cel) tyB (z1p n))]
  cd := tabD []
  nrm := tabN [([0, 1, 0, 1, 1, 1], z15_n1)]
  cut := tabF []
  n := n
  out := outR Try.prog [.tmp 2] (tyI .i64)
theorem z15_f (n : Nat) : (z15_m n).P = Try.prog ∧ (z15_m n).cl = tabA [(130, ent1 (tyC Decl.cel) tyB (z1p n))] ∧ (z15_m n).cd = tabD [] ∧ (z15_m n).nrm = tabN [([0, 1, 0, 1, 1, 1], z15_n1)] ∧ (z15_m n).cut = tabF [] ∧ (z15_m n).n = n ∧ (z15_m n).out = outR Try.prog [.tmp 2] (tyI .i64) := ⟨rfl, rfl, rfl, rfl, rfl, rfl, rfl⟩
theorem z15_c (n : Nat) : (z15_m n).body = (Try.f119.body).getD .skip := rfl
noncomputable def z15_b1 (n : Nat) : { B : (Int → Decl → Option Int) → Int → Decl → Option Int // ∀ m X0, (∀ (v0 : Int) (o0 : Decl), run (z15_m n) [.lq m [0, 1, 0, 1, 1, 1], .blk 0, .cut [1, 1, 1, 1], .at [1, 1, 1, 1]] ⟨[.any, .ptr 0 0, .any, .int .i64 v0, .any, .any, .any, .any, .any, .any, .any, .any, .any, .any, .any, .any, .any, .any, .any, .any, .any, .any, .any, .any, .any, .any, .any, .any, .any, .any, .any, .any, .any, .any, .any, .any, .any, .any, .any, .any, .any, .any, .any, .any, .any, .any, .any, .any, .any, .any, .any, .any, .any, .any, .any, .any, .any, .any, .any, .any, .any, .any, .any, .any, .any, .any, .any, .any, .any, .any, .any, .any, .any, .any, .any, .any, .any, .any, .any, .any, .any, .any, .any, .any, .any, .any, .any, .any, .any, .any, .any, .any, .any, .any, .any, .any], [.cells (Decl.cells o0)], 0⟩ = X0 v0 o0) → ∀ (v0 : Int) (o0 : Decl), run (z15_m n) [.at [0, 0, 1, 0, 1, 1, 1], .lp m [0, 1, 0, 1, 1, 1], .blk 0, .cut [1, 1, 1, 1], .at [1, 1, 1, 1]] ⟨[.any, .ptr 0 0, .any, .int .i64 v0, .any, .any, .any, .any, .any, .any, .any, .any, .any, .any, .any, .any, .any, .any, .any, .any, .any, .any, .any, .any, .any, .any, .any, .any, .any, .any, .any, .any, .any, .any, .any, .any, .any, .any, .any, .any, .any, .any, .any, .any, .any, .any, .any, .any, .any, .any, .any, .any, .any, .any, .any, .any, .any, .any, .any, .any, .any, .any, .any, .any, .any, .any, .any, .any, .any, .any, .any, .any, .any, .any, .any, .any, .any, .any, .any, .any, .any, .any, .any, .any, .any, .any, .any, .any, .any, .any, .any, .any, .any, .any, .any, .any], [.cells (Decl.cells o0)], 0⟩ = B X0 v0 o0 } := by
  apply Subtype.mk
  intro m X0 ih v0 o0
  simp (maxSteps := 100000000) only [go_sem, q00, q01, q02, q03, q04, q05, q06, q10, q11, q12, q13, q14, z15_f, z15_c, Try.f119, Option.getD_some, mixed, z15_n1, ih]
  exact rfl
noncomputable def z15_l1 (n : Nat) : Nat → Int → Decl → Option Int
  | 0, _, _ => none
  | m + 1, v0, o0 => (z15_b1 n).1 (z15_l1 n m) v0 o0
theorem z15_l1_eq (n : Nat) : ∀ (m : Nat), (∀ (v0 : Int) (o0 : Decl), run (z15_m n) [.lq m [0, 1, 0, 1, 1, 1], .blk 0, .cut [1, 1, 1, 1], .at [1, 1, 1, 1]] ⟨[.any, .ptr 0 0, .any, .int .i64 v0, .any, .any, .any, .any, .any, .any, .any, .any, .any, .any, .any, .any, .any, .any, .any, .any, .any, .any, .any, .any, .any, .any, .any, .any, .any, .any, .any, .any, .any, .any, .any, .any, .any, .any, .any, .any, .any, .any, .any, .any, .any, .any, .any, .any, .any, .any, .any, .any, .any, .any, .any, .any, .any, .any, .any, .any, .any, .any, .any, .any, .any, .any, .any, .any, .any, .any, .any, .any, .any, .any, .any, .any, .any, .any, .any, .any, .any, .any, .any, .any, .any, .any, .any, .any, .any, .any, .any, .any, .any, .any, .any, .any], [.cells (Decl.cells o0)], 0⟩ = z15_l1 n m v0 o0)
  | 0 => by intros; exact run_lq_zero
  | m + 1 => by
    have ih := z15_l1_eq n m
    intro v0 o0
    rw [run_lq_succ]
    exact (z15_b1 n).2  m _  ih v0 o0
noncomputable def z15_e (n : Nat) : { B : Decl → Option Int // ∀ (a0 : Decl), run (z15_m n) [.at []] { slots := [(tyC Decl.cel).enc a0] ++ List.replicate (96 - [(tyC Decl.cel).enc a0].length) .any, heap := [] } = B a0 } := by
  apply Subtype.mk
  intro a0
  simp (maxSteps := 100000000) only [go_sem, q00, q01, q02, q03, q04, q05, q06, q10, q11, q12, q13, q14, z15_f, z15_c, Try.f119, Option.getD_some, mixed, z15_n1, z15_l1_eq n]
  exact rfl
noncomputable def z15 : Nat → Decl → Option Int
  | 0, _ => none
  | n + 1, a0 => (z15_e n).1 a0
theorem z15_ok : ∀ (n : Nat) (a0 : Decl) (r : Int), z15 n a0 = some r → FnC Try.prog 119 [(tyC Decl.cel).enc a0] (fun v => v = (tyI .i64).enc r)
  | 0, _, _, h => by cases h
  | n + 1, a0, r, h => by
    exact fnC_run (M := z15_m n) ⟨(tabA_cons_ok (ent1_ok (z1p_ok n)) tabA_nil_ok), tabD_nil_ok, tabN_ok _, tabF_ok _, noY_ok, noE_ok⟩ Try.func119 rfl rfl ⟨(tyC Decl.cel).nb 0 _, trivial⟩ Try.ntmps119 Try.results119 (fun σ hs => outR_ok (P := Try.prog) (rs := [.tmp 2]) (t := (tyI .i64)) (σ := σ) (r := r) hs) (((z15_e n).2 a0).trans h)

noncomputable def z0l_n1 : Nrm := ⟨[], [], [zT (tyL Decl.row), zA, zA, zA, zA, zT (tyL rowS), zK, zA, zA, zA, zA, zA, zA, zA, zA, zA, zA, zA, zA, zA, zA, zA, zA, zA, zA, zA, zA, zA, zA, zA, zA, zA, zA, zA, zA, zA, zA, zA, zA, zA, zA, zA, zA, zA], [], none⟩
noncomputable def z0l_m (n : Nat) : Mach Int where
  body := (Try.f120.body).getD .skip
  P := Try.prog
  cl := tabA [(54, ent1 tyS tyB (z1t n)), (109, ent2 (tyL Decl.row) tyS (ty2 (tyC Entry.cel) (tyI .i64)) (z1y n)), (126, ent1 (tyC Decl.cel) (tyL rowS) (z1m n))]
  cd := tabD [(43, entD (ent2 (tyL rowS) tyS tyB (z24 n)))]
  nrm := tabN [([0, 1, 0, 1, 1], z0l_n1)]
  cut := tabF []
  n := n
  out := outR Try.prog [.tmp 4] (tyI .i64)
  isE := tabI []
theorem z0l_f (n : Nat) : (z0l_m n).P = Try.prog ∧ (z0l_m n).cl = tabA [(54, ent1 tyS tyB (z1t n)), (109, ent2 (tyL Decl.row) tyS (ty2 (tyC Entry.cel) (tyI .i64)) (z1y n)), (126, ent1 (tyC Decl.cel) (tyL rowS) (z1m n))] ∧ (z0l_m n).cd = tabD [(43, entD (ent2 (tyL rowS) tyS tyB (z24 n)))] ∧ (z0l_m n).nrm = tabN [([0, 1, 0, 1, 1], z0l_n1)] ∧ (z0l_m n).cut = tabF [] ∧ (z0l_m n).n = n ∧ (z0l_m n).out = outR Try.prog [.tmp 4] (tyI .i64) ∧ (z0l_m n).isE = tabI [] := ⟨rfl, rfl, rfl, rfl, rfl, rfl, rfl, rfl⟩
theorem z0l_c (n : Nat) : (z0l_m n).body = (Try.f120.body).getD .skip := rfl
theorem z0l_d (n : Nat) : drawP (z0l_m n) [0, 1, 1, 0, 0, 1, 0, 0, 1, 0, 1, 1] = true := by kernel_rfl
noncomputable def z0l_b1 (n : Nat) : { B : ((List Decl) → (List Str) → Int → Option Int) → (List Decl) → (List Str) → Int → Option Int // ∀ m X0, (∀ (v0 : List Decl) (v1 : List Str) (v2 : Int), run (z0l_m n) [.lq m [0, 1, 0, 1, 1], .blk 0, .cut [1, 1, 1], .at [1, 1, 1]] ⟨[.lst false 23 (mp Decl.cells v0), .any, .any, .any, .any, .lst false 1 (mp scell v1), .int .i64 v2, .any, .any, .any, .any, .any, .any, .any, .any, .any, .any, .any, .any, .any, .any, .any, .any, .any, .any, .any, .any, .any, .any, .any, .any, .any, .any, .any, .any, .any, .any, .any, .any, .any, .any, .any, .any, .any], [], 0⟩ = X0 v0 v1 v2) → ∀ (v0 : List Decl) (v1 : List Str) (v2 : Int), run (z0l_m n) [.at [0, 0, 1, 0, 1, 1], .lp m [0, 1, 0, 1, 1], .blk 0, .cut [1, 1, 1], .at [1, 1, 1]] ⟨[.lst false 23 (mp Decl.cells v0), .any, .any, .any, .any, .lst false 1 (mp scell v1), .int .i64 v2, .any, .any, .any, .any, .any, .any, .any, .any, .any, .any, .any, .any, .any, .any, .any, .any, .any, .any, .any, .any, .any, .any, .any, .any, .any, .any, .any, .any, .any, .any, .any, .any, .any, .any, .any, .any, .any], [], 0⟩ = B X0 v0 v1 v2 } := by
  apply Subtype.mk
  intro m X0 ih v0 v1 v2
  simp (maxSteps := 100000000) only [go_sem, q00, q01, q02, q03, q04, q05, q06, q10, q11, q12, q13, q14, z0l_f, z0l_c, Try.f120, Option.getD_some, mixed, z0l_d, z0l_n1, ih]
  exact rfl
noncomputable def z0l_l1 (n : Nat) : Nat → (List Decl) → (List Str) → Int → Option Int
  | 0, _, _, _ => none
  | m + 1, v0, v1, v2 => (z0l_b1 n).1 (z0l_l1 n m) v0 v1 v2
theorem z0l_l1_eq (n : Nat) : ∀ (m : Nat), (∀ (v0 : List Decl) (v1 : List Str) (v2 : Int), run (z0l_m n) [.lq m [0, 1, 0, 1, 1], .blk 0, .cut [1, 1, 1], .at [1, 1, 1]] ⟨[.lst false 23 (mp Decl.cells v0), .any, .any, .any, .any, .lst false 1 (mp scell v1), .int .i64 v2, .any, .any, .any, .any, .any, .any, .any, .any, .any, .any, .any, .any, .any, .any, .any, .any, .any, .any, .any, .any, .any, .any, .any, .any, .any, .any, .any, .any, .any, .any, .any, .any, .any, .any, .any, .any, .any], [], 0⟩ = z0l_l1 n m v0 v1 v2)
  | 0 => by intros; exact run_lq_zero
  | m + 1 => by
    have ih := z0l_l1_eq n m
    intro v0 v1 v2
    rw [run_lq_succ]
    exact (z0l_b1 n).2  m _  ih v0 v1 v2
noncomputable def z0l_e (n : Nat) : { B : (List Decl) → Decl → Option Int // ∀ (a0 : (List Decl)) (a1 : Decl), run (z0l_m n) [.at []] { slots := [(tyL Decl.row).enc a0, (tyC Decl.cel).enc a1] ++ List.replicate (44 - [(tyL Decl.row).enc a0, (tyC Decl.cel).enc a1].length) .any, heap := [] } = B a0 a1 } := by
  apply Subtype.mk
  intro a0 a1
  simp (maxSteps := 100000000) only [go_sem, q00, q01, q02, q03, q04, q05, q06, q10, q11, q12, q13, q14, z0l_f, z0l_c, Try.f120, Option.getD_some, mixed, z0l_d, z0l_n1, z0l_l1_eq n]
  exact rfl
noncomputable def z0l : Nat → (List Decl) → Decl → Option Int
  | 0, _, _ => none
  | n + 1, a0, a1 => (z0l_e n).1 a0 a1
theorem z0l_ok : ∀ (n : Nat) (a0 : (List Decl)) (a1 : Decl) (r : Int), z0l n a0 a1 = some r → FnC Try.prog 120 [(tyL Decl.row).enc a0, (tyC Decl.cel).enc a1] (fun v => v = (tyI .i64).enc r)
  | 0, _, _, _, h => by cases h
  | n + 1, a0, a1, r, h => by
    exact fnC_run (M := z0l_m n) ⟨(tabA_cons_ok (ent1_ok (z1t_ok n)) (tabA_cons_ok (ent2_ok (z1y_ok n)) (tabA_cons_ok (ent1_ok (z1m_ok n)) tabA_nil_ok))), (tabD_cons_ok (ent2_okD (z24_ok n)) tabD_nil_ok), tabN_ok _, tabF_ok _, noY_ok, noE_ok⟩ Try.func120 rfl rfl ⟨(tyL Decl.row).nb 0 _, (tyC Decl.cel).nb 0 _, trivial⟩ Try.ntmps120 Try.results120 (fun σ hs => outR_ok (P := Try.prog) (rs := [.tmp 4]) (t := (tyI .i64)) (σ := σ) (r := r) hs) (((z0l_e n).2 a0 a1).trans h)

noncomputable def z1j_n1 : Nrm := ⟨[], [], [zA, zK, zK, zK, zK, zK, zK, zA, zA, zA, zA, zA, zA, zA, zA, zK, zA, zA, zA, zA, zA, zA, zA, zA, zA, zA, zA, zA, zA, zA, zA, zA, zA, zA, zA, zA, zA, zA, zA, zA, zA, zA, zA, zA, zA, zA, zA, zA, zA, zA, zA, zA, zA, zA, zA, zA, zA, zA, zA, zA, zA, zA, zA, zA, zA, zA, zA, zA, zA, zA, zA, zA, zA, zA, zA, zA, zA, zA, zA, zA, zA, zA, zA, zA, zA, zA, zA, zA, zA, zA, zA, zA, zA, zA, zA, zA, zA, zA, zA, zA, zA, zA, zA, zA, zA, zA, zA], [oT Term.cel], none⟩
noncomputable def z1j_n2 : Nrm := ⟨[], [], [zA, zK, zK, zK, zK, zK, zK, zA, zA, zA, zA, zA, zA, zK, zA, zA, zA, zA, zA, zA, zA, zA, zA, zA, zA, zA, zA, zA, zA, zA, zA, zA, zA, zA, zA, zA, zA, zA, zA, zA, zA, zA, zA, zA, zA, zA, zA, zA, zA, zA, zA, zA, zA, zA, zA, zA, zA, zA, zA, zA, zA, zA, zA, zA, zA, zA, zA, zA, zA, zA, zA, zA, zA, zA, zA, zA, zA, zA, zA, zA, zA, zA, zA, zA, zA, zA, zA, zA, zA, zA, zA, zA, zA, zA, zA, zA, zA, zA, zA, zA, zA, zA, zA, zA, zA, zA, zA], [oT Term.cel], none⟩
noncomputable def z1j_m (X : Term → Int → Int → Int → Int → Int → Option Int) (n : Nat) : Mach Int where
  body := (Try.f106.body).getD .skip
  P := Try.prog
  cl := tabA [(54, ent1 tyS tyB (z1t n)), (122, ent1 (tyC Term.cel) tyB (z1w n)), (123, ent3 (tyC Level.cel) (tyI .i64) (tyI .i64) (tyI .i64) (z1k n))]
  cd := tabD [(106, entD (ent6 (tyC Term.cel) (tyI .i64) (tyI .i64) (tyI .i64) (tyI .i64) (tyI .i64) (tyI .i64) X)), (124, entD (ent2 (tyI .i64) (tyI .i64) (tyI .i64) (z1g n)))]
  nrm := tabN [([0, 1, 0, 1, 1, 1, 1, 1, 1, 1], z1j_n1), ([0, 1, 0, 1, 1, 1, 1], z1j_n2)]
  cut := tabF []
  n := n
  out := outR Try.prog [.tmp 12] (tyI .i64)
  isE := tabI []
theorem z1j_f (X : Term → Int → Int → Int → Int → Int → Option Int) (n : Nat) : (z1j_m X n).P = Try.prog ∧ (z1j_m X n).cl = tabA [(54, ent1 tyS tyB (z1t n)), (122, ent1 (tyC Term.cel) tyB (z1w n)), (123, ent3 (tyC Level.cel) (tyI .i64) (tyI .i64) (tyI .i64) (z1k n))] ∧ (z1j_m X n).cd = tabD [(106, entD (ent6 (tyC Term.cel) (tyI .i64) (tyI .i64) (tyI .i64) (tyI .i64) (tyI .i64) (tyI .i64) X)), (124, entD (ent2 (tyI .i64) (tyI .i64) (tyI .i64) (z1g n)))] ∧ (z1j_m X n).nrm = tabN [([0, 1, 0, 1, 1, 1, 1, 1, 1, 1], z1j_n1), ([0, 1, 0, 1, 1, 1, 1], z1j_n2)] ∧ (z1j_m X n).cut = tabF [] ∧ (z1j_m X n).n = n ∧ (z1j_m X n).out = outR Try.prog [.tmp 12] (tyI .i64) ∧ (z1j_m X n).isE = tabI [] := ⟨rfl, rfl, rfl, rfl, rfl, rfl, rfl, rfl⟩
theorem z1j_c (X : Term → Int → Int → Int → Int → Int → Option Int) (n : Nat) : (z1j_m X n).body = (Try.f106.body).getD .skip := rfl
theorem z1j_d (X : Term → Int → Int → Int → Int → Int → Option Int) (n : Nat) : drawP (z1j_m X n) [0, 0, 0, 1, 0, 0, 1, 0, 1, 1, 1, 1, 1, 1, 1] = true := by kernel_rfl
noncomputable def z1j_b1 (X : Term → Int → Int → Int → Int → Int → Option Int) (n : Nat) : { B : (Int → Int → Int → Int → Int → Int → Term → Option Int) → Int → Int → Int → Int → Int → Int → Term → Option Int // ∀ m X0, (∀ (v0 : Int) (v1 : Int) (v2 : Int) (v3 : Int) (v4 : Int) (v5 : Int) (o0 : Term), run (z1j_m X n) [.lq m [0, 1, 0, 1, 1, 1, 1, 1, 1, 1], .blk 2, .cut [1, 1, 1, 1, 1, 1, 1, 1], .at [1, 1, 1, 1, 1, 1, 1, 1]] ⟨[.any, .int .i64 v0, .int .i64 v1, .int .i64 v2, .int .i64 v3, .int .i64 v4, .ptr 0 0, .any, .any, .any, .any, .any, .any, .any, .any, .int .i64 v5, .any, .any, .any, .any, .any, .any, .any, .any, .any, .any, .any, .any, .any, .any, .any, .any, .any, .any, .any, .any, .any, .any, .any, .any, .any, .any, .any, .any, .any, .any, .any, .any, .any, .any, .any, .any, .any, .any, .any, .any, .any, .any, .any, .any, .any, .any, .any, .any, .any, .any, .any, .any, .any, .any, .any, .any, .any, .any, .any, .any, .any, .any, .any, .any, .any, .any, .any, .any, .any, .any, .any, .any, .any, .any, .any, .any, .any, .any, .any, .any, .any, .any, .any, .any, .any, .any, .any, .any, .any, .any, .any], [.cells (Term.cells o0)], 0⟩ = X0 v0 v1 v2 v3 v4 v5 o0) → ∀ (v0 : Int) (v1 : Int) (v2 : Int) (v3 : Int) (v4 : Int) (v5 : Int) (o0 : Term), run (z1j_m X n) [.at [0, 0, 1, 0, 1, 1, 1, 1, 1, 1, 1], .lp m [0, 1, 0, 1, 1, 1, 1, 1, 1, 1], .blk 2, .cut [1, 1, 1, 1, 1, 1, 1, 1], .at [1, 1, 1, 1, 1, 1, 1, 1]] ⟨[.any, .int .i64 v0, .int .i64 v1, .int .i64 v2, .int .i64 v3, .int .i64 v4, .ptr 0 0, .any, .any, .any, .any, .any, .any, .any, .any, .int .i64 v5, .any, .any, .any, .any, .any, .any, .any, .any, .any, .any, .any, .any, .any, .any, .any, .any, .any, .any, .any, .any, .any, .any, .any, .any, .any, .any, .any, .any, .any, .any, .any, .any, .any, .any, .any, .any, .any, .any, .any, .any, .any, .any, .any, .any, .any, .any, .any, .any, .any, .any, .any, .any, .any, .any, .any, .any, .any, .any, .any, .any, .any, .any, .any, .any, .any, .any, .any, .any, .any, .any, .any, .any, .any, .any, .any, .any, .any, .any, .any, .any, .any, .any, .any, .any, .any, .any, .any, .any, .any, .any, .any], [.cells (Term.cells o0)], 0⟩ = B X0 v0 v1 v2 v3 v4 v5 o0 } := by
  apply Subtype.mk
  intro m X0 ih v0 v1 v2 v3 v4 v5 o0
  simp (maxSteps := 100000000) only [go_sem, q00, q01, q02, q03, q04, q05, q06, q10, q11, q12, q13, q14, z1j_f, z1j_c, Try.f106, Option.getD_some, mixed, z1j_d, z1j_n1, z1j_n2, ih]
  exact rfl
noncomputable def z1j_l1 (X : Term → Int → Int → Int → Int → Int → Option Int) (n : Nat) : Nat → Int → Int → Int → Int → Int → Int → Term → Option Int
  | 0, _, _, _, _, _, _, _ => none
  | m + 1, v0, v1, v2, v3, v4, v5, o0 => (z1j_b1 X n).1 (z1j_l1 X n m) v0 v1 v2 v3 v4 v5 o0
theorem z1j_l1_eq (X : Term → Int → Int → Int → Int → Int → Option Int) (n : Nat) : ∀ (m : Nat), (∀ (v0 : Int) (v1 : Int) (v2 : Int) (v3 : Int) (v4 : Int) (v5 : Int) (o0 : Term), run (z1j_m X n) [.lq m [0, 1, 0, 1, 1, 1, 1, 1, 1, 1], .blk 2, .cut [1, 1, 1, 1, 1, 1, 1, 1], .at [1, 1, 1, 1, 1, 1, 1, 1]] ⟨[.any, .int .i64 v0, .int .i64 v1, .int .i64 v2, .int .i64 v3, .int .i64 v4, .ptr 0 0, .any, .any, .any, .any, .any, .any, .any, .any, .int .i64 v5, .any, .any, .any, .any, .any, .any, .any, .any, .any, .any, .any, .any, .any, .any, .any, .any, .any, .any, .any, .any, .any, .any, .any, .any, .any, .any, .any, .any, .any, .any, .any, .any, .any, .any, .any, .any, .any, .any, .any, .any, .any, .any, .any, .any, .any, .any, .any, .any, .any, .any, .any, .any, .any, .any, .any, .any, .any, .any, .any, .any, .any, .any, .any, .any, .any, .any, .any, .any, .any, .any, .any, .any, .any, .any, .any, .any, .any, .any, .any, .any, .any, .any, .any, .any, .any, .any, .any, .any, .any, .any, .any], [.cells (Term.cells o0)], 0⟩ = z1j_l1 X n m v0 v1 v2 v3 v4 v5 o0)
  | 0 => by intros; exact run_lq_zero
  | m + 1 => by
    have ih := z1j_l1_eq X n m
    intro v0 v1 v2 v3 v4 v5 o0
    rw [run_lq_succ]
    exact (z1j_b1 X n).2  m _  ih v0 v1 v2 v3 v4 v5 o0
noncomputable def z1j_b2 (X : Term → Int → Int → Int → Int → Int → Option Int) (n : Nat) : { B : (Int → Int → Int → Int → Int → Int → Term → Option Int) → Int → Int → Int → Int → Int → Int → Term → Option Int // ∀ m X0, (∀ (v0 : Int) (v1 : Int) (v2 : Int) (v3 : Int) (v4 : Int) (v5 : Int) (o0 : Term), run (z1j_m X n) [.lq m [0, 1, 0, 1, 1, 1, 1], .blk 0, .cut [1, 1, 1, 1, 1], .at [1, 1, 1, 1, 1]] ⟨[.any, .int .i64 v0, .int .i64 v1, .int .i64 v2, .int .i64 v3, .int .i64 v4, .ptr 0 0, .any, .any, .any, .any, .any, .any, .int .i64 v5, .any, .any, .any, .any, .any, .any, .any, .any, .any, .any, .any, .any, .any, .any, .any, .any, .any, .any, .any, .any, .any, .any, .any, .any, .any, .any, .any, .any, .any, .any, .any, .any, .any, .any, .any, .any, .any, .any, .any, .any, .any, .any, .any, .any, .any, .any, .any, .any, .any, .any, .any, .any, .any, .any, .any, .any, .any, .any, .any, .any, .any, .any, .any, .any, .any, .any, .any, .any, .any, .any, .any, .any, .any, .any, .any, .any, .any, .any, .any, .any, .any, .any, .any, .any, .any, .any, .any, .any, .any, .any, .any, .any, .any], [.cells (Term.cells o0)], 0⟩ = X0 v0 v1 v2 v3 v4 v5 o0) → ∀ (v0 : Int) (v1 : Int) (v2 : Int) (v3 : Int) (v4 : Int) (v5 : Int) (o0 : Term), run (z1j_m X n) [.at [0, 0, 1, 0, 1, 1, 1, 1], .lp m [0, 1, 0, 1, 1, 1, 1], .blk 0, .cut [1, 1, 1, 1, 1], .at [1, 1, 1, 1, 1]] ⟨[.any, .int .i64 v0, .int .i64 v1, .int .i64 v2, .int .i64 v3, .int .i64 v4, .ptr 0 0, .any, .any, .any, .any, .any, .any, .int .i64 v5, .any, .any, .any, .any, .any, .any, .any, .any, .any, .any, .any, .any, .any, .any, .any, .any, .any, .any, .any, .any, .any, .any, .any, .any, .any, .any, .any, .any, .any, .any, .any, .any, .any, .any, .any, .any, .any, .any, .any, .any, .any, .any, .any, .any, .any, .any, .any, .any, .any, .any, .any, .any, .any, .any, .any, .any, .any, .any, .any, .any, .any, .any, .any, .any, .any, .any, .any, .any, .any, .any, .any, .any, .any, .any, .any, .any, .any, .any, .any, .any, .any, .any, .any, .any, .any, .any, .any, .any, .any, .any, .any, .any, .any], [.cells (Term.cells o0)], 0⟩ = B X0 v0 v1 v2 v3 v4 v5 o0 } := by
  apply Subtype.mk
  intro m X0 ih v0 v1 v2 v3 v4 v5 o0
  simp (maxSteps := 100000000) only [go_sem, q00, q01, q02, q03, q04, q05, q06, q10, q11, q12, q13, q14, z1j_f, z1j_c, Try.f106, Option.getD_some, mixed, z1j_d, z1j_n1, z1j_n2, z1j_l1_eq X n, ih]
  exact rfl
noncomputable def z1j_l2 (X : Term → Int → Int → Int → Int → Int → Option Int) (n : Nat) : Nat → Int → Int → Int → Int → Int → Int → Term → Option Int
  | 0, _, _, _, _, _, _, _ => none
  | m + 1, v0, v1, v2, v3, v4, v5, o0 => (z1j_b2 X n).1 (z1j_l2 X n m) v0 v1 v2 v3 v4 v5 o0
theorem z1j_l2_eq (X : Term → Int → Int → Int → Int → Int → Option Int) (n : Nat) : ∀ (m : Nat), (∀ (v0 : Int) (v1 : Int) (v2 : Int) (v3 : Int) (v4 : Int) (v5 : Int) (o0 : Term), run (z1j_m X n) [.lq m [0, 1, 0, 1, 1, 1, 1], .blk 0, .cut [1, 1, 1, 1, 1], .at [1, 1, 1, 1, 1]] ⟨[.any, .int .i64 v0, .int .i64 v1, .int .i64 v2, .int .i64 v3, .int .i64 v4, .ptr 0 0, .any, .any, .any, .any, .any, .any, .int .i64 v5, .any, .any, .any, .any, .any, .any, .any, .any, .any, .any, .any, .any, .any, .any, .any, .any, .any, .any, .any, .any, .any, .any, .any, .any, .any, .any, .any, .any, .any, .any, .any, .any, .any, .any, .any, .any, .any, .any, .any, .any, .any, .any, .any, .any, .any, .any, .any, .any, .any, .any, .any, .any, .any, .any, .any, .any, .any, .any, .any, .any, .any, .any, .any, .any, .any, .any, .any, .any, .any, .any, .any, .any, .any, .any, .any, .any, .any, .any, .any, .any, .any, .any, .any, .any, .any, .any, .any, .any, .any, .any, .any, .any, .any], [.cells (Term.cells o0)], 0⟩ = z1j_l2 X n m v0 v1 v2 v3 v4 v5 o0)
  | 0 => by intros; exact run_lq_zero
  | m + 1 => by
    have ih := z1j_l2_eq X n m
    intro v0 v1 v2 v3 v4 v5 o0
    rw [run_lq_succ]
    exact (z1j_b2 X n).2  m _  ih v0 v1 v2 v3 v4 v5 o0
noncomputable def z1j_e (X : Term → Int → Int → Int → Int → Int → Option Int) (n : Nat) : { B : Term → Int → Int → Int → Int → Int → Option Int // ∀ (a0 : Term) (a1 : Int) (a2 : Int) (a3 : Int) (a4 : Int) (a5 : Int), run (z1j_m X n) [.at []] { slots := [(tyC Term.cel).enc a0, (tyI .i64).enc a1, (tyI .i64).enc a2, (tyI .i64).enc a3, (tyI .i64).enc a4, (tyI .i64).enc a5] ++ List.replicate (107 - [(tyC Term.cel).enc a0, (tyI .i64).enc a1, (tyI .i64).enc a2, (tyI .i64).enc a3, (tyI .i64).enc a4, (tyI .i64).enc a5].length) .any, heap := [] } = B a0 a1 a2 a3 a4 a5 } := by
  apply Subtype.mk
  intro a0 a1 a2 a3 a4 a5
  simp (maxSteps := 100000000) only [go_sem, q00, q01, q02, q03, q04, q05, q06, q10, q11, q12, q13, q14, z1j_f, z1j_c, Try.f106, Option.getD_some, mixed, z1j_d, z1j_n1, z1j_n2, z1j_l1_eq X n, z1j_l2_eq X n]
  exact rfl
noncomputable def z1j : Nat → Term → Int → Int → Int → Int → Int → Option Int
  | 0, _, _, _, _, _, _ => none
  | n + 1, a0, a1, a2, a3, a4, a5 => (z1j_e (z1j n) n).1 a0 a1 a2 a3 a4 a5
theorem z1j_ok : ∀ (n : Nat) (a0 : Term) (a1 : Int) (a2 : Int) (a3 : Int) (a4 : Int) (a5 : Int) (r : Int), z1j n a0 a1 a2 a3 a4 a5 = some r → FnC Try.prog 106 [(tyC Term.cel).enc a0, (tyI .i64).enc a1, (tyI .i64).enc a2, (tyI .i64).enc a3, (tyI .i64).enc a4, (tyI .i64).enc a5] (fun v => v = (tyI .i64).enc r)
  | 0, _, _, _, _, _, _, _, h => by cases h
  | n + 1, a0, a1, a2, a3, a4, a5, r, h => by
    have ih_ref03_check := z1j_ok n
    exact fnC_run (M := z1j_m (z1j n) n) ⟨(tabA_cons_ok (ent1_ok (z1t_ok n)) (tabA_cons_ok (ent1_ok (z1w_ok n)) (tabA_cons_ok (ent3_ok (z1k_ok n)) tabA_nil_ok))), (tabD_cons_ok (ent6_okD (ih_ref03_check)) (tabD_cons_ok (ent2_okD (z1g_ok n)) tabD_nil_ok)), tabN_ok _, tabF_ok _, noY_ok, noE_ok⟩ Try.func106 rfl rfl ⟨(tyC Term.cel).nb 0 _, (tyI .i64).nb 0 _, (tyI .i64).nb 0 _, (tyI .i64).nb 0 _, (tyI .i64).nb 0 _, (tyI .i64).nb 0 _, trivial⟩ Try.ntmps106 Try.results106 (fun σ hs => outR_ok (P := Try.prog) (rs := [.tmp 12]) (t := (tyI .i64)) (σ := σ) (r := r) hs) (((z1j_e (z1j n) n).2 a0 a1 a2 a3 a4 a5).trans h)

noncomputable def z0m_n1 : Nrm := ⟨[], [], [zA, zA, zK, zK, zA, zA, zA, zK, zA, zA, zA, zA, zA, zA, zA, zA, zA, zA, zA, zA, zA, zA, zA, zA, zA, zA, zA, zA, zA, zA, zA, zA, zA, zA, zA, zA, zA, zA, zA, zA, zA, zA, zA, zA, zA, zA, zA, zA, zA, zA, zA, zA, zA, zA, zA, zA, zA, zA, zA], [oT Zs0.cel, oT Term.cel], none⟩
noncomputable def z0m_m (X : Zs0 → Term → Option Int) (n : Nat) : Mach Int where
  body := (Try.f136.body).getD .skip
  P := Try.prog
  cl := tabA [(43, ent2 (tyL rowS) tyS tyB (z24 n)), (109, ent2 (tyL Decl.row) tyS (ty2 (tyC Entry.cel) (tyI .i64)) (z1y n)), (127, ent3 (tyC Decl.cel) (tyI .i64) tyS (tyC Entry.cel) (z1o n))]
  cd := tabD [(136, entD (ent2 (tyC Zs0.cel) (tyC Term.cel) (tyI .i64) X))]
  nrm := tabN [([0, 1, 0, 1, 1], z0m_n1)]
  cut := tabF []
  n := n
  out := outR Try.prog [.tmp 4] (tyI .i64)
  isE := tabI []
theorem z0m_f (X : Zs0 → Term → Option Int) (n : Nat) : (z0m_m X n).P = Try.prog ∧ (z0m_m X n).cl = tabA [(43, ent2 (tyL rowS) tyS tyB (z24 n)), (109, ent2 (tyL Decl.row) tyS (ty2 (tyC Entry.cel) (tyI .i64)) (z1y n)), (127, ent3 (tyC Decl.cel) (tyI .i64) tyS (tyC Entry.cel) (z1o n))] ∧ (z0m_m X n).cd = tabD [(136, entD (ent2 (tyC Zs0.cel) (tyC Term.cel) (tyI .i64) X))] ∧ (z0m_m X n).nrm = tabN [([0, 1, 0, 1, 1], z0m_n1)] ∧ (z0m_m X n).cut = tabF [] ∧ (z0m_m X n).n = n ∧ (z0m_m X n).out = outR Try.prog [.tmp 4] (tyI .i64) ∧ (z0m_m X n).isE = tabI [] := ⟨rfl, rfl, rfl, rfl, rfl, rfl, rfl, rfl⟩
theorem z0m_c (X : Zs0 → Term → Option Int) (n : Nat) : (z0m_m X n).body = (Try.f136.body).getD .skip := rfl
theorem z0m_d (X : Zs0 → Term → Option Int) (n : Nat) : drawP (z0m_m X n) [0, 0, 0, 1, 0, 0, 1, 0, 1, 1] = true := by kernel_rfl
noncomputable def z0m_b1 (X : Zs0 → Term → Option Int) (n : Nat) : { B : (Int → Zs0 → Term → Option Int) → Int → Zs0 → Term → Option Int // ∀ m X0, (∀ (v0 : Int) (o0 : Zs0) (o1 : Term), run (z0m_m X n) [.lq m [0, 1, 0, 1, 1], .blk 0, .cut [1, 1, 1], .at [1, 1, 1]] ⟨[.any, .any, .ptr 0 0, .ptr 1 0, .any, .any, .any, .int .i64 v0, .any, .any, .any, .any, .any, .any, .any, .any, .any, .any, .any, .any, .any, .any, .any, .any, .any, .any, .any, .any, .any, .any, .any, .any, .any, .any, .any, .any, .any, .any, .any, .any, .any, .any, .any, .any, .any, .any, .any, .any, .any, .any, .any, .any, .any, .any, .any, .any, .any, .any, .any], [.cells (Zs0.cells o0), .cells (Term.cells o1)], 0⟩ = X0 v0 o0 o1) → ∀ (v0 : Int) (o0 : Zs0) (o1 : Term), run (z0m_m X n) [.at [0, 0, 1, 0, 1, 1], .lp m [0, 1, 0, 1, 1], .blk 0, .cut [1, 1, 1], .at [1, 1, 1]] ⟨[.any, .any, .ptr 0 0, .ptr 1 0, .any, .any, .any, .int .i64 v0, .any, .any, .any, .any, .any, .any, .any, .any, .any, .any, .any, .any, .any, .any, .any, .any, .any, .any, .any, .any, .any, .any, .any, .any, .any, .any, .any, .any, .any, .any, .any, .any, .any, .any, .any, .any, .any, .any, .any, .any, .any, .any, .any, .any, .any, .any, .any, .any, .any, .any, .any], [.cells (Zs0.cells o0), .cells (Term.cells o1)], 0⟩ = B X0 v0 o0 o1 } := by
  apply Subtype.mk
  intro m X0 ih v0 o0 o1
  simp (maxSteps := 100000000) only [go_sem, q00, q01, q02, q03, q04, q05, q06, q10, q11, q12, q13, q14, z0m_f, z0m_c, Try.f136, Option.getD_some, mixed, z0m_d, z0m_n1, ih]
  exact rfl
noncomputable def z0m_l1 (X : Zs0 → Term → Option Int) (n : Nat) : Nat → Int → Zs0 → Term → Option Int
  | 0, _, _, _ => none
  | m + 1, v0, o0, o1 => (z0m_b1 X n).1 (z0m_l1 X n m) v0 o0 o1
theorem z0m_l1_eq (X : Zs0 → Term → Option Int) (n : Nat) : ∀ (m : Nat), (∀ (v0 : Int) (o0 : Zs0) (o1 : Term), run (z0m_m X n) [.lq m [0, 1, 0, 1, 1], .blk 0, .cut [1, 1, 1], .at [1, 1, 1]] ⟨[.any, .any, .ptr 0 0, .ptr 1 0, .any, .any, .any, .int .i64 v0, .any, .any, .any, .any, .any, .any, .any, .any, .any, .any, .any, .any, .any, .any, .any, .any, .any, .any, .any, .any, .any, .any, .any, .any, .any, .any, .any, .any, .any, .any, .any, .any, .any, .any, .any, .any, .any, .any, .any, .any, .any, .any, .any, .any, .any, .any, .any, .any, .any, .any, .any], [.cells (Zs0.cells o0), .cells (Term.cells o1)], 0⟩ = z0m_l1 X n m v0 o0 o1)
  | 0 => by intros; exact run_lq_zero
  | m + 1 => by
    have ih := z0m_l1_eq X n m
    intro v0 o0 o1
    rw [run_lq_succ]
    exact (z0m_b1 X n).2  m _  ih v0 o0 o1
noncomputable def z0m_e (X : Zs0 → Term → Option Int) (n : Nat) : { B : Zs0 → Term → Option Int // ∀ (a0 : Zs0) (a1 : Term), run (z0m_m X n) [.at []] { slots := [(tyC Zs0.cel).enc a0, (tyC Term.cel).enc a1] ++ List.replicate (59 - [(tyC Zs0.cel).enc a0, (tyC Term.cel).enc a1].length) .any, heap := [] } = B a0 a1 } := by
  apply Subtype.mk
  intro a0 a1
  simp (maxSteps := 100000000) only [go_sem, q00, q01, q02, q03, q04, q05, q06, q10, q11, q12, q13, q14, z0m_f, z0m_c, Try.f136, Option.getD_some, mixed, z0m_d, z0m_n1, z0m_l1_eq X n]
  exact rfl
noncomputable def z0m : Nat → Zs0 → Term → Option Int
  | 0, _, _ => none
  | n + 1, a0, a1 => (z0m_e (z0m n) n).1 a0 a1
theorem z0m_ok : ∀ (n : Nat) (a0 : Zs0) (a1 : Term) (r : Int), z0m n a0 a1 = some r → FnC Try.prog 136 [(tyC Zs0.cel).enc a0, (tyC Term.cel).enc a1] (fun v => v = (tyI .i64).enc r)
  | 0, _, _, _, h => by cases h
  | n + 1, a0, a1, r, h => by
    have ih_ref07_constants := z0m_ok n
    exact fnC_run (M := z0m_m (z0m n) n) ⟨(tabA_cons_ok (ent2_ok (z24_ok n)) (tabA_cons_ok (ent2_ok (z1y_ok n)) (tabA_cons_ok (ent3_ok (z1o_ok n)) tabA_nil_ok))), (tabD_cons_ok (ent2_okD (ih_ref07_constants)) tabD_nil_ok), tabN_ok _, tabF_ok _, noY_ok, noE_ok⟩ Try.func136 rfl rfl ⟨(tyC Zs0.cel).nb 0 _, (tyC Term.cel).nb 0 _, trivial⟩ Try.ntmps136 Try.results136 (fun σ hs => outR_ok (P := Try.prog) (rs := [.tmp 4]) (t := (tyI .i64)) (σ := σ) (r := r) hs) (((z0m_e (z0m n) n).2 a0 a1).trans h)
end Go.Abs
namespace Go.Abs
open Go.Proofs
set_option maxRecDepth 100000
set_option maxHeartbeats 4000000
set_option linter.unusedSimpArgs false
set_option linter.unusedVariables false
noncomputable def z21_m (n : Nat) : Mach Decl where
  body := (Try.f55.body).getD .skip
  P := Try.prog
  cl := tabA []
  cd := tabD [(93, entD (ent1 (tyI .i64) (tyC Term.cel) (z1b n))), (94, entD (ent2 (tyC Term.cel) (tyC Term.cel) (tyC Term.cel) (z1c n))), (95, entD (ent2 (tyC Term.cel) (tyC Term.cel) (tyC Term.cel) (z1d n))), (96, entD (ent4 (tyC Term.cel) (tyC Term.cel) (tyP (cF 95)) (tyP (cL Level.row)) (tyC Term.cel) (z1e n)))]
  nrm := tabN []
  cut := tabF [([1, 1, 1, 1, 1, 1, 1], [1, 2])]
  n := n
  out := outR Try.prog [.cell 2 31] (tyC Decl.cel)
  isE := tabI []
theorem z21_f (n : Nat) : (z21_m n).P = Try.prog ∧ (z21_m n).cl = tabA [] ∧ (z21_m n).cd = tabD [(93, entD (ent1 (tyI .i64) (tyC Term.cel) (z1b n))), (94, entD (ent2 (tyC Term.cel) (tyC Term.cel) (tyC Term.cel) (z1c n))), (95, entD (ent2 (tyC Term.cel) (tyC Term.cel) (tyC Term.cel) (z1d n))), (96, entD (ent4 (tyC Term.cel) (tyC Term.cel) (tyP (cF 95)) (tyP (cL Level.row)) (tyC Term.cel) (z1e n)))] ∧ (z21_m n).nrm = tabN [] ∧ (z21_m n).cut = tabF [([1, 1, 1, 1, 1, 1, 1], [1, 2])] ∧ (z21_m n).n = n ∧ (z21_m n).out = outR Try.prog [.cell 2 31] (tyC Decl.cel) ∧ (z21_m n).isE = tabI [] := ⟨rfl, rfl, rfl, rfl, rfl, rfl, rfl, rfl⟩
theorem z21_c (n : Nat) : (z21_m n).body = (Try.f55.body).getD .skip := rfl
theorem z21_d (n : Nat) : drawP (z21_m n) [0, 1, 1, 1, 1, 1, 1, 1, 1] = true := by kernel_rfl
theorem z21_o (n : Nat) : ordP (z21_m n) [0, 1, 1, 1, 1, 1, 1, 1, 1] 1 47 = true ∧ ordP (z21_m n) [0, 1, 1, 1, 1, 1, 1, 1, 1] 3 47 = true ∧ ordP (z21_m n) [0, 1, 1, 1, 1, 1, 1, 1, 1] 4 47 = true ∧ ordP (z21_m n) [0, 1, 1, 1, 1, 1, 1, 1, 1] 9 47 = true ∧ ordP (z21_m n) [0, 1, 1, 1, 1, 1, 1, 1, 1] 13 47 = true ∧ ordP (z21_m n) [0, 1, 1, 1, 1, 1, 1, 1, 1] 18 47 = true ∧ ordP (z21_m n) [0, 1, 1, 1, 1, 1, 1, 1, 1] 20 47 = true ∧ ordP (z21_m n) [0, 1, 1, 1, 1, 1, 1, 1, 1] 34 47 = true ∧ ordP (z21_m n) [0, 1, 1, 1, 1, 1, 1, 1, 1] 35 47 = true := ⟨by kernel_rfl, by kernel_rfl, by kernel_rfl, by kernel_rfl, by kernel_rfl, by kernel_rfl, by kernel_rfl, by kernel_rfl, by kernel_rfl⟩
noncomputable def z21_e (n : Nat) : { B : Int → Option Decl // ∀ (a0 : Int), run (z21_m n) [.at []] { slots := [(tyI .i64).enc a0] ++ List.replicate (69 - [(tyI .i64).enc a0].length) .any, heap := [] } = B a0 } := by
  apply Subtype.mk
  intro a0
  simp (maxSteps := 100000000) only [go_sem, q00, q01, q02, q03, q04, q05, q06, q10, q11, q12, q13, q14, z21_f, z21_c, Try.f55, Option.getD_some, mixed, z21_d, z21_o]
  exact rfl
noncomputable def z21 : Nat → Int → Option Decl
  | 0, _ => none
  | n + 1, a0 => (z21_e n).1 a0
theorem z21_ok : ∀ (n : Nat) (a0 : Int) (r : Decl), z21 n a0 = some r → FnC Try.prog 55 [(tyI .i64).enc a0] (fun v => v = (tyC Decl.cel).enc r)
  | 0, _, _, h => by cases h
  | n + 1, a0, r, h => by
    exact fnC_run (M := z21_m n) ⟨tabA_nil_ok, (tabD_cons_ok (ent1_okD (z1b_ok n)) (tabD_cons_ok (ent2_okD (z1c_ok n)) (tabD_cons_ok (ent2_okD (z1d_ok n)) (tabD_cons_ok (ent4_okD (z1e_ok n)) tabD_nil_ok)))), tabN_ok _, tabF_ok _, noY_ok, noE_ok⟩ Try.func55 rfl rfl ⟨(tyI .i64).nb 0 _, trivial⟩ Try.ntmps55 Try.results55 (fun σ hs => outR_ok (P := Try.prog) (rs := [.cell 2 31]) (t := (tyC Decl.cel)) (σ := σ) (r := r) hs) (((z21_e n).2 a0).trans h)

noncomputable def z01_n1 : Nrm := ⟨[], [], [zA, zT (tyL Level.row), zT (tyF 64), zA, zA, zA, zA, zA, zA, zA, zA, zA, zA, zA, zA, zT (tyL Level.row), zK, zK, zA, zA, zA, zA, zA, zA, zA, zA, zA, zA, zA, zA, zA, zA], [], none⟩
noncomputable def z01_m (n : Nat) : Mach Bool where
  body := (Try.f63.body).getD .skip
  P := Try.prog
  cl := tabA [(64, ent2 (tyC Level.cel) (tyC Level.cel) tyB (z0w n))]
  cd := tabD []
  nrm := tabN [([0, 1, 0, 1, 1], z01_n1)]
  cut := tabF []
  n := n
  out := outR Try.prog [.tmp 6] tyB
theorem z01_f (n : Nat) : (z01_m n).P = Try.prog ∧ (z01_m n).cl = tabA [(64, ent2 (tyC Level.cel) (tyC Level.cel) tyB (z0w n))] ∧ (z01_m n).cd = tabD [] ∧ (z01_m n).nrm = tabN [([0, 1, 0, 1, 1], z01_n1)] ∧ (z01_m n).cut = tabF [] ∧ (z01_m n).n = n ∧ (z01_m n).out = outR Try.prog [.tmp 6] tyB := ⟨rfl, rfl, rfl, rfl, rfl, rfl, rfl⟩
theorem z01_c (n : Nat) : (z01_m n).body = (Try.f63.body).getD .skip := rfl
noncomputable def z01_b1 (n : Nat) : { B : ((List Level) → (List Level) → Int → Int → Option Bool) → (List Level) → (List Level) → Int → Int → Option Bool // ∀ m X0, (∀ (v0 : List Level) (v1 : List Level) (v2 : Int) (v3 : Int), run (z01_m n) [.lq m [0, 1, 0, 1, 1], .blk 0, .cut [1, 1, 1], .at [1, 1, 1]] ⟨[.any, .lst false 2 (mp Level.cells v0), .func (.func 64) [] [], .any, .any, .any, .any, .any, .any, .any, .any, .any, .any, .any, .any, .lst false 2 (mp Level.cells v1), .int .i64 v2, .int .i64 v3, .any, .any, .any, .any, .any, .any, .any, .any, .any, .any, .any, .any, .any, .any], [], 0⟩ = X0 v0 v1 v2 v3) → ∀ (v0 : List Level) (v1 : List Level) (v2 : Int) (v3 : Int), run (z01_m n) [.at [0, 0, 1, 0, 1, 1], .lp m [0, 1, 0, 1, 1], .blk 0, .cut [1, 1, 1], .at [1, 1, 1]] ⟨[.any, .lst false 2 (mp Level.cells v0), .func (.func 64) [] [], .any, .any, .any, .any, .any, .any, .any, .any, .any, .any, .any, .any, .lst false 2 (mp Level.cells v1), .int .i64 v2, .int .i64 v3, .any, .any, .any, .any, .any, .any, .any, .any, .any, .any, .any, .any, .any, .any], [], 0⟩ = B X0 v0 v1 v2 v3 } := by
  apply Subtype.mk
  intro m X0 ih v0 v1 v2 v3
  simp (maxSteps := 100000000) only [go_sem, q00, q01, q02, q03, q04, q05, q06, q10, q11, q12, q13, q14, z01_f, z01_c, Try.f63, Option.getD_some, mixed, z01_n1, ih]
  exact rfl
noncomputable def z01_l1 (n : Nat) : Nat → (List Level) → (List Level) → Int → Int → Option Bool
  | 0, _, _, _, _ => none
  | m + 1, v0, v1, v2, v3 => (z01_b1 n).1 (z01_l1 n m) v0 v1 v2 v3
theorem z01_l1_eq (n : Nat) : ∀ (m : Nat), (∀ (v0 : List Level) (v1 : List Level) (v2 : Int) (v3 : Int), run (z01_m n) [.lq m [0, 1, 0, 1, 1], .blk 0, .cut [1, 1, 1], .at [1, 1, 1]] ⟨[.any, .lst false 2 (mp Level.cells v0), .func (.func 64) [] [], .any, .any, .any, .any, .any, .any, .any, .any, .any, .any, .any, .any, .lst false 2 (mp Level.cells v1), .int .i64 v2, .int .i64 v3, .any, .any, .any, .any, .any, .any, .any, .any, .any, .any, .any, .any, .any, .any], [], 0⟩ = z01_l1 n m v0 v1 v2 v3)
  | 0 => by intros; exact run_lq_zero
  | m + 1 => by
    have ih := z01_l1_eq n m
    intro v0 v1 v2 v3
    rw [run_lq_succ]
    exact (z01_b1 n).2  m _  ih v0 v1 v2 v3
noncomputable def z01_e (n : Nat) : { B : (List Level) → (List Level) → Unit → Option Bool // ∀ (a0 : (List Level)) (a1 : (List Level)) (a2 : Unit), run (z01_m n) [.at []] { slots := [(tyL Level.row).enc a0, (tyL Level.row).enc a1, (tyF 64).enc a2] ++ List.replicate (32 - [(tyL Level.row).enc a0, (tyL Level.row).enc a1, (tyF 64).enc a2].length) .any, heap := [] } = B a0 a1 a2 } := by
  apply Subtype.mk
  intro a0 a1 a2
  simp (maxSteps := 100000000) only [go_sem, q00, q01, q02, q03, q04, q05, q06, q10, q11, q12, q13, q14, z01_f, z01_c, Try.f63, Option.getD_some, mixed, z01_n1, z01_l1_eq n]
  exact rfl
noncomputable def z01 : Nat → (List Level) → (List Level) → Unit → Option Bool
  | 0, _, _, _ => none
  | n + 1, a0, a1, a2 => (z01_e n).1 a0 a1 a2
theorem z01_ok : ∀ (n : Nat) (a0 : (List Level)) (a1 : (List Level)) (a2 : Unit) (r : Bool), z01 n a0 a1 a2 = some r → FnC Try.prog 63 [(tyL Level.row).enc a0, (tyL Level.row).enc a1, (tyF 64).enc a2] (fun v => v = tyB.enc r)
  | 0, _, _, _, _, h => by cases h
  | n + 1, a0, a1, a2, r, h => by
    exact fnC_run (M := z01_m n) ⟨(tabA_cons_ok (ent2_ok (z0w_ok n)) tabA_nil_ok), tabD_nil_ok, tabN_ok _, tabF_ok _, noY_ok, noE_ok⟩ Try.func63 rfl rfl ⟨(tyL Level.row).nb 0 _, (tyL Level.row).nb 0 _, (tyF 64).nb 0 _, trivial⟩ Try.ntmps63 Try.results63 (fun σ hs => outR_ok (P := Try.prog) (rs := [.tmp 6]) (t := tyB) (σ := σ) (r := r) hs) (((z01_e n).2 a0 a1 a2).trans h)

noncomputable def z0h_m (n : Nat) : Mach Term where
  body := (Try.f103.body).getD .skip
  P := Try.prog
  cl := tabA [(104, ent1 (tyL Term.row) (tyK1 117 (tyP (cL Term.row))) (z08 n)), (117, entX [.arg 0 [], .obj 0 4 []] z06_os (alM 0 (alT (tyP (cL Term.row)) alN)) z06_o1 alN (fun (b : ((Int × Unit) × ((Term × Unit) × Unit))) (a : ((List Term) × Unit)) => (z06 n) a.1 b.1.1 b.2.1.1))]
  cd := tabD []
  nrm := tabN []
  cut := tabF []
  n := n
  out := outR Try.prog [.cell 5 25] (tyC Term.cel)
  js := tabJ [([0, 1, 0, 1], [])]
theorem z0h_f (n : Nat) : (z0h_m n).P = Try.prog ∧ (z0h_m n).cl = tabA [(104, ent1 (tyL Term.row) (tyK1 117 (tyP (cL Term.row))) (z08 n)), (117, entX [.arg 0 [], .obj 0 4 []] z06_os (alM 0 (alT (tyP (cL Term.row)) alN)) z06_o1 alN (fun (b : ((Int × Unit) × ((Term × Unit) × Unit))) (a : ((List Term) × Unit)) => (z06 n) a.1 b.1.1 b.2.1.1))] ∧ (z0h_m n).cd = tabD [] ∧ (z0h_m n).nrm = tabN [] ∧ (z0h_m n).cut = tabF [] ∧ (z0h_m n).n = n ∧ (z0h_m n).out = outR Try.prog [.cell 5 25] (tyC Term.cel) ∧ (z0h_m n).js = tabJ [([0, 1, 0, 1], [])] := ⟨rfl, rfl, rfl, rfl, rfl, rfl, rfl, rfl⟩
theorem z0h_c (n : Nat) : (z0h_m n).body = (Try.f103.body).getD .skip := rfl
theorem z0h_k0_ (n : Nat) : lkM (z0h_m n) [0, 1, 0, 1] = z0h_k0_1_0_1 := rfl
noncomputable def z0h_e (n : Nat) : { B : (List Term) → Term → Int → Option Term // ∀ (a0 : (List Term)) (a1 : Term) (a2 : Int), run (z0h_m n) [.at []] { slots := [(tyL Term.row).enc a0, (tyC Term.cel).enc a1, (tyP (cI .i64)).enc a2] ++ List.replicate (18 - [(tyL Term.row).enc a0, (tyC Term.cel).enc a1, (tyP (cI .i64)).enc a2].length) .any, heap := [] } = B a0 a1 a2 } := by
  apply Subtype.mk
  intro a0 a1 a2
  simp (maxSteps := 100000000) only [go_sem, q00, q01, q02, q03, q04, q05, q06, q10, q11, q12, q13, q14, z0h_f, z0h_c, Try.f103, Option.getD_some, mixed, z06_os, z06_o1, z0h_k0_1_0_1_f, z0h_k0_]
  exact rfl
noncomputable def z0h : Nat → (List Term) → Term → Int → Option Term
  | 0, _, _, _ => none
  | n + 1, a0, a1, a2 => (z0h_e n).1 a0 a1 a2
theorem z0h_ok : ∀ (n : Nat) (a0 : (List Term)) (a1 : Term) (a2 : Int) (r : Term), z0h n a0 a1 a2 = some r → FnC Try.prog 103 [(tyL Term.row).enc a0, (tyC Term.cel).enc a1, (tyP (cI .i64)).enc a2] (fun v => v = (tyC Term.cel).enc r)
  | 0, _, _, _, _, h => by cases h
  | n + 1, a0, a1, a2, r, h => by
    exact fnC_run (M := z0h_m n) ⟨(tabA_cons_ok (ent1_ok (z08_ok n)) (tabA_cons_ok (entX_ok (fun b a r h => (z06_ok n) a.1 b.1.1 b.2.1.1 r h)) tabA_nil_ok)), tabD_nil_ok, tabN_ok _, tabF_ok _, noY_ok, noE_ok⟩ Try.func103 rfl rfl ⟨(tyL Term.row).nb 0 _, (tyC Term.cel).nb 0 _, (tyP (cI .i64)).nb 0 _, trivial⟩ Try.ntmps103 Try.results103 (fun σ hs => outR_ok (P := Try.prog) (rs := [.cell 5 25]) (t := (tyC Term.cel)) (σ := σ) (r := r) hs) (((z0h_e n).2 a0 a1 a2).trans h)

noncomputable def z0t_n1 : Nrm := ⟨[], [], [zA, zA, zA, zK, zK, zK, zA, zA, zA, zA, zT (tyL Decl.row), zK, zK, zA, zA, zA, zA, zA, zA, zA, zA, zA, zA, zA, zA, zA, zA, zA], [oC [zK], oT Entry.cel, oC [zK]], none⟩
noncomputable def z0t_m (n : Nat) : Mach (Entry × Int) where
  body := (Try.f73.body).getD .skip
  P := Try.prog
  cl := tabA [(108, ent2 (tyC Decl.cel) (tyI .i64) (tyK2 125 (tyP (cI .i64)) (tyP Decl.cel)) (z0e n)), (125, entX [.arg 0 [], .obj 0 3 [], .obj 0 4 [], .obj 0 5 []] z0a_os z0a_as z0a_o1 alN (fun (b : (Unit × ((Str × Unit) × ((Entry × Unit) × ((Int × Unit) × Unit))))) (a : (Int × (Decl × Unit))) => (z0a n) a.1 a.2.1 b.2.1.1 b.2.2.1.1 b.2.2.2.1.1))]
  cd := tabD []
  nrm := tabN [([0, 1, 0, 1], z0t_n1)]
  cut := tabF []
  n := n
  out := outR Try.prog [.cell 4 111, .cell 5 37] (ty2 (tyC Entry.cel) (tyI .i64))
  js := tabJ [([0, 1, 1, 0, 0, 1, 1, 0, 0, 1, 0, 1], [(1, .ret)])]
theorem z0t_f (n : Nat) : (z0t_m n).P = Try.prog ∧ (z0t_m n).cl = tabA [(108, ent2 (tyC Decl.cel) (tyI .i64) (tyK2 125 (tyP (cI .i64)) (tyP Decl.cel)) (z0e n)), (125, entX [.arg 0 [], .obj 0 3 [], .obj 0 4 [], .obj 0 5 []] z0a_os z0a_as z0a_o1 alN (fun (b : (Unit × ((Str × Unit) × ((Entry × Unit) × ((Int × Unit) × Unit))))) (a : (Int × (Decl × Unit))) => (z0a n) a.1 a.2.1 b.2.1.1 b.2.2.1.1 b.2.2.2.1.1))] ∧ (z0t_m n).cd = tabD [] ∧ (z0t_m n).nrm = tabN [([0, 1, 0, 1], z0t_n1)] ∧ (z0t_m n).cut = tabF [] ∧ (z0t_m n).n = n ∧ (z0t_m n).out = outR Try.prog [.cell 4 111, .cell 5 37] (ty2 (tyC Entry.cel) (tyI .i64)) ∧ (z0t_m n).js = tabJ [([0, 1, 1, 0, 0, 1, 1, 0, 0, 1, 0, 1], [(1, .ret)])] := ⟨rfl, rfl, rfl, rfl, rfl, rfl, rfl, rfl⟩
theorem z0t_c (n : Nat) : (z0t_m n).body = (Try.f73.body).getD .skip := rfl
theorem z0t_k0_ (n : Nat) : lkM (z0t_m n) [0, 1, 1, 0, 0, 1, 1, 0, 0, 1, 0, 1] = z0t_k0_1_1_0_0_1_1_0_0_1_0_1 := rfl
noncomputable def z0t_b1 (n : Nat) : { B : ((List Decl) → Int → Int → Str → Entry → Int → Option (Entry × Int)) → (List Decl) → Int → Int → Str → Entry → Int → Option (Entry × Int) // ∀ m X0, (∀ (v0 : List Decl) (v1 : Int) (v2 : Int) (v3 : Str) (o1 : Entry) (v5 : Int), run (z0t_m n) [.lq m [0, 1, 0, 1], .blk 0, .cut [1, 1], .at [1, 1]] ⟨[.any, .any, .any, .ptr 0 0, .ptr 1 0, .ptr 2 0, .any, .any, .any, .any, .lst false 23 (mp Decl.cells v0), .int .i64 v1, .int .i64 v2, .any, .any, .any, .any, .any, .any, .any, .any, .any, .any, .any, .any, .any, .any, .any], [.cells [.str (sb v3)], .cells (Entry.cells o1), .cells [.int .i64 v5]], 0⟩ = X0 v0 v1 v2 v3 o1 v5) → ∀ (v0 : List Decl) (v1 : Int) (v2 : Int) (v3 : Str) (o1 : Entry) (v5 : Int), run (z0t_m n) [.at [0, 0, 1, 0, 1], .lp m [0, 1, 0, 1], .blk 0, .cut [1, 1], .at [1, 1]] ⟨[.any, .any, .any, .ptr 0 0, .ptr 1 0, .ptr 2 0, .any, .any, .any, .any, .lst false 23 (mp Decl.cells v0), .int .i64 v1, .int .i64 v2, .any, .any, .any, .any, .any, .any, .any, .any, .any, .any, .any, .any, .any, .any, .any], [.cells [.str (sb v3)], .cells (Entry.cells o1), .cells [.int .i64 v5]], 0⟩ = B X0 v0 v1 v2 v3 o1 v5 } := by
  apply Subtype.mk
  intro m X0 ih v0 v1 v2 v3 o1 v5
  simp (maxSteps := 100000000) only [go_sem, q00, q01, q02, q03, q04, q05, q06, q10, q11, q12, q13, q14, z0t_f, z0t_c, Try.f73, Option.getD_some, mixed, z0a_as, z0a_os, z0a_o1, z0t_k0_1_1_0_0_1_1_0_0_1_0_1_f, z0t_k0_, z0t_n1, ih]
  exact rfl
noncomputable def z0t_l1 (n : Nat) : Nat → (List Decl) → Int → Int → Str → Entry → Int → Option (Entry × Int)
  | 0, _, _, _, _, _, _ => none
  | m + 1, v0, v1, v2, v3, o1, v5 => (z0t_b1 n).1 (z0t_l1 n m) v0 v1 v2 v3 o1 v5
theorem z0t_l1_eq (n : Nat) : ∀ (m : Nat), (∀ (v0 : List Decl) (v1 : Int) (v2 : Int) (v3 : Str) (o1 : Entry) (v5 : Int), run (z0t_m n) [.lq m [0, 1, 0, 1], .blk 0, .cut [1, 1], .at [1, 1]] ⟨[.any, .any, .any, .ptr 0 0, .ptr 1 0, .ptr 2 0, .any, .any, .any, .any, .lst false 23 (mp Decl.cells v0), .int .i64 v1, .int .i64 v2, .any, .any, .any, .any, .any, .any, .any, .any, .any, .any, .any, .any, .any, .any, .any], [.cells [.str (sb v3)], .cells (Entry.cells o1), .cells [.int .i64 v5]], 0⟩ = z0t_l1 n m v0 v1 v2 v3 o1 v5)
  | 0 => by intros; exact run_lq_zero
  | m + 1 => by
    have ih := z0t_l1_eq n m
    intro v0 v1 v2 v3 o1 v5
    rw [run_lq_succ]
    exact (z0t_b1 n).2  m _  ih v0 v1 v2 v3 o1 v5
noncomputable def z0t_e (n : Nat) : { B : (List Decl) → Str → Option (Entry × Int) // ∀ (a0 : (List Decl)) (a1 : Str), run (z0t_m n) [.at []] { slots := [(tyL Decl.row).enc a0, tyS.enc a1] ++ List.replicate (28 - [(tyL Decl.row).enc a0, tyS.enc a1].length) .any, heap := [] } = B a0 a1 } := by
  apply Subtype.mk
  intro a0 a1
  simp (maxSteps := 100000000) only [go_sem, q00, q01, q02, q03, q04, q05, q06, q10, q11, q12, q13, q14, z0t_f, z0t_c, Try.f73, Option.getD_some, mixed, z0a_as, z0a_os, z0a_o1, z0t_k0_1_1_0_0_1_1_0_0_1_0_1_f, z0t_k0_, z0t_n1, z0t_l1_eq n]
  exact rfl
noncomputable def z0t : Nat → (List Decl) → Str → Option (Entry × Int)
  | 0, _, _ => none
  | n + 1, a0, a1 => (z0t_e n).1 a0 a1
theorem z0t_ok : ∀ (n : Nat) (a0 : (List Decl)) (a1 : Str) (r : (Entry × Int)), z0t n a0 a1 = some r → FnC Try.prog 73 [(tyL Decl.row).enc a0, tyS.enc a1] (fun v => v = (ty2 (tyC Entry.cel) (tyI .i64)).enc r)
  | 0, _, _, _, h => by cases h
  | n + 1, a0, a1, r, h => by
    exact fnC_run (M := z0t_m n) ⟨(tabA_cons_ok (ent2_ok (z0e_ok n)) (tabA_cons_ok (entX_ok (fun b a r h => (z0a_ok n) a.1 a.2.1 b.2.1.1 b.2.2.1.1 b.2.2.2.1.1 r h)) tabA_nil_ok)), tabD_nil_ok, tabN_ok _, tabF_ok _, noY_ok, noE_ok⟩ Try.func73 rfl rfl ⟨(tyL Decl.row).nb 0 _, tyS.nb 0 _, trivial⟩ Try.ntmps73 Try.results73 (fun σ hs => outR_ok (P := Try.prog) (rs := [.cell 4 111, .cell 5 37]) (t := (ty2 (tyC Entry.cel) (tyI .i64))) (σ := σ) (r := r) hs) (((z0t_e n).2 a0 a1).trans h)
end Go.Abs
namespace Go.Abs
open Go.Proofs
set_option maxRecDepth 100000
set_option maxHeartbeats 4000000
set_option linter.unusedSimpArgs false
set_option linter.unusedVariables false
noncomputable def z0y_n1 : Nrm := ⟨[], [], [zA, zK, zA, zA, zA, zK, zA, zA, zA, zA, zA, zA, zA, zA, zA, zA, zA, zA, zA, zA, zA, zA, zA, zA, zA, zA, zA, zA, zA, zA, zA, zA, zA, zA, zA, zA, zA, zA, zA, zA, zA, zA, zA, zA, zA, zA, zA, zA, zA, zA, zA, zA, zA, zA, zA, zA, zA, zA, zA, zA, zA, zA, zA, zA, zA, zA, zA, zA, zA, zA, zA, zA, zA, zA, zA, zA, zA, zA, zA, zA, zA, zA, zA, zA, zA, zA, zA, zA, zA, zA, zA, zA, zA, zA, zA, zA, zA, zA, zA, zA, zA, zA, zA, zA, zA, zA, zA, zA, zA, zA, zA, zA, zA, zA, zA, zA, zA, zA, zA, zA, zA, zA, zA, zA], [oT Decl.cel], none⟩
noncomputable def z0y_n2 : Nrm := ⟨[], [], [zA, zK, zA, zA, zK, zA, zA, zA, zA, zA, zA, zA, zA, zA, zA, zA, zA, zA, zA, zA, zA, zA, zA, zA, zA, zA, zA, zA, zA, zA, zA, zA, zA, zA, zA, zA, zA, zA, zA, zA, zA, zA, zA, zA, zA, zA, zA, zA, zA, zA, zA, zA, zA, zA, zA, zA, zA, zA, zA, zA, zA, zA, zA, zA, zA, zA, zA, zA, zA, zA, zA, zA, zA, zA, zA, zA, zA, zA, zA, zA, zA, zA, zA, zA, zA, zA, zA, zA, zA, zA, zA, zA, zA, zA, zA, zA, zA, zA, zA, zA, zA, zA, zA, zA, zA, zA, zA, zA, zA, zA, zA, zA, zA, zA, zA, zA, zA, zA, zA, zA, zA, zA, zA, zA], [oT Decl.cel], none⟩
noncomputable def z0y_n3 : Nrm := ⟨[], [], [zA, zK, zA, zK, zA, zA, zA, zA, zA, zA, zA, zA, zA, zA, zA, zA, zA, zA, zA, zA, zA, zA, zA, zA, zA, zA, zA, zA, zA, zA, zA, zA, zA, zA, zA, zA, zA, zA, zA, zA, zA, zA, zA, zA, zA, zA, zA, zA, zA, zA, zA, zA, zA, zA, zA, zA, zA, zA, zA, zA, zA, zA, zA, zA, zA, zA, zA, zA, zA, zA, zA, zA, zA, zA, zA, zA, zA, zA, zA, zA, zA, zA, zA, zA, zA, zA, zA, zA, zA, zA, zA, zA, zA, zA, zA, zA, zA, zA, zA, zA, zA, zA, zA, zA, zA, zA, zA, zA, zA, zA, zA, zA, zA, zA, zA, zA, zA, zA, zA, zA, zA, zA, zA, zA], [oT Decl.cel], none⟩
noncomputable def z0y_m (n : Nat) : Mach Bool where
  body := (Try.f52.body).getD .skip
  P := Try.prog
  cl := tabA [(90, ent1 (tyC Term.cel) tyB (z19 n)), (91, ent2 (tyC Tree.cel) (tyI .i64) tyB (z0j n))]
  cd := tabD []
  nrm := tabN [([0, 1, 0, 1, 1, 1, 1], z0y_n1), ([0, 1, 0, 1, 1, 1], z0y_n2), ([0, 1, 0, 1, 1], z0y_n3)]
  cut := tabF []
  n := n
  out := outR Try.prog [.tmp 2] tyB
theorem z0y_f (n : Nat) : (z0y_m n).P = Try.prog ∧ (z0y_m n).cl = tabA [(90, ent1 (tyC Term.cel) tyB (z19 n)), (91, ent2 (tyC Tree.cel) (tyI .i64) tyB (z0j n))] ∧ (z0y_m n).cd = tabD [] ∧ (z0y_m n).nrm = tabN [([0, 1, 0, 1, 1, 1, 1], z0y_n1), ([0, 1, 0, 1, 1, 1], z0y_n2), ([0, 1, 0, 1, 1], z0y_n3)] ∧ (z0y_m n).cut = tabF [] ∧ (z0y_m n).n = n ∧ (z0y_m n).out = outR Try.prog [.tmp 2] tyB := ⟨rfl, rfl, rfl, rfl, rfl, rfl, rfl⟩
theorem z0y_c (n : Nat) : (z0y_m n).body = (Try.f52.body).getD .skip := rfl
noncomputable def z0y_b1 (n : Nat) : { B : (Int → Decl → Option Bool) → Int → Decl → Option Bool // ∀ m X0, (∀ (v0 : Int) (o0 : Decl), run (z0y_m n) [.lq m [0, 1, 0, 1, 1, 1, 1], .blk 4, .cut [1, 1, 1, 1, 1], .at [1, 1, 1, 1, 1]] ⟨[.any, .ptr 0 0, .any, .any, .any, .int .i64 v0, .any, .any, .any, .any, .any, .any, .any, .any, .any, .any, .any, .any, .any, .any, .any, .any, .any, .any, .any, .any, .any, .any, .any, .any, .any, .any, .any, .any, .any, .any, .any, .any, .any, .any, .any, .any, .any, .any, .any, .any, .any, .any, .any, .any, .any, .any, .any, .any, .any, .any, .any, .any, .any, .any, .any, .any, .any, .any, .any, .any, .any, .any, .any, .any, .any, .any, .any, .any, .any, .any, .any, .any, .any, .any, .any, .any, .any, .any, .any, .any, .any, .any, .any, .any, .any, .any, .any, .any, .any, .any, .any, .any, .any, .any, .any, .any, .any, .any, .any, .any, .any, .any, .any, .any, .any, .any, .any, .any, .any, .any, .any, .any, .any, .any, .any, .any, .any, .any], [.cells (Decl.cells o0)], 0⟩ = X0 v0 o0) → ∀ (v0 : Int) (o0 : Decl), run (z0y_m n) [.at [0, 0, 1, 0, 1, 1, 1, 1], .lp m [0, 1, 0, 1, 1, 1, 1], .blk 4, .cut [1, 1, 1, 1, 1], .at [1, 1, 1, 1, 1]] ⟨[.any, .ptr 0 0, .any, .any, .any, .int .i64 v0, .any, .any, .any, .any, .any, .any, .any, .any, .any, .any, .any, .any, .any, .any, .any, .any, .any, .any, .any, .any, .any, .any, .any, .any, .any, .any, .any, .any, .any, .any, .any, .any, .any, .any, .any, .any, .any, .any, .any, .any, .any, .any, .any, .any, .any, .any, .any, .any, .any, .any, .any, .any, .any, .any, .any, .any, .any, .any, .any, .any, .any, .any, .any, .any, .any, .any, .any, .any, .any, .any, .any, .any, .any, .any, .any, .any, .any, .any, .any, .any, .any, .any, .any, .any, .any, .any, .any, .any, .any, .any, .any, .any, .any, .any, .any, .any, .any, .any, .any, .any, .any, .any, .any, .any, .any, .any, .any, .any, .any, .any, .any, .any, .any, .any, .any, .any, .any, .any], [.cells (Decl.cells o0)], 0⟩ = B X0 v0 o0 } := by
  apply Subtype.mk
  intro m X0 ih v0 o0
  simp (maxSteps := 100000000) only [go_sem, q00, q01, q02, q03, q04, q05, q06, q10, q11, q12, q13, q14, z0y_f, z0y_c, Try.f52, Option.getD_some, mixed, z0y_n1, z0y_n2, z0y_n3, ih]
  exact rfl
noncomputable def z0y_l1 (n : Nat) : Nat → Int → Decl → Option Bool
  | 0, _, _ => none
  | m + 1, v0, o0 => (z0y_b1 n).1 (z0y_l1 n m) v0 o0
theorem z0y_l1_eq (n : Nat) : ∀ (m : Nat), (∀ (v0 : Int) (o0 : Decl), run (z0y_m n) [.lq m [0, 1, 0, 1, 1, 1, 1], .blk 4, .cut [1, 1, 1, 1, 1], .at [1, 1, 1, 1, 1]] ⟨[.any, .ptr 0 0, .any, .any, .any, .int .i64 v0, .any, .any, .any, .any, .any, .any, .any, .any, .any, .any, .any, .any, .any, .any, .any, .any, .any, .any, .any, .any, .any, .any, .any, .any, .any, .any, .any, .any, .any, .any, .any, .any, .any, .any, .any, .any, .any, .any, .any, .any, .any, .any, .any, .any, .any, .any, .any, .any, .any, .any, .any, .any, .any, .any, .any, .any, .any, .any, .any, .any, .any, .any, .any, .any, .any, .any, .any, .any, .any, .any, .any, .any, .any, .any, .any, .any, .any, .any, .any, .any, .any, .any, .any, .any, .any, .any, .any, .any, .any, .any, .any, .any, .any, .any, .any, .any, .any, .any, .any, .any, .any, .any, .any, .any, .any, .any, .any, .any, .any, .any, .any, .any, .any, .any, .any, .any, .any, .any], [.cells (Decl.cells o0)], 0⟩ = z0y_l1 n m v0 o0)
  | 0 => by intros; exact run_lq_zero
  | m + 1 => by
    have ih := z0y_l1_eq n m
    intro v0 o0
    rw [run_lq_succ]
    exact (z0y_b1 n).2  m _  ih v0 o0
noncomputable def z0y_b2 (n : Nat) : { B : (Int → Decl → Option Bool) → Int → Decl → Option Bool // ∀ m X0, (∀ (v0 : Int) (o0 : Decl), run (z0y_m n) [.lq m [0, 1, 0, 1, 1, 1], .blk 2, .cut [1, 1, 1, 1], .at [1, 1, 1, 1]] ⟨[.any, .ptr 0 0, .any, .any, .int .i64 v0, .any, .any, .any, .any, .any, .any, .any, .any, .any, .any, .any, .any, .any, .any, .any, .any, .any, .any, .any, .any, .any, .any, .any, .any, .any, .any, .any, .any, .any, .any, .any, .any, .any, .any, .any, .any, .any, .any, .any, .any, .any, .any, .any, .any, .any, .any, .any, .any, .any, .any, .any, .any, .any, .any, .any, .any, .any, .any, .any, .any, .any, .any, .any, .any, .any, .any, .any, .any, .any, .any, .any, .any, .any, .any, .any, .any, .any, .any, .any, .any, .any, .any, .any, .any, .any, .any, .any, .any, .any, .any, .any, .any, .any, .any, .any, .any, .any, .any, .any, .any, .any, .any, .any, .any, .any, .any, .any, .any, .any, .any, .any, .any, .any, .any, .any, .any, .any, .any, .any], [.cells (Decl.cells o0)], 0⟩ = X0 v0 o0) → ∀ (v0 : Int) (o0 : Decl), run (z0y_m n) [.at [0, 0, 1, 0, 1, 1, 1], .lp m [0, 1, 0, 1, 1, 1], .blk 2, .cut [1, 1, 1, 1], .at [1, 1, 1, 1]] ⟨[.any, .ptr 0 0, .any, .any, .int .i64 v0, .any, .any, .any, .any, .any, .any, .any, .any, .any, .any, .any, .any, .any, .any, .any, .any, .any, .any, .any, .any, .any, .any, .any, .any, .any, .any, .any, .any, .any, .any, .any, .any, .any, .any, .any, .any, .any, .any, .any, .any, .any, .any, .any, .any, .any, .any, .any, .any, .any, .any, .any, .any, .any, .any, .any, .any, .any, .any, .any, .any, .any, .any, .any, .any, .any, .any, .any, .any, .any, .any, .any, .any, .any, .any, .any, .any, .any, .any, .any, .any, .any, .any, .any, .any, .any, .any, .any, .any, .any, .any, .any, .any, .any, .any, .any, .any, .any, .any, .any, .any, .any, .any, .any, .any, .any, .any, .any, .any, .any, .any, .any, .any, .any, .any, .any, .any, .any, .any, .any], [.cells (Decl.cells o0)], 0⟩ = B X0 v0 o0 } := by
  apply Subtype.mk
  intro m X0 ih v0 o0
  simp (maxSteps := 100000000) only [go_sem, q00, q01, q02, q03, q04, q05, q06, q10, q11, q12, q13, q14, z0y_f, z0y_c, Try.f52, Option.getD_some, mixed, z0y_n1, z0y_n2, z0y_n3, z0y_l1_eq n, ih]
  exact rfl
noncomputable def z0y_l2 (n : Nat) : Nat → Int → Decl → Option Bool
  | 0, _, _ => none
  | m + 1, v0, o0 => (z0y_b2 n).1 (z0y_l2 n m) v0 o0
theorem z0y_l2_eq (n : Nat) : ∀ (m : Nat), (∀ (v0 : Int) (o0 : Decl), run (z0y_m n) [.lq m [0, 1, 0, 1, 1, 1], .blk 2, .cut [1, 1, 1, 1], .at [1, 1, 1, 1]] ⟨[.any, .ptr 0 0, .any, .any, .int .i64 v0, .any, .any, .any, .any, .any, .any, .any, .any, .any, .any, .any, .any, .any, .any, .any, .any, .any, .any, .any, .any, .any, .any, .any, .any, .any, .any, .any, .any, .any, .any, .any, .any, .any, .any, .any, .any, .any, .any, .any, .any, .any, .any, .any, .any, .any, .any, .any, .any, .any, .any, .any, .any, .any, .any, .any, .any, .any, .any, .any, .any, .any, .any, .any, .any, .any, .any, .any, .any, .any, .any, .any, .any, .any, .any, .any, .any, .any, .any, .any, .any, .any, .any, .any, .any, .any, .any, .any, .any, .any, .any, .any, .any, .any, .any, .any, .any, .any, .any, .any, .any, .any, .any, .any, .any, .any, .any, .any, .any, .any, .any, .any, .any, .any, .any, .any, .any, .any, .any, .any], [.cells (Decl.cells o0)], 0⟩ = z0y_l2 n m v0 o0)
  | 0 => by intros; exact run_lq_zero
  | m + 1 => by
    have ih := z0y_l2_eq n m
    intro v0 o0
    rw [run_lq_succ]
    exact (z0y_b2 n).2  m _  ih v0 o0
noncomputable def z0y_b3 (n : Nat) : { B : (Int → Decl → Option Bool) → Int → Decl → Option Bool // ∀ m X0, (∀ (v0 : Int) (o0 : Decl), run (z0y_m n) [.lq m [0, 1, 0, 1, 1], .blk 0, .cut [1, 1, 1], .at [1, 1, 1]] ⟨[.any, .ptr 0 0, .any, .int .i64 v0, .any, .any, .any, .any, .any, .any, .any, .any, .any, .any, .any, .any, .any, .any, .any, .any, .any, .any, .any, .any, .any, .any, .any, .any, .any, .any, .any, .any, .any, .any, .any, .any, .any, .any, .any, .any, .any, .any, .any, .any, .any, .any, .any, .any, .any, .any, .any, .any, .any, .any, .any, .any, .any, .any, .any, .any, .any, .any, .any, .any, .any, .any, .any, .any, .any, .any, .any, .any, .any, .any, .any, .any, .any, .any, .any, .any, .any, .any, .any, .any, .any, .any, .any, .any, .any, .any, .any, .any, .any, .any, .any, .any, .any, .any, .any, .any, .any, .any, .any, .any, .any, .any, .any, .any, .any, .any, .any, .any, .any, .any, .any, .any, .any, .any, .any, .any, .any, .any, .any, .any], [.cells (Decl.cells o0)], 0⟩ = X0 v0 o0) → ∀ (v0 : Int) (o0 : Decl), run (z0y_m n) [.at [0, 0, 1, 0, 1, 1], .lp m [0, 1, 0, 1, 1], .blk 0, .cut [1, 1, 1], .at [1, 1, 1]] ⟨[.any, .ptr 0 0, .any, .int .i64 v0, .any, .any, .any, .any, .any, .any, .any, .any, .any, .any, .any, .any, .any, .any, .any, .any, .any, .any, .any, .any, .any, .any, .any, .any, .any, .any, .any, .any, .any, .any, .any, .any, .any, .any, .any, .any, .any, .any, .any, .any, .any, .any, .any, .any, .any, .any, .any, .any, .any, .any, .any, .any, .any, .any, .any, .any, .any, .any, .any, .any, .any, .any, .any, .any, .any, .any, .any, .any, .any, .any, .any, .any, .any, .any, .any, .any, .any, .any, .any, .any, .any, .any, .any, .any, .any, .any, .any, .any, .any, .any, .any, .any, .any, .any, .any, .any, .any, .any, .any, .any, .any, .any, .any, .any, .any, .any, .any, .any, .any, .any, .any, .any, .any, .any, .any, .any, .any, .any, .any, .any], [.cells (Decl.cells o0)], 0⟩ = B X0 v0 o0 } := by
  apply Subtype.mk
  intro m X0 ih v0 o0
  simp (maxSteps := 100000000) only [go_sem, q00, q01, q02, q03, q04, q05, q06, q10, q11, q12, q13, q14, z0y_f, z0y_c, Try.f52, Option.getD_some, mixed, z0y_n1, z0y_n2, z0y_n3, z0y_l1_eq n, z0y_l2_eq n, ih]
  exact rfl
noncomputable def z0y_l3 (n : Nat) : Nat → Int → Decl → Option Bool
  | 0, _, _ => none
  | m + 1, v0, o0 => (z0y_b3 n).1 (z0y_l3 n m) v0 o0
theorem z0y_l3_eq (n : Nat) : ∀ (m : Nat), (∀ (v0 : Int) (o0 : Decl), run (z0y_m n) [.lq m [0, 1, 0, 1, 1], .blk 0, .cut [1, 1, 1], .at [1, 1, 1]] ⟨[.any, .ptr 0 0, .any, .int .i64 v0, .any, .any, .any, .any, .any, .any, .any, .any, .any, .any, .any, .any, .any, .any, .any, .any, .any, .any, .any, .any, .any, .any, .any, .any, .any, .any, .any, .any, .any, .any, .any, .any, .any, .any, .any, .any, .any, .any, .any, .any, .any, .any, .any, .any, .any, .any, .any, .any, .any, .any, .any, .any, .any, .any, .any, .any, .any, .any, .any, .any, .any, .any, .any, .any, .any, .any, .any, .any, .any, .any, .any, .any, .any, .any, .any, .any, .any, .any, .any, .any, .any, .any, .any, .any, .any, .any, .any, .any, .any, .any, .any, .any, .any, .any, .any, .any, .any, .any, .any, .any, .any, .any, .any, .any, .any, .any, .any, .any, .any, .any, .any, .any, .any, .any, .any, .any, .any, .any, .any, .any], [.cells (Decl.cells o0)], 0⟩ = z0y_l3 n m v0 o0)
  | 0 => by intros; exact run_lq_zero
  | m + 1 => by
    have ih := z0y_l3_eq n m
    intro v0 o0
    rw [run_lq_succ]
    exact (z0y_b3 n).2  m _  ih v0 o0
noncomputable def z0y_e (n : Nat) : { B : Decl → Option Bool // ∀ (a0 : Decl), run (z0y_m n) [.at []] { slots := [(tyC Decl.cel).enc a0] ++ List.replicate (124 - [(tyC Decl.cel).enc a0].length) .any, heap := [] } = B a0 } := by
  apply Subtype.mk
  intro a0
  simp (maxSteps := 100000000) only [go_sem, q00, q01, q02, q03, q04, q05, q06, q10, q11, q12, q13, q14, z0y_f, z0y_c, Try.f52, Option.getD_some, mixed, z0y_n1, z0y_n2, z0y_n3, z0y_l1_eq n, z0y_l2_eq n, z0y_l3_eq n]
  exact rfl
noncomputable def z0y : Nat → Decl → Option Bool
  | 0, _ => none
  | n + 1, a0 => (z0y_e n).1 a0
theorem z0y_ok : ∀ (n : Nat) (a0 : Decl) (r : Bool), z0y n a0 = some r → FnC Try.prog 52 [(tyC Decl.cel).enc a0] (fun v => v = tyB.enc r)
  | 0, _, _, h => by cases h
  | n + 1, a0, r, h => by
    exact fnC_run (M := z0y_m n) ⟨(tabA_cons_ok (ent1_ok (z19_ok n)) (tabA_cons_ok (ent2_ok (z0j_ok n)) tabA_nil_ok)), tabD_nil_ok, tabN_ok _, tabF_ok _, noY_ok, noE_ok⟩ Try.func52 rfl rfl ⟨(tyC Decl.cel).nb 0 _, trivial⟩ Try.ntmps52 Try.results52 (fun σ hs => outR_ok (P := Try.prog) (rs := [.tmp 2]) (t := tyB) (σ := σ) (r := r) hs) (((z0y_e n).2 a0).trans h)

noncomputable def z1z_m (n : Nat) : Mach Bool where
  body := (Try.f129.body).getD .skip
  P := Try.prog
  cl := tabA [(23, ent2 (tyC Term.cel) (tyC Term.cel) tyB (z1u n))]
  cd := tabD []
  nrm := tabN []
  cut := tabF []
  n := n
  out := outR Try.prog [.tmp 2] tyB
theorem z1z_f (n : Nat) : (z1z_m n).P = Try.prog ∧ (z1z_m n).cl = tabA [(23, ent2 (tyC Term.cel) (tyC Term.cel) tyB (z1u n))] ∧ (z1z_m n).cd = tabD [] ∧ (z1z_m n).nrm = tabN [] ∧ (z1z_m n).cut = tabF [] ∧ (z1z_m n).n = n ∧ (z1z_m n).out = outR Try.prog [.tmp 2] tyB := ⟨rfl, rfl, rfl, rfl, rfl, rfl, rfl⟩
theorem z1z_c (n : Nat) : (z1z_m n).body = (Try.f129.body).getD .skip := rfl
noncomputable def z1z_e (n : Nat) : { B : Term → Option Bool // ∀ (a0 : Term), run (z1z_m n) [.at []] { slots := [(tyC Term.cel).enc a0] ++ List.replicate (6 - [(tyC Term.cel).enc a0].length) .any, heap := [] } = B a0 } := by
  apply Subtype.mk
  intro a0
  simp (maxSteps := 100000000) only [go_sem, q00, q01, q02, q03, q04, q05, q06, q10, q11, q12, q13, q14, z1z_f, z1z_c, Try.f129, Option.getD_some, mixed]
  exact rfl
noncomputable def z1z : Nat → Term → Option Bool
  | 0, _ => none
  | n + 1, a0 => (z1z_e n).1 a0
theorem z1z_ok : ∀ (n : Nat) (a0 : Term) (r : Bool), z1z n a0 = some r → FnC Try.prog 129 [(tyC Term.cel).enc a0] (fun v => v = tyB.enc r)
  | 0, _, _, h => by cases h
  | n + 1, a0, r, h => by
    exact fnC_run (M := z1z_m n) ⟨(tabA_cons_ok (ent2_ok (z1u_ok n)) tabA_nil_ok), tabD_nil_ok, tabN_ok _, tabF_ok _, noY_ok, noE_ok⟩ Try.func129 rfl rfl ⟨(tyC Term.cel).nb 0 _, trivial⟩ Try.ntmps129 Try.results129 (fun σ hs => outR_ok (P := Try.prog) (rs := [.tmp 2]) (t := tyB) (σ := σ) (r := r) hs) (((z1z_e n).2 a0).trans h)

noncomputable def z1h_m (n : Nat) : Mach Int where
  body := (Try.f71.body).getD .skip
  P := Try.prog
  cl := tabA [(69, ent1 (tyC Term.cel) (tyI .i64) (z1v n)), (70, ent1 (tyC Term.cel) (tyI .i64) (z1i n)), (106, ent6 (tyC Term.cel) (tyI .i64) (tyI .i64) (tyI .i64) (tyI .i64) (tyI .i64) (tyI .i64) (z1j n))]
  cd := tabD []
  nrm := tabN []
  cut := tabF []
  n := n
  out := outR Try.prog [.tmp 10] (tyI .i64)
theorem z1h_f (n : Nat) : (z1h_m n).P = Try.prog ∧ (z1h_m n).cl = tabA [(69, ent1 (tyC Term.cel) (tyI .i64) (z1v n)), (70, ent1 (tyC Term.cel) (tyI .i64) (z1i n)), (106, ent6 (tyC Term.cel) (tyI .i64) (tyI .i64) (tyI .i64) (tyI .i64) (tyI .i64) (tyI .i64) (z1j n))] ∧ (z1h_m n).cd = tabD [] ∧ (z1h_m n).nrm = tabN [] ∧ (z1h_m n).cut = tabF [] ∧ (z1h_m n).n = n ∧ (z1h_m n).out = outR Try.prog [.tmp 10] (tyI .i64) := ⟨rfl, rfl, rfl, rfl, rfl, rfl, rfl⟩
theorem z1h_c (n : Nat) : (z1h_m n).body = (Try.f71.body).getD .skip := rfl
noncomputable def z1h_e (n : Nat) : { B : Term → Int → Int → Int → Int → Option Int // ∀ (a0 : Term) (a1 : Int) (a2 : Int) (a3 : Int) (a4 : Int), run (z1h_m n) [.at []] { slots := [(tyC Term.cel).enc a0, (tyI .i64).enc a1, (tyI .i64).enc a2, (tyI .i64).enc a3, (tyI .i64).enc a4] ++ List.replicate (28 - [(tyC Term.cel).enc a0, (tyI .i64).enc a1, (tyI .i64).enc a2, (tyI .i64).enc a3, (tyI .i64).enc a4].length) .any, heap := [] } = B a0 a1 a2 a3 a4 } := by
  apply Subtype.mk
  intro a0 a1 a2 a3 a4
  simp (maxSteps := 100000000) only [go_sem, q00, q01, q02, q03, q04, q05, q06, q10, q11, q12, q13, q14, z1h_f, z1h_c, Try.f71, Option.getD_some, mixed]
  exact rfl
noncomputable def z1h : Nat → Term → Int → Int → Int → Int → Option Int
  | 0, _, _, _, _, _ => none
  | n + 1, a0, a1, a2, a3, a4 => (z1h_e n).1 a0 a1 a2 a3 a4
theorem z1h_ok : ∀ (n : Nat) (a0 : Term) (a1 : Int) (a2 : Int) (a3 : Int) (a4 : Int) (r : Int), z1h n a0 a1 a2 a3 a4 = some r → FnC Try.prog 71 [(tyC Term.cel).enc a0, (tyI .i64).enc a1, (tyI .i64).enc a2, (tyI .i64).enc a3, (tyI .i64).enc a4] (fun v => v = (tyI .i64).enc r)
  | 0, _, _, _, _, _, _, h => by cases h
  | n + 1, a0, a1, a2, a3, a4, r, h => by
    exact fnC_run (M := z1h_m n) ⟨(tabA_cons_ok (ent1_ok (z1v_ok n)) (tabA_cons_ok (ent1_ok (z1i_ok n)) (tabA_cons_ok (ent6_ok (z1j_ok n)) tabA_nil_ok))), tabD_nil_ok, tabN_ok _, tabF_ok _, noY_ok, noE_ok⟩ Try.func71 rfl rfl ⟨(tyC Term.cel).nb 0 _, (tyI .i64).nb 0 _, (tyI .i64).nb 0 _, (tyI .i64).nb 0 _, (tyI .i64).nb 0 _, trivial⟩ Try.ntmps71 Try.results71 (fun σ hs => outR_ok (P := Try.prog) (rs := [.tmp 10]) (t := (tyI .i64)) (σ := σ) (r := r) hs) (((z1h_e n).2 a0 a1 a2 a3 a4).trans h)

noncomputable def z0s_n1 : Nrm := ⟨[], [], [zA, zA, zK, zK, zA, zK, zA, zA, zA, zA, zA, zA, zA, zA, zA, zA, zA, zA, zA, zA, zA, zA, zA, zA, zA, zA, zA, zA, zA, zA, zA, zA, zA, zA, zA, zA, zA, zA, zA, zA, zA, zA, zA, zA, zA, zA, zA, zA, zA, zA, zA, zA, zA, zA, zA, zA, zA, zA, zA, zA, zA, zA, zA, zA, zA, zA, zA, zA, zA, zA, zA, zA, zA, zA], [oT Tree.cel, oT Tree.cel], none⟩
noncomputable def z0s_m (X : Tree → Tree → Option Bool) (n : Nat) : Mach Bool where
  body := (Try.f77.body).getD .skip
  P := Try.prog
  cl := tabA [(23, ent2 (tyC Term.cel) (tyC Term.cel) tyB (z1u n)), (77, ent2 (tyC Tree.cel) (tyC Tree.cel) tyB X)]
  cd := tabD []
  nrm := tabN [([0, 1, 0, 1, 1], z0s_n1)]
  cut := tabF []
  n := n
  out := outR Try.prog [.tmp 4] tyB
  isE := tabI []
theorem z0s_f (X : Tree → Tree → Option Bool) (n : Nat) : (z0s_m X n).P = Try.prog ∧ (z0s_m X n).cl = tabA [(23, ent2 (tyC Term.cel) (tyC Term.cel) tyB (z1u n)), (77, ent2 (tyC Tree.cel) (tyC Tree.cel) tyB X)] ∧ (z0s_m X n).cd = tabD [] ∧ (z0s_m X n).nrm = tabN [([0, 1, 0, 1, 1], z0s_n1)] ∧ (z0s_m X n).cut = tabF [] ∧ (z0s_m X n).n = n ∧ (z0s_m X n).out = outR Try.prog [.tmp 4] tyB ∧ (z0s_m X n).isE = tabI [] := ⟨rfl, rfl, rfl, rfl, rfl, rfl, rfl, rfl⟩
theorem z0s_c (X : Tree → Tree → Option Bool) (n : Nat) : (z0s_m X n).body = (Try.f77.body).getD .skip := rfl
theorem z0s_d (X : Tree → Tree → Option Bool) (n : Nat) : drawP (z0s_m X n) [0, 0, 0, 1, 0, 0, 1, 0, 1, 1] = true := by kernel_rfl
theorem z0s_o (X : Tree → Tree → Option Bool) (n : Nat) : ordP (z0s_m X n) [0, 0, 0, 1, 0, 0, 1, 0, 1, 1] 1 12 = true ∧ ordP (z0s_m X n) [0, 0, 0, 1, 0, 0, 1, 0, 1, 1] 3 12 = true ∧ ordP (z0s_m X n) [0, 0, 0, 1, 0, 0, 1, 0, 1, 1] 4 12 = true ∧ ordP (z0s_m X n) [0, 0, 0, 1, 0, 0, 1, 0, 1, 1] 10 12 = true ∧ ordP (z0s_m X n) [0, 0, 0, 1, 0, 0, 1, 0, 1, 1] 11 12 = true ∧ ordP (z0s_m X n) [0, 0, 0, 1, 0, 0, 1, 0, 1, 1] 1 13 = true ∧ ordP (z0s_m X n) [0, 0, 0, 1, 0, 0, 1, 0, 1, 1] 3 13 = true ∧ ordP (z0s_m X n) [0, 0, 0, 1, 0, 0, 1, 0, 1, 1] 4 13 = true ∧ ordP (z0s_m X n) [0, 0, 0, 1, 0, 0, 1, 0, 1, 1] 6 13 = true ∧ ordP (z0s_m X n) [0, 0, 0, 1, 0, 0, 1, 0, 1, 1] 8 13 = true ∧ ordP (z0s_m X n) [0, 0, 0, 1, 0, 0, 1, 0, 1, 1] 9 13 = true ∧ ordP (z0s_m X n) [0, 0, 0, 1, 0, 0, 1, 0, 1, 1] 10 13 = true ∧ ordP (z0s_m X n) [0, 0, 0, 1, 0, 0, 1, 0, 1, 1] 11 13 = true ∧ ordP (z0s_m X n) [0, 0, 0, 1, 0, 0, 1, 0, 1, 1] 12 13 = true ∧ ordP (z0s_m X n) [0, 0, 0, 1, 0, 0, 1, 0, 1, 1] 10 11 = true := ⟨by kernel_rfl, by kernel_rfl, by kernel_rfl, by kernel_rfl, by kernel_rfl, by kernel_rfl, by kernel_rfl, by kernel_rfl, by kernel_rfl, by kernel_rfl, by kernel_rfl, by kernel_rfl, by kernel_rfl, by kernel_rfl, by kernel_rfl⟩
noncomputable def z0s_b1 (X : Tree → Tree → Option Bool) (n : Nat) : { B : (Int → Tree → Tree → Option Bool) → Int → Tree → Tree → Option Bool // ∀ m X0, (∀ (v0 : Int) (o0 : Tree) (o1 : Tree), run (z0s_m X n) [.lq m [0, 1, 0, 1, 1], .blk 0, .cut [1, 1, 1], .at [1, 1, 1]] ⟨[.any, .any, .ptr 0 0, .ptr 1 0, .any, .int .i64 v0, .any, .any, .any, .any, .any, .any, .any, .any, .any, .any, .any, .any, .any, .any, .any, .any, .any, .any, .any, .any, .any, .any, .any, .any, .any, .any, .any, .any, .any, .any, .any, .any, .any, .any, .any, .any, .any, .any, .any, .any, .any, .any, .any, .any, .any, .any, .any, .any, .any, .any, .any, .any, .any, .any, .any, .any, .any, .any, .any, .any, .any, .any, .any, .any, .any, .any, .any, .any], [.cells (Tree.cells o0), .cells (Tree.cells o1)], 0⟩ = X0 v0 o0 o1) → ∀ (v0 : Int) (o0 : Tree) (o1 : Tree), run (z0s_m X n) [.at [0, 0, 1, 0, 1, 1], .lp m [0, 1, 0, 1, 1], .blk 0, .cut [1, 1, 1], .at [1, 1, 1]] ⟨[.any, .any, .ptr 0 0, .ptr 1 0, .any, .int .i64 v0, .any, .any, .any, .any, .any, .any, .any, .any, .any, .any, .any, .any, .any, .any, .any, .any, .any, .any, .any, .any, .any, .any, .any, .any, .any, .any, .any, .any, .any, .any, .any, .any, .any, .any, .any, .any, .any, .any, .any, .any, .any, .any, .any, .any, .any, .any, .any, .any, .any, .any, .any, .any, .any, .any, .any, .any, .any, .any, .any, .any, .any, .any, .any, .any, .any, .any, .any, .any], [.cells (Tree.cells o0), .cells (Tree.cells o1)], 0⟩ = B X0 v0 o0 o1 } := by
  apply Subtype.mk
  intro m X0 ih v0 o0 o1
  simp (maxSteps := 100000000) only [go_sem, q00, q01, q02, q03, q04, q05, q06, q10, q11, q12, q13, q14, z0s_f, z0s_c, Try.f77, Option.getD_some, mixed, z0s_d, z0s_o, z0s_n1, ih]
  exact rfl
noncomputable def z0s_l1 (X : Tree → Tree → Option Bool) (n : Nat) : Nat → Int → Tree → Tree → Option Bool
  | 0, _, _, _ => none
  | m + 1, v0, o0, o1 => (z0s_b1 X n).1 (z0s_l1 X n m) v0 o0 o1
theorem z0s_l1_eq (X : Tree → Tree → Option Bool) (n : Nat) : ∀ (m : Nat), (∀ (v0 : Int) (o0 : Tree) (o1 : Tree), run (z0s_m X n) [.lq m [0, 1, 0, 1, 1], .blk 0, .cut [1, 1, 1], .at [1, 1, 1]] ⟨[.any, .any, .ptr 0 0, .ptr 1 0, .any, .int .i64 v0, .any, .any, .any, .any, .any, .any, .any, .any, .any, .any, .any, .any, .any, .any, .any, .any, .any, .any, .any, .any, .any, .any, .any, .any, .any, .any, .any, .any, .any, .any, .any, .any, .any, .any, .any, .any, .any, .any, .any, .any, .any, .any, .any, .any, .any, .any, .any, .any, .any, .any, .any, .any, .any, .any, .any, .any, .any, .any, .any, .any, .any, .any, .any, .any, .any, .any, .any, .any], [.cells (Tree.cells o0), .cells (Tree.cells o1)], 0⟩ = z0s_l1 X n m v0 o0 o1)
  | 0 => by intros; exact run_lq_zero
  | m + 1 => by
    have ih := z0s_l1_eq X n m
    intro v0 o0 o1
    rw [run_lq_succ]
    exact (z0s_b1 X n).2  m _  ih v0 o0 o1
noncomputable def z0s_e (X : Tree → Tree → Option Bool) (n : Nat) : { B : Tree → Tree → Option Bool // ∀ (a0 : Tree) (a1 : Tree), run (z0s_m X n) [.at []] { slots := [(tyC Tree.cel).enc a0, (tyC Tree.cel).enc a1] ++ List.replicate (74 - [(tyC Tree.cel).enc a0, (tyC Tree.cel).enc a1].length) .any, heap := [] } = B a0 a1 } := by
  apply Subtype.mk
  intro a0 a1
  simp (maxSteps := 100000000) only [go_sem, q00, q01, q02, q03, q04, q05, q06, q10, q11, q12, q13, q14, z0s_f, z0s_c, Try.f77, Option.getD_some, mixed, z0s_d, z0s_o, z0s_n1, z0s_l1_eq X n]
  exact rfl
noncomputable def z0s : Nat → Tree → Tree → Option Bool
  | 0, _, _ => none
  | n + 1, a0, a1 => (z0s_e (z0s n) n).1 a0 a1
theorem z0s_ok : ∀ (n : Nat) (a0 : Tree) (a1 : Tree) (r : Bool), z0s n a0 a1 = some r → FnC Try.prog 77 [(tyC Tree.cel).enc a0, (tyC Tree.cel).enc a1] (fun v => v = tyB.enc r)
  | 0, _, _, _, h => by cases h
  | n + 1, a0, a1, r, h => by
    have ih_ref07_SameTree := z0s_ok n
    exact fnC_run (M := z0s_m (z0s n) n) ⟨(tabA_cons_ok (ent2_ok (z1u_ok n)) (tabA_cons_ok (ent2_ok (ih_ref07_SameTree)) tabA_nil_ok)), tabD_nil_ok, tabN_ok _, tabF_ok _, noY_ok, noE_ok⟩ Try.func77 rfl rfl ⟨(tyC Tree.cel).nb 0 _, (tyC Tree.cel).nb 0 _, trivial⟩ Try.ntmps77 Try.results77 (fun σ hs => outR_ok (P := Try.prog) (rs := [.tmp 4]) (t := tyB) (σ := σ) (r := r) hs) (((z0s_e (z0s n) n).2 a0 a1).trans h)

noncomputable def z25_m (X_term_Same : Term → Term → Option Bool) (X_slices_EqualFunc_Term_term_Same : (List Term) → (List Term) → Unit → Option Bool) (n : Nat) : Mach Bool where
  body := (Try.f26.body).getD .skip
  P := Try.prog
  cl := tabA [(63, ent3 (tyL Level.row) (tyL Level.row) (tyF 64) tyB (z01 n)), (65, ent3 (tyL Term.row) (tyL Term.row) (tyF 26) tyB X_slices_EqualFunc_Term_term_Same)]
  cd := tabD []
  nrm := tabN []
  cut := tabF []
  n := n
  out := outR Try.prog [.tmp 4] tyB
theorem z25_f (X_term_Same : Term → Term → Option Bool) (X_slices_EqualFunc_Term_term_Same : (List Term) → (List Term) → Unit → Option Bool) (n : Nat) : (z25_m X_term_Same X_slices_EqualFunc_Term_term_Same n).P = Try.prog ∧ (z25_m X_term_Same X_slices_EqualFunc_Term_term_Same n).cl = tabA [(63, ent3 (tyL Level.row) (tyL Level.row) (tyF 64) tyB (z01 n)), (65, ent3 (tyL Term.row) (tyL Term.row) (tyF 26) tyB X_slices_EqualFunc_Term_term_Same)] ∧ (z25_m X_term_Same X_slices_EqualFunc_Term_term_Same n).cd = tabD [] ∧ (z25_m X_term_Same X_slices_EqualFunc_Term_term_Same n).nrm = tabN [] ∧ (z25_m X_term_Same X_slices_EqualFunc_Term_term_Same n).cut = tabF [] ∧ (z25_m X_term_Same X_slices_EqualFunc_Term_term_Same n).n = n ∧ (z25_m X_term_Same X_slices_EqualFunc_Term_term_Same n).out = outR Try.prog [.tmp 4] tyB := ⟨rfl, rfl, rfl, rfl, rfl, rfl, rfl⟩
theorem z25_c (X_term_Same : Term → Term → Option Bool) (X_slices_EqualFunc_Term_term_Same : (List Term) → (List Term) → Unit → Option Bool) (n : Nat) : (z25_m X_term_Same X_slices_EqualFunc_Term_term_Same n).body = (Try.f26.body).getD .skip := rfl
noncomputable def z25_e (X_term_Same : Term → Term → Option Bool) (X_slices_EqualFunc_Term_term_Same : (List Term) → (List Term) → Unit → Option Bool) (n : Nat) : { B : Term → Term → Option Bool // ∀ (a0 : Term) (a1 : Term), run (z25_m X_term_Same X_slices_EqualFunc_Term_term_Same n) [.at []] { slots := [(tyC Term.cel).enc a0, (tyC Term.cel).enc a1] ++ List.replicate (38 - [(tyC Term.cel).enc a0, (tyC Term.cel).enc a1].length) .any, heap := [] } = B a0 a1 } := by
  apply Subtype.mk
  intro a0 a1
  simp (maxSteps := 100000000) only [go_sem, q00, q01, q02, q03, q04, q05, q06, q10, q11, q12, q13, q14, z25_f, z25_c, Try.f26, Option.getD_some, mixed]
  exact rfl
noncomputable def z02_n1 : Nrm := ⟨[], [], [zA, zT (tyL Term.row), zT (tyF 26), zA, zA, zA, zA, zA, zA, zA, zA, zA, zA, zA, zA, zT (tyL Term.row), zK, zK, zA, zA, zA, zA, zA, zA, zA, zA, zA, zA, zA, zA, zA, zA], [], none⟩
noncomputable def z02_m (X_term_Same : Term → Term → Option Bool) (X_slices_EqualFunc_Term_term_Same : (List Term) → (List Term) → Unit → Option Bool) (n : Nat) : Mach Bool where
  body := (Try.f65.body).getD .skip
  P := Try.prog
  cl := tabA [(26, ent2 (tyC Term.cel) (tyC Term.cel) tyB X_term_Same)]
  cd := tabD []
  nrm := tabN [([0, 1, 0, 1, 1], z02_n1)]
  cut := tabF []
  n := n
  out := outR Try.prog [.tmp 6] tyB
theorem z02_f (X_term_Same : Term → Term → Option Bool) (X_slices_EqualFunc_Term_term_Same : (List Term) → (List Term) → Unit → Option Bool) (n : Nat) : (z02_m X_term_Same X_slices_EqualFunc_Term_term_Same n).P = Try.prog ∧ (z02_m X_term_Same X_slices_EqualFunc_Term_term_Same n).cl = tabA [(26, ent2 (tyC Term.cel) (tyC Term.cel) tyB X_term_Same)] ∧ (z02_m X_term_Same X_slices_EqualFunc_Term_term_Same n).cd = tabD [] ∧ (z02_m X_term_Same X_slices_EqualFunc_Term_term_Same n).nrm = tabN [([0, 1, 0, 1, 1], z02_n1)] ∧ (z02_m X_term_Same X_slices_EqualFunc_Term_term_Same n).cut = tabF [] ∧ (z02_m X_term_Same X_slices_EqualFunc_Term_term_Same n).n = n ∧ (z02_m X_term_Same X_slices_EqualFunc_Term_term_Same n).out = outR Try.prog [.tmp 6] tyB := ⟨rfl, rfl, rfl, rfl, rfl, rfl, rfl⟩
theorem z02_c (X_term_Same : Term → Term → Option Bool) (X_slices_EqualFunc_Term_term_Same : (List Term) → (List Term) → Unit → Option Bool) (n : Nat) : (z02_m X_term_Same X_slices_EqualFunc_Term_term_Same n).body = (Try.f65.body).getD .skip := rfl
noncomputable def z02_b1 (X_term_Same : Term → Term → Option Bool) (X_slices_EqualFunc_Term_term_Same : (List Term) → (List Term) → Unit → Option Bool) (n : Nat) : { B : ((List Term) → (List Term) → Int → Int → Option Bool) → (List Term) → (List Term) → Int → Int → Option Bool // ∀ m X0, (∀ (v0 : List Term) (v1 : List Term) (v2 : Int) (v3 : Int), run (z02_m X_term_Same X_slices_EqualFunc_Term_term_Same n) [.lq m [0, 1, 0, 1, 1], .blk 0, .cut [1, 1, 1], .at [1, 1, 1]] ⟨[.any, .lst false 5 (mp Term.cells v0), .func (.func 26) [] [], .any, .any, .any, .any, .any, .any, .any, .any, .any, .any, .any, .any, .lst false 5 (mp Term.cells v1), .int .i64 v2, .int .i64 v3, .any, .any, .any, .any, .any, .any, .any, .any, .any, .any, .any, .any, .any, .any], [], 0⟩ = X0 v0 v1 v2 v3) → ∀ (v0 : List Term) (v1 : List Term) (v2 : Int) (v3 : Int), run (z02_m X_term_Same X_slices_EqualFunc_Term_term_Same n) [.at [0, 0, 1, 0, 1, 1], .lp m [0, 1, 0, 1, 1], .blk 0, .cut [1, 1, 1], .at [1, 1, 1]] ⟨[.any, .lst false 5 (mp Term.cells v0), .func (.func 26) [] [], .any, .any, .any, .any, .any, .any, .any, .any, .any, .any, .any, .any, .lst false 5 (mp Term.cells v1), .int .i64 v2, .int .i64 v3, .any, .any, .any, .any, .any, .any, .any, .any, .any, .any, .any, .any, .any, .any], [], 0⟩ = B X0 v0 v1 v2 v3 } := by
  apply Subtype.mk
  intro m X0 ih v0 v1 v2 v3
  simp (maxSteps := 100000000) only [go_sem, q00, q01, q02, q03, q04, q05, q06, q10, q11, q12, q13, q14, z02_f, z02_c, Try.f65, Option.getD_some, mixed, z02_n1, ih]
  exact rfl
noncomputable def z02_l1 (X_term_Same : Term → Term → Option Bool) (X_slices_EqualFunc_Term_term_Same : (List Term) → (List Term) → Unit → Option Bool) (n : Nat) : Nat → (List Term) → (List Term) → Int → Int → Option Bool
  | 0, _, _, _, _ => none
  | m + 1, v0, v1, v2, v3 => (z02_b1 X_term_Same X_slices_EqualFunc_Term_term_Same n).1 (z02_l1 X_term_Same X_slices_EqualFunc_Term_term_Same n m) v0 v1 v2 v3
theorem z02_l1_eq (X_term_Same : Term → Term → Option Bool) (X_slices_EqualFunc_Term_term_Same : (List Term) → (List Term) → Unit → Option Bool) (n : Nat) : ∀ (m : Nat), (∀ (v0 : List Term) (v1 : List Term) (v2 : Int) (v3 : Int), run (z02_m X_term_Same X_slices_EqualFunc_Term_term_Same n) [.lq m [0, 1, 0, 1, 1], .blk 0, .cut [1, 1, 1], .at [1, 1, 1]] ⟨[.any, .lst false 5 (mp Term.cells v0), .func (.func 26) [] [], .any, .any, .any, .any, .any, .any, .any, .any, .any, .any, .any, .any, .lst false 5 (mp Term.cells v1), .int .i64 v2, .int .i64 v3, .any, .any, .any, .any, .any, .any, .any, .any, .any, .any, .any, .any, .any, .any], [], 0⟩ = z02_l1 X_term_Same X_slices_EqualFunc_Term_term_Same n m v0 v1 v2 v3)
  | 0 => by intros; exact run_lq_zero
  | m + 1 => by
    have ih := z02_l1_eq X_term_Same X_slices_EqualFunc_Term_term_Same n m
    intro v0 v1 v2 v3
    rw [run_lq_succ]
    exact (z02_b1 X_term_Same X_slices_EqualFunc_Term_term_Same n).2  m _  ih v0 v1 v2 v3
noncomputable def z02_e (X_term_Same : Term → Term → Option Bool) (X_slices_EqualFunc_Term_term_Same : (List Term) → (List Term) → Unit → Option Bool) (n : Nat) : { B : (List Term) → (List Term) → Unit → Option Bool // ∀ (a0 : (List Term)) (a1 : (List Term)) (a2 : Unit), run (z02_m X_term_Same X_slices_EqualFunc_Term_term_Same n) [.at []] { slots := [(tyL Term.row).enc a0, (tyL Term.row).enc a1, (tyF 26).enc a2] ++ List.replicate (32 - [(tyL Term.row).enc a0, (tyL Term.row).enc a1, (tyF 26).enc a2].length) .any, heap := [] } = B a0 a1 a2 } := by
  apply Subtype.mk
  intro a0 a1 a2
  simp (maxSteps := 100000000) only [go_sem, q00, q01, q02, q03, q04, q05, q06, q10, q11, q12, q13, q14, z02_f, z02_c, Try.f65, Option.getD_some, mixed, z02_n1, z02_l1_eq X_term_Same X_slices_EqualFunc_Term_term_Same n]
  exact rfl
mutual
noncomputable def z25 : Nat → Term → Term → Option Bool
  | 0, _, _ => none
  | n + 1, a0, a1 => (z25_e (z25 n) (z02 n) n).1 a0 a1
noncomputable def z02 : Nat → (List Term) → (List Term) → Unit → Option Bool
  | 0, _, _, _ => none
  | n + 1, a0, a1, a2 => (z02_e (z25 n) (z02 n) n).1 a0 a1 a2
end
mutual
theorem z25_ok : ∀ (n : Nat) (a0 : Term) (a1 : Term) (r : Bool), z25 n a0 a1 = some r → FnC Try.prog 26 [(tyC Term.cel).enc a0, (tyC Term.cel).enc a1] (fun v => v = tyB.enc r)
  | 0, _, _, _, h => by simp only [z25] at h; cases h
  | n + 1, a0, a1, r, h => by
    simp only [z25] at h
    have ih_term_Same := z25_ok n
    have ih_slices_EqualFunc_Term_term_Same := z02_ok n
    exact fnC_run (M := z25_m (z25 n) (z02 n) n) ⟨(tabA_cons_ok (ent3_ok (z01_ok n)) (tabA_cons_ok (ent3_ok (ih_slices_EqualFunc_Term_term_Same)) tabA_nil_ok)), tabD_nil_ok, tabN_ok _, tabF_ok _, noY_ok, noE_ok⟩ Try.func26 rfl rfl ⟨(tyC Term.cel).nb 0 _, (tyC Term.cel).nb 0 _, trivial⟩ Try.ntmps26 Try.results26 (fun σ hs => outR_ok (P := Try.prog) (rs := [.tmp 4]) (t := tyB) (σ := σ) (r := r) hs) (((z25_e (z25 n) (z02 n) n).2 a0 a1).trans h)
theorem z02_ok : ∀ (n : Nat) (a0 : (List Term)) (a1 : (List Term)) (a2 : Unit) (r : Bool), z02 n a0 a1 a2 = some r → FnC Try.prog 65 [(tyL Term.row).enc a0, (tyL Term.row).enc a1, (tyF 26).enc a2] (fun v => v = tyB.enc r)
  | 0, _, _, _, _, h => by simp only [z02] at h; cases h
  | n + 1, a0, a1, a2, r, h => by
    simp only [z02] at h
    have ih_term_Same := z25_ok n
    have ih_slices_EqualFunc_Term_term_Same := z02_ok n
    exact fnC_run (M := z02_m (z25 n) (z02 n) n) ⟨(tabA_cons_ok (ent2_ok (ih_term_Same)) tabA_nil_ok), tabD_nil_ok, tabN_ok _, tabF_ok _, noY_ok, noE_ok⟩ Try.func65 rfl rfl ⟨(tyL Term.row).nb 0 _, (tyL Term.row).nb 0 _, (tyF 26).nb 0 _, trivial⟩ Try.ntmps65 Try.results65 (fun σ hs => outR_ok (P := Try.prog) (rs := [.tmp 6]) (t := tyB) (σ := σ) (r := r) hs) (((z02_e (z25 n) (z02 n) n).2 a0 a1 a2).trans h)
end

noncomputable def z11_m (n : Nat) : Mach Term where
  body := (Try.f27.body).getD .skip
  P := Try.prog
  cl := tabA []
  cd := tabD [(66, entD (ent1 (tyI .i64) (tyK1 103 (tyP (cI .i64))) (z0v n))), (103, entD (ent3 (tyL Term.row) (tyC Term.cel) (tyP (cI .i64)) (tyC Term.cel) (z0h n)))]
  nrm := tabN []
  cut := tabF []
  n := n
  out := outR Try.prog [.cell 4 25] (tyC Term.cel)
  isE := tabI []
theorem z11_f (n : Nat) : (z11_m n).P = Try.prog ∧ (z11_m n).cl = tabA [] ∧ (z11_m n).cd = tabD [(66, entD (ent1 (tyI .i64) (tyK1 103 (tyP (cI .i64))) (z0v n))), (103, entD (ent3 (tyL Term.row) (tyC Term.cel) (tyP (cI .i64)) (tyC Term.cel) (z0h n)))] ∧ (z11_m n).nrm = tabN [] ∧ (z11_m n).cut = tabF [] ∧ (z11_m n).n = n ∧ (z11_m n).out = outR Try.prog [.cell 4 25] (tyC Term.cel) ∧ (z11_m n).isE = tabI [] := ⟨rfl, rfl, rfl, rfl, rfl, rfl, rfl, rfl⟩
theorem z11_c (n : Nat) : (z11_m n).body = (Try.f27.body).getD .skip := rfl
theorem z11_d (n : Nat) : drawP (z11_m n) [0, 1] = true := by kernel_rfl
theorem z11_o (n : Nat) : ordP (z11_m n) [0, 1] 2 4 = true := by kernel_rfl
noncomputable def z11_e (n : Nat) : { B : (List Term) → Term → Option Term // ∀ (a0 : (List Term)) (a1 : Term), run (z11_m n) [.at []] { slots := [(tyL Term.row).enc a0, (tyC Term.cel).enc a1] ++ List.replicate (9 - [(tyL Term.row).enc a0, (tyC Term.cel).enc a1].length) .any, heap := [] } = B a0 a1 } := by
  apply Subtype.mk
  intro a0 a1
  simp (maxSteps := 100000000) only [go_sem, q00, q01, q02, q03, q04, q05, q06, q10, q11, q12, q13, q14, z11_f, z11_c, Try.f27, Option.getD_some, mixed, z11_d, z11_o]
  exact rfl
noncomputable def z11 : Nat → (List Term) → Term → Option Term
  | 0, _, _ => none
  | n + 1, a0, a1 => (z11_e n).1 a0 a1
theorem z11_ok : ∀ (n : Nat) (a0 : (List Term)) (a1 : Term) (r : Term), z11 n a0 a1 = some r → FnC Try.prog 27 [(tyL Term.row).enc a0, (tyC Term.cel).enc a1] (fun v => v = (tyC Term.cel).enc r)
  | 0, _, _, _, h => by cases h
  | n + 1, a0, a1, r, h => by
    exact fnC_run (M := z11_m n) ⟨tabA_nil_ok, (tabD_cons_ok (ent1_okD (z0v_ok n)) (tabD_cons_ok (ent3_okD (z0h_ok n)) tabD_nil_ok)), tabN_ok _, tabF_ok _, noY_ok, noE_ok⟩ Try.func27 rfl rfl ⟨(tyL Term.row).nb 0 _, (tyC Term.cel).nb 0 _, trivial⟩ Try.ntmps27 Try.results27 (fun σ hs => outR_ok (P := Try.prog) (rs := [.cell 4 25]) (t := (tyC Term.cel)) (σ := σ) (r := r) hs) (((z11_e n).2 a0 a1).trans h)
end Go.Abs
namespace Go.Abs
open Go.Proofs
set_option maxRecDepth 100000
set_option maxHeartbeats 4000000
set_option linter.unusedSimpArgs false
set_option linter.unusedVariables false
noncomputable def z0q_m (n : Nat) : Mach (Decl × (List Level) × (List Term) × (List Term) × Bool) where
  body := (Try.f30.body).getD .skip
  P := Try.prog
  cl := tabA [(49, ent1 (tyC Term.cel) (ty2 (tyL Term.row) (tyC Term.cel)) (z10 n)), (72, ent1 (tyC Term.cel) (ty2 (tyC Term.cel) (tyL Term.row)) (z0o n)), (73, ent2 (tyL Decl.row) tyS (ty2 (tyC Entry.cel) (tyI .i64)) (z0t n))]
  cd := tabD []
  nrm := tabN []
  cut := tabF []
  n := n
  out := outR Try.prog [.cell 4 31, .tmp 5, .tmp 6, .tmp 7, .tmp 8] (ty5 (tyC Decl.cel) (tyL Level.row) (tyL Term.row) (tyL Term.row) tyB)
  isE := tabI []
theorem z0q_f (n : Nat) : (z0q_m n).P = Try.prog ∧ (z0q_m n).cl = tabA [(49, ent1 (tyC Term.cel) (ty2 (tyL Term.row) (tyC Term.cel)) (z10 n)), (72, ent1 (tyC Term.cel) (ty2 (tyC Term.cel) (tyL Term.row)) (z0o n)), (73, ent2 (tyL Decl.row) tyS (ty2 (tyC Entry.cel) (tyI .i64)) (z0t n))] ∧ (z0q_m n).cd = tabD [] ∧ (z0q_m n).nrm = tabN [] ∧ (z0q_m n).cut = tabF [] ∧ (z0q_m n).n = n ∧ (z0q_m n).out = outR Try.prog [.cell 4 31, .tmp 5, .tmp 6, .tmp 7, .tmp 8] (ty5 (tyC Decl.cel) (tyL Level.row) (tyL Term.row) (tyL Term.row) tyB) ∧ (z0q_m n).isE = tabI [] := ⟨rfl, rfl, rfl, rfl, rfl, rfl, rfl, rfl⟩
theorem z0q_c (n : Nat) : (z0q_m n).body = (Try.f30.body).getD .skip := rfl
theorem z0q_d (n : Nat) : drawP (z0q_m n) [0, 1, 1, 1, 1, 1, 1, 1, 1] = true := by kernel_rfl
theorem z0q_o (n : Nat) : ordP (z0q_m n) [0, 1, 1, 1, 1, 1, 1, 1, 1] 0 11 = true := by kernel_rfl
noncomputable def z0q_e (n : Nat) : { B : (List Decl) → Term → Option (Decl × (List Level) × (List Term) × (List Term) × Bool) // ∀ (a0 : (List Decl)) (a1 : Term), run (z0q_m n) [.at []] { slots := [(tyL Decl.row).enc a0, (tyC Term.cel).enc a1] ++ List.replicate (75 - [(tyL Decl.row).enc a0, (tyC Term.cel).enc a1].length) .any, heap := [] } = B a0 a1 } := by
  apply Subtype.mk
  intro a0 a1
  simp (maxSteps := 100000000) only [go_sem, q00, q01, q02, q03, q04, q05, q06, q10, q11, q12, q13, q14, z0q_f, z0q_c, Try.f30, Option.getD_some, mixed, z0q_d, z0q_o]
  exact rfl
noncomputable def z0q : Nat → (List Decl) → Term → Option (Decl × (List Level) × (List Term) × (List Term) × Bool)
  | 0, _, _ => none
  | n + 1, a0, a1 => (z0q_e n).1 a0 a1
theorem z0q_ok : ∀ (n : Nat) (a0 : (List Decl)) (a1 : Term) (r : (Decl × (List Level) × (List Term) × (List Term) × Bool)), z0q n a0 a1 = some r → FnC Try.prog 30 [(tyL Decl.row).enc a0, (tyC Term.cel).enc a1] (fun v => v = (ty5 (tyC Decl.cel) (tyL Level.row) (tyL Term.row) (tyL Term.row) tyB).enc r)
  | 0, _, _, _, h => by cases h
  | n + 1, a0, a1, r, h => by
    exact fnC_run (M := z0q_m n) ⟨(tabA_cons_ok (ent1_ok (z10_ok n)) (tabA_cons_ok (ent1_ok (z0o_ok n)) (tabA_cons_ok (ent2_ok (z0t_ok n)) tabA_nil_ok))), tabD_nil_ok, tabN_ok _, tabF_ok _, noY_ok, noE_ok⟩ Try.func30 rfl rfl ⟨(tyL Decl.row).nb 0 _, (tyC Term.cel).nb 0 _, trivial⟩ Try.ntmps30 Try.results30 (fun σ hs => outR_ok (P := Try.prog) (rs := [.cell 4 31, .tmp 5, .tmp 6, .tmp 7, .tmp 8]) (t := (ty5 (tyC Decl.cel) (tyL Level.row) (tyL Term.row) (tyL Term.row) tyB)) (σ := σ) (r := r) hs) (((z0q_e n).2 a0 a1).trans h)

noncomputable def z0f_m (n : Nat) : Mach Bool where
  body := (Try.f33.body).getD .skip
  P := Try.prog
  cl := tabA [(23, ent2 (tyC Term.cel) (tyC Term.cel) tyB (z1u n))]
  cd := tabD []
  nrm := tabN []
  cut := tabF []
  n := n
  out := outR Try.prog [.tmp 4] tyB
theorem z0f_f (n : Nat) : (z0f_m n).P = Try.prog ∧ (z0f_m n).cl = tabA [(23, ent2 (tyC Term.cel) (tyC Term.cel) tyB (z1u n))] ∧ (z0f_m n).cd = tabD [] ∧ (z0f_m n).nrm = tabN [] ∧ (z0f_m n).cut = tabF [] ∧ (z0f_m n).n = n ∧ (z0f_m n).out = outR Try.prog [.tmp 4] tyB := ⟨rfl, rfl, rfl, rfl, rfl, rfl, rfl⟩
theorem z0f_c (n : Nat) : (z0f_m n).body = (Try.f33.body).getD .skip := rfl
noncomputable def z0f_e (n : Nat) : { B : (List Level) → (List Level) → Option Bool // ∀ (a0 : (List Level)) (a1 : (List Level)), run (z0f_m n) [.at []] { slots := [(tyL Level.row).enc a0, (tyL Level.row).enc a1] ++ List.replicate (10 - [(tyL Level.row).enc a0, (tyL Level.row).enc a1].length) .any, heap := [] } = B a0 a1 } := by
  apply Subtype.mk
  intro a0 a1
  simp (maxSteps := 100000000) only [go_sem, q00, q01, q02, q03, q04, q05, q06, q10, q11, q12, q13, q14, z0f_f, z0f_c, Try.f33, Option.getD_some, mixed]
  exact rfl
noncomputable def z0f : Nat → (List Level) → (List Level) → Option Bool
  | 0, _, _ => none
  | n + 1, a0, a1 => (z0f_e n).1 a0 a1
theorem z0f_ok : ∀ (n : Nat) (a0 : (List Level)) (a1 : (List Level)) (r : Bool), z0f n a0 a1 = some r → FnC Try.prog 33 [(tyL Level.row).enc a0, (tyL Level.row).enc a1] (fun v => v = tyB.enc r)
  | 0, _, _, _, h => by cases h
  | n + 1, a0, a1, r, h => by
    exact fnC_run (M := z0f_m n) ⟨(tabA_cons_ok (ent2_ok (z1u_ok n)) tabA_nil_ok), tabD_nil_ok, tabN_ok _, tabF_ok _, noY_ok, noE_ok⟩ Try.func33 rfl rfl ⟨(tyL Level.row).nb 0 _, (tyL Level.row).nb 0 _, trivial⟩ Try.ntmps33 Try.results33 (fun σ hs => outR_ok (P := Try.prog) (rs := [.tmp 4]) (t := tyB) (σ := σ) (r := r) hs) (((z0f_e n).2 a0 a1).trans h)

noncomputable def z0r_n1 : Nrm := ⟨[], [], [zT (tyL Term.row), zT (tyL Term.row), zA, zA, zA, zK, zA, zA, zA, zA, zA, zA, zA, zA, zA, zA, zA, zA, zA, zA, zA, zA, zA, zA, zA, zA, zA], [], none⟩
noncomputable def z0r_m (n : Nat) : Mach Bool where
  body := (Try.f34.body).getD .skip
  P := Try.prog
  cl := tabA []
  cd := tabD [(23, entD (ent2 (tyC Term.cel) (tyC Term.cel) tyB (z1u n)))]
  nrm := tabN [([0, 1, 0, 1, 1], z0r_n1)]
  cut := tabF []
  n := n
  out := outR Try.prog [.tmp 4] tyB
  isE := tabI []
theorem z0r_f (n : Nat) : (z0r_m n).P = Try.prog ∧ (z0r_m n).cl = tabA [] ∧ (z0r_m n).cd = tabD [(23, entD (ent2 (tyC Term.cel) (tyC Term.cel) tyB (z1u n)))] ∧ (z0r_m n).nrm = tabN [([0, 1, 0, 1, 1], z0r_n1)] ∧ (z0r_m n).cut = tabF [] ∧ (z0r_m n).n = n ∧ (z0r_m n).out = outR Try.prog [.tmp 4] tyB ∧ (z0r_m n).isE = tabI [] := ⟨rfl, rfl, rfl, rfl, rfl, rfl, rfl, rfl⟩
theorem z0r_c (n : Nat) : (z0r_m n).body = (Try.f34.body).getD .skip := rfl
theorem z0r_d (n : Nat) : drawP (z0r_m n) [0, 0, 0, 1, 0, 0, 1, 0, 1, 1] = true := by kernel_rfl
noncomputable def z0r_b1 (n : Nat) : { B : ((List Term) → (List Term) → Int → Option Bool) → (List Term) → (List Term) → Int → Option Bool // ∀ m X0, (∀ (v0 : List Term) (v1 : List Term) (v2 : Int), run (z0r_m n) [.lq m [0, 1, 0, 1, 1], .blk 0, .cut [1, 1, 1], .at [1, 1, 1]] ⟨[.lst false 5 (mp Term.cells v0), .lst false 5 (mp Term.cells v1), .any, .any, .any, .int .i64 v2, .any, .any, .any, .any, .any, .any, .any, .any, .any, .any, .any, .any, .any, .any, .any, .any, .any, .any, .any, .any, .any], [], 0⟩ = X0 v0 v1 v2) → ∀ (v0 : List Term) (v1 : List Term) (v2 : Int), run (z0r_m n) [.at [0, 0, 1, 0, 1, 1], .lp m [0, 1, 0, 1, 1], .blk 0, .cut [1, 1, 1], .at [1, 1, 1]] ⟨[.lst false 5 (mp Term.cells v0), .lst false 5 (mp Term.cells v1), .any, .any, .any, .int .i64 v2, .any, .any, .any, .any, .any, .any, .any, .any, .any, .any, .any, .any, .any, .any, .any, .any, .any, .any, .any, .any, .any], [], 0⟩ = B X0 v0 v1 v2 } := by
  apply Subtype.mk
  intro m X0 ih v0 v1 v2
  simp (maxSteps := 100000000) only [go_sem, q00, q01, q02, q03, q04, q05, q06, q10, q11, q12, q13, q14, z0r_f, z0r_c, Try.f34, Option.getD_some, mixed, z0r_d, z0r_n1, ih]
  exact rfl
noncomputable def z0r_l1 (n : Nat) : Nat → (List Term) → (List Term) → Int → Option Bool
  | 0, _, _, _ => none
  | m + 1, v0, v1, v2 => (z0r_b1 n).1 (z0r_l1 n m) v0 v1 v2
theorem z0r_l1_eq (n : Nat) : ∀ (m : Nat), (∀ (v0 : List Term) (v1 : List Term) (v2 : Int), run (z0r_m n) [.lq m [0, 1, 0, 1, 1], .blk 0, .cut [1, 1, 1], .at [1, 1, 1]] ⟨[.lst false 5 (mp Term.cells v0), .lst false 5 (mp Term.cells v1), .any, .any, .any, .int .i64 v2, .any, .any, .any, .any, .any, .any, .any, .any, .any, .any, .any, .any, .any, .any, .any, .any, .any, .any, .any, .any, .any], [], 0⟩ = z0r_l1 n m v0 v1 v2)
  | 0 => by intros; exact run_lq_zero
  | m + 1 => by
    have ih := z0r_l1_eq n m
    intro v0 v1 v2
    rw [run_lq_succ]
    exact (z0r_b1 n).2  m _  ih v0 v1 v2
noncomputable def z0r_e (n : Nat) : { B : (List Term) → (List Term) → Option Bool // ∀ (a0 : (List Term)) (a1 : (List Term)), run (z0r_m n) [.at []] { slots := [(tyL Term.row).enc a0, (tyL Term.row).enc a1] ++ List.replicate (27 - [(tyL Term.row).enc a0, (tyL Term.row).enc a1].length) .any, heap := [] } = B a0 a1 } := by
  apply Subtype.mk
  intro a0 a1
  simp (maxSteps := 100000000) only [go_sem, q00, q01, q02, q03, q04, q05, q06, q10, q11, q12, q13, q14, z0r_f, z0r_c, Try.f34, Option.getD_some, mixed, z0r_d, z0r_n1, z0r_l1_eq n]
  exact rfl
noncomputable def z0r : Nat → (List Term) → (List Term) → Option Bool
  | 0, _, _ => none
  | n + 1, a0, a1 => (z0r_e n).1 a0 a1
theorem z0r_ok : ∀ (n : Nat) (a0 : (List Term)) (a1 : (List Term)) (r : Bool), z0r n a0 a1 = some r → FnC Try.prog 34 [(tyL Term.row).enc a0, (tyL Term.row).enc a1] (fun v => v = tyB.enc r)
  | 0, _, _, _, h => by cases h
  | n + 1, a0, a1, r, h => by
    exact fnC_run (M := z0r_m n) ⟨tabA_nil_ok, (tabD_cons_ok (ent2_okD (z1u_ok n)) tabD_nil_ok), tabN_ok _, tabF_ok _, noY_ok, noE_ok⟩ Try.func34 rfl rfl ⟨(tyL Term.row).nb 0 _, (tyL Term.row).nb 0 _, trivial⟩ Try.ntmps34 Try.results34 (fun σ hs => outR_ok (P := Try.prog) (rs := [.tmp 4]) (t := tyB) (σ := σ) (r := r) hs) (((z0r_e n).2 a0 a1).trans h)
end Go.Abs
namespace Go.Abs
open Go.Proofs
set_option maxRecDepth 100000
set_option maxHeartbeats 4000000
set_option linter.unusedSimpArgs false
set_option linter.unusedVariables false
noncomputable def z20_n1 : Nrm := ⟨[], [], [zT (tyL Decl.row), zA, zA, zK, zA, zA, zA, zA, zA, zA, zA, zA, zA, zA, zA, zA, zA, zA, zA, zA, zA, zA, zA], [], none⟩
noncomputable def z20_m (n : Nat) : Mach Bool where
  body := (Try.f67.body).getD .skip
  P := Try.prog
  cl := tabA [(52, ent1 (tyC Decl.cel) tyB (z0y n))]
  cd := tabD []
  nrm := tabN [([0, 1, 0, 1], z20_n1)]
  cut := tabF []
  n := n
  out := outR Try.prog [.tmp 2] tyB
theorem z20_f (n : Nat) : (z20_m n).P = Try.prog ∧ (z20_m n).cl = tabA [(52, ent1 (tyC Decl.cel) tyB (z0y n))] ∧ (z20_m n).cd = tabD [] ∧ (z20_m n).nrm = tabN [([0, 1, 0, 1], z20_n1)] ∧ (z20_m n).cut = tabF [] ∧ (z20_m n).n = n ∧ (z20_m n).out = outR Try.prog [.tmp 2] tyB := ⟨rfl, rfl, rfl, rfl, rfl, rfl, rfl⟩
theorem z20_c (n : Nat) : (z20_m n).body = (Try.f67.body).getD .skip := rfl
noncomputable def z20_b1 (n : Nat) : { B : ((List Decl) → Int → Option Bool) → (List Decl) → Int → Option Bool // ∀ m X0, (∀ (v0 : List Decl) (v1 : Int), run (z20_m n) [.lq m [0, 1, 0, 1], .blk 0, .cut [1, 1], .at [1, 1]] ⟨[.lst false 23 (mp Decl.cells v0), .any, .any, .int .i64 v1, .any, .any, .any, .any, .any, .any, .any, .any, .any, .any, .any, .any, .any, .any, .any, .any, .any, .any, .any], [], 0⟩ = X0 v0 v1) → ∀ (v0 : List Decl) (v1 : Int), run (z20_m n) [.at [0, 0, 1, 0, 1], .lp m [0, 1, 0, 1], .blk 0, .cut [1, 1], .at [1, 1]] ⟨[.lst false 23 (mp Decl.cells v0), .any, .any, .int .i64 v1, .any, .any, .any, .any, .any, .any, .any, .any, .any, .any, .any, .any, .any, .any, .any, .any, .any, .any, .any], [], 0⟩ = B X0 v0 v1 } := by
  apply Subtype.mk
  intro m X0 ih v0 v1
  simp (maxSteps := 100000000) only [go_sem, q00, q01, q02, q03, q04, q05, q06, q10, q11, q12, q13, q14, z20_f, z20_c, Try.f67, Option.getD_some, mixed, z20_n1, ih]
  exact rfl
noncomputable def z20_l1 (n : Nat) : Nat → (List Decl) → Int → Option Bool
  | 0, _, _ => none
  | m + 1, v0, v1 => (z20_b1 n).1 (z20_l1 n m) v0 v1
theorem z20_l1_eq (n : Nat) : ∀ (m : Nat), (∀ (v0 : List Decl) (v1 : Int), run (z20_m n) [.lq m [0, 1, 0, 1], .blk 0, .cut [1, 1], .at [1, 1]] ⟨[.lst false 23 (mp Decl.cells v0), .any, .any, .int .i64 v1, .any, .any, .any, .any, .any, .any, .any, .any, .any, .any, .any, .any, .any, .any, .any, .any, .any, .any, .any], [], 0⟩ = z20_l1 n m v0 v1)
  | 0 => by intros; exact run_lq_zero
  | m + 1 => by
    have ih := z20_l1_eq n m
    intro v0 v1
    rw [run_lq_succ]
    exact (z20_b1 n).2  m _  ih v0 v1
noncomputable def z20_e (n : Nat) : { B : (List Decl) → Option Bool // ∀ (a0 : (List Decl)), run (z20_m n) [.at []] { slots := [(tyL Decl.row).enc a0] ++ List.replicate (23 - [(tyL Decl.row).enc a0].length) .any, heap := [] } = B a0 } := by
  apply Subtype.mk
  intro a0
  simp (maxSteps := 100000000) only [go_sem, q00, q01, q02, q03, q04, q05, q06, q10, q11, q12, q13, q14, z20_f, z20_c, Try.f67, Option.getD_some, mixed, z20_n1, z20_l1_eq n]
  exact rfl
noncomputable def z20 : Nat → (List Decl) → Option Bool
  | 0, _ => none
  | n + 1, a0 => (z20_e n).1 a0
theorem z20_ok : ∀ (n : Nat) (a0 : (List Decl)) (r : Bool), z20 n a0 = some r → FnC Try.prog 67 [(tyL Decl.row).enc a0] (fun v => v = tyB.enc r)
  | 0, _, _, h => by cases h
  | n + 1, a0, r, h => by
    exact fnC_run (M := z20_m n) ⟨(tabA_cons_ok (ent1_ok (z0y_ok n)) tabA_nil_ok), tabD_nil_ok, tabN_ok _, tabF_ok _, noY_ok, noE_ok⟩ Try.func67 rfl rfl ⟨(tyL Decl.row).nb 0 _, trivial⟩ Try.ntmps67 Try.results67 (fun σ hs => outR_ok (P := Try.prog) (rs := [.tmp 2]) (t := tyB) (σ := σ) (r := r) hs) (((z20_e n).2 a0).trans h)

noncomputable def z18_m (n : Nat) : Mach Bool where
  body := (Try.f118.body).getD .skip
  P := Try.prog
  cl := tabA [(129, ent1 (tyC Term.cel) tyB (z1z n))]
  cd := tabD []
  nrm := tabN []
  cut := tabF []
  n := n
  out := outR Try.prog [.tmp 2] tyB
theorem z18_f (n : Nat) : (z18_m n).P = Try.prog ∧ (z18_m n).cl = tabA [(129, ent1 (tyC Term.cel) tyB (z1z n))] ∧ (z18_m n).cd = tabD [] ∧ (z18_m n).nrm = tabN [] ∧ (z18_m n).cut = tabF [] ∧ (z18_m n).n = n ∧ (z18_m n).out = outR Try.prog [.tmp 2] tyB := ⟨rfl, rfl, rfl, rfl, rfl, rfl, rfl⟩
theorem z18_c (n : Nat) : (z18_m n).body = (Try.f118.body).getD .skip := rfl
noncomputable def z18_e (n : Nat) : { B : Decl → Option Bool // ∀ (a0 : Decl), run (z18_m n) [.at []] { slots := [(tyC Decl.cel).enc a0] ++ List.replicate (87 - [(tyC Decl.cel).enc a0].length) .any, heap := [] } = B a0 } := by
  apply Subtype.mk
  intro a0
  simp (maxSteps := 100000000) only [go_sem, q00, q01, q02, q03, q04, q05, q06, q10, q11, q12, q13, q14, z18_f, z18_c, Try.f118, Option.getD_some, mixed]
  exact rfl
noncomputable def z18 : Nat → Decl → Option Bool
  | 0, _ => none
  | n + 1, a0 => (z18_e n).1 a0
theorem z18_ok : ∀ (n : Nat) (a0 : Decl) (r : Bool), z18 n a0 = some r → FnC Try.prog 118 [(tyC Decl.cel).enc a0] (fun v => v = tyB.enc r)
  | 0, _, _, h => by cases h
  | n + 1, a0, r, h => by
    exact fnC_run (M := z18_m n) ⟨(tabA_cons_ok (ent1_ok (z1z_ok n)) tabA_nil_ok), tabD_nil_ok, tabN_ok _, tabF_ok _, noY_ok, noE_ok⟩ Try.func118 rfl rfl ⟨(tyC Decl.cel).nb 0 _, trivial⟩ Try.ntmps118 Try.results118 (fun σ hs => outR_ok (P := Try.prog) (rs := [.tmp 2]) (t := tyB) (σ := σ) (r := r) hs) (((z18_e n).2 a0).trans h)

noncomputable def z16_m (n : Nat) : Mach Int where
  body := (Try.f131.body).getD .skip
  P := Try.prog
  cl := tabA [(71, ent5 (tyC Term.cel) (tyI .i64) (tyI .i64) (tyI .i64) (tyI .i64) (tyI .i64) (z1h n)), (136, ent2 (tyC Zs0.cel) (tyC Term.cel) (tyI .i64) (z0m n))]
  cd := tabD []
  nrm := tabN []
  cut := tabF []
  n := n
  out := outR Try.prog [.tmp 8] (tyI .i64)
theorem z16_f (n : Nat) : (z16_m n).P = Try.prog ∧ (z16_m n).cl = tabA [(71, ent5 (tyC Term.cel) (tyI .i64) (tyI .i64) (tyI .i64) (tyI .i64) (tyI .i64) (z1h n)), (136, ent2 (tyC Zs0.cel) (tyC Term.cel) (tyI .i64) (z0m n))] ∧ (z16_m n).cd = tabD [] ∧ (z16_m n).nrm = tabN [] ∧ (z16_m n).cut = tabF [] ∧ (z16_m n).n = n ∧ (z16_m n).out = outR Try.prog [.tmp 8] (tyI .i64) := ⟨rfl, rfl, rfl, rfl, rfl, rfl, rfl⟩
theorem z16_c (n : Nat) : (z16_m n).body = (Try.f131.body).getD .skip := rfl
noncomputable def z16_e (n : Nat) : { B : Zs0 → Term → Int → Int → Option Int // ∀ (a0 : Zs0) (a1 : Term) (a2 : Int) (a3 : Int), run (z16_m n) [.at []] { slots := [(tyC Zs0.cel).enc a0, (tyC Term.cel).enc a1, (tyI .i64).enc a2, (tyI .i64).enc a3] ++ List.replicate (20 - [(tyC Zs0.cel).enc a0, (tyC Term.cel).enc a1, (tyI .i64).enc a2, (tyI .i64).enc a3].length) .any, heap := [] } = B a0 a1 a2 a3 } := by
  apply Subtype.mk
  intro a0 a1 a2 a3
  simp (maxSteps := 100000000) only [go_sem, q00, q01, q02, q03, q04, q05, q06, q10, q11, q12, q13, q14, z16_f, z16_c, Try.f131, Option.getD_some, mixed]
  exact rfl
noncomputable def z16 : Nat → Zs0 → Term → Int → Int → Option Int
  | 0, _, _, _, _ => none
  | n + 1, a0, a1, a2, a3 => (z16_e n).1 a0 a1 a2 a3
theorem z16_ok : ∀ (n : Nat) (a0 : Zs0) (a1 : Term) (a2 : Int) (a3 : Int) (r : Int), z16 n a0 a1 a2 a3 = some r → FnC Try.prog 131 [(tyC Zs0.cel).enc a0, (tyC Term.cel).enc a1, (tyI .i64).enc a2, (tyI .i64).enc a3] (fun v => v = (tyI .i64).enc r)
  | 0, _, _, _, _, _, h => by cases h
  | n + 1, a0, a1, a2, a3, r, h => by
    exact fnC_run (M := z16_m n) ⟨(tabA_cons_ok (ent5_ok (z1h_ok n)) (tabA_cons_ok (ent2_ok (z0m_ok n)) tabA_nil_ok)), tabD_nil_ok, tabN_ok _, tabF_ok _, noY_ok, noE_ok⟩ Try.func131 rfl rfl ⟨(tyC Zs0.cel).nb 0 _, (tyC Term.cel).nb 0 _, (tyI .i64).nb 0 _, (tyI .i64).nb 0 _, trivial⟩ Try.ntmps131 Try.results131 (fun σ hs => outR_ok (P := Try.prog) (rs := [.tmp 8]) (t := (tyI .i64)) (σ := σ) (r := r) hs) (((z16_e n).2 a0 a1 a2 a3).trans h)

noncomputable def z03_m (n : Nat) : Mach Bool where
  body := (Try.f97.body).getD .skip
  P := Try.prog
  cl := tabA [(65, ent3 (tyL Term.row) (tyL Term.row) (tyF 26) tyB (z02 n))]
  cd := tabD []
  nrm := tabN []
  cut := tabF []
  n := n
  out := outR Try.prog [.tmp 6] tyB
theorem z03_f (n : Nat) : (z03_m n).P = Try.prog ∧ (z03_m n).cl = tabA [(65, ent3 (tyL Term.row) (tyL Term.row) (tyF 26) tyB (z02 n))] ∧ (z03_m n).cd = tabD [] ∧ (z03_m n).nrm = tabN [] ∧ (z03_m n).cut = tabF [] ∧ (z03_m n).n = n ∧ (z03_m n).out = outR Try.prog [.tmp 6] tyB := ⟨rfl, rfl, rfl, rfl, rfl, rfl, rfl⟩
theorem z03_c (n : Nat) : (z03_m n).body = (Try.f97.body).getD .skip := rfl
noncomputable def z03_e (n : Nat) : { B : (List Term) → (List Term) → Unit → Option Bool // ∀ (a0 : (List Term)) (a1 : (List Term)) (a2 : Unit), run (z03_m n) [.at []] { slots := [(tyL Term.row).enc a0, (tyL Term.row).enc a1, (tyF 26).enc a2] ++ List.replicate (18 - [(tyL Term.row).enc a0, (tyL Term.row).enc a1, (tyF 26).enc a2].length) .any, heap := [] } = B a0 a1 a2 } := by
  apply Subtype.mk
  intro a0 a1 a2
  simp (maxSteps := 100000000) only [go_sem, q00, q01, q02, q03, q04, q05, q06, q10, q11, q12, q13, q14, z03_f, z03_c, Try.f97, Option.getD_some, mixed]
  exact rfl
noncomputable def z03 : Nat → (List Term) → (List Term) → Unit → Option Bool
  | 0, _, _, _ => none
  | n + 1, a0, a1, a2 => (z03_e n).1 a0 a1 a2
theorem z03_ok : ∀ (n : Nat) (a0 : (List Term)) (a1 : (List Term)) (a2 : Unit) (r : Bool), z03 n a0 a1 a2 = some r → FnC Try.prog 97 [(tyL Term.row).enc a0, (tyL Term.row).enc a1, (tyF 26).enc a2] (fun v => v = tyB.enc r)
  | 0, _, _, _, _, h => by cases h
  | n + 1, a0, a1, a2, r, h => by
    exact fnC_run (M := z03_m n) ⟨(tabA_cons_ok (ent3_ok (z02_ok n)) tabA_nil_ok), tabD_nil_ok, tabN_ok _, tabF_ok _, noY_ok, noE_ok⟩ Try.func97 rfl rfl ⟨(tyL Term.row).nb 0 _, (tyL Term.row).nb 0 _, (tyF 26).nb 0 _, trivial⟩ Try.ntmps97 Try.results97 (fun σ hs => outR_ok (P := Try.prog) (rs := [.tmp 6]) (t := tyB) (σ := σ) (r := r) hs) (((z03_e n).2 a0 a1 a2).trans h)

noncomputable def z0i_m (n : Nat) : Mach (Term × Int) where
  body := (Try.f24.body).getD .skip
  P := Try.prog
  cl := tabA [(46, ent2 (tyC Term.cel) (tyL Term.row) (tyC Term.cel) (z0n n)), (56, ent2 tyS (tyI .i64) (tyC Term.cel) (z0x n))]
  cd := tabD [(27, entD (ent2 (tyL Term.row) (tyC Term.cel) (tyC Term.cel) (z11 n)))]
  nrm := tabN []
  cut := tabF []
  n := n
  out := outR Try.prog [.cell 4 25, .tmp 5] (ty2 (tyC Term.cel) (tyI .i64))
  isE := tabI [47]
  ce := tabE [(47, entE (asT (tyI .i64) (asT (tyI .i64) asN)) (osC (oaT true Term.row) osN) (rsA 0 (fun (b : ((List Term) × Unit)) => b.1.length) rsN) (fun a => (z0g n) a.1 a.2.1))]
theorem z0i_f (n : Nat) : (z0i_m n).P = Try.prog ∧ (z0i_m n).cl = tabA [(46, ent2 (tyC Term.cel) (tyL Term.row) (tyC Term.cel) (z0n n)), (56, ent2 tyS (tyI .i64) (tyC Term.cel) (z0x n))] ∧ (z0i_m n).cd = tabD [(27, entD (ent2 (tyL Term.row) (tyC Term.cel) (tyC Term.cel) (z11 n)))] ∧ (z0i_m n).nrm = tabN [] ∧ (z0i_m n).cut = tabF [] ∧ (z0i_m n).n = n ∧ (z0i_m n).out = outR Try.prog [.cell 4 25, .tmp 5] (ty2 (tyC Term.cel) (tyI .i64)) ∧ (z0i_m n).isE = tabI [47] ∧ (z0i_m n).ce = tabE [(47, entE (asT (tyI .i64) (asT (tyI .i64) asN)) (osC (oaT true Term.row) osN) (rsA 0 (fun (b : ((List Term) × Unit)) => b.1.length) rsN) (fun a => (z0g n) a.1 a.2.1))] := ⟨rfl, rfl, rfl, rfl, rfl, rfl, rfl, rfl, rfl⟩
theorem z0i_c (n : Nat) : (z0i_m n).body = (Try.f24.body).getD .skip := rfl
theorem z0i_d (n : Nat) : drawP (z0i_m n) [0, 1, 1, 1] = true ∧ drawP (z0i_m n) [0, 1, 1, 1, 1, 1] = true := ⟨by kernel_rfl, by kernel_rfl⟩
theorem z0i_o (n : Nat) : ordP (z0i_m n) [0, 1, 1, 1] 1 9 = true ∧ ordP (z0i_m n) [0, 1, 1, 1] 2 9 = true ∧ ordP (z0i_m n) [0, 1, 1, 1] 4 9 = true ∧ ordP (z0i_m n) [0, 1, 1, 1] 5 9 = true ∧ ordP (z0i_m n) [0, 1, 1, 1] 6 9 = true ∧ ordP (z0i_m n) [0, 1, 1, 1] 8 9 = true ∧ ordP (z0i_m n) [0, 1, 1, 1, 1, 1] 1 7 = true ∧ ordP (z0i_m n) [0, 1, 1, 1, 1, 1] 3 7 = true ∧ ordP (z0i_m n) [0, 1, 1, 1, 1, 1] 4 7 = true := ⟨by kernel_rfl, by kernel_rfl, by kernel_rfl, by kernel_rfl, by kernel_rfl, by kernel_rfl, by kernel_rfl, by kernel_rfl, by kernel_rfl⟩
noncomputable def z0i_e (n : Nat) : { B : Family → Int → Option (Term × Int) // ∀ (a0 : Family) (a1 : Int), run (z0i_m n) [.at []] { slots := [(tyC Family.cel).enc a0, (tyI .i64).enc a1] ++ List.replicate (48 - [(tyC Family.cel).enc a0, (tyI .i64).enc a1].length) .any, heap := [] } = B a0 a1 } := by
  apply Subtype.mk
  intro a0 a1
  simp (maxSteps := 100000000) only [go_sem, q00, q01, q02, q03, q04, q05, q06, q10, q11, q12, q13, q14, z0i_f, z0i_c, Try.f24, Option.getD_some, mixed, z0i_d, z0i_o]
  exact rfl
noncomputable def z0i : Nat → Family → Int → Option (Term × Int)
  | 0, _, _ => none
  | n + 1, a0, a1 => (z0i_e n).1 a0 a1
theorem z0i_ok : ∀ (n : Nat) (a0 : Family) (a1 : Int) (r : (Term × Int)), z0i n a0 a1 = some r → FnC Try.prog 24 [(tyC Family.cel).enc a0, (tyI .i64).enc a1] (fun v => v = (ty2 (tyC Term.cel) (tyI .i64)).enc r)
  | 0, _, _, _, h => by cases h
  | n + 1, a0, a1, r, h => by
    exact fnC_run (M := z0i_m n) ⟨(tabA_cons_ok (ent2_ok (z0n_ok n)) (tabA_cons_ok (ent2_ok (z0x_ok n)) tabA_nil_ok)), (tabD_cons_ok (ent2_okD (z11_ok n)) tabD_nil_ok), tabN_ok _, tabF_ok _, noY_ok, (tabE_cons_ok (entE_ok (fun a => ⟨(tyI .i64).nb 0 _, (tyI .i64).nb 0 _, trivial⟩) (fun a r h => (z0g_ok n) a.1 a.2.1 r h)) tabE_nil_ok)⟩ Try.func24 rfl rfl ⟨(tyC Family.cel).nb 0 _, (tyI .i64).nb 0 _, trivial⟩ Try.ntmps24 Try.results24 (fun σ hs => outR_ok (P := Try.prog) (rs := [.cell 4 25, .tmp 5]) (t := (ty2 (tyC Term.cel) (tyI .i64))) (σ := σ) (r := r) hs) (((z0i_e n).2 a0 a1).trans h)
end Go.Abs
namespace Go.Abs
open Go.Proofs
set_option maxRecDepth 100000
set_option maxHeartbeats 4000000
set_option linter.unusedSimpArgs false
set_option linter.unusedVariables false
noncomputable def z17_n1 : Nrm := ⟨[], [], [zA, zA, zK, zK, zK, zK, zA, zA, zA, zK, zA, zA, zA, zA, zA, zA, zA, zA, zA, zA, zA, zA, zA, zA, zA, zA, zA, zA, zA, zA, zA, zA, zA, zA, zA, zA, zA, zA, zA, zA, zA, zA, zA, zA, zA, zA, zA, zA, zA, zA, zA, zA, zA, zA, zA, zA, zA, zA, zA, zA, zA, zA, zA, zA, zA, zA, zA, zA, zA, zA, zA, zA, zA, zA, zA, zA, zA, zA, zA, zA, zA, zA, zA, zA, zA, zA, zA, zA, zA, zA, zA, zA, zA, zA, zA, zA, zA, zA, zA, zA, zA, zA, zA, zA, zA, zA, zA, zA, zA, zA], [oT Zs0.cel, oT Tree.cel], none⟩
noncomputable def z17_m (X : Zs0 → Tree → Int → Int → Option Int) (n : Nat) : Mach Int where
  body := (Try.f132.body).getD .skip
  P := Try.prog
  cl := tabA [(77, ent2 (tyC Tree.cel) (tyC Tree.cel) tyB (z0s n)), (109, ent2 (tyL Decl.row) tyS (ty2 (tyC Entry.cel) (tyI .i64)) (z1y n)), (129, ent1 (tyC Term.cel) tyB (z1z n)), (131, ent4 (tyC Zs0.cel) (tyC Term.cel) (tyI .i64) (tyI .i64) (tyI .i64) (z16 n))]
  cd := tabD [(132, entD (ent4 (tyC Zs0.cel) (tyC Tree.cel) (tyI .i64) (tyI .i64) (tyI .i64) X)), (137, entD (ent2 (tyC Decl.cel) (tyI .i64) (tyI .i64) (z13 n)))]
  nrm := tabN [([0, 1, 0, 1, 1, 1, 1, 1], z17_n1)]
  cut := tabF []
  n := n
  out := outR Try.prog [.tmp 8] (tyI .i64)
  isE := tabI []
theorem z17_f (X : Zs0 → Tree → Int → Int → Option Int) (n : Nat) : (z17_m X n).P = Try.prog ∧ (z17_m X n).cl = tabA [(77, ent2 (tyC Tree.cel) (tyC Tree.cel) tyB (z0s n)), (109, ent2 (tyL Decl.row) tyS (ty2 (tyC Entry.cel) (tyI .i64)) (z1y n)), (129, ent1 (tyC Term.cel) tyB (z1z n)), (131, ent4 (tyC Zs0.cel) (tyC Term.cel) (tyI .i64) (tyI .i64) (tyI .i64) (z16 n))] ∧ (z17_m X n).cd = tabD [(132, entD (ent4 (tyC Zs0.cel) (tyC Tree.cel) (tyI .i64) (tyI .i64) (tyI .i64) X)), (137, entD (ent2 (tyC Decl.cel) (tyI .i64) (tyI .i64) (z13 n)))] ∧ (z17_m X n).nrm = tabN [([0, 1, 0, 1, 1, 1, 1, 1], z17_n1)] ∧ (z17_m X n).cut = tabF [] ∧ (z17_m X n).n = n ∧ (z17_m X n).out = outR Try.prog [.tmp 8] (tyI .i64) ∧ (z17_m X n).isE = tabI [] := ⟨rfl, rfl, rfl, rfl, rfl, rfl, rfl, rfl⟩
theorem z17_c (X : Zs0 → Tree → Int → Int → Option Int) (n : Nat) : (z17_m X n).body = (Try.f132.body).getD .skip := rfl
theorem z17_d (X : Zs0 → Tree → Int → Int → Option Int) (n : Nat) : drawP (z17_m X n) [0, 1, 1, 1, 1, 0, 0, 1, 0, 0, 1, 0, 1, 1, 1, 1, 1] = true := by kernel_rfl
noncomputable def z17_b1 (X : Zs0 → Tree → Int → Int → Option Int) (n : Nat) : { B : (Int → Int → Int → Zs0 → Tree → Option Int) → Int → Int → Int → Zs0 → Tree → Option Int // ∀ m X0, (∀ (v0 : Int) (v1 : Int) (v2 : Int) (o0 : Zs0) (o1 : Tree), run (z17_m X n) [.lq m [0, 1, 0, 1, 1, 1, 1, 1], .blk 1, .cut [1, 1, 1, 1, 1, 1], .at [1, 1, 1, 1, 1, 1]] ⟨[.any, .any, .int .i64 v0, .int .i64 v1, .ptr 0 0, .ptr 1 0, .any, .any, .any, .int .i64 v2, .any, .any, .any, .any, .any, .any, .any, .any, .any, .any, .any, .any, .any, .any, .any, .any, .any, .any, .any, .any, .any, .any, .any, .any, .any, .any, .any, .any, .any, .any, .any, .any, .any, .any, .any, .any, .any, .any, .any, .any, .any, .any, .any, .any, .any, .any, .any, .any, .any, .any, .any, .any, .any, .any, .any, .any, .any, .any, .any, .any, .any, .any, .any, .any, .any, .any, .any, .any, .any, .any, .any, .any, .any, .any, .any, .any, .any, .any, .any, .any, .any, .any, .any, .any, .any, .any, .any, .any, .any, .any, .any, .any, .any, .any, .any, .any, .any, .any, .any, .any], [.cells (Zs0.cells o0), .cells (Tree.cells o1)], 0⟩ = X0 v0 v1 v2 o0 o1) → ∀ (v0 : Int) (v1 : Int) (v2 : Int) (o0 : Zs0) (o1 : Tree), run (z17_m X n) [.at [0, 0, 1, 0, 1, 1, 1, 1, 1], .lp m [0, 1, 0, 1, 1, 1, 1, 1], .blk 1, .cut [1, 1, 1, 1, 1, 1], .at [1, 1, 1, 1, 1, 1]] ⟨[.any, .any, .int .i64 v0, .int .i64 v1, .ptr 0 0, .ptr 1 0, .any, .any, .any, .int .i64 v2, .any, .any, .any, .any, .any, .any, .any, .any, .any, .any, .any, .any, .any, .any, .any, .any, .any, .any, .any, .any, .any, .any, .any, .any, .any, .any, .any, .any, .any, .any, .any, .any, .any, .any, .any, .any, .any, .any, .any, .any, .any, .any, .any, .any, .any, .any, .any, .any, .any, .any, .any, .any, .any, .any, .any, .any, .any, .any, .any, .any, .any, .any, .any, .any, .any, .any, .any, .any, .any, .any, .any, .any, .any, .any, .any, .any, .any, .any, .any, .any, .any, .any, .any, .any, .any, .any, .any, .any, .any, .any, .any, .any, .any, .any, .any, .any, .any, .any, .any, .any], [.cells (Zs0.cells o0), .cells (Tree.cells o1)], 0⟩ = B X0 v0 v1 v2 o0 o1 } := by
  apply Subtype.mk
  intro m X0 ih v0 v1 v2 o0 o1
  simp (maxSteps := 100000000) only [go_sem, q00, q01, q02, q03, q04, q05, q06, q10, q11, q12, q13, q14, z17_f, z17_c, Try.f132, Option.getD_some, mixed, z17_d, z17_n1, ih]
  exact rfl
noncomputable def z17_l1 (X : Zs0 → Tree → Int → Int → Option Int) (n : Nat) : Nat → Int → Int → Int → Zs0 → Tree → Option Int
  | 0, _, _, _, _, _ => none
  | m + 1, v0, v1, v2, o0, o1 => (z17_b1 X n).1 (z17_l1 X n m) v0 v1 v2 o0 o1
theorem z17_l1_eq (X : Zs0 → Tree → Int → Int → Option Int) (n : Nat) : ∀ (m : Nat), (∀ (v0 : Int) (v1 : Int) (v2 : Int) (o0 : Zs0) (o1 : Tree), run (z17_m X n) [.lq m [0, 1, 0, 1, 1, 1, 1, 1], .blk 1, .cut [1, 1, 1, 1, 1, 1], .at [1, 1, 1, 1, 1, 1]] ⟨[.any, .any, .int .i64 v0, .int .i64 v1, .ptr 0 0, .ptr 1 0, .any, .any, .any, .int .i64 v2, .any, .any, .any, .any, .any, .any, .any, .any, .any, .any, .any, .any, .any, .any, .any, .any, .any, .any, .any, .any, .any, .any, .any, .any, .any, .any, .any, .any, .any, .any, .any, .any, .any, .any, .any, .any, .any, .any, .any, .any, .any, .any, .any, .any, .any, .any, .any, .any, .any, .any, .any, .any, .any, .any, .any, .any, .any, .any, .any, .any, .any, .any, .any, .any, .any, .any, .any, .any, .any, .any, .any, .any, .any, .any, .any, .any, .any, .any, .any, .any, .any, .any, .any, .any, .any, .any, .any, .any, .any, .any, .any, .any, .any, .any, .any, .any, .any, .any, .any, .any], [.cells (Zs0.cells o0), .cells (Tree.cells o1)], 0⟩ = z17_l1 X n m v0 v1 v2 o0 o1)
  | 0 => by intros; exact run_lq_zero
  | m + 1 => by
    have ih := z17_l1_eq X n m
    intro v0 v1 v2 o0 o1
    rw [run_lq_succ]
    exact (z17_b1 X n).2  m _  ih v0 v1 v2 o0 o1
noncomputable def z17_e (X : Zs0 → Tree → Int → Int → Option Int) (n : Nat) : { B : Zs0 → Tree → Int → Int → Option Int // ∀ (a0 : Zs0) (a1 : Tree) (a2 : Int) (a3 : Int), run (z17_m X n) [.at []] { slots := [(tyC Zs0.cel).enc a0, (tyC Tree.cel).enc a1, (tyI .i64).enc a2, (tyI .i64).enc a3] ++ List.replicate (110 - [(tyC Zs0.cel).enc a0, (tyC Tree.cel).enc a1, (tyI .i64).enc a2, (tyI .i64).enc a3].length) .any, heap := [] } = B a0 a1 a2 a3 } := by
  apply Subtype.mk
  intro a0 a1 a2 a3
  simp (maxSteps := 100000000) only [go_sem, q00, q01, q02, q03, q04, q05, q06, q10, q11, q12, q13, q14, z17_f, z17_c, Try.f132, Option.getD_some, mixed, z17_d, z17_n1, z17_l1_eq X n]
  exact rfl
noncomputable def z17 : Nat → Zs0 → Tree → Int → Int → Option Int
  | 0, _, _, _, _ => none
  | n + 1, a0, a1, a2, a3 => (z17_e (z17 n) n).1 a0 a1 a2 a3
theorem z17_ok : ∀ (n : Nat) (a0 : Zs0) (a1 : Tree) (a2 : Int) (a3 : Int) (r : Int), z17 n a0 a1 a2 a3 = some r → FnC Try.prog 132 [(tyC Zs0.cel).enc a0, (tyC Tree.cel).enc a1, (tyI .i64).enc a2, (tyI .i64).enc a3] (fun v => v = (tyI .i64).enc r)
  | 0, _, _, _, _, _, h => by cases h
  | n + 1, a0, a1, a2, a3, r, h => by
    have ih_ref07_ofTree := z17_ok n
    exact fnC_run (M := z17_m (z17 n) n) ⟨(tabA_cons_ok (ent2_ok (z0s_ok n)) (tabA_cons_ok (ent2_ok (z1y_ok n)) (tabA_cons_ok (ent1_ok (z1z_ok n)) (tabA_cons_ok (ent4_ok (z16_ok n)) tabA_nil_ok)))), (tabD_cons_ok (ent4_okD (ih_ref07_ofTree)) (tabD_cons_ok (ent2_okD (z13_ok n)) tabD_nil_ok)), tabN_ok _, tabF_ok _, noY_ok, noE_ok⟩ Try.func132 rfl rfl ⟨(tyC Zs0.cel).nb 0 _, (tyC Tree.cel).nb 0 _, (tyI .i64).nb 0 _, (tyI .i64).nb 0 _, trivial⟩ Try.ntmps132 Try.results132 (fun σ hs => outR_ok (P := Try.prog) (rs := [.tmp 8]) (t := (tyI .i64)) (σ := σ) (r := r) hs) (((z17_e (z17 n) n).2 a0 a1 a2 a3).trans h)

noncomputable def z09_m (n : Nat) : Mach ((List Term) × Bool) where
  body := (Try.f98.body).getD .skip
  P := Try.prog
  cl := tabA [(72, ent1 (tyC Term.cel) (ty2 (tyC Term.cel) (tyL Term.row)) (z0o n))]
  cd := tabD [(26, entD (ent2 (tyC Term.cel) (tyC Term.cel) tyB (z25 n))), (47, entD (ent2 (tyI .i64) (tyI .i64) (tyL Term.row) (z0u n))), (97, entD (ent3 (tyL Term.row) (tyL Term.row) (tyF 26) tyB (z03 n)))]
  nrm := tabN []
  cut := tabF []
  n := n
  out := outR Try.prog [.tmp 6, .tmp 7] (ty2 (tyL Term.row) tyB)
  isE := tabI []
theorem z09_f (n : Nat) : (z09_m n).P = Try.prog ∧ (z09_m n).cl = tabA [(72, ent1 (tyC Term.cel) (ty2 (tyC Term.cel) (tyL Term.row)) (z0o n))] ∧ (z09_m n).cd = tabD [(26, entD (ent2 (tyC Term.cel) (tyC Term.cel) tyB (z25 n))), (47, entD (ent2 (tyI .i64) (tyI .i64) (tyL Term.row) (z0u n))), (97, entD (ent3 (tyL Term.row) (tyL Term.row) (tyF 26) tyB (z03 n)))] ∧ (z09_m n).nrm = tabN [] ∧ (z09_m n).cut = tabF [] ∧ (z09_m n).n = n ∧ (z09_m n).out = outR Try.prog [.tmp 6, .tmp 7] (ty2 (tyL Term.row) tyB) ∧ (z09_m n).isE = tabI [] := ⟨rfl, rfl, rfl, rfl, rfl, rfl, rfl, rfl⟩
theorem z09_c (n : Nat) : (z09_m n).body = (Try.f98.body).getD .skip := rfl
theorem z09_d (n : Nat) : drawP (z09_m n) [0, 0, 1, 1, 1] = true := by kernel_rfl
noncomputable def z09_e (n : Nat) : { B : Zs1 → Term → Int → Option ((List Term) × Bool) // ∀ (a0 : Zs1) (a1 : Term) (a2 : Int), run (z09_m n) [.at []] { slots := [(tyC Zs1.cel).enc a0, (tyC Term.cel).enc a1, (tyI .i64).enc a2] ++ List.replicate (46 - [(tyC Zs1.cel).enc a0, (tyC Term.cel).enc a1, (tyI .i64).enc a2].length) .any, heap := [] } = B a0 a1 a2 } := by
  apply Subtype.mk
  intro a0 a1 a2
  simp (maxSteps := 100000000) only [go_sem, q00, q01, q02, q03, q04, q05, q06, q10, q11, q12, q13, q14, z09_f, z09_c, Try.f98, Option.getD_some, mixed, z09_d]
  exact rfl
noncomputable def z09 : Nat → Zs1 → Term → Int → Option ((List Term) × Bool)
  | 0, _, _, _ => none
  | n + 1, a0, a1, a2 => (z09_e n).1 a0 a1 a2
theorem z09_ok : ∀ (n : Nat) (a0 : Zs1) (a1 : Term) (a2 : Int) (r : ((List Term) × Bool)), z09 n a0 a1 a2 = some r → FnC Try.prog 98 [(tyC Zs1.cel).enc a0, (tyC Term.cel).enc a1, (tyI .i64).enc a2] (fun v => v = (ty2 (tyL Term.row) tyB).enc r)
  | 0, _, _, _, _, h => by cases h
  | n + 1, a0, a1, a2, r, h => by
    exact fnC_run (M := z09_m n) ⟨(tabA_cons_ok (ent1_ok (z0o_ok n)) tabA_nil_ok), (tabD_cons_ok (ent2_okD (z25_ok n)) (tabD_cons_ok (ent2_okD (z0u_ok n)) (tabD_cons_ok (ent3_okD (z03_ok n)) tabD_nil_ok))), tabN_ok _, tabF_ok _, noY_ok, noE_ok⟩ Try.func98 rfl rfl ⟨(tyC Zs1.cel).nb 0 _, (tyC Term.cel).nb 0 _, (tyI .i64).nb 0 _, trivial⟩ Try.ntmps98 Try.results98 (fun σ hs => outR_ok (P := Try.prog) (rs := [.tmp 6, .tmp 7]) (t := (ty2 (tyL Term.row) tyB)) (σ := σ) (r := r) hs) (((z09_e n).2 a0 a1 a2).trans h)
end Go.Abs
namespace Go.Abs
open Go.Proofs
set_option maxRecDepth 100000
set_option maxHeartbeats 4000000
set_option linter.unusedSimpArgs false
set_option linter.unusedVariables false
noncomputable def z1n_n1 : Nrm := ⟨[], [], [zA, zA, zA, zK, zA, zK, zA, zA, zA, zA, zA, zK, zA, zA, zA, zA, zA, zA, zA, zA, zA, zA, zA, zA, zA, zA, zA, zA, zA, zA, zA, zA, zA, zA, zA, zA, zA, zA, zA, zA, zA, zA, zA, zA, zA, zA, zA, zA, zA, zA, zA, zA, zA, zA, zA, zA, zA, zA, zA, zA, zA, zA, zA, zA, zA, zA, zA, zA, zA, zA, zA, zA, zA, zA, zA, zA, zA, zA, zA, zA, zA, zA, zA, zA, zA, zA, zA, zA, zA, zA, zA, zA, zA, zA, zA, zA, zA, zA, zA, zA, zA, zA, zA, zA, zA, zA, zA, zA, zA, zA, zA, zA, zA, zA, zA, zA, zA, zA, zA, zA, zA, zA, zA, zA, zA, zA, zA, zA, zA, zA, zA, zA, zA, zA, zA, zA, zA, zA, zA, zA, zA, zA, zA, zA, zA, zA, zA, zA, zA, zA, zA, zA, zA, zA, zA, zA, zA, zA, zA, zA, zA], [oT Decl.cel, oT Zs0.cel], none⟩
noncomputable def z1n_n2 : Nrm := ⟨[], [], [zA, zA, zA, zK, zA, zK, zA, zK, zA, zA, zA, zA, zA, zA, zA, zA, zA, zA, zA, zA, zA, zA, zA, zA, zA, zA, zA, zA, zA, zA, zA, zA, zA, zA, zA, zA, zA, zA, zA, zA, zA, zA, zA, zA, zA, zA, zA, zA, zA, zA, zA, zA, zA, zA, zA, zA, zA, zA, zA, zA, zA, zA, zA, zA, zA, zA, zA, zA, zA, zA, zA, zA, zA, zA, zA, zA, zA, zA, zA, zA, zA, zA, zA, zA, zA, zA, zA, zA, zA, zA, zA, zA, zA, zA, zA, zA, zA, zA, zA, zA, zA, zA, zA, zA, zA, zA, zA, zA, zA, zA, zA, zA, zA, zA, zA, zA, zA, zA, zA, zA, zA, zA, zA, zA, zA, zA, zA, zA, zA, zA, zA, zA, zA, zA, zA, zA, zA, zA, zA, zA, zA, zA, zA, zA, zA, zA, zA, zA, zA, zA, zA, zA, zA, zA, zA, zA, zA, zA, zA, zA, zA], [oT Decl.cel, oT Zs0.cel], none⟩
noncomputable def z1n_n3 : Nrm := ⟨[], [], [zA, zA, zA, zK, zA, zK, zA, zA, zA, zA, zA, zA, zA, zA, zA, zK, zA, zA, zA, zA, zA, zA, zA, zA, zA, zA, zA, zA, zA, zA, zA, zA, zA, zA, zA, zA, zA, zA, zA, zA, zA, zA, zA, zA, zA, zA, zA, zA, zA, zA, zA, zA, zA, zA, zA, zA, zA, zA, zA, zA, zA, zA, zA, zA, zA, zA, zA, zA, zA, zA, zA, zA, zA, zA, zA, zA, zA, zA, zA, zA, zA, zA, zA, zA, zA, zA, zA, zA, zA, zA, zA, zA, zA, zA, zA, zA, zA, zA, zA, zA, zA, zA, zA, zA, zA, zA, zA, zA, zA, zA, zA, zA, zA, zA, zA, zA, zA, zA, zA, zA, zA, zA, zA, zA, zA, zA, zA, zA, zA, zA, zA, zA, zA, zA, zA, zA, zA, zA, zA, zA, zA, zA, zA, zA, zA, zA, zA, zA, zA, zA, zA, zA, zA, zA, zA, zA, zA, zA, zA, zA, zA], [oT Decl.cel, oT Zs0.cel], none⟩
noncomputable def z1n_n4 : Nrm := ⟨[], [], [zA, zA, zA, zK, zA, zK, zA, zA, zA, zA, zA, zA, zA, zK, zA, zA, zA, zA, zA, zA, zA, zA, zA, zA, zA, zA, zA, zA, zA, zA, zA, zA, zA, zA, zA, zA, zA, zA, zA, zA, zA, zA, zA, zA, zA, zA, zA, zA, zA, zA, zA, zA, zA, zA, zA, zA, zA, zA, zA, zA, zA, zA, zA, zA, zA, zA, zA, zA, zA, zA, zA, zA, zA, zA, zA, zA, zA, zA, zA, zA, zA, zA, zA, zA, zA, zA, zA, zA, zA, zA, zA, zA, zA, zA, zA, zA, zA, zA, zA, zA, zA, zA, zA, zA, zA, zA, zA, zA, zA, zA, zA, zA, zA, zA, zA, zA, zA, zA, zA, zA, zA, zA, zA, zA, zA, zA, zA, zA, zA, zA, zA, zA, zA, zA, zA, zA, zA, zA, zA, zA, zA, zA, zA, zA, zA, zA, zA, zA, zA, zA, zA, zA, zA, zA, zA, zA, zA, zA, zA, zA, zA], [oT Decl.cel, oC [zT (tyL Decl.row), zK, zK, zK, zK, zK, zK, zK, zT (tyL Level.row), zT (tyL Term.row), zK, zK, zK, zT (tyL Level.row), zT (tyL Term.row), zK, zT (tyL Ctor.row), zK, zK, zK, zK, zT (tyL Level.row), zT (tyL Term.row), zT (tyL Term.row), zT (tyL Fun.row)]], none⟩
noncomputable def z1n_m (n : Nat) : Mach Int where
  body := (Try.f121.body).getD .skip
  P := Try.prog
  cl := tabA [(126, ent1 (tyC Decl.cel) (tyL rowS) (z1m n)), (131, ent4 (tyC Zs0.cel) (tyC Term.cel) (tyI .i64) (tyI .i64) (tyI .i64) (z16 n))]
  cd := tabD [(131, entD (ent4 (tyC Zs0.cel) (tyC Term.cel) (tyI .i64) (tyI .i64) (tyI .i64) (z16 n))), (132, entD (ent4 (tyC Zs0.cel) (tyC Tree.cel) (tyI .i64) (tyI .i64) (tyI .i64) (z17 n)))]
  nrm := tabN [([0, 1, 1, 1, 1, 1, 1, 1, 0, 1, 1, 1, 0, 1, 0, 1, 1, 1], z1n_n1), ([0, 1, 0, 1, 0, 1, 1, 1, 0, 1, 0, 1, 1, 1], z1n_n2), ([0, 1, 1, 1, 0, 1, 1, 1, 1, 1, 0, 1, 0, 1, 1, 1], z1n_n3), ([0, 1, 0, 0, 1, 1, 1, 1, 1, 0, 1, 0, 1, 1, 1], z1n_n4)]
  cut := tabF []
  n := n
  out := outR Try.prog [.tmp 4] (tyI .i64)
  isE := tabI []
theorem z1n_f (n : Nat) : (z1n_m n).P = Try.prog ∧ (z1n_m n).cl = tabA [(126, ent1 (tyC Decl.cel) (tyL rowS) (z1m n)), (131, ent4 (tyC Zs0.cel) (tyC Term.cel) (tyI .i64) (tyI .i64) (tyI .i64) (z16 n))] ∧ (z1n_m n).cd = tabD [(131, entD (ent4 (tyC Zs0.cel) (tyC Term.cel) (tyI .i64) (tyI .i64) (tyI .i64) (z16 n))), (132, entD (ent4 (tyC Zs0.cel) (tyC Tree.cel) (tyI .i64) (tyI .i64) (tyI .i64) (z17 n)))] ∧ (z1n_m n).nrm = tabN [([0, 1, 1, 1, 1, 1, 1, 1, 0, 1, 1, 1, 0, 1, 0, 1, 1, 1], z1n_n1), ([0, 1, 0, 1, 0, 1, 1, 1, 0, 1, 0, 1, 1, 1], z1n_n2), ([0, 1, 1, 1, 0, 1, 1, 1, 1, 1, 0, 1, 0, 1, 1, 1], z1n_n3), ([0, 1, 0, 0, 1, 1, 1, 1, 1, 0, 1, 0, 1, 1, 1], z1n_n4)] ∧ (z1n_m n).cut = tabF [] ∧ (z1n_m n).n = n ∧ (z1n_m n).out = outR Try.prog [.tmp 4] (tyI .i64) ∧ (z1n_m n).isE = tabI [] := ⟨rfl, rfl, rfl, rfl, rfl, rfl, rfl, rfl⟩
theorem z1n_c (n : Nat) : (z1n_m n).body = (Try.f121.body).getD .skip := rfl
theorem z1n_d (n : Nat) : drawP (z1n_m n) [0, 0, 0, 1, 0, 0, 1, 0, 0, 1, 1, 1, 1, 1, 0, 1, 0, 1, 1, 1] = true ∧ drawP (z1n_m n) [0, 0, 0, 1, 0, 0, 1, 0, 1, 0, 1, 1, 1, 0, 1, 0, 1, 1, 1] = true ∧ drawP (z1n_m n) [0, 0, 0, 1, 0, 0, 1, 1, 1, 0, 1, 1, 1, 1, 1, 0, 1, 0, 1, 1, 1] = true ∧ drawP (z1n_m n) [0, 0, 0, 1, 0, 0, 1, 1, 1, 1, 1, 1, 1, 0, 1, 1, 1, 0, 1, 0, 1, 1, 1] = true := ⟨by kernel_rfl, by kernel_rfl, by kernel_rfl, by kernel_rfl⟩
noncomputable def z1n_b1 (n : Nat) : { B : (Int → Decl → Zs0 → Option Int) → Int → Decl → Zs0 → Option Int // ∀ m X0, (∀ (v0 : Int) (o0 : Decl) (o1 : Zs0), run (z1n_m n) [.lq m [0, 1, 1, 1, 1, 1, 1, 1, 0, 1, 1, 1, 0, 1, 0, 1, 1, 1], .blk 3, .blk 0, .cut [1, 1, 1, 1], .at [1, 1, 1, 1]] ⟨[.any, .any, .any, .ptr 0 0, .any, .ptr 1 0, .any, .any, .any, .any, .any, .int .i64 v0, .any, .any, .any, .any, .any, .any, .any, .any, .any, .any, .any, .any, .any, .any, .any, .any, .any, .any, .any, .any, .any, .any, .any, .any, .any, .any, .any, .any, .any, .any, .any, .any, .any, .any, .any, .any, .any, .any, .any, .any, .any, .any, .any, .any, .any, .any, .any, .any, .any, .any, .any, .any, .any, .any, .any, .any, .any, .any, .any, .any, .any, .any, .any, .any, .any, .any, .any, .any, .any, .any, .any, .any, .any, .any, .any, .any, .any, .any, .any, .any, .any, .any, .any, .any, .any, .any, .any, .any, .any, .any, .any, .any, .any, .any, .any, .any, .any, .any, .any, .any, .any, .any, .any, .any, .any, .any, .any, .any, .any, .any, .any, .any, .any, .any, .any, .any, .any, .any, .any, .any, .any, .any, .any, .any, .any, .any, .any, .any, .any, .any, .any, .any, .any, .any, .any, .any, .any, .any, .any, .any, .any, .any, .any, .any, .any, .any, .any, .any, .any], [.cells (Decl.cells o0), .cells (Zs0.cells o1)], 0⟩ = X0 v0 o0 o1) → ∀ (v0 : Int) (o0 : Decl) (o1 : Zs0), run (z1n_m n) [.at [0, 0, 1, 1, 1, 1, 1, 1, 1, 0, 1, 1, 1, 0, 1, 0, 1, 1, 1], .lp m [0, 1, 1, 1, 1, 1, 1, 1, 0, 1, 1, 1, 0, 1, 0, 1, 1, 1], .blk 3, .blk 0, .cut [1, 1, 1, 1], .at [1, 1, 1, 1]] ⟨[.any, .any, .any, .ptr 0 0, .any, .ptr 1 0, .any, .any, .any, .any, .any, .int .i64 v0, .any, .any, .any, .any, .any, .any, .any, .any, .any, .any, .any, .any, .any, .any, .any, .any, .any, .any, .any, .any, .any, .any, .any, .any, .any, .any, .any, .any, .any, .any, .any, .any, .any, .any, .any, .any, .any, .any, .any, .any, .any, .any, .any, .any, .any, .any, .any, .any, .any, .any, .any, .any, .any, .any, .any, .any, .any, .any, .any, .any, .any, .any, .any, .any, .any, .any, .any, .any, .any, .any, .any, .any, .any, .any, .any, .any, .any, .any, .any, .any, .any, .any, .any, .any, .any, .any, .any, .any, .any, .any, .any, .any, .any, .any, .any, .any, .any, .any, .any, .any, .any, .any, .any, .any, .any, .any, .any, .any, .any, .any, .any, .any, .any, .any, .any, .any, .any, .any, .any, .any, .any, .any, .any, .any, .any, .any, .any, .any, .any, .any, .any, .any, .any, .any, .any, .any, .any, .any, .any, .any, .any, .any, .any, .any, .any, .any, .any, .any, .any], [.cells (Decl.cells o0), .cells (Zs0.cells o1)], 0⟩ = B X0 v0 o0 o1 } := by
  apply Subtype.mk
  intro m X0 ih v0 o0 o1
  simp (maxSteps := 100000000) only [go_sem, q00, q01, q02, q03, q04, q05, q06, q10, q11, q12, q13, q14, z1n_f, z1n_c, Try.f121, Option.getD_some, mixed, z1n_d, z1n_n1, z1n_n2, z1n_n3, z1n_n4, ih]
  exact rfl
noncomputable def z1n_l1 (n : Nat) : Nat → Int → Decl → Zs0 → Option Int
  | 0, _, _, _ => none
  | m + 1, v0, o0, o1 => (z1n_b1 n).1 (z1n_l1 n m) v0 o0 o1
theorem z1n_l1_eq (n : Nat) : ∀ (m : Nat), (∀ (v0 : Int) (o0 : Decl) (o1 : Zs0), run (z1n_m n) [.lq m [0, 1, 1, 1, 1, 1, 1, 1, 0, 1, 1, 1, 0, 1, 0, 1, 1, 1], .blk 3, .blk 0, .cut [1, 1, 1, 1], .at [1, 1, 1, 1]] ⟨[.any, .any, .any, .ptr 0 0, .any, .ptr 1 0, .any, .any, .any, .any, .any, .int .i64 v0, .any, .any, .any, .any, .any, .any, .any, .any, .any, .any, .any, .any, .any, .any, .any, .any, .any, .any, .any, .any, .any, .any, .any, .any, .any, .any, .any, .any, .any, .any, .any, .any, .any, .any, .any, .any, .any, .any, .any, .any, .any, .any, .any, .any, .any, .any, .any, .any, .any, .any, .any, .any, .any, .any, .any, .any, .any, .any, .any, .any, .any, .any, .any, .any, .any, .any, .any, .any, .any, .any, .any, .any, .any, .any, .any, .any, .any, .any, .any, .any, .any, .any, .any, .any, .any, .any, .any, .any, .any, .any, .any, .any, .any, .any, .any, .any, .any, .any, .any, .any, .any, .any, .any, .any, .any, .any, .any, .any, .any, .any, .any, .any, .any, .any, .any, .any, .any, .any, .any, .any, .any, .any, .any, .any, .any, .any, .any, .any, .any, .any, .any, .any, .any, .any, .any, .any, .any, .any, .any, .any, .any, .any, .any, .any, .any, .any, .any, .any, .any], [.cells (Decl.cells o0), .cells (Zs0.cells o1)], 0⟩ = z1n_l1 n m v0 o0 o1)
  | 0 => by intros; exact run_lq_zero
  | m + 1 => by
    have ih := z1n_l1_eq n m
    intro v0 o0 o1
    rw [run_lq_succ]
    exact (z1n_b1 n).2  m _  ih v0 o0 o1
noncomputable def z1n_b2 (n : Nat) : { B : (Int → Decl → Zs0 → Option Int) → Int → Decl → Zs0 → Option Int // ∀ m X0, (∀ (v0 : Int) (o0 : Decl) (o1 : Zs0), run (z1n_m n) [.lq m [0, 1, 0, 1, 0, 1, 1, 1, 0, 1, 0, 1, 1, 1], .blk 1, .cut [1, 1, 0, 1, 1, 1, 0, 1, 0, 1, 1, 1], .at [1, 1, 0, 1, 1, 1, 0, 1, 0, 1, 1, 1], .blk 0, .cut [1, 1, 1, 1], .at [1, 1, 1, 1]] ⟨[.any, .any, .any, .ptr 0 0, .any, .ptr 1 0, .any, .int .i64 v0, .any, .any, .any, .any, .any, .any, .any, .any, .any, .any, .any, .any, .any, .any, .any, .any, .any, .any, .any, .any, .any, .any, .any, .any, .any, .any, .any, .any, .any, .any, .any, .any, .any, .any, .any, .any, .any, .any, .any, .any, .any, .any, .any, .any, .any, .any, .any, .any, .any, .any, .any, .any, .any, .any, .any, .any, .any, .any, .any, .any, .any, .any, .any, .any, .any, .any, .any, .any, .any, .any, .any, .any, .any, .any, .any, .any, .any, .any, .any, .any, .any, .any, .any, .any, .any, .any, .any, .any, .any, .any, .any, .any, .any, .any, .any, .any, .any, .any, .any, .any, .any, .any, .any, .any, .any, .any, .any, .any, .any, .any, .any, .any, .any, .any, .any, .any, .any, .any, .any, .any, .any, .any, .any, .any, .any, .any, .any, .any, .any, .any, .any, .any, .any, .any, .any, .any, .any, .any, .any, .any, .any, .any, .any, .any, .any, .any, .any, .any, .any, .any, .any, .any, .any], [.cells (Decl.cells o0), .cells (Zs0.cells o1)], 0⟩ = X0 v0 o0 o1) → ∀ (v0 : Int) (o0 : Decl) (o1 : Zs0), run (z1n_m n) [.at [0, 0, 1, 0, 1, 0, 1, 1, 1, 0, 1, 0, 1, 1, 1], .lp m [0, 1, 0, 1, 0, 1, 1, 1, 0, 1, 0, 1, 1, 1], .blk 1, .cut [1, 1, 0, 1, 1, 1, 0, 1, 0, 1, 1, 1], .at [1, 1, 0, 1, 1, 1, 0, 1, 0, 1, 1, 1], .blk 0, .cut [1, 1, 1, 1], .at [1, 1, 1, 1]] ⟨[.any, .any, .any, .ptr 0 0, .any, .ptr 1 0, .any, .int .i64 v0, .any, .any, .any, .any, .any, .any, .any, .any, .any, .any, .any, .any, .any, .any, .any, .any, .any, .any, .any, .any, .any, .any, .any, .any, .any, .any, .any, .any, .any, .any, .any, .any, .any, .any, .any, .any, .any, .any, .any, .any, .any, .any, .any, .any, .any, .any, .any, .any, .any, .any, .any, .any, .any, .any, .any, .any, .any, .any, .any, .any, .any, .any, .any, .any, .any, .any, .any, .any, .any, .any, .any, .any, .any, .any, .any, .any, .any, .any, .any, .any, .any, .any, .any, .any, .any, .any, .any, .any, .any, .any, .any, .any, .any, .any, .any, .any, .any, .any, .any, .any, .any, .any, .any, .any, .any, .any, .any, .any, .any, .any, .any, .any, .any, .any, .any, .any, .any, .any, .any, .any, .any, .any, .any, .any, .any, .any, .any, .any, .any, .any, .any, .any, .any, .any, .any, .any, .any, .any, .any, .any, .any, .any, .any, .any, .any, .any, .any, .any, .any, .any, .any, .any, .any], [.cells (Decl.cells o0), .cells (Zs0.cells o1)], 0⟩ = B X0 v0 o0 o1 } := by
  apply Subtype.mk
  intro m X0 ih v0 o0 o1
  simp (maxSteps := 100000000) only [go_sem, q00, q01, q02, q03, q04, q05, q06, q10, q11, q12, q13, q14, z1n_f, z1n_c, Try.f121, Option.getD_some, mixed, z1n_d, z1n_n1, z1n_n2, z1n_n3, z1n_n4, z1n_l1_eq n, ih]
  exact rfl
noncomputable def z1n_l2 (n : Nat) : Nat → Int → Decl → Zs0 → Option Int
  | 0, _, _, _ => none
  | m + 1, v0, o0, o1 => (z1n_b2 n).1 (z1n_l2 n m) v0 o0 o1
theorem z1n_l2_eq (n : Nat) : ∀ (m : Nat), (∀ (v0 : Int) (o0 : Decl) (o1 : Zs0), run (z1n_m n) [.lq m [0, 1, 0, 1, 0, 1, 1, 1, 0, 1, 0, 1, 1, 1], .blk 1, .cut [1, 1, 0, 1, 1, 1, 0, 1, 0, 1, 1, 1], .at [1, 1, 0, 1, 1, 1, 0, 1, 0, 1, 1, 1], .blk 0, .cut [1, 1, 1, 1], .at [1, 1, 1, 1]] ⟨[.any, .any, .any, .ptr 0 0, .any, .ptr 1 0, .any, .int .i64 v0, .any, .any, .any, .any, .any, .any, .any, .any, .any, .any, .any, .any, .any, .any, .any, .any, .any, .any, .any, .any, .any, .any, .any, .any, .any, .any, .any, .any, .any, .any, .any, .any, .any, .any, .any, .any, .any, .any, .any, .any, .any, .any, .any, .any, .any, .any, .any, .any, .any, .any, .any, .any, .any, .any, .any, .any, .any, .any, .any, .any, .any, .any, .any, .any, .any, .any, .any, .any, .any, .any, .any, .any, .any, .any, .any, .any, .any, .any, .any, .any, .any, .any, .any, .any, .any, .any, .any, .any, .any, .any, .any, .any, .any, .any, .any, .any, .any, .any, .any, .any, .any, .any, .any, .any, .any, .any, .any, .any, .any, .any, .any, .any, .any, .any, .any, .any, .any, .any, .any, .any, .any, .any, .any, .any, .any, .any, .any, .any, .any, .any, .any, .any, .any, .any, .any, .any, .any, .any, .any, .any, .any, .any, .any, .any, .any, .any, .any, .any, .any, .any, .any, .any, .any], [.cells (Decl.cells o0), .cells (Zs0.cells o1)], 0⟩ = z1n_l2 n m v0 o0 o1)
  | 0 => by intros; exact run_lq_zero
  | m + 1 => by
    have ih := z1n_l2_eq n m
    intro v0 o0 o1
    rw [run_lq_succ]
    exact (z1n_b2 n).2  m _  ih v0 o0 o1
noncomputable def z1n_b3 (n : Nat) : { B : (Int → Decl → Zs0 → Option Int) → Int → Decl → Zs0 → Option Int // ∀ m X0, (∀ (v0 : Int) (o0 : Decl) (o1 : Zs0), run (z1n_m n) [.lq m [0, 1, 1, 1, 0, 1, 1, 1, 1, 1, 0, 1, 0, 1, 1, 1], .blk 7, .blk 0, .cut [1, 1, 1, 1], .at [1, 1, 1, 1]] ⟨[.any, .any, .any, .ptr 0 0, .any, .ptr 1 0, .any, .any, .any, .any, .any, .any, .any, .any, .any, .int .i64 v0, .any, .any, .any, .any, .any, .any, .any, .any, .any, .any, .any, .any, .any, .any, .any, .any, .any, .any, .any, .any, .any, .any, .any, .any, .any, .any, .any, .any, .any, .any, .any, .any, .any, .any, .any, .any, .any, .any, .any, .any, .any, .any, .any, .any, .any, .any, .any, .any, .any, .any, .any, .any, .any, .any, .any, .any, .any, .any, .any, .any, .any, .any, .any, .any, .any, .any, .any, .any, .any, .any, .any, .any, .any, .any, .any, .any, .any, .any, .any, .any, .any, .any, .any, .any, .any, .any, .any, .any, .any, .any, .any, .any, .any, .any, .any, .any, .any, .any, .any, .any, .any, .any, .any, .any, .any, .any, .any, .any, .any, .any, .any, .any, .any, .any, .any, .any, .any, .any, .any, .any, .any, .any, .any, .any, .any, .any, .any, .any, .any, .any, .any, .any, .any, .any, .any, .any, .any, .any, .any, .any, .any, .any, .any, .any, .any], [.cells (Decl.cells o0), .cells (Zs0.cells o1)], 0⟩ = X0 v0 o0 o1) → ∀ (v0 : Int) (o0 : Decl) (o1 : Zs0), run (z1n_m n) [.at [0, 0, 1, 1, 1, 0, 1, 1, 1, 1, 1, 0, 1, 0, 1, 1, 1], .lp m [0, 1, 1, 1, 0, 1, 1, 1, 1, 1, 0, 1, 0, 1, 1, 1], .blk 7, .blk 0, .cut [1, 1, 1, 1], .at [1, 1, 1, 1]] ⟨[.any, .any, .any, .ptr 0 0, .any, .ptr 1 0, .any, .any, .any, .any, .any, .any, .any, .any, .any, .int .i64 v0, .any, .any, .any, .any, .any, .any, .any, .any, .any, .any, .any, .any, .any, .any, .any, .any, .any, .any, .any, .any, .any, .any, .any, .any, .any, .any, .any, .any, .any, .any, .any, .any, .any, .any, .any, .any, .any, .any, .any, .any, .any, .any, .any, .any, .any, .any, .any, .any, .any, .any, .any, .any, .any, .any, .any, .any, .any, .any, .any, .any, .any, .any, .any, .any, .any, .any, .any, .any, .any, .any, .any, .any, .any, .any, .any, .any, .any, .any, .any, .any, .any, .any, .any, .any, .any, .any, .any, .any, .any, .any, .any, .any, .any, .any, .any, .any, .any, .any, .any, .any, .any, .any, .any, .any, .any, .any, .any, .any, .any, .any, .any, .any, .any, .any, .any, .any, .any, .any, .any, .any, .any, .any, .any, .any, .any, .any, .any, .any, .any, .any, .any, .any, .any, .any, .any, .any, .any, .any, .any, .any, .any, .any, .any, .any, .any], [.cells (Decl.cells o0), .cells (Zs0.cells o1)], 0⟩ = B X0 v0 o0 o1 } := by
  apply Subtype.mk
  intro m X0 ih v0 o0 o1
  simp (maxSteps := 100000000) only [go_sem, q00, q01, q02, q03, q04, q05, q06, q10, q11, q12, q13, q14, z1n_f, z1n_c, Try.f121, Option.getD_some, mixed, z1n_d, z1n_n1, z1n_n2, z1n_n3, z1n_n4, z1n_l1_eq n, z1n_l2_eq n, ih]
  exact rfl
noncomputable def z1n_l3 (n : Nat) : Nat → Int → Decl → Zs0 → Option Int
  | 0, _, _, _ => none
  | m + 1, v0, o0, o1 => (z1n_b3 n).1 (z1n_l3 n m) v0 o0 o1
theorem z1n_l3_eq (n : Nat) : ∀ (m : Nat), (∀ (v0 : Int) (o0 : Decl) (o1 : Zs0), run (z1n_m n) [.lq m [0, 1, 1, 1, 0, 1, 1, 1, 1, 1, 0, 1, 0, 1, 1, 1], .blk 7, .blk 0, .cut [1, 1, 1, 1], .at [1, 1, 1, 1]] ⟨[.any, .any, .any, .ptr 0 0, .any, .ptr 1 0, .any, .any, .any, .any, .any, .any, .any, .any, .any, .int .i64 v0, .any, .any, .any, .any, .any, .any, .any, .any, .any, .any, .any, .any, .any, .any, .any, .any, .any, .any, .any, .any, .any, .any, .any, .any, .any, .any, .any, .any, .any, .any, .any, .any, .any, .any, .any, .any, .any, .any, .any, .any, .any, .any, .any, .any, .any, .any, .any, .any, .any, .any, .any, .any, .any, .any, .any, .any, .any, .any, .any, .any, .any, .any, .any, .any, .any, .any, .any, .any, .any, .any, .any, .any, .any, .any, .any, .any, .any, .any, .any, .any, .any, .any, .any, .any, .any, .any, .any, .any, .any, .any, .any, .any, .any, .any, .any, .any, .any, .any, .any, .any, .any, .any, .any, .any, .any, .any, .any, .any, .any, .any, .any, .any, .any, .any, .any, .any, .any, .any, .any, .any, .any, .any, .any, .any, .any, .any, .any, .any, .any, .any, .any, .any, .any, .any, .any, .any, .any, .any, .any, .any, .any, .any, .any, .any, .any], [.cells (Decl.cells o0), .cells (Zs0.cells o1)], 0⟩ = z1n_l3 n m v0 o0 o1)
  | 0 => by intros; exact run_lq_zero
  | m + 1 => by
    have ih := z1n_l3_eq n m
    intro v0 o0 o1
    rw [run_lq_succ]
    exact (z1n_b3 n).2  m _  ih v0 o0 o1
noncomputable def z1n_b4 (n : Nat) : { B : (Int → Decl → (List Decl) → Int → Str → Int → Int → Int → Str → (List Level) → (List Term) → Int → Int → Str → (List Level) → (List Term) → Int → (List Ctor) → Int → Int → Int → Str → (List Level) → (List Term) → (List Term) → (List Fun) → Option Int) → Int → Decl → (List Decl) → Int → Str → Int → Int → Int → Str → (List Level) → (List Term) → Int → Int → Str → (List Level) → (List Term) → Int → (List Ctor) → Int → Int → Int → Str → (List Level) → (List Term) → (List Term) → (List Fun) → Option Int // ∀ m X0, (∀ (v0 : Int) (o0 : Decl) (v2 : List Decl) (v3 : Int) (v4 : Str) (v5 : Int) (v6 : Int) (v7 : Int) (v8 : Str) (v9 : List Level) (v10 : List Term) (v11 : Int) (v12 : Int) (v13 : Str) (v14 : List Level) (v15 : List Term) (v16 : Int) (v17 : List Ctor) (v18 : Int) (v19 : Int) (v20 : Int) (v21 : Str) (v22 : List Level) (v23 : List Term) (v24 : List Term) (v25 : List Fun), run (z1n_m n) [.lq m [0, 1, 0, 0, 1, 1, 1, 1, 1, 0, 1, 0, 1, 1, 1], .blk 5, .cut [1, 0, 1, 1, 1, 1, 1, 0, 1, 0, 1, 1, 1], .at [1, 0, 1, 1, 1, 1, 1, 0, 1, 0, 1, 1, 1], .blk 0, .cut [1, 1, 1, 1], .at [1, 1, 1, 1]] ⟨[.any, .any, .any, .ptr 0 0, .any, .ptr 1 0, .any, .any, .any, .any, .any, .any, .any, .int .i64 v0, .any, .any, .any, .any, .any, .any, .any, .any, .any, .any, .any, .any, .any, .any, .any, .any, .any, .any, .any, .any, .any, .any, .any, .any, .any, .any, .any, .any, .any, .any, .any, .any, .any, .any, .any, .any, .any, .any, .any, .any, .any, .any, .any, .any, .any, .any, .any, .any, .any, .any, .any, .any, .any, .any, .any, .any, .any, .any, .any, .any, .any, .any, .any, .any, .any, .any, .any, .any, .any, .any, .any, .any, .any, .any, .any, .any, .any, .any, .any, .any, .any, .any, .any, .any, .any, .any, .any, .any, .any, .any, .any, .any, .any, .any, .any, .any, .any, .any, .any, .any, .any, .any, .any, .any, .any, .any, .any, .any, .any, .any, .any, .any, .any, .any, .any, .any, .any, .any, .any, .any, .any, .any, .any, .any, .any, .any, .any, .any, .any, .any, .any, .any, .any, .any, .any, .any, .any, .any, .any, .any, .any, .any, .any, .any, .any, .any, .any], [.cells (Decl.cells o0), .cells [.lst false 23 (mp Decl.cells v2), .lst true 0 [], .int .i64 v3, .str (sb v4), .int .i64 v5, .int .i64 v6, .int .i64 v7, .str (sb v8), .lst false 2 (mp Level.cells v9), .lst false 5 (mp Term.cells v10), .int .i64 v11, .int .i64 v12, .str (sb v13), .lst false 2 (mp Level.cells v14), .lst false 5 (mp Term.cells v15), .int .i64 v16, .lst false 6 (mp Ctor.cells v17), .int .i64 v18, .int .i64 v19, .int .i64 v20, .str (sb v21), .lst false 2 (mp Level.cells v22), .lst false 5 (mp Term.cells v23), .lst false 5 (mp Term.cells v24), .lst false 15 (mp Fun.cells v25)]], 0⟩ = X0 v0 o0 v2 v3 v4 v5 v6 v7 v8 v9 v10 v11 v12 v13 v14 v15 v16 v17 v18 v19 v20 v21 v22 v23 v24 v25) → ∀ (v0 : Int) (o0 : Decl) (v2 : List Decl) (v3 : Int) (v4 : Str) (v5 : Int) (v6 : Int) (v7 : Int) (v8 : Str) (v9 : List Level) (v10 : List Term) (v11 : Int) (v12 : Int) (v13 : Str) (v14 : List Level) (v15 : List Term) (v16 : Int) (v17 : List Ctor) (v18 : Int) (v19 : Int) (v20 : Int) (v21 : Str) (v22 : List Level) (v23 : List Term) (v24 : List Term) (v25 : List Fun), run (z1n_m n) [.at [0, 0, 1, 0, 0, 1, 1, 1, 1, 1, 0, 1, 0, 1, 1, 1], .lp m [0, 1, 0, 0, 1, 1, 1, 1, 1, 0, 1, 0, 1, 1, 1], .blk 5, .cut [1, 0, 1, 1, 1, 1, 1, 0, 1, 0, 1, 1, 1], .at [1, 0, 1, 1, 1, 1, 1, 0, 1, 0, 1, 1, 1], .blk 0, .cut [1, 1, 1, 1], .at [1, 1, 1, 1]] ⟨[.any, .any, .any, .ptr 0 0, .any, .ptr 1 0, .any, .any, .any, .any, .any, .any, .any, .int .i64 v0, .any, .any, .any, .any, .any, .any, .any, .any, .any, .any, .any, .any, .any, .any, .any, .any, .any, .any, .any, .any, .any, .any, .any, .any, .any, .any, .any, .any, .any, .any, .any, .any, .any, .any, .any, .any, .any, .any, .any, .any, .any, .any, .any, .any, .any, .any, .any, .any, .any, .any, .any, .any, .any, .any, .any, .any, .any, .any, .any, .any, .any, .any, .any, .any, .any, .any, .any, .any, .any, .any, .any, .any, .any, .any, .any, .any, .any, .any, .any, .any, .any, .any, .any, .any, .any, .any, .any, .any, .any, .any, .any, .any, .any, .any, .any, .any, .any, .any, .any, .any, .any, .any, .any, .any, .any, .any, .any, .any, .any, .any, .any, .any, .any, .any, .any, .any, .any, .any, .any, .any, .any, .any, .any, .any, .any, .any, .any, .any, .any, .any, .any, .any, .any, .any, .any, .any, .any, .any, .any, .any, .any, .any, .any, .any, .any, .any, .any], [.cells (Decl.cells o0), .cells [.lst false 23 (mp Decl.cells v2), .lst true 0 [], .int .i64 v3, .str (sb v4), .int .i64 v5, .int .i64 v6, .int .i64 v7, .str (sb v8), .lst false 2 (mp Level.cells v9), .lst false 5 (mp Term.cells v10), .int .i64 v11, .int .i64 v12, .str (sb v13), .lst false 2 (mp Level.cells v14), .lst false 5 (mp Term.cells v15), .int .i64 v16, .lst false 6 (mp Ctor.cells v17), .int .i64 v18, .int .i64 v19, .int .i64 v20, .str (sb v21), .lst false 2 (mp Level.cells v22), .lst false 5 (mp Term.cells v23), .lst false 5 (mp Term.cells v24), .lst false 15 (mp Fun.cells v25)]], 0⟩ = B X0 v0 o0 v2 v3 v4 v5 v6 v7 v8 v9 v10 v11 v12 v13 v14 v15 v16 v17 v18 v19 v20 v21 v22 v23 v24 v25 } := by
  apply Subtype.mk
  intro m X0 ih v0 o0 v2 v3 v4 v5 v6 v7 v8 v9 v10 v11 v12 v13 v14 v15 v16 v17 v18 v19 v20 v21 v22 v23 v24 v25
  simp (maxSteps := 100000000) only [go_sem, q00, q01, q02, q03, q04, q05, q06, q10, q11, q12, q13, q14, z1n_f, z1n_c, Try.f121, Option.getD_some, mixed, z1n_d, z1n_n1, z1n_n2, z1n_n3, z1n_n4, z1n_l1_eq n, z1n_l2_eq n, z1n_l3_eq n, ih]
  exact rfl
noncomputable def z1n_l4 (n : Nat) : Nat → Int → Decl → (List Decl) → Int → Str → Int → Int → Int → Str → (List Level) → (List Term) → Int → Int → Str → (List Level) → (List Term) → Int → (List Ctor) → Int → Int → Int → Str → (List Level) → (List Term) → (List Term) → (List Fun) → Option Int
  | 0, _, _, _, _, _, _, _, _, _, _, _, _, _, _, _, _, _, _, _, _, _, _, _, _, _, _ => none
  | m + 1, v0, o0, v2, v3, v4, v5, v6, v7, v8, v9, v10, v11, v12, v13, v14, v15, v16, v17, v18, v19, v20, v21, v22, v23, v24, v25 => (z1n_b4 n).1 (z1n_l4 n m) v0 o0 v2 v3 v4 v5 v6 v7 v8 v9 v10 v11 v12 v13 v14 v15 v16 v17 v18 v19 v20 v21 v22 v23 v24 v25
theorem z1n_l4_eq (n : Nat) : ∀ (m : Nat), (∀ (v0 : Int) (o0 : Decl) (v2 : List Decl) (v3 : Int) (v4 : Str) (v5 : Int) (v6 : Int) (v7 : Int) (v8 : Str) (v9 : List Level) (v10 : List Term) (v11 : Int) (v12 : Int) (v13 : Str) (v14 : List Level) (v15 : List Term) (v16 : Int) (v17 : List Ctor) (v18 : Int) (v19 : Int) (v20 : Int) (v21 : Str) (v22 : List Level) (v23 : List Term) (v24 : List Term) (v25 : List Fun), run (z1n_m n) [.lq m [0, 1, 0, 0, 1, 1, 1, 1, 1, 0, 1, 0, 1, 1, 1], .blk 5, .cut [1, 0, 1, 1, 1, 1, 1, 0, 1, 0, 1, 1, 1], .at [1, 0, 1, 1, 1, 1, 1, 0, 1, 0, 1, 1, 1], .blk 0, .cut [1, 1, 1, 1], .at [1, 1, 1, 1]] ⟨[.any, .any, .any, .ptr 0 0, .any, .ptr 1 0, .any, .any, .any, .any, .any, .any, .any, .int .i64 v0, .any, .any, .any, .any, .any, .any, .any, .any, .any, .any, .any, .any, .any, .any, .any, .any, .any, .any, .any, .any, .any, .any, .any, .any, .any, .any, .any, .any, .any, .any, .any, .any, .any, .any, .any, .any, .any, .any, .any, .any, .any, .any, .any, .any, .any, .any, .any, .any, .any, .any, .any, .any, .any, .any, .any, .any, .any, .any, .any, .any, .any, .any, .any, .any, .any, .any, .any, .any, .any, .any, .any, .any, .any, .any, .any, .any, .any, .any, .any, .any, .any, .any, .any, .any, .any, .any, .any, .any, .any, .any, .any, .any, .any, .any, .any, .any, .any, .any, .any, .any, .any, .any, .any, .any, .any, .any, .any, .any, .any, .any, .any, .any, .any, .any, .any, .any, .any, .any, .any, .any, .any, .any, .any, .any, .any, .any, .any, .any, .any, .any, .any, .any, .any, .any, .any, .any, .any, .any, .any, .any, .any, .any, .any, .any, .any, .any, .any], [.cells (Decl.cells o0), .cells [.lst false 23 (mp Decl.cells v2), .lst true 0 [], .int .i64 v3, .str (sb v4), .int .i64 v5, .int .i64 v6, .int .i64 v7, .str (sb v8), .lst false 2 (mp Level.cells v9), .lst false 5 (mp Term.cells v10), .int .i64 v11, .int .i64 v12, .str (sb v13), .lst false 2 (mp Level.cells v14), .lst false 5 (mp Term.cells v15), .int .i64 v16, .lst false 6 (mp Ctor.cells v17), .int .i64 v18, .int .i64 v19, .int .i64 v20, .str (sb v21), .lst false 2 (mp Level.cells v22), .lst false 5 (mp Term.cells v23), .lst false 5 (mp Term.cells v24), .lst false 15 (mp Fun.cells v25)]], 0⟩ = z1n_l4 n m v0 o0 v2 v3 v4 v5 v6 v7 v8 v9 v10 v11 v12 v13 v14 v15 v16 v17 v18 v19 v20 v21 v22 v23 v24 v25)
  | 0 => by intros; exact run_lq_zero
  | m + 1 => by
    have ih := z1n_l4_eq n m
    intro v0 o0 v2 v3 v4 v5 v6 v7 v8 v9 v10 v11 v12 v13 v14 v15 v16 v17 v18 v19 v20 v21 v22 v23 v24 v25
    rw [run_lq_succ]
    exact (z1n_b4 n).2  m _  ih v0 o0 v2 v3 v4 v5 v6 v7 v8 v9 v10 v11 v12 v13 v14 v15 v16 v17 v18 v19 v20 v21 v22 v23 v24 v25
noncomputable def z1n_e (n : Nat) : { B : (List Decl) → Decl → Option Int // ∀ (a0 : (List Decl)) (a1 : Decl), run (z1n_m n) [.at []] { slots := [(tyL Decl.row).enc a0, (tyC Decl.cel).enc a1] ++ List.replicate (161 - [(tyL Decl.row).enc a0, (tyC Decl.cel).enc a1].length) .any, heap := [] } = B a0 a1 } := by
  apply Subtype.mk
  intro a0 a1
  simp (maxSteps := 100000000) only [go_sem, q00, q01, q02, q03, q04, q05, q06, q10, q11, q12, q13, q14, z1n_f, z1n_c, Try.f121, Option.getD_some, mixed, z1n_d, z1n_n1, z1n_n2, z1n_n3, z1n_n4, z1n_l1_eq n, z1n_l2_eq n, z1n_l3_eq n, z1n_l4_eq n]
  exact rfl
noncomputable def z1n : Nat → (List Decl) → Decl → Option Int
  | 0, _, _ => none
  | n + 1, a0, a1 => (z1n_e n).1 a0 a1
theorem z1n_ok : ∀ (n : Nat) (a0 : (List Decl)) (a1 : Decl) (r : Int), z1n n a0 a1 = some r → FnC Try.prog 121 [(tyL Decl.row).enc a0, (tyC Decl.cel).enc a1] (fun v => v = (tyI .i64).enc r)
  | 0, _, _, _, h => by cases h
  | n + 1, a0, a1, r, h => by
    exact fnC_run (M := z1n_m n) ⟨(tabA_cons_ok (ent1_ok (z1m_ok n)) (tabA_cons_ok (ent4_ok (z16_ok n)) tabA_nil_ok)), (tabD_cons_ok (ent4_okD (z16_ok n)) (tabD_cons_ok (ent4_okD (z17_ok n)) tabD_nil_ok)), tabN_ok _, tabF_ok _, noY_ok, noE_ok⟩ Try.func121 rfl rfl ⟨(tyL Decl.row).nb 0 _, (tyC Decl.cel).nb 0 _, trivial⟩ Try.ntmps121 Try.results121 (fun σ hs => outR_ok (P := Try.prog) (rs := [.tmp 4]) (t := (tyI .i64)) (σ := σ) (r := r) hs) (((z1n_e n).2 a0 a1).trans h)

noncomputable def z05_n1 : Nrm := ⟨[(5, 3, true)], [], [zA, zA, zK, zA, zA, zK, zA, zA, zA, zA, zA, zA, zT (tyL Term.row), zK, zK, zA, zA, zA, zA, zA, zA, zA, zA, zA, zA, zA, zA, zA, zA, zA, zA, zA, zA, zA, zA, zA, zA, zA, zA, zA, zA, zA, zA, zA, zA], [oT Zs1.cel, oA Zs5.row], none⟩
noncomputable def z05_m (n : Nat) : Mach (List Zs5) where
  body := (Try.f99.body).getD .skip
  P := Try.prog
  cl := tabA [(49, ent1 (tyC Term.cel) (ty2 (tyL Term.row) (tyC Term.cel)) (z10 n)), (98, ent3 (tyC Zs1.cel) (tyC Term.cel) (tyI .i64) (ty2 (tyL Term.row) tyB) (z09 n))]
  cd := tabD []
  nrm := tabN [([0, 1, 0, 1, 1, 0, 1], z05_n1)]
  cut := tabF []
  n := n
  out := outR Try.prog [.tmp 4] (tyL Zs5.row)
theorem z05_f (n : Nat) : (z05_m n).P = Try.prog ∧ (z05_m n).cl = tabA [(49, ent1 (tyC Term.cel) (ty2 (tyL Term.row) (tyC Term.cel)) (z10 n)), (98, ent3 (tyC Zs1.cel) (tyC Term.cel) (tyI .i64) (ty2 (tyL Term.row) tyB) (z09 n))] ∧ (z05_m n).cd = tabD [] ∧ (z05_m n).nrm = tabN [([0, 1, 0, 1, 1, 0, 1], z05_n1)] ∧ (z05_m n).cut = tabF [] ∧ (z05_m n).n = n ∧ (z05_m n).out = outR Try.prog [.tmp 4] (tyL Zs5.row) := ⟨rfl, rfl, rfl, rfl, rfl, rfl, rfl⟩
theorem z05_c (n : Nat) : (z05_m n).body = (Try.f99.body).getD .skip := rfl
noncomputable def z05_b1 (n : Nat) : { B : ((List Term) → Int → Int → Zs1 → (List Zs5) → Option (List Zs5)) → (List Term) → Int → Int → Zs1 → (List Zs5) → Option (List Zs5) // ∀ m X0, (∀ (v0 : List Term) (v1 : Int) (v2 : Int) (o0 : Zs1) (r1 : List Zs5) (c1 : Nat), c1 = r1.length → run (z05_m n) [.lq m [0, 1, 0, 1, 1, 0, 1], .blk 0, .cut [1, 1, 1, 0, 1], .at [1, 1, 1, 0, 1]] ⟨[.any, .any, .ptr 0 0, .any, .any, .acc 1 c1, .any, .any, .any, .any, .any, .any, .lst false 5 (mp Term.cells v0), .int .i64 v1, .int .i64 v2, .any, .any, .any, .any, .any, .any, .any, .any, .any, .any, .any, .any, .any, .any, .any, .any, .any, .any, .any, .any, .any, .any, .any, .any, .any, .any, .any, .any, .any, .any], [.cells (Zs1.cells o0), .acc true 3 (mp Zs5.cells r1)], 0⟩ = X0 v0 v1 v2 o0 r1) → ∀ (v0 : List Term) (v1 : Int) (v2 : Int) (o0 : Zs1) (r1 : List Zs5), run (z05_m n) [.at [0, 0, 1, 0, 1, 1, 0, 1], .lp m [0, 1, 0, 1, 1, 0, 1], .blk 0, .cut [1, 1, 1, 0, 1], .at [1, 1, 1, 0, 1]] ⟨[.any, .any, .ptr 0 0, .any, .any, .acc 1 r1.length, .any, .any, .any, .any, .any, .any, .lst false 5 (mp Term.cells v0), .int .i64 v1, .int .i64 v2, .any, .any, .any, .any, .any, .any, .any, .any, .any, .any, .any, .any, .any, .any, .any, .any, .any, .any, .any, .any, .any, .any, .any, .any, .any, .any, .any, .any, .any, .any], [.cells (Zs1.cells o0), .acc true 3 (mp Zs5.cells r1)], 0⟩ = B X0 v0 v1 v2 o0 r1 } := by
  apply Subtype.mk
  intro m X0 ih v0 v1 v2 o0 r1
  simp (maxSteps := 100000000) only [go_sem, q00, q01, q02, q03, q04, q05, q06, q10, q11, q12, q13, q14, z05_f, z05_c, Try.f99, Option.getD_some, mixed, z05_n1, ih]
  exact rfl
noncomputable def z05_l1 (n : Nat) : Nat → (List Term) → Int → Int → Zs1 → (List Zs5) → Option (List Zs5)
  | 0, _, _, _, _, _ => none
  | m + 1, v0, v1, v2, o0, r1 => (z05_b1 n).1 (z05_l1 n m) v0 v1 v2 o0 r1
theorem z05_l1_eq (n : Nat) : ∀ (m : Nat), (∀ (v0 : List Term) (v1 : Int) (v2 : Int) (o0 : Zs1) (r1 : List Zs5) (c1 : Nat), c1 = r1.length → run (z05_m n) [.lq m [0, 1, 0, 1, 1, 0, 1], .blk 0, .cut [1, 1, 1, 0, 1], .at [1, 1, 1, 0, 1]] ⟨[.any, .any, .ptr 0 0, .any, .any, .acc 1 c1, .any, .any, .any, .any, .any, .any, .lst false 5 (mp Term.cells v0), .int .i64 v1, .int .i64 v2, .any, .any, .any, .any, .any, .any, .any, .any, .any, .any, .any, .any, .any, .any, .any, .any, .any, .any, .any, .any, .any, .any, .any, .any, .any, .any, .any, .any, .any, .any], [.cells (Zs1.cells o0), .acc true 3 (mp Zs5.cells r1)], 0⟩ = z05_l1 n m v0 v1 v2 o0 r1)
  | 0 => by intros; exact run_lq_zero
  | m + 1 => by
    have ih := z05_l1_eq n m
    intro v0 v1 v2 o0 r1 c1 ec1
    subst ec1
    rw [run_lq_succ]
    exact (z05_b1 n).2  m _  ih v0 v1 v2 o0 r1
noncomputable def z05_e (n : Nat) : { B : Zs1 → (List Term) → Option (List Zs5) // ∀ (a0 : Zs1) (a1 : (List Term)), run (z05_m n) [.at []] { slots := [(tyC Zs1.cel).enc a0, (tyL Term.row).enc a1] ++ List.replicate (45 - [(tyC Zs1.cel).enc a0, (tyL Term.row).enc a1].length) .any, heap := [] } = B a0 a1 } := by
  apply Subtype.mk
  intro a0 a1
  simp (maxSteps := 100000000) only [go_sem, q00, q01, q02, q03, q04, q05, q06, q10, q11, q12, q13, q14, z05_f, z05_c, Try.f99, Option.getD_some, mixed, z05_n1, z05_l1_eq n]
  exact rfl
noncomputable def z05 : Nat → Zs1 → (List Term) → Option (List Zs5)
  | 0, _, _ => none
  | n + 1, a0, a1 => (z05_e n).1 a0 a1
theorem z05_ok : ∀ (n : Nat) (a0 : Zs1) (a1 : (List Term)) (r : (List Zs5)), z05 n a0 a1 = some r → FnC Try.prog 99 [(tyC Zs1.cel).enc a0, (tyL Term.row).enc a1] (fun v => v = (tyL Zs5.row).enc r)
  | 0, _, _, _, h => by cases h
  | n + 1, a0, a1, r, h => by
    exact fnC_run (M := z05_m n) ⟨(tabA_cons_ok (ent1_ok (z10_ok n)) (tabA_cons_ok (ent3_ok (z09_ok n)) tabA_nil_ok)), tabD_nil_ok, tabN_ok _, tabF_ok _, noY_ok, noE_ok⟩ Try.func99 rfl rfl ⟨(tyC Zs1.cel).nb 0 _, (tyL Term.row).nb 0 _, trivial⟩ Try.ntmps99 Try.results99 (fun σ hs => outR_ok (P := Try.prog) (rs := [.tmp 4]) (t := (tyL Zs5.row)) (σ := σ) (r := r) hs) (((z05_e n).2 a0 a1).trans h)
end Go.Abs
namespace Go.Abs
open Go.Proofs
set_option maxRecDepth 100000
set_option maxHeartbeats 4000000
set_option linter.unusedSimpArgs false
set_option linter.unusedVariables false
noncomputable def z1x_m (n : Nat) : Mach Int where
  body := (Try.f105.body).getD .skip
  P := Try.prog
  cl := tabA [(118, ent1 (tyC Decl.cel) tyB (z18 n)), (119, ent1 (tyC Decl.cel) (tyI .i64) (z15 n)), (120, ent2 (tyL Decl.row) (tyC Decl.cel) (tyI .i64) (z0l n)), (121, ent2 (tyL Decl.row) (tyC Decl.cel) (tyI .i64) (z1n n))]
  cd := tabD []
  nrm := tabN []
  cut := tabF []
  n := n
  out := outR Try.prog [.tmp 4] (tyI .i64)
theorem z1x_f (n : Nat) : (z1x_m n).P = Try.prog ∧ (z1x_m n).cl = tabA [(118, ent1 (tyC Decl.cel) tyB (z18 n)), (119, ent1 (tyC Decl.cel) (tyI .i64) (z15 n)), (120, ent2 (tyL Decl.row) (tyC Decl.cel) (tyI .i64) (z0l n)), (121, ent2 (tyL Decl.row) (tyC Decl.cel) (tyI .i64) (z1n n))] ∧ (z1x_m n).cd = tabD [] ∧ (z1x_m n).nrm = tabN [] ∧ (z1x_m n).cut = tabF [] ∧ (z1x_m n).n = n ∧ (z1x_m n).out = outR Try.prog [.tmp 4] (tyI .i64) := ⟨rfl, rfl, rfl, rfl, rfl, rfl, rfl⟩
theorem z1x_c (n : Nat) : (z1x_m n).body = (Try.f105.body).getD .skip := rfl
noncomputable def z1x_e (n : Nat) : { B : (List Decl) → Decl → Option Int // ∀ (a0 : (List Decl)) (a1 : Decl), run (z1x_m n) [.at []] { slots := [(tyL Decl.row).enc a0, (tyC Decl.cel).enc a1] ++ List.replicate (32 - [(tyL Decl.row).enc a0, (tyC Decl.cel).enc a1].length) .any, heap := [] } = B a0 a1 } := by
  apply Subtype.mk
  intro a0 a1
  simp (maxSteps := 100000000) only [go_sem, q00, q01, q02, q03, q04, q05, q06, q10, q11, q12, q13, q14, z1x_f, z1x_c, Try.f105, Option.getD_some, mixed]
  exact rfl
noncomputable def z1x : Nat → (List Decl) → Decl → Option Int
  | 0, _, _ => none
  | n + 1, a0, a1 => (z1x_e n).1 a0 a1
theorem z1x_ok : ∀ (n : Nat) (a0 : (List Decl)) (a1 : Decl) (r : Int), z1x n a0 a1 = some r → FnC Try.prog 105 [(tyL Decl.row).enc a0, (tyC Decl.cel).enc a1] (fun v => v = (tyI .i64).enc r)
  | 0, _, _, _, h => by cases h
  | n + 1, a0, a1, r, h => by
    exact fnC_run (M := z1x_m n) ⟨(tabA_cons_ok (ent1_ok (z18_ok n)) (tabA_cons_ok (ent1_ok (z15_ok n)) (tabA_cons_ok (ent2_ok (z0l_ok n)) (tabA_cons_ok (ent2_ok (z1n_ok n)) tabA_nil_ok)))), tabD_nil_ok, tabN_ok _, tabF_ok _, noY_ok, noE_ok⟩ Try.func105 rfl rfl ⟨(tyL Decl.row).nb 0 _, (tyC Decl.cel).nb 0 _, trivial⟩ Try.ntmps105 Try.results105 (fun σ hs => outR_ok (P := Try.prog) (rs := [.tmp 4]) (t := (tyI .i64)) (σ := σ) (r := r) hs) (((z1x_e n).2 a0 a1).trans h)

noncomputable def z0c_m (n : Nat) : Mach (Zs4 × Bool) where
  body := (Try.f57.body).getD .skip
  P := Try.prog
  cl := tabA [(49, ent1 (tyC Term.cel) (ty2 (tyL Term.row) (tyC Term.cel)) (z10 n)), (98, ent3 (tyC Zs1.cel) (tyC Term.cel) (tyI .i64) (ty2 (tyL Term.row) tyB) (z09 n))]
  cd := tabD [(97, entD (ent3 (tyL Term.row) (tyL Term.row) (tyF 26) tyB (z03 n))), (99, entD (ent2 (tyC Zs1.cel) (tyL Term.row) (tyL Zs5.row) (z05 n)))]
  nrm := tabN []
  cut := tabF []
  n := n
  out := outR Try.prog [.cell 4 60, .tmp 5] (ty2 (tyC Zs4.cel) tyB)
  isE := tabI []
theorem z0c_f (n : Nat) : (z0c_m n).P = Try.prog ∧ (z0c_m n).cl = tabA [(49, ent1 (tyC Term.cel) (ty2 (tyL Term.row) (tyC Term.cel)) (z10 n)), (98, ent3 (tyC Zs1.cel) (tyC Term.cel) (tyI .i64) (ty2 (tyL Term.row) tyB) (z09 n))] ∧ (z0c_m n).cd = tabD [(97, entD (ent3 (tyL Term.row) (tyL Term.row) (tyF 26) tyB (z03 n))), (99, entD (ent2 (tyC Zs1.cel) (tyL Term.row) (tyL Zs5.row) (z05 n)))] ∧ (z0c_m n).nrm = tabN [] ∧ (z0c_m n).cut = tabF [] ∧ (z0c_m n).n = n ∧ (z0c_m n).out = outR Try.prog [.cell 4 60, .tmp 5] (ty2 (tyC Zs4.cel) tyB) ∧ (z0c_m n).isE = tabI [] := ⟨rfl, rfl, rfl, rfl, rfl, rfl, rfl, rfl⟩
theorem z0c_c (n : Nat) : (z0c_m n).body = (Try.f57.body).getD .skip := rfl
theorem z0c_d (n : Nat) : drawP (z0c_m n) [0, 0, 1, 1, 1] = true ∧ drawP (z0c_m n) [0, 1, 1, 1, 1, 1, 1, 1] = true := ⟨by kernel_rfl, by kernel_rfl⟩
theorem z0c_o (n : Nat) : ordP (z0c_m n) [0, 1, 1, 1, 1, 1, 1, 1] 1 8 = true ∧ ordP (z0c_m n) [0, 1, 1, 1, 1, 1, 1, 1] 3 8 = true := ⟨by kernel_rfl, by kernel_rfl⟩
noncomputable def z0c_e (n : Nat) : { B : Zs1 → Ctor → Option (Zs4 × Bool) // ∀ (a0 : Zs1) (a1 : Ctor), run (z0c_m n) [.at []] { slots := [(tyC Zs1.cel).enc a0, (tyC Ctor.cel).enc a1] ++ List.replicate (57 - [(tyC Zs1.cel).enc a0, (tyC Ctor.cel).enc a1].length) .any, heap := [] } = B a0 a1 } := by
  apply Subtype.mk
  intro a0 a1
  simp (maxSteps := 100000000) only [go_sem, q00, q01, q02, q03, q04, q05, q06, q10, q11, q12, q13, q14, z0c_f, z0c_c, Try.f57, Option.getD_some, mixed, z0c_d, z0c_o]
  exact rfl
noncomputable def z0c : Nat → Zs1 → Ctor → Option (Zs4 × Bool)
  | 0, _, _ => none
  | n + 1, a0, a1 => (z0c_e n).1 a0 a1
theorem z0c_ok : ∀ (n : Nat) (a0 : Zs1) (a1 : Ctor) (r : (Zs4 × Bool)), z0c n a0 a1 = some r → FnC Try.prog 57 [(tyC Zs1.cel).enc a0, (tyC Ctor.cel).enc a1] (fun v => v = (ty2 (tyC Zs4.cel) tyB).enc r)
  | 0, _, _, _, h => by cases h
  | n + 1, a0, a1, r, h => by
    exact fnC_run (M := z0c_m n) ⟨(tabA_cons_ok (ent1_ok (z10_ok n)) (tabA_cons_ok (ent3_ok (z09_ok n)) tabA_nil_ok)), (tabD_cons_ok (ent3_okD (z03_ok n)) (tabD_cons_ok (ent2_okD (z05_ok n)) tabD_nil_ok)), tabN_ok _, tabF_ok _, noY_ok, noE_ok⟩ Try.func57 rfl rfl ⟨(tyC Zs1.cel).nb 0 _, (tyC Ctor.cel).nb 0 _, trivial⟩ Try.ntmps57 Try.results57 (fun σ hs => outR_ok (P := Try.prog) (rs := [.cell 4 60, .tmp 5]) (t := (ty2 (tyC Zs4.cel) tyB)) (σ := σ) (r := r) hs) (((z0c_e n).2 a0 a1).trans h)
end Go.Abs
namespace Go.Abs
open Go.Proofs
set_option maxRecDepth 100000
set_option maxHeartbeats 4000000
set_option linter.unusedSimpArgs false
set_option linter.unusedVariables false
noncomputable def z1l_n1 : Nrm := ⟨[], [], [zT (tyL Decl.row), zA, zA, zA, zK, zA, zA, zA, zA, zA, zA, zA, zA, zA, zA, zA, zA, zA, zA, zA, zA, zA, zA, zA, zA, zA, zA], [], none⟩
noncomputable def z1l_m (n : Nat) : Mach (Int × Int) where
  body := (Try.f68.body).getD .skip
  P := Try.prog
  cl := tabA []
  cd := tabD [(105, entD (ent2 (tyL Decl.row) (tyC Decl.cel) (tyI .i64) (z1x n)))]
  nrm := tabN [([0, 1, 0, 1, 1], z1l_n1)]
  cut := tabF []
  n := n
  out := outR Try.prog [.tmp 2, .tmp 3] (ty2 (tyI .i64) (tyI .i64))
  isE := tabI []
theorem z1l_f (n : Nat) : (z1l_m n).P = Try.prog ∧ (z1l_m n).cl = tabA [] ∧ (z1l_m n).cd = tabD [(105, entD (ent2 (tyL Decl.row) (tyC Decl.cel) (tyI .i64) (z1x n)))] ∧ (z1l_m n).nrm = tabN [([0, 1, 0, 1, 1], z1l_n1)] ∧ (z1l_m n).cut = tabF [] ∧ (z1l_m n).n = n ∧ (z1l_m n).out = outR Try.prog [.tmp 2, .tmp 3] (ty2 (tyI .i64) (tyI .i64)) ∧ (z1l_m n).isE = tabI [] := ⟨rfl, rfl, rfl, rfl, rfl, rfl, rfl, rfl⟩
theorem z1l_c (n : Nat) : (z1l_m n).body = (Try.f68.body).getD .skip := rfl
theorem z1l_d (n : Nat) : drawP (z1l_m n) [0, 0, 0, 1, 0, 0, 1, 0, 1, 1] = true := by kernel_rfl
noncomputable def z1l_b1 (n : Nat) : { B : ((List Decl) → Int → Option (Int × Int)) → (List Decl) → Int → Option (Int × Int) // ∀ m X0, (∀ (v0 : List Decl) (v1 : Int), run (z1l_m n) [.lq m [0, 1, 0, 1, 1], .blk 0, .cut [1, 1, 1], .at [1, 1, 1]] ⟨[.lst false 23 (mp Decl.cells v0), .any, .any, .any, .int .i64 v1, .any, .any, .any, .any, .any, .any, .any, .any, .any, .any, .any, .any, .any, .any, .any, .any, .any, .any, .any, .any, .any, .any], [], 0⟩ = X0 v0 v1) → ∀ (v0 : List Decl) (v1 : Int), run (z1l_m n) [.at [0, 0, 1, 0, 1, 1], .lp m [0, 1, 0, 1, 1], .blk 0, .cut [1, 1, 1], .at [1, 1, 1]] ⟨[.lst false 23 (mp Decl.cells v0), .any, .any, .any, .int .i64 v1, .any, .any, .any, .any, .any, .any, .any, .any, .any, .any, .any, .any, .any, .any, .any, .any, .any, .any, .any, .any, .any, .any], [], 0⟩ = B X0 v0 v1 } := by
  apply Subtype.mk
  intro m X0 ih v0 v1
  simp (maxSteps := 100000000) only [go_sem, q00, q01, q02, q03, q04, q05, q06, q10, q11, q12, q13, q14, z1l_f, z1l_c, Try.f68, Option.getD_some, mixed, z1l_d, z1l_n1, ih]
  exact rfl
noncomputable def z1l_l1 (n : Nat) : Nat → (List Decl) → Int → Option (Int × Int)
  | 0, _, _ => none
  | m + 1, v0, v1 => (z1l_b1 n).1 (z1l_l1 n m) v0 v1
theorem z1l_l1_eq (n : Nat) : ∀ (m : Nat), (∀ (v0 : List Decl) (v1 : Int), run (z1l_m n) [.lq m [0, 1, 0, 1, 1], .blk 0, .cut [1, 1, 1], .at [1, 1, 1]] ⟨[.lst false 23 (mp Decl.cells v0), .any, .any, .any, .int .i64 v1, .any, .any, .any, .any, .any, .any, .any, .any, .any, .any, .any, .any, .any, .any, .any, .any, .any, .any, .any, .any, .any, .any], [], 0⟩ = z1l_l1 n m v0 v1)
  | 0 => by intros; exact run_lq_zero
  | m + 1 => by
    have ih := z1l_l1_eq n m
    intro v0 v1
    rw [run_lq_succ]
    exact (z1l_b1 n).2  m _  ih v0 v1
noncomputable def z1l_e (n : Nat) : { B : (List Decl) → Option (Int × Int) // ∀ (a0 : (List Decl)), run (z1l_m n) [.at []] { slots := [(tyL Decl.row).enc a0] ++ List.replicate (27 - [(tyL Decl.row).enc a0].length) .any, heap := [] } = B a0 } := by
  apply Subtype.mk
  intro a0
  simp (maxSteps := 100000000) only [go_sem, q00, q01, q02, q03, q04, q05, q06, q10, q11, q12, q13, q14, z1l_f, z1l_c, Try.f68, Option.getD_some, mixed, z1l_d, z1l_n1, z1l_l1_eq n]
  exact rfl
noncomputable def z1l : Nat → (List Decl) → Option (Int × Int)
  | 0, _ => none
  | n + 1, a0 => (z1l_e n).1 a0
theorem z1l_ok : ∀ (n : Nat) (a0 : (List Decl)) (r : (Int × Int)), z1l n a0 = some r → FnC Try.prog 68 [(tyL Decl.row).enc a0] (fun v => v = (ty2 (tyI .i64) (tyI .i64)).enc r)
  | 0, _, _, h => by cases h
  | n + 1, a0, r, h => by
    exact fnC_run (M := z1l_m n) ⟨tabA_nil_ok, (tabD_cons_ok (ent2_okD (z1x_ok n)) tabD_nil_ok), tabN_ok _, tabF_ok _, noY_ok, noE_ok⟩ Try.func68 rfl rfl ⟨(tyL Decl.row).nb 0 _, trivial⟩ Try.ntmps68 Try.results68 (fun σ hs => outR_ok (P := Try.prog) (rs := [.tmp 2, .tmp 3]) (t := (ty2 (tyI .i64) (tyI .i64))) (σ := σ) (r := r) hs) (((z1l_e n).2 a0).trans h)

noncomputable def z0p_n1 : Nrm := ⟨[], [(3, 9, 4)], [zA, zA, zK, zA, zA, zA, zK, zK, zA, zA, zA, zA, zA, zA, zA, zA, zA, zA, zA, zA, zA, zA, zA, zA, zA, zA, zA, zA, zA, zA, zA, zA, zA, zA, zA, zA, zA, zA, zA, zA, zA, zA, zA, zA, zA, zA, zA, zA, zA, zA, zA, zA, zA, zA, zA, zA, zA, zA, zA, zA, zA, zA, zA, zA, zA, zA, zA, zA, zA, zT (tyL Ctor.row), zK, zK, zA, zA, zA, zA, zA, zA, zA, zA, zA, zA, zA, zA, zA, zA, zA, zA, zA, zA, zA, zA], [oD, oK, oD, oC [zK, zK, zT (tyL Term.row), zT (tyL Term.row), zK, zK, zK, zT (tyL Level.row), zT (tyL Term.row), zK], oT Zs1.cel, oA Zs4.row], none⟩
noncomputable def z0p_m (n : Nat) : Mach (Family × Int) where
  body := (Try.f18.body).getD .skip
  P := Try.prog
  cl := tabA [(49, ent1 (tyC Term.cel) (ty2 (tyL Term.row) (tyC Term.cel)) (z10 n)), (57, ent2 (tyC Zs1.cel) (tyC Ctor.cel) (ty2 (tyC Zs4.cel) tyB) (z0c n))]
  cd := tabD [(56, entD (ent2 tyS (tyI .i64) (tyC Term.cel) (z0x n)))]
  nrm := tabN [([0, 1, 0, 1, 1, 1, 1, 1, 1], z0p_n1)]
  cut := tabF []
  n := n
  out := outR Try.prog [.cell 2 36, .tmp 3] (ty2 (tyC Family.cel) (tyI .i64))
  isE := tabI []
theorem z0p_f (n : Nat) : (z0p_m n).P = Try.prog ∧ (z0p_m n).cl = tabA [(49, ent1 (tyC Term.cel) (ty2 (tyL Term.row) (tyC Term.cel)) (z10 n)), (57, ent2 (tyC Zs1.cel) (tyC Ctor.cel) (ty2 (tyC Zs4.cel) tyB) (z0c n))] ∧ (z0p_m n).cd = tabD [(56, entD (ent2 tyS (tyI .i64) (tyC Term.cel) (z0x n)))] ∧ (z0p_m n).nrm = tabN [([0, 1, 0, 1, 1, 1, 1, 1, 1], z0p_n1)] ∧ (z0p_m n).cut = tabF [] ∧ (z0p_m n).n = n ∧ (z0p_m n).out = outR Try.prog [.cell 2 36, .tmp 3] (ty2 (tyC Family.cel) (tyI .i64)) ∧ (z0p_m n).isE = tabI [] := ⟨rfl, rfl, rfl, rfl, rfl, rfl, rfl, rfl⟩
theorem z0p_c (n : Nat) : (z0p_m n).body = (Try.f18.body).getD .skip := rfl
theorem z0p_d (n : Nat) : drawP (z0p_m n) [0, 1, 1, 1, 1] = true ∧ drawP (z0p_m n) [0, 1, 1, 1, 1, 1] = true := ⟨by kernel_rfl, by kernel_rfl⟩
theorem z0p_o (n : Nat) : ordP (z0p_m n) [0, 1, 1, 1, 1] 1 15 = true ∧ ordP (z0p_m n) [0, 1, 1, 1, 1] 3 15 = true ∧ ordP (z0p_m n) [0, 1, 1, 1, 1] 6 15 = true ∧ ordP (z0p_m n) [0, 1, 1, 1, 1] 7 15 = true ∧ ordP (z0p_m n) [0, 1, 1, 1, 1] 10 15 = true ∧ ordP (z0p_m n) [0, 1, 1, 1, 1] 11 15 = true ∧ ordP (z0p_m n) [0, 1, 1, 1, 1] 12 15 = true ∧ ordP (z0p_m n) [0, 1, 1, 1, 1] 14 15 = true ∧ ordP (z0p_m n) [0, 1, 1, 1, 1, 1] 1 12 = true ∧ ordP (z0p_m n) [0, 1, 1, 1, 1, 1] 3 12 = true ∧ ordP (z0p_m n) [0, 1, 1, 1, 1, 1] 6 12 = true ∧ ordP (z0p_m n) [0, 1, 1, 1, 1, 1] 8 12 = true ∧ ordP (z0p_m n) [0, 1, 1, 1, 1, 1] 9 12 = true ∧ ordP (z0p_m n) [0, 1, 1, 1, 1, 1] 11 12 = true := ⟨by kernel_rfl, by kernel_rfl, by kernel_rfl, by kernel_rfl, by kernel_rfl, by kernel_rfl, by kernel_rfl, by kernel_rfl, by kernel_rfl, by kernel_rfl, by kernel_rfl, by kernel_rfl, by kernel_rfl, by kernel_rfl⟩
noncomputable def z0p_b1 (n : Nat) : { B : ((List Ctor) → Int → Int → Str → Int → (List Term) → (List Term) → Int → Int → Str → (List Level) → (List Term) → Zs1 → (List Zs4) → Option (Family × Int)) → (List Ctor) → Int → Int → Str → Int → (List Term) → (List Term) → Int → Int → Str → (List Level) → (List Term) → Zs1 → (List Zs4) → Option (Family × Int) // ∀ m X0, (∀ (v0 : List Ctor) (v1 : Int) (v2 : Int) (v3 : Str) (v4 : Int) (v5 : List Term) (v6 : List Term) (v7 : Int) (v8 : Int) (v9 : Str) (v10 : List Level) (v11 : List Term) (o4 : Zs1) (r5 : List Zs4) (c5 : Nat), c5 = r5.length → run (z0p_m n) [.lq m [0, 1, 0, 1, 1, 1, 1, 1, 1], .blk 0, .cut [1, 1, 1, 1, 1, 1, 1], .at [1, 1, 1, 1, 1, 1, 1]] ⟨[.any, .any, .ptr 1 0, .any, .any, .any, .ptr 3 0, .ptr 4 0, .any, .any, .any, .any, .any, .any, .any, .any, .any, .any, .any, .any, .any, .any, .any, .any, .any, .any, .any, .any, .any, .any, .any, .any, .any, .any, .any, .any, .any, .any, .any, .any, .any, .any, .any, .any, .any, .any, .any, .any, .any, .any, .any, .any, .any, .any, .any, .any, .any, .any, .any, .any, .any, .any, .any, .any, .any, .any, .any, .any, .any, .lst false 6 (mp Ctor.cells v0), .int .i64 v1, .int .i64 v2, .any, .any, .any, .any, .any, .any, .any, .any, .any, .any, .any, .any, .any, .any, .any, .any, .any, .any, .any, .any], [.dead, .cells [.str (sb []), .int .i64 0, .lst true 0 [], .lst true 0 [], .int .i64 0, .int .i64 0, .str (sb []), .lst true 0 [], .lst true 0 [], .lst true 0 []], .dead, .cells [.str (sb v3), .int .i64 v4, .lst false 5 (mp Term.cells v5), .lst false 5 (mp Term.cells v6), .int .i64 v7, .int .i64 v8, .str (sb v9), .lst false 2 (mp Level.cells v10), .lst false 5 (mp Term.cells v11), .acc 5 c5], .cells (Zs1.cells o4), .acc true 4 (mp Zs4.cells r5)], 0⟩ = X0 v0 v1 v2 v3 v4 v5 v6 v7 v8 v9 v10 v11 o4 r5) → ∀ (v0 : List Ctor) (v1 : Int) (v2 : Int) (v3 : Str) (v4 : Int) (v5 : List Term) (v6 : List Term) (v7 : Int) (v8 : Int) (v9 : Str) (v10 : List Level) (v11 : List Term) (o4 : Zs1) (r5 : List Zs4), run (z0p_m n) [.at [0, 0, 1, 0, 1, 1, 1, 1, 1, 1], .lp m [0, 1, 0, 1, 1, 1, 1, 1, 1], .blk 0, .cut [1, 1, 1, 1, 1, 1, 1], .at [1, 1, 1, 1, 1, 1, 1]] ⟨[.any, .any, .ptr 1 0, .any, .any, .any, .ptr 3 0, .ptr 4 0, .any, .any, .any, .any, .any, .any, .any, .any, .any, .any, .any, .any, .any, .any, .any, .any, .any, .any, .any, .any, .any, .any, .any, .any, .any, .any, .any, .any, .any, .any, .any, .any, .any, .any, .any, .any, .any, .any, .any, .any, .any, .any, .any, .any, .any, .any, .any, .any, .any, .any, .any, .any, .any, .any, .any, .any, .any, .any, .any, .any, .any, .lst false 6 (mp Ctor.cells v0), .int .i64 v1, .int .i64 v2, .any, .any, .any, .any, .any, .any, .any, .any, .any, .any, .any, .any, .any, .any, .any, .any, .any, .any, .any, .any], [.dead, .cells [.str (sb []), .int .i64 0, .lst true 0 [], .lst true 0 [], .int .i64 0, .int .i64 0, .str (sb []), .lst true 0 [], .lst true 0 [], .lst true 0 []], .dead, .cells [.str (sb v3), .int .i64 v4, .lst false 5 (mp Term.cells v5), .lst false 5 (mp Term.cells v6), .int .i64 v7, .int .i64 v8, .str (sb v9), .lst false 2 (mp Level.cells v10), .lst false 5 (mp Term.cells v11), .acc 5 r5.length], .cells (Zs1.cells o4), .acc true 4 (mp Zs4.cells r5)], 0⟩ = B X0 v0 v1 v2 v3 v4 v5 v6 v7 v8 v9 v10 v11 o4 r5 } := by
  apply Subtype.mk
  intro m X0 ih v0 v1 v2 v3 v4 v5 v6 v7 v8 v9 v10 v11 o4 r5
  simp (maxSteps := 100000000) only [go_sem, q00, q01, q02, q03, q04, q05, q06, q10, q11, q12, q13, q14, z0p_f, z0p_c, Try.f18, Option.getD_some, mixed, z0p_d, z0p_o, z0p_n1, ih]
  exact rfl
noncomputable def z0p_l1 (n : Nat) : Nat → (List Ctor) → Int → Int → Str → Int → (List Term) → (List Term) → Int → Int → Str → (List Level) → (List Term) → Zs1 → (List Zs4) → Option (Family × Int)
  | 0, _, _, _, _, _, _, _, _, _, _, _, _, _, _ => none
  | m + 1, v0, v1, v2, v3, v4, v5, v6, v7, v8, v9, v10, v11, o4, r5 => (z0p_b1 n).1 (z0p_l1 n m) v0 v1 v2 v3 v4 v5 v6 v7 v8 v9 v10 v11 o4 r5
theorem z0p_l1_eq (n : Nat) : ∀ (m : Nat), (∀ (v0 : List Ctor) (v1 : Int) (v2 : Int) (v3 : Str) (v4 : Int) (v5 : List Term) (v6 : List Term) (v7 : Int) (v8 : Int) (v9 : Str) (v10 : List Level) (v11 : List Term) (o4 : Zs1) (r5 : List Zs4) (c5 : Nat), c5 = r5.length → run (z0p_m n) [.lq m [0, 1, 0, 1, 1, 1, 1, 1, 1], .blk 0, .cut [1, 1, 1, 1, 1, 1, 1], .at [1, 1, 1, 1, 1, 1, 1]] ⟨[.any, .any, .ptr 1 0, .any, .any, .any, .ptr 3 0, .ptr 4 0, .any, .any, .any, .any, .any, .any, .any, .any, .any, .any, .any, .any, .any, .any, .any, .any, .any, .any, .any, .any, .any, .any, .any, .any, .any, .any, .any, .any, .any, .any, .any, .any, .any, .any, .any, .any, .any, .any, .any, .any, .any, .any, .any, .any, .any, .any, .any, .any, .any, .any, .any, .any, .any, .any, .any, .any, .any, .any, .any, .any, .any, .lst false 6 (mp Ctor.cells v0), .int .i64 v1, .int .i64 v2, .any, .any, .any, .any, .any, .any, .any, .any, .any, .any, .any, .any, .any, .any, .any, .any, .any, .any, .any, .any], [.dead, .cells [.str (sb []), .int .i64 0, .lst true 0 [], .lst true 0 [], .int .i64 0, .int .i64 0, .str (sb []), .lst true 0 [], .lst true 0 [], .lst true 0 []], .dead, .cells [.str (sb v3), .int .i64 v4, .lst false 5 (mp Term.cells v5), .lst false 5 (mp Term.cells v6), .int .i64 v7, .int .i64 v8, .str (sb v9), .lst false 2 (mp Level.cells v10), .lst false 5 (mp Term.cells v11), .acc 5 c5], .cells (Zs1.cells o4), .acc true 4 (mp Zs4.cells r5)], 0⟩ = z0p_l1 n m v0 v1 v2 v3 v4 v5 v6 v7 v8 v9 v10 v11 o4 r5)
  | 0 => by intros; exact run_lq_zero
  | m + 1 => by
    have ih := z0p_l1_eq n m
    intro v0 v1 v2 v3 v4 v5 v6 v7 v8 v9 v10 v11 o4 r5 c5 ec5
    subst ec5
    rw [run_lq_succ]
    exact (z0p_b1 n).2  m _  ih v0 v1 v2 v3 v4 v5 v6 v7 v8 v9 v10 v11 o4 r5
noncomputable def z0p_e (n : Nat) : { B : Decl → Option (Family × Int) // ∀ (a0 : Decl), run (z0p_m n) [.at []] { slots := [(tyC Decl.cel).enc a0] ++ List.replicate (92 - [(tyC Decl.cel).enc a0].length) .any, heap := [] } = B a0 } := by
  apply Subtype.mk
  intro a0
  simp (maxSteps := 100000000) only [go_sem, q00, q01, q02, q03, q04, q05, q06, q10, q11, q12, q13, q14, z0p_f, z0p_c, Try.f18, Option.getD_some, mixed, z0p_d, z0p_o, z0p_n1, z0p_l1_eq n]
  exact rfl
noncomputable def z0p : Nat → Decl → Option (Family × Int)
  | 0, _ => none
  | n + 1, a0 => (z0p_e n).1 a0
theorem z0p_ok : ∀ (n : Nat) (a0 : Decl) (r : (Family × Int)), z0p n a0 = some r → FnC Try.prog 18 [(tyC Decl.cel).enc a0] (fun v => v = (ty2 (tyC Family.cel) (tyI .i64)).enc r)
  | 0, _, _, h => by cases h
  | n + 1, a0, r, h => by
    exact fnC_run (M := z0p_m n) ⟨(tabA_cons_ok (ent1_ok (z10_ok n)) (tabA_cons_ok (ent2_ok (z0c_ok n)) tabA_nil_ok)), (tabD_cons_ok (ent2_okD (z0x_ok n)) tabD_nil_ok), tabN_ok _, tabF_ok _, noY_ok, noE_ok⟩ Try.func18 rfl rfl ⟨(tyC Decl.cel).nb 0 _, trivial⟩ Try.ntmps18 Try.results18 (fun σ hs => outR_ok (P := Try.prog) (rs := [.cell 2 36, .tmp 3]) (t := (ty2 (tyC Family.cel) (tyI .i64))) (σ := σ) (r := r) hs) (((z0p_e n).2 a0).trans h)
end Go.Abs
namespace Go.Abs
open Go.Proofs
set_option maxRecDepth 100000
set_option maxHeartbeats 4000000
set_option linter.unusedSimpArgs false
set_option linter.unusedVariables false
noncomputable def z1q_m (n : Nat) : Mach Bool where
  body := (Try.f28.body).getD .skip
  P := Try.prog
  cl := tabA [(67, ent1 (tyL Decl.row) tyB (z20 n)), (68, ent1 (tyL Decl.row) (ty2 (tyI .i64) (tyI .i64)) (z1l n))]
  cd := tabD []
  nrm := tabN []
  cut := tabF []
  n := n
  out := outR Try.prog [.tmp 2] tyB
theorem z1q_f (n : Nat) : (z1q_m n).P = Try.prog ∧ (z1q_m n).cl = tabA [(67, ent1 (tyL Decl.row) tyB (z20 n)), (68, ent1 (tyL Decl.row) (ty2 (tyI .i64) (tyI .i64)) (z1l n))] ∧ (z1q_m n).cd = tabD [] ∧ (z1q_m n).nrm = tabN [] ∧ (z1q_m n).cut = tabF [] ∧ (z1q_m n).n = n ∧ (z1q_m n).out = outR Try.prog [.tmp 2] tyB := ⟨rfl, rfl, rfl, rfl, rfl, rfl, rfl⟩
theorem z1q_c (n : Nat) : (z1q_m n).body = (Try.f28.body).getD .skip := rfl
noncomputable def z1q_e (n : Nat) : { B : (List Decl) → Option Bool // ∀ (a0 : (List Decl)), run (z1q_m n) [.at []] { slots := [(tyL Decl.row).enc a0] ++ List.replicate (15 - [(tyL Decl.row).enc a0].length) .any, heap := [] } = B a0 } := by
  apply Subtype.mk
  intro a0
  simp (maxSteps := 100000000) only [go_sem, q00, q01, q02, q03, q04, q05, q06, q10, q11, q12, q13, q14, z1q_f, z1q_c, Try.f28, Option.getD_some, mixed]
  exact rfl
noncomputable def z1q : Nat → (List Decl) → Option Bool
  | 0, _ => none
  | n + 1, a0 => (z1q_e n).1 a0
theorem z1q_ok : ∀ (n : Nat) (a0 : (List Decl)) (r : Bool), z1q n a0 = some r → FnC Try.prog 28 [(tyL Decl.row).enc a0] (fun v => v = tyB.enc r)
  | 0, _, _, h => by cases h
  | n + 1, a0, r, h => by
    exact fnC_run (M := z1q_m n) ⟨(tabA_cons_ok (ent1_ok (z20_ok n)) (tabA_cons_ok (ent1_ok (z1l_ok n)) tabA_nil_ok)), tabD_nil_ok, tabN_ok _, tabF_ok _, noY_ok, noE_ok⟩ Try.func28 rfl rfl ⟨(tyL Decl.row).nb 0 _, trivial⟩ Try.ntmps28 Try.results28 (fun σ hs => outR_ok (P := Try.prog) (rs := [.tmp 2]) (t := tyB) (σ := σ) (r := r) hs) (((z1q_e n).2 a0).trans h)

noncomputable def z1a_m (n : Nat) : Mach Bool where
  body := (Try.f17.body).getD .skip
  P := Try.prog
  cl := tabA [(18, ent1 (tyC Decl.cel) (ty2 (tyC Family.cel) (tyI .i64)) (z0p n)), (26, ent2 (tyC Term.cel) (tyC Term.cel) tyB (z25 n)), (55, ent1 (tyI .i64) (tyC Decl.cel) (z21 n))]
  cd := tabD []
  nrm := tabN []
  cut := tabF []
  n := n
  out := outR Try.prog [.tmp 0] tyB
theorem z1a_f (n : Nat) : (z1a_m n).P = Try.prog ∧ (z1a_m n).cl = tabA [(18, ent1 (tyC Decl.cel) (ty2 (tyC Family.cel) (tyI .i64)) (z0p n)), (26, ent2 (tyC Term.cel) (tyC Term.cel) tyB (z25 n)), (55, ent1 (tyI .i64) (tyC Decl.cel) (z21 n))] ∧ (z1a_m n).cd = tabD [] ∧ (z1a_m n).nrm = tabN [] ∧ (z1a_m n).cut = tabF [] ∧ (z1a_m n).n = n ∧ (z1a_m n).out = outR Try.prog [.tmp 0] tyB := ⟨rfl, rfl, rfl, rfl, rfl, rfl, rfl⟩
theorem z1a_c (n : Nat) : (z1a_m n).body = (Try.f17.body).getD .skip := rfl
noncomputable def z1a_e (n : Nat) : { B : Option Bool // run (z1a_m n) [.at []] { slots := ([] : List AV) ++ List.replicate (109 - ([] : List AV).length) .any, heap := [] } = B } := by
  apply Subtype.mk
  simp (maxSteps := 100000000) only [go_sem, q00, q01, q02, q03, q04, q05, q06, q10, q11, q12, q13, q14, z1a_f, z1a_c, Try.f17, Option.getD_some, mixed]
  exact rfl
noncomputable def z1a : Nat → Option Bool
  | 0 => none
  | n + 1 => (z1a_e n).1
theorem z1a_ok : ∀ (n : Nat) (r : Bool), z1a n = some r → FnC Try.prog 17 [] (fun v => v = tyB.enc r)
  | 0, _, h => by cases h
  | n + 1, r, h => by
    exact fnC_run (M := z1a_m n) ⟨(tabA_cons_ok (ent1_ok (z0p_ok n)) (tabA_cons_ok (ent2_ok (z25_ok n)) (tabA_cons_ok (ent1_ok (z21_ok n)) tabA_nil_ok))), tabD_nil_ok, tabN_ok _, tabF_ok _, noY_ok, noE_ok⟩ Try.func17 rfl rfl trivial Try.ntmps17 Try.results17 (fun σ hs => outR_ok (P := Try.prog) (rs := [.tmp 0]) (t := tyB) (σ := σ) (r := r) hs) (((z1a_e n).2).trans h)
end Go.Abs
