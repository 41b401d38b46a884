/- A part of the proof: what the functions compute. -/
import Derived.Test.YtgimdhmoloobkaaDataA
set_option linter.all false
open Nat renaming reduceAdd → q00, reduceSub → q01, reduceLeDiff → q02, reduceEqDiff → q03, reduceBEq → q04, reduceMul → q05, reduceLT → q06
open Int renaming reduceLE → q10, reduceLT → q11, reduceToNat → q12, reduceBEq → q13, reduceEq → q14
namespace Go.Abs
open Go.Proofs
set_option maxRecDepth 100000
set_option maxHeartbeats 4000000
set_option linter.unusedSimpArgs false
set_option linter.unusedVariables false
noncomputable def z1v_n1 : Nrm := ⟨[], [], [zA, zK, zA, zK, zK, zA, zA, zA, zA, zA, zA, zA, zA, zA, zA, zA, zA, zA, zA, zA, zA], [oT Term.cel], none⟩
noncomputable def z1v_m (X : Term → Option Int) (n : Nat) : Mach Int where
  body := (Try.f69.body).getD .skip
  P := Try.prog
  cl := tabA [(69, ent1 (tyC Term.cel) (tyI .i64) X)]
  cd := tabD []
  nrm := tabN [([0, 1, 0, 1, 1], z1v_n1)]
  cut := tabF []
  n := n
  out := outR Try.prog [.tmp 2] (tyI .i64)
theorem z1v_f (X : Term → Option Int) (n : Nat) : (z1v_m X n).P = Try.prog ∧ (z1v_m X n).cl = tabA [(69, ent1 (tyC Term.cel) (tyI .i64) X)] ∧ (z1v_m X n).cd = tabD [] ∧ (z1v_m X n).nrm = tabN [([0, 1, 0, 1, 1], z1v_n1)] ∧ (z1v_m X n).cut = tabF [] ∧ (z1v_m X n).n = n ∧ (z1v_m X n).out = outR Try.prog [.tmp 2] (tyI .i64) := ⟨rfl, rfl, rfl, rfl, rfl, rfl, rfl⟩
theorem z1v_c (X : Term → Option Int) (n : Nat) : (z1v_m X n).body = (Try.f69.body).getD .skip := rfl
noncomputable def z1v_b1 (X : Term → Option Int) (n : Nat) : { B : (Int → Int → Term → Option Int) → Int → Int → Term → Option Int // ∀ m X0, (∀ (v0 : Int) (v1 : Int) (o0 : Term), run (z1v_m X n) [.lq m [0, 1, 0, 1, 1], .blk 0, .cut [1, 1, 1], .at [1, 1, 1]] ⟨[.any, .ptr 0 0, .any, .int .i64 v0, .int .i64 v1, .any, .any, .any, .any, .any, .any, .any, .any, .any, .any, .any, .any, .any, .any, .any, .any], [.cells (Term.cells o0)], 0⟩ = X0 v0 v1 o0) → ∀ (v0 : Int) (v1 : Int) (o0 : Term), run (z1v_m X n) [.at [0, 0, 1, 0, 1, 1], .lp m [0, 1, 0, 1, 1], .blk 0, .cut [1, 1, 1], .at [1, 1, 1]] ⟨[.any, .ptr 0 0, .any, .int .i64 v0, .int .i64 v1, .any, .any, .any, .any, .any, .any, .any, .any, .any, .any, .any, .any, .any, .any, .any, .any], [.cells (Term.cells o0)], 0⟩ = B X0 v0 v1 o0 } := by
  apply Subtype.mk
  intro m X0 ih v0 v1 o0
  simp (maxSteps := 100000000) only [go_sem, q00, q01, q02, q03, q04, q05, q06, q10, q11, q12, q13, q14, z1v_f, z1v_c, Try.f69, Option.getD_some, mixed, z1v_n1, ih]
  exact rfl
noncomputable def z1v_l1 (X : Term → Option Int) (n : Nat) : Nat → Int → Int → Term → Option Int
  | 0, _, _, _ => none
  | m + 1, v0, v1, o0 => (z1v_b1 X n).1 (z1v_l1 X n m) v0 v1 o0
theorem z1v_l1_eq (X : Term → Option Int) (n : Nat) : ∀ (m : Nat), (∀ (v0 : Int) (v1 : Int) (o0 : Term), run (z1v_m X n) [.lq m [0, 1, 0, 1, 1], .blk 0, .cut [1, 1, 1], .at [1, 1, 1]] ⟨[.any, .ptr 0 0, .any, .int .i64 v0, .int .i64 v1, .any, .any, .any, .any, .any, .any, .any, .any, .any, .any, .any, .any, .any, .any, .any, .any], [.cells (Term.cells o0)], 0⟩ = z1v_l1 X n m v0 v1 o0)
  | 0 => by intros; exact run_lq_zero
  | m + 1 => by
    have ih := z1v_l1_eq X n m
    intro v0 v1 o0
    rw [run_lq_succ]
    exact (z1v_b1 X n).2  m _  ih v0 v1 o0
noncomputable def z1v_e (X : Term → Option Int) (n : Nat) : { B : Term → Option Int // ∀ (a0 : Term), run (z1v_m X n) [.at []] { slots := [(tyC Term.cel).enc a0] ++ List.replicate (21 - [(tyC Term.cel).enc a0].length) .any, heap := [] } = B a0 } := by
  apply Subtype.mk
  intro a0
  simp (maxSteps := 100000000) only [go_sem, q00, q01, q02, q03, q04, q05, q06, q10, q11, q12, q13, q14, z1v_f, z1v_c, Try.f69, Option.getD_some, mixed, z1v_n1, z1v_l1_eq X n]
  exact rfl
noncomputable def z1v : Nat → Term → Option Int
  | 0, _ => none
  | n + 1, a0 => (z1v_e (z1v n) n).1 a0
theorem z1v_ok : ∀ (n : Nat) (a0 : Term) (r : Int), z1v n a0 = some r → FnC Try.prog 69 [(tyC Term.cel).enc a0] (fun v => v = (tyI .i64).enc r)
  | 0, _, _, h => by cases h
  | n + 1, a0, r, h => by
    have ih_ref03_Size := z1v_ok n
    exact fnC_run (M := z1v_m (z1v n) n) ⟨(tabA_cons_ok (ent1_ok (ih_ref03_Size)) tabA_nil_ok), tabD_nil_ok, tabN_ok _, tabF_ok _, noY_ok, noE_ok⟩ Try.func69 rfl rfl ⟨(tyC Term.cel).nb 0 _, trivial⟩ Try.ntmps69 Try.results69 (fun σ hs => outR_ok (P := Try.prog) (rs := [.tmp 2]) (t := (tyI .i64)) (σ := σ) (r := r) hs) (((z1v_e (z1v n) n).2 a0).trans h)

noncomputable def z1i_n1 : Nrm := ⟨[], [], [zA, zK, zA, zK, zK, zA, zA, zA, zA, zA, zA, zA, zA, zA, zA, zA, zA, zA, zA, zA, zA, zA], [oT Term.cel], none⟩
noncomputable def z1i_m (X : Term → Option Int) (n : Nat) : Mach Int where
  body := (Try.f70.body).getD .skip
  P := Try.prog
  cl := tabA [(70, ent1 (tyC Term.cel) (tyI .i64) X)]
  cd := tabD []
  nrm := tabN [([0, 1, 0, 1, 1], z1i_n1)]
  cut := tabF []
  n := n
  out := outR Try.prog [.tmp 2] (tyI .i64)
theorem z1i_f (X : Term → Option Int) (n : Nat) : (z1i_m X n).P = Try.prog ∧ (z1i_m X n).cl = tabA [(70, ent1 (tyC Term.cel) (tyI .i64) X)] ∧ (z1i_m X n).cd = tabD [] ∧ (z1i_m X n).nrm = tabN [([0, 1, 0, 1, 1], z1i_n1)] ∧ (z1i_m X n).cut = tabF [] ∧ (z1i_m X n).n = n ∧ (z1i_m X n).out = outR Try.prog [.tmp 2] (tyI .i64) := ⟨rfl, rfl, rfl, rfl, rfl, rfl, rfl⟩
theorem z1i_c (X : Term → Option Int) (n : Nat) : (z1i_m X n).body = (Try.f70.body).getD .skip := rfl
noncomputable def z1i_b1 (X : Term → Option Int) (n : Nat) : { B : (Int → Int → Term → Option Int) → Int → Int → Term → Option Int // ∀ m X0, (∀ (v0 : Int) (v1 : Int) (o0 : Term), run (z1i_m X n) [.lq m [0, 1, 0, 1, 1], .blk 0, .cut [1, 1, 1], .at [1, 1, 1]] ⟨[.any, .ptr 0 0, .any, .int .i64 v0, .int .i64 v1, .any, .any, .any, .any, .any, .any, .any, .any, .any, .any, .any, .any, .any, .any, .any, .any, .any], [.cells (Term.cells o0)], 0⟩ = X0 v0 v1 o0) → ∀ (v0 : Int) (v1 : Int) (o0 : Term), run (z1i_m X n) [.at [0, 0, 1, 0, 1, 1], .lp m [0, 1, 0, 1, 1], .blk 0, .cut [1, 1, 1], .at [1, 1, 1]] ⟨[.any, .ptr 0 0, .any, .int .i64 v0, .int .i64 v1, .any, .any, .any, .any, .any, .any, .any, .any, .any, .any, .any, .any, .any, .any, .any, .any, .any], [.cells (Term.cells o0)], 0⟩ = B X0 v0 v1 o0 } := by
  apply Subtype.mk
  intro m X0 ih v0 v1 o0
  simp (maxSteps := 100000000) only [go_sem, q00, q01, q02, q03, q04, q05, q06, q10, q11, q12, q13, q14, z1i_f, z1i_c, Try.f70, Option.getD_some, mixed, z1i_n1, ih]
  exact rfl
noncomputable def z1i_l1 (X : Term → Option Int) (n : Nat) : Nat → Int → Int → Term → Option Int
  | 0, _, _, _ => none
  | m + 1, v0, v1, o0 => (z1i_b1 X n).1 (z1i_l1 X n m) v0 v1 o0
theorem z1i_l1_eq (X : Term → Option Int) (n : Nat) : ∀ (m : Nat), (∀ (v0 : Int) (v1 : Int) (o0 : Term), run (z1i_m X n) [.lq m [0, 1, 0, 1, 1], .blk 0, .cut [1, 1, 1], .at [1, 1, 1]] ⟨[.any, .ptr 0 0, .any, .int .i64 v0, .int .i64 v1, .any, .any, .any, .any, .any, .any, .any, .any, .any, .any, .any, .any, .any, .any, .any, .any, .any], [.cells (Term.cells o0)], 0⟩ = z1i_l1 X n m v0 v1 o0)
  | 0 => by intros; exact run_lq_zero
  | m + 1 => by
    have ih := z1i_l1_eq X n m
    intro v0 v1 o0
    rw [run_lq_succ]
    exact (z1i_b1 X n).2  m _  ih v0 v1 o0
noncomputable def z1i_e (X : Term → Option Int) (n : Nat) : { B : Term → Option Int // ∀ (a0 : Term), run (z1i_m X n) [.at []] { slots := [(tyC Term.cel).enc a0] ++ List.replicate (22 - [(tyC Term.cel).enc a0].length) .any, heap := [] } = B a0 } := by
  apply Subtype.mk
  intro a0
  simp (maxSteps := 100000000) only [go_sem, q00, q01, q02, q03, q04, q05, q06, q10, q11, q12, q13, q14, z1i_f, z1i_c, Try.f70, Option.getD_some, mixed, z1i_n1, z1i_l1_eq X n]
  exact rfl
noncomputable def z1i : Nat → Term → Option Int
  | 0, _ => none
  | n + 1, a0 => (z1i_e (z1i n) n).1 a0
theorem z1i_ok : ∀ (n : Nat) (a0 : Term) (r : Int), z1i n a0 = some r → FnC Try.prog 70 [(tyC Term.cel).enc a0] (fun v => v = (tyI .i64).enc r)
  | 0, _, _, h => by cases h
  | n + 1, a0, r, h => by
    have ih_ref03_Depth := z1i_ok n
    exact fnC_run (M := z1i_m (z1i n) n) ⟨(tabA_cons_ok (ent1_ok (ih_ref03_Depth)) tabA_nil_ok), tabD_nil_ok, tabN_ok _, tabF_ok _, noY_ok, noE_ok⟩ Try.func70 rfl rfl ⟨(tyC Term.cel).nb 0 _, trivial⟩ Try.ntmps70 Try.results70 (fun σ hs => outR_ok (P := Try.prog) (rs := [.tmp 2]) (t := (tyI .i64)) (σ := σ) (r := r) hs) (((z1i_e (z1i n) n).2 a0).trans h)

noncomputable def z1r_n1 : Nrm := ⟨[], [], [zA, zA, zK, zK, zA, zK, zA, zA, zA, zA, zA, zA, zA, zA, zA, zA, zA, zA, zA, zA, zA, zA, zA, zA, zA, zA, zA, zA, zA, zA, zA, zA, zA, zA, zA, zA, zA, zA], [oT Level.cel, oT Level.cel], none⟩
noncomputable def z1r_m (n : Nat) : Mach Bool where
  body := (Try.f101.body).getD .skip
  P := Try.prog
  cl := tabA []
  cd := tabD []
  nrm := tabN [([0, 1, 0, 1, 1], z1r_n1)]
  cut := tabF []
  n := n
  out := outR Try.prog [.tmp 4] tyB
  isE := tabI []
theorem z1r_f (n : Nat) : (z1r_m n).P = Try.prog ∧ (z1r_m n).cl = tabA [] ∧ (z1r_m n).cd = tabD [] ∧ (z1r_m n).nrm = tabN [([0, 1, 0, 1, 1], z1r_n1)] ∧ (z1r_m n).cut = tabF [] ∧ (z1r_m n).n = n ∧ (z1r_m n).out = outR Try.prog [.tmp 4] tyB ∧ (z1r_m n).isE = tabI [] := ⟨rfl, rfl, rfl, rfl, rfl, rfl, rfl, rfl⟩
theorem z1r_c (n : Nat) : (z1r_m n).body = (Try.f101.body).getD .skip := rfl
theorem z1r_d (n : Nat) : drawP (z1r_m n) [0, 0, 0, 1, 0, 0, 1, 0, 1, 1] = true := by kernel_rfl
noncomputable def z1r_b1 (n : Nat) : { B : (Int → Level → Level → Option Bool) → Int → Level → Level → Option Bool // ∀ m X0, (∀ (v0 : Int) (o0 : Level) (o1 : Level), run (z1r_m n) [.lq m [0, 1, 0, 1, 1], .blk 0, .cut [1, 1, 1], .at [1, 1, 1]] ⟨[.any, .any, .ptr 0 0, .ptr 1 0, .any, .int .i64 v0, .any, .any, .any, .any, .any, .any, .any, .any, .any, .any, .any, .any, .any, .any, .any, .any, .any, .any, .any, .any, .any, .any, .any, .any, .any, .any, .any, .any, .any, .any, .any, .any], [.cells (Level.cells o0), .cells (Level.cells o1)], 0⟩ = X0 v0 o0 o1) → ∀ (v0 : Int) (o0 : Level) (o1 : Level), run (z1r_m n) [.at [0, 0, 1, 0, 1, 1], .lp m [0, 1, 0, 1, 1], .blk 0, .cut [1, 1, 1], .at [1, 1, 1]] ⟨[.any, .any, .ptr 0 0, .ptr 1 0, .any, .int .i64 v0, .any, .any, .any, .any, .any, .any, .any, .any, .any, .any, .any, .any, .any, .any, .any, .any, .any, .any, .any, .any, .any, .any, .any, .any, .any, .any, .any, .any, .any, .any, .any, .any], [.cells (Level.cells o0), .cells (Level.cells o1)], 0⟩ = B X0 v0 o0 o1 } := by
  apply Subtype.mk
  intro m X0 ih v0 o0 o1
  simp (maxSteps := 100000000) only [go_sem, q00, q01, q02, q03, q04, q05, q06, q10, q11, q12, q13, q14, z1r_f, z1r_c, Try.f101, Option.getD_some, mixed, z1r_d, z1r_n1, ih]
  exact rfl
noncomputable def z1r_l1 (n : Nat) : Nat → Int → Level → Level → Option Bool
  | 0, _, _, _ => none
  | m + 1, v0, o0, o1 => (z1r_b1 n).1 (z1r_l1 n m) v0 o0 o1
theorem z1r_l1_eq (n : Nat) : ∀ (m : Nat), (∀ (v0 : Int) (o0 : Level) (o1 : Level), run (z1r_m n) [.lq m [0, 1, 0, 1, 1], .blk 0, .cut [1, 1, 1], .at [1, 1, 1]] ⟨[.any, .any, .ptr 0 0, .ptr 1 0, .any, .int .i64 v0, .any, .any, .any, .any, .any, .any, .any, .any, .any, .any, .any, .any, .any, .any, .any, .any, .any, .any, .any, .any, .any, .any, .any, .any, .any, .any, .any, .any, .any, .any, .any, .any], [.cells (Level.cells o0), .cells (Level.cells o1)], 0⟩ = z1r_l1 n m v0 o0 o1)
  | 0 => by intros; exact run_lq_zero
  | m + 1 => by
    have ih := z1r_l1_eq n m
    intro v0 o0 o1
    rw [run_lq_succ]
    exact (z1r_b1 n).2  m _  ih v0 o0 o1
noncomputable def z1r_e (n : Nat) : { B : Level → Level → Option Bool // ∀ (a0 : Level) (a1 : Level), run (z1r_m n) [.at []] { slots := [(tyC Level.cel).enc a0, (tyC Level.cel).enc a1] ++ List.replicate (38 - [(tyC Level.cel).enc a0, (tyC Level.cel).enc a1].length) .any, heap := [] } = B a0 a1 } := by
  apply Subtype.mk
  intro a0 a1
  simp (maxSteps := 100000000) only [go_sem, q00, q01, q02, q03, q04, q05, q06, q10, q11, q12, q13, q14, z1r_f, z1r_c, Try.f101, Option.getD_some, mixed, z1r_d, z1r_n1, z1r_l1_eq n]
  exact rfl
noncomputable def z1r : Nat → Level → Level → Option Bool
  | 0, _, _ => none
  | n + 1, a0, a1 => (z1r_e n).1 a0 a1
theorem z1r_ok : ∀ (n : Nat) (a0 : Level) (a1 : Level) (r : Bool), z1r n a0 a1 = some r → FnC Try.prog 101 [(tyC Level.cel).enc a0, (tyC Level.cel).enc a1] (fun v => v = tyB.enc r)
  | 0, _, _, _, h => by cases h
  | n + 1, a0, a1, r, h => by
    exact fnC_run (M := z1r_m n) ⟨tabA_nil_ok, tabD_nil_ok, tabN_ok _, tabF_ok _, noY_ok, noE_ok⟩ Try.func101 rfl rfl ⟨(tyC Level.cel).nb 0 _, (tyC Level.cel).nb 0 _, trivial⟩ Try.ntmps101 Try.results101 (fun σ hs => outR_ok (P := Try.prog) (rs := [.tmp 4]) (t := tyB) (σ := σ) (r := r) hs) (((z1r_e n).2 a0 a1).trans h)

noncomputable def z0z_n1 : Nrm := ⟨[], [], [zA, zK, zA, zK, zA, zA, zA, zA, zA, zA, zA, zA, zA, zA, zA, zA, zA, zA, zA, zA], [oT Term.cel], none⟩
noncomputable def z0z_m (n : Nat) : Mach Int where
  body := (Try.f135.body).getD .skip
  P := Try.prog
  cl := tabA []
  cd := tabD []
  nrm := tabN [([0, 0, 1, 1], z0z_n1)]
  cut := tabF []
  n := n
  out := outR Try.prog [.tmp 2] (tyI .i64)
theorem z0z_f (n : Nat) : (z0z_m n).P = Try.prog ∧ (z0z_m n).cl = tabA [] ∧ (z0z_m n).cd = tabD [] ∧ (z0z_m n).nrm = tabN [([0, 0, 1, 1], z0z_n1)] ∧ (z0z_m n).cut = tabF [] ∧ (z0z_m n).n = n ∧ (z0z_m n).out = outR Try.prog [.tmp 2] (tyI .i64) := ⟨rfl, rfl, rfl, rfl, rfl, rfl, rfl⟩
theorem z0z_c (n : Nat) : (z0z_m n).body = (Try.f135.body).getD .skip := rfl
noncomputable def z0z_b1 (n : Nat) : { B : (Int → Term → Option Int) → Int → Term → Option Int // ∀ m X0, (∀ (v0 : Int) (o0 : Term), run (z0z_m n) [.lq m [0, 0, 1, 1], .blk 0, .cut [1, 1, 1], .at [1, 1, 1]] ⟨[.any, .ptr 0 0, .any, .int .i64 v0, .any, .any, .any, .any, .any, .any, .any, .any, .any, .any, .any, .any, .any, .any, .any, .any], [.cells (Term.cells o0)], 0⟩ = X0 v0 o0) → ∀ (v0 : Int) (o0 : Term), run (z0z_m n) [.at [0, 0, 0, 1, 1], .lp m [0, 0, 1, 1], .blk 0, .cut [1, 1, 1], .at [1, 1, 1]] ⟨[.any, .ptr 0 0, .any, .int .i64 v0, .any, .any, .any, .any, .any, .any, .any, .any, .any, .any, .any, .any, .any, .any, .any, .any], [.cells (Term.cells o0)], 0⟩ = B X0 v0 o0 } := by
  apply Subtype.mk
  intro m X0 ih v0 o0
  simp (maxSteps := 100000000) only [go_sem, q00, q01, q02, q03, q04, q05, q06, q10, q11, q12, q13, q14, z0z_f, z0z_c, Try.f135, Option.getD_some, mixed, z0z_n1, ih]
  exact rfl
noncomputable def z0z_l1 (n : Nat) : Nat → Int → Term → Option Int
  | 0, _, _ => none
  | m + 1, v0, o0 => (z0z_b1 n).1 (z0z_l1 n m) v0 o0
theorem z0z_l1_eq (n : Nat) : ∀ (m : Nat), (∀ (v0 : Int) (o0 : Term), run (z0z_m n) [.lq m [0, 0, 1, 1], .blk 0, .cut [1, 1, 1], .at [1, 1, 1]] ⟨[.any, .ptr 0 0, .any, .int .i64 v0, .any, .any, .any, .any, .any, .any, .any, .any, .any, .any, .any, .any, .any, .any, .any, .any], [.cells (Term.cells o0)], 0⟩ = z0z_l1 n m v0 o0)
  | 0 => by intros; exact run_lq_zero
  | m + 1 => by
    have ih := z0z_l1_eq n m
    intro v0 o0
    rw [run_lq_succ]
    exact (z0z_b1 n).2  m _  ih v0 o0
noncomputable def z0z_e (n : Nat) : { B : Term → Option Int // ∀ (a0 : Term), run (z0z_m n) [.at []] { slots := [(tyC Term.cel).enc a0] ++ List.replicate (20 - [(tyC Term.cel).enc a0].length) .any, heap := [] } = B a0 } := by
  apply Subtype.mk
  intro a0
  simp (maxSteps := 100000000) only [go_sem, q00, q01, q02, q03, q04, q05, q06, q10, q11, q12, q13, q14, z0z_f, z0z_c, Try.f135, Option.getD_some, mixed, z0z_n1, z0z_l1_eq n]
  exact rfl
noncomputable def z0z : Nat → Term → Option Int
  | 0, _ => none
  | n + 1, a0 => (z0z_e n).1 a0
theorem z0z_ok : ∀ (n : Nat) (a0 : Term) (r : Int), z0z n a0 = some r → FnC Try.prog 135 [(tyC Term.cel).enc a0] (fun v => v = (tyI .i64).enc r)
  | 0, _, _, h => by cases h
  | n + 1, a0, r, h => by
    exact fnC_run (M := z0z_m n) ⟨tabA_nil_ok, tabD_nil_ok, tabN_ok _, tabF_ok _, noY_ok, noE_ok⟩ Try.func135 rfl rfl ⟨(tyC Term.cel).nb 0 _, trivial⟩ Try.ntmps135 Try.results135 (fun σ hs => outR_ok (P := Try.prog) (rs := [.tmp 2]) (t := (tyI .i64)) (σ := σ) (r := r) hs) (((z0z_e n).2 a0).trans h)

noncomputable def z1m_n1 : Nrm := ⟨[], [], [zA, zK, zA, zK, zK, zA, zA, zA, zA, zA, zA, zA, zA, zA, zA, zA, zA, zA, zA, zA, zA, zA, zA, zA, zA, zA, zA, zA, zA, zA, zA, zA, zA, zA, zA, zA, zA, zA, zA, zA, zA, zA, zA, zA, zA, zA, zA, zA, zA, zA, zA, zA, zA, zA, zA, zA, zA, zA, zA, zA, zA, zA], [oT Decl.cel, oA rowS], none⟩
noncomputable def z1m_n1p : Nrm := ⟨[], [], [zA, zK, zA, zL rowS, zK, zA, zA, zA, zA, zA, zA, zA, zA, zA, zA, zA, zA, zA, zA, zA, zA, zA, zA, zA, zA, zA, zA, zA, zA, zA, zA, zA, zA, zA, zA, zA, zA, zA, zA, zA, zA, zA, zA, zA, zA, zA, zA, zA, zA, zA, zA, zA, zA, zA, zA, zA, zA, zA, zA, zA, zA, zA], [oT Decl.cel], (some 3)⟩
noncomputable def z1m_n2 : Nrm := ⟨[(5, 1, true)], [], [zA, zK, zA, zA, zA, zK, zK, zA, zA, zA, zA, zA, zA, zA, zA, zA, zA, zA, zA, zA, zA, zA, zA, zA, zA, zA, zA, zA, zA, zA, zA, zA, zA, zA, zA, zA, zA, zA, zA, zA, zA, zA, zA, zA, zA, zA, zA, zA, zA, zA, zA, zA, zA, zA, zA, zA, zA, zA, zA, zA, zA, zA], [oT Decl.cel, oA rowS], none⟩
noncomputable def z1m_m (n : Nat) : Mach (List Str) where
  body := (Try.f126.body).getD .skip
  P := Try.prog
  cl := tabA []
  cd := tabD []
  nrm := tabN [([0, 1, 0, 1, 0, 1, 1, 1, 0, 1, 0, 1], z1m_n1p), ([0, 1, 0, 1, 0, 1, 1, 1, 0, 1, 0, 1], z1m_n1), ([0, 1, 0, 1, 0, 1, 1, 1, 1, 1, 0, 1, 0, 1], z1m_n2)]
  cut := tabF []
  n := n
  out := outR Try.prog [.tmp 2] (tyL rowS)
theorem z1m_f (n : Nat) : (z1m_m n).P = Try.prog ∧ (z1m_m n).cl = tabA [] ∧ (z1m_m n).cd = tabD [] ∧ (z1m_m n).nrm = tabN [([0, 1, 0, 1, 0, 1, 1, 1, 0, 1, 0, 1], z1m_n1p), ([0, 1, 0, 1, 0, 1, 1, 1, 0, 1, 0, 1], z1m_n1), ([0, 1, 0, 1, 0, 1, 1, 1, 1, 1, 0, 1, 0, 1], z1m_n2)] ∧ (z1m_m n).cut = tabF [] ∧ (z1m_m n).n = n ∧ (z1m_m n).out = outR Try.prog [.tmp 2] (tyL rowS) := ⟨rfl, rfl, rfl, rfl, rfl, rfl, rfl⟩
theorem z1m_c (n : Nat) : (z1m_m n).body = (Try.f126.body).getD .skip := rfl
noncomputable def z1m_b1 (n : Nat) : { B : (Int → Decl → (List Str) → Option (List Str)) → Int → Decl → (List Str) → Option (List Str) // ∀ m X0, (∀ (v0 : Int) (o0 : Decl) (r1 : List Str) (c1 : Nat), c1 = r1.length → run (z1m_m n) [.lq m [0, 1, 0, 1, 0, 1, 1, 1, 0, 1, 0, 1], .blk 1, .cut [1, 1, 0, 1, 1, 1, 0, 1, 0, 1], .at [1, 1, 0, 1, 1, 1, 0, 1, 0, 1], .blk 0, .cut [1, 1], .at [1, 1]] ⟨[.any, .ptr 0 0, .any, .acc 1 c1, .int .i64 v0, .any, .any, .any, .any, .any, .any, .any, .any, .any, .any, .any, .any, .any, .any, .any, .any, .any, .any, .any, .any, .any, .any, .any, .any, .any, .any, .any, .any, .any, .any, .any, .any, .any, .any, .any, .any, .any, .any, .any, .any, .any, .any, .any, .any, .any, .any, .any, .any, .any, .any, .any, .any, .any, .any, .any, .any, .any], [.cells (Decl.cells o0), .acc true 1 (mp scell r1)], 0⟩ = X0 v0 o0 r1) → ∀ (v0 : Int) (o0 : Decl) (r1 : List Str), run (z1m_m n) [.at [0, 0, 1, 0, 1, 0, 1, 1, 1, 0, 1, 0, 1], .lp m [0, 1, 0, 1, 0, 1, 1, 1, 0, 1, 0, 1], .blk 1, .cut [1, 1, 0, 1, 1, 1, 0, 1, 0, 1], .at [1, 1, 0, 1, 1, 1, 0, 1, 0, 1], .blk 0, .cut [1, 1], .at [1, 1]] ⟨[.any, .ptr 0 0, .any, .acc 1 r1.length, .int .i64 v0, .any, .any, .any, .any, .any, .any, .any, .any, .any, .any, .any, .any, .any, .any, .any, .any, .any, .any, .any, .any, .any, .any, .any, .any, .any, .any, .any, .any, .any, .any, .any, .any, .any, .any, .any, .any, .any, .any, .any, .any, .any, .any, .any, .any, .any, .any, .any, .any, .any, .any, .any, .any, .any, .any, .any, .any, .any], [.cells (Decl.cells o0), .acc true 1 (mp scell r1)], 0⟩ = B X0 v0 o0 r1 } := by
  apply Subtype.mk
  intro m X0 ih v0 o0 r1
  simp (maxSteps := 100000000) only [go_sem, q00, q01, q02, q03, q04, q05, q06, q10, q11, q12, q13, q14, z1m_f, z1m_c, Try.f126, Option.getD_some, mixed, z1m_n1, z1m_n1p, z1m_n2, ih]
  exact rfl
noncomputable def z1m_l1 (n : Nat) : Nat → Int → Decl → (List Str) → Option (List Str)
  | 0, _, _, _ => none
  | m + 1, v0, o0, r1 => (z1m_b1 n).1 (z1m_l1 n m) v0 o0 r1
theorem z1m_l1_eq (n : Nat) : ∀ (m : Nat), (∀ (v0 : Int) (o0 : Decl) (r1 : List Str) (c1 : Nat), c1 = r1.length → run (z1m_m n) [.lq m [0, 1, 0, 1, 0, 1, 1, 1, 0, 1, 0, 1], .blk 1, .cut [1, 1, 0, 1, 1, 1, 0, 1, 0, 1], .at [1, 1, 0, 1, 1, 1, 0, 1, 0, 1], .blk 0, .cut [1, 1], .at [1, 1]] ⟨[.any, .ptr 0 0, .any, .acc 1 c1, .int .i64 v0, .any, .any, .any, .any, .any, .any, .any, .any, .any, .any, .any, .any, .any, .any, .any, .any, .any, .any, .any, .any, .any, .any, .any, .any, .any, .any, .any, .any, .any, .any, .any, .any, .any, .any, .any, .any, .any, .any, .any, .any, .any, .any, .any, .any, .any, .any, .any, .any, .any, .any, .any, .any, .any, .any, .any, .any, .any], [.cells (Decl.cells o0), .acc true 1 (mp scell r1)], 0⟩ = z1m_l1 n m v0 o0 r1)
  | 0 => by intros; exact run_lq_zero
  | m + 1 => by
    have ih := z1m_l1_eq n m
    intro v0 o0 r1 c1 ec1
    subst ec1
    rw [run_lq_succ]
    exact (z1m_b1 n).2  m _  ih v0 o0 r1
noncomputable def z1m_b1p (n : Nat) : { B : Nat → (List Str) → Int → Decl → Option (List Str) // ∀ (m : Nat) (v0 : List Str) (v1 : Int) (o0 : Decl), run (z1m_m n) [.at [0, 0, 1, 0, 1, 0, 1, 1, 1, 0, 1, 0, 1], .lp m [0, 1, 0, 1, 0, 1, 1, 1, 0, 1, 0, 1], .blk 1, .cut [1, 1, 0, 1, 1, 1, 0, 1, 0, 1], .at [1, 1, 0, 1, 1, 1, 0, 1, 0, 1], .blk 0, .cut [1, 1], .at [1, 1]] ⟨[.any, .ptr 0 0, .any, .lst true 1 (mp scell v0), .int .i64 v1, .any, .any, .any, .any, .any, .any, .any, .any, .any, .any, .any, .any, .any, .any, .any, .any, .any, .any, .any, .any, .any, .any, .any, .any, .any, .any, .any, .any, .any, .any, .any, .any, .any, .any, .any, .any, .any, .any, .any, .any, .any, .any, .any, .any, .any, .any, .any, .any, .any, .any, .any, .any, .any, .any, .any, .any, .any], [.cells (Decl.cells o0)], 0⟩ = B m v0 v1 o0 } := by
  apply Subtype.mk
  intro m v0 v1 o0
  simp (maxSteps := 100000000) only [go_sem, q00, q01, q02, q03, q04, q05, q06, q10, q11, q12, q13, q14, z1m_f, z1m_c, Try.f126, Option.getD_some, mixed, z1m_n1, z1m_n1p, z1m_n2, z1m_l1_eq n]
  exact rfl
noncomputable def z1m_p1 (n : Nat) : Nat → (List Str) → Int → Decl → Option (List Str)
  | 0, _, _, _ => none
  | m + 1, v0, v1, o0 => (z1m_b1p n).1 m v0 v1 o0
theorem z1m_p1_eq (n : Nat) : ∀ (m : Nat), (∀ (v0 : List Str) (v1 : Int) (o0 : Decl), run (z1m_m n) [.lq m [0, 1, 0, 1, 0, 1, 1, 1, 0, 1, 0, 1], .blk 1, .cut [1, 1, 0, 1, 1, 1, 0, 1, 0, 1], .at [1, 1, 0, 1, 1, 1, 0, 1, 0, 1], .blk 0, .cut [1, 1], .at [1, 1]] ⟨[.any, .ptr 0 0, .any, .lst true 1 (mp scell v0), .int .i64 v1, .any, .any, .any, .any, .any, .any, .any, .any, .any, .any, .any, .any, .any, .any, .any, .any, .any, .any, .any, .any, .any, .any, .any, .any, .any, .any, .any, .any, .any, .any, .any, .any, .any, .any, .any, .any, .any, .any, .any, .any, .any, .any, .any, .any, .any, .any, .any, .any, .any, .any, .any, .any, .any, .any, .any, .any, .any], [.cells (Decl.cells o0)], 0⟩ = z1m_p1 n m v0 v1 o0)
  | 0 => by intros; exact run_lq_zero
  | m + 1 => by
    intro v0 v1 o0
    rw [run_lq_succ]
    exact (z1m_b1p n).2 m v0 v1 o0
noncomputable def z1m_b2 (n : Nat) : { B : (Int → Decl → (List Str) → Option (List Str)) → Int → Decl → (List Str) → Option (List Str) // ∀ m X0, (∀ (v0 : Int) (o0 : Decl) (r1 : List Str) (c1 : Nat), c1 = r1.length → run (z1m_m n) [.lq m [0, 1, 0, 1, 0, 1, 1, 1, 1, 1, 0, 1, 0, 1], .blk 3, .cut [1, 1, 0, 1, 1, 1, 1, 1, 0, 1, 0, 1], .at [1, 1, 0, 1, 1, 1, 1, 1, 0, 1, 0, 1], .blk 0, .cut [1, 1], .at [1, 1]] ⟨[.any, .ptr 0 0, .any, .any, .any, .acc 1 c1, .int .i64 v0, .any, .any, .any, .any, .any, .any, .any, .any, .any, .any, .any, .any, .any, .any, .any, .any, .any, .any, .any, .any, .any, .any, .any, .any, .any, .any, .any, .any, .any, .any, .any, .any, .any, .any, .any, .any, .any, .any, .any, .any, .any, .any, .any, .any, .any, .any, .any, .any, .any, .any, .any, .any, .any, .any, .any], [.cells (Decl.cells o0), .acc true 1 (mp scell r1)], 0⟩ = X0 v0 o0 r1) → ∀ (v0 : Int) (o0 : Decl) (r1 : List Str), run (z1m_m n) [.at [0, 0, 1, 0, 1, 0, 1, 1, 1, 1, 1, 0, 1, 0, 1], .lp m [0, 1, 0, 1, 0, 1, 1, 1, 1, 1, 0, 1, 0, 1], .blk 3, .cut [1, 1, 0, 1, 1, 1, 1, 1, 0, 1, 0, 1], .at [1, 1, 0, 1, 1, 1, 1, 1, 0, 1, 0, 1], .blk 0, .cut [1, 1], .at [1, 1]] ⟨[.any, .ptr 0 0, .any, .any, .any, .acc 1 r1.length, .int .i64 v0, .any, .any, .any, .any, .any, .any, .any, .any, .any, .any, .any, .any, .any, .any, .any, .any, .any, .any, .any, .any, .any, .any, .any, .any, .any, .any, .any, .any, .any, .any, .any, .any, .any, .any, .any, .any, .any, .any, .any, .any, .any, .any, .any, .any, .any, .any, .any, .any, .any, .any, .any, .any, .any, .any, .any], [.cells (Decl.cells o0), .acc true 1 (mp scell r1)], 0⟩ = B X0 v0 o0 r1 } := by
  apply Subtype.mk
  intro m X0 ih v0 o0 r1
  simp (maxSteps := 100000000) only [go_sem, q00, q01, q02, q03, q04, q05, q06, q10, q11, q12, q13, q14, z1m_f, z1m_c, Try.f126, Option.getD_some, mixed, z1m_n1, z1m_n1p, z1m_n2, z1m_l1_eq n, z1m_p1_eq n, ih]
  exact rfl
noncomputable def z1m_l2 (n : Nat) : Nat → Int → Decl → (List Str) → Option (List Str)
  | 0, _, _, _ => none
  | m + 1, v0, o0, r1 => (z1m_b2 n).1 (z1m_l2 n m) v0 o0 r1
theorem z1m_l2_eq (n : Nat) : ∀ (m : Nat), (∀ (v0 : Int) (o0 : Decl) (r1 : List Str) (c1 : Nat), c1 = r1.length → run (z1m_m n) [.lq m [0, 1, 0, 1, 0, 1, 1, 1, 1, 1, 0, 1, 0, 1], .blk 3, .cut [1, 1, 0, 1, 1, 1, 1, 1, 0, 1, 0, 1], .at [1, 1, 0, 1, 1, 1, 1, 1, 0, 1, 0, 1], .blk 0, .cut [1, 1], .at [1, 1]] ⟨[.any, .ptr 0 0, .any, .any, .any, .acc 1 c1, .int .i64 v0, .any, .any, .any, .any, .any, .any, .any, .any, .any, .any, .any, .any, .any, .any, .any, .any, .any, .any, .any, .any, .any, .any, .any, .any, .any, .any, .any, .any, .any, .any, .any, .any, .any, .any, .any, .any, .any, .any, .any, .any, .any, .any, .any, .any, .any, .any, .any, .any, .any, .any, .any, .any, .any, .any, .any], [.cells (Decl.cells o0), .acc true 1 (mp scell r1)], 0⟩ = z1m_l2 n m v0 o0 r1)
  | 0 => by intros; exact run_lq_zero
  | m + 1 => by
    have ih := z1m_l2_eq n m
    intro v0 o0 r1 c1 ec1
    subst ec1
    rw [run_lq_succ]
    exact (z1m_b2 n).2  m _  ih v0 o0 r1
noncomputable def z1m_e (n : Nat) : { B : Decl → Option (List Str) // ∀ (a0 : Decl), run (z1m_m n) [.at []] { slots := [(tyC Decl.cel).enc a0] ++ List.replicate (62 - [(tyC Decl.cel).enc a0].length) .any, heap := [] } = B a0 } := by
  apply Subtype.mk
  intro a0
  simp (maxSteps := 100000000) only [go_sem, q00, q01, q02, q03, q04, q05, q06, q10, q11, q12, q13, q14, z1m_f, z1m_c, Try.f126, Option.getD_some, mixed, z1m_n1, z1m_n1p, z1m_n2, z1m_l1_eq n, z1m_p1_eq n, z1m_l2_eq n]
  exact rfl
noncomputable def z1m : Nat → Decl → Option (List Str)
  | 0, _ => none
  | n + 1, a0 => (z1m_e n).1 a0
theorem z1m_ok : ∀ (n : Nat) (a0 : Decl) (r : (List Str)), z1m n a0 = some r → FnC Try.prog 126 [(tyC Decl.cel).enc a0] (fun v => v = (tyL rowS).enc r)
  | 0, _, _, h => by cases h
  | n + 1, a0, r, h => by
    exact fnC_run (M := z1m_m n) ⟨tabA_nil_ok, tabD_nil_ok, tabN_ok _, tabF_ok _, noY_ok, noE_ok⟩ Try.func126 rfl rfl ⟨(tyC Decl.cel).nb 0 _, trivial⟩ Try.ntmps126 Try.results126 (fun σ hs => outR_ok (P := Try.prog) (rs := [.tmp 2]) (t := (tyL rowS)) (σ := σ) (r := r) hs) (((z1m_e n).2 a0).trans h)

noncomputable def z12_m (n : Nat) : Mach Bool where
  body := (Try.f92.body).getD .skip
  P := Try.prog
  cl := tabA []
  cd := tabD []
  nrm := tabN []
  cut := tabF []
  n := n
  out := outR Try.prog [.tmp 2] tyB
theorem z12_f (n : Nat) : (z12_m n).P = Try.prog ∧ (z12_m n).cl = tabA [] ∧ (z12_m n).cd = tabD [] ∧ (z12_m n).nrm = tabN [] ∧ (z12_m n).cut = tabF [] ∧ (z12_m n).n = n ∧ (z12_m n).out = outR Try.prog [.tmp 2] tyB := ⟨rfl, rfl, rfl, rfl, rfl, rfl, rfl⟩
theorem z12_c (n : Nat) : (z12_m n).body = (Try.f92.body).getD .skip := rfl
noncomputable def z12_e (n : Nat) : { B : Int → Option Bool // ∀ (a0 : Int), run (z12_m n) [.at []] { slots := [(tyI .u8).enc a0] ++ List.replicate (21 - [(tyI .u8).enc a0].length) .any, heap := [] } = B a0 } := by
  apply Subtype.mk
  intro a0
  simp (maxSteps := 100000000) only [go_sem, q00, q01, q02, q03, q04, q05, q06, q10, q11, q12, q13, q14, z12_f, z12_c, Try.f92, Option.getD_some, mixed]
  exact rfl
noncomputable def z12 : Nat → Int → Option Bool
  | 0, _ => none
  | n + 1, a0 => (z12_e n).1 a0
theorem z12_ok : ∀ (n : Nat) (a0 : Int) (r : Bool), z12 n a0 = some r → FnC Try.prog 92 [(tyI .u8).enc a0] (fun v => v = tyB.enc r)
  | 0, _, _, h => by cases h
  | n + 1, a0, r, h => by
    exact fnC_run (M := z12_m n) ⟨tabA_nil_ok, tabD_nil_ok, tabN_ok _, tabF_ok _, noY_ok, noE_ok⟩ Try.func92 rfl rfl ⟨(tyI .u8).nb 0 _, trivial⟩ Try.ntmps92 Try.results92 (fun σ hs => outR_ok (P := Try.prog) (rs := [.tmp 2]) (t := tyB) (σ := σ) (r := r) hs) (((z12_e n).2 a0).trans h)
end Go.Abs
namespace Go.Abs
open Go.Proofs
set_option maxRecDepth 100000
set_option maxHeartbeats 4000000
set_option linter.unusedSimpArgs false
set_option linter.unusedVariables false
noncomputable def z24_n1 : Nrm := ⟨[], [], [zT (tyL rowS), zK, zA, zA, zA, zK, zA, zA, zA, zA, zA, zA, zA, zA, zA, zA, zA, zA], [], none⟩
noncomputable def z24_m (n : Nat) : Mach Bool where
  body := (Try.f43.body).getD .skip
  P := Try.prog
  cl := tabA []
  cd := tabD []
  nrm := tabN [([0, 1, 0, 1], z24_n1)]
  cut := tabF []
  n := n
  out := outR Try.prog [.tmp 4] tyB
theorem z24_f (n : Nat) : (z24_m n).P = Try.prog ∧ (z24_m n).cl = tabA [] ∧ (z24_m n).cd = tabD [] ∧ (z24_m n).nrm = tabN [([0, 1, 0, 1], z24_n1)] ∧ (z24_m n).cut = tabF [] ∧ (z24_m n).n = n ∧ (z24_m n).out = outR Try.prog [.tmp 4] tyB := ⟨rfl, rfl, rfl, rfl, rfl, rfl, rfl⟩
theorem z24_c (n : Nat) : (z24_m n).body = (Try.f43.body).getD .skip := rfl
noncomputable def z24_b1 (n : Nat) : { B : ((List Str) → Str → Int → Option Bool) → (List Str) → Str → Int → Option Bool // ∀ m X0, (∀ (v0 : List Str) (v1 : Str) (v2 : Int), run (z24_m n) [.lq m [0, 1, 0, 1], .blk 0, .cut [1, 1], .at [1, 1]] ⟨[.lst false 1 (mp scell v0), .str (sb v1), .any, .any, .any, .int .i64 v2, .any, .any, .any, .any, .any, .any, .any, .any, .any, .any, .any, .any], [], 0⟩ = X0 v0 v1 v2) → ∀ (v0 : List Str) (v1 : Str) (v2 : Int), run (z24_m n) [.at [0, 0, 1, 0, 1], .lp m [0, 1, 0, 1], .blk 0, .cut [1, 1], .at [1, 1]] ⟨[.lst false 1 (mp scell v0), .str (sb v1), .any, .any, .any, .int .i64 v2, .any, .any, .any, .any, .any, .any, .any, .any, .any, .any, .any, .any], [], 0⟩ = B X0 v0 v1 v2 } := by
  apply Subtype.mk
  intro m X0 ih v0 v1 v2
  simp (maxSteps := 100000000) only [go_sem, q00, q01, q02, q03, q04, q05, q06, q10, q11, q12, q13, q14, z24_f, z24_c, Try.f43, Option.getD_some, mixed, z24_n1, ih]
  exact rfl
noncomputable def z24_l1 (n : Nat) : Nat → (List Str) → Str → Int → Option Bool
  | 0, _, _, _ => none
  | m + 1, v0, v1, v2 => (z24_b1 n).1 (z24_l1 n m) v0 v1 v2
theorem z24_l1_eq (n : Nat) : ∀ (m : Nat), (∀ (v0 : List Str) (v1 : Str) (v2 : Int), run (z24_m n) [.lq m [0, 1, 0, 1], .blk 0, .cut [1, 1], .at [1, 1]] ⟨[.lst false 1 (mp scell v0), .str (sb v1), .any, .any, .any, .int .i64 v2, .any, .any, .any, .any, .any, .any, .any, .any, .any, .any, .any, .any], [], 0⟩ = z24_l1 n m v0 v1 v2)
  | 0 => by intros; exact run_lq_zero
  | m + 1 => by
    have ih := z24_l1_eq n m
    intro v0 v1 v2
    rw [run_lq_succ]
    exact (z24_b1 n).2  m _  ih v0 v1 v2
noncomputable def z24_e (n : Nat) : { B : (List Str) → Str → Option Bool // ∀ (a0 : (List Str)) (a1 : Str), run (z24_m n) [.at []] { slots := [(tyL rowS).enc a0, tyS.enc a1] ++ List.replicate (18 - [(tyL rowS).enc a0, tyS.enc a1].length) .any, heap := [] } = B a0 a1 } := by
  apply Subtype.mk
  intro a0 a1
  simp (maxSteps := 100000000) only [go_sem, q00, q01, q02, q03, q04, q05, q06, q10, q11, q12, q13, q14, z24_f, z24_c, Try.f43, Option.getD_some, mixed, z24_n1, z24_l1_eq n]
  exact rfl
noncomputable def z24 : Nat → (List Str) → Str → Option Bool
  | 0, _, _ => none
  | n + 1, a0, a1 => (z24_e n).1 a0 a1
theorem z24_ok : ∀ (n : Nat) (a0 : (List Str)) (a1 : Str) (r : Bool), z24 n a0 a1 = some r → FnC Try.prog 43 [(tyL rowS).enc a0, tyS.enc a1] (fun v => v = tyB.enc r)
  | 0, _, _, _, h => by cases h
  | n + 1, a0, a1, r, h => by
    exact fnC_run (M := z24_m n) ⟨tabA_nil_ok, tabD_nil_ok, tabN_ok _, tabF_ok _, noY_ok, noE_ok⟩ Try.func43 rfl rfl ⟨(tyL rowS).nb 0 _, tyS.nb 0 _, trivial⟩ Try.ntmps43 Try.results43 (fun σ hs => outR_ok (P := Try.prog) (rs := [.tmp 4]) (t := tyB) (σ := σ) (r := r) hs) (((z24_e n).2 a0 a1).trans h)

noncomputable def z1o_n1 : Nrm := ⟨[], [], [zA, zK, zK, zK, zA, zA, zK, zA, zK, zA, zA, zA, zA, zA, zA, zA, zA, zA, zA, zA, zA, zA, zA, zA, zA, zA, zA, zA, zA, zA, zA, zA, zA, zA, zA, zA, zA, zA, zA, zA, zA, zA, zA, zA, zA, zA, zA, zA, zA, zA, zA, zA, zA, zA, zA, zA, zA, zA, zA, zA, zA, zA, zA, zA, zA, zA, zA, zA, zA, zA, zA, zA, zA, zA, zA, zA, zA, zA, zA, zA, zA, zA, zA, zA, zA, zA, zA, zA, zA, zA, zA, zA, zA, zA, zA, zA], [oT Decl.cel, oK], none⟩
noncomputable def z1o_n2 : Nrm := ⟨[], [], [zA, zK, zK, zK, zA, zA, zK, zK, zA, zK, zA, zA, zA, zA, zA, zA, zA, zA, zA, zA, zA, zA, zA, zA, zA, zA, zA, zA, zA, zA, zA, zA, zA, zA, zA, zA, zA, zA, zA, zA, zA, zA, zA, zA, zA, zA, zA, zA, zA, zA, zA, zA, zA, zA, zA, zA, zA, zA, zA, zA, zA, zA, zA, zA, zA, zA, zA, zA, zA, zA, zA, zA, zA, zA, zA, zA, zA, zA, zA, zA, zA, zA, zA, zA, zA, zA, zA, zA, zA, zA, zA, zA, zA, zA, zA, zA], [oT Decl.cel, oK, oC [zK, zK, zK, zK, zK, zK, zK, zT (tyL Level.row), zT (tyL Term.row)]], none⟩
noncomputable def z1o_m (n : Nat) : Mach Entry where
  body := (Try.f127.body).getD .skip
  P := Try.prog
  cl := tabA []
  cd := tabD []
  nrm := tabN [([0, 1, 0, 1, 1, 0, 1, 1, 1, 1, 1, 1, 1, 0, 1, 0, 1, 1], z1o_n1), ([0, 1, 1, 1, 1, 1, 1, 1, 1, 1, 0, 1, 0, 1, 1], z1o_n2)]
  cut := tabF []
  n := n
  out := outR Try.prog [.cell 6 111] (tyC Entry.cel)
  isE := tabI []
theorem z1o_f (n : Nat) : (z1o_m n).P = Try.prog ∧ (z1o_m n).cl = tabA [] ∧ (z1o_m n).cd = tabD [] ∧ (z1o_m n).nrm = tabN [([0, 1, 0, 1, 1, 0, 1, 1, 1, 1, 1, 1, 1, 0, 1, 0, 1, 1], z1o_n1), ([0, 1, 1, 1, 1, 1, 1, 1, 1, 1, 0, 1, 0, 1, 1], z1o_n2)] ∧ (z1o_m n).cut = tabF [] ∧ (z1o_m n).n = n ∧ (z1o_m n).out = outR Try.prog [.cell 6 111] (tyC Entry.cel) ∧ (z1o_m n).isE = tabI [] := ⟨rfl, rfl, rfl, rfl, rfl, rfl, rfl, rfl⟩
theorem z1o_c (n : Nat) : (z1o_m n).body = (Try.f127.body).getD .skip := rfl
theorem z1o_d (n : Nat) : drawP (z1o_m n) [0, 0, 1, 0, 0, 1, 0, 0, 1, 0, 1, 1, 0, 1, 1, 1, 1, 1, 1, 1, 0, 1, 0, 1, 1] = true ∧ drawP (z1o_m n) [0, 0, 1, 0, 0, 1, 0, 0, 1, 1, 1, 1, 1, 1, 1, 1, 1, 0, 1, 0, 1, 1] = true := ⟨by kernel_rfl, by kernel_rfl⟩
theorem z1o_o (n : Nat) : ordP (z1o_m n) [0, 0, 1, 0, 0, 1, 0, 0, 1, 0, 1, 1, 0, 1, 1, 1, 1, 1, 1, 1, 0, 1, 0, 1, 1] 3 11 = true ∧ ordP (z1o_m n) [0, 0, 1, 0, 0, 1, 0, 0, 1, 0, 1, 1, 0, 1, 1, 1, 1, 1, 1, 1, 0, 1, 0, 1, 1] 5 11 = true ∧ ordP (z1o_m n) [0, 0, 1, 0, 0, 1, 0, 0, 1, 0, 1, 1, 0, 1, 1, 1, 1, 1, 1, 1, 0, 1, 0, 1, 1] 7 11 = true ∧ ordP (z1o_m n) [0, 0, 1, 0, 0, 1, 0, 0, 1, 0, 1, 1, 0, 1, 1, 1, 1, 1, 1, 1, 0, 1, 0, 1, 1] 9 11 = true ∧ ordP (z1o_m n) [0, 0, 1, 0, 0, 1, 0, 0, 1, 1, 1, 1, 1, 1, 1, 1, 1, 0, 1, 0, 1, 1] 3 11 = true ∧ ordP (z1o_m n) [0, 0, 1, 0, 0, 1, 0, 0, 1, 1, 1, 1, 1, 1, 1, 1, 1, 0, 1, 0, 1, 1] 5 11 = true ∧ ordP (z1o_m n) [0, 0, 1, 0, 0, 1, 0, 0, 1, 1, 1, 1, 1, 1, 1, 1, 1, 0, 1, 0, 1, 1] 7 11 = true ∧ ordP (z1o_m n) [0, 0, 1, 0, 0, 1, 0, 0, 1, 1, 1, 1, 1, 1, 1, 1, 1, 0, 1, 0, 1, 1] 9 11 = true := ⟨by kernel_rfl, by kernel_rfl, by kernel_rfl, by kernel_rfl, by kernel_rfl, by kernel_rfl, by kernel_rfl, by kernel_rfl⟩
noncomputable def z1o_b1 (n : Nat) : { B : (Int → Str → Int → Decl → Option Entry) → Int → Str → Int → Decl → Option Entry // ∀ m X0, (∀ (v0 : Int) (v1 : Str) (v2 : Int) (o0 : Decl), run (z1o_m n) [.lq m [0, 1, 0, 1, 1, 0, 1, 1, 1, 1, 1, 1, 1, 0, 1, 0, 1, 1], .blk 3, .cut [1, 1, 1, 0, 1, 1, 1, 1, 1, 1, 1, 0, 1, 0, 1, 1], .at [1, 1, 1, 0, 1, 1, 1, 1, 1, 1, 1, 0, 1, 0, 1, 1], .blk 0, .cut [1, 1, 1], .at [1, 1, 1]] ⟨[.any, .int .i64 v0, .str (sb v1), .ptr 0 0, .any, .any, .ptr 1 0, .any, .int .i64 v2, .any, .any, .any, .any, .any, .any, .any, .any, .any, .any, .any, .any, .any, .any, .any, .any, .any, .any, .any, .any, .any, .any, .any, .any, .any, .any, .any, .any, .any, .any, .any, .any, .any, .any, .any, .any, .any, .any, .any, .any, .any, .any, .any, .any, .any, .any, .any, .any, .any, .any, .any, .any, .any, .any, .any, .any, .any, .any, .any, .any, .any, .any, .any, .any, .any, .any, .any, .any, .any, .any, .any, .any, .any, .any, .any, .any, .any, .any, .any, .any, .any, .any, .any, .any, .any, .any, .any], [.cells (Decl.cells o0), .cells [.int .i64 0, .int .i64 0, .int .i64 0, .int .i64 0, .int .i64 0, .int .i64 0, .str (sb []), .lst true 0 [], .lst true 0 []]], 0⟩ = X0 v0 v1 v2 o0) → ∀ (v0 : Int) (v1 : Str) (v2 : Int) (o0 : Decl), run (z1o_m n) [.at [0, 0, 1, 0, 1, 1, 0, 1, 1, 1, 1, 1, 1, 1, 0, 1, 0, 1, 1], .lp m [0, 1, 0, 1, 1, 0, 1, 1, 1, 1, 1, 1, 1, 0, 1, 0, 1, 1], .blk 3, .cut [1, 1, 1, 0, 1, 1, 1, 1, 1, 1, 1, 0, 1, 0, 1, 1], .at [1, 1, 1, 0, 1, 1, 1, 1, 1, 1, 1, 0, 1, 0, 1, 1], .blk 0, .cut [1, 1, 1], .at [1, 1, 1]] ⟨[.any, .int .i64 v0, .str (sb v1), .ptr 0 0, .any, .any, .ptr 1 0, .any, .int .i64 v2, .any, .any, .any, .any, .any, .any, .any, .any, .any, .any, .any, .any, .any, .any, .any, .any, .any, .any, .any, .any, .any, .any, .any, .any, .any, .any, .any, .any, .any, .any, .any, .any, .any, .any, .any, .any, .any, .any, .any, .any, .any, .any, .any, .any, .any, .any, .any, .any, .any, .any, .any, .any, .any, .any, .any, .any, .any, .any, .any, .any, .any, .any, .any, .any, .any, .any, .any, .any, .any, .any, .any, .any, .any, .any, .any, .any, .any, .any, .any, .any, .any, .any, .any, .any, .any, .any, .any], [.cells (Decl.cells o0), .cells [.int .i64 0, .int .i64 0, .int .i64 0, .int .i64 0, .int .i64 0, .int .i64 0, .str (sb []), .lst true 0 [], .lst true 0 []]], 0⟩ = B X0 v0 v1 v2 o0 } := by
  apply Subtype.mk
  intro m X0 ih v0 v1 v2 o0
  simp (maxSteps := 100000000) only [go_sem, q00, q01, q02, q03, q04, q05, q06, q10, q11, q12, q13, q14, z1o_f, z1o_c, Try.f127, Option.getD_some, mixed, z1o_d, z1o_o, z1o_n1, z1o_n2, ih]
  exact rfl
noncomputable def z1o_l1 (n : Nat) : Nat → Int → Str → Int → Decl → Option Entry
  | 0, _, _, _, _ => none
  | m + 1, v0, v1, v2, o0 => (z1o_b1 n).1 (z1o_l1 n m) v0 v1 v2 o0
theorem z1o_l1_eq (n : Nat) : ∀ (m : Nat), (∀ (v0 : Int) (v1 : Str) (v2 : Int) (o0 : Decl), run (z1o_m n) [.lq m [0, 1, 0, 1, 1, 0, 1, 1, 1, 1, 1, 1, 1, 0, 1, 0, 1, 1], .blk 3, .cut [1, 1, 1, 0, 1, 1, 1, 1, 1, 1, 1, 0, 1, 0, 1, 1], .at [1, 1, 1, 0, 1, 1, 1, 1, 1, 1, 1, 0, 1, 0, 1, 1], .blk 0, .cut [1, 1, 1], .at [1, 1, 1]] ⟨[.any, .int .i64 v0, .str (sb v1), .ptr 0 0, .any, .any, .ptr 1 0, .any, .int .i64 v2, .any, .any, .any, .any, .any, .any, .any, .any, .any, .any, .any, .any, .any, .any, .any, .any, .any, .any, .any, .any, .any, .any, .any, .any, .any, .any, .any, .any, .any, .any, .any, .any, .any, .any, .any, .any, .any, .any, .any, .any, .any, .any, .any, .any, .any, .any, .any, .any, .any, .any, .any, .any, .any, .any, .any, .any, .any, .any, .any, .any, .any, .any, .any, .any, .any, .any, .any, .any, .any, .any, .any, .any, .any, .any, .any, .any, .any, .any, .any, .any, .any, .any, .any, .any, .any, .any, .any], [.cells (Decl.cells o0), .cells [.int .i64 0, .int .i64 0, .int .i64 0, .int .i64 0, .int .i64 0, .int .i64 0, .str (sb []), .lst true 0 [], .lst true 0 []]], 0⟩ = z1o_l1 n m v0 v1 v2 o0)
  | 0 => by intros; exact run_lq_zero
  | m + 1 => by
    have ih := z1o_l1_eq n m
    intro v0 v1 v2 o0
    rw [run_lq_succ]
    exact (z1o_b1 n).2  m _  ih v0 v1 v2 o0
noncomputable def z1o_b2 (n : Nat) : { B : (Int → Str → Int → Decl → Int → Int → Int → Int → Str → (List Level) → (List Term) → Option Entry) → Int → Str → Int → Decl → Int → Int → Int → Int → Str → (List Level) → (List Term) → Option Entry // ∀ m X0, (∀ (v0 : Int) (v1 : Str) (v2 : Int) (o0 : Decl) (v4 : Int) (v5 : Int) (v6 : Int) (v7 : Int) (v8 : Str) (v9 : List Level) (v10 : List Term), run (z1o_m n) [.lq m [0, 1, 1, 1, 1, 1, 1, 1, 1, 1, 0, 1, 0, 1, 1], .blk 1, .blk 0, .cut [1, 1, 1], .at [1, 1, 1]] ⟨[.any, .int .i64 v0, .str (sb v1), .ptr 0 0, .any, .any, .ptr 1 0, .ptr 2 0, .any, .int .i64 v2, .any, .any, .any, .any, .any, .any, .any, .any, .any, .any, .any, .any, .any, .any, .any, .any, .any, .any, .any, .any, .any, .any, .any, .any, .any, .any, .any, .any, .any, .any, .any, .any, .any, .any, .any, .any, .any, .any, .any, .any, .any, .any, .any, .any, .any, .any, .any, .any, .any, .any, .any, .any, .any, .any, .any, .any, .any, .any, .any, .any, .any, .any, .any, .any, .any, .any, .any, .any, .any, .any, .any, .any, .any, .any, .any, .any, .any, .any, .any, .any, .any, .any, .any, .any, .any, .any], [.cells (Decl.cells o0), .cells [.int .i64 0, .int .i64 0, .int .i64 0, .int .i64 0, .int .i64 0, .int .i64 0, .str (sb []), .lst true 0 [], .lst true 0 []], .cells [.int .i64 0, .int .i64 v4, .int .i64 0, .int .i64 v5, .int .i64 v6, .int .i64 v7, .str (sb v8), .lst false 2 (mp Level.cells v9), .lst false 5 (mp Term.cells v10)]], 0⟩ = X0 v0 v1 v2 o0 v4 v5 v6 v7 v8 v9 v10) → ∀ (v0 : Int) (v1 : Str) (v2 : Int) (o0 : Decl) (v4 : Int) (v5 : Int) (v6 : Int) (v7 : Int) (v8 : Str) (v9 : List Level) (v10 : List Term), run (z1o_m n) [.at [0, 0, 1, 1, 1, 1, 1, 1, 1, 1, 1, 0, 1, 0, 1, 1], .lp m [0, 1, 1, 1, 1, 1, 1, 1, 1, 1, 0, 1, 0, 1, 1], .blk 1, .blk 0, .cut [1, 1, 1], .at [1, 1, 1]] ⟨[.any, .int .i64 v0, .str (sb v1), .ptr 0 0, .any, .any, .ptr 1 0, .ptr 2 0, .any, .int .i64 v2, .any, .any, .any, .any, .any, .any, .any, .any, .any, .any, .any, .any, .any, .any, .any, .any, .any, .any, .any, .any, .any, .any, .any, .any, .any, .any, .any, .any, .any, .any, .any, .any, .any, .any, .any, .any, .any, .any, .any, .any, .any, .any, .any, .any, .any, .any, .any, .any, .any, .any, .any, .any, .any, .any, .any, .any, .any, .any, .any, .any, .any, .any, .any, .any, .any, .any, .any, .any, .any, .any, .any, .any, .any, .any, .any, .any, .any, .any, .any, .any, .any, .any, .any, .any, .any, .any], [.cells (Decl.cells o0), .cells [.int .i64 0, .int .i64 0, .int .i64 0, .int .i64 0, .int .i64 0, .int .i64 0, .str (sb []), .lst true 0 [], .lst true 0 []], .cells [.int .i64 0, .int .i64 v4, .int .i64 0, .int .i64 v5, .int .i64 v6, .int .i64 v7, .str (sb v8), .lst false 2 (mp Level.cells v9), .lst false 5 (mp Term.cells v10)]], 0⟩ = B X0 v0 v1 v2 o0 v4 v5 v6 v7 v8 v9 v10 } := by
  apply Subtype.mk
  intro m X0 ih v0 v1 v2 o0 v4 v5 v6 v7 v8 v9 v10
  simp (maxSteps := 100000000) only [go_sem, q00, q01, q02, q03, q04, q05, q06, q10, q11, q12, q13, q14, z1o_f, z1o_c, Try.f127, Option.getD_some, mixed, z1o_d, z1o_o, z1o_n1, z1o_n2, z1o_l1_eq n, ih]
  exact rfl
noncomputable def z1o_l2 (n : Nat) : Nat → Int → Str → Int → Decl → Int → Int → Int → Int → Str → (List Level) → (List Term) → Option Entry
  | 0, _, _, _, _, _, _, _, _, _, _, _ => none
  | m + 1, v0, v1, v2, o0, v4, v5, v6, v7, v8, v9, v10 => (z1o_b2 n).1 (z1o_l2 n m) v0 v1 v2 o0 v4 v5 v6 v7 v8 v9 v10
theorem z1o_l2_eq (n : Nat) : ∀ (m : Nat), (∀ (v0 : Int) (v1 : Str) (v2 : Int) (o0 : Decl) (v4 : Int) (v5 : Int) (v6 : Int) (v7 : Int) (v8 : Str) (v9 : List Level) (v10 : List Term), run (z1o_m n) [.lq m [0, 1, 1, 1, 1, 1, 1, 1, 1, 1, 0, 1, 0, 1, 1], .blk 1, .blk 0, .cut [1, 1, 1], .at [1, 1, 1]] ⟨[.any, .int .i64 v0, .str (sb v1), .ptr 0 0, .any, .any, .ptr 1 0, .ptr 2 0, .any, .int .i64 v2, .any, .any, .any, .any, .any, .any, .any, .any, .any, .any, .any, .any, .any, .any, .any, .any, .any, .any, .any, .any, .any, .any, .any, .any, .any, .any, .any, .any, .any, .any, .any, .any, .any, .any, .any, .any, .any, .any, .any, .any, .any, .any, .any, .any, .any, .any, .any, .any, .any, .any, .any, .any, .any, .any, .any, .any, .any, .any, .any, .any, .any, .any, .any, .any, .any, .any, .any, .any, .any, .any, .any, .any, .any, .any, .any, .any, .any, .any, .any, .any, .any, .any, .any, .any, .any, .any], [.cells (Decl.cells o0), .cells [.int .i64 0, .int .i64 0, .int .i64 0, .int .i64 0, .int .i64 0, .int .i64 0, .str (sb []), .lst true 0 [], .lst true 0 []], .cells [.int .i64 0, .int .i64 v4, .int .i64 0, .int .i64 v5, .int .i64 v6, .int .i64 v7, .str (sb v8), .lst false 2 (mp Level.cells v9), .lst false 5 (mp Term.cells v10)]], 0⟩ = z1o_l2 n m v0 v1 v2 o0 v4 v5 v6 v7 v8 v9 v10)
  | 0 => by intros; exact run_lq_zero
  | m + 1 => by
    have ih := z1o_l2_eq n m
    intro v0 v1 v2 o0 v4 v5 v6 v7 v8 v9 v10
    rw [run_lq_succ]
    exact (z1o_b2 n).2  m _  ih v0 v1 v2 o0 v4 v5 v6 v7 v8 v9 v10
noncomputable def z1o_e (n : Nat) : { B : Decl → Int → Str → Option Entry // ∀ (a0 : Decl) (a1 : Int) (a2 : Str), run (z1o_m n) [.at []] { slots := [(tyC Decl.cel).enc a0, (tyI .i64).enc a1, tyS.enc a2] ++ List.replicate (96 - [(tyC Decl.cel).enc a0, (tyI .i64).enc a1, tyS.enc a2].length) .any, heap := [] } = B a0 a1 a2 } := by
  apply Subtype.mk
  intro a0 a1 a2
  simp (maxSteps := 100000000) only [go_sem, q00, q01, q02, q03, q04, q05, q06, q10, q11, q12, q13, q14, z1o_f, z1o_c, Try.f127, Option.getD_some, mixed, z1o_d, z1o_o, z1o_n1, z1o_n2, z1o_l1_eq n, z1o_l2_eq n]
  exact rfl
noncomputable def z1o : Nat → Decl → Int → Str → Option Entry
  | 0, _, _, _ => none
  | n + 1, a0, a1, a2 => (z1o_e n).1 a0 a1 a2
theorem z1o_ok : ∀ (n : Nat) (a0 : Decl) (a1 : Int) (a2 : Str) (r : Entry), z1o n a0 a1 a2 = some r → FnC Try.prog 127 [(tyC Decl.cel).enc a0, (tyI .i64).enc a1, tyS.enc a2] (fun v => v = (tyC Entry.cel).enc r)
  | 0, _, _, _, _, h => by cases h
  | n + 1, a0, a1, a2, r, h => by
    exact fnC_run (M := z1o_m n) ⟨tabA_nil_ok, tabD_nil_ok, tabN_ok _, tabF_ok _, noY_ok, noE_ok⟩ Try.func127 rfl rfl ⟨(tyC Decl.cel).nb 0 _, (tyI .i64).nb 0 _, tyS.nb 0 _, trivial⟩ Try.ntmps127 Try.results127 (fun σ hs => outR_ok (P := Try.prog) (rs := [.cell 6 111]) (t := (tyC Entry.cel)) (σ := σ) (r := r) hs) (((z1o_e n).2 a0 a1 a2).trans h)

noncomputable def z1s_m (n : Nat) : Mach Int where
  body := (Try.f133.body).getD .skip
  P := Try.prog
  cl := tabA []
  cd := tabD []
  nrm := tabN []
  cut := tabF []
  n := n
  out := outR Try.prog [.tmp 2] (tyI .i64)
theorem z1s_f (n : Nat) : (z1s_m n).P = Try.prog ∧ (z1s_m n).cl = tabA [] ∧ (z1s_m n).cd = tabD [] ∧ (z1s_m n).nrm = tabN [] ∧ (z1s_m n).cut = tabF [] ∧ (z1s_m n).n = n ∧ (z1s_m n).out = outR Try.prog [.tmp 2] (tyI .i64) := ⟨rfl, rfl, rfl, rfl, rfl, rfl, rfl⟩
theorem z1s_c (n : Nat) : (z1s_m n).body = (Try.f133.body).getD .skip := rfl
noncomputable def z1s_e (n : Nat) : { B : Int → Option Int // ∀ (a0 : Int), run (z1s_m n) [.at []] { slots := [(tyI .i64).enc a0] ++ List.replicate (15 - [(tyI .i64).enc a0].length) .any, heap := [] } = B a0 } := by
  apply Subtype.mk
  intro a0
  simp (maxSteps := 100000000) only [go_sem, q00, q01, q02, q03, q04, q05, q06, q10, q11, q12, q13, q14, z1s_f, z1s_c, Try.f133, Option.getD_some, mixed]
  exact rfl
noncomputable def z1s : Nat → Int → Option Int
  | 0, _ => none
  | n + 1, a0 => (z1s_e n).1 a0
theorem z1s_ok : ∀ (n : Nat) (a0 : Int) (r : Int), z1s n a0 = some r → FnC Try.prog 133 [(tyI .i64).enc a0] (fun v => v = (tyI .i64).enc r)
  | 0, _, _, h => by cases h
  | n + 1, a0, r, h => by
    exact fnC_run (M := z1s_m n) ⟨tabA_nil_ok, tabD_nil_ok, tabN_ok _, tabF_ok _, noY_ok, noE_ok⟩ Try.func133 rfl rfl ⟨(tyI .i64).nb 0 _, trivial⟩ Try.ntmps133 Try.results133 (fun σ hs => outR_ok (P := Try.prog) (rs := [.tmp 2]) (t := (tyI .i64)) (σ := σ) (r := r) hs) (((z1s_e n).2 a0).trans h)

noncomputable def z1f_n1 : Nrm := ⟨[], [], [zA, zK, zA, zK, zA, zA, zA, zA, zA, zA, zA, zA, zA, zA, zA, zA, zA, zA, zA, zA, zA, zA, zA, zA, zA, zA, zA, zA, zA, zA, zA, zA, zA, zA, zA, zA, zA, zA, zA, zA, zA, zA, zA, zA, zA, zA, zA, zA, zA, zA, zA, zA, zA, zA, zA, zA, zA, zA, zA, zA, zA, zA, zA, zA, zA, zA, zA], [oT Level.cel], none⟩
noncomputable def z1f_m (n : Nat) : Mach Bool where
  body := (Try.f134.body).getD .skip
  P := Try.prog
  cl := tabA []
  cd := tabD []
  nrm := tabN [([0, 1, 0, 1, 1], z1f_n1)]
  cut := tabF []
  n := n
  out := outR Try.prog [.tmp 2] tyB
  isE := tabI []
theorem z1f_f (n : Nat) : (z1f_m n).P = Try.prog ∧ (z1f_m n).cl = tabA [] ∧ (z1f_m n).cd = tabD [] ∧ (z1f_m n).nrm = tabN [([0, 1, 0, 1, 1], z1f_n1)] ∧ (z1f_m n).cut = tabF [] ∧ (z1f_m n).n = n ∧ (z1f_m n).out = outR Try.prog [.tmp 2] tyB ∧ (z1f_m n).isE = tabI [] := ⟨rfl, rfl, rfl, rfl, rfl, rfl, rfl, rfl⟩
theorem z1f_c (n : Nat) : (z1f_m n).body = (Try.f134.body).getD .skip := rfl
theorem z1f_d (n : Nat) : drawP (z1f_m n) [0, 0, 1, 1, 0, 0, 1, 0, 0, 1, 0, 1, 1] = true := by kernel_rfl
noncomputable def z1f_b1 (n : Nat) : { B : (Int → Level → Option Bool) → Int → Level → Option Bool // ∀ m X0, (∀ (v0 : Int) (o0 : Level), run (z1f_m n) [.lq m [0, 1, 0, 1, 1], .blk 0, .cut [1, 1, 1], .at [1, 1, 1]] ⟨[.any, .ptr 0 0, .any, .int .i64 v0, .any, .any, .any, .any, .any, .any, .any, .any, .any, .any, .any, .any, .any, .any, .any, .any, .any, .any, .any, .any, .any, .any, .any, .any, .any, .any, .any, .any, .any, .any, .any, .any, .any, .any, .any, .any, .any, .any, .any, .any, .any, .any, .any, .any, .any, .any, .any, .any, .any, .any, .any, .any, .any, .any, .any, .any, .any, .any, .any, .any, .any, .any, .any], [.cells (Level.cells o0)], 0⟩ = X0 v0 o0) → ∀ (v0 : Int) (o0 : Level), run (z1f_m n) [.at [0, 0, 1, 0, 1, 1], .lp m [0, 1, 0, 1, 1], .blk 0, .cut [1, 1, 1], .at [1, 1, 1]] ⟨[.any, .ptr 0 0, .any, .int .i64 v0, .any, .any, .any, .any, .any, .any, .any, .any, .any, .any, .any, .any, .any, .any, .any, .any, .any, .any, .any, .any, .any, .any, .any, .any, .any, .any, .any, .any, .any, .any, .any, .any, .any, .any, .any, .any, .any, .any, .any, .any, .any, .any, .any, .any, .any, .any, .any, .any, .any, .any, .any, .any, .any, .any, .any, .any, .any, .any, .any, .any, .any, .any, .any], [.cells (Level.cells o0)], 0⟩ = B X0 v0 o0 } := by
  apply Subtype.mk
  intro m X0 ih v0 o0
  simp (maxSteps := 100000000) only [go_sem, q00, q01, q02, q03, q04, q05, q06, q10, q11, q12, q13, q14, z1f_f, z1f_c, Try.f134, Option.getD_some, mixed, z1f_d, z1f_n1, ih]
  exact rfl
noncomputable def z1f_l1 (n : Nat) : Nat → Int → Level → Option Bool
  | 0, _, _ => none
  | m + 1, v0, o0 => (z1f_b1 n).1 (z1f_l1 n m) v0 o0
theorem z1f_l1_eq (n : Nat) : ∀ (m : Nat), (∀ (v0 : Int) (o0 : Level), run (z1f_m n) [.lq m [0, 1, 0, 1, 1], .blk 0, .cut [1, 1, 1], .at [1, 1, 1]] ⟨[.any, .ptr 0 0, .any, .int .i64 v0, .any, .any, .any, .any, .any, .any, .any, .any, .any, .any, .any, .any, .any, .any, .any, .any, .any, .any, .any, .any, .any, .any, .any, .any, .any, .any, .any, .any, .any, .any, .any, .any, .any, .any, .any, .any, .any, .any, .any, .any, .any, .any, .any, .any, .any, .any, .any, .any, .any, .any, .any, .any, .any, .any, .any, .any, .any, .any, .any, .any, .any, .any, .any], [.cells (Level.cells o0)], 0⟩ = z1f_l1 n m v0 o0)
  | 0 => by intros; exact run_lq_zero
  | m + 1 => by
    have ih := z1f_l1_eq n m
    intro v0 o0
    rw [run_lq_succ]
    exact (z1f_b1 n).2  m _  ih v0 o0
noncomputable def z1f_e (n : Nat) : { B : Level → Option Bool // ∀ (a0 : Level), run (z1f_m n) [.at []] { slots := [(tyC Level.cel).enc a0] ++ List.replicate (67 - [(tyC Level.cel).enc a0].length) .any, heap := [] } = B a0 } := by
  apply Subtype.mk
  intro a0
  simp (maxSteps := 100000000) only [go_sem, q00, q01, q02, q03, q04, q05, q06, q10, q11, q12, q13, q14, z1f_f, z1f_c, Try.f134, Option.getD_some, mixed, z1f_d, z1f_n1, z1f_l1_eq n]
  exact rfl
noncomputable def z1f : Nat → Level → Option Bool
  | 0, _ => none
  | n + 1, a0 => (z1f_e n).1 a0
theorem z1f_ok : ∀ (n : Nat) (a0 : Level) (r : Bool), z1f n a0 = some r → FnC Try.prog 134 [(tyC Level.cel).enc a0] (fun v => v = tyB.enc r)
  | 0, _, _, h => by cases h
  | n + 1, a0, r, h => by
    exact fnC_run (M := z1f_m n) ⟨tabA_nil_ok, tabD_nil_ok, tabN_ok _, tabF_ok _, noY_ok, noE_ok⟩ Try.func134 rfl rfl ⟨(tyC Level.cel).nb 0 _, trivial⟩ Try.ntmps134 Try.results134 (fun σ hs => outR_ok (P := Try.prog) (rs := [.tmp 2]) (t := tyB) (σ := σ) (r := r) hs) (((z1f_e n).2 a0).trans h)

noncomputable def z1g_m (n : Nat) : Mach Int where
  body := (Try.f124.body).getD .skip
  P := Try.prog
  cl := tabA []
  cd := tabD []
  nrm := tabN []
  cut := tabF []
  n := n
  out := outR Try.prog [.tmp 4] (tyI .i64)
theorem z1g_f (n : Nat) : (z1g_m n).P = Try.prog ∧ (z1g_m n).cl = tabA [] ∧ (z1g_m n).cd = tabD [] ∧ (z1g_m n).nrm = tabN [] ∧ (z1g_m n).cut = tabF [] ∧ (z1g_m n).n = n ∧ (z1g_m n).out = outR Try.prog [.tmp 4] (tyI .i64) := ⟨rfl, rfl, rfl, rfl, rfl, rfl, rfl⟩
theorem z1g_c (n : Nat) : (z1g_m n).body = (Try.f124.body).getD .skip := rfl
noncomputable def z1g_e (n : Nat) : { B : Int → Int → Option Int // ∀ (a0 : Int) (a1 : Int), run (z1g_m n) [.at []] { slots := [(tyI .i64).enc a0, (tyI .i64).enc a1] ++ List.replicate (27 - [(tyI .i64).enc a0, (tyI .i64).enc a1].length) .any, heap := [] } = B a0 a1 } := by
  apply Subtype.mk
  intro a0 a1
  simp (maxSteps := 100000000) only [go_sem, q00, q01, q02, q03, q04, q05, q06, q10, q11, q12, q13, q14, z1g_f, z1g_c, Try.f124, Option.getD_some, mixed]
  exact rfl
noncomputable def z1g : Nat → Int → Int → Option Int
  | 0, _, _ => none
  | n + 1, a0, a1 => (z1g_e n).1 a0 a1
theorem z1g_ok : ∀ (n : Nat) (a0 : Int) (a1 : Int) (r : Int), z1g n a0 a1 = some r → FnC Try.prog 124 [(tyI .i64).enc a0, (tyI .i64).enc a1] (fun v => v = (tyI .i64).enc r)
  | 0, _, _, _, h => by cases h
  | n + 1, a0, a1, r, h => by
    exact fnC_run (M := z1g_m n) ⟨tabA_nil_ok, tabD_nil_ok, tabN_ok _, tabF_ok _, noY_ok, noE_ok⟩ Try.func124 rfl rfl ⟨(tyI .i64).nb 0 _, (tyI .i64).nb 0 _, trivial⟩ Try.ntmps124 Try.results124 (fun σ hs => outR_ok (P := Try.prog) (rs := [.tmp 4]) (t := (tyI .i64)) (σ := σ) (r := r) hs) (((z1g_e n).2 a0 a1).trans h)

noncomputable def z23_n1 : Nrm := ⟨[(4, 5, true)], [], [zA, zK, zA, zK, zK, zA, zA, zA, zA, zA, zA, zA, zA, zA, zA, zA, zA, zA, zA, zA, zA, zA, zA, zA, zA, zA, zA], [oT Term.cel, oK, oA Term.row], none⟩
noncomputable def z23_m (n : Nat) : Mach ((List Term) × Term) where
  body := (Try.f21.body).getD .skip
  P := Try.prog
  cl := tabA []
  cd := tabD []
  nrm := tabN [([0, 0, 1, 1], z23_n1)]
  cut := tabF []
  n := n
  out := outR Try.prog [.tmp 2, .cell 3 25] (ty2 (tyL Term.row) (tyC Term.cel))
  isE := tabI []
theorem z23_f (n : Nat) : (z23_m n).P = Try.prog ∧ (z23_m n).cl = tabA [] ∧ (z23_m n).cd = tabD [] ∧ (z23_m n).nrm = tabN [([0, 0, 1, 1], z23_n1)] ∧ (z23_m n).cut = tabF [] ∧ (z23_m n).n = n ∧ (z23_m n).out = outR Try.prog [.tmp 2, .cell 3 25] (ty2 (tyL Term.row) (tyC Term.cel)) ∧ (z23_m n).isE = tabI [] := ⟨rfl, rfl, rfl, rfl, rfl, rfl, rfl, rfl⟩
theorem z23_c (n : Nat) : (z23_m n).body = (Try.f21.body).getD .skip := rfl
theorem z23_d (n : Nat) : drawP (z23_m n) [0, 1, 1, 1] = true := by kernel_rfl
theorem z23_o (n : Nat) : ordP (z23_m n) [0, 1, 1, 1] 1 3 = true := by kernel_rfl
noncomputable def z23_b1 (n : Nat) : { B : (Term → (List Term) → Option ((List Term) × Term)) → Term → (List Term) → Option ((List Term) × Term) // ∀ m X0, (∀ (o0 : Term) (r2 : List Term) (c2 : Nat), c2 = r2.length → run (z23_m n) [.lq m [0, 0, 1, 1], .blk 0, .cut [1, 1, 1], .at [1, 1, 1]] ⟨[.any, .ptr 0 0, .any, .ptr 1 0, .acc 2 c2, .any, .any, .any, .any, .any, .any, .any, .any, .any, .any, .any, .any, .any, .any, .any, .any, .any, .any, .any, .any, .any, .any], [.cells (Term.cells o0), .cells [.int .i64 0, .int .i64 0, .str (sb []), .lst true 0 [], .lst true 0 []], .acc true 5 (mp Term.cells r2)], 0⟩ = X0 o0 r2) → ∀ (o0 : Term) (r2 : List Term), run (z23_m n) [.at [0, 0, 0, 1, 1], .lp m [0, 0, 1, 1], .blk 0, .cut [1, 1, 1], .at [1, 1, 1]] ⟨[.any, .ptr 0 0, .any, .ptr 1 0, .acc 2 r2.length, .any, .any, .any, .any, .any, .any, .any, .any, .any, .any, .any, .any, .any, .any, .any, .any, .any, .any, .any, .any, .any, .any], [.cells (Term.cells o0), .cells [.int .i64 0, .int .i64 0, .str (sb []), .lst true 0 [], .lst true 0 []], .acc true 5 (mp Term.cells r2)], 0⟩ = B X0 o0 r2 } := by
  apply Subtype.mk
  intro m X0 ih o0 r2
  simp (maxSteps := 100000000) only [go_sem, q00, q01, q02, q03, q04, q05, q06, q10, q11, q12, q13, q14, z23_f, z23_c, Try.f21, Option.getD_some, mixed, z23_d, z23_o, z23_n1, ih]
  exact rfl
noncomputable def z23_l1 (n : Nat) : Nat → Term → (List Term) → Option ((List Term) × Term)
  | 0, _, _ => none
  | m + 1, o0, r2 => (z23_b1 n).1 (z23_l1 n m) o0 r2
theorem z23_l1_eq (n : Nat) : ∀ (m : Nat), (∀ (o0 : Term) (r2 : List Term) (c2 : Nat), c2 = r2.length → run (z23_m n) [.lq m [0, 0, 1, 1], .blk 0, .cut [1, 1, 1], .at [1, 1, 1]] ⟨[.any, .ptr 0 0, .any, .ptr 1 0, .acc 2 c2, .any, .any, .any, .any, .any, .any, .any, .any, .any, .any, .any, .any, .any, .any, .any, .any, .any, .any, .any, .any, .any, .any], [.cells (Term.cells o0), .cells [.int .i64 0, .int .i64 0, .str (sb []), .lst true 0 [], .lst true 0 []], .acc true 5 (mp Term.cells r2)], 0⟩ = z23_l1 n m o0 r2)
  | 0 => by intros; exact run_lq_zero
  | m + 1 => by
    have ih := z23_l1_eq n m
    intro o0 r2 c2 ec2
    subst ec2
    rw [run_lq_succ]
    exact (z23_b1 n).2  m _  ih o0 r2
noncomputable def z23_e (n : Nat) : { B : Term → Option ((List Term) × Term) // ∀ (a0 : Term), run (z23_m n) [.at []] { slots := [(tyC Term.cel).enc a0] ++ List.replicate (27 - [(tyC Term.cel).enc a0].length) .any, heap := [] } = B a0 } := by
  apply Subtype.mk
  intro a0
  simp (maxSteps := 100000000) only [go_sem, q00, q01, q02, q03, q04, q05, q06, q10, q11, q12, q13, q14, z23_f, z23_c, Try.f21, Option.getD_some, mixed, z23_d, z23_o, z23_n1, z23_l1_eq n]
  exact rfl
noncomputable def z23 : Nat → Term → Option ((List Term) × Term)
  | 0, _ => none
  | n + 1, a0 => (z23_e n).1 a0
theorem z23_ok : ∀ (n : Nat) (a0 : Term) (r : ((List Term) × Term)), z23 n a0 = some r → FnC Try.prog 21 [(tyC Term.cel).enc a0] (fun v => v = (ty2 (tyL Term.row) (tyC Term.cel)).enc r)
  | 0, _, _, h => by cases h
  | n + 1, a0, r, h => by
    exact fnC_run (M := z23_m n) ⟨tabA_nil_ok, tabD_nil_ok, tabN_ok _, tabF_ok _, noY_ok, noE_ok⟩ Try.func21 rfl rfl ⟨(tyC Term.cel).nb 0 _, trivial⟩ Try.ntmps21 Try.results21 (fun σ hs => outR_ok (P := Try.prog) (rs := [.tmp 2, .cell 3 25]) (t := (ty2 (tyL Term.row) (tyC Term.cel))) (σ := σ) (r := r) hs) (((z23_e n).2 a0).trans h)
end Go.Abs
namespace Go.Abs
open Go.Proofs
set_option maxRecDepth 100000
set_option maxHeartbeats 4000000
set_option linter.unusedSimpArgs false
set_option linter.unusedVariables false
noncomputable def z1c_m (n : Nat) : Mach Term where
  body := (Try.f94.body).getD .skip
  P := Try.prog
  cl := tabA []
  cd := tabD []
  nrm := tabN []
  cut := tabF []
  n := n
  out := outR Try.prog [.cell 4 25] (tyC Term.cel)
theorem z1c_f (n : Nat) : (z1c_m n).P = Try.prog ∧ (z1c_m n).cl = tabA [] ∧ (z1c_m n).cd = tabD [] ∧ (z1c_m n).nrm = tabN [] ∧ (z1c_m n).cut = tabF [] ∧ (z1c_m n).n = n ∧ (z1c_m n).out = outR Try.prog [.cell 4 25] (tyC Term.cel) := ⟨rfl, rfl, rfl, rfl, rfl, rfl, rfl⟩
theorem z1c_c (n : Nat) : (z1c_m n).body = (Try.f94.body).getD .skip := rfl
noncomputable def z1c_e (n : Nat) : { B : Term → Term → Option Term // ∀ (a0 : Term) (a1 : Term), run (z1c_m n) [.at []] { slots := [(tyC Term.cel).enc a0, (tyC Term.cel).enc a1] ++ List.replicate (9 - [(tyC Term.cel).enc a0, (tyC Term.cel).enc a1].length) .any, heap := [] } = B a0 a1 } := by
  apply Subtype.mk
  intro a0 a1
  simp (maxSteps := 100000000) only [go_sem, q00, q01, q02, q03, q04, q05, q06, q10, q11, q12, q13, q14, z1c_f, z1c_c, Try.f94, Option.getD_some, mixed]
  exact rfl
noncomputable def z1c : Nat → Term → Term → Option Term
  | 0, _, _ => none
  | n + 1, a0, a1 => (z1c_e n).1 a0 a1
theorem z1c_ok : ∀ (n : Nat) (a0 : Term) (a1 : Term) (r : Term), z1c n a0 a1 = some r → FnC Try.prog 94 [(tyC Term.cel).enc a0, (tyC Term.cel).enc a1] (fun v => v = (tyC Term.cel).enc r)
  | 0, _, _, _, h => by cases h
  | n + 1, a0, a1, r, h => by
    exact fnC_run (M := z1c_m n) ⟨tabA_nil_ok, tabD_nil_ok, tabN_ok _, tabF_ok _, noY_ok, noE_ok⟩ Try.func94 rfl rfl ⟨(tyC Term.cel).nb 0 _, (tyC Term.cel).nb 0 _, trivial⟩ Try.ntmps94 Try.results94 (fun σ hs => outR_ok (P := Try.prog) (rs := [.cell 4 25]) (t := (tyC Term.cel)) (σ := σ) (r := r) hs) (((z1c_e n).2 a0 a1).trans h)

noncomputable def z1b_m (n : Nat) : Mach Term where
  body := (Try.f93.body).getD .skip
  P := Try.prog
  cl := tabA []
  cd := tabD []
  nrm := tabN []
  cut := tabF []
  n := n
  out := outR Try.prog [.cell 2 25] (tyC Term.cel)
theorem z1b_f (n : Nat) : (z1b_m n).P = Try.prog ∧ (z1b_m n).cl = tabA [] ∧ (z1b_m n).cd = tabD [] ∧ (z1b_m n).nrm = tabN [] ∧ (z1b_m n).cut = tabF [] ∧ (z1b_m n).n = n ∧ (z1b_m n).out = outR Try.prog [.cell 2 25] (tyC Term.cel) := ⟨rfl, rfl, rfl, rfl, rfl, rfl, rfl⟩
theorem z1b_c (n : Nat) : (z1b_m n).body = (Try.f93.body).getD .skip := rfl
noncomputable def z1b_e (n : Nat) : { B : Int → Option Term // ∀ (a0 : Int), run (z1b_m n) [.at []] { slots := [(tyI .i64).enc a0] ++ List.replicate (5 - [(tyI .i64).enc a0].length) .any, heap := [] } = B a0 } := by
  apply Subtype.mk
  intro a0
  simp (maxSteps := 100000000) only [go_sem, q00, q01, q02, q03, q04, q05, q06, q10, q11, q12, q13, q14, z1b_f, z1b_c, Try.f93, Option.getD_some, mixed]
  exact rfl
noncomputable def z1b : Nat → Int → Option Term
  | 0, _ => none
  | n + 1, a0 => (z1b_e n).1 a0
theorem z1b_ok : ∀ (n : Nat) (a0 : Int) (r : Term), z1b n a0 = some r → FnC Try.prog 93 [(tyI .i64).enc a0] (fun v => v = (tyC Term.cel).enc r)
  | 0, _, _, h => by cases h
  | n + 1, a0, r, h => by
    exact fnC_run (M := z1b_m n) ⟨tabA_nil_ok, tabD_nil_ok, tabN_ok _, tabF_ok _, noY_ok, noE_ok⟩ Try.func93 rfl rfl ⟨(tyI .i64).nb 0 _, trivial⟩ Try.ntmps93 Try.results93 (fun σ hs => outR_ok (P := Try.prog) (rs := [.cell 2 25]) (t := (tyC Term.cel)) (σ := σ) (r := r) hs) (((z1b_e n).2 a0).trans h)

noncomputable def z1d_m (n : Nat) : Mach Term where
  body := (Try.f95.body).getD .skip
  P := Try.prog
  cl := tabA []
  cd := tabD []
  nrm := tabN []
  cut := tabF []
  n := n
  out := outR Try.prog [.cell 4 25] (tyC Term.cel)
theorem z1d_f (n : Nat) : (z1d_m n).P = Try.prog ∧ (z1d_m n).cl = tabA [] ∧ (z1d_m n).cd = tabD [] ∧ (z1d_m n).nrm = tabN [] ∧ (z1d_m n).cut = tabF [] ∧ (z1d_m n).n = n ∧ (z1d_m n).out = outR Try.prog [.cell 4 25] (tyC Term.cel) := ⟨rfl, rfl, rfl, rfl, rfl, rfl, rfl⟩
theorem z1d_c (n : Nat) : (z1d_m n).body = (Try.f95.body).getD .skip := rfl
noncomputable def z1d_e (n : Nat) : { B : Term → Term → Option Term // ∀ (a0 : Term) (a1 : Term), run (z1d_m n) [.at []] { slots := [(tyC Term.cel).enc a0, (tyC Term.cel).enc a1] ++ List.replicate (9 - [(tyC Term.cel).enc a0, (tyC Term.cel).enc a1].length) .any, heap := [] } = B a0 a1 } := by
  apply Subtype.mk
  intro a0 a1
  simp (maxSteps := 100000000) only [go_sem, q00, q01, q02, q03, q04, q05, q06, q10, q11, q12, q13, q14, z1d_f, z1d_c, Try.f95, Option.getD_some, mixed]
  exact rfl
noncomputable def z1d : Nat → Term → Term → Option Term
  | 0, _, _ => none
  | n + 1, a0, a1 => (z1d_e n).1 a0 a1
theorem z1d_ok : ∀ (n : Nat) (a0 : Term) (a1 : Term) (r : Term), z1d n a0 a1 = some r → FnC Try.prog 95 [(tyC Term.cel).enc a0, (tyC Term.cel).enc a1] (fun v => v = (tyC Term.cel).enc r)
  | 0, _, _, _, h => by cases h
  | n + 1, a0, a1, r, h => by
    exact fnC_run (M := z1d_m n) ⟨tabA_nil_ok, tabD_nil_ok, tabN_ok _, tabF_ok _, noY_ok, noE_ok⟩ Try.func95 rfl rfl ⟨(tyC Term.cel).nb 0 _, (tyC Term.cel).nb 0 _, trivial⟩ Try.ntmps95 Try.results95 (fun σ hs => outR_ok (P := Try.prog) (rs := [.cell 4 25]) (t := (tyC Term.cel)) (σ := σ) (r := r) hs) (((z1d_e n).2 a0 a1).trans h)

noncomputable def z10_n1 : Nrm := ⟨[(4, 5, true)], [], [zA, zK, zA, zK, zK, zA, zA, zA, zA, zA, zA, zA, zA, zA, zA, zA, zA, zA, zA, zA, zA, zA, zA, zA, zA, zA, zA], [oT Term.cel, oK, oA Term.row], none⟩
noncomputable def z10_m (n : Nat) : Mach ((List Term) × Term) where
  body := (Try.f49.body).getD .skip
  P := Try.prog
  cl := tabA []
  cd := tabD []
  nrm := tabN [([0, 0, 1, 1], z10_n1)]
  cut := tabF []
  n := n
  out := outR Try.prog [.tmp 2, .cell 3 25] (ty2 (tyL Term.row) (tyC Term.cel))
  isE := tabI []
theorem z10_f (n : Nat) : (z10_m n).P = Try.prog ∧ (z10_m n).cl = tabA [] ∧ (z10_m n).cd = tabD [] ∧ (z10_m n).nrm = tabN [([0, 0, 1, 1], z10_n1)] ∧ (z10_m n).cut = tabF [] ∧ (z10_m n).n = n ∧ (z10_m n).out = outR Try.prog [.tmp 2, .cell 3 25] (ty2 (tyL Term.row) (tyC Term.cel)) ∧ (z10_m n).isE = tabI [] := ⟨rfl, rfl, rfl, rfl, rfl, rfl, rfl, rfl⟩
theorem z10_c (n : Nat) : (z10_m n).body = (Try.f49.body).getD .skip := rfl
theorem z10_d (n : Nat) : drawP (z10_m n) [0, 1, 1, 1] = true := by kernel_rfl
theorem z10_o (n : Nat) : ordP (z10_m n) [0, 1, 1, 1] 1 3 = true := by kernel_rfl
noncomputable def z10_b1 (n : Nat) : { B : (Term → (List Term) → Option ((List Term) × Term)) → Term → (List Term) → Option ((List Term) × Term) // ∀ m X0, (∀ (o0 : Term) (r2 : List Term) (c2 : Nat), c2 = r2.length → run (z10_m n) [.lq m [0, 0, 1, 1], .blk 0, .cut [1, 1, 1], .at [1, 1, 1]] ⟨[.any, .ptr 0 0, .any, .ptr 1 0, .acc 2 c2, .any, .any, .any, .any, .any, .any, .any, .any, .any, .any, .any, .any, .any, .any, .any, .any, .any, .any, .any, .any, .any, .any], [.cells (Term.cells o0), .cells [.int .i64 0, .int .i64 0, .str (sb []), .lst true 0 [], .lst true 0 []], .acc true 5 (mp Term.cells r2)], 0⟩ = X0 o0 r2) → ∀ (o0 : Term) (r2 : List Term), run (z10_m n) [.at [0, 0, 0, 1, 1], .lp m [0, 0, 1, 1], .blk 0, .cut [1, 1, 1], .at [1, 1, 1]] ⟨[.any, .ptr 0 0, .any, .ptr 1 0, .acc 2 r2.length, .any, .any, .any, .any, .any, .any, .any, .any, .any, .any, .any, .any, .any, .any, .any, .any, .any, .any, .any, .any, .any, .any], [.cells (Term.cells o0), .cells [.int .i64 0, .int .i64 0, .str (sb []), .lst true 0 [], .lst true 0 []], .acc true 5 (mp Term.cells r2)], 0⟩ = B X0 o0 r2 } := by
  apply Subtype.mk
  intro m X0 ih o0 r2
  simp (maxSteps := 100000000) only [go_sem, q00, q01, q02, q03, q04, q05, q06, q10, q11, q12, q13, q14, z10_f, z10_c, Try.f49, Option.getD_some, mixed, z10_d, z10_o, z10_n1, ih]
  exact rfl
noncomputable def z10_l1 (n : Nat) : Nat → Term → (List Term) → Option ((List Term) × Term)
  | 0, _, _ => none
  | m + 1, o0, r2 => (z10_b1 n).1 (z10_l1 n m) o0 r2
theorem z10_l1_eq (n : Nat) : ∀ (m : Nat), (∀ (o0 : Term) (r2 : List Term) (c2 : Nat), c2 = r2.length → run (z10_m n) [.lq m [0, 0, 1, 1], .blk 0, .cut [1, 1, 1], .at [1, 1, 1]] ⟨[.any, .ptr 0 0, .any, .ptr 1 0, .acc 2 c2, .any, .any, .any, .any, .any, .any, .any, .any, .any, .any, .any, .any, .any, .any, .any, .any, .any, .any, .any, .any, .any, .any], [.cells (Term.cells o0), .cells [.int .i64 0, .int .i64 0, .str (sb []), .lst true 0 [], .lst true 0 []], .acc true 5 (mp Term.cells r2)], 0⟩ = z10_l1 n m o0 r2)
  | 0 => by intros; exact run_lq_zero
  | m + 1 => by
    have ih := z10_l1_eq n m
    intro o0 r2 c2 ec2
    subst ec2
    rw [run_lq_succ]
    exact (z10_b1 n).2  m _  ih o0 r2
noncomputable def z10_e (n : Nat) : { B : Term → Option ((List Term) × Term) // ∀ (a0 : Term), run (z10_m n) [.at []] { slots := [(tyC Term.cel).enc a0] ++ List.replicate (27 - [(tyC Term.cel).enc a0].length) .any, heap := [] } = B a0 } := by
  apply Subtype.mk
  intro a0
  simp (maxSteps := 100000000) only [go_sem, q00, q01, q02, q03, q04, q05, q06, q10, q11, q12, q13, q14, z10_f, z10_c, Try.f49, Option.getD_some, mixed, z10_d, z10_o, z10_n1, z10_l1_eq n]
  exact rfl
noncomputable def z10 : Nat → Term → Option ((List Term) × Term)
  | 0, _ => none
  | n + 1, a0 => (z10_e n).1 a0
theorem z10_ok : ∀ (n : Nat) (a0 : Term) (r : ((List Term) × Term)), z10 n a0 = some r → FnC Try.prog 49 [(tyC Term.cel).enc a0] (fun v => v = (ty2 (tyL Term.row) (tyC Term.cel)).enc r)
  | 0, _, _, h => by cases h
  | n + 1, a0, r, h => by
    exact fnC_run (M := z10_m n) ⟨tabA_nil_ok, tabD_nil_ok, tabN_ok _, tabF_ok _, noY_ok, noE_ok⟩ Try.func49 rfl rfl ⟨(tyC Term.cel).nb 0 _, trivial⟩ Try.ntmps49 Try.results49 (fun σ hs => outR_ok (P := Try.prog) (rs := [.tmp 2, .cell 3 25]) (t := (ty2 (tyL Term.row) (tyC Term.cel))) (σ := σ) (r := r) hs) (((z10_e n).2 a0).trans h)

noncomputable def z0b_n1 : Nrm := ⟨[], [], [zK, zA, zK, zK, zA, zA, zA, zA, zA, zA, zA, zA, zA, zA, zA, zA, zA, zA, zA, zA, zA, zA, zA, zA, zA, zA, zA, zA], [oA Term.row], none⟩
noncomputable def z0b_m (n : Nat) : Mach (((List Term) × Unit) × Unit) where
  body := (Try.f107.body).getD .skip
  P := Try.prog
  cl := tabA []
  cd := tabD []
  nrm := tabN [([0, 1], z0b_n1)]
  cut := tabF []
  n := n
  out := outG Try.prog [] (osC (oaT false Term.row) osN) rsN 1
  isE := tabI []
theorem z0b_f (n : Nat) : (z0b_m n).P = Try.prog ∧ (z0b_m n).cl = tabA [] ∧ (z0b_m n).cd = tabD [] ∧ (z0b_m n).nrm = tabN [([0, 1], z0b_n1)] ∧ (z0b_m n).cut = tabF [] ∧ (z0b_m n).n = n ∧ (z0b_m n).out = outG Try.prog [] (osC (oaT false Term.row) osN) rsN 1 ∧ (z0b_m n).isE = tabI [] := ⟨rfl, rfl, rfl, rfl, rfl, rfl, rfl, rfl⟩
theorem z0b_c (n : Nat) : (z0b_m n).body = (Try.f107.body).getD .skip := rfl
theorem z0b_d (n : Nat) : drawP (z0b_m n) [0, 0, 1, 0, 0, 1] = true := by kernel_rfl
theorem z0b_o (n : Nat) : ordP (z0b_m n) [0, 0, 1, 0, 0, 1] 6 13 = true ∧ ordP (z0b_m n) [0, 0, 1, 0, 0, 1] 7 13 = true ∧ ordP (z0b_m n) [0, 0, 1, 0, 0, 1] 10 13 = true ∧ ordP (z0b_m n) [0, 0, 1, 0, 0, 1] 11 13 = true ∧ ordP (z0b_m n) [0, 0, 1, 0, 0, 1] 12 13 = true ∧ ordP (z0b_m n) [0, 0, 1, 0, 0, 1] 13 14 = true ∧ ordP (z0b_m n) [0, 0, 1, 0, 0, 1] 6 15 = true ∧ ordP (z0b_m n) [0, 0, 1, 0, 0, 1] 7 15 = true ∧ ordP (z0b_m n) [0, 0, 1, 0, 0, 1] 10 15 = true ∧ ordP (z0b_m n) [0, 0, 1, 0, 0, 1] 11 15 = true ∧ ordP (z0b_m n) [0, 0, 1, 0, 0, 1] 12 15 = true ∧ ordP (z0b_m n) [0, 0, 1, 0, 0, 1] 13 15 = true ∧ ordP (z0b_m n) [0, 0, 1, 0, 0, 1] 14 15 = true := ⟨by kernel_rfl, by kernel_rfl, by kernel_rfl, by kernel_rfl, by kernel_rfl, by kernel_rfl, by kernel_rfl, by kernel_rfl, by kernel_rfl, by kernel_rfl, by kernel_rfl, by kernel_rfl, by kernel_rfl⟩
noncomputable def z0b_b1 (n : Nat) : { B : (Int → Int → (List Term) → Option (((List Term) × Unit) × Unit)) → Int → Int → (List Term) → Option (((List Term) × Unit) × Unit) // ∀ m X0, (∀ (v0 : Int) (v1 : Int) (r0 : List Term) (c0 : Nat), c0 = r0.length → run (z0b_m n) [.lq m [0, 1], .blk 0] ⟨[.acc 0 c0, .any, .int .i64 v0, .int .i64 v1, .any, .any, .any, .any, .any, .any, .any, .any, .any, .any, .any, .any, .any, .any, .any, .any, .any, .any, .any, .any, .any, .any, .any, .any], [.acc false 5 (mp Term.cells r0)], 1⟩ = X0 v0 v1 r0) → ∀ (v0 : Int) (v1 : Int) (r0 : List Term), run (z0b_m n) [.at [0, 0, 1], .lp m [0, 1], .blk 0] ⟨[.acc 0 r0.length, .any, .int .i64 v0, .int .i64 v1, .any, .any, .any, .any, .any, .any, .any, .any, .any, .any, .any, .any, .any, .any, .any, .any, .any, .any, .any, .any, .any, .any, .any, .any], [.acc false 5 (mp Term.cells r0)], 1⟩ = B X0 v0 v1 r0 } := by
  apply Subtype.mk
  intro m X0 ih v0 v1 r0
  simp (maxSteps := 100000000) only [go_sem, q00, q01, q02, q03, q04, q05, q06, q10, q11, q12, q13, q14, z0b_f, z0b_c, Try.f107, Option.getD_some, mixed, z0b_d, z0b_o, z0b_n1, ih]
  exact rfl
noncomputable def z0b_l1 (n : Nat) : Nat → Int → Int → (List Term) → Option (((List Term) × Unit) × Unit)
  | 0, _, _, _ => none
  | m + 1, v0, v1, r0 => (z0b_b1 n).1 (z0b_l1 n m) v0 v1 r0
theorem z0b_l1_eq (n : Nat) : ∀ (m : Nat), (∀ (v0 : Int) (v1 : Int) (r0 : List Term) (c0 : Nat), c0 = r0.length → run (z0b_m n) [.lq m [0, 1], .blk 0] ⟨[.acc 0 c0, .any, .int .i64 v0, .int .i64 v1, .any, .any, .any, .any, .any, .any, .any, .any, .any, .any, .any, .any, .any, .any, .any, .any, .any, .any, .any, .any, .any, .any, .any, .any], [.acc false 5 (mp Term.cells r0)], 1⟩ = z0b_l1 n m v0 v1 r0)
  | 0 => by intros; exact run_lq_zero
  | m + 1 => by
    have ih := z0b_l1_eq n m
    intro v0 v1 r0 c0 ec0
    subst ec0
    rw [run_lq_succ]
    exact (z0b_b1 n).2  m _  ih v0 v1 r0
noncomputable def z0b_e (n : Nat) : { B : (List Term) → Option (((List Term) × Unit) × Unit) // ∀ (a0 : (List Term)), run (z0b_m n) [.at []] { slots := ((asA 0 (fun (b : ((List Term) × Unit)) => b.1.length) asN).enc (a0, ()) ()) ++ List.replicate (28 - ((asA 0 (fun (b : ((List Term) × Unit)) => b.1.length) asN).enc (a0, ()) ()).length) .any, heap := ((osC (oaT false Term.row) osN).enc (a0, ())), low := ((osC (oaT false Term.row) osN).enc (a0, ())).length } = B a0 } := by
  apply Subtype.mk
  intro a0
  simp (maxSteps := 100000000) only [go_sem, q00, q01, q02, q03, q04, q05, q06, q10, q11, q12, q13, q14, z0b_f, z0b_c, Try.f107, Option.getD_some, mixed, z0b_d, z0b_o, z0b_n1, z0b_l1_eq n]
  exact rfl
noncomputable def z0b : Nat → (List Term) → Option (((List Term) × Unit) × Unit)
  | 0, _ => none
  | n + 1, a0 => (z0b_e n).1 a0
theorem z0b_ok : ∀ (n : Nat) (a0 : (List Term)) (r : (((List Term) × Unit) × Unit)), z0b n a0 = some r → FnG Try.prog 107 ((asA 0 (fun (b : ((List Term) × Unit)) => b.1.length) asN).enc (a0, ()) ()) ((osC (oaT false Term.row) osN).enc (a0, ())) (fun o H' => o = .ret (tupOf (rsN.enc r.1 r.2)) ∧ H' = (osC (oaT false Term.row) osN).enc r.1)
  | 0, _, _, h => by cases h
  | n + 1, a0, r, h => by
    exact fnG_run (M := z0b_m n) ⟨tabA_nil_ok, tabD_nil_ok, tabN_ok _, tabF_ok _, noY_ok, noE_ok⟩ Try.func107 rfl rfl (by simp only [go_sem, q00, q01, q02, q03, q04, q05, q06, q10, q11, q12, q13, q14]) ((osC (oaT false Term.row) osN).nb _ _) Try.ntmps107 Try.results107 (fun σ hs => outG_ok hs) (((z0b_e n).2 a0).trans h)

noncomputable def z07_n1 : Nrm := ⟨[], [], [zT (tyL Zs2.row), zT (tyL Zs2.row), zA, zA, zA, zA, zA, zA, zA, zA, zA, zA, zK, zK, zA, zA, zA, zA, zA, zA, zA, zA, zA, zA, zA, zA], [], none⟩
noncomputable def z07_m (n : Nat) : Mach Bool where
  body := (Try.f102.body).getD .skip
  P := Try.prog
  cl := tabA []
  cd := tabD []
  nrm := tabN [([0, 1, 0, 1, 1], z07_n1)]
  cut := tabF []
  n := n
  out := outR Try.prog [.tmp 4] tyB
  isE := tabI []
theorem z07_f (n : Nat) : (z07_m n).P = Try.prog ∧ (z07_m n).cl = tabA [] ∧ (z07_m n).cd = tabD [] ∧ (z07_m n).nrm = tabN [([0, 1, 0, 1, 1], z07_n1)] ∧ (z07_m n).cut = tabF [] ∧ (z07_m n).n = n ∧ (z07_m n).out = outR Try.prog [.tmp 4] tyB ∧ (z07_m n).isE = tabI [] := ⟨rfl, rfl, rfl, rfl, rfl, rfl, rfl, rfl⟩
theorem z07_c (n : Nat) : (z07_m n).body = (Try.f102.body).getD .skip := rfl
theorem z07_d (n : Nat) : drawP (z07_m n) [0, 1, 0, 0, 1, 1, 0, 0, 1, 0, 1, 1] = true := by kernel_rfl
noncomputable def z07_b1 (n : Nat) : { B : ((List Zs2) → (List Zs2) → Int → Int → Option Bool) → (List Zs2) → (List Zs2) → Int → Int → Option Bool // ∀ m X0, (∀ (v0 : List Zs2) (v1 : List Zs2) (v2 : Int) (v3 : Int), run (z07_m n) [.lq m [0, 1, 0, 1, 1], .blk 0, .cut [1, 1, 1], .at [1, 1, 1]] ⟨[.lst false 2 (mp Zs2.cells v0), .lst false 2 (mp Zs2.cells v1), .any, .any, .any, .any, .any, .any, .any, .any, .any, .any, .int .i64 v2, .int .i64 v3, .any, .any, .any, .any, .any, .any, .any, .any, .any, .any, .any, .any], [], 0⟩ = X0 v0 v1 v2 v3) → ∀ (v0 : List Zs2) (v1 : List Zs2) (v2 : Int) (v3 : Int), run (z07_m n) [.at [0, 0, 1, 0, 1, 1], .lp m [0, 1, 0, 1, 1], .blk 0, .cut [1, 1, 1], .at [1, 1, 1]] ⟨[.lst false 2 (mp Zs2.cells v0), .lst false 2 (mp Zs2.cells v1), .any, .any, .any, .any, .any, .any, .any, .any, .any, .any, .int .i64 v2, .int .i64 v3, .any, .any, .any, .any, .any, .any, .any, .any, .any, .any, .any, .any], [], 0⟩ = B X0 v0 v1 v2 v3 } := by
  apply Subtype.mk
  intro m X0 ih v0 v1 v2 v3
  simp (maxSteps := 100000000) only [go_sem, q00, q01, q02, q03, q04, q05, q06, q10, q11, q12, q13, q14, z07_f, z07_c, Try.f102, Option.getD_some, mixed, z07_d, z07_n1, ih]
  exact rfl
noncomputable def z07_l1 (n : Nat) : Nat → (List Zs2) → (List Zs2) → Int → Int → Option Bool
  | 0, _, _, _, _ => none
  | m + 1, v0, v1, v2, v3 => (z07_b1 n).1 (z07_l1 n m) v0 v1 v2 v3
theorem z07_l1_eq (n : Nat) : ∀ (m : Nat), (∀ (v0 : List Zs2) (v1 : List Zs2) (v2 : Int) (v3 : Int), run (z07_m n) [.lq m [0, 1, 0, 1, 1], .blk 0, .cut [1, 1, 1], .at [1, 1, 1]] ⟨[.lst false 2 (mp Zs2.cells v0), .lst false 2 (mp Zs2.cells v1), .any, .any, .any, .any, .any, .any, .any, .any, .any, .any, .int .i64 v2, .int .i64 v3, .any, .any, .any, .any, .any, .any, .any, .any, .any, .any, .any, .any], [], 0⟩ = z07_l1 n m v0 v1 v2 v3)
  | 0 => by intros; exact run_lq_zero
  | m + 1 => by
    have ih := z07_l1_eq n m
    intro v0 v1 v2 v3
    rw [run_lq_succ]
    exact (z07_b1 n).2  m _  ih v0 v1 v2 v3
noncomputable def z07_e (n : Nat) : { B : (List Zs2) → (List Zs2) → Option Bool // ∀ (a0 : (List Zs2)) (a1 : (List Zs2)), run (z07_m n) [.at []] { slots := [(tyL Zs2.row).enc a0, (tyL Zs2.row).enc a1] ++ List.replicate (26 - [(tyL Zs2.row).enc a0, (tyL Zs2.row).enc a1].length) .any, heap := [] } = B a0 a1 } := by
  apply Subtype.mk
  intro a0 a1
  simp (maxSteps := 100000000) only [go_sem, q00, q01, q02, q03, q04, q05, q06, q10, q11, q12, q13, q14, z07_f, z07_c, Try.f102, Option.getD_some, mixed, z07_d, z07_n1, z07_l1_eq n]
  exact rfl
noncomputable def z07 : Nat → (List Zs2) → (List Zs2) → Option Bool
  | 0, _, _ => none
  | n + 1, a0, a1 => (z07_e n).1 a0 a1
theorem z07_ok : ∀ (n : Nat) (a0 : (List Zs2)) (a1 : (List Zs2)) (r : Bool), z07 n a0 a1 = some r → FnC Try.prog 102 [(tyL Zs2.row).enc a0, (tyL Zs2.row).enc a1] (fun v => v = tyB.enc r)
  | 0, _, _, _, h => by cases h
  | n + 1, a0, a1, r, h => by
    exact fnC_run (M := z07_m n) ⟨tabA_nil_ok, tabD_nil_ok, tabN_ok _, tabF_ok _, noY_ok, noE_ok⟩ Try.func102 rfl rfl ⟨(tyL Zs2.row).nb 0 _, (tyL Zs2.row).nb 0 _, trivial⟩ Try.ntmps102 Try.results102 (fun σ hs => outR_ok (P := Try.prog) (rs := [.tmp 4]) (t := tyB) (σ := σ) (r := r) hs) (((z07_e n).2 a0 a1).trans h)
end Go.Abs
namespace Go.Abs
open Go.Proofs
set_option maxRecDepth 100000
set_option maxHeartbeats 4000000
set_option linter.unusedSimpArgs false
set_option linter.unusedVariables false
noncomputable def z0u_n1 : Nrm := ⟨[], [], [zK, zK, zA, zA, zA, zK, zA, zA, zA, zA, zA, zA, zA, zA, zA, zA, zA, zA, zA, zA, zK, zK, zA, zA, zA, zA, zA, zA, zA, zA, zA, zA, zA, zA, zA, zA], [oA Term.row], none⟩
noncomputable def z0u_m (n : Nat) : Mach (List Term) where
  body := (Try.f47.body).getD .skip
  P := Try.prog
  cl := tabA []
  cd := tabD []
  nrm := tabN [([0, 1, 0, 1, 1, 1], z0u_n1)]
  cut := tabF []
  n := n
  out := outR Try.prog [.tmp 4] (tyL Term.row)
theorem z0u_f (n : Nat) : (z0u_m n).P = Try.prog ∧ (z0u_m n).cl = tabA [] ∧ (z0u_m n).cd = tabD [] ∧ (z0u_m n).nrm = tabN [([0, 1, 0, 1, 1, 1], z0u_n1)] ∧ (z0u_m n).cut = tabF [] ∧ (z0u_m n).n = n ∧ (z0u_m n).out = outR Try.prog [.tmp 4] (tyL Term.row) := ⟨rfl, rfl, rfl, rfl, rfl, rfl, rfl⟩
theorem z0u_c (n : Nat) : (z0u_m n).body = (Try.f47.body).getD .skip := rfl
noncomputable def z0u_b1 (n : Nat) : { B : (Int → Int → Int → Int → (List Term) → Option (List Term)) → Int → Int → Int → Int → (List Term) → Option (List Term) // ∀ m X0, (∀ (v0 : Int) (v1 : Int) (v2 : Int) (v3 : Int) (r0 : List Term) (c0 : Nat), c0 = r0.length → run (z0u_m n) [.lq m [0, 1, 0, 1, 1, 1], .blk 0, .cut [1, 1, 1, 1], .at [1, 1, 1, 1]] ⟨[.int .i64 v0, .int .i64 v1, .any, .any, .any, .acc 0 c0, .any, .any, .any, .any, .any, .any, .any, .any, .any, .any, .any, .any, .any, .any, .int .i64 v2, .int .i64 v3, .any, .any, .any, .any, .any, .any, .any, .any, .any, .any, .any, .any, .any, .any], [.acc false 5 (mp Term.cells r0)], 0⟩ = X0 v0 v1 v2 v3 r0) → ∀ (v0 : Int) (v1 : Int) (v2 : Int) (v3 : Int) (r0 : List Term), run (z0u_m n) [.at [0, 0, 1, 0, 1, 1, 1], .lp m [0, 1, 0, 1, 1, 1], .blk 0, .cut [1, 1, 1, 1], .at [1, 1, 1, 1]] ⟨[.int .i64 v0, .int .i64 v1, .any, .any, .any, .acc 0 r0.length, .any, .any, .any, .any, .any, .any, .any, .any, .any, .any, .any, .any, .any, .any, .int .i64 v2, .int .i64 v3, .any, .any, .any, .any, .any, .any, .any, .any, .any, .any, .any, .any, .any, .any], [.acc false 5 (mp Term.cells r0)], 0⟩ = B X0 v0 v1 v2 v3 r0 } := by
  apply Subtype.mk
  intro m X0 ih v0 v1 v2 v3 r0
  simp (maxSteps := 100000000) only [go_sem, q00, q01, q02, q03, q04, q05, q06, q10, q11, q12, q13, q14, z0u_f, z0u_c, Try.f47, Option.getD_some, mixed, z0u_n1, ih]
  exact rfl
noncomputable def z0u_l1 (n : Nat) : Nat → Int → Int → Int → Int → (List Term) → Option (List Term)
  | 0, _, _, _, _, _ => none
  | m + 1, v0, v1, v2, v3, r0 => (z0u_b1 n).1 (z0u_l1 n m) v0 v1 v2 v3 r0
theorem z0u_l1_eq (n : Nat) : ∀ (m : Nat), (∀ (v0 : Int) (v1 : Int) (v2 : Int) (v3 : Int) (r0 : List Term) (c0 : Nat), c0 = r0.length → run (z0u_m n) [.lq m [0, 1, 0, 1, 1, 1], .blk 0, .cut [1, 1, 1, 1], .at [1, 1, 1, 1]] ⟨[.int .i64 v0, .int .i64 v1, .any, .any, .any, .acc 0 c0, .any, .any, .any, .any, .any, .any, .any, .any, .any, .any, .any, .any, .any, .any, .int .i64 v2, .int .i64 v3, .any, .any, .any, .any, .any, .any, .any, .any, .any, .any, .any, .any, .any, .any], [.acc false 5 (mp Term.cells r0)], 0⟩ = z0u_l1 n m v0 v1 v2 v3 r0)
  | 0 => by intros; exact run_lq_zero
  | m + 1 => by
    have ih := z0u_l1_eq n m
    intro v0 v1 v2 v3 r0 c0 ec0
    subst ec0
    rw [run_lq_succ]
    exact (z0u_b1 n).2  m _  ih v0 v1 v2 v3 r0
noncomputable def z0u_e (n : Nat) : { B : Int → Int → Option (List Term) // ∀ (a0 : Int) (a1 : Int), run (z0u_m n) [.at []] { slots := [(tyI .i64).enc a0, (tyI .i64).enc a1] ++ List.replicate (36 - [(tyI .i64).enc a0, (tyI .i64).enc a1].length) .any, heap := [] } = B a0 a1 } := by
  apply Subtype.mk
  intro a0 a1
  simp (maxSteps := 100000000) only [go_sem, q00, q01, q02, q03, q04, q05, q06, q10, q11, q12, q13, q14, z0u_f, z0u_c, Try.f47, Option.getD_some, mixed, z0u_n1, z0u_l1_eq n]
  exact rfl
noncomputable def z0u : Nat → Int → Int → Option (List Term)
  | 0, _, _ => none
  | n + 1, a0, a1 => (z0u_e n).1 a0 a1
theorem z0u_ok : ∀ (n : Nat) (a0 : Int) (a1 : Int) (r : (List Term)), z0u n a0 a1 = some r → FnC Try.prog 47 [(tyI .i64).enc a0, (tyI .i64).enc a1] (fun v => v = (tyL Term.row).enc r)
  | 0, _, _, _, h => by cases h
  | n + 1, a0, a1, r, h => by
    exact fnC_run (M := z0u_m n) ⟨tabA_nil_ok, tabD_nil_ok, tabN_ok _, tabF_ok _, noY_ok, noE_ok⟩ Try.func47 rfl rfl ⟨(tyI .i64).nb 0 _, (tyI .i64).nb 0 _, trivial⟩ Try.ntmps47 Try.results47 (fun σ hs => outR_ok (P := Try.prog) (rs := [.tmp 4]) (t := (tyL Term.row)) (σ := σ) (r := r) hs) (((z0u_e n).2 a0 a1).trans h)

noncomputable def z0x_n1 : Nrm := ⟨[], [(1, 3, 2)], [zA, zA, zA, zA, zK, zK, zA, zA, zA, zK, zK, zA, zA, zA, zA, zA, zA, zA, zA, zA, zA, zA, zA, zA], [oK, oC [zK, zK, zK, zK, zK], oA Level.row], none⟩
noncomputable def z0x_m (n : Nat) : Mach Term where
  body := (Try.f56.body).getD .skip
  P := Try.prog
  cl := tabA []
  cd := tabD []
  nrm := tabN [([0, 1, 0, 1, 1], z0x_n1)]
  cut := tabF []
  n := n
  out := outR Try.prog [.cell 4 25] (tyC Term.cel)
theorem z0x_f (n : Nat) : (z0x_m n).P = Try.prog ∧ (z0x_m n).cl = tabA [] ∧ (z0x_m n).cd = tabD [] ∧ (z0x_m n).nrm = tabN [([0, 1, 0, 1, 1], z0x_n1)] ∧ (z0x_m n).cut = tabF [] ∧ (z0x_m n).n = n ∧ (z0x_m n).out = outR Try.prog [.cell 4 25] (tyC Term.cel) := ⟨rfl, rfl, rfl, rfl, rfl, rfl, rfl⟩
theorem z0x_c (n : Nat) : (z0x_m n).body = (Try.f56.body).getD .skip := rfl
noncomputable def z0x_b1 (n : Nat) : { B : (Int → Int → Int → Str → (List Level) → Option Term) → Int → Int → Int → Str → (List Level) → Option Term // ∀ m X0, (∀ (v0 : Int) (v1 : Int) (v2 : Int) (v3 : Str) (r2 : List Level) (c2 : Nat), c2 = r2.length → run (z0x_m n) [.lq m [0, 1, 0, 1, 1], .blk 0, .cut [1, 1, 1], .at [1, 1, 1]] ⟨[.any, .any, .any, .any, .ptr 0 0, .ptr 1 0, .any, .any, .any, .int .i64 v0, .int .i64 v1, .any, .any, .any, .any, .any, .any, .any, .any, .any, .any, .any, .any, .any], [.cells [.int .i64 0, .int .i64 0, .str (sb []), .lst true 0 [], .lst true 0 []], .cells [.int .i64 v2, .int .i64 0, .str (sb v3), .acc 2 c2, .lst true 0 []], .acc true 2 (mp Level.cells r2)], 0⟩ = X0 v0 v1 v2 v3 r2) → ∀ (v0 : Int) (v1 : Int) (v2 : Int) (v3 : Str) (r2 : List Level), run (z0x_m n) [.at [0, 0, 1, 0, 1, 1], .lp m [0, 1, 0, 1, 1], .blk 0, .cut [1, 1, 1], .at [1, 1, 1]] ⟨[.any, .any, .any, .any, .ptr 0 0, .ptr 1 0, .any, .any, .any, .int .i64 v0, .int .i64 v1, .any, .any, .any, .any, .any, .any, .any, .any, .any, .any, .any, .any, .any], [.cells [.int .i64 0, .int .i64 0, .str (sb []), .lst true 0 [], .lst true 0 []], .cells [.int .i64 v2, .int .i64 0, .str (sb v3), .acc 2 r2.length, .lst true 0 []], .acc true 2 (mp Level.cells r2)], 0⟩ = B X0 v0 v1 v2 v3 r2 } := by
  apply Subtype.mk
  intro m X0 ih v0 v1 v2 v3 r2
  simp (maxSteps := 100000000) only [go_sem, q00, q01, q02, q03, q04, q05, q06, q10, q11, q12, q13, q14, z0x_f, z0x_c, Try.f56, Option.getD_some, mixed, z0x_n1, ih]
  exact rfl
noncomputable def z0x_l1 (n : Nat) : Nat → Int → Int → Int → Str → (List Level) → Option Term
  | 0, _, _, _, _, _ => none
  | m + 1, v0, v1, v2, v3, r2 => (z0x_b1 n).1 (z0x_l1 n m) v0 v1 v2 v3 r2
theorem z0x_l1_eq (n : Nat) : ∀ (m : Nat), (∀ (v0 : Int) (v1 : Int) (v2 : Int) (v3 : Str) (r2 : List Level) (c2 : Nat), c2 = r2.length → run (z0x_m n) [.lq m [0, 1, 0, 1, 1], .blk 0, .cut [1, 1, 1], .at [1, 1, 1]] ⟨[.any, .any, .any, .any, .ptr 0 0, .ptr 1 0, .any, .any, .any, .int .i64 v0, .int .i64 v1, .any, .any, .any, .any, .any, .any, .any, .any, .any, .any, .any, .any, .any], [.cells [.int .i64 0, .int .i64 0, .str (sb []), .lst true 0 [], .lst true 0 []], .cells [.int .i64 v2, .int .i64 0, .str (sb v3), .acc 2 c2, .lst true 0 []], .acc true 2 (mp Level.cells r2)], 0⟩ = z0x_l1 n m v0 v1 v2 v3 r2)
  | 0 => by intros; exact run_lq_zero
  | m + 1 => by
    have ih := z0x_l1_eq n m
    intro v0 v1 v2 v3 r2 c2 ec2
    subst ec2
    rw [run_lq_succ]
    exact (z0x_b1 n).2  m _  ih v0 v1 v2 v3 r2
noncomputable def z0x_e (n : Nat) : { B : Str → Int → Option Term // ∀ (a0 : Str) (a1 : Int), run (z0x_m n) [.at []] { slots := [tyS.enc a0, (tyI .i64).enc a1] ++ List.replicate (24 - [tyS.enc a0, (tyI .i64).enc a1].length) .any, heap := [] } = B a0 a1 } := by
  apply Subtype.mk
  intro a0 a1
  simp (maxSteps := 100000000) only [go_sem, q00, q01, q02, q03, q04, q05, q06, q10, q11, q12, q13, q14, z0x_f, z0x_c, Try.f56, Option.getD_some, mixed, z0x_n1, z0x_l1_eq n]
  exact rfl
noncomputable def z0x : Nat → Str → Int → Option Term
  | 0, _, _ => none
  | n + 1, a0, a1 => (z0x_e n).1 a0 a1
theorem z0x_ok : ∀ (n : Nat) (a0 : Str) (a1 : Int) (r : Term), z0x n a0 a1 = some r → FnC Try.prog 56 [tyS.enc a0, (tyI .i64).enc a1] (fun v => v = (tyC Term.cel).enc r)
  | 0, _, _, _, h => by cases h
  | n + 1, a0, a1, r, h => by
    exact fnC_run (M := z0x_m n) ⟨tabA_nil_ok, tabD_nil_ok, tabN_ok _, tabF_ok _, noY_ok, noE_ok⟩ Try.func56 rfl rfl ⟨tyS.nb 0 _, (tyI .i64).nb 0 _, trivial⟩ Try.ntmps56 Try.results56 (fun σ hs => outR_ok (P := Try.prog) (rs := [.cell 4 25]) (t := (tyC Term.cel)) (σ := σ) (r := r) hs) (((z0x_e n).2 a0 a1).trans h)

noncomputable def z0n_n1 : Nrm := ⟨[], [], [zA, zA, zK, zA, zK, zA, zA, zT (tyL Term.row), zK, zK, zA, zA, zA, zA, zA, zA, zA, zA, zA], [oT Term.cel, oK], none⟩
noncomputable def z0n_m (n : Nat) : Mach Term where
  body := (Try.f46.body).getD .skip
  P := Try.prog
  cl := tabA []
  cd := tabD []
  nrm := tabN [([0, 1, 0, 1], z0n_n1)]
  cut := tabF []
  n := n
  out := outR Try.prog [.cell 4 25] (tyC Term.cel)
theorem z0n_f (n : Nat) : (z0n_m n).P = Try.prog ∧ (z0n_m n).cl = tabA [] ∧ (z0n_m n).cd = tabD [] ∧ (z0n_m n).nrm = tabN [([0, 1, 0, 1], z0n_n1)] ∧ (z0n_m n).cut = tabF [] ∧ (z0n_m n).n = n ∧ (z0n_m n).out = outR Try.prog [.cell 4 25] (tyC Term.cel) := ⟨rfl, rfl, rfl, rfl, rfl, rfl, rfl⟩
theorem z0n_c (n : Nat) : (z0n_m n).body = (Try.f46.body).getD .skip := rfl
noncomputable def z0n_b1 (n : Nat) : { B : ((List Term) → Int → Int → Term → Option Term) → (List Term) → Int → Int → Term → Option Term // ∀ m X0, (∀ (v0 : List Term) (v1 : Int) (v2 : Int) (o0 : Term), run (z0n_m n) [.lq m [0, 1, 0, 1], .blk 0, .cut [1, 1], .at [1, 1]] ⟨[.any, .any, .ptr 0 0, .any, .ptr 1 0, .any, .any, .lst false 5 (mp Term.cells v0), .int .i64 v1, .int .i64 v2, .any, .any, .any, .any, .any, .any, .any, .any, .any], [.cells (Term.cells o0), .cells [.int .i64 0, .int .i64 0, .str (sb []), .lst true 0 [], .lst true 0 []]], 0⟩ = X0 v0 v1 v2 o0) → ∀ (v0 : List Term) (v1 : Int) (v2 : Int) (o0 : Term), run (z0n_m n) [.at [0, 0, 1, 0, 1], .lp m [0, 1, 0, 1], .blk 0, .cut [1, 1], .at [1, 1]] ⟨[.any, .any, .ptr 0 0, .any, .ptr 1 0, .any, .any, .lst false 5 (mp Term.cells v0), .int .i64 v1, .int .i64 v2, .any, .any, .any, .any, .any, .any, .any, .any, .any], [.cells (Term.cells o0), .cells [.int .i64 0, .int .i64 0, .str (sb []), .lst true 0 [], .lst true 0 []]], 0⟩ = B X0 v0 v1 v2 o0 } := by
  apply Subtype.mk
  intro m X0 ih v0 v1 v2 o0
  simp (maxSteps := 100000000) only [go_sem, q00, q01, q02, q03, q04, q05, q06, q10, q11, q12, q13, q14, z0n_f, z0n_c, Try.f46, Option.getD_some, mixed, z0n_n1, ih]
  exact rfl
noncomputable def z0n_l1 (n : Nat) : Nat → (List Term) → Int → Int → Term → Option Term
  | 0, _, _, _, _ => none
  | m + 1, v0, v1, v2, o0 => (z0n_b1 n).1 (z0n_l1 n m) v0 v1 v2 o0
theorem z0n_l1_eq (n : Nat) : ∀ (m : Nat), (∀ (v0 : List Term) (v1 : Int) (v2 : Int) (o0 : Term), run (z0n_m n) [.lq m [0, 1, 0, 1], .blk 0, .cut [1, 1], .at [1, 1]] ⟨[.any, .any, .ptr 0 0, .any, .ptr 1 0, .any, .any, .lst false 5 (mp Term.cells v0), .int .i64 v1, .int .i64 v2, .any, .any, .any, .any, .any, .any, .any, .any, .any], [.cells (Term.cells o0), .cells [.int .i64 0, .int .i64 0, .str (sb []), .lst true 0 [], .lst true 0 []]], 0⟩ = z0n_l1 n m v0 v1 v2 o0)
  | 0 => by intros; exact run_lq_zero
  | m + 1 => by
    have ih := z0n_l1_eq n m
    intro v0 v1 v2 o0
    rw [run_lq_succ]
    exact (z0n_b1 n).2  m _  ih v0 v1 v2 o0
noncomputable def z0n_e (n : Nat) : { B : Term → (List Term) → Option Term // ∀ (a0 : Term) (a1 : (List Term)), run (z0n_m n) [.at []] { slots := [(tyC Term.cel).enc a0, (tyL Term.row).enc a1] ++ List.replicate (19 - [(tyC Term.cel).enc a0, (tyL Term.row).enc a1].length) .any, heap := [] } = B a0 a1 } := by
  apply Subtype.mk
  intro a0 a1
  simp (maxSteps := 100000000) only [go_sem, q00, q01, q02, q03, q04, q05, q06, q10, q11, q12, q13, q14, z0n_f, z0n_c, Try.f46, Option.getD_some, mixed, z0n_n1, z0n_l1_eq n]
  exact rfl
noncomputable def z0n : Nat → Term → (List Term) → Option Term
  | 0, _, _ => none
  | n + 1, a0, a1 => (z0n_e n).1 a0 a1
theorem z0n_ok : ∀ (n : Nat) (a0 : Term) (a1 : (List Term)) (r : Term), z0n n a0 a1 = some r → FnC Try.prog 46 [(tyC Term.cel).enc a0, (tyL Term.row).enc a1] (fun v => v = (tyC Term.cel).enc r)
  | 0, _, _, _, h => by cases h
  | n + 1, a0, a1, r, h => by
    exact fnC_run (M := z0n_m n) ⟨tabA_nil_ok, tabD_nil_ok, tabN_ok _, tabF_ok _, noY_ok, noE_ok⟩ Try.func46 rfl rfl ⟨(tyC Term.cel).nb 0 _, (tyL Term.row).nb 0 _, trivial⟩ Try.ntmps46 Try.results46 (fun σ hs => outR_ok (P := Try.prog) (rs := [.cell 4 25]) (t := (tyC Term.cel)) (σ := σ) (r := r) hs) (((z0n_e n).2 a0 a1).trans h)

noncomputable def z0v_m (n : Nat) : Mach Int where
  body := (Try.f66.body).getD .skip
  P := Try.prog
  cl := tabA []
  cd := tabD []
  nrm := tabN []
  cut := tabF [([1, 1], [0])]
  n := n
  out := outR Try.prog [.tmp 2] (tyK1 103 (tyP (cI .i64)))
theorem z0v_f (n : Nat) : (z0v_m n).P = Try.prog ∧ (z0v_m n).cl = tabA [] ∧ (z0v_m n).cd = tabD [] ∧ (z0v_m n).nrm = tabN [] ∧ (z0v_m n).cut = tabF [([1, 1], [0])] ∧ (z0v_m n).n = n ∧ (z0v_m n).out = outR Try.prog [.tmp 2] (tyK1 103 (tyP (cI .i64))) := ⟨rfl, rfl, rfl, rfl, rfl, rfl, rfl⟩
theorem z0v_c (n : Nat) : (z0v_m n).body = (Try.f66.body).getD .skip := rfl
noncomputable def z0v_e (n : Nat) : { B : Int → Option Int // ∀ (a0 : Int), run (z0v_m n) [.at []] { slots := [(tyI .i64).enc a0] ++ List.replicate (4 - [(tyI .i64).enc a0].length) .any, heap := [] } = B a0 } := by
  apply Subtype.mk
  intro a0
  simp (maxSteps := 100000000) only [go_sem, q00, q01, q02, q03, q04, q05, q06, q10, q11, q12, q13, q14, z0v_f, z0v_c, Try.f66, Option.getD_some, mixed]
  exact rfl
noncomputable def z0v : Nat → Int → Option Int
  | 0, _ => none
  | n + 1, a0 => (z0v_e n).1 a0
theorem z0v_ok : ∀ (n : Nat) (a0 : Int) (r : Int), z0v n a0 = some r → FnC Try.prog 66 [(tyI .i64).enc a0] (fun v => v = (tyK1 103 (tyP (cI .i64))).enc r)
  | 0, _, _, h => by cases h
  | n + 1, a0, r, h => by
    exact fnC_run (M := z0v_m n) ⟨tabA_nil_ok, tabD_nil_ok, tabN_ok _, tabF_ok _, noY_ok, noE_ok⟩ Try.func66 rfl rfl ⟨(tyI .i64).nb 0 _, trivial⟩ Try.ntmps66 Try.results66 (fun σ hs => outR_ok (P := Try.prog) (rs := [.tmp 2]) (t := (tyK1 103 (tyP (cI .i64)))) (σ := σ) (r := r) hs) (((z0v_e n).2 a0).trans h)

noncomputable def z08_m (n : Nat) : Mach (List Term) where
  body := (Try.f104.body).getD .skip
  P := Try.prog
  cl := tabA []
  cd := tabD []
  nrm := tabN []
  cut := tabF [([1, 1], [0])]
  n := n
  out := outR Try.prog [.tmp 2] (tyK1 117 (tyP (cL Term.row)))
theorem z08_f (n : Nat) : (z08_m n).P = Try.prog ∧ (z08_m n).cl = tabA [] ∧ (z08_m n).cd = tabD [] ∧ (z08_m n).nrm = tabN [] ∧ (z08_m n).cut = tabF [([1, 1], [0])] ∧ (z08_m n).n = n ∧ (z08_m n).out = outR Try.prog [.tmp 2] (tyK1 117 (tyP (cL Term.row))) := ⟨rfl, rfl, rfl, rfl, rfl, rfl, rfl⟩
theorem z08_c (n : Nat) : (z08_m n).body = (Try.f104.body).getD .skip := rfl
noncomputable def z08_e (n : Nat) : { B : (List Term) → Option (List Term) // ∀ (a0 : (List Term)), run (z08_m n) [.at []] { slots := [(tyL Term.row).enc a0] ++ List.replicate (4 - [(tyL Term.row).enc a0].length) .any, heap := [] } = B a0 } := by
  apply Subtype.mk
  intro a0
  simp (maxSteps := 100000000) only [go_sem, q00, q01, q02, q03, q04, q05, q06, q10, q11, q12, q13, q14, z08_f, z08_c, Try.f104, Option.getD_some, mixed]
  exact rfl
noncomputable def z08 : Nat → (List Term) → Option (List Term)
  | 0, _ => none
  | n + 1, a0 => (z08_e n).1 a0
theorem z08_ok : ∀ (n : Nat) (a0 : (List Term)) (r : (List Term)), z08 n a0 = some r → FnC Try.prog 104 [(tyL Term.row).enc a0] (fun v => v = (tyK1 117 (tyP (cL Term.row))).enc r)
  | 0, _, _, h => by cases h
  | n + 1, a0, r, h => by
    exact fnC_run (M := z08_m n) ⟨tabA_nil_ok, tabD_nil_ok, tabN_ok _, tabF_ok _, noY_ok, noE_ok⟩ Try.func104 rfl rfl ⟨(tyL Term.row).nb 0 _, trivial⟩ Try.ntmps104 Try.results104 (fun σ hs => outR_ok (P := Try.prog) (rs := [.tmp 2]) (t := (tyK1 117 (tyP (cL Term.row)))) (σ := σ) (r := r) hs) (((z08_e n).2 a0).trans h)

noncomputable def z0h_k0_1_0_1 : LoopC := (lkAt [] (sub [0, 1, 0, 1] ((Try.f103.body).getD .skip)))
theorem z0h_k0_1_0_1_f : z0h_k0_1_0_1.ps.size = 2 ∧ ∀ j : Int, pendOf z0h_k0_1_0_1.js j = none := ⟨by kernel_rfl, fun j => (by show pendOf [] j = none; unfold pendOf lookJ; cases (j == 0) <;> rfl)⟩
noncomputable def z04_as : AL (Int × (Term × Unit)) := (alT (tyI .i64) (alT (tyC Term.cel) alN))
noncomputable def z04_os : OL ((Int × Unit) × ((Term × Unit) × Unit)) := (olC (ogL0 z0h_k0_1_0_1 (alZ (alZ (alT (tyP (cI .i64)) (alZ (alP 1 (alZs 13 alN))))))) (olC (ogC (alC Term.cel 5 alN)) olN))
noncomputable def z04_o1 : OL (((Int × Unit) × Int) × ((Term × Unit) × Unit)) := (olC (ogL z0h_k0_1_0_1 (alZ (alZ (alT (tyP (cI .i64)) (alZ (alP 1 (alZs 13 alN))))))) (olC (ogC (alC Term.cel 5 alN)) olN))
noncomputable def z04_m (n : Nat) : Mach ((((Int × Unit) × Int) × ((Term × Unit) × Unit)) × (Bool × Unit)) where
  body := .seq (asgnC (sub [0, 1, 0, 1] ((Try.f103.body).getD .skip))) (bdyC (sub [0, 1, 0, 1] ((Try.f103.body).getD .skip)))
  P := Try.prog
  cl := tabA []
  cd := tabD []
  nrm := tabN []
  cut := tabF []
  n := n
  out := (fun _ => none)
  outR := outRd [] [] [0, 1] 2 z04_o1
theorem z04_f (n : Nat) : (z04_m n).P = Try.prog ∧ (z04_m n).cl = tabA [] ∧ (z04_m n).cd = tabD [] ∧ (z04_m n).nrm = tabN [] ∧ (z04_m n).cut = tabF [] ∧ (z04_m n).n = n ∧ (z04_m n).out = (fun _ => none) ∧ (z04_m n).outR = outRd [] [] [0, 1] 2 z04_o1 := ⟨rfl, rfl, rfl, rfl, rfl, rfl, rfl, rfl⟩
theorem z04_c (n : Nat) : (z04_m n).body = .seq (asgnC (sub [0, 1, 0, 1] ((Try.f103.body).getD .skip))) (bdyC (sub [0, 1, 0, 1] ((Try.f103.body).getD .skip))) := rfl
theorem z04_s : Code.seq (asgnC (sub [0, 1, 0, 1] ((Try.f103.body).getD .skip))) (bdyC (sub [0, 1, 0, 1] ((Try.f103.body).getD .skip))) = Code.seq z0h_k0_1_0_1.assign z0h_k0_1_0_1.body := by kernel_rfl
noncomputable def z04_e (n : Nat) : { B : Int → Term → Int → Term → Option ((((Int × Unit) × Int) × ((Term × Unit) × Unit)) × (Bool × Unit)) // ∀ (a0 : Int) (a1 : Term) (o0 : Int) (o1 : Term), run (z04_m n) [.at [0], .rb, .at [1], .rd] { slots := setPs ((alZ (alZ (alT (tyP (cI .i64)) (alZ (alP 1 (alZs 13 alN)))))).enc (z04_os.lens ((o0, ()), (o1, ()), ())) (o0, ())) [10, 11] (z04_as.enc (z04_os.lens ((o0, ()), (o1, ()), ())) (a0, a1, ())), heap := (z04_os.enc (z04_os.lens ((o0, ()), (o1, ()), ())) ((o0, ()), (o1, ()), ())), low := (z04_os.enc (z04_os.lens ((o0, ()), (o1, ()), ())) ((o0, ()), (o1, ()), ())).length } = B a0 a1 o0 o1 } := by
  apply Subtype.mk
  intro a0 a1 o0 o1
  simp (maxSteps := 100000000) only [go_sem, q00, q01, q02, q03, q04, q05, q06, q10, q11, q12, q13, q14, z04_f, z04_c, Try.f103, Option.getD_some, mixed, z04_as, z04_os, z04_o1, z0h_k0_1_0_1_f]
  exact rfl
noncomputable def z04 : Nat → Int → Term → Int → Term → Option ((((Int × Unit) × Int) × ((Term × Unit) × Unit)) × (Bool × Unit))
  | 0, _, _, _, _ => none
  | n + 1, a0, a1, o0, o1 => (z04_e n).1 a0 a1 o0 o1
theorem z04_ok : ∀ (n : Nat) (a0 : Int) (a1 : Term) (o0 : Int) (o1 : Term) (r : ((((Int × Unit) × Int) × ((Term × Unit) × Unit)) × (Bool × Unit))), z04 n a0 a1 o0 o1 = some r → FnT Try.prog (Rounds Try.prog) (z04_as.enc (z04_os.lens ((o0, ()), (o1, ()), ())) (a0, a1, ())) (z04_os.enc (z04_os.lens ((o0, ()), (o1, ()), ())) ((o0, ()), (o1, ()), ())) (fun o H' => o = .ret (tupOf ((alT tyB alN).enc (z04_o1.lens r.1) r.2)) ∧ H' = z04_o1.enc (z04_o1.lens r.1) r.1)
  | 0, _, _, _, _, _, h => by cases h
  | n + 1, a0, a1, o0, o1, r, h => by
    exact fnT_run (M := z04_m n) (lk := z0h_k0_1_0_1) (slots := ((alZ (alZ (alT (tyP (cI .i64)) (alZ (alP 1 (alZs 13 alN)))))).enc (z04_os.lens ((o0, ()), (o1, ()), ())) (o0, ()))) ⟨tabA_nil_ok, tabD_nil_ok, tabN_ok _, tabF_ok _, noY_ok, noE_ok⟩ z04_s (by kernel_rfl) ⟨by kernel_rfl, by kernel_rfl⟩ rfl (nbL_le (Nat.le_trans (of_decide_eq_true (by kernel_rfl)) (Nat.le_of_eq (z04_os.sz _ _).symm)) _ (z04_as.nb _ _)) (fun x hx => objNb_le' (Nat.le_trans (of_decide_eq_true (by kernel_rfl)) (Nat.le_of_eq (z04_os.sz _ _).symm)) _ (z04_os.nb _ _ x hx)) (fun e σ hs => outRd_ok (js := []) (pos := []) (base := [0, 1]) (low := 2) (os := z04_o1) (e := e) (σ := σ) (r := r) (by rfl) hs) (((z04_e n).2 a0 a1 o0 o1).trans h)
end Go.Abs
namespace Go.Abs
open Go.Proofs
set_option maxRecDepth 100000
set_option maxHeartbeats 4000000
set_option linter.unusedSimpArgs false
set_option linter.unusedVariables false
noncomputable def z0g_n1 : Nrm := ⟨[], [], [zK, zK, zA, zA, zA, zK, zA, zA, zA, zA, zA, zA, zA, zA, zA, zA, zA, zA, zA, zA, zK, zK, zA, zA, zA, zA, zA, zA, zA, zA, zA, zA, zA, zA, zA, zA], [oA Term.row], none⟩
noncomputable def z0g_m (n : Nat) : Mach (((List Term) × Unit) × Unit) where
  body := (Try.f47.body).getD .skip
  P := Try.prog
  cl := tabA []
  cd := tabD []
  nrm := tabN [([0, 1, 0, 1, 1, 1], z0g_n1)]
  cut := tabF []
  n := n
  out := outH Try.prog [.tmp 4] 0 Term.row (rsA 0 (fun (b : ((List Term) × Unit)) => b.1.length) rsN)
theorem z0g_f (n : Nat) : (z0g_m n).P = Try.prog ∧ (z0g_m n).cl = tabA [] ∧ (z0g_m n).cd = tabD [] ∧ (z0g_m n).nrm = tabN [([0, 1, 0, 1, 1, 1], z0g_n1)] ∧ (z0g_m n).cut = tabF [] ∧ (z0g_m n).n = n ∧ (z0g_m n).out = outH Try.prog [.tmp 4] 0 Term.row (rsA 0 (fun (b : ((List Term) × Unit)) => b.1.length) rsN) := ⟨rfl, rfl, rfl, rfl, rfl, rfl, rfl⟩
theorem z0g_c (n : Nat) : (z0g_m n).body = (Try.f47.body).getD .skip := rfl
noncomputable def z0g_b1 (n : Nat) : { B : (Int → Int → Int → Int → (List Term) → Option (((List Term) × Unit) × Unit)) → Int → Int → Int → Int → (List Term) → Option (((List Term) × Unit) × Unit) // ∀ m X0, (∀ (v0 : Int) (v1 : Int) (v2 : Int) (v3 : Int) (r0 : List Term) (c0 : Nat), c0 = r0.length → run (z0g_m n) [.lq m [0, 1, 0, 1, 1, 1], .blk 0, .cut [1, 1, 1, 1], .at [1, 1, 1, 1]] ⟨[.int .i64 v0, .int .i64 v1, .any, .any, .any, .acc 0 c0, .any, .any, .any, .any, .any, .any, .any, .any, .any, .any, .any, .any, .any, .any, .int .i64 v2, .int .i64 v3, .any, .any, .any, .any, .any, .any, .any, .any, .any, .any, .any, .any, .any, .any], [.acc false 5 (mp Term.cells r0)], 0⟩ = X0 v0 v1 v2 v3 r0) → ∀ (v0 : Int) (v1 : Int) (v2 : Int) (v3 : Int) (r0 : List Term), run (z0g_m n) [.at [0, 0, 1, 0, 1, 1, 1], .lp m [0, 1, 0, 1, 1, 1], .blk 0, .cut [1, 1, 1, 1], .at [1, 1, 1, 1]] ⟨[.int .i64 v0, .int .i64 v1, .any, .any, .any, .acc 0 r0.length, .any, .any, .any, .any, .any, .any, .any, .any, .any, .any, .any, .any, .any, .any, .int .i64 v2, .int .i64 v3, .any, .any, .any, .any, .any, .any, .any, .any, .any, .any, .any, .any, .any, .any], [.acc false 5 (mp Term.cells r0)], 0⟩ = B X0 v0 v1 v2 v3 r0 } := by
  apply Subtype.mk
  intro m X0 ih v0 v1 v2 v3 r0
  simp (maxSteps := 100000000) only [go_sem, q00, q01, q02, q03, q04, q05, q06, q10, q11, q12, q13, q14, z0g_f, z0g_c, Try.f47, Option.getD_some, mixed, z0g_n1, ih]
  exact rfl
noncomputable def z0g_l1 (n : Nat) : Nat → Int → Int → Int → Int → (List Term) → Option (((List Term) × Unit) × Unit)
  | 0, _, _, _, _, _ => none
  | m + 1, v0, v1, v2, v3, r0 => (z0g_b1 n).1 (z0g_l1 n m) v0 v1 v2 v3 r0
theorem z0g_l1_eq (n : Nat) : ∀ (m : Nat), (∀ (v0 : Int) (v1 : Int) (v2 : Int) (v3 : Int) (r0 : List Term) (c0 : Nat), c0 = r0.length → run (z0g_m n) [.lq m [0, 1, 0, 1, 1, 1], .blk 0, .cut [1, 1, 1, 1], .at [1, 1, 1, 1]] ⟨[.int .i64 v0, .int .i64 v1, .any, .any, .any, .acc 0 c0, .any, .any, .any, .any, .any, .any, .any, .any, .any, .any, .any, .any, .any, .any, .int .i64 v2, .int .i64 v3, .any, .any, .any, .any, .any, .any, .any, .any, .any, .any, .any, .any, .any, .any], [.acc false 5 (mp Term.cells r0)], 0⟩ = z0g_l1 n m v0 v1 v2 v3 r0)
  | 0 => by intros; exact run_lq_zero
  | m + 1 => by
    have ih := z0g_l1_eq n m
    intro v0 v1 v2 v3 r0 c0 ec0
    subst ec0
    rw [run_lq_succ]
    exact (z0g_b1 n).2  m _  ih v0 v1 v2 v3 r0
noncomputable def z0g_e (n : Nat) : { B : Int → Int → Option (((List Term) × Unit) × Unit) // ∀ (a0 : Int) (a1 : Int), run (z0g_m n) [.at []] { slots := (((asT (tyI .i64) (asT (tyI .i64) asN)) : ASpec Unit _).enc () (a0, a1, ())) ++ List.replicate (36 - (((asT (tyI .i64) (asT (tyI .i64) asN)) : ASpec Unit _).enc () (a0, a1, ())).length) .any, heap := (osN.enc ()), low := (osN.enc ()).length } = B a0 a1 } := by
  apply Subtype.mk
  intro a0 a1
  simp (maxSteps := 100000000) only [go_sem, q00, q01, q02, q03, q04, q05, q06, q10, q11, q12, q13, q14, z0g_f, z0g_c, Try.f47, Option.getD_some, mixed, z0g_n1, z0g_l1_eq n]
  exact rfl
noncomputable def z0g : Nat → Int → Int → Option (((List Term) × Unit) × Unit)
  | 0, _, _ => none
  | n + 1, a0, a1 => (z0g_e n).1 a0 a1
theorem z0g_ok : ∀ (n : Nat) (a0 : Int) (a1 : Int) (r : (((List Term) × Unit) × Unit)), z0g n a0 a1 = some r → FnG Try.prog 47 (((asT (tyI .i64) (asT (tyI .i64) asN)) : ASpec Unit _).enc () (a0, a1, ())) (osN.enc ()) (fun o H' => o = .ret (tupOf ((rsA 0 (fun (b : ((List Term) × Unit)) => b.1.length) rsN).enc r.1 r.2)) ∧ H' = (osC (oaT true Term.row) osN).enc r.1)
  | 0, _, _, _, h => by cases h
  | n + 1, a0, a1, r, h => by
    exact fnG_run (M := z0g_m n) ⟨tabA_nil_ok, tabD_nil_ok, tabN_ok _, tabF_ok _, noY_ok, noE_ok⟩ Try.func47 rfl rfl (by simp only [go_sem, q00, q01, q02, q03, q04, q05, q06, q10, q11, q12, q13, q14]) (osN.nb _ _) Try.ntmps47 Try.results47 (fun σ hs => outH_ok hs) (((z0g_e n).2 a0 a1).trans h)

noncomputable def z0e_m (n : Nat) : Mach (Int × Decl) where
  body := (Try.f108.body).getD .skip
  P := Try.prog
  cl := tabA []
  cd := tabD []
  nrm := tabN []
  cut := tabF [([1, 1], [1, 0])]
  n := n
  out := outR Try.prog [.tmp 4] (tyK2 125 (tyP (cI .i64)) (tyP Decl.cel))
theorem z0e_f (n : Nat) : (z0e_m n).P = Try.prog ∧ (z0e_m n).cl = tabA [] ∧ (z0e_m n).cd = tabD [] ∧ (z0e_m n).nrm = tabN [] ∧ (z0e_m n).cut = tabF [([1, 1], [1, 0])] ∧ (z0e_m n).n = n ∧ (z0e_m n).out = outR Try.prog [.tmp 4] (tyK2 125 (tyP (cI .i64)) (tyP Decl.cel)) := ⟨rfl, rfl, rfl, rfl, rfl, rfl, rfl⟩
theorem z0e_c (n : Nat) : (z0e_m n).body = (Try.f108.body).getD .skip := rfl
noncomputable def z0e_e (n : Nat) : { B : Decl → Int → Option (Int × Decl) // ∀ (a0 : Decl) (a1 : Int), run (z0e_m n) [.at []] { slots := [(tyC Decl.cel).enc a0, (tyI .i64).enc a1] ++ List.replicate (6 - [(tyC Decl.cel).enc a0, (tyI .i64).enc a1].length) .any, heap := [] } = B a0 a1 } := by
  apply Subtype.mk
  intro a0 a1
  simp (maxSteps := 100000000) only [go_sem, q00, q01, q02, q03, q04, q05, q06, q10, q11, q12, q13, q14, z0e_f, z0e_c, Try.f108, Option.getD_some, mixed]
  exact rfl
noncomputable def z0e : Nat → Decl → Int → Option (Int × Decl)
  | 0, _, _ => none
  | n + 1, a0, a1 => (z0e_e n).1 a0 a1
theorem z0e_ok : ∀ (n : Nat) (a0 : Decl) (a1 : Int) (r : (Int × Decl)), z0e n a0 a1 = some r → FnC Try.prog 108 [(tyC Decl.cel).enc a0, (tyI .i64).enc a1] (fun v => v = (tyK2 125 (tyP (cI .i64)) (tyP Decl.cel)).enc r)
  | 0, _, _, _, h => by cases h
  | n + 1, a0, a1, r, h => by
    exact fnC_run (M := z0e_m n) ⟨tabA_nil_ok, tabD_nil_ok, tabN_ok _, tabF_ok _, noY_ok, noE_ok⟩ Try.func108 rfl rfl ⟨(tyC Decl.cel).nb 0 _, (tyI .i64).nb 0 _, trivial⟩ Try.ntmps108 Try.results108 (fun σ hs => outR_ok (P := Try.prog) (rs := [.tmp 4]) (t := (tyK2 125 (tyP (cI .i64)) (tyP Decl.cel))) (σ := σ) (r := r) hs) (((z0e_e n).2 a0 a1).trans h)

noncomputable def z0t_k0_1_1_0_0_1_1_0_0_1_0_1 : LoopC := (lkAt [(1, .ret)] (sub [0, 1, 1, 0, 0, 1, 1, 0, 0, 1, 0, 1] ((Try.f73.body).getD .skip)))
theorem z0t_k0_1_1_0_0_1_1_0_0_1_0_1_f : z0t_k0_1_1_0_0_1_1_0_0_1_0_1.ps.size = 2 ∧ ∀ j : Int, pendOf z0t_k0_1_1_0_0_1_1_0_0_1_0_1.js j = bif j == 0 then none else some .ret := ⟨by kernel_rfl, fun j => rfl⟩
noncomputable def z00_os : OL (Unit × ((Str × Unit) × ((Entry × Unit) × ((Int × Unit) × Unit)))) := (olC (ogL0 z0t_k0_1_1_0_0_1_1_0_0_1_0_1 (alZs 3 (alP 1 (alP 2 (alP 3 (alZs 22 alN)))))) (olC (ogC (alC cS 1 alN)) (olC (ogC (alC Entry.cel 9 alN)) (olC (ogC (alC (cI .i64) 1 alN)) olN))))
noncomputable def z00_o1 : OL ((Unit × Int) × ((Str × Unit) × ((Entry × Unit) × ((Int × Unit) × Unit)))) := (olC (ogL z0t_k0_1_1_0_0_1_1_0_0_1_0_1 (alZs 3 (alP 1 (alP 2 (alP 3 (alZs 22 alN)))))) (olC (ogC (alC cS 1 alN)) (olC (ogC (alC Entry.cel 9 alN)) (olC (ogC (alC (cI .i64) 1 alN)) olN))))
noncomputable def z00_m (n : Nat) : Mach (((Unit × Int) × ((Str × Unit) × ((Entry × Unit) × ((Int × Unit) × Unit)))) × (Bool × Unit)) where
  body := .seq (asgnC (sub [0, 1, 1, 0, 0, 1, 1, 0, 0, 1, 0, 1] ((Try.f73.body).getD .skip))) (bdyC (sub [0, 1, 1, 0, 0, 1, 1, 0, 0, 1, 0, 1] ((Try.f73.body).getD .skip)))
  P := Try.prog
  cl := tabA []
  cd := tabD []
  nrm := tabN []
  cut := tabF []
  n := n
  out := (fun _ => none)
  outR := outRd [(1, .ret)] [] [0, 1, 2, 3] 4 z00_o1
theorem z00_f (n : Nat) : (z00_m n).P = Try.prog ∧ (z00_m n).cl = tabA [] ∧ (z00_m n).cd = tabD [] ∧ (z00_m n).nrm = tabN [] ∧ (z00_m n).cut = tabF [] ∧ (z00_m n).n = n ∧ (z00_m n).out = (fun _ => none) ∧ (z00_m n).outR = outRd [(1, .ret)] [] [0, 1, 2, 3] 4 z00_o1 := ⟨rfl, rfl, rfl, rfl, rfl, rfl, rfl, rfl⟩
theorem z00_c (n : Nat) : (z00_m n).body = .seq (asgnC (sub [0, 1, 1, 0, 0, 1, 1, 0, 0, 1, 0, 1] ((Try.f73.body).getD .skip))) (bdyC (sub [0, 1, 1, 0, 0, 1, 1, 0, 0, 1, 0, 1] ((Try.f73.body).getD .skip))) := rfl
theorem z00_s : Code.seq (asgnC (sub [0, 1, 1, 0, 0, 1, 1, 0, 0, 1, 0, 1] ((Try.f73.body).getD .skip))) (bdyC (sub [0, 1, 1, 0, 0, 1, 1, 0, 0, 1, 0, 1] ((Try.f73.body).getD .skip))) = Code.seq z0t_k0_1_1_0_0_1_1_0_0_1_0_1.assign z0t_k0_1_1_0_0_1_1_0_0_1_0_1.body := by kernel_rfl
noncomputable def z00_e (n : Nat) : { B : Str → Entry → Str → Entry → Int → Option (((Unit × Int) × ((Str × Unit) × ((Entry × Unit) × ((Int × Unit) × Unit)))) × (Bool × Unit)) // ∀ (a0 : Str) (a1 : Entry) (o0 : Str) (o1 : Entry) (o2 : Int), run (z00_m n) [.at [0], .rb, .at [1], .rd] { slots := setPs ((alZs 3 (alP 1 (alP 2 (alP 3 (alZs 22 alN))))).enc (z00_os.lens ((), (o0, ()), (o1, ()), (o2, ()), ())) ()) [20, 21] ((alT tyS (alT (tyC Entry.cel) alN)).enc (z00_os.lens ((), (o0, ()), (o1, ()), (o2, ()), ())) (a0, a1, ())), heap := (z00_os.enc (z00_os.lens ((), (o0, ()), (o1, ()), (o2, ()), ())) ((), (o0, ()), (o1, ()), (o2, ()), ())), low := (z00_os.enc (z00_os.lens ((), (o0, ()), (o1, ()), (o2, ()), ())) ((), (o0, ()), (o1, ()), (o2, ()), ())).length } = B a0 a1 o0 o1 o2 } := by
  apply Subtype.mk
  intro a0 a1 o0 o1 o2
  simp (maxSteps := 100000000) only [go_sem, q00, q01, q02, q03, q04, q05, q06, q10, q11, q12, q13, q14, z00_f, z00_c, Try.f73, Option.getD_some, mixed, z00_os, z00_o1, z0t_k0_1_1_0_0_1_1_0_0_1_0_1_f]
  exact rfl
noncomputable def z00 : Nat → Str → Entry → Str → Entry → Int → Option (((Unit × Int) × ((Str × Unit) × ((Entry × Unit) × ((Int × Unit) × Unit)))) × (Bool × Unit))
  | 0, _, _, _, _, _ => none
  | n + 1, a0, a1, o0, o1, o2 => (z00_e n).1 a0 a1 o0 o1 o2
theorem z00_ok : ∀ (n : Nat) (a0 : Str) (a1 : Entry) (o0 : Str) (o1 : Entry) (o2 : Int) (r : (((Unit × Int) × ((Str × Unit) × ((Entry × Unit) × ((Int × Unit) × Unit)))) × (Bool × Unit))), z00 n a0 a1 o0 o1 o2 = some r → FnT Try.prog (Rounds Try.prog) ((alT tyS (alT (tyC Entry.cel) alN)).enc (z00_os.lens ((), (o0, ()), (o1, ()), (o2, ()), ())) (a0, a1, ())) (z00_os.enc (z00_os.lens ((), (o0, ()), (o1, ()), (o2, ()), ())) ((), (o0, ()), (o1, ()), (o2, ()), ())) (fun o H' => o = .ret (tupOf ((alT tyB alN).enc (z00_o1.lens r.1) r.2)) ∧ H' = z00_o1.enc (z00_o1.lens r.1) r.1)
  | 0, _, _, _, _, _, _, h => by cases h
  | n + 1, a0, a1, o0, o1, o2, r, h => by
    exact fnT_run (M := z00_m n) (lk := z0t_k0_1_1_0_0_1_1_0_0_1_0_1) (slots := ((alZs 3 (alP 1 (alP 2 (alP 3 (alZs 22 alN))))).enc (z00_os.lens ((), (o0, ()), (o1, ()), (o2, ()), ())) ())) ⟨tabA_nil_ok, tabD_nil_ok, tabN_ok _, tabF_ok _, noY_ok, noE_ok⟩ z00_s (by kernel_rfl) ⟨by kernel_rfl, by kernel_rfl⟩ rfl (nbL_le (Nat.le_trans (of_decide_eq_true (by kernel_rfl)) (Nat.le_of_eq (z00_os.sz _ _).symm)) _ ((alT tyS (alT (tyC Entry.cel) alN)).nb _ _)) (fun x hx => objNb_le' (Nat.le_trans (of_decide_eq_true (by kernel_rfl)) (Nat.le_of_eq (z00_os.sz _ _).symm)) _ (z00_os.nb _ _ x hx)) (fun e σ hs => outRd_ok (js := [(1, .ret)]) (pos := []) (base := [0, 1, 2, 3]) (low := 4) (os := z00_o1) (e := e) (σ := σ) (r := r) (by rfl) hs) (((z00_e n).2 a0 a1 o0 o1 o2).trans h)

noncomputable def z22_m (n : Nat) : Mach (Level × Int) where
  body := (Try.f88.body).getD .skip
  P := Try.prog
  cl := tabA []
  cd := tabD []
  nrm := tabN []
  cut := tabF []
  n := n
  out := outR Try.prog [.cell 4 51, .tmp 5] (ty2 (tyC Level.cel) (tyI .i64))
theorem z22_f (n : Nat) : (z22_m n).P = Try.prog ∧ (z22_m n).cl = tabA [] ∧ (z22_m n).cd = tabD [] ∧ (z22_m n).nrm = tabN [] ∧ (z22_m n).cut = tabF [] ∧ (z22_m n).n = n ∧ (z22_m n).out = outR Try.prog [.cell 4 51, .tmp 5] (ty2 (tyC Level.cel) (tyI .i64)) := ⟨rfl, rfl, rfl, rfl, rfl, rfl, rfl⟩
theorem z22_c (n : Nat) : (z22_m n).body = (Try.f88.body).getD .skip := rfl
noncomputable def z22_e (n : Nat) : { B : Int → Int → Option (Level × Int) // ∀ (a0 : Int) (a1 : Int), run (z22_m n) [.at []] { slots := [(tyI .i64).enc a0, (tyI .i64).enc a1] ++ List.replicate (25 - [(tyI .i64).enc a0, (tyI .i64).enc a1].length) .any, heap := [] } = B a0 a1 } := by
  apply Subtype.mk
  intro a0 a1
  simp (maxSteps := 100000000) only [go_sem, q00, q01, q02, q03, q04, q05, q06, q10, q11, q12, q13, q14, z22_f, z22_c, Try.f88, Option.getD_some, mixed]
  exact rfl
noncomputable def z22 : Nat → Int → Int → Option (Level × Int)
  | 0, _, _ => none
  | n + 1, a0, a1 => (z22_e n).1 a0 a1
theorem z22_ok : ∀ (n : Nat) (a0 : Int) (a1 : Int) (r : (Level × Int)), z22 n a0 a1 = some r → FnC Try.prog 88 [(tyI .i64).enc a0, (tyI .i64).enc a1] (fun v => v = (ty2 (tyC Level.cel) (tyI .i64)).enc r)
  | 0, _, _, _, h => by cases h
  | n + 1, a0, a1, r, h => by
    exact fnC_run (M := z22_m n) ⟨tabA_nil_ok, tabD_nil_ok, tabN_ok _, tabF_ok _, noY_ok, noE_ok⟩ Try.func88 rfl rfl ⟨(tyI .i64).nb 0 _, (tyI .i64).nb 0 _, trivial⟩ Try.ntmps88 Try.results88 (fun σ hs => outR_ok (P := Try.prog) (rs := [.cell 4 51, .tmp 5]) (t := (ty2 (tyC Level.cel) (tyI .i64))) (σ := σ) (r := r) hs) (((z22_e n).2 a0 a1).trans h)
end Go.Abs
namespace Go.Abs
open Go.Proofs
set_option maxRecDepth 100000
set_option maxHeartbeats 4000000
set_option linter.unusedSimpArgs false
set_option linter.unusedVariables false
noncomputable def z19_m (n : Nat) : Mach Bool where
  body := (Try.f90.body).getD .skip
  P := Try.prog
  cl := tabA [(69, ent1 (tyC Term.cel) (tyI .i64) (z1v n)), (70, ent1 (tyC Term.cel) (tyI .i64) (z1i n))]
  cd := tabD []
  nrm := tabN []
  cut := tabF []
  n := n
  out := outR Try.prog [.tmp 2] tyB
theorem z19_f (n : Nat) : (z19_m n).P = Try.prog ∧ (z19_m n).cl = tabA [(69, ent1 (tyC Term.cel) (tyI .i64) (z1v n)), (70, ent1 (tyC Term.cel) (tyI .i64) (z1i n))] ∧ (z19_m n).cd = tabD [] ∧ (z19_m n).nrm = tabN [] ∧ (z19_m n).cut = tabF [] ∧ (z19_m n).n = n ∧ (z19_m n).out = outR Try.prog [.tmp 2] tyB := ⟨rfl, rfl, rfl, rfl, rfl, rfl, rfl⟩
theorem z19_c (n : Nat) : (z19_m n).body = (Try.f90.body).getD .skip := rfl
noncomputable def z19_e (n : Nat) : { B : Term → Option Bool // ∀ (a0 : Term), run (z19_m n) [.at []] { slots := [(tyC Term.cel).enc a0] ++ List.replicate (11 - [(tyC Term.cel).enc a0].length) .any, heap := [] } = B a0 } := by
  apply Subtype.mk
  intro a0
  simp (maxSteps := 100000000) only [go_sem, q00, q01, q02, q03, q04, q05, q06, q10, q11, q12, q13, q14, z19_f, z19_c, Try.f90, Option.getD_some, mixed]
  exact rfl
noncomputable def z19 : Nat → Term → Option Bool
  | 0, _ => none
  | n + 1, a0 => (z19_e n).1 a0
theorem z19_ok : ∀ (n : Nat) (a0 : Term) (r : Bool), z19 n a0 = some r → FnC Try.prog 90 [(tyC Term.cel).enc a0] (fun v => v = tyB.enc r)
  | 0, _, _, h => by cases h
  | n + 1, a0, r, h => by
    exact fnC_run (M := z19_m n) ⟨(tabA_cons_ok (ent1_ok (z1v_ok n)) (tabA_cons_ok (ent1_ok (z1i_ok n)) tabA_nil_ok)), tabD_nil_ok, tabN_ok _, tabF_ok _, noY_ok, noE_ok⟩ Try.func90 rfl rfl ⟨(tyC Term.cel).nb 0 _, trivial⟩ Try.ntmps90 Try.results90 (fun σ hs => outR_ok (P := Try.prog) (rs := [.tmp 2]) (t := tyB) (σ := σ) (r := r) hs) (((z19_e n).2 a0).trans h)

noncomputable def z0k_n1 : Nrm := ⟨[], [], [zT (tyL Level.row), zT (tyL Level.row), zA, zA, zA, zK, zA, zA, zA, zA, zA, zA, zA, zA, zA, zA, zA, zA, zA, zA, zA, zA, zA, zA, zA, zA, zA], [], none⟩
noncomputable def z0k_m (n : Nat) : Mach Bool where
  body := (Try.f62.body).getD .skip
  P := Try.prog
  cl := tabA []
  cd := tabD [(101, entD (ent2 (tyC Level.cel) (tyC Level.cel) tyB (z1r n)))]
  nrm := tabN [([0, 1, 0, 1, 1], z0k_n1)]
  cut := tabF []
  n := n
  out := outR Try.prog [.tmp 4] tyB
  isE := tabI []
theorem z0k_f (n : Nat) : (z0k_m n).P = Try.prog ∧ (z0k_m n).cl = tabA [] ∧ (z0k_m n).cd = tabD [(101, entD (ent2 (tyC Level.cel) (tyC Level.cel) tyB (z1r n)))] ∧ (z0k_m n).nrm = tabN [([0, 1, 0, 1, 1], z0k_n1)] ∧ (z0k_m n).cut = tabF [] ∧ (z0k_m n).n = n ∧ (z0k_m n).out = outR Try.prog [.tmp 4] tyB ∧ (z0k_m n).isE = tabI [] := ⟨rfl, rfl, rfl, rfl, rfl, rfl, rfl, rfl⟩
theorem z0k_c (n : Nat) : (z0k_m n).body = (Try.f62.body).getD .skip := rfl
theorem z0k_d (n : Nat) : drawP (z0k_m n) [0, 0, 0, 1, 0, 0, 1, 0, 1, 1] = true := by kernel_rfl
noncomputable def z0k_b1 (n : Nat) : { B : ((List Level) → (List Level) → Int → Option Bool) → (List Level) → (List Level) → Int → Option Bool // ∀ m X0, (∀ (v0 : List Level) (v1 : List Level) (v2 : Int), run (z0k_m n) [.lq m [0, 1, 0, 1, 1], .blk 0, .cut [1, 1, 1], .at [1, 1, 1]] ⟨[.lst false 2 (mp Level.cells v0), .lst false 2 (mp Level.cells v1), .any, .any, .any, .int .i64 v2, .any, .any, .any, .any, .any, .any, .any, .any, .any, .any, .any, .any, .any, .any, .any, .any, .any, .any, .any, .any, .any], [], 0⟩ = X0 v0 v1 v2) → ∀ (v0 : List Level) (v1 : List Level) (v2 : Int), run (z0k_m n) [.at [0, 0, 1, 0, 1, 1], .lp m [0, 1, 0, 1, 1], .blk 0, .cut [1, 1, 1], .at [1, 1, 1]] ⟨[.lst false 2 (mp Level.cells v0), .lst false 2 (mp Level.cells v1), .any, .any, .any, .int .i64 v2, .any, .any, .any, .any, .any, .any, .any, .any, .any, .any, .any, .any, .any, .any, .any, .any, .any, .any, .any, .any, .any], [], 0⟩ = B X0 v0 v1 v2 } := by
  apply Subtype.mk
  intro m X0 ih v0 v1 v2
  simp (maxSteps := 100000000) only [go_sem, q00, q01, q02, q03, q04, q05, q06, q10, q11, q12, q13, q14, z0k_f, z0k_c, Try.f62, Option.getD_some, mixed, z0k_d, z0k_n1, ih]
  exact rfl
noncomputable def z0k_l1 (n : Nat) : Nat → (List Level) → (List Level) → Int → Option Bool
  | 0, _, _, _ => none
  | m + 1, v0, v1, v2 => (z0k_b1 n).1 (z0k_l1 n m) v0 v1 v2
theorem z0k_l1_eq (n : Nat) : ∀ (m : Nat), (∀ (v0 : List Level) (v1 : List Level) (v2 : Int), run (z0k_m n) [.lq m [0, 1, 0, 1, 1], .blk 0, .cut [1, 1, 1], .at [1, 1, 1]] ⟨[.lst false 2 (mp Level.cells v0), .lst false 2 (mp Level.cells v1), .any, .any, .any, .int .i64 v2, .any, .any, .any, .any, .any, .any, .any, .any, .any, .any, .any, .any, .any, .any, .any, .any, .any, .any, .any, .any, .any], [], 0⟩ = z0k_l1 n m v0 v1 v2)
  | 0 => by intros; exact run_lq_zero
  | m + 1 => by
    have ih := z0k_l1_eq n m
    intro v0 v1 v2
    rw [run_lq_succ]
    exact (z0k_b1 n).2  m _  ih v0 v1 v2
noncomputable def z0k_e (n : Nat) : { B : (List Level) → (List Level) → Option Bool // ∀ (a0 : (List Level)) (a1 : (List Level)), run (z0k_m n) [.at []] { slots := [(tyL Level.row).enc a0, (tyL Level.row).enc a1] ++ List.replicate (27 - [(tyL Level.row).enc a0, (tyL Level.row).enc a1].length) .any, heap := [] } = B a0 a1 } := by
  apply Subtype.mk
  intro a0 a1
  simp (maxSteps := 100000000) only [go_sem, q00, q01, q02, q03, q04, q05, q06, q10, q11, q12, q13, q14, z0k_f, z0k_c, Try.f62, Option.getD_some, mixed, z0k_d, z0k_n1, z0k_l1_eq n]
  exact rfl
noncomputable def z0k : Nat → (List Level) → (List Level) → Option Bool
  | 0, _, _ => none
  | n + 1, a0, a1 => (z0k_e n).1 a0 a1
theorem z0k_ok : ∀ (n : Nat) (a0 : (List Level)) (a1 : (List Level)) (r : Bool), z0k n a0 a1 = some r → FnC Try.prog 62 [(tyL Level.row).enc a0, (tyL Level.row).enc a1] (fun v => v = tyB.enc r)
  | 0, _, _, _, h => by cases h
  | n + 1, a0, a1, r, h => by
    exact fnC_run (M := z0k_m n) ⟨tabA_nil_ok, (tabD_cons_ok (ent2_okD (z1r_ok n)) tabD_nil_ok), tabN_ok _, tabF_ok _, noY_ok, noE_ok⟩ Try.func62 rfl rfl ⟨(tyL Level.row).nb 0 _, (tyL Level.row).nb 0 _, trivial⟩ Try.ntmps62 Try.results62 (fun σ hs => outR_ok (P := Try.prog) (rs := [.tmp 4]) (t := tyB) (σ := σ) (r := r) hs) (((z0k_e n).2 a0 a1).trans h)

noncomputable def z1p_n1 : Nrm := ⟨[], [], [zA, zK, zA, zK, zK, zA, zA, zA, zA, zA, zA, zA, zA, zA, zA, zA, zA, zA, zA, zA, zA, zA, zA, zA, zA, zA, zA, zA, zA, zA, zA, zA], [oT Decl.cel], none⟩
noncomputable def z1p_m (n : Nat) : Mach Bool where
  body := (Try.f130.body).getD .skip
  P := Try.prog
  cl := tabA []
  cd := tabD [(135, entD (ent1 (tyC Term.cel) (tyI .i64) (z0z n)))]
  nrm := tabN [([0, 1, 0, 1, 1], z1p_n1)]
  cut := tabF []
  n := n
  out := outR Try.prog [.tmp 2] tyB
  isE := tabI []
theorem z1p_f (n : Nat) : (z1p_m n).P = Try.prog ∧ (z1p_m n).cl = tabA [] ∧ (z1p_m n).cd = tabD [(135, entD (ent1 (tyC Term.cel) (tyI .i64) (z0z n)))] ∧ (z1p_m n).nrm = tabN [([0, 1, 0, 1, 1], z1p_n1)] ∧ (z1p_m n).cut = tabF [] ∧ (z1p_m n).n = n ∧ (z1p_m n).out = outR Try.prog [.tmp 2] tyB ∧ (z1p_m n).isE = tabI [] := ⟨rfl, rfl, rfl, rfl, rfl, rfl, rfl, rfl⟩
theorem z1p_c (n : Nat) : (z1p_m n).body = (Try.f130.body).getD .skip := rfl
theorem z1p_d (n : Nat) : drawP (z1p_m n) [0, 0, 1, 0, 0, 1, 0, 1, 1] = true ∧ drawP (z1p_m n) [0, 1] = true := ⟨by kernel_rfl, by kernel_rfl⟩
noncomputable def z1p_b1 (n : Nat) : { B : (Bool → Int → Decl → Option Bool) → Bool → Int → Decl → Option Bool // ∀ m X0, (∀ (v0 : Bool) (v1 : Int) (o0 : Decl), run (z1p_m n) [.lq m [0, 1, 0, 1, 1], .blk 0, .cut [1, 1, 1], .at [1, 1, 1]] ⟨[.any, .ptr 0 0, .any, .bool v0, .int .i64 v1, .any, .any, .any, .any, .any, .any, .any, .any, .any, .any, .any, .any, .any, .any, .any, .any, .any, .any, .any, .any, .any, .any, .any, .any, .any, .any, .any], [.cells (Decl.cells o0)], 0⟩ = X0 v0 v1 o0) → ∀ (v0 : Bool) (v1 : Int) (o0 : Decl), run (z1p_m n) [.at [0, 0, 1, 0, 1, 1], .lp m [0, 1, 0, 1, 1], .blk 0, .cut [1, 1, 1], .at [1, 1, 1]] ⟨[.any, .ptr 0 0, .any, .bool v0, .int .i64 v1, .any, .any, .any, .any, .any, .any, .any, .any, .any, .any, .any, .any, .any, .any, .any, .any, .any, .any, .any, .any, .any, .any, .any, .any, .any, .any, .any], [.cells (Decl.cells o0)], 0⟩ = B X0 v0 v1 o0 } := by
  apply Subtype.mk
  intro m X0 ih v0 v1 o0
  simp (maxSteps := 100000000) only [go_sem, q00, q01, q02, q03, q04, q05, q06, q10, q11, q12, q13, q14, z1p_f, z1p_c, Try.f130, Option.getD_some, mixed, z1p_d, z1p_n1, ih]
  exact rfl
noncomputable def z1p_l1 (n : Nat) : Nat → Bool → Int → Decl → Option Bool
  | 0, _, _, _ => none
  | m + 1, v0, v1, o0 => (z1p_b1 n).1 (z1p_l1 n m) v0 v1 o0
theorem z1p_l1_eq (n : Nat) : ∀ (m : Nat), (∀ (v0 : Bool) (v1 : Int) (o0 : Decl), run (z1p_m n) [.lq m [0, 1, 0, 1, 1], .blk 0, .cut [1, 1, 1], .at [1, 1, 1]] ⟨[.any, .ptr 0 0, .any, .bool v0, .int .i64 v1, .any, .any, .any, .any, .any, .any, .any, .any, .any, .any, .any, .any, .any, .any, .any, .any, .any, .any, .any, .any, .any, .any, .any, .any, .any, .any, .any], [.cells (Decl.cells o0)], 0⟩ = z1p_l1 n m v0 v1 o0)
  | 0 => by intros; exact run_lq_zero
  | m + 1 => by
    have ih := z1p_l1_eq n m
    intro v0 v1 o0
    rw [run_lq_succ]
    exact (z1p_b1 n).2  m _  ih v0 v1 o0
noncomputable def z1p_e (n : Nat) : { B : Decl → Option Bool // ∀ (a0 : Decl), run (z1p_m n) [.at []] { slots := [(tyC Decl.cel).enc a0] ++ List.replicate (32 - [(tyC Decl.cel).enc a0].length) .any, heap := [] } = B a0 } := by
  apply Subtype.mk
  intro a0
  simp (maxSteps := 100000000) only [go_sem, q00, q01, q02, q03, q04, q05, q06, q10, q11, q12, q13, q14, z1p_f, z1p_c, Try.f130, Option.getD_some, mixed, z1p_d, z1p_n1, z1p_l1_eq n]
  exact rfl
noncomputable def z1p : Nat → Decl → Option Bool
  | 0, _ => none
  | n + 1, a0 => (z1p_e n).1 a0
theorem z1p_ok : ∀ (n : Nat) (a0 : Decl) (r : Bool), z1p n a0 = some r → FnC Try.prog 130 [(tyC Decl.cel).enc a0] (fun v => v = tyB.enc r)
  | 0, _, _, h => by cases h
  | n + 1, a0, r, h => by
    exact fnC_run (M := z1p_m n) ⟨tabA_nil_ok, (tabD_cons_ok (ent1_okD (z0z_ok n)) tabD_nil_ok), tabN_ok _, tabF_ok _, noY_ok, noE_ok⟩ Try.func130 rfl rfl ⟨(tyC Decl.cel).nb 0 _, trivial⟩ Try.ntmps130 Try.results130 (fun σ hs => outR_ok (P := Try.prog) (rs := [.tmp 2]) (t := tyB) (σ := σ) (r := r) hs) (((z1p_e n).2 a0).trans h)

noncomputable def z1t_n1 : Nrm := ⟨[], [], [zK, zA, zA, zK, zK, zA, zA, zA, zA, zA, zA, zA, zA, zA, zA, zA, zA, zA, zA, zA, zA, zA, zA, zA, zA, zA, zA, zA, zA, zA, zA, zA, zA, zA, zA, zA, zA, zA, zA, zA, zA, zA, zA, zA, zA], [], none⟩
noncomputable def z1t_m (n : Nat) : Mach Bool where
  body := (Try.f54.body).getD .skip
  P := Try.prog
  cl := tabA [(92, ent1 (tyI .u8) tyB (z12 n))]
  cd := tabD []
  nrm := tabN [([0, 1, 0, 1, 1, 1], z1t_n1)]
  cut := tabF []
  n := n
  out := outR Try.prog [.tmp 2] tyB
theorem z1t_f (n : Nat) : (z1t_m n).P = Try.prog ∧ (z1t_m n).cl = tabA [(92, ent1 (tyI .u8) tyB (z12 n))] ∧ (z1t_m n).cd = tabD [] ∧ (z1t_m n).nrm = tabN [([0, 1, 0, 1, 1, 1], z1t_n1)] ∧ (z1t_m n).cut = tabF [] ∧ (z1t_m n).n = n ∧ (z1t_m n).out = outR Try.prog [.tmp 2] tyB := ⟨rfl, rfl, rfl, rfl, rfl, rfl, rfl⟩
theorem z1t_c (n : Nat) : (z1t_m n).body = (Try.f54.body).getD .skip := rfl
noncomputable def z1t_b1 (n : Nat) : { B : (Str → Bool → Int → Option Bool) → Str → Bool → Int → Option Bool // ∀ m X0, (∀ (v0 : Str) (v1 : Bool) (v2 : Int), run (z1t_m n) [.lq m [0, 1, 0, 1, 1, 1], .blk 0, .cut [1, 1, 1, 1], .at [1, 1, 1, 1]] ⟨[.str (sb v0), .any, .any, .bool v1, .int .i64 v2, .any, .any, .any, .any, .any, .any, .any, .any, .any, .any, .any, .any, .any, .any, .any, .any, .any, .any, .any, .any, .any, .any, .any, .any, .any, .any, .any, .any, .any, .any, .any, .any, .any, .any, .any, .any, .any, .any, .any, .any], [], 0⟩ = X0 v0 v1 v2) → ∀ (v0 : Str) (v1 : Bool) (v2 : Int), run (z1t_m n) [.at [0, 0, 1, 0, 1, 1, 1], .lp m [0, 1, 0, 1, 1, 1], .blk 0, .cut [1, 1, 1, 1], .at [1, 1, 1, 1]] ⟨[.str (sb v0), .any, .any, .bool v1, .int .i64 v2, .any, .any, .any, .any, .any, .any, .any, .any, .any, .any, .any, .any, .any, .any, .any, .any, .any, .any, .any, .any, .any, .any, .any, .any, .any, .any, .any, .any, .any, .any, .any, .any, .any, .any, .any, .any, .any, .any, .any, .any], [], 0⟩ = B X0 v0 v1 v2 } := by
  apply Subtype.mk
  intro m X0 ih v0 v1 v2
  simp (maxSteps := 100000000) only [go_sem, q00, q01, q02, q03, q04, q05, q06, q10, q11, q12, q13, q14, z1t_f, z1t_c, Try.f54, Option.getD_some, mixed, z1t_n1, ih]
  exact rfl
noncomputable def z1t_l1 (n : Nat) : Nat → Str → Bool → Int → Option Bool
  | 0, _, _, _ => none
  | m + 1, v0, v1, v2 => (z1t_b1 n).1 (z1t_l1 n m) v0 v1 v2
theorem z1t_l1_eq (n : Nat) : ∀ (m : Nat), (∀ (v0 : Str) (v1 : Bool) (v2 : Int), run (z1t_m n) [.lq m [0, 1, 0, 1, 1, 1], .blk 0, .cut [1, 1, 1, 1], .at [1, 1, 1, 1]] ⟨[.str (sb v0), .any, .any, .bool v1, .int .i64 v2, .any, .any, .any, .any, .any, .any, .any, .any, .any, .any, .any, .any, .any, .any, .any, .any, .any, .any, .any, .any, .any, .any, .any, .any, .any, .any, .any, .any, .any, .any, .any, .any, .any, .any, .any, .any, .any, .any, .any, .any], [], 0⟩ = z1t_l1 n m v0 v1 v2)
  | 0 => by intros; exact run_lq_zero
  | m + 1 => by
    have ih := z1t_l1_eq n m
    intro v0 v1 v2
    rw [run_lq_succ]
    exact (z1t_b1 n).2  m _  ih v0 v1 v2
noncomputable def z1t_e (n : Nat) : { B : Str → Option Bool // ∀ (a0 : Str), run (z1t_m n) [.at []] { slots := [tyS.enc a0] ++ List.replicate (45 - [tyS.enc a0].length) .any, heap := [] } = B a0 } := by
  apply Subtype.mk
  intro a0
  simp (maxSteps := 100000000) only [go_sem, q00, q01, q02, q03, q04, q05, q06, q10, q11, q12, q13, q14, z1t_f, z1t_c, Try.f54, Option.getD_some, mixed, z1t_n1, z1t_l1_eq n]
  exact rfl
noncomputable def z1t : Nat → Str → Option Bool
  | 0, _ => none
  | n + 1, a0 => (z1t_e n).1 a0
theorem z1t_ok : ∀ (n : Nat) (a0 : Str) (r : Bool), z1t n a0 = some r → FnC Try.prog 54 [tyS.enc a0] (fun v => v = tyB.enc r)
  | 0, _, _, h => by cases h
  | n + 1, a0, r, h => by
    exact fnC_run (M := z1t_m n) ⟨(tabA_cons_ok (ent1_ok (z12_ok n)) tabA_nil_ok), tabD_nil_ok, tabN_ok _, tabF_ok _, noY_ok, noE_ok⟩ Try.func54 rfl rfl ⟨tyS.nb 0 _, trivial⟩ Try.ntmps54 Try.results54 (fun σ hs => outR_ok (P := Try.prog) (rs := [.tmp 2]) (t := tyB) (σ := σ) (r := r) hs) (((z1t_e n).2 a0).trans h)

noncomputable def z1y_n1 : Nrm := ⟨[], [], [zT (tyL Decl.row), zK, zA, zA, zK, zA, zK, zA, zA, zA, zA, zA, zA, zA, zA, zA, zA, zA, zA, zA, zA, zA, zA, zA, zA, zA, zA, zA], [oK], none⟩
noncomputable def z1y_m (n : Nat) : Mach (Entry × Int) where
  body := (Try.f109.body).getD .skip
  P := Try.prog
  cl := tabA [(43, ent2 (tyL rowS) tyS tyB (z24 n)), (126, ent1 (tyC Decl.cel) (tyL rowS) (z1m n)), (127, ent3 (tyC Decl.cel) (tyI .i64) tyS (tyC Entry.cel) (z1o n))]
  cd := tabD []
  nrm := tabN [([0, 1, 0, 1], z1y_n1)]
  cut := tabF []
  n := n
  out := outR Try.prog [.cell 4 111, .tmp 5] (ty2 (tyC Entry.cel) (tyI .i64))
theorem z1y_f (n : Nat) : (z1y_m n).P = Try.prog ∧ (z1y_m n).cl = tabA [(43, ent2 (tyL rowS) tyS tyB (z24 n)), (126, ent1 (tyC Decl.cel) (tyL rowS) (z1m n)), (127, ent3 (tyC Decl.cel) (tyI .i64) tyS (tyC Entry.cel) (z1o n))] ∧ (z1y_m n).cd = tabD [] ∧ (z1y_m n).nrm = tabN [([0, 1, 0, 1], z1y_n1)] ∧ (z1y_m n).cut = tabF [] ∧ (z1y_m n).n = n ∧ (z1y_m n).out = outR Try.prog [.cell 4 111, .tmp 5] (ty2 (tyC Entry.cel) (tyI .i64)) := ⟨rfl, rfl, rfl, rfl, rfl, rfl, rfl⟩
theorem z1y_c (n : Nat) : (z1y_m n).body = (Try.f109.body).getD .skip := rfl
noncomputable def z1y_b1 (n : Nat) : { B : ((List Decl) → Str → Int → Option (Entry × Int)) → (List Decl) → Str → Int → Option (Entry × Int) // ∀ m X0, (∀ (v0 : List Decl) (v1 : Str) (v2 : Int), run (z1y_m n) [.lq m [0, 1, 0, 1], .blk 0, .cut [1, 1], .at [1, 1]] ⟨[.lst false 23 (mp Decl.cells v0), .str (sb v1), .any, .any, .ptr 0 0, .any, .int .i64 v2, .any, .any, .any, .any, .any, .any, .any, .any, .any, .any, .any, .any, .any, .any, .any, .any, .any, .any, .any, .any, .any], [.cells [.int .i64 0, .int .i64 0, .int .i64 0, .int .i64 0, .int .i64 0, .int .i64 0, .str (sb []), .lst true 0 [], .lst true 0 []]], 0⟩ = X0 v0 v1 v2) → ∀ (v0 : List Decl) (v1 : Str) (v2 : Int), run (z1y_m n) [.at [0, 0, 1, 0, 1], .lp m [0, 1, 0, 1], .blk 0, .cut [1, 1], .at [1, 1]] ⟨[.lst false 23 (mp Decl.cells v0), .str (sb v1), .any, .any, .ptr 0 0, .any, .int .i64 v2, .any, .any, .any, .any, .any, .any, .any, .any, .any, .any, .any, .any, .any, .any, .any, .any, .any, .any, .any, .any, .any], [.cells [.int .i64 0, .int .i64 0, .int .i64 0, .int .i64 0, .int .i64 0, .int .i64 0, .str (sb []), .lst true 0 [], .lst true 0 []]], 0⟩ = B X0 v0 v1 v2 } := by
  apply Subtype.mk
  intro m X0 ih v0 v1 v2
  simp (maxSteps := 100000000) only [go_sem, q00, q01, q02, q03, q04, q05, q06, q10, q11, q12, q13, q14, z1y_f, z1y_c, Try.f109, Option.getD_some, mixed, z1y_n1, ih]
  exact rfl
noncomputable def z1y_l1 (n : Nat) : Nat → (List Decl) → Str → Int → Option (Entry × Int)
  | 0, _, _, _ => none
  | m + 1, v0, v1, v2 => (z1y_b1 n).1 (z1y_l1 n m) v0 v1 v2
theorem z1y_l1_eq (n : Nat) : ∀ (m : Nat), (∀ (v0 : List Decl) (v1 : Str) (v2 : Int), run (z1y_m n) [.lq m [0, 1, 0, 1], .blk 0, .cut [1, 1], .at [1, 1]] ⟨[.lst false 23 (mp Decl.cells v0), .str (sb v1), .any, .any, .ptr 0 0, .any, .int .i64 v2, .any, .any, .any, .any, .any, .any, .any, .any, .any, .any, .any, .any, .any, .any, .any, .any, .any, .any, .any, .any, .any], [.cells [.int .i64 0, .int .i64 0, .int .i64 0, .int .i64 0, .int .i64 0, .int .i64 0, .str (sb []), .lst true 0 [], .lst true 0 []]], 0⟩ = z1y_l1 n m v0 v1 v2)
  | 0 => by intros; exact run_lq_zero
  | m + 1 => by
    have ih := z1y_l1_eq n m
    intro v0 v1 v2
    rw [run_lq_succ]
    exact (z1y_b1 n).2  m _  ih v0 v1 v2
noncomputable def z1y_e (n : Nat) : { B : (List Decl) → Str → Option (Entry × Int) // ∀ (a0 : (List Decl)) (a1 : Str), run (z1y_m n) [.at []] { slots := [(tyL Decl.row).enc a0, tyS.enc a1] ++ List.replicate (28 - [(tyL Decl.row).enc a0, tyS.enc a1].length) .any, heap := [] } = B a0 a1 } := by
  apply Subtype.mk
  intro a0 a1
  simp (maxSteps := 100000000) only [go_sem, q00, q01, q02, q03, q04, q05, q06, q10, q11, q12, q13, q14, z1y_f, z1y_c, Try.f109, Option.getD_some, mixed, z1y_n1, z1y_l1_eq n]
  exact rfl
noncomputable def z1y : Nat → (List Decl) → Str → Option (Entry × Int)
  | 0, _, _ => none
  | n + 1, a0, a1 => (z1y_e n).1 a0 a1
theorem z1y_ok : ∀ (n : Nat) (a0 : (List Decl)) (a1 : Str) (r : (Entry × Int)), z1y n a0 a1 = some r → FnC Try.prog 109 [(tyL Decl.row).enc a0, tyS.enc a1] (fun v => v = (ty2 (tyC Entry.cel) (tyI .i64)).enc r)
  | 0, _, _, _, h => by cases h
  | n + 1, a0, a1, r, h => by
    exact fnC_run (M := z1y_m n) ⟨(tabA_cons_ok (ent2_ok (z24_ok n)) (tabA_cons_ok (ent1_ok (z1m_ok n)) (tabA_cons_ok (ent3_ok (z1o_ok n)) tabA_nil_ok))), tabD_nil_ok, tabN_ok _, tabF_ok _, noY_ok, noE_ok⟩ Try.func109 rfl rfl ⟨(tyL Decl.row).nb 0 _, tyS.nb 0 _, trivial⟩ Try.ntmps109 Try.results109 (fun σ hs => outR_ok (P := Try.prog) (rs := [.cell 4 111, .tmp 5]) (t := (ty2 (tyC Entry.cel) (tyI .i64))) (σ := σ) (r := r) hs) (((z1y_e n).2 a0 a1).trans h)

noncomputable def z1w_m (n : Nat) : Mach Bool where
  body := (Try.f122.body).getD .skip
  P := Try.prog
  cl := tabA []
  cd := tabD [(133, entD (ent1 (tyI .i64) (tyI .i64) (z1s n)))]
  nrm := tabN []
  cut := tabF []
  n := n
  out := outR Try.prog [.tmp 2] tyB
  isE := tabI []
theorem z1w_f (n : Nat) : (z1w_m n).P = Try.prog ∧ (z1w_m n).cl = tabA [] ∧ (z1w_m n).cd = tabD [(133, entD (ent1 (tyI .i64) (tyI .i64) (z1s n)))] ∧ (z1w_m n).nrm = tabN [] ∧ (z1w_m n).cut = tabF [] ∧ (z1w_m n).n = n ∧ (z1w_m n).out = outR Try.prog [.tmp 2] tyB ∧ (z1w_m n).isE = tabI [] := ⟨rfl, rfl, rfl, rfl, rfl, rfl, rfl, rfl⟩
theorem z1w_c (n : Nat) : (z1w_m n).body = (Try.f122.body).getD .skip := rfl
theorem z1w_d (n : Nat) : drawP (z1w_m n) [0, 0, 1] = true := by kernel_rfl
noncomputable def z1w_e (n : Nat) : { B : Term → Option Bool // ∀ (a0 : Term), run (z1w_m n) [.at []] { slots := [(tyC Term.cel).enc a0] ++ List.replicate (57 - [(tyC Term.cel).enc a0].length) .any, heap := [] } = B a0 } := by
  apply Subtype.mk
  intro a0
  simp (maxSteps := 100000000) only [go_sem, q00, q01, q02, q03, q04, q05, q06, q10, q11, q12, q13, q14, z1w_f, z1w_c, Try.f122, Option.getD_some, mixed, z1w_d]
  exact rfl
noncomputable def z1w : Nat → Term → Option Bool
  | 0, _ => none
  | n + 1, a0 => (z1w_e n).1 a0
theorem z1w_ok : ∀ (n : Nat) (a0 : Term) (r : Bool), z1w n a0 = some r → FnC Try.prog 122 [(tyC Term.cel).enc a0] (fun v => v = tyB.enc r)
  | 0, _, _, h => by cases h
  | n + 1, a0, r, h => by
    exact fnC_run (M := z1w_m n) ⟨tabA_nil_ok, (tabD_cons_ok (ent1_okD (z1s_ok n)) tabD_nil_ok), tabN_ok _, tabF_ok _, noY_ok, noE_ok⟩ Try.func122 rfl rfl ⟨(tyC Term.cel).nb 0 _, trivial⟩ Try.ntmps122 Try.results122 (fun σ hs => outR_ok (P := Try.prog) (rs := [.tmp 2]) (t := tyB) (σ := σ) (r := r) hs) (((z1w_e n).2 a0).trans h)
end Go.Abs
namespace Go.Abs
open Go.Proofs
set_option maxRecDepth 100000
set_option maxHeartbeats 4000000
set_option linter.unusedSimpArgs false
set_option linter.unusedVariables false
noncomputable def z1k_n1 : Nrm := ⟨[], [], [zA, zA, zK, zK, zA, zA, zA, zA, zK, zA, zA, zA, zA, zA, zA, zA, zA, zA, zA, zA, zA, zA, zA, zA, zA, zA, zA, zA, zA, zA, zA, zA, zA, zA, zA, zA, zA, zA, zA, zA, zA, zA, zA, zA, zA, zA, zA, zA, zA, zA, zA, zA, zA, zA, zA, zA, zA, zA, zA, zA, zA], [oT Level.cel], none⟩
noncomputable def z1k_n2 : Nrm := ⟨[], [], [zA, zK, zK, zK, zA, zA, zA, zK, zA, zA, zA, zA, zA, zA, zA, zA, zA, zA, zA, zA, zA, zA, zA, zA, zA, zA, zA, zA, zA, zA, zA, zA, zA, zA, zA, zA, zA, zA, zA, zA, zA, zA, zA, zA, zA, zA, zA, zA, zA, zA, zA, zA, zA, zA, zA, zA, zA, zA, zA, zA, zA], [oT Level.cel], none⟩
noncomputable def z1k_m (n : Nat) : Mach Int where
  body := (Try.f123.body).getD .skip
  P := Try.prog
  cl := tabA [(134, ent1 (tyC Level.cel) tyB (z1f n))]
  cd := tabD []
  nrm := tabN [([0, 1, 0, 1, 1, 1], z1k_n1), ([0, 1, 0, 1, 1], z1k_n2)]
  cut := tabF []
  n := n
  out := outR Try.prog [.tmp 6] (tyI .i64)
theorem z1k_f (n : Nat) : (z1k_m n).P = Try.prog ∧ (z1k_m n).cl = tabA [(134, ent1 (tyC Level.cel) tyB (z1f n))] ∧ (z1k_m n).cd = tabD [] ∧ (z1k_m n).nrm = tabN [([0, 1, 0, 1, 1, 1], z1k_n1), ([0, 1, 0, 1, 1], z1k_n2)] ∧ (z1k_m n).cut = tabF [] ∧ (z1k_m n).n = n ∧ (z1k_m n).out = outR Try.prog [.tmp 6] (tyI .i64) := ⟨rfl, rfl, rfl, rfl, rfl, rfl, rfl⟩
theorem z1k_c (n : Nat) : (z1k_m n).body = (Try.f123.body).getD .skip := rfl
noncomputable def z1k_b1 (n : Nat) : { B : (Int → Int → Level → Option Int) → Int → Int → Level → Option Int // ∀ m X0, (∀ (v0 : Int) (v1 : Int) (o0 : Level), run (z1k_m n) [.lq m [0, 1, 0, 1, 1, 1], .blk 2, .cut [1, 1, 1, 1], .at [1, 1, 1, 1]] ⟨[.any, .any, .int .i64 v0, .ptr 0 0, .any, .any, .any, .any, .int .i64 v1, .any, .any, .any, .any, .any, .any, .any, .any, .any, .any, .any, .any, .any, .any, .any, .any, .any, .any, .any, .any, .any, .any, .any, .any, .any, .any, .any, .any, .any, .any, .any, .any, .any, .any, .any, .any, .any, .any, .any, .any, .any, .any, .any, .any, .any, .any, .any, .any, .any, .any, .any, .any], [.cells (Level.cells o0)], 0⟩ = X0 v0 v1 o0) → ∀ (v0 : Int) (v1 : Int) (o0 : Level), run (z1k_m n) [.at [0, 0, 1, 0, 1, 1, 1], .lp m [0, 1, 0, 1, 1, 1], .blk 2, .cut [1, 1, 1, 1], .at [1, 1, 1, 1]] ⟨[.any, .any, .int .i64 v0, .ptr 0 0, .any, .any, .any, .any, .int .i64 v1, .any, .any, .any, .any, .any, .any, .any, .any, .any, .any, .any, .any, .any, .any, .any, .any, .any, .any, .any, .any, .any, .any, .any, .any, .any, .any, .any, .any, .any, .any, .any, .any, .any, .any, .any, .any, .any, .any, .any, .any, .any, .any, .any, .any, .any, .any, .any, .any, .any, .any, .any, .any], [.cells (Level.cells o0)], 0⟩ = B X0 v0 v1 o0 } := by
  apply Subtype.mk
  intro m X0 ih v0 v1 o0
  simp (maxSteps := 100000000) only [go_sem, q00, q01, q02, q03, q04, q05, q06, q10, q11, q12, q13, q14, z1k_f, z1k_c, Try.f123, Option.getD_some, mixed, z1k_n1, z1k_n2, ih]
  exact rfl
noncomputable def z1k_l1 (n : Nat) : Nat → Int → Int → Level → Option Int
  | 0, _, _, _ => none
  | m + 1, v0, v1, o0 => (z1k_b1 n).1 (z1k_l1 n m) v0 v1 o0
theorem z1k_l1_eq (n : Nat) : ∀ (m : Nat), (∀ (v0 : Int) (v1 : Int) (o0 : Level), run (z1k_m n) [.lq m [0, 1, 0, 1, 1, 1], .blk 2, .cut [1, 1, 1, 1], .at [1, 1, 1, 1]] ⟨[.any, .any, .int .i64 v0, .ptr 0 0, .any, .any, .any, .any, .int .i64 v1, .any, .any, .any, .any, .any, .any, .any, .any, .any, .any, .any, .any, .any, .any, .any, .any, .any, .any, .any, .any, .any, .any, .any, .any, .any, .any, .any, .any, .any, .any, .any, .any, .any, .any, .any, .any, .any, .any, .any, .any, .any, .any, .any, .any, .any, .any, .any, .any, .any, .any, .any, .any], [.cells (Level.cells o0)], 0⟩ = z1k_l1 n m v0 v1 o0)
  | 0 => by intros; exact run_lq_zero
  | m + 1 => by
    have ih := z1k_l1_eq n m
    intro v0 v1 o0
    rw [run_lq_succ]
    exact (z1k_b1 n).2  m _  ih v0 v1 o0
noncomputable def z1k_b2 (n : Nat) : { B : (Int → Int → Int → Level → Option Int) → Int → Int → Int → Level → Option Int // ∀ m X0, (∀ (v0 : Int) (v1 : Int) (v2 : Int) (o0 : Level), run (z1k_m n) [.lq m [0, 1, 0, 1, 1], .blk 0, .cut [1, 1, 1], .at [1, 1, 1]] ⟨[.any, .int .i64 v0, .int .i64 v1, .ptr 0 0, .any, .any, .any, .int .i64 v2, .any, .any, .any, .any, .any, .any, .any, .any, .any, .any, .any, .any, .any, .any, .any, .any, .any, .any, .any, .any, .any, .any, .any, .any, .any, .any, .any, .any, .any, .any, .any, .any, .any, .any, .any, .any, .any, .any, .any, .any, .any, .any, .any, .any, .any, .any, .any, .any, .any, .any, .any, .any, .any], [.cells (Level.cells o0)], 0⟩ = X0 v0 v1 v2 o0) → ∀ (v0 : Int) (v1 : Int) (v2 : Int) (o0 : Level), run (z1k_m n) [.at [0, 0, 1, 0, 1, 1], .lp m [0, 1, 0, 1, 1], .blk 0, .cut [1, 1, 1], .at [1, 1, 1]] ⟨[.any, .int .i64 v0, .int .i64 v1, .ptr 0 0, .any, .any, .any, .int .i64 v2, .any, .any, .any, .any, .any, .any, .any, .any, .any, .any, .any, .any, .any, .any, .any, .any, .any, .any, .any, .any, .any, .any, .any, .any, .any, .any, .any, .any, .any, .any, .any, .any, .any, .any, .any, .any, .any, .any, .any, .any, .any, .any, .any, .any, .any, .any, .any, .any, .any, .any, .any, .any, .any], [.cells (Level.cells o0)], 0⟩ = B X0 v0 v1 v2 o0 } := by
  apply Subtype.mk
  intro m X0 ih v0 v1 v2 o0
  simp (maxSteps := 100000000) only [go_sem, q00, q01, q02, q03, q04, q05, q06, q10, q11, q12, q13, q14, z1k_f, z1k_c, Try.f123, Option.getD_some, mixed, z1k_n1, z1k_n2, z1k_l1_eq n, ih]
  exact rfl
noncomputable def z1k_l2 (n : Nat) : Nat → Int → Int → Int → Level → Option Int
  | 0, _, _, _, _ => none
  | m + 1, v0, v1, v2, o0 => (z1k_b2 n).1 (z1k_l2 n m) v0 v1 v2 o0
theorem z1k_l2_eq (n : Nat) : ∀ (m : Nat), (∀ (v0 : Int) (v1 : Int) (v2 : Int) (o0 : Level), run (z1k_m n) [.lq m [0, 1, 0, 1, 1], .blk 0, .cut [1, 1, 1], .at [1, 1, 1]] ⟨[.any, .int .i64 v0, .int .i64 v1, .ptr 0 0, .any, .any, .any, .int .i64 v2, .any, .any, .any, .any, .any, .any, .any, .any, .any, .any, .any, .any, .any, .any, .any, .any, .any, .any, .any, .any, .any, .any, .any, .any, .any, .any, .any, .any, .any, .any, .any, .any, .any, .any, .any, .any, .any, .any, .any, .any, .any, .any, .any, .any, .any, .any, .any, .any, .any, .any, .any, .any, .any], [.cells (Level.cells o0)], 0⟩ = z1k_l2 n m v0 v1 v2 o0)
  | 0 => by intros; exact run_lq_zero
  | m + 1 => by
    have ih := z1k_l2_eq n m
    intro v0 v1 v2 o0
    rw [run_lq_succ]
    exact (z1k_b2 n).2  m _  ih v0 v1 v2 o0
noncomputable def z1k_e (n : Nat) : { B : Level → Int → Int → Option Int // ∀ (a0 : Level) (a1 : Int) (a2 : Int), run (z1k_m n) [.at []] { slots := [(tyC Level.cel).enc a0, (tyI .i64).enc a1, (tyI .i64).enc a2] ++ List.replicate (61 - [(tyC Level.cel).enc a0, (tyI .i64).enc a1, (tyI .i64).enc a2].length) .any, heap := [] } = B a0 a1 a2 } := by
  apply Subtype.mk
  intro a0 a1 a2
  simp (maxSteps := 100000000) only [go_sem, q00, q01, q02, q03, q04, q05, q06, q10, q11, q12, q13, q14, z1k_f, z1k_c, Try.f123, Option.getD_some, mixed, z1k_n1, z1k_n2, z1k_l1_eq n, z1k_l2_eq n]
  exact rfl
noncomputable def z1k : Nat → Level → Int → Int → Option Int
  | 0, _, _, _ => none
  | n + 1, a0, a1, a2 => (z1k_e n).1 a0 a1 a2
theorem z1k_ok : ∀ (n : Nat) (a0 : Level) (a1 : Int) (a2 : Int) (r : Int), z1k n a0 a1 a2 = some r → FnC Try.prog 123 [(tyC Level.cel).enc a0, (tyI .i64).enc a1, (tyI .i64).enc a2] (fun v => v = (tyI .i64).enc r)
  | 0, _, _, _, _, h => by cases h
  | n + 1, a0, a1, a2, r, h => by
    exact fnC_run (M := z1k_m n) ⟨(tabA_cons_ok (ent1_ok (z1f_ok n)) tabA_nil_ok), tabD_nil_ok, tabN_ok _, tabF_ok _, noY_ok, noE_ok⟩ Try.func123 rfl rfl ⟨(tyC Level.cel).nb 0 _, (tyI .i64).nb 0 _, (tyI .i64).nb 0 _, trivial⟩ Try.ntmps123 Try.results123 (fun σ hs => outR_ok (P := Try.prog) (rs := [.tmp 6]) (t := (tyI .i64)) (σ := σ) (r := r) hs) (((z1k_e n).2 a0 a1 a2).trans h)

noncomputable def z13_m (n : Nat) : Mach Int where
  body := (Try.f137.body).getD .skip
  P := Try.prog
  cl := tabA [(21, ent1 (tyC Term.cel) (ty2 (tyL Term.row) (tyC Term.cel)) (z23 n))]
  cd := tabD []
  nrm := tabN []
  cut := tabF []
  n := n
  out := outR Try.prog [.tmp 4] (tyI .i64)
theorem z13_f (n : Nat) : (z13_m n).P = Try.prog ∧ (z13_m n).cl = tabA [(21, ent1 (tyC Term.cel) (ty2 (tyL Term.row) (tyC Term.cel)) (z23 n))] ∧ (z13_m n).cd = tabD [] ∧ (z13_m n).nrm = tabN [] ∧ (z13_m n).cut = tabF [] ∧ (z13_m n).n = n ∧ (z13_m n).out = outR Try.prog [.tmp 4] (tyI .i64) := ⟨rfl, rfl, rfl, rfl, rfl, rfl, rfl⟩
theorem z13_c (n : Nat) : (z13_m n).body = (Try.f137.body).getD .skip := rfl
noncomputable def z13_e (n : Nat) : { B : Decl → Int → Option Int // ∀ (a0 : Decl) (a1 : Int), run (z13_m n) [.at []] { slots := [(tyC Decl.cel).enc a0, (tyI .i64).enc a1] ++ List.replicate (23 - [(tyC Decl.cel).enc a0, (tyI .i64).enc a1].length) .any, heap := [] } = B a0 a1 } := by
  apply Subtype.mk
  intro a0 a1
  simp (maxSteps := 100000000) only [go_sem, q00, q01, q02, q03, q04, q05, q06, q10, q11, q12, q13, q14, z13_f, z13_c, Try.f137, Option.getD_some, mixed]
  exact rfl
noncomputable def z13 : Nat → Decl → Int → Option Int
  | 0, _, _ => none
  | n + 1, a0, a1 => (z13_e n).1 a0 a1
theorem z13_ok : ∀ (n : Nat) (a0 : Decl) (a1 : Int) (r : Int), z13 n a0 a1 = some r → FnC Try.prog 137 [(tyC Decl.cel).enc a0, (tyI .i64).enc a1] (fun v => v = (tyI .i64).enc r)
  | 0, _, _, _, h => by cases h
  | n + 1, a0, a1, r, h => by
    exact fnC_run (M := z13_m n) ⟨(tabA_cons_ok (ent1_ok (z23_ok n)) tabA_nil_ok), tabD_nil_ok, tabN_ok _, tabF_ok _, noY_ok, noE_ok⟩ Try.func137 rfl rfl ⟨(tyC Decl.cel).nb 0 _, (tyI .i64).nb 0 _, trivial⟩ Try.ntmps137 Try.results137 (fun σ hs => outR_ok (P := Try.prog) (rs := [.tmp 4]) (t := (tyI .i64)) (σ := σ) (r := r) hs) (((z13_e n).2 a0 a1).trans h)

noncomputable def z1e_m (n : Nat) : Mach Term where
  body := (Try.f96.body).getD .skip
  P := Try.prog
  cl := tabA []
  cd := tabD [(95, entD (ent2 (tyC Term.cel) (tyC Term.cel) (tyC Term.cel) (z1d n)))]
  nrm := tabN []
  cut := tabF []
  n := n
  out := outR Try.prog [.cell 6 25] (tyC Term.cel)
  isE := tabI []
theorem z1e_f (n : Nat) : (z1e_m n).P = Try.prog ∧ (z1e_m n).cl = tabA [] ∧ (z1e_m n).cd = tabD [(95, entD (ent2 (tyC Term.cel) (tyC Term.cel) (tyC Term.cel) (z1d n)))] ∧ (z1e_m n).nrm = tabN [] ∧ (z1e_m n).cut = tabF [] ∧ (z1e_m n).n = n ∧ (z1e_m n).out = outR Try.prog [.cell 6 25] (tyC Term.cel) ∧ (z1e_m n).isE = tabI [] := ⟨rfl, rfl, rfl, rfl, rfl, rfl, rfl, rfl⟩
theorem z1e_c (n : Nat) : (z1e_m n).body = (Try.f96.body).getD .skip := rfl
theorem z1e_d (n : Nat) : drawP (z1e_m n) [0, 1] = true := by kernel_rfl
theorem z1e_o (n : Nat) : ordP (z1e_m n) [0, 1] 0 8 = true ∧ ordP (z1e_m n) [0, 1] 1 8 = true ∧ ordP (z1e_m n) [0, 1] 2 8 = true ∧ ordP (z1e_m n) [0, 1] 4 8 = true ∧ ordP (z1e_m n) [0, 1] 6 8 = true := ⟨by kernel_rfl, by kernel_rfl, by kernel_rfl, by kernel_rfl, by kernel_rfl⟩
noncomputable def z1e_e (n : Nat) : { B : Term → Term → Unit → (List Level) → Option Term // ∀ (a0 : Term) (a1 : Term) (a2 : Unit) (a3 : (List Level)), run (z1e_m n) [.at []] { slots := [(tyC Term.cel).enc a0, (tyC Term.cel).enc a1, (tyP (cF 95)).enc a2, (tyP (cL Level.row)).enc a3] ++ List.replicate (15 - [(tyC Term.cel).enc a0, (tyC Term.cel).enc a1, (tyP (cF 95)).enc a2, (tyP (cL Level.row)).enc a3].length) .any, heap := [] } = B a0 a1 a2 a3 } := by
  apply Subtype.mk
  intro a0 a1 a2 a3
  simp (maxSteps := 100000000) only [go_sem, q00, q01, q02, q03, q04, q05, q06, q10, q11, q12, q13, q14, z1e_f, z1e_c, Try.f96, Option.getD_some, mixed, z1e_d, z1e_o]
  exact rfl
noncomputable def z1e : Nat → Term → Term → Unit → (List Level) → Option Term
  | 0, _, _, _, _ => none
  | n + 1, a0, a1, a2, a3 => (z1e_e n).1 a0 a1 a2 a3
theorem z1e_ok : ∀ (n : Nat) (a0 : Term) (a1 : Term) (a2 : Unit) (a3 : (List Level)) (r : Term), z1e n a0 a1 a2 a3 = some r → FnC Try.prog 96 [(tyC Term.cel).enc a0, (tyC Term.cel).enc a1, (tyP (cF 95)).enc a2, (tyP (cL Level.row)).enc a3] (fun v => v = (tyC Term.cel).enc r)
  | 0, _, _, _, _, _, h => by cases h
  | n + 1, a0, a1, a2, a3, r, h => by
    exact fnC_run (M := z1e_m n) ⟨tabA_nil_ok, (tabD_cons_ok (ent2_okD (z1d_ok n)) tabD_nil_ok), tabN_ok _, tabF_ok _, noY_ok, noE_ok⟩ Try.func96 rfl rfl ⟨(tyC Term.cel).nb 0 _, (tyC Term.cel).nb 0 _, (tyP (cF 95)).nb 0 _, (tyP (cL Level.row)).nb 0 _, trivial⟩ Try.ntmps96 Try.results96 (fun σ hs => outR_ok (P := Try.prog) (rs := [.cell 6 25]) (t := (tyC Term.cel)) (σ := σ) (r := r) hs) (((z1e_e n).2 a0 a1 a2 a3).trans h)

noncomputable def z0o_n1 : Nrm := ⟨[(4, 5, false)], [], [zA, zK, zK, zA, zK, zA, zA, zA, zA, zA, zA, zA, zA, zA, zA, zA, zA, zA, zA, zA, zA, zA, zA, zA, zA, zA, zA, zA, zA], [oT Term.cel, oK, oA Term.row], none⟩
noncomputable def z0o_m (n : Nat) : Mach (Term × (List Term)) where
  body := (Try.f72.body).getD .skip
  P := Try.prog
  cl := tabA [(107, entGh 0 false 5 (entG [0] (osC (oaT false Term.row) osN) (asA 0 (fun (b : ((List Term) × Unit)) => b.1.length) asN) (osC (oaT false Term.row) osN) rsN (fun (b : ((List Term) × Unit)) a => (z0b n) b.1)))]
  cd := tabD []
  nrm := tabN [([0, 0, 1, 1], z0o_n1)]
  cut := tabF []
  n := n
  out := outR Try.prog [.cell 2 25, .tmp 3] (ty2 (tyC Term.cel) (tyL Term.row))
theorem z0o_f (n : Nat) : (z0o_m n).P = Try.prog ∧ (z0o_m n).cl = tabA [(107, entGh 0 false 5 (entG [0] (osC (oaT false Term.row) osN) (asA 0 (fun (b : ((List Term) × Unit)) => b.1.length) asN) (osC (oaT false Term.row) osN) rsN (fun (b : ((List Term) × Unit)) a => (z0b n) b.1)))] ∧ (z0o_m n).cd = tabD [] ∧ (z0o_m n).nrm = tabN [([0, 0, 1, 1], z0o_n1)] ∧ (z0o_m n).cut = tabF [] ∧ (z0o_m n).n = n ∧ (z0o_m n).out = outR Try.prog [.cell 2 25, .tmp 3] (ty2 (tyC Term.cel) (tyL Term.row)) := ⟨rfl, rfl, rfl, rfl, rfl, rfl, rfl⟩
theorem z0o_c (n : Nat) : (z0o_m n).body = (Try.f72.body).getD .skip := rfl
noncomputable def z0o_b1 (n : Nat) : { B : (Term → (List Term) → Option (Term × (List Term))) → Term → (List Term) → Option (Term × (List Term)) // ∀ m X0, (∀ (o0 : Term) (r2 : List Term) (c2 : Nat), c2 = r2.length → run (z0o_m n) [.lq m [0, 0, 1, 1], .blk 0, .cut [1, 1, 1], .at [1, 1, 1]] ⟨[.any, .ptr 0 0, .ptr 1 0, .any, .acc 2 c2, .any, .any, .any, .any, .any, .any, .any, .any, .any, .any, .any, .any, .any, .any, .any, .any, .any, .any, .any, .any, .any, .any, .any, .any], [.cells (Term.cells o0), .cells [.int .i64 0, .int .i64 0, .str (sb []), .lst true 0 [], .lst true 0 []], .acc false 5 (mp Term.cells r2)], 0⟩ = X0 o0 r2) → ∀ (o0 : Term) (r2 : List Term), run (z0o_m n) [.at [0, 0, 0, 1, 1], .lp m [0, 0, 1, 1], .blk 0, .cut [1, 1, 1], .at [1, 1, 1]] ⟨[.any, .ptr 0 0, .ptr 1 0, .any, .acc 2 r2.length, .any, .any, .any, .any, .any, .any, .any, .any, .any, .any, .any, .any, .any, .any, .any, .any, .any, .any, .any, .any, .any, .any, .any, .any], [.cells (Term.cells o0), .cells [.int .i64 0, .int .i64 0, .str (sb []), .lst true 0 [], .lst true 0 []], .acc false 5 (mp Term.cells r2)], 0⟩ = B X0 o0 r2 } := by
  apply Subtype.mk
  intro m X0 ih o0 r2
  simp (maxSteps := 100000000) only [go_sem, q00, q01, q02, q03, q04, q05, q06, q10, q11, q12, q13, q14, z0o_f, z0o_c, Try.f72, Option.getD_some, mixed, z0o_n1, ih]
  exact rfl
noncomputable def z0o_l1 (n : Nat) : Nat → Term → (List Term) → Option (Term × (List Term))
  | 0, _, _ => none
  | m + 1, o0, r2 => (z0o_b1 n).1 (z0o_l1 n m) o0 r2
theorem z0o_l1_eq (n : Nat) : ∀ (m : Nat), (∀ (o0 : Term) (r2 : List Term) (c2 : Nat), c2 = r2.length → run (z0o_m n) [.lq m [0, 0, 1, 1], .blk 0, .cut [1, 1, 1], .at [1, 1, 1]] ⟨[.any, .ptr 0 0, .ptr 1 0, .any, .acc 2 c2, .any, .any, .any, .any, .any, .any, .any, .any, .any, .any, .any, .any, .any, .any, .any, .any, .any, .any, .any, .any, .any, .any, .any, .any], [.cells (Term.cells o0), .cells [.int .i64 0, .int .i64 0, .str (sb []), .lst true 0 [], .lst true 0 []], .acc false 5 (mp Term.cells r2)], 0⟩ = z0o_l1 n m o0 r2)
  | 0 => by intros; exact run_lq_zero
  | m + 1 => by
    have ih := z0o_l1_eq n m
    intro o0 r2 c2 ec2
    subst ec2
    rw [run_lq_succ]
    exact (z0o_b1 n).2  m _  ih o0 r2
noncomputable def z0o_e (n : Nat) : { B : Term → Option (Term × (List Term)) // ∀ (a0 : Term), run (z0o_m n) [.at []] { slots := [(tyC Term.cel).enc a0] ++ List.replicate (29 - [(tyC Term.cel).enc a0].length) .any, heap := [] } = B a0 } := by
  apply Subtype.mk
  intro a0
  simp (maxSteps := 100000000) only [go_sem, q00, q01, q02, q03, q04, q05, q06, q10, q11, q12, q13, q14, z0o_f, z0o_c, Try.f72, Option.getD_some, mixed, z0o_n1, z0o_l1_eq n]
  exact rfl
noncomputable def z0o : Nat → Term → Option (Term × (List Term))
  | 0, _ => none
  | n + 1, a0 => (z0o_e n).1 a0
theorem z0o_ok : ∀ (n : Nat) (a0 : Term) (r : (Term × (List Term))), z0o n a0 = some r → FnC Try.prog 72 [(tyC Term.cel).enc a0] (fun v => v = (ty2 (tyC Term.cel) (tyL Term.row)).enc r)
  | 0, _, _, h => by cases h
  | n + 1, a0, r, h => by
    exact fnC_run (M := z0o_m n) ⟨(tabA_cons_ok (entGh_ok (entG_ok (fun b a r h => (z0b_ok n) b.1 r h))) tabA_nil_ok), tabD_nil_ok, tabN_ok _, tabF_ok _, noY_ok, noE_ok⟩ Try.func72 rfl rfl ⟨(tyC Term.cel).nb 0 _, trivial⟩ Try.ntmps72 Try.results72 (fun σ hs => outR_ok (P := Try.prog) (rs := [.cell 2 25, .tmp 3]) (t := (ty2 (tyC Term.cel) (tyL Term.row))) (σ := σ) (r := r) hs) (((z0o_e n).2 a0).trans h)

noncomputable def z0w_m (n : Nat) : Mach Bool where
  body := (Try.f64.body).getD .skip
  P := Try.prog
  cl := tabA [(102, ent2 (tyL Zs2.row) (tyL Zs2.row) tyB (z07 n))]
  cd := tabD []
  nrm := tabN []
  cut := tabF []
  n := n
  out := outR Try.prog [.tmp 4] tyB
theorem z0w_f (n : Nat) : (z0w_m n).P = Try.prog ∧ (z0w_m n).cl = tabA [(102, ent2 (tyL Zs2.row) (tyL Zs2.row) tyB (z07 n))] ∧ (z0w_m n).cd = tabD [] ∧ (z0w_m n).nrm = tabN [] ∧ (z0w_m n).cut = tabF [] ∧ (z0w_m n).n = n ∧ (z0w_m n).out = outR Try.prog [.tmp 4] tyB := ⟨rfl, rfl, rfl, rfl, rfl, rfl, rfl⟩
theorem z0w_c (n : Nat) : (z0w_m n).body = (Try.f64.body).getD .skip := rfl
noncomputable def z0w_e (n : Nat) : { B : Level → Level → Option Bool // ∀ (a0 : Level) (a1 : Level), run (z0w_m n) [.at []] { slots := [(tyC Level.cel).enc a0, (tyC Level.cel).enc a1] ++ List.replicate (17 - [(tyC Level.cel).enc a0, (tyC Level.cel).enc a1].length) .any, heap := [] } = B a0 a1 } := by
  apply Subtype.mk
  intro a0 a1
  simp (maxSteps := 100000000) only [go_sem, q00, q01, q02, q03, q04, q05, q06, q10, q11, q12, q13, q14, z0w_f, z0w_c, Try.f64, Option.getD_some, mixed]
  exact rfl
noncomputable def z0w : Nat → Level → Level → Option Bool
  | 0, _, _ => none
  | n + 1, a0, a1 => (z0w_e n).1 a0 a1
theorem z0w_ok : ∀ (n : Nat) (a0 : Level) (a1 : Level) (r : Bool), z0w n a0 a1 = some r → FnC Try.prog 64 [(tyC Level.cel).enc a0, (tyC Level.cel).enc a1] (fun v => v = tyB.enc r)
  | 0, _, _, _, h => by cases h
  | n + 1, a0, a1, r, h => by
    exact fnC_run (M := z0w_m n) ⟨(tabA_cons_ok (ent2_ok (z07_ok n)) tabA_nil_ok), tabD_nil_ok, tabN_ok _, tabF_ok _, noY_ok, noE_ok⟩ Try.func64 rfl rfl ⟨(tyC Level.cel).nb 0 _, (tyC Level.cel).nb 0 _, trivial⟩ Try.ntmps64 Try.results64 (fun σ hs => outR_ok (P := Try.prog) (rs := [.tmp 4]) (t := tyB) (σ := σ) (r := r) hs) (((z0w_e n).2 a0 a1).trans h)

noncomputable def z06_n1 : Nrm := ⟨[], [], [zK, zT (tyP (cL Term.row)), zA, zK, zA, zA, zA, zA, zA, zA, zA, zA, zA, zA, zA, zA, zA, zA, zA], [oL [zA, zA, zT (tyP (cI .i64)), zA, zK, zA, zA, zA, zA, zA, zA, zA, zA, zA, zA, zA, zA, zA], oT Term.cel], none⟩
noncomputable def z06_os : OL ((Int × Unit) × ((Term × Unit) × Unit)) := (olC (ogL0 z0h_k0_1_0_1 (alZ (alZ (alT (tyP (cI .i64)) (alZ (alP 1 (alZs 13 alN))))))) (olC (ogC (alC Term.cel 5 alN)) olN))
noncomputable def z06_o1 : OL (((Int × Unit) × Int) × ((Term × Unit) × Unit)) := (olC (ogL z0h_k0_1_0_1 (alZ (alZ (alT (tyP (cI .i64)) (alZ (alP 1 (alZs 13 alN))))))) (olC (ogC (alC Term.cel 5 alN)) olN))
noncomputable def z06_m (n : Nat) : Mach ((((Int × Unit) × Int) × ((Term × Unit) × Unit)) × Unit) where
  body := (Try.f117.body).getD .skip
  P := Try.prog
  cl := tabA []
  cd := tabD []
  nrm := tabN [([0, 1], z06_n1)]
  cut := tabF []
  n := n
  out := outS Try.prog [] [] [0, 1] 2 z06_o1 alN
  cy := tabY [(0, entY [.obj 0 4 []] z04_os z04_as z04_o1 (alT tyB alN) (fun (b : ((Int × Unit) × ((Term × Unit) × Unit))) (a : (Int × (Term × Unit))) => (z04 n) a.1 a.2.1 b.1.1 b.2.1.1))]
theorem z06_f (n : Nat) : (z06_m n).P = Try.prog ∧ (z06_m n).cl = tabA [] ∧ (z06_m n).cd = tabD [] ∧ (z06_m n).nrm = tabN [([0, 1], z06_n1)] ∧ (z06_m n).cut = tabF [] ∧ (z06_m n).n = n ∧ (z06_m n).out = outS Try.prog [] [] [0, 1] 2 z06_o1 alN ∧ (z06_m n).cy = tabY [(0, entY [.obj 0 4 []] z04_os z04_as z04_o1 (alT tyB alN) (fun (b : ((Int × Unit) × ((Term × Unit) × Unit))) (a : (Int × (Term × Unit))) => (z04 n) a.1 a.2.1 b.1.1 b.2.1.1))] := ⟨rfl, rfl, rfl, rfl, rfl, rfl, rfl, rfl⟩
theorem z06_c (n : Nat) : (z06_m n).body = (Try.f117.body).getD .skip := rfl
noncomputable def z06_b1 (n : Nat) : { B : ((List Term) → Int → Int → Int → Term → Option ((((Int × Unit) × Int) × ((Term × Unit) × Unit)) × Unit)) → (List Term) → Int → Int → Int → Term → Option ((((Int × Unit) × Int) × ((Term × Unit) × Unit)) × Unit) // ∀ m X0, (∀ (v0 : List Term) (v1 : Int) (v2 : Int) (j0 : Int) (o1 : Term), run (z06_m n) [.lq m [0, 1], .blk 0] ⟨[.map 0, .pp [.lst false 5 (mp Term.cells v0)], .any, .int .i64 v1, .any, .any, .any, .any, .any, .any, .any, .any, .any, .any, .any, .any, .any, .any, .any], [.loop z0h_k0_1_0_1 [.any, .any, .pp [.int .i64 v2], .any, .ptr 1 0, .any, .any, .any, .any, .any, .any, .any, .any, .any, .any, .any, .any, .any] (stJ z0h_k0_1_0_1 j0) j0, .cells (Term.cells o1)], 2⟩ = X0 v0 v1 v2 j0 o1) → ∀ (v0 : List Term) (v1 : Int) (v2 : Int) (j0 : Int) (o1 : Term), run (z06_m n) [.at [0, 0, 1], .lp m [0, 1], .blk 0] ⟨[.map 0, .pp [.lst false 5 (mp Term.cells v0)], .any, .int .i64 v1, .any, .any, .any, .any, .any, .any, .any, .any, .any, .any, .any, .any, .any, .any, .any], [.loop z0h_k0_1_0_1 [.any, .any, .pp [.int .i64 v2], .any, .ptr 1 0, .any, .any, .any, .any, .any, .any, .any, .any, .any, .any, .any, .any, .any] (stJ z0h_k0_1_0_1 j0) j0, .cells (Term.cells o1)], 2⟩ = B X0 v0 v1 v2 j0 o1 } := by
  apply Subtype.mk
  intro m X0 ih v0 v1 v2 j0 o1
  simp (maxSteps := 100000000) only [go_sem, q00, q01, q02, q03, q04, q05, q06, q10, q11, q12, q13, q14, z06_f, z06_c, Try.f117, Option.getD_some, mixed, z06_os, z06_o1, z04_as, z04_os, z04_o1, z0h_k0_1_0_1_f, z06_n1, ih]
  exact rfl
noncomputable def z06_l1 (n : Nat) : Nat → (List Term) → Int → Int → Int → Term → Option ((((Int × Unit) × Int) × ((Term × Unit) × Unit)) × Unit)
  | 0, _, _, _, _, _ => none
  | m + 1, v0, v1, v2, j0, o1 => (z06_b1 n).1 (z06_l1 n m) v0 v1 v2 j0 o1
theorem z06_l1_eq (n : Nat) : ∀ (m : Nat), (∀ (v0 : List Term) (v1 : Int) (v2 : Int) (j0 : Int) (o1 : Term), run (z06_m n) [.lq m [0, 1], .blk 0] ⟨[.map 0, .pp [.lst false 5 (mp Term.cells v0)], .any, .int .i64 v1, .any, .any, .any, .any, .any, .any, .any, .any, .any, .any, .any, .any, .any, .any, .any], [.loop z0h_k0_1_0_1 [.any, .any, .pp [.int .i64 v2], .any, .ptr 1 0, .any, .any, .any, .any, .any, .any, .any, .any, .any, .any, .any, .any, .any] (stJ z0h_k0_1_0_1 j0) j0, .cells (Term.cells o1)], 2⟩ = z06_l1 n m v0 v1 v2 j0 o1)
  | 0 => by intros; exact run_lq_zero
  | m + 1 => by
    have ih := z06_l1_eq n m
    intro v0 v1 v2 j0 o1
    rw [run_lq_succ]
    exact (z06_b1 n).2  m _  ih v0 v1 v2 j0 o1
noncomputable def z06_e (n : Nat) : { B : (List Term) → Int → Term → Option ((((Int × Unit) × Int) × ((Term × Unit) × Unit)) × Unit) // ∀ (a0 : (List Term)) (o0 : Int) (o1 : Term), run (z06_m n) [.at []] { slots := ((alM 0 (alT (tyP (cL Term.row)) alN)).enc (z06_os.lens ((o0, ()), (o1, ()), ())) (a0, ())) ++ List.replicate (19 - ((alM 0 (alT (tyP (cL Term.row)) alN)).enc (z06_os.lens ((o0, ()), (o1, ()), ())) (a0, ())).length) .any, heap := (z06_os.enc (z06_os.lens ((o0, ()), (o1, ()), ())) ((o0, ()), (o1, ()), ())), low := (z06_os.enc (z06_os.lens ((o0, ()), (o1, ()), ())) ((o0, ()), (o1, ()), ())).length } = B a0 o0 o1 } := by
  apply Subtype.mk
  intro a0 o0 o1
  simp (maxSteps := 100000000) only [go_sem, q00, q01, q02, q03, q04, q05, q06, q10, q11, q12, q13, q14, z06_f, z06_c, Try.f117, Option.getD_some, mixed, z06_os, z06_o1, z04_as, z04_os, z04_o1, z0h_k0_1_0_1_f, z06_n1, z06_l1_eq n]
  exact rfl
noncomputable def z06 : Nat → (List Term) → Int → Term → Option ((((Int × Unit) × Int) × ((Term × Unit) × Unit)) × Unit)
  | 0, _, _, _ => none
  | n + 1, a0, o0, o1 => (z06_e n).1 a0 o0 o1
theorem z06_ok : ∀ (n : Nat) (a0 : (List Term)) (o0 : Int) (o1 : Term) (r : ((((Int × Unit) × Int) × ((Term × Unit) × Unit)) × Unit)), z06 n a0 o0 o1 = some r → FnG Try.prog 117 ((alM 0 (alT (tyP (cL Term.row)) alN)).enc (z06_os.lens ((o0, ()), (o1, ()), ())) (a0, ())) (z06_os.enc (z06_os.lens ((o0, ()), (o1, ()), ())) ((o0, ()), (o1, ()), ())) (fun o H' => o = .ret (tupOf (alN.enc (z06_o1.lens r.1) r.2)) ∧ H' = z06_o1.enc (z06_o1.lens r.1) r.1)
  | 0, _, _, _, _, h => by cases h
  | n + 1, a0, o0, o1, r, h => by
    exact fnG_run (M := z06_m n) ⟨tabA_nil_ok, tabD_nil_ok, tabN_ok _, tabF_ok _, (tabY_cons_ok (fun _ _ _ _ _ h => entY_ok (fun b a r h => (z04_ok n) a.1 a.2.1 b.1.1 b.2.1.1 r h) h) tabY_nil_ok), noE_ok⟩ Try.func117 rfl rfl (nbL_le (Nat.le_trans (of_decide_eq_true (by kernel_rfl)) (Nat.le_of_eq (z06_os.sz _ _).symm)) _ ((alM 0 (alT (tyP (cL Term.row)) alN)).nb _ _)) (fun x hx => objNb_le' (Nat.le_trans (of_decide_eq_true (by kernel_rfl)) (Nat.le_of_eq (z06_os.sz _ _).symm)) _ (z06_os.nb _ _ x hx)) Try.ntmps117 Try.results117 (fun σ hs => outS_ok (P := Try.prog) (rs := []) (pos := []) (base := [0, 1]) (low := 2) (os := z06_o1) (s := alN) (σ := σ) (r := r) (by rfl) hs) (((z06_e n).2 a0 o0 o1).trans h)
end Go.Abs
namespace Go.Abs
open Go.Proofs
set_option maxRecDepth 100000
set_option maxHeartbeats 4000000
set_option linter.unusedSimpArgs false
set_option linter.unusedVariables false
noncomputable def z0a_n1 : Nrm := ⟨[], [], [zK, zT (tyP (cI .i64)), zT (tyP Decl.cel), zA, zA, zA, zA, zA, zA, zA, zA, zA, zA, zA, zA, zA, zA, zA, zA, zA, zA, zA, zA, zA, zA, zA, zA, zA, zA, zA, zA, zA, zA, zA, zA, zA, zA, zA, zA, zA, zA, zA, zT (tyL Ctor.row), zK, zK, zA, zA, zA, zA, zA, zA, zA, zA, zA, zA, zA, zA, zA, zA, zA, zA, zA, zA, zA, zA, zA, zA, zA, zA, zA, zA, zA, zA, zA, zA, zA, zA, zA, zA, zA, zA, zA, zA, zA, zA, zA, zA, zA, zA, zA, zA, zA, zA, zA, zA, zA, zA, zA], [oL [zA, zA, zA, zK, zK, zK, zA, zA, zA, zA, zA, zA, zA, zA, zA, zA, zA, zA, zA, zA, zA, zA, zA, zA, zA, zA, zA, zA], oC [zK], oT Entry.cel, oC [zK]], none⟩
noncomputable def z0a_n2 : Nrm := ⟨[], [], [zK, zT (tyP (cI .i64)), zT (tyP Decl.cel), zA, zA, zA, zA, zA, zA, zA, zA, zA, zA, zA, zA, zA, zA, zA, zA, zA, zA, zA, zA, zA, zA, zA, zA, zA, zA, zA, zA, zA, zA, zA, zA, zA, zA, zA, zA, zA, zA, zA, zA, zA, zA, zA, zA, zA, zA, zA, zA, zA, zA, zA, zA, zA, zA, zA, zA, zA, zA, zA, zA, zA, zA, zA, zA, zA, zA, zA, zA, zA, zA, zA, zA, zA, zA, zA, zT (tyL Fun.row), zK, zK, zA, zA, zA, zA, zA, zA, zA, zA, zA, zA, zA, zA, zA, zA, zA, zA, zA], [oL [zA, zA, zA, zK, zK, zK, zA, zA, zA, zA, zA, zA, zA, zA, zA, zA, zA, zA, zA, zA, zA, zA, zA, zA, zA, zA, zA, zA], oC [zK], oT Entry.cel, oC [zK]], none⟩
noncomputable def z0a_as : AL (Int × (Decl × Unit)) := (alM 0 (alT (tyP (cI .i64)) (alT (tyP Decl.cel) alN)))
noncomputable def z0a_os : OL (Unit × ((Str × Unit) × ((Entry × Unit) × ((Int × Unit) × Unit)))) := (olC (ogL0 z0t_k0_1_1_0_0_1_1_0_0_1_0_1 (alZs 3 (alP 1 (alP 2 (alP 3 (alZs 22 alN)))))) (olC (ogC (alC cS 1 alN)) (olC (ogC (alC Entry.cel 9 alN)) (olC (ogC (alC (cI .i64) 1 alN)) olN))))
noncomputable def z0a_o1 : OL ((Unit × Int) × ((Str × Unit) × ((Entry × Unit) × ((Int × Unit) × Unit)))) := (olC (ogL z0t_k0_1_1_0_0_1_1_0_0_1_0_1 (alZs 3 (alP 1 (alP 2 (alP 3 (alZs 22 alN)))))) (olC (ogC (alC cS 1 alN)) (olC (ogC (alC Entry.cel 9 alN)) (olC (ogC (alC (cI .i64) 1 alN)) olN))))
noncomputable def z0a_m (n : Nat) : Mach (((Unit × Int) × ((Str × Unit) × ((Entry × Unit) × ((Int × Unit) × Unit)))) × Unit) where
  body := (Try.f125.body).getD .skip
  P := Try.prog
  cl := tabA []
  cd := tabD []
  nrm := tabN [([0, 1, 0, 1, 1, 0, 1, 1, 1, 0, 1, 1], z0a_n1), ([0, 1, 0, 1, 1, 1, 1, 1, 0, 1, 1], z0a_n2)]
  cut := tabF []
  n := n
  out := outS Try.prog [] [] [0, 1, 2, 3] 4 z0a_o1 alN
  cy := tabY [(0, entY [.obj 0 3 [], .obj 0 4 [], .obj 0 5 []] z00_os (alT tyS (alT (tyC Entry.cel) alN)) z00_o1 (alT tyB alN) (fun (b : (Unit × ((Str × Unit) × ((Entry × Unit) × ((Int × Unit) × Unit))))) (a : (Str × (Entry × Unit))) => (z00 n) a.1 a.2.1 b.2.1.1 b.2.2.1.1 b.2.2.2.1.1))]
theorem z0a_f (n : Nat) : (z0a_m n).P = Try.prog ∧ (z0a_m n).cl = tabA [] ∧ (z0a_m n).cd = tabD [] ∧ (z0a_m n).nrm = tabN [([0, 1, 0, 1, 1, 0, 1, 1, 1, 0, 1, 1], z0a_n1), ([0, 1, 0, 1, 1, 1, 1, 1, 0, 1, 1], z0a_n2)] ∧ (z0a_m n).cut = tabF [] ∧ (z0a_m n).n = n ∧ (z0a_m n).out = outS Try.prog [] [] [0, 1, 2, 3] 4 z0a_o1 alN ∧ (z0a_m n).cy = tabY [(0, entY [.obj 0 3 [], .obj 0 4 [], .obj 0 5 []] z00_os (alT tyS (alT (tyC Entry.cel) alN)) z00_o1 (alT tyB alN) (fun (b : (Unit × ((Str × Unit) × ((Entry × Unit) × ((Int × Unit) × Unit))))) (a : (Str × (Entry × Unit))) => (z00 n) a.1 a.2.1 b.2.1.1 b.2.2.1.1 b.2.2.2.1.1))] := ⟨rfl, rfl, rfl, rfl, rfl, rfl, rfl, rfl⟩
theorem z0a_c (n : Nat) : (z0a_m n).body = (Try.f125.body).getD .skip := rfl
noncomputable def z0a_b1 (n : Nat) : { B : (Int → Decl → (List Ctor) → Int → Int → Int → Str → Entry → Int → Option (((Unit × Int) × ((Str × Unit) × ((Entry × Unit) × ((Int × Unit) × Unit)))) × Unit)) → Int → Decl → (List Ctor) → Int → Int → Int → Str → Entry → Int → Option (((Unit × Int) × ((Str × Unit) × ((Entry × Unit) × ((Int × Unit) × Unit)))) × Unit) // ∀ m X0, (∀ (v0 : Int) (v1 : Decl) (v2 : List Ctor) (v3 : Int) (v4 : Int) (j0 : Int) (v6 : Str) (o2 : Entry) (v8 : Int), run (z0a_m n) [.lq m [0, 1, 0, 1, 1, 0, 1, 1, 1, 0, 1, 1], .blk 1, .cut [1, 1, 1, 0, 1, 1, 1, 0, 1, 1], .at [1, 1, 1, 0, 1, 1, 1, 0, 1, 1], .blk 0] ⟨[.map 0, .pp [.int .i64 v0], .pp (Decl.cells v1), .any, .any, .any, .any, .any, .any, .any, .any, .any, .any, .any, .any, .any, .any, .any, .any, .any, .any, .any, .any, .any, .any, .any, .any, .any, .any, .any, .any, .any, .any, .any, .any, .any, .any, .any, .any, .any, .any, .any, .lst false 6 (mp Ctor.cells v2), .int .i64 v3, .int .i64 v4, .any, .any, .any, .any, .any, .any, .any, .any, .any, .any, .any, .any, .any, .any, .any, .any, .any, .any, .any, .any, .any, .any, .any, .any, .any, .any, .any, .any, .any, .any, .any, .any, .any, .any, .any, .any, .any, .any, .any, .any, .any, .any, .any, .any, .any, .any, .any, .any, .any, .any, .any, .any, .any], [.loop z0t_k0_1_1_0_0_1_1_0_0_1_0_1 [.any, .any, .any, .ptr 1 0, .ptr 2 0, .ptr 3 0, .any, .any, .any, .any, .any, .any, .any, .any, .any, .any, .any, .any, .any, .any, .any, .any, .any, .any, .any, .any, .any, .any] (stJ z0t_k0_1_1_0_0_1_1_0_0_1_0_1 j0) j0, .cells [.str (sb v6)], .cells (Entry.cells o2), .cells [.int .i64 v8]], 4⟩ = X0 v0 v1 v2 v3 v4 j0 v6 o2 v8) → ∀ (v0 : Int) (v1 : Decl) (v2 : List Ctor) (v3 : Int) (v4 : Int) (j0 : Int) (v6 : Str) (o2 : Entry) (v8 : Int), run (z0a_m n) [.at [0, 0, 1, 0, 1, 1, 0, 1, 1, 1, 0, 1, 1], .lp m [0, 1, 0, 1, 1, 0, 1, 1, 1, 0, 1, 1], .blk 1, .cut [1, 1, 1, 0, 1, 1, 1, 0, 1, 1], .at [1, 1, 1, 0, 1, 1, 1, 0, 1, 1], .blk 0] ⟨[.map 0, .pp [.int .i64 v0], .pp (Decl.cells v1), .any, .any, .any, .any, .any, .any, .any, .any, .any, .any, .any, .any, .any, .any, .any, .any, .any, .any, .any, .any, .any, .any, .any, .any, .any, .any, .any, .any, .any, .any, .any, .any, .any, .any, .any, .any, .any, .any, .any, .lst false 6 (mp Ctor.cells v2), .int .i64 v3, .int .i64 v4, .any, .any, .any, .any, .any, .any, .any, .any, .any, .any, .any, .any, .any, .any, .any, .any, .any, .any, .any, .any, .any, .any, .any, .any, .any, .any, .any, .any, .any, .any, .any, .any, .any, .any, .any, .any, .any, .any, .any, .any, .any, .any, .any, .any, .any, .any, .any, .any, .any, .any, .any, .any, .any], [.loop z0t_k0_1_1_0_0_1_1_0_0_1_0_1 [.any, .any, .any, .ptr 1 0, .ptr 2 0, .ptr 3 0, .any, .any, .any, .any, .any, .any, .any, .any, .any, .any, .any, .any, .any, .any, .any, .any, .any, .any, .any, .any, .any, .any] (stJ z0t_k0_1_1_0_0_1_1_0_0_1_0_1 j0) j0, .cells [.str (sb v6)], .cells (Entry.cells o2), .cells [.int .i64 v8]], 4⟩ = B X0 v0 v1 v2 v3 v4 j0 v6 o2 v8 } := by
  apply Subtype.mk
  intro m X0 ih v0 v1 v2 v3 v4 j0 v6 o2 v8
  simp (maxSteps := 100000000) only [go_sem, q00, q01, q02, q03, q04, q05, q06, q10, q11, q12, q13, q14, z0a_f, z0a_c, Try.f125, Option.getD_some, mixed, z0a_as, z0a_os, z0a_o1, z00_os, z00_o1, z0t_k0_1_1_0_0_1_1_0_0_1_0_1_f, z0a_n1, z0a_n2, List.drop_drop, idxA_lit3, ih]
  exact rfl
noncomputable def z0a_l1 (n : Nat) : Nat → Int → Decl → (List Ctor) → Int → Int → Int → Str → Entry → Int → Option (((Unit × Int) × ((Str × Unit) × ((Entry × Unit) × ((Int × Unit) × Unit)))) × Unit)
  | 0, _, _, _, _, _, _, _, _, _ => none
  | m + 1, v0, v1, v2, v3, v4, j0, v6, o2, v8 => (z0a_b1 n).1 (z0a_l1 n m) v0 v1 v2 v3 v4 j0 v6 o2 v8
theorem z0a_l1_eq (n : Nat) : ∀ (m : Nat), (∀ (v0 : Int) (v1 : Decl) (v2 : List Ctor) (v3 : Int) (v4 : Int) (j0 : Int) (v6 : Str) (o2 : Entry) (v8 : Int), run (z0a_m n) [.lq m [0, 1, 0, 1, 1, 0, 1, 1, 1, 0, 1, 1], .blk 1, .cut [1, 1, 1, 0, 1, 1, 1, 0, 1, 1], .at [1, 1, 1, 0, 1, 1, 1, 0, 1, 1], .blk 0] ⟨[.map 0, .pp [.int .i64 v0], .pp (Decl.cells v1), .any, .any, .any, .any, .any, .any, .any, .any, .any, .any, .any, .any, .any, .any, .any, .any, .any, .any, .any, .any, .any, .any, .any, .any, .any, .any, .any, .any, .any, .any, .any, .any, .any, .any, .any, .any, .any, .any, .any, .lst false 6 (mp Ctor.cells v2), .int .i64 v3, .int .i64 v4, .any, .any, .any, .any, .any, .any, .any, .any, .any, .any, .any, .any, .any, .any, .any, .any, .any, .any, .any, .any, .any, .any, .any, .any, .any, .any, .any, .any, .any, .any, .any, .any, .any, .any, .any, .any, .any, .any, .any, .any, .any, .any, .any, .any, .any, .any, .any, .any, .any, .any, .any, .any, .any], [.loop z0t_k0_1_1_0_0_1_1_0_0_1_0_1 [.any, .any, .any, .ptr 1 0, .ptr 2 0, .ptr 3 0, .any, .any, .any, .any, .any, .any, .any, .any, .any, .any, .any, .any, .any, .any, .any, .any, .any, .any, .any, .any, .any, .any] (stJ z0t_k0_1_1_0_0_1_1_0_0_1_0_1 j0) j0, .cells [.str (sb v6)], .cells (Entry.cells o2), .cells [.int .i64 v8]], 4⟩ = z0a_l1 n m v0 v1 v2 v3 v4 j0 v6 o2 v8)
  | 0 => by intros; exact run_lq_zero
  | m + 1 => by
    have ih := z0a_l1_eq n m
    intro v0 v1 v2 v3 v4 j0 v6 o2 v8
    rw [run_lq_succ]
    exact (z0a_b1 n).2  m _  ih v0 v1 v2 v3 v4 j0 v6 o2 v8
noncomputable def z0a_b2 (n : Nat) : { B : (Int → Decl → (List Fun) → Int → Int → Int → Str → Entry → Int → Option (((Unit × Int) × ((Str × Unit) × ((Entry × Unit) × ((Int × Unit) × Unit)))) × Unit)) → Int → Decl → (List Fun) → Int → Int → Int → Str → Entry → Int → Option (((Unit × Int) × ((Str × Unit) × ((Entry × Unit) × ((Int × Unit) × Unit)))) × Unit) // ∀ m X0, (∀ (v0 : Int) (v1 : Decl) (v2 : List Fun) (v3 : Int) (v4 : Int) (j0 : Int) (v6 : Str) (o2 : Entry) (v8 : Int), run (z0a_m n) [.lq m [0, 1, 0, 1, 1, 1, 1, 1, 0, 1, 1], .blk 3, .blk 0] ⟨[.map 0, .pp [.int .i64 v0], .pp (Decl.cells v1), .any, .any, .any, .any, .any, .any, .any, .any, .any, .any, .any, .any, .any, .any, .any, .any, .any, .any, .any, .any, .any, .any, .any, .any, .any, .any, .any, .any, .any, .any, .any, .any, .any, .any, .any, .any, .any, .any, .any, .any, .any, .any, .any, .any, .any, .any, .any, .any, .any, .any, .any, .any, .any, .any, .any, .any, .any, .any, .any, .any, .any, .any, .any, .any, .any, .any, .any, .any, .any, .any, .any, .any, .any, .any, .any, .lst false 15 (mp Fun.cells v2), .int .i64 v3, .int .i64 v4, .any, .any, .any, .any, .any, .any, .any, .any, .any, .any, .any, .any, .any, .any, .any, .any, .any], [.loop z0t_k0_1_1_0_0_1_1_0_0_1_0_1 [.any, .any, .any, .ptr 1 0, .ptr 2 0, .ptr 3 0, .any, .any, .any, .any, .any, .any, .any, .any, .any, .any, .any, .any, .any, .any, .any, .any, .any, .any, .any, .any, .any, .any] (stJ z0t_k0_1_1_0_0_1_1_0_0_1_0_1 j0) j0, .cells [.str (sb v6)], .cells (Entry.cells o2), .cells [.int .i64 v8]], 4⟩ = X0 v0 v1 v2 v3 v4 j0 v6 o2 v8) → ∀ (v0 : Int) (v1 : Decl) (v2 : List Fun) (v3 : Int) (v4 : Int) (j0 : Int) (v6 : Str) (o2 : Entry) (v8 : Int), run (z0a_m n) [.at [0, 0, 1, 0, 1, 1, 1, 1, 1, 0, 1, 1], .lp m [0, 1, 0, 1, 1, 1, 1, 1, 0, 1, 1], .blk 3, .blk 0] ⟨[.map 0, .pp [.int .i64 v0], .pp (Decl.cells v1), .any, .any, .any, .any, .any, .any, .any, .any, .any, .any, .any, .any, .any, .any, .any, .any, .any, .any, .any, .any, .any, .any, .any, .any, .any, .any, .any, .any, .any, .any, .any, .any, .any, .any, .any, .any, .any, .any, .any, .any, .any, .any, .any, .any, .any, .any, .any, .any, .any, .any, .any, .any, .any, .any, .any, .any, .any, .any, .any, .any, .any, .any, .any, .any, .any, .any, .any, .any, .any, .any, .any, .any, .any, .any, .any, .lst false 15 (mp Fun.cells v2), .int .i64 v3, .int .i64 v4, .any, .any, .any, .any, .any, .any, .any, .any, .any, .any, .any, .any, .any, .any, .any, .any, .any], [.loop z0t_k0_1_1_0_0_1_1_0_0_1_0_1 [.any, .any, .any, .ptr 1 0, .ptr 2 0, .ptr 3 0, .any, .any, .any, .any, .any, .any, .any, .any, .any, .any, .any, .any, .any, .any, .any, .any, .any, .any, .any, .any, .any, .any] (stJ z0t_k0_1_1_0_0_1_1_0_0_1_0_1 j0) j0, .cells [.str (sb v6)], .cells (Entry.cells o2), .cells [.int .i64 v8]], 4⟩ = B X0 v0 v1 v2 v3 v4 j0 v6 o2 v8 } := by
  apply Subtype.mk
  intro m X0 ih v0 v1 v2 v3 v4 j0 v6 o2 v8
  simp (maxSteps := 100000000) only [go_sem, q00, q01, q02, q03, q04, q05, q06, q10, q11, q12, q13, q14, z0a_f, z0a_c, Try.f125, Option.getD_some, mixed, z0a_as, z0a_os, z0a_o1, z00_os, z00_o1, z0t_k0_1_1_0_0_1_1_0_0_1_0_1_f, z0a_n1, z0a_n2, List.drop_drop, idxA_lit3, z0a_l1_eq n, ih]
  exact rfl
noncomputable def z0a_l2 (n : Nat) : Nat → Int → Decl → (List Fun) → Int → Int → Int → Str → Entry → Int → Option (((Unit × Int) × ((Str × Unit) × ((Entry × Unit) × ((Int × Unit) × Unit)))) × Unit)
  | 0, _, _, _, _, _, _, _, _, _ => none
  | m + 1, v0, v1, v2, v3, v4, j0, v6, o2, v8 => (z0a_b2 n).1 (z0a_l2 n m) v0 v1 v2 v3 v4 j0 v6 o2 v8
theorem z0a_l2_eq (n : Nat) : ∀ (m : Nat), (∀ (v0 : Int) (v1 : Decl) (v2 : List Fun) (v3 : Int) (v4 : Int) (j0 : Int) (v6 : Str) (o2 : Entry) (v8 : Int), run (z0a_m n) [.lq m [0, 1, 0, 1, 1, 1, 1, 1, 0, 1, 1], .blk 3, .blk 0] ⟨[.map 0, .pp [.int .i64 v0], .pp (Decl.cells v1), .any, .any, .any, .any, .any, .any, .any, .any, .any, .any, .any, .any, .any, .any, .any, .any, .any, .any, .any, .any, .any, .any, .any, .any, .any, .any, .any, .any, .any, .any, .any, .any, .any, .any, .any, .any, .any, .any, .any, .any, .any, .any, .any, .any, .any, .any, .any, .any, .any, .any, .any, .any, .any, .any, .any, .any, .any, .any, .any, .any, .any, .any, .any, .any, .any, .any, .any, .any, .any, .any, .any, .any, .any, .any, .any, .lst false 15 (mp Fun.cells v2), .int .i64 v3, .int .i64 v4, .any, .any, .any, .any, .any, .any, .any, .any, .any, .any, .any, .any, .any, .any, .any, .any, .any], [.loop z0t_k0_1_1_0_0_1_1_0_0_1_0_1 [.any, .any, .any, .ptr 1 0, .ptr 2 0, .ptr 3 0, .any, .any, .any, .any, .any, .any, .any, .any, .any, .any, .any, .any, .any, .any, .any, .any, .any, .any, .any, .any, .any, .any] (stJ z0t_k0_1_1_0_0_1_1_0_0_1_0_1 j0) j0, .cells [.str (sb v6)], .cells (Entry.cells o2), .cells [.int .i64 v8]], 4⟩ = z0a_l2 n m v0 v1 v2 v3 v4 j0 v6 o2 v8)
  | 0 => by intros; exact run_lq_zero
  | m + 1 => by
    have ih := z0a_l2_eq n m
    intro v0 v1 v2 v3 v4 j0 v6 o2 v8
    rw [run_lq_succ]
    exact (z0a_b2 n).2  m _  ih v0 v1 v2 v3 v4 j0 v6 o2 v8
noncomputable def z0a_e (n : Nat) : { B : Int → Decl → Str → Entry → Int → Option (((Unit × Int) × ((Str × Unit) × ((Entry × Unit) × ((Int × Unit) × Unit)))) × Unit) // ∀ (a0 : Int) (a1 : Decl) (o0 : Str) (o1 : Entry) (o2 : Int), run (z0a_m n) [.at []] { slots := (z0a_as.enc (z0a_os.lens ((), (o0, ()), (o1, ()), (o2, ()), ())) (a0, a1, ())) ++ List.replicate (98 - (z0a_as.enc (z0a_os.lens ((), (o0, ()), (o1, ()), (o2, ()), ())) (a0, a1, ())).length) .any, heap := (z0a_os.enc (z0a_os.lens ((), (o0, ()), (o1, ()), (o2, ()), ())) ((), (o0, ()), (o1, ()), (o2, ()), ())), low := (z0a_os.enc (z0a_os.lens ((), (o0, ()), (o1, ()), (o2, ()), ())) ((), (o0, ()), (o1, ()), (o2, ()), ())).length } = B a0 a1 o0 o1 o2 } := by
  apply Subtype.mk
  intro a0 a1 o0 o1 o2
  simp (maxSteps := 100000000) only [go_sem, q00, q01, q02, q03, q04, q05, q06, q10, q11, q12, q13, q14, z0a_f, z0a_c, Try.f125, Option.getD_some, mixed, z0a_as, z0a_os, z0a_o1, z00_os, z00_o1, z0t_k0_1_1_0_0_1_1_0_0_1_0_1_f, z0a_n1, z0a_n2, List.drop_drop, idxA_lit3, z0a_l1_eq n, z0a_l2_eq n]
  exact rfl
noncomputable def z0a : Nat → Int → Decl → Str → Entry → Int → Option (((Unit × Int) × ((Str × Unit) × ((Entry × Unit) × ((Int × Unit) × Unit)))) × Unit)
  | 0, _, _, _, _, _ => none
  | n + 1, a0, a1, o0, o1, o2 => (z0a_e n).1 a0 a1 o0 o1 o2
theorem z0a_ok : ∀ (n : Nat) (a0 : Int) (a1 : Decl) (o0 : Str) (o1 : Entry) (o2 : Int) (r : (((Unit × Int) × ((Str × Unit) × ((Entry × Unit) × ((Int × Unit) × Unit)))) × Unit)), z0a n a0 a1 o0 o1 o2 = some r → FnG Try.prog 125 (z0a_as.enc (z0a_os.lens ((), (o0, ()), (o1, ()), (o2, ()), ())) (a0, a1, ())) (z0a_os.enc (z0a_os.lens ((), (o0, ()), (o1, ()), (o2, ()), ())) ((), (o0, ()), (o1, ()), (o2, ()), ())) (fun o H' => o = .ret (tupOf (alN.enc (z0a_o1.lens r.1) r.2)) ∧ H' = z0a_o1.enc (z0a_o1.lens r.1) r.1)
  | 0, _, _, _, _, _, _, h => by cases h
  | n + 1, a0, a1, o0, o1, o2, r, h => by
    exact fnG_run (M := z0a_m n) ⟨tabA_nil_ok, tabD_nil_ok, tabN_ok _, tabF_ok _, (tabY_cons_ok (fun _ _ _ _ _ h => entY_ok (fun b a r h => (z00_ok n) a.1 a.2.1 b.2.1.1 b.2.2.1.1 b.2.2.2.1.1 r h) h) tabY_nil_ok), noE_ok⟩ Try.func125 rfl rfl (nbL_le (Nat.le_trans (of_decide_eq_true (by kernel_rfl)) (Nat.le_of_eq (z0a_os.sz _ _).symm)) _ (z0a_as.nb _ _)) (fun x hx => objNb_le' (Nat.le_trans (of_decide_eq_true (by kernel_rfl)) (Nat.le_of_eq (z0a_os.sz _ _).symm)) _ (z0a_os.nb _ _ x hx)) Try.ntmps125 Try.results125 (fun σ hs => outS_ok (P := Try.prog) (rs := []) (pos := []) (base := [0, 1, 2, 3]) (low := 4) (os := z0a_o1) (s := alN) (σ := σ) (r := r) (by rfl) hs) (((z0a_e n).2 a0 a1 o0 o1 o2).trans h)

noncomputable def z14_n1 : Nrm := ⟨[(3, 2, true)], [], [zK, zA, zA, zK, zK, zA, zA, zA, zA, zA, zA, zA, zA, zA, zA, zA, zA, zA, zA, zA, zA, zA], [oA Level.row], none⟩
noncomputable def z14_m (n : Nat) : Mach (List Level) where
  body := (Try.f45.body).getD .skip
  P := Try.prog
  cl := tabA [(88, ent2 (tyI .i64) (tyI .i64) (ty2 (tyC Level.cel) (tyI .i64)) (z22 n))]
  cd := tabD []
  nrm := tabN [([0, 1, 0, 1, 1], z14_n1)]
  cut := tabF []
  n := n
  out := outR Try.prog [.tmp 2] (tyL Level.row)
theorem z14_f (n : Nat) : (z14_m n).P = Try.prog ∧ (z14_m n).cl = tabA [(88, ent2 (tyI .i64) (tyI .i64) (ty2 (tyC Level.cel) (tyI .i64)) (z22 n))] ∧ (z14_m n).cd = tabD [] ∧ (z14_m n).nrm = tabN [([0, 1, 0, 1, 1], z14_n1)] ∧ (z14_m n).cut = tabF [] ∧ (z14_m n).n = n ∧ (z14_m n).out = outR Try.prog [.tmp 2] (tyL Level.row) := ⟨rfl, rfl, rfl, rfl, rfl, rfl, rfl⟩
theorem z14_c (n : Nat) : (z14_m n).body = (Try.f45.body).getD .skip := rfl
noncomputable def z14_b1 (n : Nat) : { B : (Int → Int → (List Level) → Option (List Level)) → Int → Int → (List Level) → Option (List Level) // ∀ m X0, (∀ (v0 : Int) (v1 : Int) (r0 : List Level) (c0 : Nat), c0 = r0.length → run (z14_m n) [.lq m [0, 1, 0, 1, 1], .blk 0, .cut [1, 1, 1], .at [1, 1, 1]] ⟨[.int .i64 v0, .any, .any, .acc 0 c0, .int .i64 v1, .any, .any, .any, .any, .any, .any, .any, .any, .any, .any, .any, .any, .any, .any, .any, .any, .any], [.acc true 2 (mp Level.cells r0)], 0⟩ = X0 v0 v1 r0) → ∀ (v0 : Int) (v1 : Int) (r0 : List Level), run (z14_m n) [.at [0, 0, 1, 0, 1, 1], .lp m [0, 1, 0, 1, 1], .blk 0, .cut [1, 1, 1], .at [1, 1, 1]] ⟨[.int .i64 v0, .any, .any, .acc 0 r0.length, .int .i64 v1, .any, .any, .any, .any, .any, .any, .any, .any, .any, .any, .any, .any, .any, .any, .any, .any, .any], [.acc true 2 (mp Level.cells r0)], 0⟩ = B X0 v0 v1 r0 } := by
  apply Subtype.mk
  intro m X0 ih v0 v1 r0
  simp (maxSteps := 100000000) only [go_sem, q00, q01, q02, q03, q04, q05, q06, q10, q11, q12, q13, q14, z14_f, z14_c, Try.f45, Option.getD_some, mixed, z14_n1, ih]
  exact rfl
noncomputable def z14_l1 (n : Nat) : Nat → Int → Int → (List Level) → Option (List Level)
  | 0, _, _, _ => none
  | m + 1, v0, v1, r0 => (z14_b1 n).1 (z14_l1 n m) v0 v1 r0
theorem z14_l1_eq (n : Nat) : ∀ (m : Nat), (∀ (v0 : Int) (v1 : Int) (r0 : List Level) (c0 : Nat), c0 = r0.length → run (z14_m n) [.lq m [0, 1, 0, 1, 1], .blk 0, .cut [1, 1, 1], .at [1, 1, 1]] ⟨[.int .i64 v0, .any, .any, .acc 0 c0, .int .i64 v1, .any, .any, .any, .any, .any, .any, .any, .any, .any, .any, .any, .any, .any, .any, .any, .any, .any], [.acc true 2 (mp Level.cells r0)], 0⟩ = z14_l1 n m v0 v1 r0)
  | 0 => by intros; exact run_lq_zero
  | m + 1 => by
    have ih := z14_l1_eq n m
    intro v0 v1 r0 c0 ec0
    subst ec0
    rw [run_lq_succ]
    exact (z14_b1 n).2  m _  ih v0 v1 r0
noncomputable def z14_e (n : Nat) : { B : Int → Option (List Level) // ∀ (a0 : Int), run (z14_m n) [.at []] { slots := [(tyI .i64).enc a0] ++ List.replicate (22 - [(tyI .i64).enc a0].length) .any, heap := [] } = B a0 } := by
  apply Subtype.mk
  intro a0
  simp (maxSteps := 100000000) only [go_sem, q00, q01, q02, q03, q04, q05, q06, q10, q11, q12, q13, q14, z14_f, z14_c, Try.f45, Option.getD_some, mixed, z14_n1, z14_l1_eq n]
  exact rfl
noncomputable def z14 : Nat → Int → Option (List Level)
  | 0, _ => none
  | n + 1, a0 => (z14_e n).1 a0
theorem z14_ok : ∀ (n : Nat) (a0 : Int) (r : (List Level)), z14 n a0 = some r → FnC Try.prog 45 [(tyI .i64).enc a0] (fun v => v = (tyL Level.row).enc r)
  | 0, _, _, h => by cases h
  | n + 1, a0, r, h => by
    exact fnC_run (M := z14_m n) ⟨(tabA_cons_ok (ent2_ok (z22_ok n)) tabA_nil_ok), tabD_nil_ok, tabN_ok _, tabF_ok _, noY_ok, noE_ok⟩ Try.func45 rfl rfl ⟨(tyI .i64).nb 0 _, trivial⟩ Try.ntmps45 Try.results45 (fun σ hs => outR_ok (P := Try.prog) (rs := [.tmp 2]) (t := (tyL Level.row)) (σ := σ) (r := r) hs) (((z14_e n).2 a0).trans h)
end Go.Abs
