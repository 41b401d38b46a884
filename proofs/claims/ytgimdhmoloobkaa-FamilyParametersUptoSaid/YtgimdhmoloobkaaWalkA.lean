/- A part of the proof: what the functions compute. -/
import Derived.Test.YtgimdhmoloobkaaDataA
set_option linter.all false
open Nat renaming reduceAdd → q00, reduceSub → q01, reduceLeDiff → q02, reduceEqDiff → q03, reduceBEq → q04, reduceMul → q05, reduceLT → q06
open Int renaming reduceLE → q10, reduceLT → q11, reduceToNat → q12, reduceBEq → q13, reduceEq → q14
namespace Go.Abs
open Go.Proofs
set_option maxRecDepth 100000
set_option maxHeartbeats 4000000
set_option linter.unusedSimpArgs false
set_option linter.unusedVariables false
noncomputable def z15_n1 : Nrm := ⟨[], [], [zA, zK, zA, zK, zK, zA, zA, zA, zA, zA, zA, zA, zA, zA, zA, zA, zA, zA, zA, zA, zA], [oT Term.cel], none⟩
noncomputable def z15_m (X : Term → Option Int) (n : Nat) : Mach Int where
  body := (Try.f69.body).getD .skip
  P := Try.prog
  cl := tabA [(69, ent1 (tyC Term.cel) (tyI .i64) X)]
  cd := tabD []
  nrm := tabN [([0, 1, 0, 1, 1], z15_n1)]
  cut := tabF []
  n := n
  out := outR Try.prog [.tmp 2] (tyI .i64)
theorem z15_f (X : Term → Option Int) (n : Nat) : (z15_m X n).P = Try.prog ∧ (z15_m X n).cl = tabA [(69, ent1 (tyC Term.cel) (tyI .i64) X)] ∧ (z15_m X n).cd = tabD [] ∧ (z15_m X n).nrm = tabN [([0, 1, 0, 1, 1], z15_n1)] ∧ (z15_m X n).cut = tabF [] ∧ (z15_m X n).n = n ∧ (z15_m X n).out = outR Try.prog [.tmp 2] (tyI .i64) := ⟨rfl, rfl, rfl, rfl, rfl, rfl, rfl⟩
theorem z15_c (X : Term → Option Int) (n : Nat) : (z15_m X n).body = (Try.f69.body).getD .skip := rfl
noncomputable def z15_b1 (X : Term → Option Int) (n : Nat) : { B : (Int → Int → Term → Option Int) → Int → Int → Term → Option Int // ∀ m X0, (∀ (v0 : Int) (v1 : Int) (o0 : Term), run (z15_m X n) [.lq m [0, 1, 0, 1, 1], .blk 0, .cut [1, 1, 1], .at [1, 1, 1]] ⟨[.any, .ptr 0 0, .any, .int .i64 v0, .int .i64 v1, .any, .any, .any, .any, .any, .any, .any, .any, .any, .any, .any, .any, .any, .any, .any, .any], [.cells (Term.cells o0)], 0⟩ = X0 v0 v1 o0) → ∀ (v0 : Int) (v1 : Int) (o0 : Term), run (z15_m X n) [.at [0, 0, 1, 0, 1, 1], .lp m [0, 1, 0, 1, 1], .blk 0, .cut [1, 1, 1], .at [1, 1, 1]] ⟨[.any, .ptr 0 0, .any, .int .i64 v0, .int .i64 v1, .any, .any, .any, .any, .any, .any, .any, .any, .any, .any, .any, .any, .any, .any, .any, .any], [.cells (Term.cells o0)], 0⟩ = B X0 v0 v1 o0 } := by
  apply Subtype.mk
  intro m X0 ih v0 v1 o0
  simp (maxSteps := 100000000) only [go_sem, q00, q01, q02, q03, q04, q05, q06, q10, q11, q12, q13, q14, z15_f, z15_c, Try.f69, Option.getD_some, mixed, z15_n1, ih]
  exact rfl
noncomputable def z15_l1 (X : Term → Option Int) (n : Nat) : Nat → Int → Int → Term → Option Int
  | 0, _, _, _ => none
  | m + 1, v0, v1, o0 => (z15_b1 X n).1 (z15_l1 X n m) v0 v1 o0
theorem z15_l1_eq (X : Term → Option Int) (n : Nat) : ∀ (m : Nat), (∀ (v0 : Int) (v1 : Int) (o0 : Term), run (z15_m X n) [.lq m [0, 1, 0, 1, 1], .blk 0, .cut [1, 1, 1], .at [1, 1, 1]] ⟨[.any, .ptr 0 0, .any, .int .i64 v0, .int .i64 v1, .any, .any, .any, .any, .any, .any, .any, .any, .any, .any, .any, .any, .any, .any, .any, .any], [.cells (Term.cells o0)], 0⟩ = z15_l1 X n m v0 v1 o0)
  | 0 => by intros; exact run_lq_zero
  | m + 1 => by
    have ih := z15_l1_eq X n m
    intro v0 v1 o0
    rw [run_lq_succ]
    exact (z15_b1 X n).2  m _  ih v0 v1 o0
noncomputable def z15_e (X : Term → Option Int) (n : Nat) : { B : Term → Option Int // ∀ (a0 : Term), run (z15_m X n) [.at []] { slots := [(tyC Term.cel).enc a0] ++ List.replicate (21 - [(tyC Term.cel).enc a0].length) .any, heap := [] } = B a0 } := by
  apply Subtype.mk
  intro a0
  simp (maxSteps := 100000000) only [go_sem, q00, q01, q02, q03, q04, q05, q06, q10, q11, q12, q13, q14, z15_f, z15_c, Try.f69, Option.getD_some, mixed, z15_n1, z15_l1_eq X n]
  exact rfl
noncomputable def z15 : Nat → Term → Option Int
  | 0, _ => none
  | n + 1, a0 => (z15_e (z15 n) n).1 a0
theorem z15_ok : ∀ (n : Nat) (a0 : Term) (r : Int), z15 n a0 = some r → FnC Try.prog 69 [(tyC Term.cel).enc a0] (fun v => v = (tyI .i64).enc r)
  | 0, _, _, h => by cases h
  | n + 1, a0, r, h => by
    have ih_ref03_Size := z15_ok n
    exact fnC_run (M := z15_m (z15 n) n) ⟨(tabA_cons_ok (ent1_ok (ih_ref03_Size)) tabA_nil_ok), tabD_nil_ok, tabN_ok _, tabF_ok _, noY_ok, noE_ok⟩ Try.func69 rfl rfl ⟨(tyC Term.cel).nb 0 _, trivial⟩ Try.ntmps69 Try.results69 (fun σ hs => outR_ok (P := Try.prog) (rs := [.tmp 2]) (t := (tyI .i64)) (σ := σ) (r := r) hs) (((z15_e (z15 n) n).2 a0).trans h)

noncomputable def z0y_n1 : Nrm := ⟨[], [], [zA, zK, zA, zK, zK, zA, zA, zA, zA, zA, zA, zA, zA, zA, zA, zA, zA, zA, zA, zA, zA, zA], [oT Term.cel], none⟩
noncomputable def z0y_m (X : Term → Option Int) (n : Nat) : Mach Int where
  body := (Try.f70.body).getD .skip
  P := Try.prog
  cl := tabA [(70, ent1 (tyC Term.cel) (tyI .i64) X)]
  cd := tabD []
  nrm := tabN [([0, 1, 0, 1, 1], z0y_n1)]
  cut := tabF []
  n := n
  out := outR Try.prog [.tmp 2] (tyI .i64)
theorem z0y_f (X : Term → Option Int) (n : Nat) : (z0y_m X n).P = Try.prog ∧ (z0y_m X n).cl = tabA [(70, ent1 (tyC Term.cel) (tyI .i64) X)] ∧ (z0y_m X n).cd = tabD [] ∧ (z0y_m X n).nrm = tabN [([0, 1, 0, 1, 1], z0y_n1)] ∧ (z0y_m X n).cut = tabF [] ∧ (z0y_m X n).n = n ∧ (z0y_m X n).out = outR Try.prog [.tmp 2] (tyI .i64) := ⟨rfl, rfl, rfl, rfl, rfl, rfl, rfl⟩
theorem z0y_c (X : Term → Option Int) (n : Nat) : (z0y_m X n).body = (Try.f70.body).getD .skip := rfl
noncomputable def z0y_b1 (X : Term → Option Int) (n : Nat) : { B : (Int → Int → Term → Option Int) → Int → Int → Term → Option Int // ∀ m X0, (∀ (v0 : Int) (v1 : Int) (o0 : Term), run (z0y_m X n) [.lq m [0, 1, 0, 1, 1], .blk 0, .cut [1, 1, 1], .at [1, 1, 1]] ⟨[.any, .ptr 0 0, .any, .int .i64 v0, .int .i64 v1, .any, .any, .any, .any, .any, .any, .any, .any, .any, .any, .any, .any, .any, .any, .any, .any, .any], [.cells (Term.cells o0)], 0⟩ = X0 v0 v1 o0) → ∀ (v0 : Int) (v1 : Int) (o0 : Term), run (z0y_m X n) [.at [0, 0, 1, 0, 1, 1], .lp m [0, 1, 0, 1, 1], .blk 0, .cut [1, 1, 1], .at [1, 1, 1]] ⟨[.any, .ptr 0 0, .any, .int .i64 v0, .int .i64 v1, .any, .any, .any, .any, .any, .any, .any, .any, .any, .any, .any, .any, .any, .any, .any, .any, .any], [.cells (Term.cells o0)], 0⟩ = B X0 v0 v1 o0 } := by
  apply Subtype.mk
  intro m X0 ih v0 v1 o0
  simp (maxSteps := 100000000) only [go_sem, q00, q01, q02, q03, q04, q05, q06, q10, q11, q12, q13, q14, z0y_f, z0y_c, Try.f70, Option.getD_some, mixed, z0y_n1, ih]
  exact rfl
noncomputable def z0y_l1 (X : Term → Option Int) (n : Nat) : Nat → Int → Int → Term → Option Int
  | 0, _, _, _ => none
  | m + 1, v0, v1, o0 => (z0y_b1 X n).1 (z0y_l1 X n m) v0 v1 o0
theorem z0y_l1_eq (X : Term → Option Int) (n : Nat) : ∀ (m : Nat), (∀ (v0 : Int) (v1 : Int) (o0 : Term), run (z0y_m X n) [.lq m [0, 1, 0, 1, 1], .blk 0, .cut [1, 1, 1], .at [1, 1, 1]] ⟨[.any, .ptr 0 0, .any, .int .i64 v0, .int .i64 v1, .any, .any, .any, .any, .any, .any, .any, .any, .any, .any, .any, .any, .any, .any, .any, .any, .any], [.cells (Term.cells o0)], 0⟩ = z0y_l1 X n m v0 v1 o0)
  | 0 => by intros; exact run_lq_zero
  | m + 1 => by
    have ih := z0y_l1_eq X n m
    intro v0 v1 o0
    rw [run_lq_succ]
    exact (z0y_b1 X n).2  m _  ih v0 v1 o0
noncomputable def z0y_e (X : Term → Option Int) (n : Nat) : { B : Term → Option Int // ∀ (a0 : Term), run (z0y_m X n) [.at []] { slots := [(tyC Term.cel).enc a0] ++ List.replicate (22 - [(tyC Term.cel).enc a0].length) .any, heap := [] } = B a0 } := by
  apply Subtype.mk
  intro a0
  simp (maxSteps := 100000000) only [go_sem, q00, q01, q02, q03, q04, q05, q06, q10, q11, q12, q13, q14, z0y_f, z0y_c, Try.f70, Option.getD_some, mixed, z0y_n1, z0y_l1_eq X n]
  exact rfl
noncomputable def z0y : Nat → Term → Option Int
  | 0, _ => none
  | n + 1, a0 => (z0y_e (z0y n) n).1 a0
theorem z0y_ok : ∀ (n : Nat) (a0 : Term) (r : Int), z0y n a0 = some r → FnC Try.prog 70 [(tyC Term.cel).enc a0] (fun v => v = (tyI .i64).enc r)
  | 0, _, _, h => by cases h
  | n + 1, a0, r, h => by
    have ih_ref03_Depth := z0y_ok n
    exact fnC_run (M := z0y_m (z0y n) n) ⟨(tabA_cons_ok (ent1_ok (ih_ref03_Depth)) tabA_nil_ok), tabD_nil_ok, tabN_ok _, tabF_ok _, noY_ok, noE_ok⟩ Try.func70 rfl rfl ⟨(tyC Term.cel).nb 0 _, trivial⟩ Try.ntmps70 Try.results70 (fun σ hs => outR_ok (P := Try.prog) (rs := [.tmp 2]) (t := (tyI .i64)) (σ := σ) (r := r) hs) (((z0y_e (z0y n) n).2 a0).trans h)

noncomputable def z12_m (n : Nat) : Mach Int where
  body := (Try.f133.body).getD .skip
  P := Try.prog
  cl := tabA []
  cd := tabD []
  nrm := tabN []
  cut := tabF []
  n := n
  out := outR Try.prog [.tmp 2] (tyI .i64)
theorem z12_f (n : Nat) : (z12_m n).P = Try.prog ∧ (z12_m n).cl = tabA [] ∧ (z12_m n).cd = tabD [] ∧ (z12_m n).nrm = tabN [] ∧ (z12_m n).cut = tabF [] ∧ (z12_m n).n = n ∧ (z12_m n).out = outR Try.prog [.tmp 2] (tyI .i64) := ⟨rfl, rfl, rfl, rfl, rfl, rfl, rfl⟩
theorem z12_c (n : Nat) : (z12_m n).body = (Try.f133.body).getD .skip := rfl
noncomputable def z12_e (n : Nat) : { B : Int → Option Int // ∀ (a0 : Int), run (z12_m n) [.at []] { slots := [(tyI .i64).enc a0] ++ List.replicate (15 - [(tyI .i64).enc a0].length) .any, heap := [] } = B a0 } := by
  apply Subtype.mk
  intro a0
  simp (maxSteps := 100000000) only [go_sem, q00, q01, q02, q03, q04, q05, q06, q10, q11, q12, q13, q14, z12_f, z12_c, Try.f133, Option.getD_some, mixed]
  exact rfl
noncomputable def z12 : Nat → Int → Option Int
  | 0, _ => none
  | n + 1, a0 => (z12_e n).1 a0
theorem z12_ok : ∀ (n : Nat) (a0 : Int) (r : Int), z12 n a0 = some r → FnC Try.prog 133 [(tyI .i64).enc a0] (fun v => v = (tyI .i64).enc r)
  | 0, _, _, h => by cases h
  | n + 1, a0, r, h => by
    exact fnC_run (M := z12_m n) ⟨tabA_nil_ok, tabD_nil_ok, tabN_ok _, tabF_ok _, noY_ok, noE_ok⟩ Try.func133 rfl rfl ⟨(tyI .i64).nb 0 _, trivial⟩ Try.ntmps133 Try.results133 (fun σ hs => outR_ok (P := Try.prog) (rs := [.tmp 2]) (t := (tyI .i64)) (σ := σ) (r := r) hs) (((z12_e n).2 a0).trans h)

noncomputable def z0l_m (n : Nat) : Mach Bool where
  body := (Try.f92.body).getD .skip
  P := Try.prog
  cl := tabA []
  cd := tabD []
  nrm := tabN []
  cut := tabF []
  n := n
  out := outR Try.prog [.tmp 2] tyB
theorem z0l_f (n : Nat) : (z0l_m n).P = Try.prog ∧ (z0l_m n).cl = tabA [] ∧ (z0l_m n).cd = tabD [] ∧ (z0l_m n).nrm = tabN [] ∧ (z0l_m n).cut = tabF [] ∧ (z0l_m n).n = n ∧ (z0l_m n).out = outR Try.prog [.tmp 2] tyB := ⟨rfl, rfl, rfl, rfl, rfl, rfl, rfl⟩
theorem z0l_c (n : Nat) : (z0l_m n).body = (Try.f92.body).getD .skip := rfl
noncomputable def z0l_e (n : Nat) : { B : Int → Option Bool // ∀ (a0 : Int), run (z0l_m n) [.at []] { slots := [(tyI .u8).enc a0] ++ List.replicate (21 - [(tyI .u8).enc a0].length) .any, heap := [] } = B a0 } := by
  apply Subtype.mk
  intro a0
  simp (maxSteps := 100000000) only [go_sem, q00, q01, q02, q03, q04, q05, q06, q10, q11, q12, q13, q14, z0l_f, z0l_c, Try.f92, Option.getD_some, mixed]
  exact rfl
noncomputable def z0l : Nat → Int → Option Bool
  | 0, _ => none
  | n + 1, a0 => (z0l_e n).1 a0
theorem z0l_ok : ∀ (n : Nat) (a0 : Int) (r : Bool), z0l n a0 = some r → FnC Try.prog 92 [(tyI .u8).enc a0] (fun v => v = tyB.enc r)
  | 0, _, _, h => by cases h
  | n + 1, a0, r, h => by
    exact fnC_run (M := z0l_m n) ⟨tabA_nil_ok, tabD_nil_ok, tabN_ok _, tabF_ok _, noY_ok, noE_ok⟩ Try.func92 rfl rfl ⟨(tyI .u8).nb 0 _, trivial⟩ Try.ntmps92 Try.results92 (fun σ hs => outR_ok (P := Try.prog) (rs := [.tmp 2]) (t := tyB) (σ := σ) (r := r) hs) (((z0l_e n).2 a0).trans h)

noncomputable def z0v_n1 : Nrm := ⟨[], [], [zA, zK, zA, zK, zA, zA, zA, zA, zA, zA, zA, zA, zA, zA, zA, zA, zA, zA, zA, zA, zA, zA, zA, zA, zA, zA, zA, zA, zA, zA, zA, zA, zA, zA, zA, zA, zA, zA, zA, zA, zA, zA, zA, zA, zA, zA, zA, zA, zA, zA, zA, zA, zA, zA, zA, zA, zA, zA, zA, zA, zA, zA, zA, zA, zA, zA, zA], [oT Level.cel], none⟩
noncomputable def z0v_m (n : Nat) : Mach Bool where
  body := (Try.f134.body).getD .skip
  P := Try.prog
  cl := tabA []
  cd := tabD []
  nrm := tabN [([0, 1, 0, 1, 1], z0v_n1)]
  cut := tabF []
  n := n
  out := outR Try.prog [.tmp 2] tyB
  isE := tabI []
theorem z0v_f (n : Nat) : (z0v_m n).P = Try.prog ∧ (z0v_m n).cl = tabA [] ∧ (z0v_m n).cd = tabD [] ∧ (z0v_m n).nrm = tabN [([0, 1, 0, 1, 1], z0v_n1)] ∧ (z0v_m n).cut = tabF [] ∧ (z0v_m n).n = n ∧ (z0v_m n).out = outR Try.prog [.tmp 2] tyB ∧ (z0v_m n).isE = tabI [] := ⟨rfl, rfl, rfl, rfl, rfl, rfl, rfl, rfl⟩
theorem z0v_c (n : Nat) : (z0v_m n).body = (Try.f134.body).getD .skip := rfl
theorem z0v_d (n : Nat) : drawP (z0v_m n) [0, 0, 1, 1, 0, 0, 1, 0, 0, 1, 0, 1, 1] = true := by kernel_rfl
noncomputable def z0v_b1 (n : Nat) : { B : (Int → Level → Option Bool) → Int → Level → Option Bool // ∀ m X0, (∀ (v0 : Int) (o0 : Level), run (z0v_m n) [.lq m [0, 1, 0, 1, 1], .blk 0, .cut [1, 1, 1], .at [1, 1, 1]] ⟨[.any, .ptr 0 0, .any, .int .i64 v0, .any, .any, .any, .any, .any, .any, .any, .any, .any, .any, .any, .any, .any, .any, .any, .any, .any, .any, .any, .any, .any, .any, .any, .any, .any, .any, .any, .any, .any, .any, .any, .any, .any, .any, .any, .any, .any, .any, .any, .any, .any, .any, .any, .any, .any, .any, .any, .any, .any, .any, .any, .any, .any, .any, .any, .any, .any, .any, .any, .any, .any, .any, .any], [.cells (Level.cells o0)], 0⟩ = X0 v0 o0) → ∀ (v0 : Int) (o0 : Level), run (z0v_m n) [.at [0, 0, 1, 0, 1, 1], .lp m [0, 1, 0, 1, 1], .blk 0, .cut [1, 1, 1], .at [1, 1, 1]] ⟨[.any, .ptr 0 0, .any, .int .i64 v0, .any, .any, .any, .any, .any, .any, .any, .any, .any, .any, .any, .any, .any, .any, .any, .any, .any, .any, .any, .any, .any, .any, .any, .any, .any, .any, .any, .any, .any, .any, .any, .any, .any, .any, .any, .any, .any, .any, .any, .any, .any, .any, .any, .any, .any, .any, .any, .any, .any, .any, .any, .any, .any, .any, .any, .any, .any, .any, .any, .any, .any, .any, .any], [.cells (Level.cells o0)], 0⟩ = B X0 v0 o0 } := by
  apply Subtype.mk
  intro m X0 ih v0 o0
  simp (maxSteps := 100000000) only [go_sem, q00, q01, q02, q03, q04, q05, q06, q10, q11, q12, q13, q14, z0v_f, z0v_c, Try.f134, Option.getD_some, mixed, z0v_d, z0v_n1, ih]
  exact rfl
noncomputable def z0v_l1 (n : Nat) : Nat → Int → Level → Option Bool
  | 0, _, _ => none
  | m + 1, v0, o0 => (z0v_b1 n).1 (z0v_l1 n m) v0 o0
theorem z0v_l1_eq (n : Nat) : ∀ (m : Nat), (∀ (v0 : Int) (o0 : Level), run (z0v_m n) [.lq m [0, 1, 0, 1, 1], .blk 0, .cut [1, 1, 1], .at [1, 1, 1]] ⟨[.any, .ptr 0 0, .any, .int .i64 v0, .any, .any, .any, .any, .any, .any, .any, .any, .any, .any, .any, .any, .any, .any, .any, .any, .any, .any, .any, .any, .any, .any, .any, .any, .any, .any, .any, .any, .any, .any, .any, .any, .any, .any, .any, .any, .any, .any, .any, .any, .any, .any, .any, .any, .any, .any, .any, .any, .any, .any, .any, .any, .any, .any, .any, .any, .any, .any, .any, .any, .any, .any, .any], [.cells (Level.cells o0)], 0⟩ = z0v_l1 n m v0 o0)
  | 0 => by intros; exact run_lq_zero
  | m + 1 => by
    have ih := z0v_l1_eq n m
    intro v0 o0
    rw [run_lq_succ]
    exact (z0v_b1 n).2  m _  ih v0 o0
noncomputable def z0v_e (n : Nat) : { B : Level → Option Bool // ∀ (a0 : Level), run (z0v_m n) [.at []] { slots := [(tyC Level.cel).enc a0] ++ List.replicate (67 - [(tyC Level.cel).enc a0].length) .any, heap := [] } = B a0 } := by
  apply Subtype.mk
  intro a0
  simp (maxSteps := 100000000) only [go_sem, q00, q01, q02, q03, q04, q05, q06, q10, q11, q12, q13, q14, z0v_f, z0v_c, Try.f134, Option.getD_some, mixed, z0v_d, z0v_n1, z0v_l1_eq n]
  exact rfl
noncomputable def z0v : Nat → Level → Option Bool
  | 0, _ => none
  | n + 1, a0 => (z0v_e n).1 a0
theorem z0v_ok : ∀ (n : Nat) (a0 : Level) (r : Bool), z0v n a0 = some r → FnC Try.prog 134 [(tyC Level.cel).enc a0] (fun v => v = tyB.enc r)
  | 0, _, _, h => by cases h
  | n + 1, a0, r, h => by
    exact fnC_run (M := z0v_m n) ⟨tabA_nil_ok, tabD_nil_ok, tabN_ok _, tabF_ok _, noY_ok, noE_ok⟩ Try.func134 rfl rfl ⟨(tyC Level.cel).nb 0 _, trivial⟩ Try.ntmps134 Try.results134 (fun σ hs => outR_ok (P := Try.prog) (rs := [.tmp 2]) (t := tyB) (σ := σ) (r := r) hs) (((z0v_e n).2 a0).trans h)

noncomputable def z0w_m (n : Nat) : Mach Int where
  body := (Try.f124.body).getD .skip
  P := Try.prog
  cl := tabA []
  cd := tabD []
  nrm := tabN []
  cut := tabF []
  n := n
  out := outR Try.prog [.tmp 4] (tyI .i64)
theorem z0w_f (n : Nat) : (z0w_m n).P = Try.prog ∧ (z0w_m n).cl = tabA [] ∧ (z0w_m n).cd = tabD [] ∧ (z0w_m n).nrm = tabN [] ∧ (z0w_m n).cut = tabF [] ∧ (z0w_m n).n = n ∧ (z0w_m n).out = outR Try.prog [.tmp 4] (tyI .i64) := ⟨rfl, rfl, rfl, rfl, rfl, rfl, rfl⟩
theorem z0w_c (n : Nat) : (z0w_m n).body = (Try.f124.body).getD .skip := rfl
noncomputable def z0w_e (n : Nat) : { B : Int → Int → Option Int // ∀ (a0 : Int) (a1 : Int), run (z0w_m n) [.at []] { slots := [(tyI .i64).enc a0, (tyI .i64).enc a1] ++ List.replicate (27 - [(tyI .i64).enc a0, (tyI .i64).enc a1].length) .any, heap := [] } = B a0 a1 } := by
  apply Subtype.mk
  intro a0 a1
  simp (maxSteps := 100000000) only [go_sem, q00, q01, q02, q03, q04, q05, q06, q10, q11, q12, q13, q14, z0w_f, z0w_c, Try.f124, Option.getD_some, mixed]
  exact rfl
noncomputable def z0w : Nat → Int → Int → Option Int
  | 0, _, _ => none
  | n + 1, a0, a1 => (z0w_e n).1 a0 a1
theorem z0w_ok : ∀ (n : Nat) (a0 : Int) (a1 : Int) (r : Int), z0w n a0 a1 = some r → FnC Try.prog 124 [(tyI .i64).enc a0, (tyI .i64).enc a1] (fun v => v = (tyI .i64).enc r)
  | 0, _, _, _, h => by cases h
  | n + 1, a0, a1, r, h => by
    exact fnC_run (M := z0w_m n) ⟨tabA_nil_ok, tabD_nil_ok, tabN_ok _, tabF_ok _, noY_ok, noE_ok⟩ Try.func124 rfl rfl ⟨(tyI .i64).nb 0 _, (tyI .i64).nb 0 _, trivial⟩ Try.ntmps124 Try.results124 (fun σ hs => outR_ok (P := Try.prog) (rs := [.tmp 4]) (t := (tyI .i64)) (σ := σ) (r := r) hs) (((z0w_e n).2 a0 a1).trans h)
end Go.Abs
namespace Go.Abs
open Go.Proofs
set_option maxRecDepth 100000
set_option maxHeartbeats 4000000
set_option linter.unusedSimpArgs false
set_option linter.unusedVariables false
noncomputable def z0s_m (n : Nat) : Mach Term where
  body := (Try.f94.body).getD .skip
  P := Try.prog
  cl := tabA []
  cd := tabD []
  nrm := tabN []
  cut := tabF []
  n := n
  out := outR Try.prog [.cell 4 25] (tyC Term.cel)
theorem z0s_f (n : Nat) : (z0s_m n).P = Try.prog ∧ (z0s_m n).cl = tabA [] ∧ (z0s_m n).cd = tabD [] ∧ (z0s_m n).nrm = tabN [] ∧ (z0s_m n).cut = tabF [] ∧ (z0s_m n).n = n ∧ (z0s_m n).out = outR Try.prog [.cell 4 25] (tyC Term.cel) := ⟨rfl, rfl, rfl, rfl, rfl, rfl, rfl⟩
theorem z0s_c (n : Nat) : (z0s_m n).body = (Try.f94.body).getD .skip := rfl
noncomputable def z0s_e (n : Nat) : { B : Term → Term → Option Term // ∀ (a0 : Term) (a1 : Term), run (z0s_m n) [.at []] { slots := [(tyC Term.cel).enc a0, (tyC Term.cel).enc a1] ++ List.replicate (9 - [(tyC Term.cel).enc a0, (tyC Term.cel).enc a1].length) .any, heap := [] } = B a0 a1 } := by
  apply Subtype.mk
  intro a0 a1
  simp (maxSteps := 100000000) only [go_sem, q00, q01, q02, q03, q04, q05, q06, q10, q11, q12, q13, q14, z0s_f, z0s_c, Try.f94, Option.getD_some, mixed]
  exact rfl
noncomputable def z0s : Nat → Term → Term → Option Term
  | 0, _, _ => none
  | n + 1, a0, a1 => (z0s_e n).1 a0 a1
theorem z0s_ok : ∀ (n : Nat) (a0 : Term) (a1 : Term) (r : Term), z0s n a0 a1 = some r → FnC Try.prog 94 [(tyC Term.cel).enc a0, (tyC Term.cel).enc a1] (fun v => v = (tyC Term.cel).enc r)
  | 0, _, _, _, h => by cases h
  | n + 1, a0, a1, r, h => by
    exact fnC_run (M := z0s_m n) ⟨tabA_nil_ok, tabD_nil_ok, tabN_ok _, tabF_ok _, noY_ok, noE_ok⟩ Try.func94 rfl rfl ⟨(tyC Term.cel).nb 0 _, (tyC Term.cel).nb 0 _, trivial⟩ Try.ntmps94 Try.results94 (fun σ hs => outR_ok (P := Try.prog) (rs := [.cell 4 25]) (t := (tyC Term.cel)) (σ := σ) (r := r) hs) (((z0s_e n).2 a0 a1).trans h)

noncomputable def z0r_m (n : Nat) : Mach Term where
  body := (Try.f93.body).getD .skip
  P := Try.prog
  cl := tabA []
  cd := tabD []
  nrm := tabN []
  cut := tabF []
  n := n
  out := outR Try.prog [.cell 2 25] (tyC Term.cel)
theorem z0r_f (n : Nat) : (z0r_m n).P = Try.prog ∧ (z0r_m n).cl = tabA [] ∧ (z0r_m n).cd = tabD [] ∧ (z0r_m n).nrm = tabN [] ∧ (z0r_m n).cut = tabF [] ∧ (z0r_m n).n = n ∧ (z0r_m n).out = outR Try.prog [.cell 2 25] (tyC Term.cel) := ⟨rfl, rfl, rfl, rfl, rfl, rfl, rfl⟩
theorem z0r_c (n : Nat) : (z0r_m n).body = (Try.f93.body).getD .skip := rfl
noncomputable def z0r_e (n : Nat) : { B : Int → Option Term // ∀ (a0 : Int), run (z0r_m n) [.at []] { slots := [(tyI .i64).enc a0] ++ List.replicate (5 - [(tyI .i64).enc a0].length) .any, heap := [] } = B a0 } := by
  apply Subtype.mk
  intro a0
  simp (maxSteps := 100000000) only [go_sem, q00, q01, q02, q03, q04, q05, q06, q10, q11, q12, q13, q14, z0r_f, z0r_c, Try.f93, Option.getD_some, mixed]
  exact rfl
noncomputable def z0r : Nat → Int → Option Term
  | 0, _ => none
  | n + 1, a0 => (z0r_e n).1 a0
theorem z0r_ok : ∀ (n : Nat) (a0 : Int) (r : Term), z0r n a0 = some r → FnC Try.prog 93 [(tyI .i64).enc a0] (fun v => v = (tyC Term.cel).enc r)
  | 0, _, _, h => by cases h
  | n + 1, a0, r, h => by
    exact fnC_run (M := z0r_m n) ⟨tabA_nil_ok, tabD_nil_ok, tabN_ok _, tabF_ok _, noY_ok, noE_ok⟩ Try.func93 rfl rfl ⟨(tyI .i64).nb 0 _, trivial⟩ Try.ntmps93 Try.results93 (fun σ hs => outR_ok (P := Try.prog) (rs := [.cell 2 25]) (t := (tyC Term.cel)) (σ := σ) (r := r) hs) (((z0r_e n).2 a0).trans h)

noncomputable def z0t_m (n : Nat) : Mach Term where
  body := (Try.f95.body).getD .skip
  P := Try.prog
  cl := tabA []
  cd := tabD []
  nrm := tabN []
  cut := tabF []
  n := n
  out := outR Try.prog [.cell 4 25] (tyC Term.cel)
theorem z0t_f (n : Nat) : (z0t_m n).P = Try.prog ∧ (z0t_m n).cl = tabA [] ∧ (z0t_m n).cd = tabD [] ∧ (z0t_m n).nrm = tabN [] ∧ (z0t_m n).cut = tabF [] ∧ (z0t_m n).n = n ∧ (z0t_m n).out = outR Try.prog [.cell 4 25] (tyC Term.cel) := ⟨rfl, rfl, rfl, rfl, rfl, rfl, rfl⟩
theorem z0t_c (n : Nat) : (z0t_m n).body = (Try.f95.body).getD .skip := rfl
noncomputable def z0t_e (n : Nat) : { B : Term → Term → Option Term // ∀ (a0 : Term) (a1 : Term), run (z0t_m n) [.at []] { slots := [(tyC Term.cel).enc a0, (tyC Term.cel).enc a1] ++ List.replicate (9 - [(tyC Term.cel).enc a0, (tyC Term.cel).enc a1].length) .any, heap := [] } = B a0 a1 } := by
  apply Subtype.mk
  intro a0 a1
  simp (maxSteps := 100000000) only [go_sem, q00, q01, q02, q03, q04, q05, q06, q10, q11, q12, q13, q14, z0t_f, z0t_c, Try.f95, Option.getD_some, mixed]
  exact rfl
noncomputable def z0t : Nat → Term → Term → Option Term
  | 0, _, _ => none
  | n + 1, a0, a1 => (z0t_e n).1 a0 a1
theorem z0t_ok : ∀ (n : Nat) (a0 : Term) (a1 : Term) (r : Term), z0t n a0 a1 = some r → FnC Try.prog 95 [(tyC Term.cel).enc a0, (tyC Term.cel).enc a1] (fun v => v = (tyC Term.cel).enc r)
  | 0, _, _, _, h => by cases h
  | n + 1, a0, a1, r, h => by
    exact fnC_run (M := z0t_m n) ⟨tabA_nil_ok, tabD_nil_ok, tabN_ok _, tabF_ok _, noY_ok, noE_ok⟩ Try.func95 rfl rfl ⟨(tyC Term.cel).nb 0 _, (tyC Term.cel).nb 0 _, trivial⟩ Try.ntmps95 Try.results95 (fun σ hs => outR_ok (P := Try.prog) (rs := [.cell 4 25]) (t := (tyC Term.cel)) (σ := σ) (r := r) hs) (((z0t_e n).2 a0 a1).trans h)

noncomputable def z0k_n1 : Nrm := ⟨[(4, 5, true)], [], [zA, zK, zA, zK, zK, zA, zA, zA, zA, zA, zA, zA, zA, zA, zA, zA, zA, zA, zA, zA, zA, zA, zA, zA, zA, zA, zA], [oT Term.cel, oK, oA Term.row], none⟩
noncomputable def z0k_m (n : Nat) : Mach ((List Term) × Term) where
  body := (Try.f49.body).getD .skip
  P := Try.prog
  cl := tabA []
  cd := tabD []
  nrm := tabN [([0, 0, 1, 1], z0k_n1)]
  cut := tabF []
  n := n
  out := outR Try.prog [.tmp 2, .cell 3 25] (ty2 (tyL Term.row) (tyC Term.cel))
  isE := tabI []
theorem z0k_f (n : Nat) : (z0k_m n).P = Try.prog ∧ (z0k_m n).cl = tabA [] ∧ (z0k_m n).cd = tabD [] ∧ (z0k_m n).nrm = tabN [([0, 0, 1, 1], z0k_n1)] ∧ (z0k_m n).cut = tabF [] ∧ (z0k_m n).n = n ∧ (z0k_m n).out = outR Try.prog [.tmp 2, .cell 3 25] (ty2 (tyL Term.row) (tyC Term.cel)) ∧ (z0k_m n).isE = tabI [] := ⟨rfl, rfl, rfl, rfl, rfl, rfl, rfl, rfl⟩
theorem z0k_c (n : Nat) : (z0k_m n).body = (Try.f49.body).getD .skip := rfl
theorem z0k_d (n : Nat) : drawP (z0k_m n) [0, 1, 1, 1] = true := by kernel_rfl
theorem z0k_o (n : Nat) : ordP (z0k_m n) [0, 1, 1, 1] 1 3 = true := by kernel_rfl
noncomputable def z0k_b1 (n : Nat) : { B : (Term → (List Term) → Option ((List Term) × Term)) → Term → (List Term) → Option ((List Term) × Term) // ∀ m X0, (∀ (o0 : Term) (r2 : List Term) (c2 : Nat), c2 = r2.length → run (z0k_m n) [.lq m [0, 0, 1, 1], .blk 0, .cut [1, 1, 1], .at [1, 1, 1]] ⟨[.any, .ptr 0 0, .any, .ptr 1 0, .acc 2 c2, .any, .any, .any, .any, .any, .any, .any, .any, .any, .any, .any, .any, .any, .any, .any, .any, .any, .any, .any, .any, .any, .any], [.cells (Term.cells o0), .cells [.int .i64 0, .int .i64 0, .str (sb []), .lst true 0 [], .lst true 0 []], .acc true 5 (mp Term.cells r2)], 0⟩ = X0 o0 r2) → ∀ (o0 : Term) (r2 : List Term), run (z0k_m n) [.at [0, 0, 0, 1, 1], .lp m [0, 0, 1, 1], .blk 0, .cut [1, 1, 1], .at [1, 1, 1]] ⟨[.any, .ptr 0 0, .any, .ptr 1 0, .acc 2 r2.length, .any, .any, .any, .any, .any, .any, .any, .any, .any, .any, .any, .any, .any, .any, .any, .any, .any, .any, .any, .any, .any, .any], [.cells (Term.cells o0), .cells [.int .i64 0, .int .i64 0, .str (sb []), .lst true 0 [], .lst true 0 []], .acc true 5 (mp Term.cells r2)], 0⟩ = B X0 o0 r2 } := by
  apply Subtype.mk
  intro m X0 ih o0 r2
  simp (maxSteps := 100000000) only [go_sem, q00, q01, q02, q03, q04, q05, q06, q10, q11, q12, q13, q14, z0k_f, z0k_c, Try.f49, Option.getD_some, mixed, z0k_d, z0k_o, z0k_n1, ih]
  exact rfl
noncomputable def z0k_l1 (n : Nat) : Nat → Term → (List Term) → Option ((List Term) × Term)
  | 0, _, _ => none
  | m + 1, o0, r2 => (z0k_b1 n).1 (z0k_l1 n m) o0 r2
theorem z0k_l1_eq (n : Nat) : ∀ (m : Nat), (∀ (o0 : Term) (r2 : List Term) (c2 : Nat), c2 = r2.length → run (z0k_m n) [.lq m [0, 0, 1, 1], .blk 0, .cut [1, 1, 1], .at [1, 1, 1]] ⟨[.any, .ptr 0 0, .any, .ptr 1 0, .acc 2 c2, .any, .any, .any, .any, .any, .any, .any, .any, .any, .any, .any, .any, .any, .any, .any, .any, .any, .any, .any, .any, .any, .any], [.cells (Term.cells o0), .cells [.int .i64 0, .int .i64 0, .str (sb []), .lst true 0 [], .lst true 0 []], .acc true 5 (mp Term.cells r2)], 0⟩ = z0k_l1 n m o0 r2)
  | 0 => by intros; exact run_lq_zero
  | m + 1 => by
    have ih := z0k_l1_eq n m
    intro o0 r2 c2 ec2
    subst ec2
    rw [run_lq_succ]
    exact (z0k_b1 n).2  m _  ih o0 r2
noncomputable def z0k_e (n : Nat) : { B : Term → Option ((List Term) × Term) // ∀ (a0 : Term), run (z0k_m n) [.at []] { slots := [(tyC Term.cel).enc a0] ++ List.replicate (27 - [(tyC Term.cel).enc a0].length) .any, heap := [] } = B a0 } := by
  apply Subtype.mk
  intro a0
  simp (maxSteps := 100000000) only [go_sem, q00, q01, q02, q03, q04, q05, q06, q10, q11, q12, q13, q14, z0k_f, z0k_c, Try.f49, Option.getD_some, mixed, z0k_d, z0k_o, z0k_n1, z0k_l1_eq n]
  exact rfl
noncomputable def z0k : Nat → Term → Option ((List Term) × Term)
  | 0, _ => none
  | n + 1, a0 => (z0k_e n).1 a0
theorem z0k_ok : ∀ (n : Nat) (a0 : Term) (r : ((List Term) × Term)), z0k n a0 = some r → FnC Try.prog 49 [(tyC Term.cel).enc a0] (fun v => v = (ty2 (tyL Term.row) (tyC Term.cel)).enc r)
  | 0, _, _, h => by cases h
  | n + 1, a0, r, h => by
    exact fnC_run (M := z0k_m n) ⟨tabA_nil_ok, tabD_nil_ok, tabN_ok _, tabF_ok _, noY_ok, noE_ok⟩ Try.func49 rfl rfl ⟨(tyC Term.cel).nb 0 _, trivial⟩ Try.ntmps49 Try.results49 (fun σ hs => outR_ok (P := Try.prog) (rs := [.tmp 2, .cell 3 25]) (t := (ty2 (tyL Term.row) (tyC Term.cel))) (σ := σ) (r := r) hs) (((z0k_e n).2 a0).trans h)

noncomputable def z07_n1 : Nrm := ⟨[], [], [zK, zA, zK, zK, zA, zA, zA, zA, zA, zA, zA, zA, zA, zA, zA, zA, zA, zA, zA, zA, zA, zA, zA, zA, zA, zA, zA, zA], [oA Term.row], none⟩
noncomputable def z07_m (n : Nat) : Mach (((List Term) × Unit) × Unit) where
  body := (Try.f107.body).getD .skip
  P := Try.prog
  cl := tabA []
  cd := tabD []
  nrm := tabN [([0, 1], z07_n1)]
  cut := tabF []
  n := n
  out := outG Try.prog [] (osC (oaT false Term.row) osN) rsN 1
  isE := tabI []
theorem z07_f (n : Nat) : (z07_m n).P = Try.prog ∧ (z07_m n).cl = tabA [] ∧ (z07_m n).cd = tabD [] ∧ (z07_m n).nrm = tabN [([0, 1], z07_n1)] ∧ (z07_m n).cut = tabF [] ∧ (z07_m n).n = n ∧ (z07_m n).out = outG Try.prog [] (osC (oaT false Term.row) osN) rsN 1 ∧ (z07_m n).isE = tabI [] := ⟨rfl, rfl, rfl, rfl, rfl, rfl, rfl, rfl⟩
theorem z07_c (n : Nat) : (z07_m n).body = (Try.f107.body).getD .skip := rfl
theorem z07_d (n : Nat) : drawP (z07_m n) [0, 0, 1, 0, 0, 1] = true := by kernel_rfl
theorem z07_o (n : Nat) : ordP (z07_m n) [0, 0, 1, 0, 0, 1] 6 13 = true ∧ ordP (z07_m n) [0, 0, 1, 0, 0, 1] 7 13 = true ∧ ordP (z07_m n) [0, 0, 1, 0, 0, 1] 10 13 = true ∧ ordP (z07_m n) [0, 0, 1, 0, 0, 1] 11 13 = true ∧ ordP (z07_m n) [0, 0, 1, 0, 0, 1] 12 13 = true ∧ ordP (z07_m n) [0, 0, 1, 0, 0, 1] 13 14 = true ∧ ordP (z07_m n) [0, 0, 1, 0, 0, 1] 6 15 = true ∧ ordP (z07_m n) [0, 0, 1, 0, 0, 1] 7 15 = true ∧ ordP (z07_m n) [0, 0, 1, 0, 0, 1] 10 15 = true ∧ ordP (z07_m n) [0, 0, 1, 0, 0, 1] 11 15 = true ∧ ordP (z07_m n) [0, 0, 1, 0, 0, 1] 12 15 = true ∧ ordP (z07_m n) [0, 0, 1, 0, 0, 1] 13 15 = true ∧ ordP (z07_m n) [0, 0, 1, 0, 0, 1] 14 15 = true := ⟨by kernel_rfl, by kernel_rfl, by kernel_rfl, by kernel_rfl, by kernel_rfl, by kernel_rfl, by kernel_rfl, by kernel_rfl, by kernel_rfl, by kernel_rfl, by kernel_rfl, by kernel_rfl, by kernel_rfl⟩
noncomputable def z07_b1 (n : Nat) : { B : (Int → Int → (List Term) → Option (((List Term) × Unit) × Unit)) → Int → Int → (List Term) → Option (((List Term) × Unit) × Unit) // ∀ m X0, (∀ (v0 : Int) (v1 : Int) (r0 : List Term) (c0 : Nat), c0 = r0.length → run (z07_m n) [.lq m [0, 1], .blk 0] ⟨[.acc 0 c0, .any, .int .i64 v0, .int .i64 v1, .any, .any, .any, .any, .any, .any, .any, .any, .any, .any, .any, .any, .any, .any, .any, .any, .any, .any, .any, .any, .any, .any, .any, .any], [.acc false 5 (mp Term.cells r0)], 1⟩ = X0 v0 v1 r0) → ∀ (v0 : Int) (v1 : Int) (r0 : List Term), run (z07_m n) [.at [0, 0, 1], .lp m [0, 1], .blk 0] ⟨[.acc 0 r0.length, .any, .int .i64 v0, .int .i64 v1, .any, .any, .any, .any, .any, .any, .any, .any, .any, .any, .any, .any, .any, .any, .any, .any, .any, .any, .any, .any, .any, .any, .any, .any], [.acc false 5 (mp Term.cells r0)], 1⟩ = B X0 v0 v1 r0 } := by
  apply Subtype.mk
  intro m X0 ih v0 v1 r0
  simp (maxSteps := 100000000) only [go_sem, q00, q01, q02, q03, q04, q05, q06, q10, q11, q12, q13, q14, z07_f, z07_c, Try.f107, Option.getD_some, mixed, z07_d, z07_o, z07_n1, ih]
  exact rfl
noncomputable def z07_l1 (n : Nat) : Nat → Int → Int → (List Term) → Option (((List Term) × Unit) × Unit)
  | 0, _, _, _ => none
  | m + 1, v0, v1, r0 => (z07_b1 n).1 (z07_l1 n m) v0 v1 r0
theorem z07_l1_eq (n : Nat) : ∀ (m : Nat), (∀ (v0 : Int) (v1 : Int) (r0 : List Term) (c0 : Nat), c0 = r0.length → run (z07_m n) [.lq m [0, 1], .blk 0] ⟨[.acc 0 c0, .any, .int .i64 v0, .int .i64 v1, .any, .any, .any, .any, .any, .any, .any, .any, .any, .any, .any, .any, .any, .any, .any, .any, .any, .any, .any, .any, .any, .any, .any, .any], [.acc false 5 (mp Term.cells r0)], 1⟩ = z07_l1 n m v0 v1 r0)
  | 0 => by intros; exact run_lq_zero
  | m + 1 => by
    have ih := z07_l1_eq n m
    intro v0 v1 r0 c0 ec0
    subst ec0
    rw [run_lq_succ]
    exact (z07_b1 n).2  m _  ih v0 v1 r0
noncomputable def z07_e (n : Nat) : { B : (List Term) → Option (((List Term) × Unit) × Unit) // ∀ (a0 : (List Term)), run (z07_m n) [.at []] { slots := ((asA 0 (fun (b : ((List Term) × Unit)) => b.1.length) asN).enc (a0, ()) ()) ++ List.replicate (28 - ((asA 0 (fun (b : ((List Term) × Unit)) => b.1.length) asN).enc (a0, ()) ()).length) .any, heap := ((osC (oaT false Term.row) osN).enc (a0, ())), low := ((osC (oaT false Term.row) osN).enc (a0, ())).length } = B a0 } := by
  apply Subtype.mk
  intro a0
  simp (maxSteps := 100000000) only [go_sem, q00, q01, q02, q03, q04, q05, q06, q10, q11, q12, q13, q14, z07_f, z07_c, Try.f107, Option.getD_some, mixed, z07_d, z07_o, z07_n1, z07_l1_eq n]
  exact rfl
noncomputable def z07 : Nat → (List Term) → Option (((List Term) × Unit) × Unit)
  | 0, _ => none
  | n + 1, a0 => (z07_e n).1 a0
theorem z07_ok : ∀ (n : Nat) (a0 : (List Term)) (r : (((List Term) × Unit) × Unit)), z07 n a0 = some r → FnG Try.prog 107 ((asA 0 (fun (b : ((List Term) × Unit)) => b.1.length) asN).enc (a0, ()) ()) ((osC (oaT false Term.row) osN).enc (a0, ())) (fun o H' => o = .ret (tupOf (rsN.enc r.1 r.2)) ∧ H' = (osC (oaT false Term.row) osN).enc r.1)
  | 0, _, _, h => by cases h
  | n + 1, a0, r, h => by
    exact fnG_run (M := z07_m n) ⟨tabA_nil_ok, tabD_nil_ok, tabN_ok _, tabF_ok _, noY_ok, noE_ok⟩ Try.func107 rfl rfl (by simp only [go_sem, q00, q01, q02, q03, q04, q05, q06, q10, q11, q12, q13, q14]) ((osC (oaT false Term.row) osN).nb _ _) Try.ntmps107 Try.results107 (fun σ hs => outG_ok hs) (((z07_e n).2 a0).trans h)

noncomputable def z05_n1 : Nrm := ⟨[], [], [zT (tyL Zs2.row), zT (tyL Zs2.row), zA, zA, zA, zA, zA, zA, zA, zA, zA, zA, zK, zK, zA, zA, zA, zA, zA, zA, zA, zA, zA, zA, zA, zA], [], none⟩
noncomputable def z05_m (n : Nat) : Mach Bool where
  body := (Try.f102.body).getD .skip
  P := Try.prog
  cl := tabA []
  cd := tabD []
  nrm := tabN [([0, 1, 0, 1, 1], z05_n1)]
  cut := tabF []
  n := n
  out := outR Try.prog [.tmp 4] tyB
  isE := tabI []
theorem z05_f (n : Nat) : (z05_m n).P = Try.prog ∧ (z05_m n).cl = tabA [] ∧ (z05_m n).cd = tabD [] ∧ (z05_m n).nrm = tabN [([0, 1, 0, 1, 1], z05_n1)] ∧ (z05_m n).cut = tabF [] ∧ (z05_m n).n = n ∧ (z05_m n).out = outR Try.prog [.tmp 4] tyB ∧ (z05_m n).isE = tabI [] := ⟨rfl, rfl, rfl, rfl, rfl, rfl, rfl, rfl⟩
theorem z05_c (n : Nat) : (z05_m n).body = (Try.f102.body).getD .skip := rfl
theorem z05_d (n : Nat) : drawP (z05_m n) [0, 1, 0, 0, 1, 1, 0, 0, 1, 0, 1, 1] = true := by kernel_rfl
noncomputable def z05_b1 (n : Nat) : { B : ((List Zs2) → (List Zs2) → Int → Int → Option Bool) → (List Zs2) → (List Zs2) → Int → Int → Option Bool // ∀ m X0, (∀ (v0 : List Zs2) (v1 : List Zs2) (v2 : Int) (v3 : Int), run (z05_m n) [.lq m [0, 1, 0, 1, 1], .blk 0, .cut [1, 1, 1], .at [1, 1, 1]] ⟨[.lst false 2 (mp Zs2.cells v0), .lst false 2 (mp Zs2.cells v1), .any, .any, .any, .any, .any, .any, .any, .any, .any, .any, .int .i64 v2, .int .i64 v3, .any, .any, .any, .any, .any, .any, .any, .any, .any, .any, .any, .any], [], 0⟩ = X0 v0 v1 v2 v3) → ∀ (v0 : List Zs2) (v1 : List Zs2) (v2 : Int) (v3 : Int), run (z05_m n) [.at [0, 0, 1, 0, 1, 1], .lp m [0, 1, 0, 1, 1], .blk 0, .cut [1, 1, 1], .at [1, 1, 1]] ⟨[.lst false 2 (mp Zs2.cells v0), .lst false 2 (mp Zs2.cells v1), .any, .any, .any, .any, .any, .any, .any, .any, .any, .any, .int .i64 v2, .int .i64 v3, .any, .any, .any, .any, .any, .any, .any, .any, .any, .any, .any, .any], [], 0⟩ = B X0 v0 v1 v2 v3 } := by
  apply Subtype.mk
  intro m X0 ih v0 v1 v2 v3
  simp (maxSteps := 100000000) only [go_sem, q00, q01, q02, q03, q04, q05, q06, q10, q11, q12, q13, q14, z05_f, z05_c, Try.f102, Option.getD_some, mixed, z05_d, z05_n1, ih]
  exact rfl
noncomputable def z05_l1 (n : Nat) : Nat → (List Zs2) → (List Zs2) → Int → Int → Option Bool
  | 0, _, _, _, _ => none
  | m + 1, v0, v1, v2, v3 => (z05_b1 n).1 (z05_l1 n m) v0 v1 v2 v3
theorem z05_l1_eq (n : Nat) : ∀ (m : Nat), (∀ (v0 : List Zs2) (v1 : List Zs2) (v2 : Int) (v3 : Int), run (z05_m n) [.lq m [0, 1, 0, 1, 1], .blk 0, .cut [1, 1, 1], .at [1, 1, 1]] ⟨[.lst false 2 (mp Zs2.cells v0), .lst false 2 (mp Zs2.cells v1), .any, .any, .any, .any, .any, .any, .any, .any, .any, .any, .int .i64 v2, .int .i64 v3, .any, .any, .any, .any, .any, .any, .any, .any, .any, .any, .any, .any], [], 0⟩ = z05_l1 n m v0 v1 v2 v3)
  | 0 => by intros; exact run_lq_zero
  | m + 1 => by
    have ih := z05_l1_eq n m
    intro v0 v1 v2 v3
    rw [run_lq_succ]
    exact (z05_b1 n).2  m _  ih v0 v1 v2 v3
noncomputable def z05_e (n : Nat) : { B : (List Zs2) → (List Zs2) → Option Bool // ∀ (a0 : (List Zs2)) (a1 : (List Zs2)), run (z05_m n) [.at []] { slots := [(tyL Zs2.row).enc a0, (tyL Zs2.row).enc a1] ++ List.replicate (26 - [(tyL Zs2.row).enc a0, (tyL Zs2.row).enc a1].length) .any, heap := [] } = B a0 a1 } := by
  apply Subtype.mk
  intro a0 a1
  simp (maxSteps := 100000000) only [go_sem, q00, q01, q02, q03, q04, q05, q06, q10, q11, q12, q13, q14, z05_f, z05_c, Try.f102, Option.getD_some, mixed, z05_d, z05_n1, z05_l1_eq n]
  exact rfl
noncomputable def z05 : Nat → (List Zs2) → (List Zs2) → Option Bool
  | 0, _, _ => none
  | n + 1, a0, a1 => (z05_e n).1 a0 a1
theorem z05_ok : ∀ (n : Nat) (a0 : (List Zs2)) (a1 : (List Zs2)) (r : Bool), z05 n a0 a1 = some r → FnC Try.prog 102 [(tyL Zs2.row).enc a0, (tyL Zs2.row).enc a1] (fun v => v = tyB.enc r)
  | 0, _, _, _, h => by cases h
  | n + 1, a0, a1, r, h => by
    exact fnC_run (M := z05_m n) ⟨tabA_nil_ok, tabD_nil_ok, tabN_ok _, tabF_ok _, noY_ok, noE_ok⟩ Try.func102 rfl rfl ⟨(tyL Zs2.row).nb 0 _, (tyL Zs2.row).nb 0 _, trivial⟩ Try.ntmps102 Try.results102 (fun σ hs => outR_ok (P := Try.prog) (rs := [.tmp 4]) (t := tyB) (σ := σ) (r := r) hs) (((z05_e n).2 a0 a1).trans h)
end Go.Abs
namespace Go.Abs
open Go.Proofs
set_option maxRecDepth 100000
set_option maxHeartbeats 4000000
set_option linter.unusedSimpArgs false
set_option linter.unusedVariables false
noncomputable def z0e_n1 : Nrm := ⟨[], [], [zK, zK, zA, zA, zA, zK, zA, zA, zA, zA, zA, zA, zA, zA, zA, zA, zA, zA, zA, zA, zK, zK, zA, zA, zA, zA, zA, zA, zA, zA, zA, zA, zA, zA, zA, zA], [oA Term.row], none⟩
noncomputable def z0e_m (n : Nat) : Mach (List Term) where
  body := (Try.f47.body).getD .skip
  P := Try.prog
  cl := tabA []
  cd := tabD []
  nrm := tabN [([0, 1, 0, 1, 1, 1], z0e_n1)]
  cut := tabF []
  n := n
  out := outR Try.prog [.tmp 4] (tyL Term.row)
theorem z0e_f (n : Nat) : (z0e_m n).P = Try.prog ∧ (z0e_m n).cl = tabA [] ∧ (z0e_m n).cd = tabD [] ∧ (z0e_m n).nrm = tabN [([0, 1, 0, 1, 1, 1], z0e_n1)] ∧ (z0e_m n).cut = tabF [] ∧ (z0e_m n).n = n ∧ (z0e_m n).out = outR Try.prog [.tmp 4] (tyL Term.row) := ⟨rfl, rfl, rfl, rfl, rfl, rfl, rfl⟩
theorem z0e_c (n : Nat) : (z0e_m n).body = (Try.f47.body).getD .skip := rfl
noncomputable def z0e_b1 (n : Nat) : { B : (Int → Int → Int → Int → (List Term) → Option (List Term)) → Int → Int → Int → Int → (List Term) → Option (List Term) // ∀ m X0, (∀ (v0 : Int) (v1 : Int) (v2 : Int) (v3 : Int) (r0 : List Term) (c0 : Nat), c0 = r0.length → run (z0e_m n) [.lq m [0, 1, 0, 1, 1, 1], .blk 0, .cut [1, 1, 1, 1], .at [1, 1, 1, 1]] ⟨[.int .i64 v0, .int .i64 v1, .any, .any, .any, .acc 0 c0, .any, .any, .any, .any, .any, .any, .any, .any, .any, .any, .any, .any, .any, .any, .int .i64 v2, .int .i64 v3, .any, .any, .any, .any, .any, .any, .any, .any, .any, .any, .any, .any, .any, .any], [.acc false 5 (mp Term.cells r0)], 0⟩ = X0 v0 v1 v2 v3 r0) → ∀ (v0 : Int) (v1 : Int) (v2 : Int) (v3 : Int) (r0 : List Term), run (z0e_m n) [.at [0, 0, 1, 0, 1, 1, 1], .lp m [0, 1, 0, 1, 1, 1], .blk 0, .cut [1, 1, 1, 1], .at [1, 1, 1, 1]] ⟨[.int .i64 v0, .int .i64 v1, .any, .any, .any, .acc 0 r0.length, .any, .any, .any, .any, .any, .any, .any, .any, .any, .any, .any, .any, .any, .any, .int .i64 v2, .int .i64 v3, .any, .any, .any, .any, .any, .any, .any, .any, .any, .any, .any, .any, .any, .any], [.acc false 5 (mp Term.cells r0)], 0⟩ = B X0 v0 v1 v2 v3 r0 } := by
  apply Subtype.mk
  intro m X0 ih v0 v1 v2 v3 r0
  simp (maxSteps := 100000000) only [go_sem, q00, q01, q02, q03, q04, q05, q06, q10, q11, q12, q13, q14, z0e_f, z0e_c, Try.f47, Option.getD_some, mixed, z0e_n1, ih]
  exact rfl
noncomputable def z0e_l1 (n : Nat) : Nat → Int → Int → Int → Int → (List Term) → Option (List Term)
  | 0, _, _, _, _, _ => none
  | m + 1, v0, v1, v2, v3, r0 => (z0e_b1 n).1 (z0e_l1 n m) v0 v1 v2 v3 r0
theorem z0e_l1_eq (n : Nat) : ∀ (m : Nat), (∀ (v0 : Int) (v1 : Int) (v2 : Int) (v3 : Int) (r0 : List Term) (c0 : Nat), c0 = r0.length → run (z0e_m n) [.lq m [0, 1, 0, 1, 1, 1], .blk 0, .cut [1, 1, 1, 1], .at [1, 1, 1, 1]] ⟨[.int .i64 v0, .int .i64 v1, .any, .any, .any, .acc 0 c0, .any, .any, .any, .any, .any, .any, .any, .any, .any, .any, .any, .any, .any, .any, .int .i64 v2, .int .i64 v3, .any, .any, .any, .any, .any, .any, .any, .any, .any, .any, .any, .any, .any, .any], [.acc false 5 (mp Term.cells r0)], 0⟩ = z0e_l1 n m v0 v1 v2 v3 r0)
  | 0 => by intros; exact run_lq_zero
  | m + 1 => by
    have ih := z0e_l1_eq n m
    intro v0 v1 v2 v3 r0 c0 ec0
    subst ec0
    rw [run_lq_succ]
    exact (z0e_b1 n).2  m _  ih v0 v1 v2 v3 r0
noncomputable def z0e_e (n : Nat) : { B : Int → Int → Option (List Term) // ∀ (a0 : Int) (a1 : Int), run (z0e_m n) [.at []] { slots := [(tyI .i64).enc a0, (tyI .i64).enc a1] ++ List.replicate (36 - [(tyI .i64).enc a0, (tyI .i64).enc a1].length) .any, heap := [] } = B a0 a1 } := by
  apply Subtype.mk
  intro a0 a1
  simp (maxSteps := 100000000) only [go_sem, q00, q01, q02, q03, q04, q05, q06, q10, q11, q12, q13, q14, z0e_f, z0e_c, Try.f47, Option.getD_some, mixed, z0e_n1, z0e_l1_eq n]
  exact rfl
noncomputable def z0e : Nat → Int → Int → Option (List Term)
  | 0, _, _ => none
  | n + 1, a0, a1 => (z0e_e n).1 a0 a1
theorem z0e_ok : ∀ (n : Nat) (a0 : Int) (a1 : Int) (r : (List Term)), z0e n a0 a1 = some r → FnC Try.prog 47 [(tyI .i64).enc a0, (tyI .i64).enc a1] (fun v => v = (tyL Term.row).enc r)
  | 0, _, _, _, h => by cases h
  | n + 1, a0, a1, r, h => by
    exact fnC_run (M := z0e_m n) ⟨tabA_nil_ok, tabD_nil_ok, tabN_ok _, tabF_ok _, noY_ok, noE_ok⟩ Try.func47 rfl rfl ⟨(tyI .i64).nb 0 _, (tyI .i64).nb 0 _, trivial⟩ Try.ntmps47 Try.results47 (fun σ hs => outR_ok (P := Try.prog) (rs := [.tmp 4]) (t := (tyL Term.row)) (σ := σ) (r := r) hs) (((z0e_e n).2 a0 a1).trans h)

noncomputable def z0g_n1 : Nrm := ⟨[], [(1, 3, 2)], [zA, zA, zA, zA, zK, zK, zA, zA, zA, zK, zK, zA, zA, zA, zA, zA, zA, zA, zA, zA, zA, zA, zA, zA], [oK, oC [zK, zK, zK, zK, zK], oA Level.row], none⟩
noncomputable def z0g_m (n : Nat) : Mach Term where
  body := (Try.f56.body).getD .skip
  P := Try.prog
  cl := tabA []
  cd := tabD []
  nrm := tabN [([0, 1, 0, 1, 1], z0g_n1)]
  cut := tabF []
  n := n
  out := outR Try.prog [.cell 4 25] (tyC Term.cel)
theorem z0g_f (n : Nat) : (z0g_m n).P = Try.prog ∧ (z0g_m n).cl = tabA [] ∧ (z0g_m n).cd = tabD [] ∧ (z0g_m n).nrm = tabN [([0, 1, 0, 1, 1], z0g_n1)] ∧ (z0g_m n).cut = tabF [] ∧ (z0g_m n).n = n ∧ (z0g_m n).out = outR Try.prog [.cell 4 25] (tyC Term.cel) := ⟨rfl, rfl, rfl, rfl, rfl, rfl, rfl⟩
theorem z0g_c (n : Nat) : (z0g_m n).body = (Try.f56.body).getD .skip := rfl
noncomputable def z0g_b1 (n : Nat) : { B : (Int → Int → Int → Str → (List Level) → Option Term) → Int → Int → Int → Str → (List Level) → Option Term // ∀ m X0, (∀ (v0 : Int) (v1 : Int) (v2 : Int) (v3 : Str) (r2 : List Level) (c2 : Nat), c2 = r2.length → run (z0g_m n) [.lq m [0, 1, 0, 1, 1], .blk 0, .cut [1, 1, 1], .at [1, 1, 1]] ⟨[.any, .any, .any, .any, .ptr 0 0, .ptr 1 0, .any, .any, .any, .int .i64 v0, .int .i64 v1, .any, .any, .any, .any, .any, .any, .any, .any, .any, .any, .any, .any, .any], [.cells [.int .i64 0, .int .i64 0, .str (sb []), .lst true 0 [], .lst true 0 []], .cells [.int .i64 v2, .int .i64 0, .str (sb v3), .acc 2 c2, .lst true 0 []], .acc true 2 (mp Level.cells r2)], 0⟩ = X0 v0 v1 v2 v3 r2) → ∀ (v0 : Int) (v1 : Int) (v2 : Int) (v3 : Str) (r2 : List Level), run (z0g_m n) [.at [0, 0, 1, 0, 1, 1], .lp m [0, 1, 0, 1, 1], .blk 0, .cut [1, 1, 1], .at [1, 1, 1]] ⟨[.any, .any, .any, .any, .ptr 0 0, .ptr 1 0, .any, .any, .any, .int .i64 v0, .int .i64 v1, .any, .any, .any, .any, .any, .any, .any, .any, .any, .any, .any, .any, .any], [.cells [.int .i64 0, .int .i64 0, .str (sb []), .lst true 0 [], .lst true 0 []], .cells [.int .i64 v2, .int .i64 0, .str (sb v3), .acc 2 r2.length, .lst true 0 []], .acc true 2 (mp Level.cells r2)], 0⟩ = B X0 v0 v1 v2 v3 r2 } := by
  apply Subtype.mk
  intro m X0 ih v0 v1 v2 v3 r2
  simp (maxSteps := 100000000) only [go_sem, q00, q01, q02, q03, q04, q05, q06, q10, q11, q12, q13, q14, z0g_f, z0g_c, Try.f56, Option.getD_some, mixed, z0g_n1, ih]
  exact rfl
noncomputable def z0g_l1 (n : Nat) : Nat → Int → Int → Int → Str → (List Level) → Option Term
  | 0, _, _, _, _, _ => none
  | m + 1, v0, v1, v2, v3, r2 => (z0g_b1 n).1 (z0g_l1 n m) v0 v1 v2 v3 r2
theorem z0g_l1_eq (n : Nat) : ∀ (m : Nat), (∀ (v0 : Int) (v1 : Int) (v2 : Int) (v3 : Str) (r2 : List Level) (c2 : Nat), c2 = r2.length → run (z0g_m n) [.lq m [0, 1, 0, 1, 1], .blk 0, .cut [1, 1, 1], .at [1, 1, 1]] ⟨[.any, .any, .any, .any, .ptr 0 0, .ptr 1 0, .any, .any, .any, .int .i64 v0, .int .i64 v1, .any, .any, .any, .any, .any, .any, .any, .any, .any, .any, .any, .any, .any], [.cells [.int .i64 0, .int .i64 0, .str (sb []), .lst true 0 [], .lst true 0 []], .cells [.int .i64 v2, .int .i64 0, .str (sb v3), .acc 2 c2, .lst true 0 []], .acc true 2 (mp Level.cells r2)], 0⟩ = z0g_l1 n m v0 v1 v2 v3 r2)
  | 0 => by intros; exact run_lq_zero
  | m + 1 => by
    have ih := z0g_l1_eq n m
    intro v0 v1 v2 v3 r2 c2 ec2
    subst ec2
    rw [run_lq_succ]
    exact (z0g_b1 n).2  m _  ih v0 v1 v2 v3 r2
noncomputable def z0g_e (n : Nat) : { B : Str → Int → Option Term // ∀ (a0 : Str) (a1 : Int), run (z0g_m n) [.at []] { slots := [tyS.enc a0, (tyI .i64).enc a1] ++ List.replicate (24 - [tyS.enc a0, (tyI .i64).enc a1].length) .any, heap := [] } = B a0 a1 } := by
  apply Subtype.mk
  intro a0 a1
  simp (maxSteps := 100000000) only [go_sem, q00, q01, q02, q03, q04, q05, q06, q10, q11, q12, q13, q14, z0g_f, z0g_c, Try.f56, Option.getD_some, mixed, z0g_n1, z0g_l1_eq n]
  exact rfl
noncomputable def z0g : Nat → Str → Int → Option Term
  | 0, _, _ => none
  | n + 1, a0, a1 => (z0g_e n).1 a0 a1
theorem z0g_ok : ∀ (n : Nat) (a0 : Str) (a1 : Int) (r : Term), z0g n a0 a1 = some r → FnC Try.prog 56 [tyS.enc a0, (tyI .i64).enc a1] (fun v => v = (tyC Term.cel).enc r)
  | 0, _, _, _, h => by cases h
  | n + 1, a0, a1, r, h => by
    exact fnC_run (M := z0g_m n) ⟨tabA_nil_ok, tabD_nil_ok, tabN_ok _, tabF_ok _, noY_ok, noE_ok⟩ Try.func56 rfl rfl ⟨tyS.nb 0 _, (tyI .i64).nb 0 _, trivial⟩ Try.ntmps56 Try.results56 (fun σ hs => outR_ok (P := Try.prog) (rs := [.cell 4 25]) (t := (tyC Term.cel)) (σ := σ) (r := r) hs) (((z0g_e n).2 a0 a1).trans h)

noncomputable def z1e_n1 : Nrm := ⟨[(4, 5, true)], [], [zA, zK, zA, zK, zK, zA, zA, zA, zA, zA, zA, zA, zA, zA, zA, zA, zA, zA, zA, zA, zA, zA, zA, zA, zA, zA, zA], [oT Term.cel, oK, oA Term.row], none⟩
noncomputable def z1e_m (n : Nat) : Mach ((List Term) × Term) where
  body := (Try.f21.body).getD .skip
  P := Try.prog
  cl := tabA []
  cd := tabD []
  nrm := tabN [([0, 0, 1, 1], z1e_n1)]
  cut := tabF []
  n := n
  out := outR Try.prog [.tmp 2, .cell 3 25] (ty2 (tyL Term.row) (tyC Term.cel))
  isE := tabI []
theorem z1e_f (n : Nat) : (z1e_m n).P = Try.prog ∧ (z1e_m n).cl = tabA [] ∧ (z1e_m n).cd = tabD [] ∧ (z1e_m n).nrm = tabN [([0, 0, 1, 1], z1e_n1)] ∧ (z1e_m n).cut = tabF [] ∧ (z1e_m n).n = n ∧ (z1e_m n).out = outR Try.prog [.tmp 2, .cell 3 25] (ty2 (tyL Term.row) (tyC Term.cel)) ∧ (z1e_m n).isE = tabI [] := ⟨rfl, rfl, rfl, rfl, rfl, rfl, rfl, rfl⟩
theorem z1e_c (n : Nat) : (z1e_m n).body = (Try.f21.body).getD .skip := rfl
theorem z1e_d (n : Nat) : drawP (z1e_m n) [0, 1, 1, 1] = true := by kernel_rfl
theorem z1e_o (n : Nat) : ordP (z1e_m n) [0, 1, 1, 1] 1 3 = true := by kernel_rfl
noncomputable def z1e_b1 (n : Nat) : { B : (Term → (List Term) → Option ((List Term) × Term)) → Term → (List Term) → Option ((List Term) × Term) // ∀ m X0, (∀ (o0 : Term) (r2 : List Term) (c2 : Nat), c2 = r2.length → run (z1e_m n) [.lq m [0, 0, 1, 1], .blk 0, .cut [1, 1, 1], .at [1, 1, 1]] ⟨[.any, .ptr 0 0, .any, .ptr 1 0, .acc 2 c2, .any, .any, .any, .any, .any, .any, .any, .any, .any, .any, .any, .any, .any, .any, .any, .any, .any, .any, .any, .any, .any, .any], [.cells (Term.cells o0), .cells [.int .i64 0, .int .i64 0, .str (sb []), .lst true 0 [], .lst true 0 []], .acc true 5 (mp Term.cells r2)], 0⟩ = X0 o0 r2) → ∀ (o0 : Term) (r2 : List Term), run (z1e_m n) [.at [0, 0, 0, 1, 1], .lp m [0, 0, 1, 1], .blk 0, .cut [1, 1, 1], .at [1, 1, 1]] ⟨[.any, .ptr 0 0, .any, .ptr 1 0, .acc 2 r2.length, .any, .any, .any, .any, .any, .any, .any, .any, .any, .any, .any, .any, .any, .any, .any, .any, .any, .any, .any, .any, .any, .any], [.cells (Term.cells o0), .cells [.int .i64 0, .int .i64 0, .str (sb []), .lst true 0 [], .lst true 0 []], .acc true 5 (mp Term.cells r2)], 0⟩ = B X0 o0 r2 } := by
  apply Subtype.mk
  intro m X0 ih o0 r2
  simp (maxSteps := 100000000) only [go_sem, q00, q01, q02, q03, q04, q05, q06, q10, q11, q12, q13, q14, z1e_f, z1e_c, Try.f21, Option.getD_some, mixed, z1e_d, z1e_o, z1e_n1, ih]
  exact rfl
noncomputable def z1e_l1 (n : Nat) : Nat → Term → (List Term) → Option ((List Term) × Term)
  | 0, _, _ => none
  | m + 1, o0, r2 => (z1e_b1 n).1 (z1e_l1 n m) o0 r2
theorem z1e_l1_eq (n : Nat) : ∀ (m : Nat), (∀ (o0 : Term) (r2 : List Term) (c2 : Nat), c2 = r2.length → run (z1e_m n) [.lq m [0, 0, 1, 1], .blk 0, .cut [1, 1, 1], .at [1, 1, 1]] ⟨[.any, .ptr 0 0, .any, .ptr 1 0, .acc 2 c2, .any, .any, .any, .any, .any, .any, .any, .any, .any, .any, .any, .any, .any, .any, .any, .any, .any, .any, .any, .any, .any, .any], [.cells (Term.cells o0), .cells [.int .i64 0, .int .i64 0, .str (sb []), .lst true 0 [], .lst true 0 []], .acc true 5 (mp Term.cells r2)], 0⟩ = z1e_l1 n m o0 r2)
  | 0 => by intros; exact run_lq_zero
  | m + 1 => by
    have ih := z1e_l1_eq n m
    intro o0 r2 c2 ec2
    subst ec2
    rw [run_lq_succ]
    exact (z1e_b1 n).2  m _  ih o0 r2
noncomputable def z1e_e (n : Nat) : { B : Term → Option ((List Term) × Term) // ∀ (a0 : Term), run (z1e_m n) [.at []] { slots := [(tyC Term.cel).enc a0] ++ List.replicate (27 - [(tyC Term.cel).enc a0].length) .any, heap := [] } = B a0 } := by
  apply Subtype.mk
  intro a0
  simp (maxSteps := 100000000) only [go_sem, q00, q01, q02, q03, q04, q05, q06, q10, q11, q12, q13, q14, z1e_f, z1e_c, Try.f21, Option.getD_some, mixed, z1e_d, z1e_o, z1e_n1, z1e_l1_eq n]
  exact rfl
noncomputable def z1e : Nat → Term → Option ((List Term) × Term)
  | 0, _ => none
  | n + 1, a0 => (z1e_e n).1 a0
theorem z1e_ok : ∀ (n : Nat) (a0 : Term) (r : ((List Term) × Term)), z1e n a0 = some r → FnC Try.prog 21 [(tyC Term.cel).enc a0] (fun v => v = (ty2 (tyL Term.row) (tyC Term.cel)).enc r)
  | 0, _, _, h => by cases h
  | n + 1, a0, r, h => by
    exact fnC_run (M := z1e_m n) ⟨tabA_nil_ok, tabD_nil_ok, tabN_ok _, tabF_ok _, noY_ok, noE_ok⟩ Try.func21 rfl rfl ⟨(tyC Term.cel).nb 0 _, trivial⟩ Try.ntmps21 Try.results21 (fun σ hs => outR_ok (P := Try.prog) (rs := [.tmp 2, .cell 3 25]) (t := (ty2 (tyL Term.row) (tyC Term.cel))) (σ := σ) (r := r) hs) (((z1e_e n).2 a0).trans h)

noncomputable def z18_n1 : Nrm := ⟨[], [], [zK, zT (tyL Term.row), zA, zA, zA, zK, zK, zK, zA, zA, zA, zA, zA, zA, zA, zA, zA, zA, zA, zA, zA, zA, zA, zA], [oT Term.cel, oK], none⟩
noncomputable def z18_m (n : Nat) : Mach Term where
  body := (Try.f61.body).getD .skip
  P := Try.prog
  cl := tabA []
  cd := tabD []
  nrm := tabN [([0, 1, 0, 1], z18_n1)]
  cut := tabF []
  n := n
  out := outR Try.prog [.cell 6 25] (tyC Term.cel)
  isE := tabI []
theorem z18_f (n : Nat) : (z18_m n).P = Try.prog ∧ (z18_m n).cl = tabA [] ∧ (z18_m n).cd = tabD [] ∧ (z18_m n).nrm = tabN [([0, 1, 0, 1], z18_n1)] ∧ (z18_m n).cut = tabF [] ∧ (z18_m n).n = n ∧ (z18_m n).out = outR Try.prog [.cell 6 25] (tyC Term.cel) ∧ (z18_m n).isE = tabI [] := ⟨rfl, rfl, rfl, rfl, rfl, rfl, rfl, rfl⟩
theorem z18_c (n : Nat) : (z18_m n).body = (Try.f61.body).getD .skip := rfl
theorem z18_d (n : Nat) : drawP (z18_m n) [0, 0, 1, 0, 0, 1, 0, 1] = true := by kernel_rfl
theorem z18_o (n : Nat) : ordP (z18_m n) [0, 0, 1, 0, 0, 1, 0, 1] 3 8 = true ∧ ordP (z18_m n) [0, 0, 1, 0, 0, 1, 0, 1] 4 8 = true ∧ ordP (z18_m n) [0, 0, 1, 0, 0, 1, 0, 1] 5 8 = true := ⟨by kernel_rfl, by kernel_rfl, by kernel_rfl⟩
noncomputable def z18_b1 (n : Nat) : { B : (Int → (List Term) → Int → Term → Option Term) → Int → (List Term) → Int → Term → Option Term // ∀ m X0, (∀ (v0 : Int) (v1 : List Term) (v2 : Int) (o0 : Term), run (z18_m n) [.lq m [0, 1, 0, 1], .blk 0, .cut [1, 1], .at [1, 1]] ⟨[.int .i64 v0, .lst false 5 (mp Term.cells v1), .any, .any, .any, .ptr 0 0, .ptr 1 0, .int .i64 v2, .any, .any, .any, .any, .any, .any, .any, .any, .any, .any, .any, .any, .any, .any, .any, .any], [.cells (Term.cells o0), .cells [.int .i64 0, .int .i64 0, .str (sb []), .lst true 0 [], .lst true 0 []]], 0⟩ = X0 v0 v1 v2 o0) → ∀ (v0 : Int) (v1 : List Term) (v2 : Int) (o0 : Term), run (z18_m n) [.at [0, 0, 1, 0, 1], .lp m [0, 1, 0, 1], .blk 0, .cut [1, 1], .at [1, 1]] ⟨[.int .i64 v0, .lst false 5 (mp Term.cells v1), .any, .any, .any, .ptr 0 0, .ptr 1 0, .int .i64 v2, .any, .any, .any, .any, .any, .any, .any, .any, .any, .any, .any, .any, .any, .any, .any, .any], [.cells (Term.cells o0), .cells [.int .i64 0, .int .i64 0, .str (sb []), .lst true 0 [], .lst true 0 []]], 0⟩ = B X0 v0 v1 v2 o0 } := by
  apply Subtype.mk
  intro m X0 ih v0 v1 v2 o0
  simp (maxSteps := 100000000) only [go_sem, q00, q01, q02, q03, q04, q05, q06, q10, q11, q12, q13, q14, z18_f, z18_c, Try.f61, Option.getD_some, mixed, z18_d, z18_o, z18_n1, ih]
  exact rfl
noncomputable def z18_l1 (n : Nat) : Nat → Int → (List Term) → Int → Term → Option Term
  | 0, _, _, _, _ => none
  | m + 1, v0, v1, v2, o0 => (z18_b1 n).1 (z18_l1 n m) v0 v1 v2 o0
theorem z18_l1_eq (n : Nat) : ∀ (m : Nat), (∀ (v0 : Int) (v1 : List Term) (v2 : Int) (o0 : Term), run (z18_m n) [.lq m [0, 1, 0, 1], .blk 0, .cut [1, 1], .at [1, 1]] ⟨[.int .i64 v0, .lst false 5 (mp Term.cells v1), .any, .any, .any, .ptr 0 0, .ptr 1 0, .int .i64 v2, .any, .any, .any, .any, .any, .any, .any, .any, .any, .any, .any, .any, .any, .any, .any, .any], [.cells (Term.cells o0), .cells [.int .i64 0, .int .i64 0, .str (sb []), .lst true 0 [], .lst true 0 []]], 0⟩ = z18_l1 n m v0 v1 v2 o0)
  | 0 => by intros; exact run_lq_zero
  | m + 1 => by
    have ih := z18_l1_eq n m
    intro v0 v1 v2 o0
    rw [run_lq_succ]
    exact (z18_b1 n).2  m _  ih v0 v1 v2 o0
noncomputable def z18_e (n : Nat) : { B : Int → (List Term) → Term → Option Term // ∀ (a0 : Int) (a1 : (List Term)) (a2 : Term), run (z18_m n) [.at []] { slots := [(tyI .i64).enc a0, (tyL Term.row).enc a1, (tyC Term.cel).enc a2] ++ List.replicate (24 - [(tyI .i64).enc a0, (tyL Term.row).enc a1, (tyC Term.cel).enc a2].length) .any, heap := [] } = B a0 a1 a2 } := by
  apply Subtype.mk
  intro a0 a1 a2
  simp (maxSteps := 100000000) only [go_sem, q00, q01, q02, q03, q04, q05, q06, q10, q11, q12, q13, q14, z18_f, z18_c, Try.f61, Option.getD_some, mixed, z18_d, z18_o, z18_n1, z18_l1_eq n]
  exact rfl
noncomputable def z18 : Nat → Int → (List Term) → Term → Option Term
  | 0, _, _, _ => none
  | n + 1, a0, a1, a2 => (z18_e n).1 a0 a1 a2
theorem z18_ok : ∀ (n : Nat) (a0 : Int) (a1 : (List Term)) (a2 : Term) (r : Term), z18 n a0 a1 a2 = some r → FnC Try.prog 61 [(tyI .i64).enc a0, (tyL Term.row).enc a1, (tyC Term.cel).enc a2] (fun v => v = (tyC Term.cel).enc r)
  | 0, _, _, _, _, h => by cases h
  | n + 1, a0, a1, a2, r, h => by
    exact fnC_run (M := z18_m n) ⟨tabA_nil_ok, tabD_nil_ok, tabN_ok _, tabF_ok _, noY_ok, noE_ok⟩ Try.func61 rfl rfl ⟨(tyI .i64).nb 0 _, (tyL Term.row).nb 0 _, (tyC Term.cel).nb 0 _, trivial⟩ Try.ntmps61 Try.results61 (fun σ hs => outR_ok (P := Try.prog) (rs := [.cell 6 25]) (t := (tyC Term.cel)) (σ := σ) (r := r) hs) (((z18_e n).2 a0 a1 a2).trans h)

noncomputable def z11_n1 : Nrm := ⟨[], [], [zA, zA, zK, zK, zA, zK, zA, zA, zA, zA, zA, zA, zA, zA, zA, zA, zA, zA, zA, zA, zA, zA, zA, zA, zA, zA, zA, zA, zA, zA, zA, zA, zA, zA, zA, zA, zA, zA], [oT Level.cel, oT Level.cel], none⟩
noncomputable def z11_m (n : Nat) : Mach Bool where
  body := (Try.f101.body).getD .skip
  P := Try.prog
  cl := tabA []
  cd := tabD []
  nrm := tabN [([0, 1, 0, 1, 1], z11_n1)]
  cut := tabF []
  n := n
  out := outR Try.prog [.tmp 4] tyB
  isE := tabI []
theorem z11_f (n : Nat) : (z11_m n).P = Try.prog ∧ (z11_m n).cl = tabA [] ∧ (z11_m n).cd = tabD [] ∧ (z11_m n).nrm = tabN [([0, 1, 0, 1, 1], z11_n1)] ∧ (z11_m n).cut = tabF [] ∧ (z11_m n).n = n ∧ (z11_m n).out = outR Try.prog [.tmp 4] tyB ∧ (z11_m n).isE = tabI [] := ⟨rfl, rfl, rfl, rfl, rfl, rfl, rfl, rfl⟩
theorem z11_c (n : Nat) : (z11_m n).body = (Try.f101.body).getD .skip := rfl
theorem z11_d (n : Nat) : drawP (z11_m n) [0, 0, 0, 1, 0, 0, 1, 0, 1, 1] = true := by kernel_rfl
noncomputable def z11_b1 (n : Nat) : { B : (Int → Level → Level → Option Bool) → Int → Level → Level → Option Bool // ∀ m X0, (∀ (v0 : Int) (o0 : Level) (o1 : Level), run (z11_m n) [.lq m [0, 1, 0, 1, 1], .blk 0, .cut [1, 1, 1], .at [1, 1, 1]] ⟨[.any, .any, .ptr 0 0, .ptr 1 0, .any, .int .i64 v0, .any, .any, .any, .any, .any, .any, .any, .any, .any, .any, .any, .any, .any, .any, .any, .any, .any, .any, .any, .any, .any, .any, .any, .any, .any, .any, .any, .any, .any, .any, .any, .any], [.cells (Level.cells o0), .cells (Level.cells o1)], 0⟩ = X0 v0 o0 o1) → ∀ (v0 : Int) (o0 : Level) (o1 : Level), run (z11_m n) [.at [0, 0, 1, 0, 1, 1], .lp m [0, 1, 0, 1, 1], .blk 0, .cut [1, 1, 1], .at [1, 1, 1]] ⟨[.any, .any, .ptr 0 0, .ptr 1 0, .any, .int .i64 v0, .any, .any, .any, .any, .any, .any, .any, .any, .any, .any, .any, .any, .any, .any, .any, .any, .any, .any, .any, .any, .any, .any, .any, .any, .any, .any, .any, .any, .any, .any, .any, .any], [.cells (Level.cells o0), .cells (Level.cells o1)], 0⟩ = B X0 v0 o0 o1 } := by
  apply Subtype.mk
  intro m X0 ih v0 o0 o1
  simp (maxSteps := 100000000) only [go_sem, q00, q01, q02, q03, q04, q05, q06, q10, q11, q12, q13, q14, z11_f, z11_c, Try.f101, Option.getD_some, mixed, z11_d, z11_n1, ih]
  exact rfl
noncomputable def z11_l1 (n : Nat) : Nat → Int → Level → Level → Option Bool
  | 0, _, _, _ => none
  | m + 1, v0, o0, o1 => (z11_b1 n).1 (z11_l1 n m) v0 o0 o1
theorem z11_l1_eq (n : Nat) : ∀ (m : Nat), (∀ (v0 : Int) (o0 : Level) (o1 : Level), run (z11_m n) [.lq m [0, 1, 0, 1, 1], .blk 0, .cut [1, 1, 1], .at [1, 1, 1]] ⟨[.any, .any, .ptr 0 0, .ptr 1 0, .any, .int .i64 v0, .any, .any, .any, .any, .any, .any, .any, .any, .any, .any, .any, .any, .any, .any, .any, .any, .any, .any, .any, .any, .any, .any, .any, .any, .any, .any, .any, .any, .any, .any, .any, .any], [.cells (Level.cells o0), .cells (Level.cells o1)], 0⟩ = z11_l1 n m v0 o0 o1)
  | 0 => by intros; exact run_lq_zero
  | m + 1 => by
    have ih := z11_l1_eq n m
    intro v0 o0 o1
    rw [run_lq_succ]
    exact (z11_b1 n).2  m _  ih v0 o0 o1
noncomputable def z11_e (n : Nat) : { B : Level → Level → Option Bool // ∀ (a0 : Level) (a1 : Level), run (z11_m n) [.at []] { slots := [(tyC Level.cel).enc a0, (tyC Level.cel).enc a1] ++ List.replicate (38 - [(tyC Level.cel).enc a0, (tyC Level.cel).enc a1].length) .any, heap := [] } = B a0 a1 } := by
  apply Subtype.mk
  intro a0 a1
  simp (maxSteps := 100000000) only [go_sem, q00, q01, q02, q03, q04, q05, q06, q10, q11, q12, q13, q14, z11_f, z11_c, Try.f101, Option.getD_some, mixed, z11_d, z11_n1, z11_l1_eq n]
  exact rfl
noncomputable def z11 : Nat → Level → Level → Option Bool
  | 0, _, _ => none
  | n + 1, a0, a1 => (z11_e n).1 a0 a1
theorem z11_ok : ∀ (n : Nat) (a0 : Level) (a1 : Level) (r : Bool), z11 n a0 a1 = some r → FnC Try.prog 101 [(tyC Level.cel).enc a0, (tyC Level.cel).enc a1] (fun v => v = tyB.enc r)
  | 0, _, _, _, h => by cases h
  | n + 1, a0, a1, r, h => by
    exact fnC_run (M := z11_m n) ⟨tabA_nil_ok, tabD_nil_ok, tabN_ok _, tabF_ok _, noY_ok, noE_ok⟩ Try.func101 rfl rfl ⟨(tyC Level.cel).nb 0 _, (tyC Level.cel).nb 0 _, trivial⟩ Try.ntmps101 Try.results101 (fun σ hs => outR_ok (P := Try.prog) (rs := [.tmp 4]) (t := tyB) (σ := σ) (r := r) hs) (((z11_e n).2 a0 a1).trans h)

noncomputable def z1a_m (n : Nat) : Mach Bool where
  body := (Try.f58.body).getD .skip
  P := Try.prog
  cl := tabA []
  cd := tabD []
  nrm := tabN []
  cut := tabF []
  n := n
  out := outR Try.prog [.tmp 2] tyB
theorem z1a_f (n : Nat) : (z1a_m n).P = Try.prog ∧ (z1a_m n).cl = tabA [] ∧ (z1a_m n).cd = tabD [] ∧ (z1a_m n).nrm = tabN [] ∧ (z1a_m n).cut = tabF [] ∧ (z1a_m n).n = n ∧ (z1a_m n).out = outR Try.prog [.tmp 2] tyB := ⟨rfl, rfl, rfl, rfl, rfl, rfl, rfl⟩
theorem z1a_c (n : Nat) : (z1a_m n).body = (Try.f58.body).getD .skip := rfl
noncomputable def z1a_e (n : Nat) : { B : Term → Option Bool // ∀ (a0 : Term), run (z1a_m n) [.at []] { slots := [(tyC Term.cel).enc a0] ++ List.replicate (11 - [(tyC Term.cel).enc a0].length) .any, heap := [] } = B a0 } := by
  apply Subtype.mk
  intro a0
  simp (maxSteps := 100000000) only [go_sem, q00, q01, q02, q03, q04, q05, q06, q10, q11, q12, q13, q14, z1a_f, z1a_c, Try.f58, Option.getD_some, mixed]
  exact rfl
noncomputable def z1a : Nat → Term → Option Bool
  | 0, _ => none
  | n + 1, a0 => (z1a_e n).1 a0
theorem z1a_ok : ∀ (n : Nat) (a0 : Term) (r : Bool), z1a n a0 = some r → FnC Try.prog 58 [(tyC Term.cel).enc a0] (fun v => v = tyB.enc r)
  | 0, _, _, h => by cases h
  | n + 1, a0, r, h => by
    exact fnC_run (M := z1a_m n) ⟨tabA_nil_ok, tabD_nil_ok, tabN_ok _, tabF_ok _, noY_ok, noE_ok⟩ Try.func58 rfl rfl ⟨(tyC Term.cel).nb 0 _, trivial⟩ Try.ntmps58 Try.results58 (fun σ hs => outR_ok (P := Try.prog) (rs := [.tmp 2]) (t := tyB) (σ := σ) (r := r) hs) (((z1a_e n).2 a0).trans h)
end Go.Abs
namespace Go.Abs
open Go.Proofs
set_option maxRecDepth 100000
set_option maxHeartbeats 4000000
set_option linter.unusedSimpArgs false
set_option linter.unusedVariables false
noncomputable def z1d_m (n : Nat) : Mach (Level × Int) where
  body := (Try.f88.body).getD .skip
  P := Try.prog
  cl := tabA []
  cd := tabD []
  nrm := tabN []
  cut := tabF []
  n := n
  out := outR Try.prog [.cell 4 51, .tmp 5] (ty2 (tyC Level.cel) (tyI .i64))
theorem z1d_f (n : Nat) : (z1d_m n).P = Try.prog ∧ (z1d_m n).cl = tabA [] ∧ (z1d_m n).cd = tabD [] ∧ (z1d_m n).nrm = tabN [] ∧ (z1d_m n).cut = tabF [] ∧ (z1d_m n).n = n ∧ (z1d_m n).out = outR Try.prog [.cell 4 51, .tmp 5] (ty2 (tyC Level.cel) (tyI .i64)) := ⟨rfl, rfl, rfl, rfl, rfl, rfl, rfl⟩
theorem z1d_c (n : Nat) : (z1d_m n).body = (Try.f88.body).getD .skip := rfl
noncomputable def z1d_e (n : Nat) : { B : Int → Int → Option (Level × Int) // ∀ (a0 : Int) (a1 : Int), run (z1d_m n) [.at []] { slots := [(tyI .i64).enc a0, (tyI .i64).enc a1] ++ List.replicate (25 - [(tyI .i64).enc a0, (tyI .i64).enc a1].length) .any, heap := [] } = B a0 a1 } := by
  apply Subtype.mk
  intro a0 a1
  simp (maxSteps := 100000000) only [go_sem, q00, q01, q02, q03, q04, q05, q06, q10, q11, q12, q13, q14, z1d_f, z1d_c, Try.f88, Option.getD_some, mixed]
  exact rfl
noncomputable def z1d : Nat → Int → Int → Option (Level × Int)
  | 0, _, _ => none
  | n + 1, a0, a1 => (z1d_e n).1 a0 a1
theorem z1d_ok : ∀ (n : Nat) (a0 : Int) (a1 : Int) (r : (Level × Int)), z1d n a0 a1 = some r → FnC Try.prog 88 [(tyI .i64).enc a0, (tyI .i64).enc a1] (fun v => v = (ty2 (tyC Level.cel) (tyI .i64)).enc r)
  | 0, _, _, _, h => by cases h
  | n + 1, a0, a1, r, h => by
    exact fnC_run (M := z1d_m n) ⟨tabA_nil_ok, tabD_nil_ok, tabN_ok _, tabF_ok _, noY_ok, noE_ok⟩ Try.func88 rfl rfl ⟨(tyI .i64).nb 0 _, (tyI .i64).nb 0 _, trivial⟩ Try.ntmps88 Try.results88 (fun σ hs => outR_ok (P := Try.prog) (rs := [.cell 4 51, .tmp 5]) (t := (ty2 (tyC Level.cel) (tyI .i64))) (σ := σ) (r := r) hs) (((z1d_e n).2 a0 a1).trans h)

noncomputable def z0i_m (X : Term → Option (((List Term) × Unit) × (Term × Unit))) (n : Nat) : Mach (((List Term) × Unit) × (Term × Unit)) where
  body := (Try.f74.body).getD .skip
  P := Try.prog
  cl := tabA [(74, entG [] osN (asT (tyC Term.cel) asN) (osC (oaT true Term.row) osN) (rsT (tyC Term.cel) (rsA 0 (fun (b : ((List Term) × Unit)) => b.1.length) rsN)) (fun (b : Unit) a => X a.1))]
  cd := tabD []
  nrm := tabN []
  cut := tabF []
  n := n
  out := outH Try.prog [.cell 2 25, .tmp 3] 1 Term.row (rsT (tyC Term.cel) (rsA 0 (fun (b : ((List Term) × Unit)) => b.1.length) rsN))
  isE := tabI []
theorem z0i_f (X : Term → Option (((List Term) × Unit) × (Term × Unit))) (n : Nat) : (z0i_m X n).P = Try.prog ∧ (z0i_m X n).cl = tabA [(74, entG [] osN (asT (tyC Term.cel) asN) (osC (oaT true Term.row) osN) (rsT (tyC Term.cel) (rsA 0 (fun (b : ((List Term) × Unit)) => b.1.length) rsN)) (fun (b : Unit) a => X a.1))] ∧ (z0i_m X n).cd = tabD [] ∧ (z0i_m X n).nrm = tabN [] ∧ (z0i_m X n).cut = tabF [] ∧ (z0i_m X n).n = n ∧ (z0i_m X n).out = outH Try.prog [.cell 2 25, .tmp 3] 1 Term.row (rsT (tyC Term.cel) (rsA 0 (fun (b : ((List Term) × Unit)) => b.1.length) rsN)) ∧ (z0i_m X n).isE = tabI [] := ⟨rfl, rfl, rfl, rfl, rfl, rfl, rfl, rfl⟩
theorem z0i_c (X : Term → Option (((List Term) × Unit) × (Term × Unit))) (n : Nat) : (z0i_m X n).body = (Try.f74.body).getD .skip := rfl
theorem z0i_d (X : Term → Option (((List Term) × Unit) × (Term × Unit))) (n : Nat) : drawP (z0i_m X n) [0, 1, 1, 1] = true := by kernel_rfl
theorem z0i_o (X : Term → Option (((List Term) × Unit) × (Term × Unit))) (n : Nat) : ordP (z0i_m X n) [0, 1, 1, 1] 3 7 = true ∧ ordP (z0i_m X n) [0, 1, 1, 1] 4 7 = true ∧ ordP (z0i_m X n) [0, 1, 1, 1] 5 7 = true ∧ ordP (z0i_m X n) [0, 1, 1, 1] 0 8 = true ∧ ordP (z0i_m X n) [0, 1, 1, 1] 3 8 = true ∧ ordP (z0i_m X n) [0, 1, 1, 1] 4 8 = true ∧ ordP (z0i_m X n) [0, 1, 1, 1] 5 8 = true ∧ ordP (z0i_m X n) [0, 1, 1, 1] 7 8 = true := ⟨by kernel_rfl, by kernel_rfl, by kernel_rfl, by kernel_rfl, by kernel_rfl, by kernel_rfl, by kernel_rfl, by kernel_rfl⟩
noncomputable def z0i_e (X : Term → Option (((List Term) × Unit) × (Term × Unit))) (n : Nat) : { B : Term → Option (((List Term) × Unit) × (Term × Unit)) // ∀ (a0 : Term), run (z0i_m X n) [.at []] { slots := (((asT (tyC Term.cel) asN) : ASpec Unit _).enc () (a0, ())) ++ List.replicate (32 - (((asT (tyC Term.cel) asN) : ASpec Unit _).enc () (a0, ())).length) .any, heap := (osN.enc ()), low := (osN.enc ()).length } = B a0 } := by
  apply Subtype.mk
  intro a0
  simp (maxSteps := 100000000) only [go_sem, q00, q01, q02, q03, q04, q05, q06, q10, q11, q12, q13, q14, z0i_f, z0i_c, Try.f74, Option.getD_some, mixed, z0i_d, z0i_o]
  exact rfl
noncomputable def z0i : Nat → Term → Option (((List Term) × Unit) × (Term × Unit))
  | 0, _ => none
  | n + 1, a0 => (z0i_e (z0i n) n).1 a0
theorem z0i_ok : ∀ (n : Nat) (a0 : Term) (r : (((List Term) × Unit) × (Term × Unit))), z0i n a0 = some r → FnG Try.prog 74 (((asT (tyC Term.cel) asN) : ASpec Unit _).enc () (a0, ())) (osN.enc ()) (fun o H' => o = .ret (tupOf ((rsT (tyC Term.cel) (rsA 0 (fun (b : ((List Term) × Unit)) => b.1.length) rsN)).enc r.1 r.2)) ∧ H' = (osC (oaT true Term.row) osN).enc r.1)
  | 0, _, _, h => by cases h
  | n + 1, a0, r, h => by
    have ih_ref05_Spine_h := z0i_ok n
    exact fnG_run (M := z0i_m (z0i n) n) ⟨(tabA_cons_ok (entG_ok (fun b a r h => (ih_ref05_Spine_h) a.1 r h)) tabA_nil_ok), tabD_nil_ok, tabN_ok _, tabF_ok _, noY_ok, noE_ok⟩ Try.func74 rfl rfl (by simp only [go_sem, q00, q01, q02, q03, q04, q05, q06, q10, q11, q12, q13, q14]) (osN.nb _ _) Try.ntmps74 Try.results74 (fun σ hs => outH_ok hs) (((z0i_e (z0i n) n).2 a0).trans h)

noncomputable def z17_n1 : Nrm := ⟨[(5, 5, true)], [], [zA, zK, zA, zA, zA, zK, zK, zA, zA, zA, zA, zA, zA, zA, zA, zA, zA, zA, zA, zA, zA, zA, zA, zA, zA, zA, zA, zA, zA, zA, zA], [oA Term.row], none⟩
noncomputable def z17_m (n : Nat) : Mach (List Term) where
  body := (Try.f86.body).getD .skip
  P := Try.prog
  cl := tabA []
  cd := tabD []
  nrm := tabN [([0, 1, 0, 1, 1, 1], z17_n1)]
  cut := tabF []
  n := n
  out := outR Try.prog [.tmp 4] (tyL Term.row)
theorem z17_f (n : Nat) : (z17_m n).P = Try.prog ∧ (z17_m n).cl = tabA [] ∧ (z17_m n).cd = tabD [] ∧ (z17_m n).nrm = tabN [([0, 1, 0, 1, 1, 1], z17_n1)] ∧ (z17_m n).cut = tabF [] ∧ (z17_m n).n = n ∧ (z17_m n).out = outR Try.prog [.tmp 4] (tyL Term.row) := ⟨rfl, rfl, rfl, rfl, rfl, rfl, rfl⟩
theorem z17_c (n : Nat) : (z17_m n).body = (Try.f86.body).getD .skip := rfl
noncomputable def z17_b1 (n : Nat) : { B : (Int → Int → (List Term) → Option (List Term)) → Int → Int → (List Term) → Option (List Term) // ∀ m X0, (∀ (v0 : Int) (v1 : Int) (r0 : List Term) (c0 : Nat), c0 = r0.length → run (z17_m n) [.lq m [0, 1, 0, 1, 1, 1], .blk 0, .cut [1, 1, 1, 1], .at [1, 1, 1, 1]] ⟨[.any, .int .i64 v0, .any, .any, .any, .acc 0 c0, .int .i64 v1, .any, .any, .any, .any, .any, .any, .any, .any, .any, .any, .any, .any, .any, .any, .any, .any, .any, .any, .any, .any, .any, .any, .any, .any], [.acc true 5 (mp Term.cells r0)], 0⟩ = X0 v0 v1 r0) → ∀ (v0 : Int) (v1 : Int) (r0 : List Term), run (z17_m n) [.at [0, 0, 1, 0, 1, 1, 1], .lp m [0, 1, 0, 1, 1, 1], .blk 0, .cut [1, 1, 1, 1], .at [1, 1, 1, 1]] ⟨[.any, .int .i64 v0, .any, .any, .any, .acc 0 r0.length, .int .i64 v1, .any, .any, .any, .any, .any, .any, .any, .any, .any, .any, .any, .any, .any, .any, .any, .any, .any, .any, .any, .any, .any, .any, .any, .any], [.acc true 5 (mp Term.cells r0)], 0⟩ = B X0 v0 v1 r0 } := by
  apply Subtype.mk
  intro m X0 ih v0 v1 r0
  simp (maxSteps := 100000000) only [go_sem, q00, q01, q02, q03, q04, q05, q06, q10, q11, q12, q13, q14, z17_f, z17_c, Try.f86, Option.getD_some, mixed, z17_n1, ih]
  exact rfl
noncomputable def z17_l1 (n : Nat) : Nat → Int → Int → (List Term) → Option (List Term)
  | 0, _, _, _ => none
  | m + 1, v0, v1, r0 => (z17_b1 n).1 (z17_l1 n m) v0 v1 r0
theorem z17_l1_eq (n : Nat) : ∀ (m : Nat), (∀ (v0 : Int) (v1 : Int) (r0 : List Term) (c0 : Nat), c0 = r0.length → run (z17_m n) [.lq m [0, 1, 0, 1, 1, 1], .blk 0, .cut [1, 1, 1, 1], .at [1, 1, 1, 1]] ⟨[.any, .int .i64 v0, .any, .any, .any, .acc 0 c0, .int .i64 v1, .any, .any, .any, .any, .any, .any, .any, .any, .any, .any, .any, .any, .any, .any, .any, .any, .any, .any, .any, .any, .any, .any, .any, .any], [.acc true 5 (mp Term.cells r0)], 0⟩ = z17_l1 n m v0 v1 r0)
  | 0 => by intros; exact run_lq_zero
  | m + 1 => by
    have ih := z17_l1_eq n m
    intro v0 v1 r0 c0 ec0
    subst ec0
    rw [run_lq_succ]
    exact (z17_b1 n).2  m _  ih v0 v1 r0
noncomputable def z17_e (n : Nat) : { B : Int → Int → Option (List Term) // ∀ (a0 : Int) (a1 : Int), run (z17_m n) [.at []] { slots := [(tyI .i64).enc a0, (tyI .i64).enc a1] ++ List.replicate (31 - [(tyI .i64).enc a0, (tyI .i64).enc a1].length) .any, heap := [] } = B a0 a1 } := by
  apply Subtype.mk
  intro a0 a1
  simp (maxSteps := 100000000) only [go_sem, q00, q01, q02, q03, q04, q05, q06, q10, q11, q12, q13, q14, z17_f, z17_c, Try.f86, Option.getD_some, mixed, z17_n1, z17_l1_eq n]
  exact rfl
noncomputable def z17 : Nat → Int → Int → Option (List Term)
  | 0, _, _ => none
  | n + 1, a0, a1 => (z17_e n).1 a0 a1
theorem z17_ok : ∀ (n : Nat) (a0 : Int) (a1 : Int) (r : (List Term)), z17 n a0 a1 = some r → FnC Try.prog 86 [(tyI .i64).enc a0, (tyI .i64).enc a1] (fun v => v = (tyL Term.row).enc r)
  | 0, _, _, _, h => by cases h
  | n + 1, a0, a1, r, h => by
    exact fnC_run (M := z17_m n) ⟨tabA_nil_ok, tabD_nil_ok, tabN_ok _, tabF_ok _, noY_ok, noE_ok⟩ Try.func86 rfl rfl ⟨(tyI .i64).nb 0 _, (tyI .i64).nb 0 _, trivial⟩ Try.ntmps86 Try.results86 (fun σ hs => outR_ok (P := Try.prog) (rs := [.tmp 4]) (t := (tyL Term.row)) (σ := σ) (r := r) hs) (((z17_e n).2 a0 a1).trans h)
end Go.Abs
namespace Go.Abs
open Go.Proofs
set_option maxRecDepth 100000
set_option maxHeartbeats 4000000
set_option linter.unusedSimpArgs false
set_option linter.unusedVariables false
noncomputable def z0p_m (n : Nat) : Mach Bool where
  body := (Try.f90.body).getD .skip
  P := Try.prog
  cl := tabA [(69, ent1 (tyC Term.cel) (tyI .i64) (z15 n)), (70, ent1 (tyC Term.cel) (tyI .i64) (z0y n))]
  cd := tabD []
  nrm := tabN []
  cut := tabF []
  n := n
  out := outR Try.prog [.tmp 2] tyB
theorem z0p_f (n : Nat) : (z0p_m n).P = Try.prog ∧ (z0p_m n).cl = tabA [(69, ent1 (tyC Term.cel) (tyI .i64) (z15 n)), (70, ent1 (tyC Term.cel) (tyI .i64) (z0y n))] ∧ (z0p_m n).cd = tabD [] ∧ (z0p_m n).nrm = tabN [] ∧ (z0p_m n).cut = tabF [] ∧ (z0p_m n).n = n ∧ (z0p_m n).out = outR Try.prog [.tmp 2] tyB := ⟨rfl, rfl, rfl, rfl, rfl, rfl, rfl⟩
theorem z0p_c (n : Nat) : (z0p_m n).body = (Try.f90.body).getD .skip := rfl
noncomputable def z0p_e (n : Nat) : { B : Term → Option Bool // ∀ (a0 : Term), run (z0p_m n) [.at []] { slots := [(tyC Term.cel).enc a0] ++ List.replicate (11 - [(tyC Term.cel).enc a0].length) .any, heap := [] } = B a0 } := by
  apply Subtype.mk
  intro a0
  simp (maxSteps := 100000000) only [go_sem, q00, q01, q02, q03, q04, q05, q06, q10, q11, q12, q13, q14, z0p_f, z0p_c, Try.f90, Option.getD_some, mixed]
  exact rfl
noncomputable def z0p : Nat → Term → Option Bool
  | 0, _ => none
  | n + 1, a0 => (z0p_e n).1 a0
theorem z0p_ok : ∀ (n : Nat) (a0 : Term) (r : Bool), z0p n a0 = some r → FnC Try.prog 90 [(tyC Term.cel).enc a0] (fun v => v = tyB.enc r)
  | 0, _, _, h => by cases h
  | n + 1, a0, r, h => by
    exact fnC_run (M := z0p_m n) ⟨(tabA_cons_ok (ent1_ok (z15_ok n)) (tabA_cons_ok (ent1_ok (z0y_ok n)) tabA_nil_ok)), tabD_nil_ok, tabN_ok _, tabF_ok _, noY_ok, noE_ok⟩ Try.func90 rfl rfl ⟨(tyC Term.cel).nb 0 _, trivial⟩ Try.ntmps90 Try.results90 (fun σ hs => outR_ok (P := Try.prog) (rs := [.tmp 2]) (t := tyB) (σ := σ) (r := r) hs) (((z0p_e n).2 a0).trans h)

noncomputable def z16_m (n : Nat) : Mach Bool where
  body := (Try.f122.body).getD .skip
  P := Try.prog
  cl := tabA []
  cd := tabD [(133, entD (ent1 (tyI .i64) (tyI .i64) (z12 n)))]
  nrm := tabN []
  cut := tabF []
  n := n
  out := outR Try.prog [.tmp 2] tyB
  isE := tabI []
theorem z16_f (n : Nat) : (z16_m n).P = Try.prog ∧ (z16_m n).cl = tabA [] ∧ (z16_m n).cd = tabD [(133, entD (ent1 (tyI .i64) (tyI .i64) (z12 n)))] ∧ (z16_m n).nrm = tabN [] ∧ (z16_m n).cut = tabF [] ∧ (z16_m n).n = n ∧ (z16_m n).out = outR Try.prog [.tmp 2] tyB ∧ (z16_m n).isE = tabI [] := ⟨rfl, rfl, rfl, rfl, rfl, rfl, rfl, rfl⟩
theorem z16_c (n : Nat) : (z16_m n).body = (Try.f122.body).getD .skip := rfl
theorem z16_d (n : Nat) : drawP (z16_m n) [0, 0, 1] = true := by kernel_rfl
noncomputable def z16_e (n : Nat) : { B : Term → Option Bool // ∀ (a0 : Term), run (z16_m n) [.at []] { slots := [(tyC Term.cel).enc a0] ++ List.replicate (57 - [(tyC Term.cel).enc a0].length) .any, heap := [] } = B a0 } := by
  apply Subtype.mk
  intro a0
  simp (maxSteps := 100000000) only [go_sem, q00, q01, q02, q03, q04, q05, q06, q10, q11, q12, q13, q14, z16_f, z16_c, Try.f122, Option.getD_some, mixed, z16_d]
  exact rfl
noncomputable def z16 : Nat → Term → Option Bool
  | 0, _ => none
  | n + 1, a0 => (z16_e n).1 a0
theorem z16_ok : ∀ (n : Nat) (a0 : Term) (r : Bool), z16 n a0 = some r → FnC Try.prog 122 [(tyC Term.cel).enc a0] (fun v => v = tyB.enc r)
  | 0, _, _, h => by cases h
  | n + 1, a0, r, h => by
    exact fnC_run (M := z16_m n) ⟨tabA_nil_ok, (tabD_cons_ok (ent1_okD (z12_ok n)) tabD_nil_ok), tabN_ok _, tabF_ok _, noY_ok, noE_ok⟩ Try.func122 rfl rfl ⟨(tyC Term.cel).nb 0 _, trivial⟩ Try.ntmps122 Try.results122 (fun σ hs => outR_ok (P := Try.prog) (rs := [.tmp 2]) (t := tyB) (σ := σ) (r := r) hs) (((z16_e n).2 a0).trans h)

noncomputable def z13_n1 : Nrm := ⟨[], [], [zK, zA, zA, zK, zK, zA, zA, zA, zA, zA, zA, zA, zA, zA, zA, zA, zA, zA, zA, zA, zA, zA, zA, zA, zA, zA, zA, zA, zA, zA, zA, zA, zA, zA, zA, zA, zA, zA, zA, zA, zA, zA, zA, zA, zA], [], none⟩
noncomputable def z13_m (n : Nat) : Mach Bool where
  body := (Try.f54.body).getD .skip
  P := Try.prog
  cl := tabA [(92, ent1 (tyI .u8) tyB (z0l n))]
  cd := tabD []
  nrm := tabN [([0, 1, 0, 1, 1, 1], z13_n1)]
  cut := tabF []
  n := n
  out := outR Try.prog [.tmp 2] tyB
theorem z13_f (n : Nat) : (z13_m n).P = Try.prog ∧ (z13_m n).cl = tabA [(92, ent1 (tyI .u8) tyB (z0l n))] ∧ (z13_m n).cd = tabD [] ∧ (z13_m n).nrm = tabN [([0, 1, 0, 1, 1, 1], z13_n1)] ∧ (z13_m n).cut = tabF [] ∧ (z13_m n).n = n ∧ (z13_m n).out = outR Try.prog [.tmp 2] tyB := ⟨rfl, rfl, rfl, rfl, rfl, rfl, rfl⟩
theorem z13_c (n : Nat) : (z13_m n).body = (Try.f54.body).getD .skip := rfl
noncomputable def z13_b1 (n : Nat) : { B : (Str → Bool → Int → Option Bool) → Str → Bool → Int → Option Bool // ∀ m X0, (∀ (v0 : Str) (v1 : Bool) (v2 : Int), run (z13_m n) [.lq m [0, 1, 0, 1, 1, 1], .blk 0, .cut [1, 1, 1, 1], .at [1, 1, 1, 1]] ⟨[.str (sb v0), .any, .any, .bool v1, .int .i64 v2, .any, .any, .any, .any, .any, .any, .any, .any, .any, .any, .any, .any, .any, .any, .any, .any, .any, .any, .any, .any, .any, .any, .any, .any, .any, .any, .any, .any, .any, .any, .any, .any, .any, .any, .any, .any, .any, .any, .any, .any], [], 0⟩ = X0 v0 v1 v2) → ∀ (v0 : Str) (v1 : Bool) (v2 : Int), run (z13_m n) [.at [0, 0, 1, 0, 1, 1, 1], .lp m [0, 1, 0, 1, 1, 1], .blk 0, .cut [1, 1, 1, 1], .at [1, 1, 1, 1]] ⟨[.str (sb v0), .any, .any, .bool v1, .int .i64 v2, .any, .any, .any, .any, .any, .any, .any, .any, .any, .any, .any, .any, .any, .any, .any, .any, .any, .any, .any, .any, .any, .any, .any, .any, .any, .any, .any, .any, .any, .any, .any, .any, .any, .any, .any, .any, .any, .any, .any, .any], [], 0⟩ = B X0 v0 v1 v2 } := by
  apply Subtype.mk
  intro m X0 ih v0 v1 v2
  simp (maxSteps := 100000000) only [go_sem, q00, q01, q02, q03, q04, q05, q06, q10, q11, q12, q13, q14, z13_f, z13_c, Try.f54, Option.getD_some, mixed, z13_n1, ih]
  exact rfl
noncomputable def z13_l1 (n : Nat) : Nat → Str → Bool → Int → Option Bool
  | 0, _, _, _ => none
  | m + 1, v0, v1, v2 => (z13_b1 n).1 (z13_l1 n m) v0 v1 v2
theorem z13_l1_eq (n : Nat) : ∀ (m : Nat), (∀ (v0 : Str) (v1 : Bool) (v2 : Int), run (z13_m n) [.lq m [0, 1, 0, 1, 1, 1], .blk 0, .cut [1, 1, 1, 1], .at [1, 1, 1, 1]] ⟨[.str (sb v0), .any, .any, .bool v1, .int .i64 v2, .any, .any, .any, .any, .any, .any, .any, .any, .any, .any, .any, .any, .any, .any, .any, .any, .any, .any, .any, .any, .any, .any, .any, .any, .any, .any, .any, .any, .any, .any, .any, .any, .any, .any, .any, .any, .any, .any, .any, .any], [], 0⟩ = z13_l1 n m v0 v1 v2)
  | 0 => by intros; exact run_lq_zero
  | m + 1 => by
    have ih := z13_l1_eq n m
    intro v0 v1 v2
    rw [run_lq_succ]
    exact (z13_b1 n).2  m _  ih v0 v1 v2
noncomputable def z13_e (n : Nat) : { B : Str → Option Bool // ∀ (a0 : Str), run (z13_m n) [.at []] { slots := [tyS.enc a0] ++ List.replicate (45 - [tyS.enc a0].length) .any, heap := [] } = B a0 } := by
  apply Subtype.mk
  intro a0
  simp (maxSteps := 100000000) only [go_sem, q00, q01, q02, q03, q04, q05, q06, q10, q11, q12, q13, q14, z13_f, z13_c, Try.f54, Option.getD_some, mixed, z13_n1, z13_l1_eq n]
  exact rfl
noncomputable def z13 : Nat → Str → Option Bool
  | 0, _ => none
  | n + 1, a0 => (z13_e n).1 a0
theorem z13_ok : ∀ (n : Nat) (a0 : Str) (r : Bool), z13 n a0 = some r → FnC Try.prog 54 [tyS.enc a0] (fun v => v = tyB.enc r)
  | 0, _, _, h => by cases h
  | n + 1, a0, r, h => by
    exact fnC_run (M := z13_m n) ⟨(tabA_cons_ok (ent1_ok (z0l_ok n)) tabA_nil_ok), tabD_nil_ok, tabN_ok _, tabF_ok _, noY_ok, noE_ok⟩ Try.func54 rfl rfl ⟨tyS.nb 0 _, trivial⟩ Try.ntmps54 Try.results54 (fun σ hs => outR_ok (P := Try.prog) (rs := [.tmp 2]) (t := tyB) (σ := σ) (r := r) hs) (((z13_e n).2 a0).trans h)

noncomputable def z10_n1 : Nrm := ⟨[], [], [zA, zA, zK, zK, zA, zA, zA, zA, zK, zA, zA, zA, zA, zA, zA, zA, zA, zA, zA, zA, zA, zA, zA, zA, zA, zA, zA, zA, zA, zA, zA, zA, zA, zA, zA, zA, zA, zA, zA, zA, zA, zA, zA, zA, zA, zA, zA, zA, zA, zA, zA, zA, zA, zA, zA, zA, zA, zA, zA, zA, zA], [oT Level.cel], none⟩
noncomputable def z10_n2 : Nrm := ⟨[], [], [zA, zK, zK, zK, zA, zA, zA, zK, zA, zA, zA, zA, zA, zA, zA, zA, zA, zA, zA, zA, zA, zA, zA, zA, zA, zA, zA, zA, zA, zA, zA, zA, zA, zA, zA, zA, zA, zA, zA, zA, zA, zA, zA, zA, zA, zA, zA, zA, zA, zA, zA, zA, zA, zA, zA, zA, zA, zA, zA, zA, zA], [oT Level.cel], none⟩
noncomputable def z10_m (n : Nat) : Mach Int where
  body := (Try.f123.body).getD .skip
  P := Try.prog
  cl := tabA [(134, ent1 (tyC Level.cel) tyB (z0v n))]
  cd := tabD []
  nrm := tabN [([0, 1, 0, 1, 1, 1], z10_n1), ([0, 1, 0, 1, 1], z10_n2)]
  cut := tabF []
  n := n
  out := outR Try.prog [.tmp 6] (tyI .i64)
theorem z10_f (n : Nat) : (z10_m n).P = Try.prog ∧ (z10_m n).cl = tabA [(134, ent1 (tyC Level.cel) tyB (z0v n))] ∧ (z10_m n).cd = tabD [] ∧ (z10_m n).nrm = tabN [([0, 1, 0, 1, 1, 1], z10_n1), ([0, 1, 0, 1, 1], z10_n2)] ∧ (z10_m n).cut = tabF [] ∧ (z10_m n).n = n ∧ (z10_m n).out = outR Try.prog [.tmp 6] (tyI .i64) := ⟨rfl, rfl, rfl, rfl, rfl, rfl, rfl⟩
theorem z10_c (n : Nat) : (z10_m n).body = (Try.f123.body).getD .skip := rfl
noncomputable def z10_b1 (n : Nat) : { B : (Int → Int → Level → Option Int) → Int → Int → Level → Option Int // ∀ m X0, (∀ (v0 : Int) (v1 : Int) (o0 : Level), run (z10_m n) [.lq m [0, 1, 0, 1, 1, 1], .blk 2, .cut [1, 1, 1, 1], .at [1, 1, 1, 1]] ⟨[.any, .any, .int .i64 v0, .ptr 0 0, .any, .any, .any, .any, .int .i64 v1, .any, .any, .any, .any, .any, .any, .any, .any, .any, .any, .any, .any, .any, .any, .any, .any, .any, .any, .any, .any, .any, .any, .any, .any, .any, .any, .any, .any, .any, .any, .any, .any, .any, .any, .any, .any, .any, .any, .any, .any, .any, .any, .any, .any, .any, .any, .any, .any, .any, .any, .any, .any], [.cells (Level.cells o0)], 0⟩ = X0 v0 v1 o0) → ∀ (v0 : Int) (v1 : Int) (o0 : Level), run (z10_m n) [.at [0, 0, 1, 0, 1, 1, 1], .lp m [0, 1, 0, 1, 1, 1], .blk 2, .cut [1, 1, 1, 1], .at [1, 1, 1, 1]] ⟨[.any, .any, .int .i64 v0, .ptr 0 0, .any, .any, .any, .any, .int .i64 v1, .any, .any, .any, .any, .any, .any, .any, .any, .any, .any, .any, .any, .any, .any, .any, .any, .any, .any, .any, .any, .any, .any, .any, .any, .any, .any, .any, .any, .any, .any, .any, .any, .any, .any, .any, .any, .any, .any, .any, .any, .any, .any, .any, .any, .any, .any, .any, .any, .any, .any, .any, .any], [.cells (Level.cells o0)], 0⟩ = B X0 v0 v1 o0 } := by
  apply Subtype.mk
  intro m X0 ih v0 v1 o0
  simp (maxSteps := 100000000) only [go_sem, q00, q01, q02, q03, q04, q05, q06, q10, q11, q12, q13, q14, z10_f, z10_c, Try.f123, Option.getD_some, mixed, z10_n1, z10_n2, ih]
  exact rfl
noncomputable def z10_l1 (n : Nat) : Nat → Int → Int → Level → Option Int
  | 0, _, _, _ => none
  | m + 1, v0, v1, o0 => (z10_b1 n).1 (z10_l1 n m) v0 v1 o0
theorem z10_l1_eq (n : Nat) : ∀ (m : Nat), (∀ (v0 : Int) (v1 : Int) (o0 : Level), run (z10_m n) [.lq m [0, 1, 0, 1, 1, 1], .blk 2, .cut [1, 1, 1, 1], .at [1, 1, 1, 1]] ⟨[.any, .any, .int .i64 v0, .ptr 0 0, .any, .any, .any, .any, .int .i64 v1, .any, .any, .any, .any, .any, .any, .any, .any, .any, .any, .any, .any, .any, .any, .any, .any, .any, .any, .any, .any, .any, .any, .any, .any, .any, .any, .any, .any, .any, .any, .any, .any, .any, .any, .any, .any, .any, .any, .any, .any, .any, .any, .any, .any, .any, .any, .any, .any, .any, .any, .any, .any], [.cells (Level.cells o0)], 0⟩ = z10_l1 n m v0 v1 o0)
  | 0 => by intros; exact run_lq_zero
  | m + 1 => by
    have ih := z10_l1_eq n m
    intro v0 v1 o0
    rw [run_lq_succ]
    exact (z10_b1 n).2  m _  ih v0 v1 o0
noncomputable def z10_b2 (n : Nat) : { B : (Int → Int → Int → Level → Option Int) → Int → Int → Int → Level → Option Int // ∀ m X0, (∀ (v0 : Int) (v1 : Int) (v2 : Int) (o0 : Level), run (z10_m n) [.lq m [0, 1, 0, 1, 1], .blk 0, .cut [1, 1, 1], .at [1, 1, 1]] ⟨[.any, .int .i64 v0, .int .i64 v1, .ptr 0 0, .any, .any, .any, .int .i64 v2, .any, .any, .any, .any, .any, .any, .any, .any, .any, .any, .any, .any, .any, .any, .any, .any, .any, .any, .any, .any, .any, .any, .any, .any, .any, .any, .any, .any, .any, .any, .any, .any, .any, .any, .any, .any, .any, .any, .any, .any, .any, .any, .any, .any, .any, .any, .any, .any, .any, .any, .any, .any, .any], [.cells (Level.cells o0)], 0⟩ = X0 v0 v1 v2 o0) → ∀ (v0 : Int) (v1 : Int) (v2 : Int) (o0 : Level), run (z10_m n) [.at [0, 0, 1, 0, 1, 1], .lp m [0, 1, 0, 1, 1], .blk 0, .cut [1, 1, 1], .at [1, 1, 1]] ⟨[.any, .int .i64 v0, .int .i64 v1, .ptr 0 0, .any, .any, .any, .int .i64 v2, .any, .any, .any, .any, .any, .any, .any, .any, .any, .any, .any, .any, .any, .any, .any, .any, .any, .any, .any, .any, .any, .any, .any, .any, .any, .any, .any, .any, .any, .any, .any, .any, .any, .any, .any, .any, .any, .any, .any, .any, .any, .any, .any, .any, .any, .any, .any, .any, .any, .any, .any, .any, .any], [.cells (Level.cells o0)], 0⟩ = B X0 v0 v1 v2 o0 } := by
  apply Subtype.mk
  intro m X0 ih v0 v1 v2 o0
  simp (maxSteps := 100000000) only [go_sem, q00, q01, q02, q03, q04, q05, q06, q10, q11, q12, q13, q14, z10_f, z10_c, Try.f123, Option.getD_some, mixed, z10_n1, z10_n2, z10_l1_eq n, ih]
  exact rfl
noncomputable def z10_l2 (n : Nat) : Nat → Int → Int → Int → Level → Option Int
  | 0, _, _, _, _ => none
  | m + 1, v0, v1, v2, o0 => (z10_b2 n).1 (z10_l2 n m) v0 v1 v2 o0
theorem z10_l2_eq (n : Nat) : ∀ (m : Nat), (∀ (v0 : Int) (v1 : Int) (v2 : Int) (o0 : Level), run (z10_m n) [.lq m [0, 1, 0, 1, 1], .blk 0, .cut [1, 1, 1], .at [1, 1, 1]] ⟨[.any, .int .i64 v0, .int .i64 v1, .ptr 0 0, .any, .any, .any, .int .i64 v2, .any, .any, .any, .any, .any, .any, .any, .any, .any, .any, .any, .any, .any, .any, .any, .any, .any, .any, .any, .any, .any, .any, .any, .any, .any, .any, .any, .any, .any, .any, .any, .any, .any, .any, .any, .any, .any, .any, .any, .any, .any, .any, .any, .any, .any, .any, .any, .any, .any, .any, .any, .any, .any], [.cells (Level.cells o0)], 0⟩ = z10_l2 n m v0 v1 v2 o0)
  | 0 => by intros; exact run_lq_zero
  | m + 1 => by
    have ih := z10_l2_eq n m
    intro v0 v1 v2 o0
    rw [run_lq_succ]
    exact (z10_b2 n).2  m _  ih v0 v1 v2 o0
noncomputable def z10_e (n : Nat) : { B : Level → Int → Int → Option Int // ∀ (a0 : Level) (a1 : Int) (a2 : Int), run (z10_m n) [.at []] { slots := [(tyC Level.cel).enc a0, (tyI .i64).enc a1, (tyI .i64).enc a2] ++ List.replicate (61 - [(tyC Level.cel).enc a0, (tyI .i64).enc a1, (tyI .i64).enc a2].length) .any, heap := [] } = B a0 a1 a2 } := by
  apply Subtype.mk
  intro a0 a1 a2
  simp (maxSteps := 100000000) only [go_sem, q00, q01, q02, q03, q04, q05, q06, q10, q11, q12, q13, q14, z10_f, z10_c, Try.f123, Option.getD_some, mixed, z10_n1, z10_n2, z10_l1_eq n, z10_l2_eq n]
  exact rfl
noncomputable def z10 : Nat → Level → Int → Int → Option Int
  | 0, _, _, _ => none
  | n + 1, a0, a1, a2 => (z10_e n).1 a0 a1 a2
theorem z10_ok : ∀ (n : Nat) (a0 : Level) (a1 : Int) (a2 : Int) (r : Int), z10 n a0 a1 a2 = some r → FnC Try.prog 123 [(tyC Level.cel).enc a0, (tyI .i64).enc a1, (tyI .i64).enc a2] (fun v => v = (tyI .i64).enc r)
  | 0, _, _, _, _, h => by cases h
  | n + 1, a0, a1, a2, r, h => by
    exact fnC_run (M := z10_m n) ⟨(tabA_cons_ok (ent1_ok (z0v_ok n)) tabA_nil_ok), tabD_nil_ok, tabN_ok _, tabF_ok _, noY_ok, noE_ok⟩ Try.func123 rfl rfl ⟨(tyC Level.cel).nb 0 _, (tyI .i64).nb 0 _, (tyI .i64).nb 0 _, trivial⟩ Try.ntmps123 Try.results123 (fun σ hs => outR_ok (P := Try.prog) (rs := [.tmp 6]) (t := (tyI .i64)) (σ := σ) (r := r) hs) (((z10_e n).2 a0 a1 a2).trans h)

noncomputable def z0u_m (n : Nat) : Mach Term where
  body := (Try.f96.body).getD .skip
  P := Try.prog
  cl := tabA []
  cd := tabD [(95, entD (ent2 (tyC Term.cel) (tyC Term.cel) (tyC Term.cel) (z0t n)))]
  nrm := tabN []
  cut := tabF []
  n := n
  out := outR Try.prog [.cell 6 25] (tyC Term.cel)
  isE := tabI []
theorem z0u_f (n : Nat) : (z0u_m n).P = Try.prog ∧ (z0u_m n).cl = tabA [] ∧ (z0u_m n).cd = tabD [(95, entD (ent2 (tyC Term.cel) (tyC Term.cel) (tyC Term.cel) (z0t n)))] ∧ (z0u_m n).nrm = tabN [] ∧ (z0u_m n).cut = tabF [] ∧ (z0u_m n).n = n ∧ (z0u_m n).out = outR Try.prog [.cell 6 25] (tyC Term.cel) ∧ (z0u_m n).isE = tabI [] := ⟨rfl, rfl, rfl, rfl, rfl, rfl, rfl, rfl⟩
theorem z0u_c (n : Nat) : (z0u_m n).body = (Try.f96.body).getD .skip := rfl
theorem z0u_d (n : Nat) : drawP (z0u_m n) [0, 1] = true := by kernel_rfl
theorem z0u_o (n : Nat) : ordP (z0u_m n) [0, 1] 0 8 = true ∧ ordP (z0u_m n) [0, 1] 1 8 = true ∧ ordP (z0u_m n) [0, 1] 2 8 = true ∧ ordP (z0u_m n) [0, 1] 4 8 = true ∧ ordP (z0u_m n) [0, 1] 6 8 = true := ⟨by kernel_rfl, by kernel_rfl, by kernel_rfl, by kernel_rfl, by kernel_rfl⟩
noncomputable def z0u_e (n : Nat) : { B : Term → Term → Unit → (List Level) → Option Term // ∀ (a0 : Term) (a1 : Term) (a2 : Unit) (a3 : (List Level)), run (z0u_m n) [.at []] { slots := [(tyC Term.cel).enc a0, (tyC Term.cel).enc a1, (tyP (cF 95)).enc a2, (tyP (cL Level.row)).enc a3] ++ List.replicate (15 - [(tyC Term.cel).enc a0, (tyC Term.cel).enc a1, (tyP (cF 95)).enc a2, (tyP (cL Level.row)).enc a3].length) .any, heap := [] } = B a0 a1 a2 a3 } := by
  apply Subtype.mk
  intro a0 a1 a2 a3
  simp (maxSteps := 100000000) only [go_sem, q00, q01, q02, q03, q04, q05, q06, q10, q11, q12, q13, q14, z0u_f, z0u_c, Try.f96, Option.getD_some, mixed, z0u_d, z0u_o]
  exact rfl
noncomputable def z0u : Nat → Term → Term → Unit → (List Level) → Option Term
  | 0, _, _, _, _ => none
  | n + 1, a0, a1, a2, a3 => (z0u_e n).1 a0 a1 a2 a3
theorem z0u_ok : ∀ (n : Nat) (a0 : Term) (a1 : Term) (a2 : Unit) (a3 : (List Level)) (r : Term), z0u n a0 a1 a2 a3 = some r → FnC Try.prog 96 [(tyC Term.cel).enc a0, (tyC Term.cel).enc a1, (tyP (cF 95)).enc a2, (tyP (cL Level.row)).enc a3] (fun v => v = (tyC Term.cel).enc r)
  | 0, _, _, _, _, _, h => by cases h
  | n + 1, a0, a1, a2, a3, r, h => by
    exact fnC_run (M := z0u_m n) ⟨tabA_nil_ok, (tabD_cons_ok (ent2_okD (z0t_ok n)) tabD_nil_ok), tabN_ok _, tabF_ok _, noY_ok, noE_ok⟩ Try.func96 rfl rfl ⟨(tyC Term.cel).nb 0 _, (tyC Term.cel).nb 0 _, (tyP (cF 95)).nb 0 _, (tyP (cL Level.row)).nb 0 _, trivial⟩ Try.ntmps96 Try.results96 (fun σ hs => outR_ok (P := Try.prog) (rs := [.cell 6 25]) (t := (tyC Term.cel)) (σ := σ) (r := r) hs) (((z0u_e n).2 a0 a1 a2 a3).trans h)

noncomputable def z0b_n1 : Nrm := ⟨[(4, 5, false)], [], [zA, zK, zK, zA, zK, zA, zA, zA, zA, zA, zA, zA, zA, zA, zA, zA, zA, zA, zA, zA, zA, zA, zA, zA, zA, zA, zA, zA, zA], [oT Term.cel, oK, oA Term.row], none⟩
noncomputable def z0b_m (n : Nat) : Mach (Term × (List Term)) where
  body := (Try.f72.body).getD .skip
  P := Try.prog
  cl := tabA [(107, entGh 0 false 5 (entG [0] (osC (oaT false Term.row) osN) (asA 0 (fun (b : ((List Term) × Unit)) => b.1.length) asN) (osC (oaT false Term.row) osN) rsN (fun (b : ((List Term) × Unit)) a => (z07 n) b.1)))]
  cd := tabD []
  nrm := tabN [([0, 0, 1, 1], z0b_n1)]
  cut := tabF []
  n := n
  out := outR Try.prog [.cell 2 25, .tmp 3] (ty2 (tyC Term.cel) (tyL Term.row))
theorem z0b_f (n : Nat) : (z0b_m n).P = Try.prog ∧ (z0b_m n).cl = tabA [(107, entGh 0 false 5 (entG [0] (osC (oaT false Term.row) osN) (asA 0 (fun (b : ((List Term) × Unit)) => b.1.length) asN) (osC (oaT false Term.row) osN) rsN (fun (b : ((List Term) × Unit)) a => (z07 n) b.1)))] ∧ (z0b_m n).cd = tabD [] ∧ (z0b_m n).nrm = tabN [([0, 0, 1, 1], z0b_n1)] ∧ (z0b_m n).cut = tabF [] ∧ (z0b_m n).n = n ∧ (z0b_m n).out = outR Try.prog [.cell 2 25, .tmp 3] (ty2 (tyC Term.cel) (tyL Term.row)) := ⟨rfl, rfl, rfl, rfl, rfl, rfl, rfl⟩
theorem z0b_c (n : Nat) : (z0b_m n).body = (Try.f72.body).getD .skip := rfl
noncomputable def z0b_b1 (n : Nat) : { B : (Term → (List Term) → Option (Term × (List Term))) → Term → (List Term) → Option (Term × (List Term)) // ∀ m X0, (∀ (o0 : Term) (r2 : List Term) (c2 : Nat), c2 = r2.length → run (z0b_m n) [.lq m [0, 0, 1, 1], .blk 0, .cut [1, 1, 1], .at [1, 1, 1]] ⟨[.any, .ptr 0 0, .ptr 1 0, .any, .acc 2 c2, .any, .any, .any, .any, .any, .any, .any, .any, .any, .any, .any, .any, .any, .any, .any, .any, .any, .any, .any, .any, .any, .any, .any, .any], [.cells (Term.cells o0), .cells [.int .i64 0, .int .i64 0, .str (sb []), .lst true 0 [], .lst true 0 []], .acc false 5 (mp Term.cells r2)], 0⟩ = X0 o0 r2) → ∀ (o0 : Term) (r2 : List Term), run (z0b_m n) [.at [0, 0, 0, 1, 1], .lp m [0, 0, 1, 1], .blk 0, .cut [1, 1, 1], .at [1, 1, 1]] ⟨[.any, .ptr 0 0, .ptr 1 0, .any, .acc 2 r2.length, .any, .any, .any, .any, .any, .any, .any, .any, .any, .any, .any, .any, .any, .any, .any, .any, .any, .any, .any, .any, .any, .any, .any, .any], [.cells (Term.cells o0), .cells [.int .i64 0, .int .i64 0, .str (sb []), .lst true 0 [], .lst true 0 []], .acc false 5 (mp Term.cells r2)], 0⟩ = B X0 o0 r2 } := by
  apply Subtype.mk
  intro m X0 ih o0 r2
  simp (maxSteps := 100000000) only [go_sem, q00, q01, q02, q03, q04, q05, q06, q10, q11, q12, q13, q14, z0b_f, z0b_c, Try.f72, Option.getD_some, mixed, z0b_n1, ih]
  exact rfl
noncomputable def z0b_l1 (n : Nat) : Nat → Term → (List Term) → Option (Term × (List Term))
  | 0, _, _ => none
  | m + 1, o0, r2 => (z0b_b1 n).1 (z0b_l1 n m) o0 r2
theorem z0b_l1_eq (n : Nat) : ∀ (m : Nat), (∀ (o0 : Term) (r2 : List Term) (c2 : Nat), c2 = r2.length → run (z0b_m n) [.lq m [0, 0, 1, 1], .blk 0, .cut [1, 1, 1], .at [1, 1, 1]] ⟨[.any, .ptr 0 0, .ptr 1 0, .any, .acc 2 c2, .any, .any, .any, .any, .any, .any, .any, .any, .any, .any, .any, .any, .any, .any, .any, .any, .any, .any, .any, .any, .any, .any, .any, .any], [.cells (Term.cells o0), .cells [.int .i64 0, .int .i64 0, .str (sb []), .lst true 0 [], .lst true 0 []], .acc false 5 (mp Term.cells r2)], 0⟩ = z0b_l1 n m o0 r2)
  | 0 => by intros; exact run_lq_zero
  | m + 1 => by
    have ih := z0b_l1_eq n m
    intro o0 r2 c2 ec2
    subst ec2
    rw [run_lq_succ]
    exact (z0b_b1 n).2  m _  ih o0 r2
noncomputable def z0b_e (n : Nat) : { B : Term → Option (Term × (List Term)) // ∀ (a0 : Term), run (z0b_m n) [.at []] { slots := [(tyC Term.cel).enc a0] ++ List.replicate (29 - [(tyC Term.cel).enc a0].length) .any, heap := [] } = B a0 } := by
  apply Subtype.mk
  intro a0
  simp (maxSteps := 100000000) only [go_sem, q00, q01, q02, q03, q04, q05, q06, q10, q11, q12, q13, q14, z0b_f, z0b_c, Try.f72, Option.getD_some, mixed, z0b_n1, z0b_l1_eq n]
  exact rfl
noncomputable def z0b : Nat → Term → Option (Term × (List Term))
  | 0, _ => none
  | n + 1, a0 => (z0b_e n).1 a0
theorem z0b_ok : ∀ (n : Nat) (a0 : Term) (r : (Term × (List Term))), z0b n a0 = some r → FnC Try.prog 72 [(tyC Term.cel).enc a0] (fun v => v = (ty2 (tyC Term.cel) (tyL Term.row)).enc r)
  | 0, _, _, h => by cases h
  | n + 1, a0, r, h => by
    exact fnC_run (M := z0b_m n) ⟨(tabA_cons_ok (entGh_ok (entG_ok (fun b a r h => (z07_ok n) b.1 r h))) tabA_nil_ok), tabD_nil_ok, tabN_ok _, tabF_ok _, noY_ok, noE_ok⟩ Try.func72 rfl rfl ⟨(tyC Term.cel).nb 0 _, trivial⟩ Try.ntmps72 Try.results72 (fun σ hs => outR_ok (P := Try.prog) (rs := [.cell 2 25, .tmp 3]) (t := (ty2 (tyC Term.cel) (tyL Term.row))) (σ := σ) (r := r) hs) (((z0b_e n).2 a0).trans h)
end Go.Abs
namespace Go.Abs
open Go.Proofs
set_option maxRecDepth 100000
set_option maxHeartbeats 4000000
set_option linter.unusedSimpArgs false
set_option linter.unusedVariables false
noncomputable def z0f_m (n : Nat) : Mach Bool where
  body := (Try.f64.body).getD .skip
  P := Try.prog
  cl := tabA [(102, ent2 (tyL Zs2.row) (tyL Zs2.row) tyB (z05 n))]
  cd := tabD []
  nrm := tabN []
  cut := tabF []
  n := n
  out := outR Try.prog [.tmp 4] tyB
theorem z0f_f (n : Nat) : (z0f_m n).P = Try.prog ∧ (z0f_m n).cl = tabA [(102, ent2 (tyL Zs2.row) (tyL Zs2.row) tyB (z05 n))] ∧ (z0f_m n).cd = tabD [] ∧ (z0f_m n).nrm = tabN [] ∧ (z0f_m n).cut = tabF [] ∧ (z0f_m n).n = n ∧ (z0f_m n).out = outR Try.prog [.tmp 4] tyB := ⟨rfl, rfl, rfl, rfl, rfl, rfl, rfl⟩
theorem z0f_c (n : Nat) : (z0f_m n).body = (Try.f64.body).getD .skip := rfl
noncomputable def z0f_e (n : Nat) : { B : Level → Level → Option Bool // ∀ (a0 : Level) (a1 : Level), run (z0f_m n) [.at []] { slots := [(tyC Level.cel).enc a0, (tyC Level.cel).enc a1] ++ List.replicate (17 - [(tyC Level.cel).enc a0, (tyC Level.cel).enc a1].length) .any, heap := [] } = B a0 a1 } := by
  apply Subtype.mk
  intro a0 a1
  simp (maxSteps := 100000000) only [go_sem, q00, q01, q02, q03, q04, q05, q06, q10, q11, q12, q13, q14, z0f_f, z0f_c, Try.f64, Option.getD_some, mixed]
  exact rfl
noncomputable def z0f : Nat → Level → Level → Option Bool
  | 0, _, _ => none
  | n + 1, a0, a1 => (z0f_e n).1 a0 a1
theorem z0f_ok : ∀ (n : Nat) (a0 : Level) (a1 : Level) (r : Bool), z0f n a0 a1 = some r → FnC Try.prog 64 [(tyC Level.cel).enc a0, (tyC Level.cel).enc a1] (fun v => v = tyB.enc r)
  | 0, _, _, _, h => by cases h
  | n + 1, a0, a1, r, h => by
    exact fnC_run (M := z0f_m n) ⟨(tabA_cons_ok (ent2_ok (z05_ok n)) tabA_nil_ok), tabD_nil_ok, tabN_ok _, tabF_ok _, noY_ok, noE_ok⟩ Try.func64 rfl rfl ⟨(tyC Level.cel).nb 0 _, (tyC Level.cel).nb 0 _, trivial⟩ Try.ntmps64 Try.results64 (fun σ hs => outR_ok (P := Try.prog) (rs := [.tmp 4]) (t := tyB) (σ := σ) (r := r) hs) (((z0f_e n).2 a0 a1).trans h)

noncomputable def z1f_m (n : Nat) : Mach Term where
  body := (Try.f22.body).getD .skip
  P := Try.prog
  cl := tabA [(61, ent3 (tyI .i64) (tyL Term.row) (tyC Term.cel) (tyC Term.cel) (z18 n))]
  cd := tabD []
  nrm := tabN []
  cut := tabF []
  n := n
  out := outR Try.prog [.cell 4 25] (tyC Term.cel)
theorem z1f_f (n : Nat) : (z1f_m n).P = Try.prog ∧ (z1f_m n).cl = tabA [(61, ent3 (tyI .i64) (tyL Term.row) (tyC Term.cel) (tyC Term.cel) (z18 n))] ∧ (z1f_m n).cd = tabD [] ∧ (z1f_m n).nrm = tabN [] ∧ (z1f_m n).cut = tabF [] ∧ (z1f_m n).n = n ∧ (z1f_m n).out = outR Try.prog [.cell 4 25] (tyC Term.cel) := ⟨rfl, rfl, rfl, rfl, rfl, rfl, rfl⟩
theorem z1f_c (n : Nat) : (z1f_m n).body = (Try.f22.body).getD .skip := rfl
noncomputable def z1f_e (n : Nat) : { B : (List Term) → Term → Option Term // ∀ (a0 : (List Term)) (a1 : Term), run (z1f_m n) [.at []] { slots := [(tyL Term.row).enc a0, (tyC Term.cel).enc a1] ++ List.replicate (8 - [(tyL Term.row).enc a0, (tyC Term.cel).enc a1].length) .any, heap := [] } = B a0 a1 } := by
  apply Subtype.mk
  intro a0 a1
  simp (maxSteps := 100000000) only [go_sem, q00, q01, q02, q03, q04, q05, q06, q10, q11, q12, q13, q14, z1f_f, z1f_c, Try.f22, Option.getD_some, mixed]
  exact rfl
noncomputable def z1f : Nat → (List Term) → Term → Option Term
  | 0, _, _ => none
  | n + 1, a0, a1 => (z1f_e n).1 a0 a1
theorem z1f_ok : ∀ (n : Nat) (a0 : (List Term)) (a1 : Term) (r : Term), z1f n a0 a1 = some r → FnC Try.prog 22 [(tyL Term.row).enc a0, (tyC Term.cel).enc a1] (fun v => v = (tyC Term.cel).enc r)
  | 0, _, _, _, h => by cases h
  | n + 1, a0, a1, r, h => by
    exact fnC_run (M := z1f_m n) ⟨(tabA_cons_ok (ent3_ok (z18_ok n)) tabA_nil_ok), tabD_nil_ok, tabN_ok _, tabF_ok _, noY_ok, noE_ok⟩ Try.func22 rfl rfl ⟨(tyL Term.row).nb 0 _, (tyC Term.cel).nb 0 _, trivial⟩ Try.ntmps22 Try.results22 (fun σ hs => outR_ok (P := Try.prog) (rs := [.cell 4 25]) (t := (tyC Term.cel)) (σ := σ) (r := r) hs) (((z1f_e n).2 a0 a1).trans h)

noncomputable def z0a_n1 : Nrm := ⟨[], [], [zT (tyL Level.row), zT (tyL Level.row), zA, zA, zA, zK, zA, zA, zA, zA, zA, zA, zA, zA, zA, zA, zA, zA, zA, zA, zA, zA, zA, zA, zA, zA, zA], [], none⟩
noncomputable def z0a_m (n : Nat) : Mach Bool where
  body := (Try.f62.body).getD .skip
  P := Try.prog
  cl := tabA []
  cd := tabD [(101, entD (ent2 (tyC Level.cel) (tyC Level.cel) tyB (z11 n)))]
  nrm := tabN [([0, 1, 0, 1, 1], z0a_n1)]
  cut := tabF []
  n := n
  out := outR Try.prog [.tmp 4] tyB
  isE := tabI []
theorem z0a_f (n : Nat) : (z0a_m n).P = Try.prog ∧ (z0a_m n).cl = tabA [] ∧ (z0a_m n).cd = tabD [(101, entD (ent2 (tyC Level.cel) (tyC Level.cel) tyB (z11 n)))] ∧ (z0a_m n).nrm = tabN [([0, 1, 0, 1, 1], z0a_n1)] ∧ (z0a_m n).cut = tabF [] ∧ (z0a_m n).n = n ∧ (z0a_m n).out = outR Try.prog [.tmp 4] tyB ∧ (z0a_m n).isE = tabI [] := ⟨rfl, rfl, rfl, rfl, rfl, rfl, rfl, rfl⟩
theorem z0a_c (n : Nat) : (z0a_m n).body = (Try.f62.body).getD .skip := rfl
theorem z0a_d (n : Nat) : drawP (z0a_m n) [0, 0, 0, 1, 0, 0, 1, 0, 1, 1] = true := by kernel_rfl
noncomputable def z0a_b1 (n : Nat) : { B : ((List Level) → (List Level) → Int → Option Bool) → (List Level) → (List Level) → Int → Option Bool // ∀ m X0, (∀ (v0 : List Level) (v1 : List Level) (v2 : Int), run (z0a_m n) [.lq m [0, 1, 0, 1, 1], .blk 0, .cut [1, 1, 1], .at [1, 1, 1]] ⟨[.lst false 2 (mp Level.cells v0), .lst false 2 (mp Level.cells v1), .any, .any, .any, .int .i64 v2, .any, .any, .any, .any, .any, .any, .any, .any, .any, .any, .any, .any, .any, .any, .any, .any, .any, .any, .any, .any, .any], [], 0⟩ = X0 v0 v1 v2) → ∀ (v0 : List Level) (v1 : List Level) (v2 : Int), run (z0a_m n) [.at [0, 0, 1, 0, 1, 1], .lp m [0, 1, 0, 1, 1], .blk 0, .cut [1, 1, 1], .at [1, 1, 1]] ⟨[.lst false 2 (mp Level.cells v0), .lst false 2 (mp Level.cells v1), .any, .any, .any, .int .i64 v2, .any, .any, .any, .any, .any, .any, .any, .any, .any, .any, .any, .any, .any, .any, .any, .any, .any, .any, .any, .any, .any], [], 0⟩ = B X0 v0 v1 v2 } := by
  apply Subtype.mk
  intro m X0 ih v0 v1 v2
  simp (maxSteps := 100000000) only [go_sem, q00, q01, q02, q03, q04, q05, q06, q10, q11, q12, q13, q14, z0a_f, z0a_c, Try.f62, Option.getD_some, mixed, z0a_d, z0a_n1, ih]
  exact rfl
noncomputable def z0a_l1 (n : Nat) : Nat → (List Level) → (List Level) → Int → Option Bool
  | 0, _, _, _ => none
  | m + 1, v0, v1, v2 => (z0a_b1 n).1 (z0a_l1 n m) v0 v1 v2
theorem z0a_l1_eq (n : Nat) : ∀ (m : Nat), (∀ (v0 : List Level) (v1 : List Level) (v2 : Int), run (z0a_m n) [.lq m [0, 1, 0, 1, 1], .blk 0, .cut [1, 1, 1], .at [1, 1, 1]] ⟨[.lst false 2 (mp Level.cells v0), .lst false 2 (mp Level.cells v1), .any, .any, .any, .int .i64 v2, .any, .any, .any, .any, .any, .any, .any, .any, .any, .any, .any, .any, .any, .any, .any, .any, .any, .any, .any, .any, .any], [], 0⟩ = z0a_l1 n m v0 v1 v2)
  | 0 => by intros; exact run_lq_zero
  | m + 1 => by
    have ih := z0a_l1_eq n m
    intro v0 v1 v2
    rw [run_lq_succ]
    exact (z0a_b1 n).2  m _  ih v0 v1 v2
noncomputable def z0a_e (n : Nat) : { B : (List Level) → (List Level) → Option Bool // ∀ (a0 : (List Level)) (a1 : (List Level)), run (z0a_m n) [.at []] { slots := [(tyL Level.row).enc a0, (tyL Level.row).enc a1] ++ List.replicate (27 - [(tyL Level.row).enc a0, (tyL Level.row).enc a1].length) .any, heap := [] } = B a0 a1 } := by
  apply Subtype.mk
  intro a0 a1
  simp (maxSteps := 100000000) only [go_sem, q00, q01, q02, q03, q04, q05, q06, q10, q11, q12, q13, q14, z0a_f, z0a_c, Try.f62, Option.getD_some, mixed, z0a_d, z0a_n1, z0a_l1_eq n]
  exact rfl
noncomputable def z0a : Nat → (List Level) → (List Level) → Option Bool
  | 0, _, _ => none
  | n + 1, a0, a1 => (z0a_e n).1 a0 a1
theorem z0a_ok : ∀ (n : Nat) (a0 : (List Level)) (a1 : (List Level)) (r : Bool), z0a n a0 a1 = some r → FnC Try.prog 62 [(tyL Level.row).enc a0, (tyL Level.row).enc a1] (fun v => v = tyB.enc r)
  | 0, _, _, _, h => by cases h
  | n + 1, a0, a1, r, h => by
    exact fnC_run (M := z0a_m n) ⟨tabA_nil_ok, (tabD_cons_ok (ent2_okD (z11_ok n)) tabD_nil_ok), tabN_ok _, tabF_ok _, noY_ok, noE_ok⟩ Try.func62 rfl rfl ⟨(tyL Level.row).nb 0 _, (tyL Level.row).nb 0 _, trivial⟩ Try.ntmps62 Try.results62 (fun σ hs => outR_ok (P := Try.prog) (rs := [.tmp 4]) (t := tyB) (σ := σ) (r := r) hs) (((z0a_e n).2 a0 a1).trans h)

noncomputable def z0m_n1 : Nrm := ⟨[(3, 2, true)], [], [zK, zA, zA, zK, zK, zA, zA, zA, zA, zA, zA, zA, zA, zA, zA, zA, zA, zA, zA, zA, zA, zA], [oA Level.row], none⟩
noncomputable def z0m_m (n : Nat) : Mach (List Level) where
  body := (Try.f45.body).getD .skip
  P := Try.prog
  cl := tabA [(88, ent2 (tyI .i64) (tyI .i64) (ty2 (tyC Level.cel) (tyI .i64)) (z1d n))]
  cd := tabD []
  nrm := tabN [([0, 1, 0, 1, 1], z0m_n1)]
  cut := tabF []
  n := n
  out := outR Try.prog [.tmp 2] (tyL Level.row)
theorem z0m_f (n : Nat) : (z0m_m n).P = Try.prog ∧ (z0m_m n).cl = tabA [(88, ent2 (tyI .i64) (tyI .i64) (ty2 (tyC Level.cel) (tyI .i64)) (z1d n))] ∧ (z0m_m n).cd = tabD [] ∧ (z0m_m n).nrm = tabN [([0, 1, 0, 1, 1], z0m_n1)] ∧ (z0m_m n).cut = tabF [] ∧ (z0m_m n).n = n ∧ (z0m_m n).out = outR Try.prog [.tmp 2] (tyL Level.row) := ⟨rfl, rfl, rfl, rfl, rfl, rfl, rfl⟩
theorem z0m_c (n : Nat) : (z0m_m n).body = (Try.f45.body).getD .skip := rfl
noncomputable def z0m_b1 (n : Nat) : { B : (Int → Int → (List Level) → Option (List Level)) → Int → Int → (List Level) → Option (List Level) // ∀ m X0, (∀ (v0 : Int) (v1 : Int) (r0 : List Level) (c0 : Nat), c0 = r0.length → run (z0m_m n) [.lq m [0, 1, 0, 1, 1], .blk 0, .cut [1, 1, 1], .at [1, 1, 1]] ⟨[.int .i64 v0, .any, .any, .acc 0 c0, .int .i64 v1, .any, .any, .any, .any, .any, .any, .any, .any, .any, .any, .any, .any, .any, .any, .any, .any, .any], [.acc true 2 (mp Level.cells r0)], 0⟩ = X0 v0 v1 r0) → ∀ (v0 : Int) (v1 : Int) (r0 : List Level), run (z0m_m n) [.at [0, 0, 1, 0, 1, 1], .lp m [0, 1, 0, 1, 1], .blk 0, .cut [1, 1, 1], .at [1, 1, 1]] ⟨[.int .i64 v0, .any, .any, .acc 0 r0.length, .int .i64 v1, .any, .any, .any, .any, .any, .any, .any, .any, .any, .any, .any, .any, .any, .any, .any, .any, .any], [.acc true 2 (mp Level.cells r0)], 0⟩ = B X0 v0 v1 r0 } := by
  apply Subtype.mk
  intro m X0 ih v0 v1 r0
  simp (maxSteps := 100000000) only [go_sem, q00, q01, q02, q03, q04, q05, q06, q10, q11, q12, q13, q14, z0m_f, z0m_c, Try.f45, Option.getD_some, mixed, z0m_n1, ih]
  exact rfl
noncomputable def z0m_l1 (n : Nat) : Nat → Int → Int → (List Level) → Option (List Level)
  | 0, _, _, _ => none
  | m + 1, v0, v1, r0 => (z0m_b1 n).1 (z0m_l1 n m) v0 v1 r0
theorem z0m_l1_eq (n : Nat) : ∀ (m : Nat), (∀ (v0 : Int) (v1 : Int) (r0 : List Level) (c0 : Nat), c0 = r0.length → run (z0m_m n) [.lq m [0, 1, 0, 1, 1], .blk 0, .cut [1, 1, 1], .at [1, 1, 1]] ⟨[.int .i64 v0, .any, .any, .acc 0 c0, .int .i64 v1, .any, .any, .any, .any, .any, .any, .any, .any, .any, .any, .any, .any, .any, .any, .any, .any, .any], [.acc true 2 (mp Level.cells r0)], 0⟩ = z0m_l1 n m v0 v1 r0)
  | 0 => by intros; exact run_lq_zero
  | m + 1 => by
    have ih := z0m_l1_eq n m
    intro v0 v1 r0 c0 ec0
    subst ec0
    rw [run_lq_succ]
    exact (z0m_b1 n).2  m _  ih v0 v1 r0
noncomputable def z0m_e (n : Nat) : { B : Int → Option (List Level) // ∀ (a0 : Int), run (z0m_m n) [.at []] { slots := [(tyI .i64).enc a0] ++ List.replicate (22 - [(tyI .i64).enc a0].length) .any, heap := [] } = B a0 } := by
  apply Subtype.mk
  intro a0
  simp (maxSteps := 100000000) only [go_sem, q00, q01, q02, q03, q04, q05, q06, q10, q11, q12, q13, q14, z0m_f, z0m_c, Try.f45, Option.getD_some, mixed, z0m_n1, z0m_l1_eq n]
  exact rfl
noncomputable def z0m : Nat → Int → Option (List Level)
  | 0, _ => none
  | n + 1, a0 => (z0m_e n).1 a0
theorem z0m_ok : ∀ (n : Nat) (a0 : Int) (r : (List Level)), z0m n a0 = some r → FnC Try.prog 45 [(tyI .i64).enc a0] (fun v => v = (tyL Level.row).enc r)
  | 0, _, _, h => by cases h
  | n + 1, a0, r, h => by
    exact fnC_run (M := z0m_m n) ⟨(tabA_cons_ok (ent2_ok (z1d_ok n)) tabA_nil_ok), tabD_nil_ok, tabN_ok _, tabF_ok _, noY_ok, noE_ok⟩ Try.func45 rfl rfl ⟨(tyI .i64).nb 0 _, trivial⟩ Try.ntmps45 Try.results45 (fun σ hs => outR_ok (P := Try.prog) (rs := [.tmp 2]) (t := (tyL Level.row)) (σ := σ) (r := r) hs) (((z0m_e n).2 a0).trans h)
end Go.Abs
namespace Go.Abs
open Go.Proofs
set_option maxRecDepth 100000
set_option maxHeartbeats 4000000
set_option linter.unusedSimpArgs false
set_option linter.unusedVariables false
noncomputable def z09_n1 : Nrm := ⟨[], [], [zA, zK, zK, zA, zA, zK, zA, zA, zA, zA, zA, zA, zA, zA, zA, zA, zA, zA, zA, zA, zA, zA, zA, zA, zA, zA, zA, zA, zA, zA, zA, zA, zA, zA, zA, zA, zA, zA, zA, zA, zA, zA, zA, zA, zA, zA, zA], [oT Tree.cel], none⟩
noncomputable def z09_m (X : Tree → Int → Option Bool) (n : Nat) : Mach Bool where
  body := (Try.f91.body).getD .skip
  P := Try.prog
  cl := tabA [(90, ent1 (tyC Term.cel) tyB (z0p n)), (91, ent2 (tyC Tree.cel) (tyI .i64) tyB X)]
  cd := tabD []
  nrm := tabN [([0, 1, 0, 1, 1], z09_n1)]
  cut := tabF []
  n := n
  out := outR Try.prog [.tmp 4] tyB
theorem z09_f (X : Tree → Int → Option Bool) (n : Nat) : (z09_m X n).P = Try.prog ∧ (z09_m X n).cl = tabA [(90, ent1 (tyC Term.cel) tyB (z0p n)), (91, ent2 (tyC Tree.cel) (tyI .i64) tyB X)] ∧ (z09_m X n).cd = tabD [] ∧ (z09_m X n).nrm = tabN [([0, 1, 0, 1, 1], z09_n1)] ∧ (z09_m X n).cut = tabF [] ∧ (z09_m X n).n = n ∧ (z09_m X n).out = outR Try.prog [.tmp 4] tyB := ⟨rfl, rfl, rfl, rfl, rfl, rfl, rfl⟩
theorem z09_c (X : Tree → Int → Option Bool) (n : Nat) : (z09_m X n).body = (Try.f91.body).getD .skip := rfl
noncomputable def z09_b1 (X : Tree → Int → Option Bool) (n : Nat) : { B : (Int → Int → Tree → Option Bool) → Int → Int → Tree → Option Bool // ∀ m X0, (∀ (v0 : Int) (v1 : Int) (o0 : Tree), run (z09_m X n) [.lq m [0, 1, 0, 1, 1], .blk 0, .cut [1, 1, 1], .at [1, 1, 1]] ⟨[.any, .int .i64 v0, .ptr 0 0, .any, .any, .int .i64 v1, .any, .any, .any, .any, .any, .any, .any, .any, .any, .any, .any, .any, .any, .any, .any, .any, .any, .any, .any, .any, .any, .any, .any, .any, .any, .any, .any, .any, .any, .any, .any, .any, .any, .any, .any, .any, .any, .any, .any, .any, .any], [.cells (Tree.cells o0)], 0⟩ = X0 v0 v1 o0) → ∀ (v0 : Int) (v1 : Int) (o0 : Tree), run (z09_m X n) [.at [0, 0, 1, 0, 1, 1], .lp m [0, 1, 0, 1, 1], .blk 0, .cut [1, 1, 1], .at [1, 1, 1]] ⟨[.any, .int .i64 v0, .ptr 0 0, .any, .any, .int .i64 v1, .any, .any, .any, .any, .any, .any, .any, .any, .any, .any, .any, .any, .any, .any, .any, .any, .any, .any, .any, .any, .any, .any, .any, .any, .any, .any, .any, .any, .any, .any, .any, .any, .any, .any, .any, .any, .any, .any, .any, .any, .any], [.cells (Tree.cells o0)], 0⟩ = B X0 v0 v1 o0 } := by
  apply Subtype.mk
  intro m X0 ih v0 v1 o0
  simp (maxSteps := 100000000) only [go_sem, q00, q01, q02, q03, q04, q05, q06, q10, q11, q12, q13, q14, z09_f, z09_c, Try.f91, Option.getD_some, mixed, z09_n1, ih]
  exact rfl
noncomputable def z09_l1 (X : Tree → Int → Option Bool) (n : Nat) : Nat → Int → Int → Tree → Option Bool
  | 0, _, _, _ => none
  | m + 1, v0, v1, o0 => (z09_b1 X n).1 (z09_l1 X n m) v0 v1 o0
theorem z09_l1_eq (X : Tree → Int → Option Bool) (n : Nat) : ∀ (m : Nat), (∀ (v0 : Int) (v1 : Int) (o0 : Tree), run (z09_m X n) [.lq m [0, 1, 0, 1, 1], .blk 0, .cut [1, 1, 1], .at [1, 1, 1]] ⟨[.any, .int .i64 v0, .ptr 0 0, .any, .any, .int .i64 v1, .any, .any, .any, .any, .any, .any, .any, .any, .any, .any, .any, .any, .any, .any, .any, .any, .any, .any, .any, .any, .any, .any, .any, .any, .any, .any, .any, .any, .any, .any, .any, .any, .any, .any, .any, .any, .any, .any, .any, .any, .any], [.cells (Tree.cells o0)], 0⟩ = z09_l1 X n m v0 v1 o0)
  | 0 => by intros; exact run_lq_zero
  | m + 1 => by
    have ih := z09_l1_eq X n m
    intro v0 v1 o0
    rw [run_lq_succ]
    exact (z09_b1 X n).2  m _  ih v0 v1 o0
noncomputable def z09_e (X : Tree → Int → Option Bool) (n : Nat) : { B : Tree → Int → Option Bool // ∀ (a0 : Tree) (a1 : Int), run (z09_m X n) [.at []] { slots := [(tyC Tree.cel).enc a0, (tyI .i64).enc a1] ++ List.replicate (47 - [(tyC Tree.cel).enc a0, (tyI .i64).enc a1].length) .any, heap := [] } = B a0 a1 } := by
  apply Subtype.mk
  intro a0 a1
  simp (maxSteps := 100000000) only [go_sem, q00, q01, q02, q03, q04, q05, q06, q10, q11, q12, q13, q14, z09_f, z09_c, Try.f91, Option.getD_some, mixed, z09_n1, z09_l1_eq X n]
  exact rfl
noncomputable def z09 : Nat → Tree → Int → Option Bool
  | 0, _, _ => none
  | n + 1, a0, a1 => (z09_e (z09 n) n).1 a0 a1
theorem z09_ok : ∀ (n : Nat) (a0 : Tree) (a1 : Int) (r : Bool), z09 n a0 a1 = some r → FnC Try.prog 91 [(tyC Tree.cel).enc a0, (tyI .i64).enc a1] (fun v => v = tyB.enc r)
  | 0, _, _, _, h => by cases h
  | n + 1, a0, a1, r, h => by
    have ih_law07_smallTree := z09_ok n
    exact fnC_run (M := z09_m (z09 n) n) ⟨(tabA_cons_ok (ent1_ok (z0p_ok n)) (tabA_cons_ok (ent2_ok (ih_law07_smallTree)) tabA_nil_ok)), tabD_nil_ok, tabN_ok _, tabF_ok _, noY_ok, noE_ok⟩ Try.func91 rfl rfl ⟨(tyC Tree.cel).nb 0 _, (tyI .i64).nb 0 _, trivial⟩ Try.ntmps91 Try.results91 (fun σ hs => outR_ok (P := Try.prog) (rs := [.tmp 4]) (t := tyB) (σ := σ) (r := r) hs) (((z09_e (z09 n) n).2 a0 a1).trans h)

noncomputable def z0z_n1 : Nrm := ⟨[], [], [zA, zK, zK, zK, zK, zK, zK, zA, zA, zA, zA, zA, zA, zA, zA, zK, zA, zA, zA, zA, zA, zA, zA, zA, zA, zA, zA, zA, zA, zA, zA, zA, zA, zA, zA, zA, zA, zA, zA, zA, zA, zA, zA, zA, zA, zA, zA, zA, zA, zA, zA, zA, zA, zA, zA, zA, zA, zA, zA, zA, zA, zA, zA, zA, zA, zA, zA, zA, zA, zA, zA, zA, zA, zA, zA, zA, zA, zA, zA, zA, zA, zA, zA, zA, zA, zA, zA, zA, zA, zA, zA, zA, zA, zA, zA, zA, zA, zA, zA, zA, zA, zA, zA, zA, zA, zA, zA], [oT Term.cel], none⟩
noncomputable def z0z_n2 : Nrm := ⟨[], [], [zA, zK, zK, zK, zK, zK, zK, zA, zA, zA, zA, zA, zA, zK, zA, zA, zA, zA, zA, zA, zA, zA, zA, zA, zA, zA, zA, zA, zA, zA, zA, zA, zA, zA, zA, zA, zA, zA, zA, zA, zA, zA, zA, zA, zA, zA, zA, zA, zA, zA, zA, zA, zA, zA, zA, zA, zA, zA, zA, zA, zA, zA, zA, zA, zA, zA, zA, zA, zA, zA, zA, zA, zA, zA, zA, zA, zA, zA, zA, zA, zA, zA, zA, zA, zA, zA, zA, zA, zA, zA, zA, zA, zA, zA, zA, zA, zA, zA, zA, zA, zA, zA, zA, zA, zA, zA, zA], [oT Term.cel], none⟩
noncomputable def z0z_m (X : Term → Int → Int → Int → Int → Int → Option Int) (n : Nat) : Mach Int where
  body := (Try.f106.body).getD .skip
  P := Try.prog
  cl := tabA [(54, ent1 tyS tyB (z13 n)), (122, ent1 (tyC Term.cel) tyB (z16 n)), (123, ent3 (tyC Level.cel) (tyI .i64) (tyI .i64) (tyI .i64) (z10 n))]
  cd := tabD [(106, entD (ent6 (tyC Term.cel) (tyI .i64) (tyI .i64) (tyI .i64) (tyI .i64) (tyI .i64) (tyI .i64) X)), (124, entD (ent2 (tyI .i64) (tyI .i64) (tyI .i64) (z0w n)))]
  nrm := tabN [([0, 1, 0, 1, 1, 1, 1, 1, 1, 1], z0z_n1), ([0, 1, 0, 1, 1, 1, 1], z0z_n2)]
  cut := tabF []
  n := n
  out := outR Try.prog [.tmp 12] (tyI .i64)
  isE := tabI []
theorem z0z_f (X : Term → Int → Int → Int → Int → Int → Option Int) (n : Nat) : (z0z_m X n).P = Try.prog ∧ (z0z_m X n).cl = tabA [(54, ent1 tyS tyB (z13 n)), (122, ent1 (tyC Term.cel) tyB (z16 n)), (123, ent3 (tyC Level.cel) (tyI .i64) (tyI .i64) (tyI .i64) (z10 n))] ∧ (z0z_m X n).cd = tabD [(106, entD (ent6 (tyC Term.cel) (tyI .i64) (tyI .i64) (tyI .i64) (tyI .i64) (tyI .i64) (tyI .i64) X)), (124, entD (ent2 (tyI .i64) (tyI .i64) (tyI .i64) (z0w n)))] ∧ (z0z_m X n).nrm = tabN [([0, 1, 0, 1, 1, 1, 1, 1, 1, 1], z0z_n1), ([0, 1, 0, 1, 1, 1, 1], z0z_n2)] ∧ (z0z_m X n).cut = tabF [] ∧ (z0z_m X n).n = n ∧ (z0z_m X n).out = outR Try.prog [.tmp 12] (tyI .i64) ∧ (z0z_m X n).isE = tabI [] := ⟨rfl, rfl, rfl, rfl, rfl, rfl, rfl, rfl⟩
theorem z0z_c (X : Term → Int → Int → Int → Int → Int → Option Int) (n : Nat) : (z0z_m X n).body = (Try.f106.body).getD .skip := rfl
theorem z0z_d (X : Term → Int → Int → Int → Int → Int → Option Int) (n : Nat) : drawP (z0z_m X n) [0, 0, 0, 1, 0, 0, 1, 0, 1, 1, 1, 1, 1, 1, 1] = true := by kernel_rfl
noncomputable def z0z_b1 (X : Term → Int → Int → Int → Int → Int → Option Int) (n : Nat) : { B : (Int → Int → Int → Int → Int → Int → Term → Option Int) → Int → Int → Int → Int → Int → Int → Term → Option Int // ∀ m X0, (∀ (v0 : Int) (v1 : Int) (v2 : Int) (v3 : Int) (v4 : Int) (v5 : Int) (o0 : Term), run (z0z_m X n) [.lq m [0, 1, 0, 1, 1, 1, 1, 1, 1, 1], .blk 2, .cut [1, 1, 1, 1, 1, 1, 1, 1], .at [1, 1, 1, 1, 1, 1, 1, 1]] ⟨[.any, .int .i64 v0, .int .i64 v1, .int .i64 v2, .int .i64 v3, .int .i64 v4, .ptr 0 0, .any, .any, .any, .any, .any, .any, .any, .any, .int .i64 v5, .any, .any, .any, .any, .any, .any, .any, .any, .any, .any, .any, .any, .any, .any, .any, .any, .any, .any, .any, .any, .any, .any, .any, .any, .any, .any, .any, .any, .any, .any, .any, .any, .any, .any, .any, .any, .any, .any, .any, .any, .any, .any, .any, .any, .any, .any, .any, .any, .any, .any, .any, .any, .any, .any, .any, .any, .any, .any, .any, .any, .any, .any, .any, .any, .any, .any, .any, .any, .any, .any, .any, .any, .any, .any, .any, .any, .any, .any, .any, .any, .any, .any, .any, .any, .any, .any, .any, .any, .any, .any, .any], [.cells (Term.cells o0)], 0⟩ = X0 v0 v1 v2 v3 v4 v5 o0) → ∀ (v0 : Int) (v1 : Int) (v2 : Int) (v3 : Int) (v4 : Int) (v5 : Int) (o0 : Term), run (z0z_m X n) [.at [0, 0, 1, 0, 1, 1, 1, 1, 1, 1, 1], .lp m [0, 1, 0, 1, 1, 1, 1, 1, 1, 1], .blk 2, .cut [1, 1, 1, 1, 1, 1, 1, 1], .at [1, 1, 1, 1, 1, 1, 1, 1]] ⟨[.any, .int .i64 v0, .int .i64 v1, .int .i64 v2, .int .i64 v3, .int .i64 v4, .ptr 0 0, .any, .any, .any, .any, .any, .any, .any, .any, .int .i64 v5, .any, .any, .any, .any, .any, .any, .any, .any, .any, .any, .any, .any, .any, .any, .any, .any, .any, .any, .any, .any, .any, .any, .any, .any, .any, .any, .any, .any, .any, .any, .any, .any, .any, .any, .any, .any, .any, .any, .any, .any, .any, .any, .any, .any, .any, .any, .any, .any, .any, .any, .any, .any, .any, .any, .any, .any, .any, .any, .any, .any, .any, .any, .any, .any, .any, .any, .any, .any, .any, .any, .any, .any, .any, .any, .any, .any, .any, .any, .any, .any, .any, .any, .any, .any, .any, .any, .any, .any, .any, .any, .any], [.cells (Term.cells o0)], 0⟩ = B X0 v0 v1 v2 v3 v4 v5 o0 } := by
  apply Subtype.mk
  intro m X0 ih v0 v1 v2 v3 v4 v5 o0
  simp (maxSteps := 100000000) only [go_sem, q00, q01, q02, q03, q04, q05, q06, q10, q11, q12, q13, q14, z0z_f, z0z_c, Try.f106, Option.getD_some, mixed, z0z_d, z0z_n1, z0z_n2, ih]
  exact rfl
noncomputable def z0z_l1 (X : Term → Int → Int → Int → Int → Int → Option Int) (n : Nat) : Nat → Int → Int → Int → Int → Int → Int → Term → Option Int
  | 0, _, _, _, _, _, _, _ => none
  | m + 1, v0, v1, v2, v3, v4, v5, o0 => (z0z_b1 X n).1 (z0z_l1 X n m) v0 v1 v2 v3 v4 v5 o0
theorem z0z_l1_eq (X : Term → Int → Int → Int → Int → Int → Option Int) (n : Nat) : ∀ (m : Nat), (∀ (v0 : Int) (v1 : Int) (v2 : Int) (v3 : Int) (v4 : Int) (v5 : Int) (o0 : Term), run (z0z_m X n) [.lq m [0, 1, 0, 1, 1, 1, 1, 1, 1, 1], .blk 2, .cut [1, 1, 1, 1, 1, 1, 1, 1], .at [1, 1, 1, 1, 1, 1, 1, 1]] ⟨[.any, .int .i64 v0, .int .i64 v1, .int .i64 v2, .int .i64 v3, .int .i64 v4, .ptr 0 0, .any, .any, .any, .any, .any, .any, .any, .any, .int .i64 v5, .any, .any, .any, .any, .any, .any, .any, .any, .any, .any, .any, .any, .any, .any, .any, .any, .any, .any, .any, .any, .any, .any, .any, .any, .any, .any, .any, .any, .any, .any, .any, .any, .any, .any, .any, .any, .any, .any, .any, .any, .any, .any, .any, .any, .any, .any, .any, .any, .any, .any, .any, .any, .any, .any, .any, .any, .any, .any, .any, .any, .any, .any, .any, .any, .any, .any, .any, .any, .any, .any, .any, .any, .any, .any, .any, .any, .any, .any, .any, .any, .any, .any, .any, .any, .any, .any, .any, .any, .any, .any, .any], [.cells (Term.cells o0)], 0⟩ = z0z_l1 X n m v0 v1 v2 v3 v4 v5 o0)
  | 0 => by intros; exact run_lq_zero
  | m + 1 => by
    have ih := z0z_l1_eq X n m
    intro v0 v1 v2 v3 v4 v5 o0
    rw [run_lq_succ]
    exact (z0z_b1 X n).2  m _  ih v0 v1 v2 v3 v4 v5 o0
noncomputable def z0z_b2 (X : Term → Int → Int → Int → Int → Int → Option Int) (n : Nat) : { B : (Int → Int → Int → Int → Int → Int → Term → Option Int) → Int → Int → Int → Int → Int → Int → Term → Option Int // ∀ m X0, (∀ (v0 : Int) (v1 : Int) (v2 : Int) (v3 : Int) (v4 : Int) (v5 : Int) (o0 : Term), run (z0z_m X n) [.lq m [0, 1, 0, 1, 1, 1, 1], .blk 0, .cut [1, 1, 1, 1, 1], .at [1, 1, 1, 1, 1]] ⟨[.any, .int .i64 v0, .int .i64 v1, .int .i64 v2, .int .i64 v3, .int .i64 v4, .ptr 0 0, .any, .any, .any, .any, .any, .any, .int .i64 v5, .any, .any, .any, .any, .any, .any, .any, .any, .any, .any, .any, .any, .any, .any, .any, .any, .any, .any, .any, .any, .any, .any, .any, .any, .any, .any, .any, .any, .any, .any, .any, .any, .any, .any, .any, .any, .any, .any, .any, .any, .any, .any, .any, .any, .any, .any, .any, .any, .any, .any, .any, .any, .any, .any, .any, .any, .any, .any, .any, .any, .any, .any, .any, .any, .any, .any, .any, .any, .any, .any, .any, .any, .any, .any, .any, .any, .any, .any, .any, .any, .any, .any, .any, .any, .any, .any, .any, .any, .any, .any, .any, .any, .any], [.cells (Term.cells o0)], 0⟩ = X0 v0 v1 v2 v3 v4 v5 o0) → ∀ (v0 : Int) (v1 : Int) (v2 : Int) (v3 : Int) (v4 : Int) (v5 : Int) (o0 : Term), run (z0z_m X n) [.at [0, 0, 1, 0, 1, 1, 1, 1], .lp m [0, 1, 0, 1, 1, 1, 1], .blk 0, .cut [1, 1, 1, 1, 1], .at [1, 1, 1, 1, 1]] ⟨[.any, .int .i64 v0, .int .i64 v1, .int .i64 v2, .int .i64 v3, .int .i64 v4, .ptr 0 0, .any, .any, .any, .any, .any, .any, .int .i64 v5, .any, .any, .any, .any, .any, .any, .any, .any, .any, .any, .any, .any, .any, .any, .any, .any, .any, .any, .any, .any, .any, .any, .any, .any, .any, .any, .any, .any, .any, .any, .any, .any, .any, .any, .any, .any, .any, .any, .any, .any, .any, .any, .any, .any, .any, .any, .any, .any, .any, .any, .any, .any, .any, .any, .any, .any, .any, .any, .any, .any, .any, .any, .any, .any, .any, .any, .any, .any, .any, .any, .any, .any, .any, .any, .any, .any, .any, .any, .any, .any, .any, .any, .any, .any, .any, .any, .any, .any, .any, .any, .any, .any, .any], [.cells (Term.cells o0)], 0⟩ = B X0 v0 v1 v2 v3 v4 v5 o0 } := by
  apply Subtype.mk
  intro m X0 ih v0 v1 v2 v3 v4 v5 o0
  simp (maxSteps := 100000000) only [go_sem, q00, q01, q02, q03, q04, q05, q06, q10, q11, q12, q13, q14, z0z_f, z0z_c, Try.f106, Option.getD_some, mixed, z0z_d, z0z_n1, z0z_n2, z0z_l1_eq X n, ih]
  exact rfl
noncomputable def z0z_l2 (X : Term → Int → Int → Int → Int → Int → Option Int) (n : Nat) : Nat → Int → Int → Int → Int → Int → Int → Term → Option Int
  | 0, _, _, _, _, _, _, _ => none
  | m + 1, v0, v1, v2, v3, v4, v5, o0 => (z0z_b2 X n).1 (z0z_l2 X n m) v0 v1 v2 v3 v4 v5 o0
theorem z0z_l2_eq (X : Term → Int → Int → Int → Int → Int → Option Int) (n : Nat) : ∀ (m : Nat), (∀ (v0 : Int) (v1 : Int) (v2 : Int) (v3 : Int) (v4 : Int) (v5 : Int) (o0 : Term), run (z0z_m X n) [.lq m [0, 1, 0, 1, 1, 1, 1], .blk 0, .cut [1, 1, 1, 1, 1], .at [1, 1, 1, 1, 1]] ⟨[.any, .int .i64 v0, .int .i64 v1, .int .i64 v2, .int .i64 v3, .int .i64 v4, .ptr 0 0, .any, .any, .any, .any, .any, .any, .int .i64 v5, .any, .any, .any, .any, .any, .any, .any, .any, .any, .any, .any, .any, .any, .any, .any, .any, .any, .any, .any, .any, .any, .any, .any, .any, .any, .any, .any, .any, .any, .any, .any, .any, .any, .any, .any, .any, .any, .any, .any, .any, .any, .any, .any, .any, .any, .any, .any, .any, .any, .any, .any, .any, .any, .any, .any, .any, .any, .any, .any, .any, .any, .any, .any, .any, .any, .any, .any, .any, .any, .any, .any, .any, .any, .any, .any, .any, .any, .any, .any, .any, .any, .any, .any, .any, .any, .any, .any, .any, .any, .any, .any, .any, .any], [.cells (Term.cells o0)], 0⟩ = z0z_l2 X n m v0 v1 v2 v3 v4 v5 o0)
  | 0 => by intros; exact run_lq_zero
  | m + 1 => by
    have ih := z0z_l2_eq X n m
    intro v0 v1 v2 v3 v4 v5 o0
    rw [run_lq_succ]
    exact (z0z_b2 X n).2  m _  ih v0 v1 v2 v3 v4 v5 o0
noncomputable def z0z_e (X : Term → Int → Int → Int → Int → Int → Option Int) (n : Nat) : { B : Term → Int → Int → Int → Int → Int → Option Int // ∀ (a0 : Term) (a1 : Int) (a2 : Int) (a3 : Int) (a4 : Int) (a5 : Int), run (z0z_m X n) [.at []] { slots := [(tyC Term.cel).enc a0, (tyI .i64).enc a1, (tyI .i64).enc a2, (tyI .i64).enc a3, (tyI .i64).enc a4, (tyI .i64).enc a5] ++ List.replicate (107 - [(tyC Term.cel).enc a0, (tyI .i64).enc a1, (tyI .i64).enc a2, (tyI .i64).enc a3, (tyI .i64).enc a4, (tyI .i64).enc a5].length) .any, heap := [] } = B a0 a1 a2 a3 a4 a5 } := by
  apply Subtype.mk
  intro a0 a1 a2 a3 a4 a5
  simp (maxSteps := 100000000) only [go_sem, q00, q01, q02, q03, q04, q05, q06, q10, q11, q12, q13, q14, z0z_f, z0z_c, Try.f106, Option.getD_some, mixed, z0z_d, z0z_n1, z0z_n2, z0z_l1_eq X n, z0z_l2_eq X n]
  exact rfl
noncomputable def z0z : Nat → Term → Int → Int → Int → Int → Int → Option Int
  | 0, _, _, _, _, _, _ => none
  | n + 1, a0, a1, a2, a3, a4, a5 => (z0z_e (z0z n) n).1 a0 a1 a2 a3 a4 a5
theorem z0z_ok : ∀ (n : Nat) (a0 : Term) (a1 : Int) (a2 : Int) (a3 : Int) (a4 : Int) (a5 : Int) (r : Int), z0z n a0 a1 a2 a3 a4 a5 = some r → FnC Try.prog 106 [(tyC Term.cel).enc a0, (tyI .i64).enc a1, (tyI .i64).enc a2, (tyI .i64).enc a3, (tyI .i64).enc a4, (tyI .i64).enc a5] (fun v => v = (tyI .i64).enc r)
  | 0, _, _, _, _, _, _, _, h => by cases h
  | n + 1, a0, a1, a2, a3, a4, a5, r, h => by
    have ih_ref03_check := z0z_ok n
    exact fnC_run (M := z0z_m (z0z n) n) ⟨(tabA_cons_ok (ent1_ok (z13_ok n)) (tabA_cons_ok (ent1_ok (z16_ok n)) (tabA_cons_ok (ent3_ok (z10_ok n)) tabA_nil_ok))), (tabD_cons_ok (ent6_okD (ih_ref03_check)) (tabD_cons_ok (ent2_okD (z0w_ok n)) tabD_nil_ok)), tabN_ok _, tabF_ok _, noY_ok, noE_ok⟩ Try.func106 rfl rfl ⟨(tyC Term.cel).nb 0 _, (tyI .i64).nb 0 _, (tyI .i64).nb 0 _, (tyI .i64).nb 0 _, (tyI .i64).nb 0 _, (tyI .i64).nb 0 _, trivial⟩ Try.ntmps106 Try.results106 (fun σ hs => outR_ok (P := Try.prog) (rs := [.tmp 12]) (t := (tyI .i64)) (σ := σ) (r := r) hs) (((z0z_e (z0z n) n).2 a0 a1 a2 a3 a4 a5).trans h)

noncomputable def z1c_m (n : Nat) : Mach Decl where
  body := (Try.f55.body).getD .skip
  P := Try.prog
  cl := tabA []
  cd := tabD [(93, entD (ent1 (tyI .i64) (tyC Term.cel) (z0r n))), (94, entD (ent2 (tyC Term.cel) (tyC Term.cel) (tyC Term.cel) (z0s n))), (95, entD (ent2 (tyC Term.cel) (tyC Term.cel) (tyC Term.cel) (z0t n))), (96, entD (ent4 (tyC Term.cel) (tyC Term.cel) (tyP (cF 95)) (tyP (cL Level.row)) (tyC Term.cel) (z0u n)))]
  nrm := tabN []
  cut := tabF [([1, 1, 1, 1, 1, 1, 1], [1, 2])]
  n := n
  out := outR Try.prog [.cell 2 31] (tyC Decl.cel)
  isE := tabI []
theorem z1c_f (n : Nat) : (z1c_m n).P = Try.prog ∧ (z1c_m n).cl = tabA [] ∧ (z1c_m n).cd = tabD [(93, entD (ent1 (tyI .i64) (tyC Term.cel) (z0r n))), (94, entD (ent2 (tyC Term.cel) (tyC Term.cel) (tyC Term.cel) (z0s n))), (95, entD (ent2 (tyC Term.cel) (tyC Term.cel) (tyC Term.cel) (z0t n))), (96, entD (ent4 (tyC Term.cel) (tyC Term.cel) (tyP (cF 95)) (tyP (cL Level.row)) (tyC Term.cel) (z0u n)))] ∧ (z1c_m n).nrm = tabN [] ∧ (z1c_m n).cut = tabF [([1, 1, 1, 1, 1, 1, 1], [1, 2])] ∧ (z1c_m n).n = n ∧ (z1c_m n).out = outR Try.prog [.cell 2 31] (tyC Decl.cel) ∧ (z1c_m n).isE = tabI [] := ⟨rfl, rfl, rfl, rfl, rfl, rfl, rfl, rfl⟩
theorem z1c_c (n : Nat) : (z1c_m n).body = (Try.f55.body).getD .skip := rfl
theorem z1c_d (n : Nat) : drawP (z1c_m n) [0, 1, 1, 1, 1, 1, 1, 1, 1] = true := by kernel_rfl
theorem z1c_o (n : Nat) : ordP (z1c_m n) [0, 1, 1, 1, 1, 1, 1, 1, 1] 1 47 = true ∧ ordP (z1c_m n) [0, 1, 1, 1, 1, 1, 1, 1, 1] 3 47 = true ∧ ordP (z1c_m n) [0, 1, 1, 1, 1, 1, 1, 1, 1] 4 47 = true ∧ ordP (z1c_m n) [0, 1, 1, 1, 1, 1, 1, 1, 1] 9 47 = true ∧ ordP (z1c_m n) [0, 1, 1, 1, 1, 1, 1, 1, 1] 13 47 = true ∧ ordP (z1c_m n) [0, 1, 1, 1, 1, 1, 1, 1, 1] 18 47 = true ∧ ordP (z1c_m n) [0, 1, 1, 1, 1, 1, 1, 1, 1] 20 47 = true ∧ ordP (z1c_m n) [0, 1, 1, 1, 1, 1, 1, 1, 1] 34 47 = true ∧ ordP (z1c_m n) [0, 1, 1, 1, 1, 1, 1, 1, 1] 35 47 = true := ⟨by kernel_rfl, by kernel_rfl, by kernel_rfl, by kernel_rfl, by kernel_rfl, by kernel_rfl, by kernel_rfl, by kernel_rfl, by kernel_rfl⟩
noncomputable def z1c_e (n : Nat) : { B : Int → Option Decl // ∀ (a0 : Int), run (z1c_m n) [.at []] { slots := [(tyI .i64).enc a0] ++ List.replicate (69 - [(tyI .i64).enc a0].length) .any, heap := [] } = B a0 } := by
  apply Subtype.mk
  intro a0
  simp (maxSteps := 100000000) only [go_sem, q00, q01, q02, q03, q04, q05, q06, q10, q11, q12, q13, q14, z1c_f, z1c_c, Try.f55, Option.getD_some, mixed, z1c_d, z1c_o]
  exact rfl
noncomputable def z1c : Nat → Int → Option Decl
  | 0, _ => none
  | n + 1, a0 => (z1c_e n).1 a0
theorem z1c_ok : ∀ (n : Nat) (a0 : Int) (r : Decl), z1c n a0 = some r → FnC Try.prog 55 [(tyI .i64).enc a0] (fun v => v = (tyC Decl.cel).enc r)
  | 0, _, _, h => by cases h
  | n + 1, a0, r, h => by
    exact fnC_run (M := z1c_m n) ⟨tabA_nil_ok, (tabD_cons_ok (ent1_okD (z0r_ok n)) (tabD_cons_ok (ent2_okD (z0s_ok n)) (tabD_cons_ok (ent2_okD (z0t_ok n)) (tabD_cons_ok (ent4_okD (z0u_ok n)) tabD_nil_ok)))), tabN_ok _, tabF_ok _, noY_ok, noE_ok⟩ Try.func55 rfl rfl ⟨(tyI .i64).nb 0 _, trivial⟩ Try.ntmps55 Try.results55 (fun σ hs => outR_ok (P := Try.prog) (rs := [.cell 2 31]) (t := (tyC Decl.cel)) (σ := σ) (r := r) hs) (((z1c_e n).2 a0).trans h)

noncomputable def z00_n1 : Nrm := ⟨[], [], [zA, zT (tyL Level.row), zT (tyF 64), zA, zA, zA, zA, zA, zA, zA, zA, zA, zA, zA, zA, zT (tyL Level.row), zK, zK, zA, zA, zA, zA, zA, zA, zA, zA, zA, zA, zA, zA, zA, zA], [], none⟩
noncomputable def z00_m (n : Nat) : Mach Bool where
  body := (Try.f63.body).getD .skip
  P := Try.prog
  cl := tabA [(64, ent2 (tyC Level.cel) (tyC Level.cel) tyB (z0f n))]
  cd := tabD []
  nrm := tabN [([0, 1, 0, 1, 1], z00_n1)]
  cut := tabF []
  n := n
  out := outR Try.prog [.tmp 6] tyB
theorem z00_f (n : Nat) : (z00_m n).P = Try.prog ∧ (z00_m n).cl = tabA [(64, ent2 (tyC Level.cel) (tyC Level.cel) tyB (z0f n))] ∧ (z00_m n).cd = tabD [] ∧ (z00_m n).nrm = tabN [([0, 1, 0, 1, 1], z00_n1)] ∧ (z00_m n).cut = tabF [] ∧ (z00_m n).n = n ∧ (z00_m n).out = outR Try.prog [.tmp 6] tyB := ⟨rfl, rfl, rfl, rfl, rfl, rfl, rfl⟩
theorem z00_c (n : Nat) : (z00_m n).body = (Try.f63.body).getD .skip := rfl
noncomputable def z00_b1 (n : Nat) : { B : ((List Level) → (List Level) → Int → Int → Option Bool) → (List Level) → (List Level) → Int → Int → Option Bool // ∀ m X0, (∀ (v0 : List Level) (v1 : List Level) (v2 : Int) (v3 : Int), run (z00_m n) [.lq m [0, 1, 0, 1, 1], .blk 0, .cut [1, 1, 1], .at [1, 1, 1]] ⟨[.any, .lst false 2 (mp Level.cells v0), .func (.func 64) [] [], .any, .any, .any, .any, .any, .any, .any, .any, .any, .any, .any, .any, .lst false 2 (mp Level.cells v1), .int .i64 v2, .int .i64 v3, .any, .any, .any, .any, .any, .any, .any, .any, .any, .any, .any, .any, .any, .any], [], 0⟩ = X0 v0 v1 v2 v3) → ∀ (v0 : List Level) (v1 : List Level) (v2 : Int) (v3 : Int), run (z00_m n) [.at [0, 0, 1, 0, 1, 1], .lp m [0, 1, 0, 1, 1], .blk 0, .cut [1, 1, 1], .at [1, 1, 1]] ⟨[.any, .lst false 2 (mp Level.cells v0), .func (.func 64) [] [], .any, .any, .any, .any, .any, .any, .any, .any, .any, .any, .any, .any, .lst false 2 (mp Level.cells v1), .int .i64 v2, .int .i64 v3, .any, .any, .any, .any, .any, .any, .any, .any, .any, .any, .any, .any, .any, .any], [], 0⟩ = B X0 v0 v1 v2 v3 } := by
  apply Subtype.mk
  intro m X0 ih v0 v1 v2 v3
  simp (maxSteps := 100000000) only [go_sem, q00, q01, q02, q03, q04, q05, q06, q10, q11, q12, q13, q14, z00_f, z00_c, Try.f63, Option.getD_some, mixed, z00_n1, ih]
  exact rfl
noncomputable def z00_l1 (n : Nat) : Nat → (List Level) → (List Level) → Int → Int → Option Bool
  | 0, _, _, _, _ => none
  | m + 1, v0, v1, v2, v3 => (z00_b1 n).1 (z00_l1 n m) v0 v1 v2 v3
theorem z00_l1_eq (n : Nat) : ∀ (m : Nat), (∀ (v0 : List Level) (v1 : List Level) (v2 : Int) (v3 : Int), run (z00_m n) [.lq m [0, 1, 0, 1, 1], .blk 0, .cut [1, 1, 1], .at [1, 1, 1]] ⟨[.any, .lst false 2 (mp Level.cells v0), .func (.func 64) [] [], .any, .any, .any, .any, .any, .any, .any, .any, .any, .any, .any, .any, .lst false 2 (mp Level.cells v1), .int .i64 v2, .int .i64 v3, .any, .any, .any, .any, .any, .any, .any, .any, .any, .any, .any, .any, .any, .any], [], 0⟩ = z00_l1 n m v0 v1 v2 v3)
  | 0 => by intros; exact run_lq_zero
  | m + 1 => by
    have ih := z00_l1_eq n m
    intro v0 v1 v2 v3
    rw [run_lq_succ]
    exact (z00_b1 n).2  m _  ih v0 v1 v2 v3
noncomputable def z00_e (n : Nat) : { B : (List Level) → (List Level) → Unit → Option Bool // ∀ (a0 : (List Level)) (a1 : (List Level)) (a2 : Unit), run (z00_m n) [.at []] { slots := [(tyL Level.row).enc a0, (tyL Level.row).enc a1, (tyF 64).enc a2] ++ List.replicate (32 - [(tyL Level.row).enc a0, (tyL Level.row).enc a1, (tyF 64).enc a2].length) .any, heap := [] } = B a0 a1 a2 } := by
  apply Subtype.mk
  intro a0 a1 a2
  simp (maxSteps := 100000000) only [go_sem, q00, q01, q02, q03, q04, q05, q06, q10, q11, q12, q13, q14, z00_f, z00_c, Try.f63, Option.getD_some, mixed, z00_n1, z00_l1_eq n]
  exact rfl
noncomputable def z00 : Nat → (List Level) → (List Level) → Unit → Option Bool
  | 0, _, _, _ => none
  | n + 1, a0, a1, a2 => (z00_e n).1 a0 a1 a2
theorem z00_ok : ∀ (n : Nat) (a0 : (List Level)) (a1 : (List Level)) (a2 : Unit) (r : Bool), z00 n a0 a1 a2 = some r → FnC Try.prog 63 [(tyL Level.row).enc a0, (tyL Level.row).enc a1, (tyF 64).enc a2] (fun v => v = tyB.enc r)
  | 0, _, _, _, _, h => by cases h
  | n + 1, a0, a1, a2, r, h => by
    exact fnC_run (M := z00_m n) ⟨(tabA_cons_ok (ent2_ok (z0f_ok n)) tabA_nil_ok), tabD_nil_ok, tabN_ok _, tabF_ok _, noY_ok, noE_ok⟩ Try.func63 rfl rfl ⟨(tyL Level.row).nb 0 _, (tyL Level.row).nb 0 _, (tyF 64).nb 0 _, trivial⟩ Try.ntmps63 Try.results63 (fun σ hs => outR_ok (P := Try.prog) (rs := [.tmp 6]) (t := tyB) (σ := σ) (r := r) hs) (((z00_e n).2 a0 a1 a2).trans h)

noncomputable def z14_n1 : Nrm := ⟨[], [], [zA, zA, zK, zK, zA, zK, zA, zA, zA, zA, zA, zA, zA, zA, zA, zA, zA, zA, zA, zA, zA, zA, zA, zA, zA, zA, zA, zA, zA, zA, zA, zA, zA, zA, zA, zA, zA, zA, zA, zA, zA, zA, zA, zA, zA, zA, zA, zA, zA, zA, zA, zA, zA, zA, zA, zA, zA, zA, zA, zA, zA], [oT Term.cel, oT Term.cel], none⟩
noncomputable def z14_m (X : Term → Term → Option Bool) (n : Nat) : Mach Bool where
  body := (Try.f23.body).getD .skip
  P := Try.prog
  cl := tabA [(62, ent2 (tyL Level.row) (tyL Level.row) tyB (z0a n))]
  cd := tabD [(23, entD (ent2 (tyC Term.cel) (tyC Term.cel) tyB X))]
  nrm := tabN [([0, 1, 0, 1, 1], z14_n1)]
  cut := tabF []
  n := n
  out := outR Try.prog [.tmp 4] tyB
  isE := tabI []
theorem z14_f (X : Term → Term → Option Bool) (n : Nat) : (z14_m X n).P = Try.prog ∧ (z14_m X n).cl = tabA [(62, ent2 (tyL Level.row) (tyL Level.row) tyB (z0a n))] ∧ (z14_m X n).cd = tabD [(23, entD (ent2 (tyC Term.cel) (tyC Term.cel) tyB X))] ∧ (z14_m X n).nrm = tabN [([0, 1, 0, 1, 1], z14_n1)] ∧ (z14_m X n).cut = tabF [] ∧ (z14_m X n).n = n ∧ (z14_m X n).out = outR Try.prog [.tmp 4] tyB ∧ (z14_m X n).isE = tabI [] := ⟨rfl, rfl, rfl, rfl, rfl, rfl, rfl, rfl⟩
theorem z14_c (X : Term → Term → Option Bool) (n : Nat) : (z14_m X n).body = (Try.f23.body).getD .skip := rfl
theorem z14_d (X : Term → Term → Option Bool) (n : Nat) : drawP (z14_m X n) [0, 0, 0, 1, 0, 0, 1, 0, 1, 1] = true := by kernel_rfl
noncomputable def z14_b1 (X : Term → Term → Option Bool) (n : Nat) : { B : (Int → Term → Term → Option Bool) → Int → Term → Term → Option Bool // ∀ m X0, (∀ (v0 : Int) (o0 : Term) (o1 : Term), run (z14_m X n) [.lq m [0, 1, 0, 1, 1], .blk 0, .cut [1, 1, 1], .at [1, 1, 1]] ⟨[.any, .any, .ptr 0 0, .ptr 1 0, .any, .int .i64 v0, .any, .any, .any, .any, .any, .any, .any, .any, .any, .any, .any, .any, .any, .any, .any, .any, .any, .any, .any, .any, .any, .any, .any, .any, .any, .any, .any, .any, .any, .any, .any, .any, .any, .any, .any, .any, .any, .any, .any, .any, .any, .any, .any, .any, .any, .any, .any, .any, .any, .any, .any, .any, .any, .any, .any], [.cells (Term.cells o0), .cells (Term.cells o1)], 0⟩ = X0 v0 o0 o1) → ∀ (v0 : Int) (o0 : Term) (o1 : Term), run (z14_m X n) [.at [0, 0, 1, 0, 1, 1], .lp m [0, 1, 0, 1, 1], .blk 0, .cut [1, 1, 1], .at [1, 1, 1]] ⟨[.any, .any, .ptr 0 0, .ptr 1 0, .any, .int .i64 v0, .any, .any, .any, .any, .any, .any, .any, .any, .any, .any, .any, .any, .any, .any, .any, .any, .any, .any, .any, .any, .any, .any, .any, .any, .any, .any, .any, .any, .any, .any, .any, .any, .any, .any, .any, .any, .any, .any, .any, .any, .any, .any, .any, .any, .any, .any, .any, .any, .any, .any, .any, .any, .any, .any, .any], [.cells (Term.cells o0), .cells (Term.cells o1)], 0⟩ = B X0 v0 o0 o1 } := by
  apply Subtype.mk
  intro m X0 ih v0 o0 o1
  simp (maxSteps := 100000000) only [go_sem, q00, q01, q02, q03, q04, q05, q06, q10, q11, q12, q13, q14, z14_f, z14_c, Try.f23, Option.getD_some, mixed, z14_d, z14_n1, ih]
  exact rfl
noncomputable def z14_l1 (X : Term → Term → Option Bool) (n : Nat) : Nat → Int → Term → Term → Option Bool
  | 0, _, _, _ => none
  | m + 1, v0, o0, o1 => (z14_b1 X n).1 (z14_l1 X n m) v0 o0 o1
theorem z14_l1_eq (X : Term → Term → Option Bool) (n : Nat) : ∀ (m : Nat), (∀ (v0 : Int) (o0 : Term) (o1 : Term), run (z14_m X n) [.lq m [0, 1, 0, 1, 1], .blk 0, .cut [1, 1, 1], .at [1, 1, 1]] ⟨[.any, .any, .ptr 0 0, .ptr 1 0, .any, .int .i64 v0, .any, .any, .any, .any, .any, .any, .any, .any, .any, .any, .any, .any, .any, .any, .any, .any, .any, .any, .any, .any, .any, .any, .any, .any, .any, .any, .any, .any, .any, .any, .any, .any, .any, .any, .any, .any, .any, .any, .any, .any, .any, .any, .any, .any, .any, .any, .any, .any, .any, .any, .any, .any, .any, .any, .any], [.cells (Term.cells o0), .cells (Term.cells o1)], 0⟩ = z14_l1 X n m v0 o0 o1)
  | 0 => by intros; exact run_lq_zero
  | m + 1 => by
    have ih := z14_l1_eq X n m
    intro v0 o0 o1
    rw [run_lq_succ]
    exact (z14_b1 X n).2  m _  ih v0 o0 o1
noncomputable def z14_e (X : Term → Term → Option Bool) (n : Nat) : { B : Term → Term → Option Bool // ∀ (a0 : Term) (a1 : Term), run (z14_m X n) [.at []] { slots := [(tyC Term.cel).enc a0, (tyC Term.cel).enc a1] ++ List.replicate (61 - [(tyC Term.cel).enc a0, (tyC Term.cel).enc a1].length) .any, heap := [] } = B a0 a1 } := by
  apply Subtype.mk
  intro a0 a1
  simp (maxSteps := 100000000) only [go_sem, q00, q01, q02, q03, q04, q05, q06, q10, q11, q12, q13, q14, z14_f, z14_c, Try.f23, Option.getD_some, mixed, z14_d, z14_n1, z14_l1_eq X n]
  exact rfl
noncomputable def z14 : Nat → Term → Term → Option Bool
  | 0, _, _ => none
  | n + 1, a0, a1 => (z14_e (z14 n) n).1 a0 a1
theorem z14_ok : ∀ (n : Nat) (a0 : Term) (a1 : Term) (r : Bool), z14 n a0 a1 = some r → FnC Try.prog 23 [(tyC Term.cel).enc a0, (tyC Term.cel).enc a1] (fun v => v = tyB.enc r)
  | 0, _, _, _, h => by cases h
  | n + 1, a0, a1, r, h => by
    have ih_ref03_Same := z14_ok n
    exact fnC_run (M := z14_m (z14 n) n) ⟨(tabA_cons_ok (ent2_ok (z0a_ok n)) tabA_nil_ok), (tabD_cons_ok (ent2_okD (ih_ref03_Same)) tabD_nil_ok), tabN_ok _, tabF_ok _, noY_ok, noE_ok⟩ Try.func23 rfl rfl ⟨(tyC Term.cel).nb 0 _, (tyC Term.cel).nb 0 _, trivial⟩ Try.ntmps23 Try.results23 (fun σ hs => outR_ok (P := Try.prog) (rs := [.tmp 4]) (t := tyB) (σ := σ) (r := r) hs) (((z14_e (z14 n) n).2 a0 a1).trans h)

noncomputable def z1g_m (n : Nat) : Mach Term where
  body := (Try.f85.body).getD .skip
  P := Try.prog
  cl := tabA [(45, ent1 (tyI .i64) (tyL Level.row) (z0m n))]
  cd := tabD []
  nrm := tabN []
  cut := tabF []
  n := n
  out := outR Try.prog [.cell 4 25] (tyC Term.cel)
theorem z1g_f (n : Nat) : (z1g_m n).P = Try.prog ∧ (z1g_m n).cl = tabA [(45, ent1 (tyI .i64) (tyL Level.row) (z0m n))] ∧ (z1g_m n).cd = tabD [] ∧ (z1g_m n).nrm = tabN [] ∧ (z1g_m n).cut = tabF [] ∧ (z1g_m n).n = n ∧ (z1g_m n).out = outR Try.prog [.cell 4 25] (tyC Term.cel) := ⟨rfl, rfl, rfl, rfl, rfl, rfl, rfl⟩
theorem z1g_c (n : Nat) : (z1g_m n).body = (Try.f85.body).getD .skip := rfl
noncomputable def z1g_e (n : Nat) : { B : Str → Int → Option Term // ∀ (a0 : Str) (a1 : Int), run (z1g_m n) [.at []] { slots := [tyS.enc a0, (tyI .i64).enc a1] ++ List.replicate (9 - [tyS.enc a0, (tyI .i64).enc a1].length) .any, heap := [] } = B a0 a1 } := by
  apply Subtype.mk
  intro a0 a1
  simp (maxSteps := 100000000) only [go_sem, q00, q01, q02, q03, q04, q05, q06, q10, q11, q12, q13, q14, z1g_f, z1g_c, Try.f85, Option.getD_some, mixed]
  exact rfl
noncomputable def z1g : Nat → Str → Int → Option Term
  | 0, _, _ => none
  | n + 1, a0, a1 => (z1g_e n).1 a0 a1
theorem z1g_ok : ∀ (n : Nat) (a0 : Str) (a1 : Int) (r : Term), z1g n a0 a1 = some r → FnC Try.prog 85 [tyS.enc a0, (tyI .i64).enc a1] (fun v => v = (tyC Term.cel).enc r)
  | 0, _, _, _, h => by cases h
  | n + 1, a0, a1, r, h => by
    exact fnC_run (M := z1g_m n) ⟨(tabA_cons_ok (ent1_ok (z0m_ok n)) tabA_nil_ok), tabD_nil_ok, tabN_ok _, tabF_ok _, noY_ok, noE_ok⟩ Try.func85 rfl rfl ⟨tyS.nb 0 _, (tyI .i64).nb 0 _, trivial⟩ Try.ntmps85 Try.results85 (fun σ hs => outR_ok (P := Try.prog) (rs := [.cell 4 25]) (t := (tyC Term.cel)) (σ := σ) (r := r) hs) (((z1g_e n).2 a0 a1).trans h)
end Go.Abs
namespace Go.Abs
open Go.Proofs
set_option maxRecDepth 100000
set_option maxHeartbeats 4000000
set_option linter.unusedSimpArgs false
set_option linter.unusedVariables false
noncomputable def z0h_n1 : Nrm := ⟨[], [], [zA, zK, zA, zA, zA, zK, zA, zA, zA, zA, zA, zA, zA, zA, zA, zA, zA, zA, zA, zA, zA, zA, zA, zA, zA, zA, zA, zA, zA, zA, zA, zA, zA, zA, zA, zA, zA, zA, zA, zA, zA, zA, zA, zA, zA, zA, zA, zA, zA, zA, zA, zA, zA, zA, zA, zA, zA, zA, zA, zA, zA, zA, zA, zA, zA, zA, zA, zA, zA, zA, zA, zA, zA, zA, zA, zA, zA, zA, zA, zA, zA, zA, zA, zA, zA, zA, zA, zA, zA, zA, zA, zA, zA, zA, zA, zA, zA, zA, zA, zA, zA, zA, zA, zA, zA, zA, zA, zA, zA, zA, zA, zA, zA, zA, zA, zA, zA, zA, zA, zA, zA, zA, zA, zA], [oT Decl.cel], none⟩
noncomputable def z0h_n2 : Nrm := ⟨[], [], [zA, zK, zA, zA, zK, zA, zA, zA, zA, zA, zA, zA, zA, zA, zA, zA, zA, zA, zA, zA, zA, zA, zA, zA, zA, zA, zA, zA, zA, zA, zA, zA, zA, zA, zA, zA, zA, zA, zA, zA, zA, zA, zA, zA, zA, zA, zA, zA, zA, zA, zA, zA, zA, zA, zA, zA, zA, zA, zA, zA, zA, zA, zA, zA, zA, zA, zA, zA, zA, zA, zA, zA, zA, zA, zA, zA, zA, zA, zA, zA, zA, zA, zA, zA, zA, zA, zA, zA, zA, zA, zA, zA, zA, zA, zA, zA, zA, zA, zA, zA, zA, zA, zA, zA, zA, zA, zA, zA, zA, zA, zA, zA, zA, zA, zA, zA, zA, zA, zA, zA, zA, zA, zA, zA], [oT Decl.cel], none⟩
noncomputable def z0h_n3 : Nrm := ⟨[], [], [zA, zK, zA, zK, zA, zA, zA, zA, zA, zA, zA, zA, zA, zA, zA, zA, zA, zA, zA, zA, zA, zA, zA, zA, zA, zA, zA, zA, zA, zA, zA, zA, zA, zA, zA, zA, zA, zA, zA, zA, zA, zA, zA, zA, zA, zA, zA, zA, zA, zA, zA, zA, zA, zA, zA, zA, zA, zA, zA, zA, zA, zA, zA, zA, zA, zA, zA, zA, zA, zA, zA, zA, zA, zA, zA, zA, zA, zA, zA, zA, zA, zA, zA, zA, zA, zA, zA, zA, zA, zA, zA, zA, zA, zA, zA, zA, zA, zA, zA, zA, zA, zA, zA, zA, zA, zA, zA, zA, zA, zA, zA, zA, zA, zA, zA, zA, zA, zA, zA, zA, zA, zA, zA, zA], [oT Decl.cel], none⟩
noncomputable def z0h_m (n : Nat) : Mach Bool where
  body := (Try.f52.body).getD .skip
  P := Try.prog
  cl := tabA [(90, ent1 (tyC Term.cel) tyB (z0p n)), (91, ent2 (tyC Tree.cel) (tyI .i64) tyB (z09 n))]
  cd := tabD []
  nrm := tabN [([0, 1, 0, 1, 1, 1, 1], z0h_n1), ([0, 1, 0, 1, 1, 1], z0h_n2), ([0, 1, 0, 1, 1], z0h_n3)]
  cut := tabF []
  n := n
  out := outR Try.prog [.tmp 2] tyB
theorem z0h_f (n : Nat) : (z0h_m n).P = Try.prog ∧ (z0h_m n).cl = tabA [(90, ent1 (tyC Term.cel) tyB (z0p n)), (91, ent2 (tyC Tree.cel) (tyI .i64) tyB (z09 n))] ∧ (z0h_m n).cd = tabD [] ∧ (z0h_m n).nrm = tabN [([0, 1, 0, 1, 1, 1, 1], z0h_n1), ([0, 1, 0, 1, 1, 1], z0h_n2), ([0, 1, 0, 1, 1], z0h_n3)] ∧ (z0h_m n).cut = tabF [] ∧ (z0h_m n).n = n ∧ (z0h_m n).out = outR Try.prog [.tmp 2] tyB := ⟨rfl, rfl, rfl, rfl, rfl, rfl, rfl⟩
theorem z0h_c (n : Nat) : (z0h_m n).body = (Try.f52.body).getD .skip := rfl
noncomputable def z0h_b1 (n : Nat) : { B : (Int → Decl → Option Bool) → Int → Decl → Option Bool // ∀ m X0, (∀ (v0 : Int) (o0 : Decl), run (z0h_m n) [.lq m [0, 1, 0, 1, 1, 1, 1], .blk 4, .cut [1, 1, 1, 1, 1], .at [1, 1, 1, 1, 1]] ⟨[.any, .ptr 0 0, .any, .any, .any, .int .i64 v0, .any, .any, .any, .any, .any, .any, .any, .any, .any, .any, .any, .any, .any, .any, .any, .any, .any, .any, .any, .any, .any, .any, .any, .any, .any, .any, .any, .any, .any, .any, .any, .any, .any, .any, .any, .any, .any, .any, .any, .any, .any, .any, .any, .any, .any, .any, .any, .any, .any, .any, .any, .any, .any, .any, .any, .any, .any, .any, .any, .any, .any, .any, .any, .any, .any, .any, .any, .any, .any, .any, .any, .any, .any, .any, .any, .any, .any, .any, .any, .any, .any, .any, .any, .any, .any, .any, .any, .any, .any, .any, .any, .any, .any, .any, .any, .any, .any, .any, .any, .any, .any, .any, .any, .any, .any, .any, .any, .any, .any, .any, .any, .any, .any, .any, .any, .any, .any, .any], [.cells (Decl.cells o0)], 0⟩ = X0 v0 o0) → ∀ (v0 : Int) (o0 : Decl), run (z0h_m n) [.at [0, 0, 1, 0, 1, 1, 1, 1], .lp m [0, 1, 0, 1, 1, 1, 1], .blk 4, .cut [1, 1, 1, 1, 1], .at [1, 1, 1, 1, 1]] ⟨[.any, .ptr 0 0, .any, .any, .any, .int .i64 v0, .any, .any, .any, .any, .any, .any, .any, .any, .any, .any, .any, .any, .any, .any, .any, .any, .any, .any, .any, .any, .any, .any, .any, .any, .any, .any, .any, .any, .any, .any, .any, .any, .any, .any, .any, .any, .any, .any, .any, .any, .any, .any, .any, .any, .any, .any, .any, .any, .any, .any, .any, .any, .any, .any, .any, .any, .any, .any, .any, .any, .any, .any, .any, .any, .any, .any, .any, .any, .any, .any, .any, .any, .any, .any, .any, .any, .any, .any, .any, .any, .any, .any, .any, .any, .any, .any, .any, .any, .any, .any, .any, .any, .any, .any, .any, .any, .any, .any, .any, .any, .any, .any, .any, .any, .any, .any, .any, .any, .any, .any, .any, .any, .any, .any, .any, .any, .any, .any], [.cells (Decl.cells o0)], 0⟩ = B X0 v0 o0 } := by
  apply Subtype.mk
  intro m X0 ih v0 o0
  simp (maxSteps := 100000000) only [go_sem, q00, q01, q02, q03, q04, q05, q06, q10, q11, q12, q13, q14, z0h_f, z0h_c, Try.f52, Option.getD_some, mixed, z0h_n1, z0h_n2, z0h_n3, ih]
  exact rfl
noncomputable def z0h_l1 (n : Nat) : Nat → Int → Decl → Option Bool
  | 0, _, _ => none
  | m + 1, v0, o0 => (z0h_b1 n).1 (z0h_l1 n m) v0 o0
theorem z0h_l1_eq (n : Nat) : ∀ (m : Nat), (∀ (v0 : Int) (o0 : Decl), run (z0h_m n) [.lq m [0, 1, 0, 1, 1, 1, 1], .blk 4, .cut [1, 1, 1, 1, 1], .at [1, 1, 1, 1, 1]] ⟨[.any, .ptr 0 0, .any, .any, .any, .int .i64 v0, .any, .any, .any, .any, .any, .any, .any, .any, .any, .any, .any, .any, .any, .any, .any, .any, .any, .any, .any, .any, .any, .any, .any, .any, .any, .any, .any, .any, .any, .any, .any, .any, .any, .any, .any, .any, .any, .any, .any, .any, .any, .any, .any, .any, .any, .any, .any, .any, .any, .any, .any, .any, .any, .any, .any, .any, .any, .any, .any, .any, .any, .any, .any, .any, .any, .any, .any, .any, .any, .any, .any, .any, .any, .any, .any, .any, .any, .any, .any, .any, .any, .any, .any, .any, .any, .any, .any, .any, .any, .any, .any, .any, .any, .any, .any, .any, .any, .any, .any, .any, .any, .any, .any, .any, .any, .any, .any, .any, .any, .any, .any, .any, .any, .any, .any, .any, .any, .any], [.cells (Decl.cells o0)], 0⟩ = z0h_l1 n m v0 o0)
  | 0 => by intros; exact run_lq_zero
  | m + 1 => by
    have ih := z0h_l1_eq n m
    intro v0 o0
    rw [run_lq_succ]
    exact (z0h_b1 n).2  m _  ih v0 o0
noncomputable def z0h_b2 (n : Nat) : { B : (Int → Decl → Option Bool) → Int → Decl → Option Bool // ∀ m X0, (∀ (v0 : Int) (o0 : Decl), run (z0h_m n) [.lq m [0, 1, 0, 1, 1, 1], .blk 2, .cut [1, 1, 1, 1], .at [1, 1, 1, 1]] ⟨[.any, .ptr 0 0, .any, .any, .int .i64 v0, .any, .any, .any, .any, .any, .any, .any, .any, .any, .any, .any, .any, .any, .any, .any, .any, .any, .any, .any, .any, .any, .any, .any, .any, .any, .any, .any, .any, .any, .any, .any, .any, .any, .any, .any, .any, .any, .any, .any, .any, .any, .any, .any, .any, .any, .any, .any, .any, .any, .any, .any, .any, .any, .any, .any, .any, .any, .any, .any, .any, .any, .any, .any, .any, .any, .any, .any, .any, .any, .any, .any, .any, .any, .any, .any, .any, .any, .any, .any, .any, .any, .any, .any, .any, .any, .any, .any, .any, .any, .any, .any, .any, .any, .any, .any, .any, .any, .any, .any, .any, .any, .any, .any, .any, .any, .any, .any, .any, .any, .any, .any, .any, .any, .any, .any, .any, .any, .any, .any], [.cells (Decl.cells o0)], 0⟩ = X0 v0 o0) → ∀ (v0 : Int) (o0 : Decl), run (z0h_m n) [.at [0, 0, 1, 0, 1, 1, 1], .lp m [0, 1, 0, 1, 1, 1], .blk 2, .cut [1, 1, 1, 1], .at [1, 1, 1, 1]] ⟨[.any, .ptr 0 0, .any, .any, .int .i64 v0, .any, .any, .any, .any, .any, .any, .any, .any, .any, .any, .any, .any, .any, .any, .any, .any, .any, .any, .any, .any, .any, .any, .any, .any, .any, .any, .any, .any, .any, .any, .any, .any, .any, .any, .any, .any, .any, .any, .any, .any, .any, .any, .any, .any, .any, .any, .any, .any, .any, .any, .any, .any, .any, .any, .any, .any, .any, .any, .any, .any, .any, .any, .any, .any, .any, .any, .any, .any, .any, .any, .any, .any, .any, .any, .any, .any, .any, .any, .any, .any, .any, .any, .any, .any, .any, .any, .any, .any, .any, .any, .any, .any, .any, .any, .any, .any, .any, .any, .any, .any, .any, .any, .any, .any, .any, .any, .any, .any, .any, .any, .any, .any, .any, .any, .any, .any, .any, .any, .any], [.cells (Decl.cells o0)], 0⟩ = B X0 v0 o0 } := by
  apply Subtype.mk
  intro m X0 ih v0 o0
  simp (maxSteps := 100000000) only [go_sem, q00, q01, q02, q03, q04, q05, q06, q10, q11, q12, q13, q14, z0h_f, z0h_c, Try.f52, Option.getD_some, mixed, z0h_n1, z0h_n2, z0h_n3, z0h_l1_eq n, ih]
  exact rfl
noncomputable def z0h_l2 (n : Nat) : Nat → Int → Decl → Option Bool
  | 0, _, _ => none
  | m + 1, v0, o0 => (z0h_b2 n).1 (z0h_l2 n m) v0 o0
theorem z0h_l2_eq (n : Nat) : ∀ (m : Nat), (∀ (v0 : Int) (o0 : Decl), run (z0h_m n) [.lq m [0, 1, 0, 1, 1, 1], .blk 2, .cut [1, 1, 1, 1], .at [1, 1, 1, 1]] ⟨[.any, .ptr 0 0, .any, .any, .int .i64 v0, .any, .any, .any, .any, .any, .any, .any, .any, .any, .any, .any, .any, .any, .any, .any, .any, .any, .any, .any, .any, .any, .any, .any, .any, .any, .any, .any, .any, .any, .any, .any, .any, .any, .any, .any, .any, .any, .any, .any, .any, .any, .any, .any, .any, .any, .any, .any, .any, .any, .any, .any, .any, .any, .any, .any, .any, .any, .any, .any, .any, .any, .any, .any, .any, .any, .any, .any, .any, .any, .any, .any, .any, .any, .any, .any, .any, .any, .any, .any, .any, .any, .any, .any, .any, .any, .any, .any, .any, .any, .any, .any, .any, .any, .any, .any, .any, .any, .any, .any, .any, .any, .any, .any, .any, .any, .any, .any, .any, .any, .any, .any, .any, .any, .any, .any, .any, .any, .any, .any], [.cells (Decl.cells o0)], 0⟩ = z0h_l2 n m v0 o0)
  | 0 => by intros; exact run_lq_zero
  | m + 1 => by
    have ih := z0h_l2_eq n m
    intro v0 o0
    rw [run_lq_succ]
    exact (z0h_b2 n).2  m _  ih v0 o0
noncomputable def z0h_b3 (n : Nat) : { B : (Int → Decl → Option Bool) → Int → Decl → Option Bool // ∀ m X0, (∀ (v0 : Int) (o0 : Decl), run (z0h_m n) [.lq m [0, 1, 0, 1, 1], .blk 0, .cut [1, 1, 1], .at [1, 1, 1]] ⟨[.any, .ptr 0 0, .any, .int .i64 v0, .any, .any, .any, .any, .any, .any, .any, .any, .any, .any, .any, .any, .any, .any, .any, .any, .any, .any, .any, .any, .any, .any, .any, .any, .any, .any, .any, .any, .any, .any, .any, .any, .any, .any, .any, .any, .any, .any, .any, .any, .any, .any, .any, .any, .any, .any, .any, .any, .any, .any, .any, .any, .any, .any, .any, .any, .any, .any, .any, .any, .any, .any, .any, .any, .any, .any, .any, .any, .any, .any, .any, .any, .any, .any, .any, .any, .any, .any, .any, .any, .any, .any, .any, .any, .any, .any, .any, .any, .any, .any, .any, .any, .any, .any, .any, .any, .any, .any, .any, .any, .any, .any, .any, .any, .any, .any, .any, .any, .any, .any, .any, .any, .any, .any, .any, .any, .any, .any, .any, .any], [.cells (Decl.cells o0)], 0⟩ = X0 v0 o0) → ∀ (v0 : Int) (o0 : Decl), run (z0h_m n) [.at [0, 0, 1, 0, 1, 1], .lp m [0, 1, 0, 1, 1], .blk 0, .cut [1, 1, 1], .at [1, 1, 1]] ⟨[.any, .ptr 0 0, .any, .int .i64 v0, .any, .any, .any, .any, .any, .any, .any, .any, .any, .any, .any, .any, .any, .any, .any, .any, .any, .any, .any, .any, .any, .any, .any, .any, .any, .any, .any, .any, .any, .any, .any, .any, .any, .any, .any, .any, .any, .any, .any, .any, .any, .any, .any, .any, .any, .any, .any, .any, .any, .any, .any, .any, .any, .any, .any, .any, .any, .any, .any, .any, .any, .any, .any, .any, .any, .any, .any, .any, .any, .any, .any, .any, .any, .any, .any, .any, .any, .any, .any, .any, .any, .any, .any, .any, .any, .any, .any, .any, .any, .any, .any, .any, .any, .any, .any, .any, .any, .any, .any, .any, .any, .any, .any, .any, .any, .any, .any, .any, .any, .any, .any, .any, .any, .any, .any, .any, .any, .any, .any, .any], [.cells (Decl.cells o0)], 0⟩ = B X0 v0 o0 } := by
  apply Subtype.mk
  intro m X0 ih v0 o0
  simp (maxSteps := 100000000) only [go_sem, q00, q01, q02, q03, q04, q05, q06, q10, q11, q12, q13, q14, z0h_f, z0h_c, Try.f52, Option.getD_some, mixed, z0h_n1, z0h_n2, z0h_n3, z0h_l1_eq n, z0h_l2_eq n, ih]
  exact rfl
noncomputable def z0h_l3 (n : Nat) : Nat → Int → Decl → Option Bool
  | 0, _, _ => none
  | m + 1, v0, o0 => (z0h_b3 n).1 (z0h_l3 n m) v0 o0
theorem z0h_l3_eq (n : Nat) : ∀ (m : Nat), (∀ (v0 : Int) (o0 : Decl), run (z0h_m n) [.lq m [0, 1, 0, 1, 1], .blk 0, .cut [1, 1, 1], .at [1, 1, 1]] ⟨[.any, .ptr 0 0, .any, .int .i64 v0, .any, .any, .any, .any, .any, .any, .any, .any, .any, .any, .any, .any, .any, .any, .any, .any, .any, .any, .any, .any, .any, .any, .any, .any, .any, .any, .any, .any, .any, .any, .any, .any, .any, .any, .any, .any, .any, .any, .any, .any, .any, .any, .any, .any, .any, .any, .any, .any, .any, .any, .any, .any, .any, .any, .any, .any, .any, .any, .any, .any, .any, .any, .any, .any, .any, .any, .any, .any, .any, .any, .any, .any, .any, .any, .any, .any, .any, .any, .any, .any, .any, .any, .any, .any, .any, .any, .any, .any, .any, .any, .any, .any, .any, .any, .any, .any, .any, .any, .any, .any, .any, .any, .any, .any, .any, .any, .any, .any, .any, .any, .any, .any, .any, .any, .any, .any, .any, .any, .any, .any], [.cells (Decl.cells o0)], 0⟩ = z0h_l3 n m v0 o0)
  | 0 => by intros; exact run_lq_zero
  | m + 1 => by
    have ih := z0h_l3_eq n m
    intro v0 o0
    rw [run_lq_succ]
    exact (z0h_b3 n).2  m _  ih v0 o0
noncomputable def z0h_e (n : Nat) : { B : Decl → Option Bool // ∀ (a0 : Decl), run (z0h_m n) [.at []] { slots := [(tyC Decl.cel).enc a0] ++ List.replicate (124 - [(tyC Decl.cel).enc a0].length) .any, heap := [] } = B a0 } := by
  apply Subtype.mk
  intro a0
  simp (maxSteps := 100000000) only [go_sem, q00, q01, q02, q03, q04, q05, q06, q10, q11, q12, q13, q14, z0h_f, z0h_c, Try.f52, Option.getD_some, mixed, z0h_n1, z0h_n2, z0h_n3, z0h_l1_eq n, z0h_l2_eq n, z0h_l3_eq n]
  exact rfl
noncomputable def z0h : Nat → Decl → Option Bool
  | 0, _ => none
  | n + 1, a0 => (z0h_e n).1 a0
theorem z0h_ok : ∀ (n : Nat) (a0 : Decl) (r : Bool), z0h n a0 = some r → FnC Try.prog 52 [(tyC Decl.cel).enc a0] (fun v => v = tyB.enc r)
  | 0, _, _, h => by cases h
  | n + 1, a0, r, h => by
    exact fnC_run (M := z0h_m n) ⟨(tabA_cons_ok (ent1_ok (z0p_ok n)) (tabA_cons_ok (ent2_ok (z09_ok n)) tabA_nil_ok)), tabD_nil_ok, tabN_ok _, tabF_ok _, noY_ok, noE_ok⟩ Try.func52 rfl rfl ⟨(tyC Decl.cel).nb 0 _, trivial⟩ Try.ntmps52 Try.results52 (fun σ hs => outR_ok (P := Try.prog) (rs := [.tmp 2]) (t := tyB) (σ := σ) (r := r) hs) (((z0h_e n).2 a0).trans h)

noncomputable def z0x_m (n : Nat) : Mach Int where
  body := (Try.f71.body).getD .skip
  P := Try.prog
  cl := tabA [(69, ent1 (tyC Term.cel) (tyI .i64) (z15 n)), (70, ent1 (tyC Term.cel) (tyI .i64) (z0y n)), (106, ent6 (tyC Term.cel) (tyI .i64) (tyI .i64) (tyI .i64) (tyI .i64) (tyI .i64) (tyI .i64) (z0z n))]
  cd := tabD []
  nrm := tabN []
  cut := tabF []
  n := n
  out := outR Try.prog [.tmp 10] (tyI .i64)
theorem z0x_f (n : Nat) : (z0x_m n).P = Try.prog ∧ (z0x_m n).cl = tabA [(69, ent1 (tyC Term.cel) (tyI .i64) (z15 n)), (70, ent1 (tyC Term.cel) (tyI .i64) (z0y n)), (106, ent6 (tyC Term.cel) (tyI .i64) (tyI .i64) (tyI .i64) (tyI .i64) (tyI .i64) (tyI .i64) (z0z n))] ∧ (z0x_m n).cd = tabD [] ∧ (z0x_m n).nrm = tabN [] ∧ (z0x_m n).cut = tabF [] ∧ (z0x_m n).n = n ∧ (z0x_m n).out = outR Try.prog [.tmp 10] (tyI .i64) := ⟨rfl, rfl, rfl, rfl, rfl, rfl, rfl⟩
theorem z0x_c (n : Nat) : (z0x_m n).body = (Try.f71.body).getD .skip := rfl
noncomputable def z0x_e (n : Nat) : { B : Term → Int → Int → Int → Int → Option Int // ∀ (a0 : Term) (a1 : Int) (a2 : Int) (a3 : Int) (a4 : Int), run (z0x_m n) [.at []] { slots := [(tyC Term.cel).enc a0, (tyI .i64).enc a1, (tyI .i64).enc a2, (tyI .i64).enc a3, (tyI .i64).enc a4] ++ List.replicate (28 - [(tyC Term.cel).enc a0, (tyI .i64).enc a1, (tyI .i64).enc a2, (tyI .i64).enc a3, (tyI .i64).enc a4].length) .any, heap := [] } = B a0 a1 a2 a3 a4 } := by
  apply Subtype.mk
  intro a0 a1 a2 a3 a4
  simp (maxSteps := 100000000) only [go_sem, q00, q01, q02, q03, q04, q05, q06, q10, q11, q12, q13, q14, z0x_f, z0x_c, Try.f71, Option.getD_some, mixed]
  exact rfl
noncomputable def z0x : Nat → Term → Int → Int → Int → Int → Option Int
  | 0, _, _, _, _, _ => none
  | n + 1, a0, a1, a2, a3, a4 => (z0x_e n).1 a0 a1 a2 a3 a4
theorem z0x_ok : ∀ (n : Nat) (a0 : Term) (a1 : Int) (a2 : Int) (a3 : Int) (a4 : Int) (r : Int), z0x n a0 a1 a2 a3 a4 = some r → FnC Try.prog 71 [(tyC Term.cel).enc a0, (tyI .i64).enc a1, (tyI .i64).enc a2, (tyI .i64).enc a3, (tyI .i64).enc a4] (fun v => v = (tyI .i64).enc r)
  | 0, _, _, _, _, _, _, h => by cases h
  | n + 1, a0, a1, a2, a3, a4, r, h => by
    exact fnC_run (M := z0x_m n) ⟨(tabA_cons_ok (ent1_ok (z15_ok n)) (tabA_cons_ok (ent1_ok (z0y_ok n)) (tabA_cons_ok (ent6_ok (z0z_ok n)) tabA_nil_ok))), tabD_nil_ok, tabN_ok _, tabF_ok _, noY_ok, noE_ok⟩ Try.func71 rfl rfl ⟨(tyC Term.cel).nb 0 _, (tyI .i64).nb 0 _, (tyI .i64).nb 0 _, (tyI .i64).nb 0 _, (tyI .i64).nb 0 _, trivial⟩ Try.ntmps71 Try.results71 (fun σ hs => outR_ok (P := Try.prog) (rs := [.tmp 10]) (t := (tyI .i64)) (σ := σ) (r := r) hs) (((z0x_e n).2 a0 a1 a2 a3 a4).trans h)

noncomputable def z1h_m (X_term_Same : Term → Term → Option Bool) (X_slices_EqualFunc_Term_term_Same : (List Term) → (List Term) → Unit → Option Bool) (n : Nat) : Mach Bool where
  body := (Try.f26.body).getD .skip
  P := Try.prog
  cl := tabA [(63, ent3 (tyL Level.row) (tyL Level.row) (tyF 64) tyB (z00 n)), (65, ent3 (tyL Term.row) (tyL Term.row) (tyF 26) tyB X_slices_EqualFunc_Term_term_Same)]
  cd := tabD []
  nrm := tabN []
  cut := tabF []
  n := n
  out := outR Try.prog [.tmp 4] tyB
theorem z1h_f (X_term_Same : Term → Term → Option Bool) (X_slices_EqualFunc_Term_term_Same : (List Term) → (List Term) → Unit → Option Bool) (n : Nat) : (z1h_m X_term_Same X_slices_EqualFunc_Term_term_Same n).P = Try.prog ∧ (z1h_m X_term_Same X_slices_EqualFunc_Term_term_Same n).cl = tabA [(63, ent3 (tyL Level.row) (tyL Level.row) (tyF 64) tyB (z00 n)), (65, ent3 (tyL Term.row) (tyL Term.row) (tyF 26) tyB X_slices_EqualFunc_Term_term_Same)] ∧ (z1h_m X_term_Same X_slices_EqualFunc_Term_term_Same n).cd = tabD [] ∧ (z1h_m X_term_Same X_slices_EqualFunc_Term_term_Same n).nrm = tabN [] ∧ (z1h_m X_term_Same X_slices_EqualFunc_Term_term_Same n).cut = tabF [] ∧ (z1h_m X_term_Same X_slices_EqualFunc_Term_term_Same n).n = n ∧ (z1h_m X_term_Same X_slices_EqualFunc_Term_term_Same n).out = outR Try.prog [.tmp 4] tyB := ⟨rfl, rfl, rfl, rfl, rfl, rfl, rfl⟩
theorem z1h_c (X_term_Same : Term → Term → Option Bool) (X_slices_EqualFunc_Term_term_Same : (List Term) → (List Term) → Unit → Option Bool) (n : Nat) : (z1h_m X_term_Same X_slices_EqualFunc_Term_term_Same n).body = (Try.f26.body).getD .skip := rfl
noncomputable def z1h_e (X_term_Same : Term → Term → Option Bool) (X_slices_EqualFunc_Term_term_Same : (List Term) → (List Term) → Unit → Option Bool) (n : Nat) : { B : Term → Term → Option Bool // ∀ (a0 : Term) (a1 : Term), run (z1h_m X_term_Same X_slices_EqualFunc_Term_term_Same n) [.at []] { slots := [(tyC Term.cel).enc a0, (tyC Term.cel).enc a1] ++ List.replicate (38 - [(tyC Term.cel).enc a0, (tyC Term.cel).enc a1].length) .any, heap := [] } = B a0 a1 } := by
  apply Subtype.mk
  intro a0 a1
  simp (maxSteps := 100000000) only [go_sem, q00, q01, q02, q03, q04, q05, q06, q10, q11, q12, q13, q14, z1h_f, z1h_c, Try.f26, Option.getD_some, mixed]
  exact rfl
noncomputable def z01_n1 : Nrm := ⟨[], [], [zA, zT (tyL Term.row), zT (tyF 26), zA, zA, zA, zA, zA, zA, zA, zA, zA, zA, zA, zA, zT (tyL Term.row), zK, zK, zA, zA, zA, zA, zA, zA, zA, zA, zA, zA, zA, zA, zA, zA], [], none⟩
noncomputable def z01_m (X_term_Same : Term → Term → Option Bool) (X_slices_EqualFunc_Term_term_Same : (List Term) → (List Term) → Unit → Option Bool) (n : Nat) : Mach Bool where
  body := (Try.f65.body).getD .skip
  P := Try.prog
  cl := tabA [(26, ent2 (tyC Term.cel) (tyC Term.cel) tyB X_term_Same)]
  cd := tabD []
  nrm := tabN [([0, 1, 0, 1, 1], z01_n1)]
  cut := tabF []
  n := n
  out := outR Try.prog [.tmp 6] tyB
theorem z01_f (X_term_Same : Term → Term → Option Bool) (X_slices_EqualFunc_Term_term_Same : (List Term) → (List Term) → Unit → Option Bool) (n : Nat) : (z01_m X_term_Same X_slices_EqualFunc_Term_term_Same n).P = Try.prog ∧ (z01_m X_term_Same X_slices_EqualFunc_Term_term_Same n).cl = tabA [(26, ent2 (tyC Term.cel) (tyC Term.cel) tyB X_term_Same)] ∧ (z01_m X_term_Same X_slices_EqualFunc_Term_term_Same n).cd = tabD [] ∧ (z01_m X_term_Same X_slices_EqualFunc_Term_term_Same n).nrm = tabN [([0, 1, 0, 1, 1], z01_n1)] ∧ (z01_m X_term_Same X_slices_EqualFunc_Term_term_Same n).cut = tabF [] ∧ (z01_m X_term_Same X_slices_EqualFunc_Term_term_Same n).n = n ∧ (z01_m X_term_Same X_slices_EqualFunc_Term_term_Same n).out = outR Try.prog [.tmp 6] tyB := ⟨rfl, rfl, rfl, rfl, rfl, rfl, rfl⟩
theorem z01_c (X_term_Same : Term → Term → Option Bool) (X_slices_EqualFunc_Term_term_Same : (List Term) → (List Term) → Unit → Option Bool) (n : Nat) : (z01_m X_term_Same X_slices_EqualFunc_Term_term_Same n).body = (Try.f65.body).getD .skip := rfl
noncomputable def z01_b1 (X_term_Same : Term → Term → Option Bool) (X_slices_EqualFunc_Term_term_Same : (List Term) → (List Term) → Unit → Option Bool) (n : Nat) : { B : ((List Term) → (List Term) → Int → Int → Option Bool) → (List Term) → (List Term) → Int → Int → Option Bool // ∀ m X0, (∀ (v0 : List Term) (v1 : List Term) (v2 : Int) (v3 : Int), run (z01_m X_term_Same X_slices_EqualFunc_Term_term_Same n) [.lq m [0, 1, 0, 1, 1], .blk 0, .cut [1, 1, 1], .at [1, 1, 1]] ⟨[.any, .lst false 5 (mp Term.cells v0), .func (.func 26) [] [], .any, .any, .any, .any, .any, .any, .any, .any, .any, .any, .any, .any, .lst false 5 (mp Term.cells v1), .int .i64 v2, .int .i64 v3, .any, .any, .any, .any, .any, .any, .any, .any, .any, .any, .any, .any, .any, .any], [], 0⟩ = X0 v0 v1 v2 v3) → ∀ (v0 : List Term) (v1 : List Term) (v2 : Int) (v3 : Int), run (z01_m X_term_Same X_slices_EqualFunc_Term_term_Same n) [.at [0, 0, 1, 0, 1, 1], .lp m [0, 1, 0, 1, 1], .blk 0, .cut [1, 1, 1], .at [1, 1, 1]] ⟨[.any, .lst false 5 (mp Term.cells v0), .func (.func 26) [] [], .any, .any, .any, .any, .any, .any, .any, .any, .any, .any, .any, .any, .lst false 5 (mp Term.cells v1), .int .i64 v2, .int .i64 v3, .any, .any, .any, .any, .any, .any, .any, .any, .any, .any, .any, .any, .any, .any], [], 0⟩ = B X0 v0 v1 v2 v3 } := by
  apply Subtype.mk
  intro m X0 ih v0 v1 v2 v3
  simp (maxSteps := 100000000) only [go_sem, q00, q01, q02, q03, q04, q05, q06, q10, q11, q12, q13, q14, z01_f, z01_c, Try.f65, Option.getD_some, mixed, z01_n1, ih]
  exact rfl
noncomputable def z01_l1 (X_term_Same : Term → Term → Option Bool) (X_slices_EqualFunc_Term_term_Same : (List Term) → (List Term) → Unit → Option Bool) (n : Nat) : Nat → (List Term) → (List Term) → Int → Int → Option Bool
  | 0, _, _, _, _ => none
  | m + 1, v0, v1, v2, v3 => (z01_b1 X_term_Same X_slices_EqualFunc_Term_term_Same n).1 (z01_l1 X_term_Same X_slices_EqualFunc_Term_term_Same n m) v0 v1 v2 v3
theorem z01_l1_eq (X_term_Same : Term → Term → Option Bool) (X_slices_EqualFunc_Term_term_Same : (List Term) → (List Term) → Unit → Option Bool) (n : Nat) : ∀ (m : Nat), (∀ (v0 : List Term) (v1 : List Term) (v2 : Int) (v3 : Int), run (z01_m X_term_Same X_slices_EqualFunc_Term_term_Same n) [.lq m [0, 1, 0, 1, 1], .blk 0, .cut [1, 1, 1], .at [1, 1, 1]] ⟨[.any, .lst false 5 (mp Term.cells v0), .func (.func 26) [] [], .any, .any, .any, .any, .any, .any, .any, .any, .any, .any, .any, .any, .lst false 5 (mp Term.cells v1), .int .i64 v2, .int .i64 v3, .any, .any, .any, .any, .any, .any, .any, .any, .any, .any, .any, .any, .any, .any], [], 0⟩ = z01_l1 X_term_Same X_slices_EqualFunc_Term_term_Same n m v0 v1 v2 v3)
  | 0 => by intros; exact run_lq_zero
  | m + 1 => by
    have ih := z01_l1_eq X_term_Same X_slices_EqualFunc_Term_term_Same n m
    intro v0 v1 v2 v3
    rw [run_lq_succ]
    exact (z01_b1 X_term_Same X_slices_EqualFunc_Term_term_Same n).2  m _  ih v0 v1 v2 v3
noncomputable def z01_e (X_term_Same : Term → Term → Option Bool) (X_slices_EqualFunc_Term_term_Same : (List Term) → (List Term) → Unit → Option Bool) (n : Nat) : { B : (List Term) → (List Term) → Unit → Option Bool // ∀ (a0 : (List Term)) (a1 : (List Term)) (a2 : Unit), run (z01_m X_term_Same X_slices_EqualFunc_Term_term_Same n) [.at []] { slots := [(tyL Term.row).enc a0, (tyL Term.row).enc a1, (tyF 26).enc a2] ++ List.replicate (32 - [(tyL Term.row).enc a0, (tyL Term.row).enc a1, (tyF 26).enc a2].length) .any, heap := [] } = B a0 a1 a2 } := by
  apply Subtype.mk
  intro a0 a1 a2
  simp (maxSteps := 100000000) only [go_sem, q00, q01, q02, q03, q04, q05, q06, q10, q11, q12, q13, q14, z01_f, z01_c, Try.f65, Option.getD_some, mixed, z01_n1, z01_l1_eq X_term_Same X_slices_EqualFunc_Term_term_Same n]
  exact rfl
mutual
noncomputable def z1h : Nat → Term → Term → Option Bool
  | 0, _, _ => none
  | n + 1, a0, a1 => (z1h_e (z1h n) (z01 n) n).1 a0 a1
noncomputable def z01 : Nat → (List Term) → (List Term) → Unit → Option Bool
  | 0, _, _, _ => none
  | n + 1, a0, a1, a2 => (z01_e (z1h n) (z01 n) n).1 a0 a1 a2
end
mutual
theorem z1h_ok : ∀ (n : Nat) (a0 : Term) (a1 : Term) (r : Bool), z1h n a0 a1 = some r → FnC Try.prog 26 [(tyC Term.cel).enc a0, (tyC Term.cel).enc a1] (fun v => v = tyB.enc r)
  | 0, _, _, _, h => by simp only [z1h] at h; cases h
  | n + 1, a0, a1, r, h => by
    simp only [z1h] at h
    have ih_term_Same := z1h_ok n
    have ih_slices_EqualFunc_Term_term_Same := z01_ok n
    exact fnC_run (M := z1h_m (z1h n) (z01 n) n) ⟨(tabA_cons_ok (ent3_ok (z00_ok n)) (tabA_cons_ok (ent3_ok (ih_slices_EqualFunc_Term_term_Same)) tabA_nil_ok)), tabD_nil_ok, tabN_ok _, tabF_ok _, noY_ok, noE_ok⟩ Try.func26 rfl rfl ⟨(tyC Term.cel).nb 0 _, (tyC Term.cel).nb 0 _, trivial⟩ Try.ntmps26 Try.results26 (fun σ hs => outR_ok (P := Try.prog) (rs := [.tmp 4]) (t := tyB) (σ := σ) (r := r) hs) (((z1h_e (z1h n) (z01 n) n).2 a0 a1).trans h)
theorem z01_ok : ∀ (n : Nat) (a0 : (List Term)) (a1 : (List Term)) (a2 : Unit) (r : Bool), z01 n a0 a1 a2 = some r → FnC Try.prog 65 [(tyL Term.row).enc a0, (tyL Term.row).enc a1, (tyF 26).enc a2] (fun v => v = tyB.enc r)
  | 0, _, _, _, _, h => by simp only [z01] at h; cases h
  | n + 1, a0, a1, a2, r, h => by
    simp only [z01] at h
    have ih_term_Same := z1h_ok n
    have ih_slices_EqualFunc_Term_term_Same := z01_ok n
    exact fnC_run (M := z01_m (z1h n) (z01 n) n) ⟨(tabA_cons_ok (ent2_ok (ih_term_Same)) tabA_nil_ok), tabD_nil_ok, tabN_ok _, tabF_ok _, noY_ok, noE_ok⟩ Try.func65 rfl rfl ⟨(tyL Term.row).nb 0 _, (tyL Term.row).nb 0 _, (tyF 26).nb 0 _, trivial⟩ Try.ntmps65 Try.results65 (fun σ hs => outR_ok (P := Try.prog) (rs := [.tmp 6]) (t := tyB) (σ := σ) (r := r) hs) (((z01_e (z1h n) (z01 n) n).2 a0 a1 a2).trans h)
end

noncomputable def z0d_n1 : Nrm := ⟨[], [], [zT (tyL Term.row), zT (tyL Term.row), zA, zA, zA, zK, zA, zA, zA, zA, zA, zA, zA, zA, zA, zA, zA, zA, zA, zA, zA, zA, zA, zA, zA, zA, zA], [], none⟩
noncomputable def z0d_m (n : Nat) : Mach Bool where
  body := (Try.f34.body).getD .skip
  P := Try.prog
  cl := tabA []
  cd := tabD [(23, entD (ent2 (tyC Term.cel) (tyC Term.cel) tyB (z14 n)))]
  nrm := tabN [([0, 1, 0, 1, 1], z0d_n1)]
  cut := tabF []
  n := n
  out := outR Try.prog [.tmp 4] tyB
  isE := tabI []
theorem z0d_f (n : Nat) : (z0d_m n).P = Try.prog ∧ (z0d_m n).cl = tabA [] ∧ (z0d_m n).cd = tabD [(23, entD (ent2 (tyC Term.cel) (tyC Term.cel) tyB (z14 n)))] ∧ (z0d_m n).nrm = tabN [([0, 1, 0, 1, 1], z0d_n1)] ∧ (z0d_m n).cut = tabF [] ∧ (z0d_m n).n = n ∧ (z0d_m n).out = outR Try.prog [.tmp 4] tyB ∧ (z0d_m n).isE = tabI [] := ⟨rfl, rfl, rfl, rfl, rfl, rfl, rfl, rfl⟩
theorem z0d_c (n : Nat) : (z0d_m n).body = (Try.f34.body).getD .skip := rfl
theorem z0d_d (n : Nat) : drawP (z0d_m n) [0, 0, 0, 1, 0, 0, 1, 0, 1, 1] = true := by kernel_rfl
noncomputable def z0d_b1 (n : Nat) : { B : ((List Term) → (List Term) → Int → Option Bool) → (List Term) → (List Term) → Int → Option Bool // ∀ m X0, (∀ (v0 : List Term) (v1 : List Term) (v2 : Int), run (z0d_m n) [.lq m [0, 1, 0, 1, 1], .blk 0, .cut [1, 1, 1], .at [1, 1, 1]] ⟨[.lst false 5 (mp Term.cells v0), .lst false 5 (mp Term.cells v1), .any, .any, .any, .int .i64 v2, .any, .any, .any, .any, .any, .any, .any, .any, .any, .any, .any, .any, .any, .any, .any, .any, .any, .any, .any, .any, .any], [], 0⟩ = X0 v0 v1 v2) → ∀ (v0 : List Term) (v1 : List Term) (v2 : Int), run (z0d_m n) [.at [0, 0, 1, 0, 1, 1], .lp m [0, 1, 0, 1, 1], .blk 0, .cut [1, 1, 1], .at [1, 1, 1]] ⟨[.lst false 5 (mp Term.cells v0), .lst false 5 (mp Term.cells v1), .any, .any, .any, .int .i64 v2, .any, .any, .any, .any, .any, .any, .any, .any, .any, .any, .any, .any, .any, .any, .any, .any, .any, .any, .any, .any, .any], [], 0⟩ = B X0 v0 v1 v2 } := by
  apply Subtype.mk
  intro m X0 ih v0 v1 v2
  simp (maxSteps := 100000000) only [go_sem, q00, q01, q02, q03, q04, q05, q06, q10, q11, q12, q13, q14, z0d_f, z0d_c, Try.f34, Option.getD_some, mixed, z0d_d, z0d_n1, ih]
  exact rfl
noncomputable def z0d_l1 (n : Nat) : Nat → (List Term) → (List Term) → Int → Option Bool
  | 0, _, _, _ => none
  | m + 1, v0, v1, v2 => (z0d_b1 n).1 (z0d_l1 n m) v0 v1 v2
theorem z0d_l1_eq (n : Nat) : ∀ (m : Nat), (∀ (v0 : List Term) (v1 : List Term) (v2 : Int), run (z0d_m n) [.lq m [0, 1, 0, 1, 1], .blk 0, .cut [1, 1, 1], .at [1, 1, 1]] ⟨[.lst false 5 (mp Term.cells v0), .lst false 5 (mp Term.cells v1), .any, .any, .any, .int .i64 v2, .any, .any, .any, .any, .any, .any, .any, .any, .any, .any, .any, .any, .any, .any, .any, .any, .any, .any, .any, .any, .any], [], 0⟩ = z0d_l1 n m v0 v1 v2)
  | 0 => by intros; exact run_lq_zero
  | m + 1 => by
    have ih := z0d_l1_eq n m
    intro v0 v1 v2
    rw [run_lq_succ]
    exact (z0d_b1 n).2  m _  ih v0 v1 v2
noncomputable def z0d_e (n : Nat) : { B : (List Term) → (List Term) → Option Bool // ∀ (a0 : (List Term)) (a1 : (List Term)), run (z0d_m n) [.at []] { slots := [(tyL Term.row).enc a0, (tyL Term.row).enc a1] ++ List.replicate (27 - [(tyL Term.row).enc a0, (tyL Term.row).enc a1].length) .any, heap := [] } = B a0 a1 } := by
  apply Subtype.mk
  intro a0 a1
  simp (maxSteps := 100000000) only [go_sem, q00, q01, q02, q03, q04, q05, q06, q10, q11, q12, q13, q14, z0d_f, z0d_c, Try.f34, Option.getD_some, mixed, z0d_d, z0d_n1, z0d_l1_eq n]
  exact rfl
noncomputable def z0d : Nat → (List Term) → (List Term) → Option Bool
  | 0, _, _ => none
  | n + 1, a0, a1 => (z0d_e n).1 a0 a1
theorem z0d_ok : ∀ (n : Nat) (a0 : (List Term)) (a1 : (List Term)) (r : Bool), z0d n a0 a1 = some r → FnC Try.prog 34 [(tyL Term.row).enc a0, (tyL Term.row).enc a1] (fun v => v = tyB.enc r)
  | 0, _, _, _, h => by cases h
  | n + 1, a0, a1, r, h => by
    exact fnC_run (M := z0d_m n) ⟨tabA_nil_ok, (tabD_cons_ok (ent2_okD (z14_ok n)) tabD_nil_ok), tabN_ok _, tabF_ok _, noY_ok, noE_ok⟩ Try.func34 rfl rfl ⟨(tyL Term.row).nb 0 _, (tyL Term.row).nb 0 _, trivial⟩ Try.ntmps34 Try.results34 (fun σ hs => outR_ok (P := Try.prog) (rs := [.tmp 4]) (t := tyB) (σ := σ) (r := r) hs) (((z0d_e n).2 a0 a1).trans h)
end Go.Abs
namespace Go.Abs
open Go.Proofs
set_option maxRecDepth 100000
set_option maxHeartbeats 4000000
set_option linter.unusedSimpArgs false
set_option linter.unusedVariables false
noncomputable def z0n_n1 : Nrm := ⟨[], [], [zA, zK, zA, zK, zA, zA, zA, zA, zA, zA, zA, zA, zA, zA, zA, zA, zA, zA, zA, zA, zA, zA, zA, zA, zA, zA, zA, zA, zA, zA, zA, zA, zA, zA, zA, zA, zA, zA, zA, zA, zA, zA, zA], [oT Decl.cel], none⟩
noncomputable def z0n_m (n : Nat) : Mach Bool where
  body := (Try.f53.body).getD .skip
  P := Try.prog
  cl := tabA [(71, ent5 (tyC Term.cel) (tyI .i64) (tyI .i64) (tyI .i64) (tyI .i64) (tyI .i64) (z0x n))]
  cd := tabD [(71, entD (ent5 (tyC Term.cel) (tyI .i64) (tyI .i64) (tyI .i64) (tyI .i64) (tyI .i64) (z0x n)))]
  nrm := tabN [([0, 1, 0, 1, 1], z0n_n1)]
  cut := tabF []
  n := n
  out := outR Try.prog [.tmp 2] tyB
  isE := tabI []
theorem z0n_f (n : Nat) : (z0n_m n).P = Try.prog ∧ (z0n_m n).cl = tabA [(71, ent5 (tyC Term.cel) (tyI .i64) (tyI .i64) (tyI .i64) (tyI .i64) (tyI .i64) (z0x n))] ∧ (z0n_m n).cd = tabD [(71, entD (ent5 (tyC Term.cel) (tyI .i64) (tyI .i64) (tyI .i64) (tyI .i64) (tyI .i64) (z0x n)))] ∧ (z0n_m n).nrm = tabN [([0, 1, 0, 1, 1], z0n_n1)] ∧ (z0n_m n).cut = tabF [] ∧ (z0n_m n).n = n ∧ (z0n_m n).out = outR Try.prog [.tmp 2] tyB ∧ (z0n_m n).isE = tabI [] := ⟨rfl, rfl, rfl, rfl, rfl, rfl, rfl, rfl⟩
theorem z0n_c (n : Nat) : (z0n_m n).body = (Try.f53.body).getD .skip := rfl
theorem z0n_d (n : Nat) : drawP (z0n_m n) [0, 0, 0, 1, 0, 0, 1, 0, 1, 1] = true := by kernel_rfl
noncomputable def z0n_b1 (n : Nat) : { B : (Int → Decl → Option Bool) → Int → Decl → Option Bool // ∀ m X0, (∀ (v0 : Int) (o0 : Decl), run (z0n_m n) [.lq m [0, 1, 0, 1, 1], .blk 0, .cut [1, 1, 1], .at [1, 1, 1]] ⟨[.any, .ptr 0 0, .any, .int .i64 v0, .any, .any, .any, .any, .any, .any, .any, .any, .any, .any, .any, .any, .any, .any, .any, .any, .any, .any, .any, .any, .any, .any, .any, .any, .any, .any, .any, .any, .any, .any, .any, .any, .any, .any, .any, .any, .any, .any, .any], [.cells (Decl.cells o0)], 0⟩ = X0 v0 o0) → ∀ (v0 : Int) (o0 : Decl), run (z0n_m n) [.at [0, 0, 1, 0, 1, 1], .lp m [0, 1, 0, 1, 1], .blk 0, .cut [1, 1, 1], .at [1, 1, 1]] ⟨[.any, .ptr 0 0, .any, .int .i64 v0, .any, .any, .any, .any, .any, .any, .any, .any, .any, .any, .any, .any, .any, .any, .any, .any, .any, .any, .any, .any, .any, .any, .any, .any, .any, .any, .any, .any, .any, .any, .any, .any, .any, .any, .any, .any, .any, .any, .any], [.cells (Decl.cells o0)], 0⟩ = B X0 v0 o0 } := by
  apply Subtype.mk
  intro m X0 ih v0 o0
  simp (maxSteps := 100000000) only [go_sem, q00, q01, q02, q03, q04, q05, q06, q10, q11, q12, q13, q14, z0n_f, z0n_c, Try.f53, Option.getD_some, mixed, z0n_d, z0n_n1, ih]
  exact rfl
noncomputable def z0n_l1 (n : Nat) : Nat → Int → Decl → Option Bool
  | 0, _, _ => none
  | m + 1, v0, o0 => (z0n_b1 n).1 (z0n_l1 n m) v0 o0
theorem z0n_l1_eq (n : Nat) : ∀ (m : Nat), (∀ (v0 : Int) (o0 : Decl), run (z0n_m n) [.lq m [0, 1, 0, 1, 1], .blk 0, .cut [1, 1, 1], .at [1, 1, 1]] ⟨[.any, .ptr 0 0, .any, .int .i64 v0, .any, .any, .any, .any, .any, .any, .any, .any, .any, .any, .any, .any, .any, .any, .any, .any, .any, .any, .any, .any, .any, .any, .any, .any, .any, .any, .any, .any, .any, .any, .any, .any, .any, .any, .any, .any, .any, .any, .any], [.cells (Decl.cells o0)], 0⟩ = z0n_l1 n m v0 o0)
  | 0 => by intros; exact run_lq_zero
  | m + 1 => by
    have ih := z0n_l1_eq n m
    intro v0 o0
    rw [run_lq_succ]
    exact (z0n_b1 n).2  m _  ih v0 o0
noncomputable def z0n_e (n : Nat) : { B : Decl → Option Bool // ∀ (a0 : Decl), run (z0n_m n) [.at []] { slots := [(tyC Decl.cel).enc a0] ++ List.replicate (43 - [(tyC Decl.cel).enc a0].length) .any, heap := [] } = B a0 } := by
  apply Subtype.mk
  intro a0
  simp (maxSteps := 100000000) only [go_sem, q00, q01, q02, q03, q04, q05, q06, q10, q11, q12, q13, q14, z0n_f, z0n_c, Try.f53, Option.getD_some, mixed, z0n_d, z0n_n1, z0n_l1_eq n]
  exact rfl
noncomputable def z0n : Nat → Decl → Option Bool
  | 0, _ => none
  | n + 1, a0 => (z0n_e n).1 a0
theorem z0n_ok : ∀ (n : Nat) (a0 : Decl) (r : Bool), z0n n a0 = some r → FnC Try.prog 53 [(tyC Decl.cel).enc a0] (fun v => v = tyB.enc r)
  | 0, _, _, h => by cases h
  | n + 1, a0, r, h => by
    exact fnC_run (M := z0n_m n) ⟨(tabA_cons_ok (ent5_ok (z0x_ok n)) tabA_nil_ok), (tabD_cons_ok (ent5_okD (z0x_ok n)) tabD_nil_ok), tabN_ok _, tabF_ok _, noY_ok, noE_ok⟩ Try.func53 rfl rfl ⟨(tyC Decl.cel).nb 0 _, trivial⟩ Try.ntmps53 Try.results53 (fun σ hs => outR_ok (P := Try.prog) (rs := [.tmp 2]) (t := tyB) (σ := σ) (r := r) hs) (((z0n_e n).2 a0).trans h)

noncomputable def z02_m (n : Nat) : Mach Bool where
  body := (Try.f97.body).getD .skip
  P := Try.prog
  cl := tabA [(65, ent3 (tyL Term.row) (tyL Term.row) (tyF 26) tyB (z01 n))]
  cd := tabD []
  nrm := tabN []
  cut := tabF []
  n := n
  out := outR Try.prog [.tmp 6] tyB
theorem z02_f (n : Nat) : (z02_m n).P = Try.prog ∧ (z02_m n).cl = tabA [(65, ent3 (tyL Term.row) (tyL Term.row) (tyF 26) tyB (z01 n))] ∧ (z02_m n).cd = tabD [] ∧ (z02_m n).nrm = tabN [] ∧ (z02_m n).cut = tabF [] ∧ (z02_m n).n = n ∧ (z02_m n).out = outR Try.prog [.tmp 6] tyB := ⟨rfl, rfl, rfl, rfl, rfl, rfl, rfl⟩
theorem z02_c (n : Nat) : (z02_m n).body = (Try.f97.body).getD .skip := rfl
noncomputable def z02_e (n : Nat) : { B : (List Term) → (List Term) → Unit → Option Bool // ∀ (a0 : (List Term)) (a1 : (List Term)) (a2 : Unit), run (z02_m n) [.at []] { slots := [(tyL Term.row).enc a0, (tyL Term.row).enc a1, (tyF 26).enc a2] ++ List.replicate (18 - [(tyL Term.row).enc a0, (tyL Term.row).enc a1, (tyF 26).enc a2].length) .any, heap := [] } = B a0 a1 a2 } := by
  apply Subtype.mk
  intro a0 a1 a2
  simp (maxSteps := 100000000) only [go_sem, q00, q01, q02, q03, q04, q05, q06, q10, q11, q12, q13, q14, z02_f, z02_c, Try.f97, Option.getD_some, mixed]
  exact rfl
noncomputable def z02 : Nat → (List Term) → (List Term) → Unit → Option Bool
  | 0, _, _, _ => none
  | n + 1, a0, a1, a2 => (z02_e n).1 a0 a1 a2
theorem z02_ok : ∀ (n : Nat) (a0 : (List Term)) (a1 : (List Term)) (a2 : Unit) (r : Bool), z02 n a0 a1 a2 = some r → FnC Try.prog 97 [(tyL Term.row).enc a0, (tyL Term.row).enc a1, (tyF 26).enc a2] (fun v => v = tyB.enc r)
  | 0, _, _, _, _, h => by cases h
  | n + 1, a0, a1, a2, r, h => by
    exact fnC_run (M := z02_m n) ⟨(tabA_cons_ok (ent3_ok (z01_ok n)) tabA_nil_ok), tabD_nil_ok, tabN_ok _, tabF_ok _, noY_ok, noE_ok⟩ Try.func97 rfl rfl ⟨(tyL Term.row).nb 0 _, (tyL Term.row).nb 0 _, (tyF 26).nb 0 _, trivial⟩ Try.ntmps97 Try.results97 (fun σ hs => outR_ok (P := Try.prog) (rs := [.tmp 6]) (t := tyB) (σ := σ) (r := r) hs) (((z02_e n).2 a0 a1 a2).trans h)

noncomputable def z0o_m (n : Nat) : Mach ((List Term) × Bool) where
  body := (Try.f100.body).getD .skip
  P := Try.prog
  cl := tabA [(74, entG [] osN (asT (tyC Term.cel) asN) (osC (oaT true Term.row) osN) (rsT (tyC Term.cel) (rsA 0 (fun (b : ((List Term) × Unit)) => b.1.length) rsN)) (fun (b : Unit) a => (z0i n) a.1))]
  cd := tabD [(23, entD (ent2 (tyC Term.cel) (tyC Term.cel) tyB (z14 n))), (34, entD (ent2 (tyL Term.row) (tyL Term.row) tyB (z0d n))), (86, entD (ent2 (tyI .i64) (tyI .i64) (tyL Term.row) (z17 n)))]
  nrm := tabN []
  cut := tabF []
  n := n
  out := outR Try.prog [.tmp 10, .tmp 11] (ty2 (tyL Term.row) tyB)
  isE := tabI []
theorem z0o_f (n : Nat) : (z0o_m n).P = Try.prog ∧ (z0o_m n).cl = tabA [(74, entG [] osN (asT (tyC Term.cel) asN) (osC (oaT true Term.row) osN) (rsT (tyC Term.cel) (rsA 0 (fun (b : ((List Term) × Unit)) => b.1.length) rsN)) (fun (b : Unit) a => (z0i n) a.1))] ∧ (z0o_m n).cd = tabD [(23, entD (ent2 (tyC Term.cel) (tyC Term.cel) tyB (z14 n))), (34, entD (ent2 (tyL Term.row) (tyL Term.row) tyB (z0d n))), (86, entD (ent2 (tyI .i64) (tyI .i64) (tyL Term.row) (z17 n)))] ∧ (z0o_m n).nrm = tabN [] ∧ (z0o_m n).cut = tabF [] ∧ (z0o_m n).n = n ∧ (z0o_m n).out = outR Try.prog [.tmp 10, .tmp 11] (ty2 (tyL Term.row) tyB) ∧ (z0o_m n).isE = tabI [] := ⟨rfl, rfl, rfl, rfl, rfl, rfl, rfl, rfl⟩
theorem z0o_c (n : Nat) : (z0o_m n).body = (Try.f100.body).getD .skip := rfl
theorem z0o_d (n : Nat) : drawP (z0o_m n) [0, 0, 1, 1] = true := by kernel_rfl
noncomputable def z0o_e (n : Nat) : { B : Term → Term → Int → Int → Int → Option ((List Term) × Bool) // ∀ (a0 : Term) (a1 : Term) (a2 : Int) (a3 : Int) (a4 : Int), run (z0o_m n) [.at []] { slots := [(tyC Term.cel).enc a0, (tyC Term.cel).enc a1, (tyI .i64).enc a2, (tyI .i64).enc a3, (tyI .i64).enc a4] ++ List.replicate (44 - [(tyC Term.cel).enc a0, (tyC Term.cel).enc a1, (tyI .i64).enc a2, (tyI .i64).enc a3, (tyI .i64).enc a4].length) .any, heap := [] } = B a0 a1 a2 a3 a4 } := by
  apply Subtype.mk
  intro a0 a1 a2 a3 a4
  simp (maxSteps := 100000000) only [go_sem, q00, q01, q02, q03, q04, q05, q06, q10, q11, q12, q13, q14, z0o_f, z0o_c, Try.f100, Option.getD_some, mixed, z0o_d]
  exact rfl
noncomputable def z0o : Nat → Term → Term → Int → Int → Int → Option ((List Term) × Bool)
  | 0, _, _, _, _, _ => none
  | n + 1, a0, a1, a2, a3, a4 => (z0o_e n).1 a0 a1 a2 a3 a4
theorem z0o_ok : ∀ (n : Nat) (a0 : Term) (a1 : Term) (a2 : Int) (a3 : Int) (a4 : Int) (r : ((List Term) × Bool)), z0o n a0 a1 a2 a3 a4 = some r → FnC Try.prog 100 [(tyC Term.cel).enc a0, (tyC Term.cel).enc a1, (tyI .i64).enc a2, (tyI .i64).enc a3, (tyI .i64).enc a4] (fun v => v = (ty2 (tyL Term.row) tyB).enc r)
  | 0, _, _, _, _, _, _, h => by cases h
  | n + 1, a0, a1, a2, a3, a4, r, h => by
    exact fnC_run (M := z0o_m n) ⟨(tabA_cons_ok (entG_ok (fun b a r h => (z0i_ok n) a.1 r h)) tabA_nil_ok), (tabD_cons_ok (ent2_okD (z14_ok n)) (tabD_cons_ok (ent2_okD (z0d_ok n)) (tabD_cons_ok (ent2_okD (z17_ok n)) tabD_nil_ok))), tabN_ok _, tabF_ok _, noY_ok, noE_ok⟩ Try.func100 rfl rfl ⟨(tyC Term.cel).nb 0 _, (tyC Term.cel).nb 0 _, (tyI .i64).nb 0 _, (tyI .i64).nb 0 _, (tyI .i64).nb 0 _, trivial⟩ Try.ntmps100 Try.results100 (fun σ hs => outR_ok (P := Try.prog) (rs := [.tmp 10, .tmp 11]) (t := (ty2 (tyL Term.row) tyB)) (σ := σ) (r := r) hs) (((z0o_e n).2 a0 a1 a2 a3 a4).trans h)
end Go.Abs
