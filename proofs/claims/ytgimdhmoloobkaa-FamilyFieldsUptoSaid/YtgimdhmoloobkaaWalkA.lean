/- A part of the proof: what the functions compute. -/
import Derived.Test.YtgimdhmoloobkaaDataA
set_option linter.all false
namespace Go.Abs
open Go.Proofs
set_option maxRecDepth 100000
set_option maxHeartbeats 4000000
set_option linter.unusedSimpArgs false
set_option linter.unusedVariables false
noncomputable def ref03_Size_n1 : Nrm := ⟨[], [], [zA, zK, zA, zK, zK, zA, zA, zA, zA, zA, zA, zA, zA, zA, zA, zA, zA, zA, zA, zA, zA], [oT Term.cel], none⟩
noncomputable def ref03_Size_m (X : Term → Option Int) (n : Nat) : Mach Int where
  body := (Try.f69.body).getD .skip
  P := Try.prog
  cl := tabA [(69, ent1 (tyC Term.cel) (tyI .i64) X)]
  cd := tabD []
  nrm := tabN [([0, 1, 0, 1, 1], ref03_Size_n1)]
  cut := tabF []
  n := n
  out := outR Try.prog [.tmp 2] (tyI .i64)
theorem ref03_Size_f (X : Term → Option Int) (n : Nat) : (ref03_Size_m X n).P = Try.prog ∧ (ref03_Size_m X n).cl = tabA [(69, ent1 (tyC Term.cel) (tyI .i64) X)] ∧ (ref03_Size_m X n).cd = tabD [] ∧ (ref03_Size_m X n).nrm = tabN [([0, 1, 0, 1, 1], ref03_Size_n1)] ∧ (ref03_Size_m X n).cut = tabF [] ∧ (ref03_Size_m X n).n = n ∧ (ref03_Size_m X n).out = outR Try.prog [.tmp 2] (tyI .i64) := ⟨rfl, rfl, rfl, rfl, rfl, rfl, rfl⟩
theorem ref03_Size_c (X : Term → Option Int) (n : Nat) : (ref03_Size_m X n).body = (Try.f69.body).getD .skip := rfl
noncomputable def ref03_Size_b1 (X : Term → Option Int) (n : Nat) : { B : (Int → Int → Term → Option Int) → Int → Int → Term → Option Int // ∀ m X0, (∀ (v0 : Int) (v1 : Int) (o0 : Term), run (ref03_Size_m X n) [.lq m [0, 1, 0, 1, 1], .blk 0, .cut [1, 1, 1], .at [1, 1, 1]] ⟨[.any, .ptr 0 0, .any, .int .i64 v0, .int .i64 v1, .any, .any, .any, .any, .any, .any, .any, .any, .any, .any, .any, .any, .any, .any, .any, .any], [.cells (Term.cells o0)], 0⟩ = X0 v0 v1 o0) → ∀ (v0 : Int) (v1 : Int) (o0 : Term), run (ref03_Size_m X n) [.at [0, 0, 1, 0, 1, 1], .lp m [0, 1, 0, 1, 1], .blk 0, .cut [1, 1, 1], .at [1, 1, 1]] ⟨[.any, .ptr 0 0, .any, .int .i64 v0, .int .i64 v1, .any, .any, .any, .any, .any, .any, .any, .any, .any, .any, .any, .any, .any, .any, .any, .any], [.cells (Term.cells o0)], 0⟩ = B X0 v0 v1 o0 } := by
  apply Subtype.mk
  intro m X0 ih v0 v1 o0
  simp (config := { maxSteps := 100000000 }) only [go_sem, Nat.reduceAdd, Nat.reduceSub, Nat.reduceLeDiff, Nat.reduceEqDiff, Nat.reduceBEq, Nat.reduceMul, Nat.reduceLT, Int.reduceLE, Int.reduceLT, Int.reduceToNat, Int.reduceBEq, Int.reduceEq, ref03_Size_f, ref03_Size_c, Try.f69, Option.getD_some, mixed, ref03_Size_n1, ih]
  exact rfl
noncomputable def ref03_Size_l1 (X : Term → Option Int) (n : Nat) : Nat → Int → Int → Term → Option Int
  | 0, _, _, _ => none
  | m + 1, v0, v1, o0 => (ref03_Size_b1 X n).1 (ref03_Size_l1 X n m) v0 v1 o0
theorem ref03_Size_l1_eq (X : Term → Option Int) (n : Nat) : ∀ (m : Nat), (∀ (v0 : Int) (v1 : Int) (o0 : Term), run (ref03_Size_m X n) [.lq m [0, 1, 0, 1, 1], .blk 0, .cut [1, 1, 1], .at [1, 1, 1]] ⟨[.any, .ptr 0 0, .any, .int .i64 v0, .int .i64 v1, .any, .any, .any, .any, .any, .any, .any, .any, .any, .any, .any, .any, .any, .any, .any, .any], [.cells (Term.cells o0)], 0⟩ = ref03_Size_l1 X n m v0 v1 o0)
  | 0 => by intros; exact run_lq_zero
  | m + 1 => by
    have ih := ref03_Size_l1_eq X n m
    intro v0 v1 o0
    rw [run_lq_succ]
    exact (ref03_Size_b1 X n).2  m _  ih v0 v1 o0
noncomputable def ref03_Size_e (X : Term → Option Int) (n : Nat) : { B : Term → Option Int // ∀ (a0 : Term), run (ref03_Size_m X n) [.at []] { slots := [(tyC Term.cel).enc a0] ++ List.replicate (21 - [(tyC Term.cel).enc a0].length) .any, heap := [] } = B a0 } := by
  apply Subtype.mk
  intro a0
  simp (config := { maxSteps := 100000000 }) only [go_sem, Nat.reduceAdd, Nat.reduceSub, Nat.reduceLeDiff, Nat.reduceEqDiff, Nat.reduceBEq, Nat.reduceMul, Nat.reduceLT, Int.reduceLE, Int.reduceLT, Int.reduceToNat, Int.reduceBEq, Int.reduceEq, ref03_Size_f, ref03_Size_c, Try.f69, Option.getD_some, mixed, ref03_Size_n1, ref03_Size_l1_eq X n]
  exact rfl
noncomputable def ref03_Size : Nat → Term → Option Int
  | 0, _ => none
  | n + 1, a0 => (ref03_Size_e (ref03_Size n) n).1 a0
theorem ref03_Size_ok : ∀ (n : Nat) (a0 : Term) (r : Int), ref03_Size n a0 = some r → FnC Try.prog 69 [(tyC Term.cel).enc a0] (fun v => v = (tyI .i64).enc r)
  | 0, _, _, h => by cases h
  | n + 1, a0, r, h => by
    have ih_ref03_Size := ref03_Size_ok n
    exact fnC_run (M := ref03_Size_m (ref03_Size n) n) ⟨(tabA_cons_ok (ent1_ok (ih_ref03_Size)) tabA_nil_ok), tabD_nil_ok, tabN_ok _, tabF_ok _, noY_ok, noE_ok⟩ Try.func69 rfl rfl ⟨(tyC Term.cel).nb 0 _, trivial⟩ Try.ntmps69 Try.results69 (fun σ hs => outR_ok (P := Try.prog) (rs := [.tmp 2]) (t := (tyI .i64)) (σ := σ) (r := r) hs) (((ref03_Size_e (ref03_Size n) n).2 a0).trans h)

noncomputable def ref03_Depth_n1 : Nrm := ⟨[], [], [zA, zK, zA, zK, zK, zA, zA, zA, zA, zA, zA, zA, zA, zA, zA, zA, zA, zA, zA, zA, zA, zA], [oT Term.cel], none⟩
noncomputable def ref03_Depth_m (X : Term → Option Int) (n : Nat) : Mach Int where
  body := (Try.f70.body).getD .skip
  P := Try.prog
  cl := tabA [(70, ent1 (tyC Term.cel) (tyI .i64) X)]
  cd := tabD []
  nrm := tabN [([0, 1, 0, 1, 1], ref03_Depth_n1)]
  cut := tabF []
  n := n
  out := outR Try.prog [.tmp 2] (tyI .i64)
theorem ref03_Depth_f (X : Term → Option Int) (n : Nat) : (ref03_Depth_m X n).P = Try.prog ∧ (ref03_Depth_m X n).cl = tabA [(70, ent1 (tyC Term.cel) (tyI .i64) X)] ∧ (ref03_Depth_m X n).cd = tabD [] ∧ (ref03_Depth_m X n).nrm = tabN [([0, 1, 0, 1, 1], ref03_Depth_n1)] ∧ (ref03_Depth_m X n).cut = tabF [] ∧ (ref03_Depth_m X n).n = n ∧ (ref03_Depth_m X n).out = outR Try.prog [.tmp 2] (tyI .i64) := ⟨rfl, rfl, rfl, rfl, rfl, rfl, rfl⟩
theorem ref03_Depth_c (X : Term → Option Int) (n : Nat) : (ref03_Depth_m X n).body = (Try.f70.body).getD .skip := rfl
noncomputable def ref03_Depth_b1 (X : Term → Option Int) (n : Nat) : { B : (Int → Int → Term → Option Int) → Int → Int → Term → Option Int // ∀ m X0, (∀ (v0 : Int) (v1 : Int) (o0 : Term), run (ref03_Depth_m X n) [.lq m [0, 1, 0, 1, 1], .blk 0, .cut [1, 1, 1], .at [1, 1, 1]] ⟨[.any, .ptr 0 0, .any, .int .i64 v0, .int .i64 v1, .any, .any, .any, .any, .any, .any, .any, .any, .any, .any, .any, .any, .any, .any, .any, .any, .any], [.cells (Term.cells o0)], 0⟩ = X0 v0 v1 o0) → ∀ (v0 : Int) (v1 : Int) (o0 : Term), run (ref03_Depth_m X n) [.at [0, 0, 1, 0, 1, 1], .lp m [0, 1, 0, 1, 1], .blk 0, .cut [1, 1, 1], .at [1, 1, 1]] ⟨[.any, .ptr 0 0, .any, .int .i64 v0, .int .i64 v1, .any, .any, .any, .any, .any, .any, .any, .any, .any, .any, .any, .any, .any, .any, .any, .any, .any], [.cells (Term.cells o0)], 0⟩ = B X0 v0 v1 o0 } := by
  apply Subtype.mk
  intro m X0 ih v0 v1 o0
  simp (config := { maxSteps := 100000000 }) only [go_sem, Nat.reduceAdd, Nat.reduceSub, Nat.reduceLeDiff, Nat.reduceEqDiff, Nat.reduceBEq, Nat.reduceMul, Nat.reduceLT, Int.reduceLE, Int.reduceLT, Int.reduceToNat, Int.reduceBEq, Int.reduceEq, ref03_Depth_f, ref03_Depth_c, Try.f70, Option.getD_some, mixed, ref03_Depth_n1, ih]
  exact rfl
noncomputable def ref03_Depth_l1 (X : Term → Option Int) (n : Nat) : Nat → Int → Int → Term → Option Int
  | 0, _, _, _ => none
  | m + 1, v0, v1, o0 => (ref03_Depth_b1 X n).1 (ref03_Depth_l1 X n m) v0 v1 o0
theorem ref03_Depth_l1_eq (X : Term → Option Int) (n : Nat) : ∀ (m : Nat), (∀ (v0 : Int) (v1 : Int) (o0 : Term), run (ref03_Depth_m X n) [.lq m [0, 1, 0, 1, 1], .blk 0, .cut [1, 1, 1], .at [1, 1, 1]] ⟨[.any, .ptr 0 0, .any, .int .i64 v0, .int .i64 v1, .any, .any, .any, .any, .any, .any, .any, .any, .any, .any, .any, .any, .any, .any, .any, .any, .any], [.cells (Term.cells o0)], 0⟩ = ref03_Depth_l1 X n m v0 v1 o0)
  | 0 => by intros; exact run_lq_zero
  | m + 1 => by
    have ih := ref03_Depth_l1_eq X n m
    intro v0 v1 o0
    rw [run_lq_succ]
    exact (ref03_Depth_b1 X n).2  m _  ih v0 v1 o0
noncomputable def ref03_Depth_e (X : Term → Option Int) (n : Nat) : { B : Term → Option Int // ∀ (a0 : Term), run (ref03_Depth_m X n) [.at []] { slots := [(tyC Term.cel).enc a0] ++ List.replicate (22 - [(tyC Term.cel).enc a0].length) .any, heap := [] } = B a0 } := by
  apply Subtype.mk
  intro a0
  simp (config := { maxSteps := 100000000 }) only [go_sem, Nat.reduceAdd, Nat.reduceSub, Nat.reduceLeDiff, Nat.reduceEqDiff, Nat.reduceBEq, Nat.reduceMul, Nat.reduceLT, Int.reduceLE, Int.reduceLT, Int.reduceToNat, Int.reduceBEq, Int.reduceEq, ref03_Depth_f, ref03_Depth_c, Try.f70, Option.getD_some, mixed, ref03_Depth_n1, ref03_Depth_l1_eq X n]
  exact rfl
noncomputable def ref03_Depth : Nat → Term → Option Int
  | 0, _ => none
  | n + 1, a0 => (ref03_Depth_e (ref03_Depth n) n).1 a0
theorem ref03_Depth_ok : ∀ (n : Nat) (a0 : Term) (r : Int), ref03_Depth n a0 = some r → FnC Try.prog 70 [(tyC Term.cel).enc a0] (fun v => v = (tyI .i64).enc r)
  | 0, _, _, h => by cases h
  | n + 1, a0, r, h => by
    have ih_ref03_Depth := ref03_Depth_ok n
    exact fnC_run (M := ref03_Depth_m (ref03_Depth n) n) ⟨(tabA_cons_ok (ent1_ok (ih_ref03_Depth)) tabA_nil_ok), tabD_nil_ok, tabN_ok _, tabF_ok _, noY_ok, noE_ok⟩ Try.func70 rfl rfl ⟨(tyC Term.cel).nb 0 _, trivial⟩ Try.ntmps70 Try.results70 (fun σ hs => outR_ok (P := Try.prog) (rs := [.tmp 2]) (t := (tyI .i64)) (σ := σ) (r := r) hs) (((ref03_Depth_e (ref03_Depth n) n).2 a0).trans h)

noncomputable def ref03_Kids_m (n : Nat) : Mach Int where
  body := (Try.f133.body).getD .skip
  P := Try.prog
  cl := tabA []
  cd := tabD []
  nrm := tabN []
  cut := tabF []
  n := n
  out := outR Try.prog [.tmp 2] (tyI .i64)
theorem ref03_Kids_f (n : Nat) : (ref03_Kids_m n).P = Try.prog ∧ (ref03_Kids_m n).cl = tabA [] ∧ (ref03_Kids_m n).cd = tabD [] ∧ (ref03_Kids_m n).nrm = tabN [] ∧ (ref03_Kids_m n).cut = tabF [] ∧ (ref03_Kids_m n).n = n ∧ (ref03_Kids_m n).out = outR Try.prog [.tmp 2] (tyI .i64) := ⟨rfl, rfl, rfl, rfl, rfl, rfl, rfl⟩
theorem ref03_Kids_c (n : Nat) : (ref03_Kids_m n).body = (Try.f133.body).getD .skip := rfl
noncomputable def ref03_Kids_e (n : Nat) : { B : Int → Option Int // ∀ (a0 : Int), run (ref03_Kids_m n) [.at []] { slots := [(tyI .i64).enc a0] ++ List.replicate (15 - [(tyI .i64).enc a0].length) .any, heap := [] } = B a0 } := by
  apply Subtype.mk
  intro a0
  simp (config := { maxSteps := 100000000 }) only [go_sem, Nat.reduceAdd, Nat.reduceSub, Nat.reduceLeDiff, Nat.reduceEqDiff, Nat.reduceBEq, Nat.reduceMul, Nat.reduceLT, Int.reduceLE, Int.reduceLT, Int.reduceToNat, Int.reduceBEq, Int.reduceEq, ref03_Kids_f, ref03_Kids_c, Try.f133, Option.getD_some, mixed]
  exact rfl
noncomputable def ref03_Kids : Nat → Int → Option Int
  | 0, _ => none
  | n + 1, a0 => (ref03_Kids_e n).1 a0
theorem ref03_Kids_ok : ∀ (n : Nat) (a0 : Int) (r : Int), ref03_Kids n a0 = some r → FnC Try.prog 133 [(tyI .i64).enc a0] (fun v => v = (tyI .i64).enc r)
  | 0, _, _, h => by cases h
  | n + 1, a0, r, h => by
    exact fnC_run (M := ref03_Kids_m n) ⟨tabA_nil_ok, tabD_nil_ok, tabN_ok _, tabF_ok _, noY_ok, noE_ok⟩ Try.func133 rfl rfl ⟨(tyI .i64).nb 0 _, trivial⟩ Try.ntmps133 Try.results133 (fun σ hs => outR_ok (P := Try.prog) (rs := [.tmp 2]) (t := (tyI .i64)) (σ := σ) (r := r) hs) (((ref03_Kids_e n).2 a0).trans h)

noncomputable def ref03_letter_m (n : Nat) : Mach Bool where
  body := (Try.f92.body).getD .skip
  P := Try.prog
  cl := tabA []
  cd := tabD []
  nrm := tabN []
  cut := tabF []
  n := n
  out := outR Try.prog [.tmp 2] tyB
theorem ref03_letter_f (n : Nat) : (ref03_letter_m n).P = Try.prog ∧ (ref03_letter_m n).cl = tabA [] ∧ (ref03_letter_m n).cd = tabD [] ∧ (ref03_letter_m n).nrm = tabN [] ∧ (ref03_letter_m n).cut = tabF [] ∧ (ref03_letter_m n).n = n ∧ (ref03_letter_m n).out = outR Try.prog [.tmp 2] tyB := ⟨rfl, rfl, rfl, rfl, rfl, rfl, rfl⟩
theorem ref03_letter_c (n : Nat) : (ref03_letter_m n).body = (Try.f92.body).getD .skip := rfl
noncomputable def ref03_letter_e (n : Nat) : { B : Int → Option Bool // ∀ (a0 : Int), run (ref03_letter_m n) [.at []] { slots := [(tyI .u8).enc a0] ++ List.replicate (21 - [(tyI .u8).enc a0].length) .any, heap := [] } = B a0 } := by
  apply Subtype.mk
  intro a0
  simp (config := { maxSteps := 100000000 }) only [go_sem, Nat.reduceAdd, Nat.reduceSub, Nat.reduceLeDiff, Nat.reduceEqDiff, Nat.reduceBEq, Nat.reduceMul, Nat.reduceLT, Int.reduceLE, Int.reduceLT, Int.reduceToNat, Int.reduceBEq, Int.reduceEq, ref03_letter_f, ref03_letter_c, Try.f92, Option.getD_some, mixed]
  exact rfl
noncomputable def ref03_letter : Nat → Int → Option Bool
  | 0, _ => none
  | n + 1, a0 => (ref03_letter_e n).1 a0
theorem ref03_letter_ok : ∀ (n : Nat) (a0 : Int) (r : Bool), ref03_letter n a0 = some r → FnC Try.prog 92 [(tyI .u8).enc a0] (fun v => v = tyB.enc r)
  | 0, _, _, h => by cases h
  | n + 1, a0, r, h => by
    exact fnC_run (M := ref03_letter_m n) ⟨tabA_nil_ok, tabD_nil_ok, tabN_ok _, tabF_ok _, noY_ok, noE_ok⟩ Try.func92 rfl rfl ⟨(tyI .u8).nb 0 _, trivial⟩ Try.ntmps92 Try.results92 (fun σ hs => outR_ok (P := Try.prog) (rs := [.tmp 2]) (t := tyB) (σ := σ) (r := r) hs) (((ref03_letter_e n).2 a0).trans h)

noncomputable def ref01_Valid_n1 : Nrm := ⟨[], [], [zA, zK, zA, zK, zA, zA, zA, zA, zA, zA, zA, zA, zA, zA, zA, zA, zA, zA, zA, zA, zA, zA, zA, zA, zA, zA, zA, zA, zA, zA, zA, zA, zA, zA, zA, zA, zA, zA, zA, zA, zA, zA, zA, zA, zA, zA, zA, zA, zA, zA, zA, zA, zA, zA, zA, zA, zA, zA, zA, zA, zA, zA, zA, zA, zA, zA, zA], [oT Level.cel], none⟩
noncomputable def ref01_Valid_m (n : Nat) : Mach Bool where
  body := (Try.f134.body).getD .skip
  P := Try.prog
  cl := tabA []
  cd := tabD []
  nrm := tabN [([0, 1, 0, 1, 1], ref01_Valid_n1)]
  cut := tabF []
  n := n
  out := outR Try.prog [.tmp 2] tyB
  isE := tabI []
theorem ref01_Valid_f (n : Nat) : (ref01_Valid_m n).P = Try.prog ∧ (ref01_Valid_m n).cl = tabA [] ∧ (ref01_Valid_m n).cd = tabD [] ∧ (ref01_Valid_m n).nrm = tabN [([0, 1, 0, 1, 1], ref01_Valid_n1)] ∧ (ref01_Valid_m n).cut = tabF [] ∧ (ref01_Valid_m n).n = n ∧ (ref01_Valid_m n).out = outR Try.prog [.tmp 2] tyB ∧ (ref01_Valid_m n).isE = tabI [] := ⟨rfl, rfl, rfl, rfl, rfl, rfl, rfl, rfl⟩
theorem ref01_Valid_c (n : Nat) : (ref01_Valid_m n).body = (Try.f134.body).getD .skip := rfl
theorem ref01_Valid_d (n : Nat) : drawP (ref01_Valid_m n) [0, 0, 1, 1, 0, 0, 1, 0, 0, 1, 0, 1, 1] = true := by kernel_rfl
noncomputable def ref01_Valid_b1 (n : Nat) : { B : (Int → Level → Option Bool) → Int → Level → Option Bool // ∀ m X0, (∀ (v0 : Int) (o0 : Level), run (ref01_Valid_m n) [.lq m [0, 1, 0, 1, 1], .blk 0, .cut [1, 1, 1], .at [1, 1, 1]] ⟨[.any, .ptr 0 0, .any, .int .i64 v0, .any, .any, .any, .any, .any, .any, .any, .any, .any, .any, .any, .any, .any, .any, .any, .any, .any, .any, .any, .any, .any, .any, .any, .any, .any, .any, .any, .any, .any, .any, .any, .any, .any, .any, .any, .any, .any, .any, .any, .any, .any, .any, .any, .any, .any, .any, .any, .any, .any, .any, .any, .any, .any, .any, .any, .any, .any, .any, .any, .any, .any, .any, .any], [.cells (Level.cells o0)], 0⟩ = X0 v0 o0) → ∀ (v0 : Int) (o0 : Level), run (ref01_Valid_m n) [.at [0, 0, 1, 0, 1, 1], .lp m [0, 1, 0, 1, 1], .blk 0, .cut [1, 1, 1], .at [1, 1, 1]] ⟨[.any, .ptr 0 0, .any, .int .i64 v0, .any, .any, .any, .any, .any, .any, .any, .any, .any, .any, .any, .any, .any, .any, .any, .any, .any, .any, .any, .any, .any, .any, .any, .any, .any, .any, .any, .any, .any, .any, .any, .any, .any, .any, .any, .any, .any, .any, .any, .any, .any, .any, .any, .any, .any, .any, .any, .any, .any, .any, .any, .any, .any, .any, .any, .any, .any, .any, .any, .any, .any, .any, .any], [.cells (Level.cells o0)], 0⟩ = B X0 v0 o0 } := by
  apply Subtype.mk
  intro m X0 ih v0 o0
  simp (config := { maxSteps := 100000000 }) only [go_sem, Nat.reduceAdd, Nat.reduceSub, Nat.reduceLeDiff, Nat.reduceEqDiff, Nat.reduceBEq, Nat.reduceMul, Nat.reduceLT, Int.reduceLE, Int.reduceLT, Int.reduceToNat, Int.reduceBEq, Int.reduceEq, ref01_Valid_f, ref01_Valid_c, Try.f134, Option.getD_some, mixed, ref01_Valid_d, ref01_Valid_n1, ih]
  exact rfl
noncomputable def ref01_Valid_l1 (n : Nat) : Nat → Int → Level → Option Bool
  | 0, _, _ => none
  | m + 1, v0, o0 => (ref01_Valid_b1 n).1 (ref01_Valid_l1 n m) v0 o0
theorem ref01_Valid_l1_eq (n : Nat) : ∀ (m : Nat), (∀ (v0 : Int) (o0 : Level), run (ref01_Valid_m n) [.lq m [0, 1, 0, 1, 1], .blk 0, .cut [1, 1, 1], .at [1, 1, 1]] ⟨[.any, .ptr 0 0, .any, .int .i64 v0, .any, .any, .any, .any, .any, .any, .any, .any, .any, .any, .any, .any, .any, .any, .any, .any, .any, .any, .any, .any, .any, .any, .any, .any, .any, .any, .any, .any, .any, .any, .any, .any, .any, .any, .any, .any, .any, .any, .any, .any, .any, .any, .any, .any, .any, .any, .any, .any, .any, .any, .any, .any, .any, .any, .any, .any, .any, .any, .any, .any, .any, .any, .any], [.cells (Level.cells o0)], 0⟩ = ref01_Valid_l1 n m v0 o0)
  | 0 => by intros; exact run_lq_zero
  | m + 1 => by
    have ih := ref01_Valid_l1_eq n m
    intro v0 o0
    rw [run_lq_succ]
    exact (ref01_Valid_b1 n).2  m _  ih v0 o0
noncomputable def ref01_Valid_e (n : Nat) : { B : Level → Option Bool // ∀ (a0 : Level), run (ref01_Valid_m n) [.at []] { slots := [(tyC Level.cel).enc a0] ++ List.replicate (67 - [(tyC Level.cel).enc a0].length) .any, heap := [] } = B a0 } := by
  apply Subtype.mk
  intro a0
  simp (config := { maxSteps := 100000000 }) only [go_sem, Nat.reduceAdd, Nat.reduceSub, Nat.reduceLeDiff, Nat.reduceEqDiff, Nat.reduceBEq, Nat.reduceMul, Nat.reduceLT, Int.reduceLE, Int.reduceLT, Int.reduceToNat, Int.reduceBEq, Int.reduceEq, ref01_Valid_f, ref01_Valid_c, Try.f134, Option.getD_some, mixed, ref01_Valid_d, ref01_Valid_n1, ref01_Valid_l1_eq n]
  exact rfl
noncomputable def ref01_Valid : Nat → Level → Option Bool
  | 0, _ => none
  | n + 1, a0 => (ref01_Valid_e n).1 a0
theorem ref01_Valid_ok : ∀ (n : Nat) (a0 : Level) (r : Bool), ref01_Valid n a0 = some r → FnC Try.prog 134 [(tyC Level.cel).enc a0] (fun v => v = tyB.enc r)
  | 0, _, _, h => by cases h
  | n + 1, a0, r, h => by
    exact fnC_run (M := ref01_Valid_m n) ⟨tabA_nil_ok, tabD_nil_ok, tabN_ok _, tabF_ok _, noY_ok, noE_ok⟩ Try.func134 rfl rfl ⟨(tyC Level.cel).nb 0 _, trivial⟩ Try.ntmps134 Try.results134 (fun σ hs => outR_ok (P := Try.prog) (rs := [.tmp 2]) (t := tyB) (σ := σ) (r := r) hs) (((ref01_Valid_e n).2 a0).trans h)

noncomputable def ref03_Below_m (n : Nat) : Mach Int where
  body := (Try.f124.body).getD .skip
  P := Try.prog
  cl := tabA []
  cd := tabD []
  nrm := tabN []
  cut := tabF []
  n := n
  out := outR Try.prog [.tmp 4] (tyI .i64)
theorem ref03_Below_f (n : Nat) : (ref03_Below_m n).P = Try.prog ∧ (ref03_Below_m n).cl = tabA [] ∧ (ref03_Below_m n).cd = tabD [] ∧ (ref03_Below_m n).nrm = tabN [] ∧ (ref03_Below_m n).cut = tabF [] ∧ (ref03_Below_m n).n = n ∧ (ref03_Below_m n).out = outR Try.prog [.tmp 4] (tyI .i64) := ⟨rfl, rfl, rfl, rfl, rfl, rfl, rfl⟩
theorem ref03_Below_c (n : Nat) : (ref03_Below_m n).body = (Try.f124.body).getD .skip := rfl
noncomputable def ref03_Below_e (n : Nat) : { B : Int → Int → Option Int // ∀ (a0 : Int) (a1 : Int), run (ref03_Below_m n) [.at []] { slots := [(tyI .i64).enc a0, (tyI .i64).enc a1] ++ List.replicate (27 - [(tyI .i64).enc a0, (tyI .i64).enc a1].length) .any, heap := [] } = B a0 a1 } := by
  apply Subtype.mk
  intro a0 a1
  simp (config := { maxSteps := 100000000 }) only [go_sem, Nat.reduceAdd, Nat.reduceSub, Nat.reduceLeDiff, Nat.reduceEqDiff, Nat.reduceBEq, Nat.reduceMul, Nat.reduceLT, Int.reduceLE, Int.reduceLT, Int.reduceToNat, Int.reduceBEq, Int.reduceEq, ref03_Below_f, ref03_Below_c, Try.f124, Option.getD_some, mixed]
  exact rfl
noncomputable def ref03_Below : Nat → Int → Int → Option Int
  | 0, _, _ => none
  | n + 1, a0, a1 => (ref03_Below_e n).1 a0 a1
theorem ref03_Below_ok : ∀ (n : Nat) (a0 : Int) (a1 : Int) (r : Int), ref03_Below n a0 a1 = some r → FnC Try.prog 124 [(tyI .i64).enc a0, (tyI .i64).enc a1] (fun v => v = (tyI .i64).enc r)
  | 0, _, _, _, h => by cases h
  | n + 1, a0, a1, r, h => by
    exact fnC_run (M := ref03_Below_m n) ⟨tabA_nil_ok, tabD_nil_ok, tabN_ok _, tabF_ok _, noY_ok, noE_ok⟩ Try.func124 rfl rfl ⟨(tyI .i64).nb 0 _, (tyI .i64).nb 0 _, trivial⟩ Try.ntmps124 Try.results124 (fun σ hs => outR_ok (P := Try.prog) (rs := [.tmp 4]) (t := (tyI .i64)) (σ := σ) (r := r) hs) (((ref03_Below_e n).2 a0 a1).trans h)
end Go.Abs
namespace Go.Abs
open Go.Proofs
set_option maxRecDepth 100000
set_option maxHeartbeats 4000000
set_option linter.unusedSimpArgs false
set_option linter.unusedVariables false
noncomputable def law12_vec_2_m (n : Nat) : Mach Term where
  body := (Try.f94.body).getD .skip
  P := Try.prog
  cl := tabA []
  cd := tabD []
  nrm := tabN []
  cut := tabF []
  n := n
  out := outR Try.prog [.cell 4 25] (tyC Term.cel)
theorem law12_vec_2_f (n : Nat) : (law12_vec_2_m n).P = Try.prog ∧ (law12_vec_2_m n).cl = tabA [] ∧ (law12_vec_2_m n).cd = tabD [] ∧ (law12_vec_2_m n).nrm = tabN [] ∧ (law12_vec_2_m n).cut = tabF [] ∧ (law12_vec_2_m n).n = n ∧ (law12_vec_2_m n).out = outR Try.prog [.cell 4 25] (tyC Term.cel) := ⟨rfl, rfl, rfl, rfl, rfl, rfl, rfl⟩
theorem law12_vec_2_c (n : Nat) : (law12_vec_2_m n).body = (Try.f94.body).getD .skip := rfl
noncomputable def law12_vec_2_e (n : Nat) : { B : Term → Term → Option Term // ∀ (a0 : Term) (a1 : Term), run (law12_vec_2_m n) [.at []] { slots := [(tyC Term.cel).enc a0, (tyC Term.cel).enc a1] ++ List.replicate (9 - [(tyC Term.cel).enc a0, (tyC Term.cel).enc a1].length) .any, heap := [] } = B a0 a1 } := by
  apply Subtype.mk
  intro a0 a1
  simp (config := { maxSteps := 100000000 }) only [go_sem, Nat.reduceAdd, Nat.reduceSub, Nat.reduceLeDiff, Nat.reduceEqDiff, Nat.reduceBEq, Nat.reduceMul, Nat.reduceLT, Int.reduceLE, Int.reduceLT, Int.reduceToNat, Int.reduceBEq, Int.reduceEq, law12_vec_2_f, law12_vec_2_c, Try.f94, Option.getD_some, mixed]
  exact rfl
noncomputable def law12_vec_2 : Nat → Term → Term → Option Term
  | 0, _, _ => none
  | n + 1, a0, a1 => (law12_vec_2_e n).1 a0 a1
theorem law12_vec_2_ok : ∀ (n : Nat) (a0 : Term) (a1 : Term) (r : Term), law12_vec_2 n a0 a1 = some r → FnC Try.prog 94 [(tyC Term.cel).enc a0, (tyC Term.cel).enc a1] (fun v => v = (tyC Term.cel).enc r)
  | 0, _, _, _, h => by cases h
  | n + 1, a0, a1, r, h => by
    exact fnC_run (M := law12_vec_2_m n) ⟨tabA_nil_ok, tabD_nil_ok, tabN_ok _, tabF_ok _, noY_ok, noE_ok⟩ Try.func94 rfl rfl ⟨(tyC Term.cel).nb 0 _, (tyC Term.cel).nb 0 _, trivial⟩ Try.ntmps94 Try.results94 (fun σ hs => outR_ok (P := Try.prog) (rs := [.cell 4 25]) (t := (tyC Term.cel)) (σ := σ) (r := r) hs) (((law12_vec_2_e n).2 a0 a1).trans h)

noncomputable def law12_vec_1_m (n : Nat) : Mach Term where
  body := (Try.f93.body).getD .skip
  P := Try.prog
  cl := tabA []
  cd := tabD []
  nrm := tabN []
  cut := tabF []
  n := n
  out := outR Try.prog [.cell 2 25] (tyC Term.cel)
theorem law12_vec_1_f (n : Nat) : (law12_vec_1_m n).P = Try.prog ∧ (law12_vec_1_m n).cl = tabA [] ∧ (law12_vec_1_m n).cd = tabD [] ∧ (law12_vec_1_m n).nrm = tabN [] ∧ (law12_vec_1_m n).cut = tabF [] ∧ (law12_vec_1_m n).n = n ∧ (law12_vec_1_m n).out = outR Try.prog [.cell 2 25] (tyC Term.cel) := ⟨rfl, rfl, rfl, rfl, rfl, rfl, rfl⟩
theorem law12_vec_1_c (n : Nat) : (law12_vec_1_m n).body = (Try.f93.body).getD .skip := rfl
noncomputable def law12_vec_1_e (n : Nat) : { B : Int → Option Term // ∀ (a0 : Int), run (law12_vec_1_m n) [.at []] { slots := [(tyI .i64).enc a0] ++ List.replicate (5 - [(tyI .i64).enc a0].length) .any, heap := [] } = B a0 } := by
  apply Subtype.mk
  intro a0
  simp (config := { maxSteps := 100000000 }) only [go_sem, Nat.reduceAdd, Nat.reduceSub, Nat.reduceLeDiff, Nat.reduceEqDiff, Nat.reduceBEq, Nat.reduceMul, Nat.reduceLT, Int.reduceLE, Int.reduceLT, Int.reduceToNat, Int.reduceBEq, Int.reduceEq, law12_vec_1_f, law12_vec_1_c, Try.f93, Option.getD_some, mixed]
  exact rfl
noncomputable def law12_vec_1 : Nat → Int → Option Term
  | 0, _ => none
  | n + 1, a0 => (law12_vec_1_e n).1 a0
theorem law12_vec_1_ok : ∀ (n : Nat) (a0 : Int) (r : Term), law12_vec_1 n a0 = some r → FnC Try.prog 93 [(tyI .i64).enc a0] (fun v => v = (tyC Term.cel).enc r)
  | 0, _, _, h => by cases h
  | n + 1, a0, r, h => by
    exact fnC_run (M := law12_vec_1_m n) ⟨tabA_nil_ok, tabD_nil_ok, tabN_ok _, tabF_ok _, noY_ok, noE_ok⟩ Try.func93 rfl rfl ⟨(tyI .i64).nb 0 _, trivial⟩ Try.ntmps93 Try.results93 (fun σ hs => outR_ok (P := Try.prog) (rs := [.cell 2 25]) (t := (tyC Term.cel)) (σ := σ) (r := r) hs) (((law12_vec_1_e n).2 a0).trans h)

noncomputable def law12_vec_3_m (n : Nat) : Mach Term where
  body := (Try.f95.body).getD .skip
  P := Try.prog
  cl := tabA []
  cd := tabD []
  nrm := tabN []
  cut := tabF []
  n := n
  out := outR Try.prog [.cell 4 25] (tyC Term.cel)
theorem law12_vec_3_f (n : Nat) : (law12_vec_3_m n).P = Try.prog ∧ (law12_vec_3_m n).cl = tabA [] ∧ (law12_vec_3_m n).cd = tabD [] ∧ (law12_vec_3_m n).nrm = tabN [] ∧ (law12_vec_3_m n).cut = tabF [] ∧ (law12_vec_3_m n).n = n ∧ (law12_vec_3_m n).out = outR Try.prog [.cell 4 25] (tyC Term.cel) := ⟨rfl, rfl, rfl, rfl, rfl, rfl, rfl⟩
theorem law12_vec_3_c (n : Nat) : (law12_vec_3_m n).body = (Try.f95.body).getD .skip := rfl
noncomputable def law12_vec_3_e (n : Nat) : { B : Term → Term → Option Term // ∀ (a0 : Term) (a1 : Term), run (law12_vec_3_m n) [.at []] { slots := [(tyC Term.cel).enc a0, (tyC Term.cel).enc a1] ++ List.replicate (9 - [(tyC Term.cel).enc a0, (tyC Term.cel).enc a1].length) .any, heap := [] } = B a0 a1 } := by
  apply Subtype.mk
  intro a0 a1
  simp (config := { maxSteps := 100000000 }) only [go_sem, Nat.reduceAdd, Nat.reduceSub, Nat.reduceLeDiff, Nat.reduceEqDiff, Nat.reduceBEq, Nat.reduceMul, Nat.reduceLT, Int.reduceLE, Int.reduceLT, Int.reduceToNat, Int.reduceBEq, Int.reduceEq, law12_vec_3_f, law12_vec_3_c, Try.f95, Option.getD_some, mixed]
  exact rfl
noncomputable def law12_vec_3 : Nat → Term → Term → Option Term
  | 0, _, _ => none
  | n + 1, a0, a1 => (law12_vec_3_e n).1 a0 a1
theorem law12_vec_3_ok : ∀ (n : Nat) (a0 : Term) (a1 : Term) (r : Term), law12_vec_3 n a0 a1 = some r → FnC Try.prog 95 [(tyC Term.cel).enc a0, (tyC Term.cel).enc a1] (fun v => v = (tyC Term.cel).enc r)
  | 0, _, _, _, h => by cases h
  | n + 1, a0, a1, r, h => by
    exact fnC_run (M := law12_vec_3_m n) ⟨tabA_nil_ok, tabD_nil_ok, tabN_ok _, tabF_ok _, noY_ok, noE_ok⟩ Try.func95 rfl rfl ⟨(tyC Term.cel).nb 0 _, (tyC Term.cel).nb 0 _, trivial⟩ Try.ntmps95 Try.results95 (fun σ hs => outR_ok (P := Try.prog) (rs := [.cell 4 25]) (t := (tyC Term.cel)) (σ := σ) (r := r) hs) (((law12_vec_3_e n).2 a0 a1).trans h)

noncomputable def telescope_All_n1 : Nrm := ⟨[(4, 5, true)], [], [zA, zK, zA, zK, zK, zA, zA, zA, zA, zA, zA, zA, zA, zA, zA, zA, zA, zA, zA, zA, zA, zA, zA, zA, zA, zA, zA], [oT Term.cel, oK, oA Term.row], none⟩
noncomputable def telescope_All_m (n : Nat) : Mach ((List Term) × Term) where
  body := (Try.f49.body).getD .skip
  P := Try.prog
  cl := tabA []
  cd := tabD []
  nrm := tabN [([0, 0, 1, 1], telescope_All_n1)]
  cut := tabF []
  n := n
  out := outR Try.prog [.tmp 2, .cell 3 25] (ty2 (tyL Term.row) (tyC Term.cel))
  isE := tabI []
theorem telescope_All_f (n : Nat) : (telescope_All_m n).P = Try.prog ∧ (telescope_All_m n).cl = tabA [] ∧ (telescope_All_m n).cd = tabD [] ∧ (telescope_All_m n).nrm = tabN [([0, 0, 1, 1], telescope_All_n1)] ∧ (telescope_All_m n).cut = tabF [] ∧ (telescope_All_m n).n = n ∧ (telescope_All_m n).out = outR Try.prog [.tmp 2, .cell 3 25] (ty2 (tyL Term.row) (tyC Term.cel)) ∧ (telescope_All_m n).isE = tabI [] := ⟨rfl, rfl, rfl, rfl, rfl, rfl, rfl, rfl⟩
theorem telescope_All_c (n : Nat) : (telescope_All_m n).body = (Try.f49.body).getD .skip := rfl
theorem telescope_All_d (n : Nat) : drawP (telescope_All_m n) [0, 1, 1, 1] = true := by kernel_rfl
theorem telescope_All_o (n : Nat) : ordP (telescope_All_m n) [0, 1, 1, 1] 1 3 = true := by kernel_rfl
noncomputable def telescope_All_b1 (n : Nat) : { B : (Term → (List Term) → Option ((List Term) × Term)) → Term → (List Term) → Option ((List Term) × Term) // ∀ m X0, (∀ (o0 : Term) (r2 : List Term) (c2 : Nat), c2 = r2.length → run (telescope_All_m n) [.lq m [0, 0, 1, 1], .blk 0, .cut [1, 1, 1], .at [1, 1, 1]] ⟨[.any, .ptr 0 0, .any, .ptr 1 0, .acc 2 c2, .any, .any, .any, .any, .any, .any, .any, .any, .any, .any, .any, .any, .any, .any, .any, .any, .any, .any, .any, .any, .any, .any], [.cells (Term.cells o0), .cells [.int .i64 0, .int .i64 0, .str (sb []), .lst true 0 [], .lst true 0 []], .acc true 5 (mp Term.cells r2)], 0⟩ = X0 o0 r2) → ∀ (o0 : Term) (r2 : List Term), run (telescope_All_m n) [.at [0, 0, 0, 1, 1], .lp m [0, 0, 1, 1], .blk 0, .cut [1, 1, 1], .at [1, 1, 1]] ⟨[.any, .ptr 0 0, .any, .ptr 1 0, .acc 2 r2.length, .any, .any, .any, .any, .any, .any, .any, .any, .any, .any, .any, .any, .any, .any, .any, .any, .any, .any, .any, .any, .any, .any], [.cells (Term.cells o0), .cells [.int .i64 0, .int .i64 0, .str (sb []), .lst true 0 [], .lst true 0 []], .acc true 5 (mp Term.cells r2)], 0⟩ = B X0 o0 r2 } := by
  apply Subtype.mk
  intro m X0 ih o0 r2
  simp (config := { maxSteps := 100000000 }) only [go_sem, Nat.reduceAdd, Nat.reduceSub, Nat.reduceLeDiff, Nat.reduceEqDiff, Nat.reduceBEq, Nat.reduceMul, Nat.reduceLT, Int.reduceLE, Int.reduceLT, Int.reduceToNat, Int.reduceBEq, Int.reduceEq, telescope_All_f, telescope_All_c, Try.f49, Option.getD_some, mixed, telescope_All_d, telescope_All_o, telescope_All_n1, ih]
  exact rfl
noncomputable def telescope_All_l1 (n : Nat) : Nat → Term → (List Term) → Option ((List Term) × Term)
  | 0, _, _ => none
  | m + 1, o0, r2 => (telescope_All_b1 n).1 (telescope_All_l1 n m) o0 r2
theorem telescope_All_l1_eq (n : Nat) : ∀ (m : Nat), (∀ (o0 : Term) (r2 : List Term) (c2 : Nat), c2 = r2.length → run (telescope_All_m n) [.lq m [0, 0, 1, 1], .blk 0, .cut [1, 1, 1], .at [1, 1, 1]] ⟨[.any, .ptr 0 0, .any, .ptr 1 0, .acc 2 c2, .any, .any, .any, .any, .any, .any, .any, .any, .any, .any, .any, .any, .any, .any, .any, .any, .any, .any, .any, .any, .any, .any], [.cells (Term.cells o0), .cells [.int .i64 0, .int .i64 0, .str (sb []), .lst true 0 [], .lst true 0 []], .acc true 5 (mp Term.cells r2)], 0⟩ = telescope_All_l1 n m o0 r2)
  | 0 => by intros; exact run_lq_zero
  | m + 1 => by
    have ih := telescope_All_l1_eq n m
    intro o0 r2 c2 ec2
    subst ec2
    rw [run_lq_succ]
    exact (telescope_All_b1 n).2  m _  ih o0 r2
noncomputable def telescope_All_e (n : Nat) : { B : Term → Option ((List Term) × Term) // ∀ (a0 : Term), run (telescope_All_m n) [.at []] { slots := [(tyC Term.cel).enc a0] ++ List.replicate (27 - [(tyC Term.cel).enc a0].length) .any, heap := [] } = B a0 } := by
  apply Subtype.mk
  intro a0
  simp (config := { maxSteps := 100000000 }) only [go_sem, Nat.reduceAdd, Nat.reduceSub, Nat.reduceLeDiff, Nat.reduceEqDiff, Nat.reduceBEq, Nat.reduceMul, Nat.reduceLT, Int.reduceLE, Int.reduceLT, Int.reduceToNat, Int.reduceBEq, Int.reduceEq, telescope_All_f, telescope_All_c, Try.f49, Option.getD_some, mixed, telescope_All_d, telescope_All_o, telescope_All_n1, telescope_All_l1_eq n]
  exact rfl
noncomputable def telescope_All : Nat → Term → Option ((List Term) × Term)
  | 0, _ => none
  | n + 1, a0 => (telescope_All_e n).1 a0
theorem telescope_All_ok : ∀ (n : Nat) (a0 : Term) (r : ((List Term) × Term)), telescope_All n a0 = some r → FnC Try.prog 49 [(tyC Term.cel).enc a0] (fun v => v = (ty2 (tyL Term.row) (tyC Term.cel)).enc r)
  | 0, _, _, h => by cases h
  | n + 1, a0, r, h => by
    exact fnC_run (M := telescope_All_m n) ⟨tabA_nil_ok, tabD_nil_ok, tabN_ok _, tabF_ok _, noY_ok, noE_ok⟩ Try.func49 rfl rfl ⟨(tyC Term.cel).nb 0 _, trivial⟩ Try.ntmps49 Try.results49 (fun σ hs => outR_ok (P := Try.prog) (rs := [.tmp 2, .cell 3 25]) (t := (ty2 (tyL Term.row) (tyC Term.cel))) (σ := σ) (r := r) hs) (((telescope_All_e n).2 a0).trans h)

noncomputable def slices_Reverse_Term_n1 : Nrm := ⟨[], [], [zK, zA, zK, zK, zA, zA, zA, zA, zA, zA, zA, zA, zA, zA, zA, zA, zA, zA, zA, zA, zA, zA, zA, zA, zA, zA, zA, zA], [oA Term.row], none⟩
noncomputable def slices_Reverse_Term_m (n : Nat) : Mach (((List Term) × Unit) × Unit) where
  body := (Try.f107.body).getD .skip
  P := Try.prog
  cl := tabA []
  cd := tabD []
  nrm := tabN [([0, 1], slices_Reverse_Term_n1)]
  cut := tabF []
  n := n
  out := outG Try.prog [] (osC (oaT false Term.row) osN) rsN 1
  isE := tabI []
theorem slices_Reverse_Term_f (n : Nat) : (slices_Reverse_Term_m n).P = Try.prog ∧ (slices_Reverse_Term_m n).cl = tabA [] ∧ (slices_Reverse_Term_m n).cd = tabD [] ∧ (slices_Reverse_Term_m n).nrm = tabN [([0, 1], slices_Reverse_Term_n1)] ∧ (slices_Reverse_Term_m n).cut = tabF [] ∧ (slices_Reverse_Term_m n).n = n ∧ (slices_Reverse_Term_m n).out = outG Try.prog [] (osC (oaT false Term.row) osN) rsN 1 ∧ (slices_Reverse_Term_m n).isE = tabI [] := ⟨rfl, rfl, rfl, rfl, rfl, rfl, rfl, rfl⟩
theorem slices_Reverse_Term_c (n : Nat) : (slices_Reverse_Term_m n).body = (Try.f107.body).getD .skip := rfl
theorem slices_Reverse_Term_d (n : Nat) : drawP (slices_Reverse_Term_m n) [0, 0, 1, 0, 0, 1] = true := by kernel_rfl
theorem slices_Reverse_Term_o (n : Nat) : ordP (slices_Reverse_Term_m n) [0, 0, 1, 0, 0, 1] 6 13 = true ∧ ordP (slices_Reverse_Term_m n) [0, 0, 1, 0, 0, 1] 7 13 = true ∧ ordP (slices_Reverse_Term_m n) [0, 0, 1, 0, 0, 1] 10 13 = true ∧ ordP (slices_Reverse_Term_m n) [0, 0, 1, 0, 0, 1] 11 13 = true ∧ ordP (slices_Reverse_Term_m n) [0, 0, 1, 0, 0, 1] 12 13 = true ∧ ordP (slices_Reverse_Term_m n) [0, 0, 1, 0, 0, 1] 13 14 = true ∧ ordP (slices_Reverse_Term_m n) [0, 0, 1, 0, 0, 1] 6 15 = true ∧ ordP (slices_Reverse_Term_m n) [0, 0, 1, 0, 0, 1] 7 15 = true ∧ ordP (slices_Reverse_Term_m n) [0, 0, 1, 0, 0, 1] 10 15 = true ∧ ordP (slices_Reverse_Term_m n) [0, 0, 1, 0, 0, 1] 11 15 = true ∧ ordP (slices_Reverse_Term_m n) [0, 0, 1, 0, 0, 1] 12 15 = true ∧ ordP (slices_Reverse_Term_m n) [0, 0, 1, 0, 0, 1] 13 15 = true ∧ ordP (slices_Reverse_Term_m n) [0, 0, 1, 0, 0, 1] 14 15 = true := ⟨by kernel_rfl, by kernel_rfl, by kernel_rfl, by kernel_rfl, by kernel_rfl, by kernel_rfl, by kernel_rfl, by kernel_rfl, by kernel_rfl, by kernel_rfl, by kernel_rfl, by kernel_rfl, by kernel_rfl⟩
noncomputable def slices_Reverse_Term_b1 (n : Nat) : { B : (Int → Int → (List Term) → Option (((List Term) × Unit) × Unit)) → Int → Int → (List Term) → Option (((List Term) × Unit) × Unit) // ∀ m X0, (∀ (v0 : Int) (v1 : Int) (r0 : List Term) (c0 : Nat), c0 = r0.length → run (slices_Reverse_Term_m n) [.lq m [0, 1], .blk 0] ⟨[.acc 0 c0, .any, .int .i64 v0, .int .i64 v1, .any, .any, .any, .any, .any, .any, .any, .any, .any, .any, .any, .any, .any, .any, .any, .any, .any, .any, .any, .any, .any, .any, .any, .any], [.acc false 5 (mp Term.cells r0)], 1⟩ = X0 v0 v1 r0) → ∀ (v0 : Int) (v1 : Int) (r0 : List Term), run (slices_Reverse_Term_m n) [.at [0, 0, 1], .lp m [0, 1], .blk 0] ⟨[.acc 0 r0.length, .any, .int .i64 v0, .int .i64 v1, .any, .any, .any, .any, .any, .any, .any, .any, .any, .any, .any, .any, .any, .any, .any, .any, .any, .any, .any, .any, .any, .any, .any, .any], [.acc false 5 (mp Term.cells r0)], 1⟩ = B X0 v0 v1 r0 } := by
  apply Subtype.mk
  intro m X0 ih v0 v1 r0
  simp (config := { maxSteps := 100000000 }) only [go_sem, Nat.reduceAdd, Nat.reduceSub, Nat.reduceLeDiff, Nat.reduceEqDiff, Nat.reduceBEq, Nat.reduceMul, Nat.reduceLT, Int.reduceLE, Int.reduceLT, Int.reduceToNat, Int.reduceBEq, Int.reduceEq, slices_Reverse_Term_f, slices_Reverse_Term_c, Try.f107, Option.getD_some, mixed, slices_Reverse_Term_d, slices_Reverse_Term_o, slices_Reverse_Term_n1, ih]
  exact rfl
noncomputable def slices_Reverse_Term_l1 (n : Nat) : Nat → Int → Int → (List Term) → Option (((List Term) × Unit) × Unit)
  | 0, _, _, _ => none
  | m + 1, v0, v1, r0 => (slices_Reverse_Term_b1 n).1 (slices_Reverse_Term_l1 n m) v0 v1 r0
theorem slices_Reverse_Term_l1_eq (n : Nat) : ∀ (m : Nat), (∀ (v0 : Int) (v1 : Int) (r0 : List Term) (c0 : Nat), c0 = r0.length → run (slices_Reverse_Term_m n) [.lq m [0, 1], .blk 0] ⟨[.acc 0 c0, .any, .int .i64 v0, .int .i64 v1, .any, .any, .any, .any, .any, .any, .any, .any, .any, .any, .any, .any, .any, .any, .any, .any, .any, .any, .any, .any, .any, .any, .any, .any], [.acc false 5 (mp Term.cells r0)], 1⟩ = slices_Reverse_Term_l1 n m v0 v1 r0)
  | 0 => by intros; exact run_lq_zero
  | m + 1 => by
    have ih := slices_Reverse_Term_l1_eq n m
    intro v0 v1 r0 c0 ec0
    subst ec0
    rw [run_lq_succ]
    exact (slices_Reverse_Term_b1 n).2  m _  ih v0 v1 r0
noncomputable def slices_Reverse_Term_e (n : Nat) : { B : (List Term) → Option (((List Term) × Unit) × Unit) // ∀ (a0 : (List Term)), run (slices_Reverse_Term_m n) [.at []] { slots := ((asA 0 (fun (b : ((List Term) × Unit)) => b.1.length) asN).enc (a0, ()) ()) ++ List.replicate (28 - ((asA 0 (fun (b : ((List Term) × Unit)) => b.1.length) asN).enc (a0, ()) ()).length) .any, heap := ((osC (oaT false Term.row) osN).enc (a0, ())), low := ((osC (oaT false Term.row) osN).enc (a0, ())).length } = B a0 } := by
  apply Subtype.mk
  intro a0
  simp (config := { maxSteps := 100000000 }) only [go_sem, Nat.reduceAdd, Nat.reduceSub, Nat.reduceLeDiff, Nat.reduceEqDiff, Nat.reduceBEq, Nat.reduceMul, Nat.reduceLT, Int.reduceLE, Int.reduceLT, Int.reduceToNat, Int.reduceBEq, Int.reduceEq, slices_Reverse_Term_f, slices_Reverse_Term_c, Try.f107, Option.getD_some, mixed, slices_Reverse_Term_d, slices_Reverse_Term_o, slices_Reverse_Term_n1, slices_Reverse_Term_l1_eq n]
  exact rfl
noncomputable def slices_Reverse_Term : Nat → (List Term) → Option (((List Term) × Unit) × Unit)
  | 0, _ => none
  | n + 1, a0 => (slices_Reverse_Term_e n).1 a0
theorem slices_Reverse_Term_ok : ∀ (n : Nat) (a0 : (List Term)) (r : (((List Term) × Unit) × Unit)), slices_Reverse_Term n a0 = some r → FnG Try.prog 107 ((asA 0 (fun (b : ((List Term) × Unit)) => b.1.length) asN).enc (a0, ()) ()) ((osC (oaT false Term.row) osN).enc (a0, ())) (fun o H' => o = .ret (tupOf (rsN.enc r.1 r.2)) ∧ H' = (osC (oaT false Term.row) osN).enc r.1)
  | 0, _, _, h => by cases h
  | n + 1, a0, r, h => by
    exact fnG_run (M := slices_Reverse_Term_m n) ⟨tabA_nil_ok, tabD_nil_ok, tabN_ok _, tabF_ok _, noY_ok, noE_ok⟩ Try.func107 rfl rfl (by simp only [go_sem, Nat.reduceAdd, Nat.reduceSub, Nat.reduceLeDiff, Nat.reduceEqDiff, Nat.reduceBEq, Nat.reduceMul, Nat.reduceLT, Int.reduceLE, Int.reduceLT, Int.reduceToNat, Int.reduceBEq, Int.reduceEq]) ((osC (oaT false Term.row) osN).nb _ _) Try.ntmps107 Try.results107 (fun σ hs => outG_ok hs) (((slices_Reverse_Term_e n).2 a0).trans h)

noncomputable def slices_Equal_LevelVar_n1 : Nrm := ⟨[], [], [zT (tyL LevelVar.row), zT (tyL LevelVar.row), zA, zA, zA, zA, zA, zA, zA, zA, zA, zA, zK, zK, zA, zA, zA, zA, zA, zA, zA, zA, zA, zA, zA, zA], [], none⟩
noncomputable def slices_Equal_LevelVar_m (n : Nat) : Mach Bool where
  body := (Try.f102.body).getD .skip
  P := Try.prog
  cl := tabA []
  cd := tabD []
  nrm := tabN [([0, 1, 0, 1, 1], slices_Equal_LevelVar_n1)]
  cut := tabF []
  n := n
  out := outR Try.prog [.tmp 4] tyB
  isE := tabI []
theorem slices_Equal_LevelVar_f (n : Nat) : (slices_Equal_LevelVar_m n).P = Try.prog ∧ (slices_Equal_LevelVar_m n).cl = tabA [] ∧ (slices_Equal_LevelVar_m n).cd = tabD [] ∧ (slices_Equal_LevelVar_m n).nrm = tabN [([0, 1, 0, 1, 1], slices_Equal_LevelVar_n1)] ∧ (slices_Equal_LevelVar_m n).cut = tabF [] ∧ (slices_Equal_LevelVar_m n).n = n ∧ (slices_Equal_LevelVar_m n).out = outR Try.prog [.tmp 4] tyB ∧ (slices_Equal_LevelVar_m n).isE = tabI [] := ⟨rfl, rfl, rfl, rfl, rfl, rfl, rfl, rfl⟩
theorem slices_Equal_LevelVar_c (n : Nat) : (slices_Equal_LevelVar_m n).body = (Try.f102.body).getD .skip := rfl
theorem slices_Equal_LevelVar_d (n : Nat) : drawP (slices_Equal_LevelVar_m n) [0, 1, 0, 0, 1, 1, 0, 0, 1, 0, 1, 1] = true := by kernel_rfl
noncomputable def slices_Equal_LevelVar_b1 (n : Nat) : { B : ((List LevelVar) → (List LevelVar) → Int → Int → Option Bool) → (List LevelVar) → (List LevelVar) → Int → Int → Option Bool // ∀ m X0, (∀ (v0 : List LevelVar) (v1 : List LevelVar) (v2 : Int) (v3 : Int), run (slices_Equal_LevelVar_m n) [.lq m [0, 1, 0, 1, 1], .blk 0, .cut [1, 1, 1], .at [1, 1, 1]] ⟨[.lst false 2 (mp LevelVar.cells v0), .lst false 2 (mp LevelVar.cells v1), .any, .any, .any, .any, .any, .any, .any, .any, .any, .any, .int .i64 v2, .int .i64 v3, .any, .any, .any, .any, .any, .any, .any, .any, .any, .any, .any, .any], [], 0⟩ = X0 v0 v1 v2 v3) → ∀ (v0 : List LevelVar) (v1 : List LevelVar) (v2 : Int) (v3 : Int), run (slices_Equal_LevelVar_m n) [.at [0, 0, 1, 0, 1, 1], .lp m [0, 1, 0, 1, 1], .blk 0, .cut [1, 1, 1], .at [1, 1, 1]] ⟨[.lst false 2 (mp LevelVar.cells v0), .lst false 2 (mp LevelVar.cells v1), .any, .any, .any, .any, .any, .any, .any, .any, .any, .any, .int .i64 v2, .int .i64 v3, .any, .any, .any, .any, .any, .any, .any, .any, .any, .any, .any, .any], [], 0⟩ = B X0 v0 v1 v2 v3 } := by
  apply Subtype.mk
  intro m X0 ih v0 v1 v2 v3
  simp (config := { maxSteps := 100000000 }) only [go_sem, Nat.reduceAdd, Nat.reduceSub, Nat.reduceLeDiff, Nat.reduceEqDiff, Nat.reduceBEq, Nat.reduceMul, Nat.reduceLT, Int.reduceLE, Int.reduceLT, Int.reduceToNat, Int.reduceBEq, Int.reduceEq, slices_Equal_LevelVar_f, slices_Equal_LevelVar_c, Try.f102, Option.getD_some, mixed, slices_Equal_LevelVar_d, slices_Equal_LevelVar_n1, ih]
  exact rfl
noncomputable def slices_Equal_LevelVar_l1 (n : Nat) : Nat → (List LevelVar) → (List LevelVar) → Int → Int → Option Bool
  | 0, _, _, _, _ => none
  | m + 1, v0, v1, v2, v3 => (slices_Equal_LevelVar_b1 n).1 (slices_Equal_LevelVar_l1 n m) v0 v1 v2 v3
theorem slices_Equal_LevelVar_l1_eq (n : Nat) : ∀ (m : Nat), (∀ (v0 : List LevelVar) (v1 : List LevelVar) (v2 : Int) (v3 : Int), run (slices_Equal_LevelVar_m n) [.lq m [0, 1, 0, 1, 1], .blk 0, .cut [1, 1, 1], .at [1, 1, 1]] ⟨[.lst false 2 (mp LevelVar.cells v0), .lst false 2 (mp LevelVar.cells v1), .any, .any, .any, .any, .any, .any, .any, .any, .any, .any, .int .i64 v2, .int .i64 v3, .any, .any, .any, .any, .any, .any, .any, .any, .any, .any, .any, .any], [], 0⟩ = slices_Equal_LevelVar_l1 n m v0 v1 v2 v3)
  | 0 => by intros; exact run_lq_zero
  | m + 1 => by
    have ih := slices_Equal_LevelVar_l1_eq n m
    intro v0 v1 v2 v3
    rw [run_lq_succ]
    exact (slices_Equal_LevelVar_b1 n).2  m _  ih v0 v1 v2 v3
noncomputable def slices_Equal_LevelVar_e (n : Nat) : { B : (List LevelVar) → (List LevelVar) → Option Bool // ∀ (a0 : (List LevelVar)) (a1 : (List LevelVar)), run (slices_Equal_LevelVar_m n) [.at []] { slots := [(tyL LevelVar.row).enc a0, (tyL LevelVar.row).enc a1] ++ List.replicate (26 - [(tyL LevelVar.row).enc a0, (tyL LevelVar.row).enc a1].length) .any, heap := [] } = B a0 a1 } := by
  apply Subtype.mk
  intro a0 a1
  simp (config := { maxSteps := 100000000 }) only [go_sem, Nat.reduceAdd, Nat.reduceSub, Nat.reduceLeDiff, Nat.reduceEqDiff, Nat.reduceBEq, Nat.reduceMul, Nat.reduceLT, Int.reduceLE, Int.reduceLT, Int.reduceToNat, Int.reduceBEq, Int.reduceEq, slices_Equal_LevelVar_f, slices_Equal_LevelVar_c, Try.f102, Option.getD_some, mixed, slices_Equal_LevelVar_d, slices_Equal_LevelVar_n1, slices_Equal_LevelVar_l1_eq n]
  exact rfl
noncomputable def slices_Equal_LevelVar : Nat → (List LevelVar) → (List LevelVar) → Option Bool
  | 0, _, _ => none
  | n + 1, a0, a1 => (slices_Equal_LevelVar_e n).1 a0 a1
theorem slices_Equal_LevelVar_ok : ∀ (n : Nat) (a0 : (List LevelVar)) (a1 : (List LevelVar)) (r : Bool), slices_Equal_LevelVar n a0 a1 = some r → FnC Try.prog 102 [(tyL LevelVar.row).enc a0, (tyL LevelVar.row).enc a1] (fun v => v = tyB.enc r)
  | 0, _, _, _, h => by cases h
  | n + 1, a0, a1, r, h => by
    exact fnC_run (M := slices_Equal_LevelVar_m n) ⟨tabA_nil_ok, tabD_nil_ok, tabN_ok _, tabF_ok _, noY_ok, noE_ok⟩ Try.func102 rfl rfl ⟨(tyL LevelVar.row).nb 0 _, (tyL LevelVar.row).nb 0 _, trivial⟩ Try.ntmps102 Try.results102 (fun σ hs => outR_ok (P := Try.prog) (rs := [.tmp 4]) (t := tyB) (σ := σ) (r := r) hs) (((slices_Equal_LevelVar_e n).2 a0 a1).trans h)
end Go.Abs
namespace Go.Abs
open Go.Proofs
set_option maxRecDepth 100000
set_option maxHeartbeats 4000000
set_option linter.unusedSimpArgs false
set_option linter.unusedVariables false
noncomputable def telescope_Vars_n1 : Nrm := ⟨[], [], [zK, zK, zA, zA, zA, zK, zA, zA, zA, zA, zA, zA, zA, zA, zA, zA, zA, zA, zA, zA, zK, zK, zA, zA, zA, zA, zA, zA, zA, zA, zA, zA, zA, zA, zA, zA], [oA Term.row], none⟩
noncomputable def telescope_Vars_m (n : Nat) : Mach (List Term) where
  body := (Try.f47.body).getD .skip
  P := Try.prog
  cl := tabA []
  cd := tabD []
  nrm := tabN [([0, 1, 0, 1, 1, 1], telescope_Vars_n1)]
  cut := tabF []
  n := n
  out := outR Try.prog [.tmp 4] (tyL Term.row)
theorem telescope_Vars_f (n : Nat) : (telescope_Vars_m n).P = Try.prog ∧ (telescope_Vars_m n).cl = tabA [] ∧ (telescope_Vars_m n).cd = tabD [] ∧ (telescope_Vars_m n).nrm = tabN [([0, 1, 0, 1, 1, 1], telescope_Vars_n1)] ∧ (telescope_Vars_m n).cut = tabF [] ∧ (telescope_Vars_m n).n = n ∧ (telescope_Vars_m n).out = outR Try.prog [.tmp 4] (tyL Term.row) := ⟨rfl, rfl, rfl, rfl, rfl, rfl, rfl⟩
theorem telescope_Vars_c (n : Nat) : (telescope_Vars_m n).body = (Try.f47.body).getD .skip := rfl
noncomputable def telescope_Vars_b1 (n : Nat) : { B : (Int → Int → Int → Int → (List Term) → Option (List Term)) → Int → Int → Int → Int → (List Term) → Option (List Term) // ∀ m X0, (∀ (v0 : Int) (v1 : Int) (v2 : Int) (v3 : Int) (r0 : List Term) (c0 : Nat), c0 = r0.length → run (telescope_Vars_m n) [.lq m [0, 1, 0, 1, 1, 1], .blk 0, .cut [1, 1, 1, 1], .at [1, 1, 1, 1]] ⟨[.int .i64 v0, .int .i64 v1, .any, .any, .any, .acc 0 c0, .any, .any, .any, .any, .any, .any, .any, .any, .any, .any, .any, .any, .any, .any, .int .i64 v2, .int .i64 v3, .any, .any, .any, .any, .any, .any, .any, .any, .any, .any, .any, .any, .any, .any], [.acc false 5 (mp Term.cells r0)], 0⟩ = X0 v0 v1 v2 v3 r0) → ∀ (v0 : Int) (v1 : Int) (v2 : Int) (v3 : Int) (r0 : List Term), run (telescope_Vars_m n) [.at [0, 0, 1, 0, 1, 1, 1], .lp m [0, 1, 0, 1, 1, 1], .blk 0, .cut [1, 1, 1, 1], .at [1, 1, 1, 1]] ⟨[.int .i64 v0, .int .i64 v1, .any, .any, .any, .acc 0 r0.length, .any, .any, .any, .any, .any, .any, .any, .any, .any, .any, .any, .any, .any, .any, .int .i64 v2, .int .i64 v3, .any, .any, .any, .any, .any, .any, .any, .any, .any, .any, .any, .any, .any, .any], [.acc false 5 (mp Term.cells r0)], 0⟩ = B X0 v0 v1 v2 v3 r0 } := by
  apply Subtype.mk
  intro m X0 ih v0 v1 v2 v3 r0
  simp (config := { maxSteps := 100000000 }) only [go_sem, Nat.reduceAdd, Nat.reduceSub, Nat.reduceLeDiff, Nat.reduceEqDiff, Nat.reduceBEq, Nat.reduceMul, Nat.reduceLT, Int.reduceLE, Int.reduceLT, Int.reduceToNat, Int.reduceBEq, Int.reduceEq, telescope_Vars_f, telescope_Vars_c, Try.f47, Option.getD_some, mixed, telescope_Vars_n1, ih]
  exact rfl
noncomputable def telescope_Vars_l1 (n : Nat) : Nat → Int → Int → Int → Int → (List Term) → Option (List Term)
  | 0, _, _, _, _, _ => none
  | m + 1, v0, v1, v2, v3, r0 => (telescope_Vars_b1 n).1 (telescope_Vars_l1 n m) v0 v1 v2 v3 r0
theorem telescope_Vars_l1_eq (n : Nat) : ∀ (m : Nat), (∀ (v0 : Int) (v1 : Int) (v2 : Int) (v3 : Int) (r0 : List Term) (c0 : Nat), c0 = r0.length → run (telescope_Vars_m n) [.lq m [0, 1, 0, 1, 1, 1], .blk 0, .cut [1, 1, 1, 1], .at [1, 1, 1, 1]] ⟨[.int .i64 v0, .int .i64 v1, .any, .any, .any, .acc 0 c0, .any, .any, .any, .any, .any, .any, .any, .any, .any, .any, .any, .any, .any, .any, .int .i64 v2, .int .i64 v3, .any, .any, .any, .any, .any, .any, .any, .any, .any, .any, .any, .any, .any, .any], [.acc false 5 (mp Term.cells r0)], 0⟩ = telescope_Vars_l1 n m v0 v1 v2 v3 r0)
  | 0 => by intros; exact run_lq_zero
  | m + 1 => by
    have ih := telescope_Vars_l1_eq n m
    intro v0 v1 v2 v3 r0 c0 ec0
    subst ec0
    rw [run_lq_succ]
    exact (telescope_Vars_b1 n).2  m _  ih v0 v1 v2 v3 r0
noncomputable def telescope_Vars_e (n : Nat) : { B : Int → Int → Option (List Term) // ∀ (a0 : Int) (a1 : Int), run (telescope_Vars_m n) [.at []] { slots := [(tyI .i64).enc a0, (tyI .i64).enc a1] ++ List.replicate (36 - [(tyI .i64).enc a0, (tyI .i64).enc a1].length) .any, heap := [] } = B a0 a1 } := by
  apply Subtype.mk
  intro a0 a1
  simp (config := { maxSteps := 100000000 }) only [go_sem, Nat.reduceAdd, Nat.reduceSub, Nat.reduceLeDiff, Nat.reduceEqDiff, Nat.reduceBEq, Nat.reduceMul, Nat.reduceLT, Int.reduceLE, Int.reduceLT, Int.reduceToNat, Int.reduceBEq, Int.reduceEq, telescope_Vars_f, telescope_Vars_c, Try.f47, Option.getD_some, mixed, telescope_Vars_n1, telescope_Vars_l1_eq n]
  exact rfl
noncomputable def telescope_Vars : Nat → Int → Int → Option (List Term)
  | 0, _, _ => none
  | n + 1, a0, a1 => (telescope_Vars_e n).1 a0 a1
theorem telescope_Vars_ok : ∀ (n : Nat) (a0 : Int) (a1 : Int) (r : (List Term)), telescope_Vars n a0 a1 = some r → FnC Try.prog 47 [(tyI .i64).enc a0, (tyI .i64).enc a1] (fun v => v = (tyL Term.row).enc r)
  | 0, _, _, _, h => by cases h
  | n + 1, a0, a1, r, h => by
    exact fnC_run (M := telescope_Vars_m n) ⟨tabA_nil_ok, tabD_nil_ok, tabN_ok _, tabF_ok _, noY_ok, noE_ok⟩ Try.func47 rfl rfl ⟨(tyI .i64).nb 0 _, (tyI .i64).nb 0 _, trivial⟩ Try.ntmps47 Try.results47 (fun σ hs => outR_ok (P := Try.prog) (rs := [.tmp 4]) (t := (tyL Term.row)) (σ := σ) (r := r) hs) (((telescope_Vars_e n).2 a0 a1).trans h)

noncomputable def family_itself_n1 : Nrm := ⟨[], [(1, 3, 2)], [zA, zA, zA, zA, zK, zK, zA, zA, zA, zK, zK, zA, zA, zA, zA, zA, zA, zA, zA, zA, zA, zA, zA, zA], [oK, oC [zK, zK, zK, zK, zK], oA Level.row], none⟩
noncomputable def family_itself_m (n : Nat) : Mach Term where
  body := (Try.f56.body).getD .skip
  P := Try.prog
  cl := tabA []
  cd := tabD []
  nrm := tabN [([0, 1, 0, 1, 1], family_itself_n1)]
  cut := tabF []
  n := n
  out := outR Try.prog [.cell 4 25] (tyC Term.cel)
theorem family_itself_f (n : Nat) : (family_itself_m n).P = Try.prog ∧ (family_itself_m n).cl = tabA [] ∧ (family_itself_m n).cd = tabD [] ∧ (family_itself_m n).nrm = tabN [([0, 1, 0, 1, 1], family_itself_n1)] ∧ (family_itself_m n).cut = tabF [] ∧ (family_itself_m n).n = n ∧ (family_itself_m n).out = outR Try.prog [.cell 4 25] (tyC Term.cel) := ⟨rfl, rfl, rfl, rfl, rfl, rfl, rfl⟩
theorem family_itself_c (n : Nat) : (family_itself_m n).body = (Try.f56.body).getD .skip := rfl
noncomputable def family_itself_b1 (n : Nat) : { B : (Int → Int → Int → Str → (List Level) → Option Term) → Int → Int → Int → Str → (List Level) → Option Term // ∀ m X0, (∀ (v0 : Int) (v1 : Int) (v2 : Int) (v3 : Str) (r2 : List Level) (c2 : Nat), c2 = r2.length → run (family_itself_m n) [.lq m [0, 1, 0, 1, 1], .blk 0, .cut [1, 1, 1], .at [1, 1, 1]] ⟨[.any, .any, .any, .any, .ptr 0 0, .ptr 1 0, .any, .any, .any, .int .i64 v0, .int .i64 v1, .any, .any, .any, .any, .any, .any, .any, .any, .any, .any, .any, .any, .any], [.cells [.int .i64 0, .int .i64 0, .str (sb []), .lst true 0 [], .lst true 0 []], .cells [.int .i64 v2, .int .i64 0, .str (sb v3), .acc 2 c2, .lst true 0 []], .acc true 2 (mp Level.cells r2)], 0⟩ = X0 v0 v1 v2 v3 r2) → ∀ (v0 : Int) (v1 : Int) (v2 : Int) (v3 : Str) (r2 : List Level), run (family_itself_m n) [.at [0, 0, 1, 0, 1, 1], .lp m [0, 1, 0, 1, 1], .blk 0, .cut [1, 1, 1], .at [1, 1, 1]] ⟨[.any, .any, .any, .any, .ptr 0 0, .ptr 1 0, .any, .any, .any, .int .i64 v0, .int .i64 v1, .any, .any, .any, .any, .any, .any, .any, .any, .any, .any, .any, .any, .any], [.cells [.int .i64 0, .int .i64 0, .str (sb []), .lst true 0 [], .lst true 0 []], .cells [.int .i64 v2, .int .i64 0, .str (sb v3), .acc 2 r2.length, .lst true 0 []], .acc true 2 (mp Level.cells r2)], 0⟩ = B X0 v0 v1 v2 v3 r2 } := by
  apply Subtype.mk
  intro m X0 ih v0 v1 v2 v3 r2
  simp (config := { maxSteps := 100000000 }) only [go_sem, Nat.reduceAdd, Nat.reduceSub, Nat.reduceLeDiff, Nat.reduceEqDiff, Nat.reduceBEq, Nat.reduceMul, Nat.reduceLT, Int.reduceLE, Int.reduceLT, Int.reduceToNat, Int.reduceBEq, Int.reduceEq, family_itself_f, family_itself_c, Try.f56, Option.getD_some, mixed, family_itself_n1, ih]
  exact rfl
noncomputable def family_itself_l1 (n : Nat) : Nat → Int → Int → Int → Str → (List Level) → Option Term
  | 0, _, _, _, _, _ => none
  | m + 1, v0, v1, v2, v3, r2 => (family_itself_b1 n).1 (family_itself_l1 n m) v0 v1 v2 v3 r2
theorem family_itself_l1_eq (n : Nat) : ∀ (m : Nat), (∀ (v0 : Int) (v1 : Int) (v2 : Int) (v3 : Str) (r2 : List Level) (c2 : Nat), c2 = r2.length → run (family_itself_m n) [.lq m [0, 1, 0, 1, 1], .blk 0, .cut [1, 1, 1], .at [1, 1, 1]] ⟨[.any, .any, .any, .any, .ptr 0 0, .ptr 1 0, .any, .any, .any, .int .i64 v0, .int .i64 v1, .any, .any, .any, .any, .any, .any, .any, .any, .any, .any, .any, .any, .any], [.cells [.int .i64 0, .int .i64 0, .str (sb []), .lst true 0 [], .lst true 0 []], .cells [.int .i64 v2, .int .i64 0, .str (sb v3), .acc 2 c2, .lst true 0 []], .acc true 2 (mp Level.cells r2)], 0⟩ = family_itself_l1 n m v0 v1 v2 v3 r2)
  | 0 => by intros; exact run_lq_zero
  | m + 1 => by
    have ih := family_itself_l1_eq n m
    intro v0 v1 v2 v3 r2 c2 ec2
    subst ec2
    rw [run_lq_succ]
    exact (family_itself_b1 n).2  m _  ih v0 v1 v2 v3 r2
noncomputable def family_itself_e (n : Nat) : { B : Str → Int → Option Term // ∀ (a0 : Str) (a1 : Int), run (family_itself_m n) [.at []] { slots := [tyS.enc a0, (tyI .i64).enc a1] ++ List.replicate (24 - [tyS.enc a0, (tyI .i64).enc a1].length) .any, heap := [] } = B a0 a1 } := by
  apply Subtype.mk
  intro a0 a1
  simp (config := { maxSteps := 100000000 }) only [go_sem, Nat.reduceAdd, Nat.reduceSub, Nat.reduceLeDiff, Nat.reduceEqDiff, Nat.reduceBEq, Nat.reduceMul, Nat.reduceLT, Int.reduceLE, Int.reduceLT, Int.reduceToNat, Int.reduceBEq, Int.reduceEq, family_itself_f, family_itself_c, Try.f56, Option.getD_some, mixed, family_itself_n1, family_itself_l1_eq n]
  exact rfl
noncomputable def family_itself : Nat → Str → Int → Option Term
  | 0, _, _ => none
  | n + 1, a0, a1 => (family_itself_e n).1 a0 a1
theorem family_itself_ok : ∀ (n : Nat) (a0 : Str) (a1 : Int) (r : Term), family_itself n a0 a1 = some r → FnC Try.prog 56 [tyS.enc a0, (tyI .i64).enc a1] (fun v => v = (tyC Term.cel).enc r)
  | 0, _, _, _, h => by cases h
  | n + 1, a0, a1, r, h => by
    exact fnC_run (M := family_itself_m n) ⟨tabA_nil_ok, tabD_nil_ok, tabN_ok _, tabF_ok _, noY_ok, noE_ok⟩ Try.func56 rfl rfl ⟨tyS.nb 0 _, (tyI .i64).nb 0 _, trivial⟩ Try.ntmps56 Try.results56 (fun σ hs => outR_ok (P := Try.prog) (rs := [.cell 4 25]) (t := (tyC Term.cel)) (σ := σ) (r := r) hs) (((family_itself_e n).2 a0 a1).trans h)

noncomputable def ref01_Var_m (n : Nat) : Mach (Level × Int) where
  body := (Try.f88.body).getD .skip
  P := Try.prog
  cl := tabA []
  cd := tabD []
  nrm := tabN []
  cut := tabF []
  n := n
  out := outR Try.prog [.cell 4 51, .tmp 5] (ty2 (tyC Level.cel) (tyI .i64))
theorem ref01_Var_f (n : Nat) : (ref01_Var_m n).P = Try.prog ∧ (ref01_Var_m n).cl = tabA [] ∧ (ref01_Var_m n).cd = tabD [] ∧ (ref01_Var_m n).nrm = tabN [] ∧ (ref01_Var_m n).cut = tabF [] ∧ (ref01_Var_m n).n = n ∧ (ref01_Var_m n).out = outR Try.prog [.cell 4 51, .tmp 5] (ty2 (tyC Level.cel) (tyI .i64)) := ⟨rfl, rfl, rfl, rfl, rfl, rfl, rfl⟩
theorem ref01_Var_c (n : Nat) : (ref01_Var_m n).body = (Try.f88.body).getD .skip := rfl
noncomputable def ref01_Var_e (n : Nat) : { B : Int → Int → Option (Level × Int) // ∀ (a0 : Int) (a1 : Int), run (ref01_Var_m n) [.at []] { slots := [(tyI .i64).enc a0, (tyI .i64).enc a1] ++ List.replicate (25 - [(tyI .i64).enc a0, (tyI .i64).enc a1].length) .any, heap := [] } = B a0 a1 } := by
  apply Subtype.mk
  intro a0 a1
  simp (config := { maxSteps := 100000000 }) only [go_sem, Nat.reduceAdd, Nat.reduceSub, Nat.reduceLeDiff, Nat.reduceEqDiff, Nat.reduceBEq, Nat.reduceMul, Nat.reduceLT, Int.reduceLE, Int.reduceLT, Int.reduceToNat, Int.reduceBEq, Int.reduceEq, ref01_Var_f, ref01_Var_c, Try.f88, Option.getD_some, mixed]
  exact rfl
noncomputable def ref01_Var : Nat → Int → Int → Option (Level × Int)
  | 0, _, _ => none
  | n + 1, a0, a1 => (ref01_Var_e n).1 a0 a1
theorem ref01_Var_ok : ∀ (n : Nat) (a0 : Int) (a1 : Int) (r : (Level × Int)), ref01_Var n a0 a1 = some r → FnC Try.prog 88 [(tyI .i64).enc a0, (tyI .i64).enc a1] (fun v => v = (ty2 (tyC Level.cel) (tyI .i64)).enc r)
  | 0, _, _, _, h => by cases h
  | n + 1, a0, a1, r, h => by
    exact fnC_run (M := ref01_Var_m n) ⟨tabA_nil_ok, tabD_nil_ok, tabN_ok _, tabF_ok _, noY_ok, noE_ok⟩ Try.func88 rfl rfl ⟨(tyI .i64).nb 0 _, (tyI .i64).nb 0 _, trivial⟩ Try.ntmps88 Try.results88 (fun σ hs => outR_ok (P := Try.prog) (rs := [.cell 4 51, .tmp 5]) (t := (ty2 (tyC Level.cel) (tyI .i64))) (σ := σ) (r := r) hs) (((ref01_Var_e n).2 a0 a1).trans h)

noncomputable def telescope_Apply_n1 : Nrm := ⟨[], [], [zA, zA, zK, zA, zK, zA, zA, zT (tyL Term.row), zK, zK, zA, zA, zA, zA, zA, zA, zA, zA, zA], [oT Term.cel, oK], none⟩
noncomputable def telescope_Apply_m (n : Nat) : Mach Term where
  body := (Try.f46.body).getD .skip
  P := Try.prog
  cl := tabA []
  cd := tabD []
  nrm := tabN [([0, 1, 0, 1], telescope_Apply_n1)]
  cut := tabF []
  n := n
  out := outR Try.prog [.cell 4 25] (tyC Term.cel)
theorem telescope_Apply_f (n : Nat) : (telescope_Apply_m n).P = Try.prog ∧ (telescope_Apply_m n).cl = tabA [] ∧ (telescope_Apply_m n).cd = tabD [] ∧ (telescope_Apply_m n).nrm = tabN [([0, 1, 0, 1], telescope_Apply_n1)] ∧ (telescope_Apply_m n).cut = tabF [] ∧ (telescope_Apply_m n).n = n ∧ (telescope_Apply_m n).out = outR Try.prog [.cell 4 25] (tyC Term.cel) := ⟨rfl, rfl, rfl, rfl, rfl, rfl, rfl⟩
theorem telescope_Apply_c (n : Nat) : (telescope_Apply_m n).body = (Try.f46.body).getD .skip := rfl
noncomputable def telescope_Apply_b1 (n : Nat) : { B : ((List Term) → Int → Int → Term → Option Term) → (List Term) → Int → Int → Term → Option Term // ∀ m X0, (∀ (v0 : List Term) (v1 : Int) (v2 : Int) (o0 : Term), run (telescope_Apply_m n) [.lq m [0, 1, 0, 1], .blk 0, .cut [1, 1], .at [1, 1]] ⟨[.any, .any, .ptr 0 0, .any, .ptr 1 0, .any, .any, .lst false 5 (mp Term.cells v0), .int .i64 v1, .int .i64 v2, .any, .any, .any, .any, .any, .any, .any, .any, .any], [.cells (Term.cells o0), .cells [.int .i64 0, .int .i64 0, .str (sb []), .lst true 0 [], .lst true 0 []]], 0⟩ = X0 v0 v1 v2 o0) → ∀ (v0 : List Term) (v1 : Int) (v2 : Int) (o0 : Term), run (telescope_Apply_m n) [.at [0, 0, 1, 0, 1], .lp m [0, 1, 0, 1], .blk 0, .cut [1, 1], .at [1, 1]] ⟨[.any, .any, .ptr 0 0, .any, .ptr 1 0, .any, .any, .lst false 5 (mp Term.cells v0), .int .i64 v1, .int .i64 v2, .any, .any, .any, .any, .any, .any, .any, .any, .any], [.cells (Term.cells o0), .cells [.int .i64 0, .int .i64 0, .str (sb []), .lst true 0 [], .lst true 0 []]], 0⟩ = B X0 v0 v1 v2 o0 } := by
  apply Subtype.mk
  intro m X0 ih v0 v1 v2 o0
  simp (config := { maxSteps := 100000000 }) only [go_sem, Nat.reduceAdd, Nat.reduceSub, Nat.reduceLeDiff, Nat.reduceEqDiff, Nat.reduceBEq, Nat.reduceMul, Nat.reduceLT, Int.reduceLE, Int.reduceLT, Int.reduceToNat, Int.reduceBEq, Int.reduceEq, telescope_Apply_f, telescope_Apply_c, Try.f46, Option.getD_some, mixed, telescope_Apply_n1, ih]
  exact rfl
noncomputable def telescope_Apply_l1 (n : Nat) : Nat → (List Term) → Int → Int → Term → Option Term
  | 0, _, _, _, _ => none
  | m + 1, v0, v1, v2, o0 => (telescope_Apply_b1 n).1 (telescope_Apply_l1 n m) v0 v1 v2 o0
theorem telescope_Apply_l1_eq (n : Nat) : ∀ (m : Nat), (∀ (v0 : List Term) (v1 : Int) (v2 : Int) (o0 : Term), run (telescope_Apply_m n) [.lq m [0, 1, 0, 1], .blk 0, .cut [1, 1], .at [1, 1]] ⟨[.any, .any, .ptr 0 0, .any, .ptr 1 0, .any, .any, .lst false 5 (mp Term.cells v0), .int .i64 v1, .int .i64 v2, .any, .any, .any, .any, .any, .any, .any, .any, .any], [.cells (Term.cells o0), .cells [.int .i64 0, .int .i64 0, .str (sb []), .lst true 0 [], .lst true 0 []]], 0⟩ = telescope_Apply_l1 n m v0 v1 v2 o0)
  | 0 => by intros; exact run_lq_zero
  | m + 1 => by
    have ih := telescope_Apply_l1_eq n m
    intro v0 v1 v2 o0
    rw [run_lq_succ]
    exact (telescope_Apply_b1 n).2  m _  ih v0 v1 v2 o0
noncomputable def telescope_Apply_e (n : Nat) : { B : Term → (List Term) → Option Term // ∀ (a0 : Term) (a1 : (List Term)), run (telescope_Apply_m n) [.at []] { slots := [(tyC Term.cel).enc a0, (tyL Term.row).enc a1] ++ List.replicate (19 - [(tyC Term.cel).enc a0, (tyL Term.row).enc a1].length) .any, heap := [] } = B a0 a1 } := by
  apply Subtype.mk
  intro a0 a1
  simp (config := { maxSteps := 100000000 }) only [go_sem, Nat.reduceAdd, Nat.reduceSub, Nat.reduceLeDiff, Nat.reduceEqDiff, Nat.reduceBEq, Nat.reduceMul, Nat.reduceLT, Int.reduceLE, Int.reduceLT, Int.reduceToNat, Int.reduceBEq, Int.reduceEq, telescope_Apply_f, telescope_Apply_c, Try.f46, Option.getD_some, mixed, telescope_Apply_n1, telescope_Apply_l1_eq n]
  exact rfl
noncomputable def telescope_Apply : Nat → Term → (List Term) → Option Term
  | 0, _, _ => none
  | n + 1, a0, a1 => (telescope_Apply_e n).1 a0 a1
theorem telescope_Apply_ok : ∀ (n : Nat) (a0 : Term) (a1 : (List Term)) (r : Term), telescope_Apply n a0 a1 = some r → FnC Try.prog 46 [(tyC Term.cel).enc a0, (tyL Term.row).enc a1] (fun v => v = (tyC Term.cel).enc r)
  | 0, _, _, _, h => by cases h
  | n + 1, a0, a1, r, h => by
    exact fnC_run (M := telescope_Apply_m n) ⟨tabA_nil_ok, tabD_nil_ok, tabN_ok _, tabF_ok _, noY_ok, noE_ok⟩ Try.func46 rfl rfl ⟨(tyC Term.cel).nb 0 _, (tyL Term.row).nb 0 _, trivial⟩ Try.ntmps46 Try.results46 (fun σ hs => outR_ok (P := Try.prog) (rs := [.cell 4 25]) (t := (tyC Term.cel)) (σ := σ) (r := r) hs) (((telescope_Apply_e n).2 a0 a1).trans h)

noncomputable def telescope_over_m (n : Nat) : Mach Int where
  body := (Try.f66.body).getD .skip
  P := Try.prog
  cl := tabA []
  cd := tabD []
  nrm := tabN []
  cut := tabF [([1, 1], [0])]
  n := n
  out := outR Try.prog [.tmp 2] (tyK1 103 (tyP (cI .i64)))
theorem telescope_over_f (n : Nat) : (telescope_over_m n).P = Try.prog ∧ (telescope_over_m n).cl = tabA [] ∧ (telescope_over_m n).cd = tabD [] ∧ (telescope_over_m n).nrm = tabN [] ∧ (telescope_over_m n).cut = tabF [([1, 1], [0])] ∧ (telescope_over_m n).n = n ∧ (telescope_over_m n).out = outR Try.prog [.tmp 2] (tyK1 103 (tyP (cI .i64))) := ⟨rfl, rfl, rfl, rfl, rfl, rfl, rfl⟩
theorem telescope_over_c (n : Nat) : (telescope_over_m n).body = (Try.f66.body).getD .skip := rfl
noncomputable def telescope_over_e (n : Nat) : { B : Int → Option Int // ∀ (a0 : Int), run (telescope_over_m n) [.at []] { slots := [(tyI .i64).enc a0] ++ List.replicate (4 - [(tyI .i64).enc a0].length) .any, heap := [] } = B a0 } := by
  apply Subtype.mk
  intro a0
  simp (config := { maxSteps := 100000000 }) only [go_sem, Nat.reduceAdd, Nat.reduceSub, Nat.reduceLeDiff, Nat.reduceEqDiff, Nat.reduceBEq, Nat.reduceMul, Nat.reduceLT, Int.reduceLE, Int.reduceLT, Int.reduceToNat, Int.reduceBEq, Int.reduceEq, telescope_over_f, telescope_over_c, Try.f66, Option.getD_some, mixed]
  exact rfl
noncomputable def telescope_over : Nat → Int → Option Int
  | 0, _ => none
  | n + 1, a0 => (telescope_over_e n).1 a0
theorem telescope_over_ok : ∀ (n : Nat) (a0 : Int) (r : Int), telescope_over n a0 = some r → FnC Try.prog 66 [(tyI .i64).enc a0] (fun v => v = (tyK1 103 (tyP (cI .i64))).enc r)
  | 0, _, _, h => by cases h
  | n + 1, a0, r, h => by
    exact fnC_run (M := telescope_over_m n) ⟨tabA_nil_ok, tabD_nil_ok, tabN_ok _, tabF_ok _, noY_ok, noE_ok⟩ Try.func66 rfl rfl ⟨(tyI .i64).nb 0 _, trivial⟩ Try.ntmps66 Try.results66 (fun σ hs => outR_ok (P := Try.prog) (rs := [.tmp 2]) (t := (tyK1 103 (tyP (cI .i64)))) (σ := σ) (r := r) hs) (((telescope_over_e n).2 a0).trans h)

noncomputable def slices_Backward_Term_m (n : Nat) : Mach (List Term) where
  body := (Try.f104.body).getD .skip
  P := Try.prog
  cl := tabA []
  cd := tabD []
  nrm := tabN []
  cut := tabF [([1, 1], [0])]
  n := n
  out := outR Try.prog [.tmp 2] (tyK1 117 (tyP (cL Term.row)))
theorem slices_Backward_Term_f (n : Nat) : (slices_Backward_Term_m n).P = Try.prog ∧ (slices_Backward_Term_m n).cl = tabA [] ∧ (slices_Backward_Term_m n).cd = tabD [] ∧ (slices_Backward_Term_m n).nrm = tabN [] ∧ (slices_Backward_Term_m n).cut = tabF [([1, 1], [0])] ∧ (slices_Backward_Term_m n).n = n ∧ (slices_Backward_Term_m n).out = outR Try.prog [.tmp 2] (tyK1 117 (tyP (cL Term.row))) := ⟨rfl, rfl, rfl, rfl, rfl, rfl, rfl⟩
theorem slices_Backward_Term_c (n : Nat) : (slices_Backward_Term_m n).body = (Try.f104.body).getD .skip := rfl
noncomputable def slices_Backward_Term_e (n : Nat) : { B : (List Term) → Option (List Term) // ∀ (a0 : (List Term)), run (slices_Backward_Term_m n) [.at []] { slots := [(tyL Term.row).enc a0] ++ List.replicate (4 - [(tyL Term.row).enc a0].length) .any, heap := [] } = B a0 } := by
  apply Subtype.mk
  intro a0
  simp (config := { maxSteps := 100000000 }) only [go_sem, Nat.reduceAdd, Nat.reduceSub, Nat.reduceLeDiff, Nat.reduceEqDiff, Nat.reduceBEq, Nat.reduceMul, Nat.reduceLT, Int.reduceLE, Int.reduceLT, Int.reduceToNat, Int.reduceBEq, Int.reduceEq, slices_Backward_Term_f, slices_Backward_Term_c, Try.f104, Option.getD_some, mixed]
  exact rfl
noncomputable def slices_Backward_Term : Nat → (List Term) → Option (List Term)
  | 0, _ => none
  | n + 1, a0 => (slices_Backward_Term_e n).1 a0
theorem slices_Backward_Term_ok : ∀ (n : Nat) (a0 : (List Term)) (r : (List Term)), slices_Backward_Term n a0 = some r → FnC Try.prog 104 [(tyL Term.row).enc a0] (fun v => v = (tyK1 117 (tyP (cL Term.row))).enc r)
  | 0, _, _, h => by cases h
  | n + 1, a0, r, h => by
    exact fnC_run (M := slices_Backward_Term_m n) ⟨tabA_nil_ok, tabD_nil_ok, tabN_ok _, tabF_ok _, noY_ok, noE_ok⟩ Try.func104 rfl rfl ⟨(tyL Term.row).nb 0 _, trivial⟩ Try.ntmps104 Try.results104 (fun σ hs => outR_ok (P := Try.prog) (rs := [.tmp 2]) (t := (tyK1 117 (tyP (cL Term.row)))) (σ := σ) (r := r) hs) (((slices_Backward_Term_e n).2 a0).trans h)
end Go.Abs
namespace Go.Abs
open Go.Proofs
set_option maxRecDepth 100000
set_option maxHeartbeats 4000000
set_option linter.unusedSimpArgs false
set_option linter.unusedVariables false
noncomputable def telescope_over_1_k0_1_0_1 : LoopC := (lkAt [] (sub [0, 1, 0, 1] ((Try.f103.body).getD .skip)))
theorem telescope_over_1_k0_1_0_1_f : telescope_over_1_k0_1_0_1.ps.size = 2 ∧ ∀ j : Int, pendOf telescope_over_1_k0_1_0_1.js j = none := ⟨by kernel_rfl, fun j => (by show pendOf [] j = none; unfold pendOf lookJ; cases (j == 0) <;> rfl)⟩
noncomputable def telescope_over_1_k0_1_0_1_r_as : AL (Int × (Term × Unit)) := (alT (tyI .i64) (alT (tyC Term.cel) alN))
noncomputable def telescope_over_1_k0_1_0_1_r_os : OL ((Int × Unit) × ((Term × Unit) × Unit)) := (olC (ogL0 telescope_over_1_k0_1_0_1 (alZ (alZ (alT (tyP (cI .i64)) (alZ (alP 1 (alZs 13 alN))))))) (olC (ogC (alC Term.cel 5 alN)) olN))
noncomputable def telescope_over_1_k0_1_0_1_r_o1 : OL (((Int × Unit) × Int) × ((Term × Unit) × Unit)) := (olC (ogL telescope_over_1_k0_1_0_1 (alZ (alZ (alT (tyP (cI .i64)) (alZ (alP 1 (alZs 13 alN))))))) (olC (ogC (alC Term.cel 5 alN)) olN))
noncomputable def telescope_over_1_k0_1_0_1_r_m (n : Nat) : Mach ((((Int × Unit) × Int) × ((Term × Unit) × Unit)) × (Bool × Unit)) where
  body := .seq (asgnC (sub [0, 1, 0, 1] ((Try.f103.body).getD .skip))) (bdyC (sub [0, 1, 0, 1] ((Try.f103.body).getD .skip)))
  P := Try.prog
  cl := tabA []
  cd := tabD []
  nrm := tabN []
  cut := tabF []
  n := n
  out := (fun _ => none)
  outR := outRd [] [] [0, 1] 2 telescope_over_1_k0_1_0_1_r_o1
theorem telescope_over_1_k0_1_0_1_r_f (n : Nat) : (telescope_over_1_k0_1_0_1_r_m n).P = Try.prog ∧ (telescope_over_1_k0_1_0_1_r_m n).cl = tabA [] ∧ (telescope_over_1_k0_1_0_1_r_m n).cd = tabD [] ∧ (telescope_over_1_k0_1_0_1_r_m n).nrm = tabN [] ∧ (telescope_over_1_k0_1_0_1_r_m n).cut = tabF [] ∧ (telescope_over_1_k0_1_0_1_r_m n).n = n ∧ (telescope_over_1_k0_1_0_1_r_m n).out = (fun _ => none) ∧ (telescope_over_1_k0_1_0_1_r_m n).outR = outRd [] [] [0, 1] 2 telescope_over_1_k0_1_0_1_r_o1 := ⟨rfl, rfl, rfl, rfl, rfl, rfl, rfl, rfl⟩
theorem telescope_over_1_k0_1_0_1_r_c (n : Nat) : (telescope_over_1_k0_1_0_1_r_m n).body = .seq (asgnC (sub [0, 1, 0, 1] ((Try.f103.body).getD .skip))) (bdyC (sub [0, 1, 0, 1] ((Try.f103.body).getD .skip))) := rfl
theorem telescope_over_1_k0_1_0_1_r_s : Code.seq (asgnC (sub [0, 1, 0, 1] ((Try.f103.body).getD .skip))) (bdyC (sub [0, 1, 0, 1] ((Try.f103.body).getD .skip))) = Code.seq telescope_over_1_k0_1_0_1.assign telescope_over_1_k0_1_0_1.body := by kernel_rfl
noncomputable def telescope_over_1_k0_1_0_1_r_e (n : Nat) : { B : Int → Term → Int → Term → Option ((((Int × Unit) × Int) × ((Term × Unit) × Unit)) × (Bool × Unit)) // ∀ (a0 : Int) (a1 : Term) (o0 : Int) (o1 : Term), run (telescope_over_1_k0_1_0_1_r_m n) [.at [0], .rb, .at [1], .rd] { slots := setPs ((alZ (alZ (alT (tyP (cI .i64)) (alZ (alP 1 (alZs 13 alN)))))).enc (telescope_over_1_k0_1_0_1_r_os.lens ((o0, ()), (o1, ()), ())) (o0, ())) [10, 11] (telescope_over_1_k0_1_0_1_r_as.enc (telescope_over_1_k0_1_0_1_r_os.lens ((o0, ()), (o1, ()), ())) (a0, a1, ())), heap := (telescope_over_1_k0_1_0_1_r_os.enc (telescope_over_1_k0_1_0_1_r_os.lens ((o0, ()), (o1, ()), ())) ((o0, ()), (o1, ()), ())), low := (telescope_over_1_k0_1_0_1_r_os.enc (telescope_over_1_k0_1_0_1_r_os.lens ((o0, ()), (o1, ()), ())) ((o0, ()), (o1, ()), ())).length } = B a0 a1 o0 o1 } := by
  apply Subtype.mk
  intro a0 a1 o0 o1
  simp (config := { maxSteps := 100000000 }) only [go_sem, Nat.reduceAdd, Nat.reduceSub, Nat.reduceLeDiff, Nat.reduceEqDiff, Nat.reduceBEq, Nat.reduceMul, Nat.reduceLT, Int.reduceLE, Int.reduceLT, Int.reduceToNat, Int.reduceBEq, Int.reduceEq, telescope_over_1_k0_1_0_1_r_f, telescope_over_1_k0_1_0_1_r_c, Try.f103, Option.getD_some, mixed, telescope_over_1_k0_1_0_1_r_as, telescope_over_1_k0_1_0_1_r_os, telescope_over_1_k0_1_0_1_r_o1, telescope_over_1_k0_1_0_1_f]
  exact rfl
noncomputable def telescope_over_1_k0_1_0_1_r : Nat → Int → Term → Int → Term → Option ((((Int × Unit) × Int) × ((Term × Unit) × Unit)) × (Bool × Unit))
  | 0, _, _, _, _ => none
  | n + 1, a0, a1, o0, o1 => (telescope_over_1_k0_1_0_1_r_e n).1 a0 a1 o0 o1
theorem telescope_over_1_k0_1_0_1_r_ok : ∀ (n : Nat) (a0 : Int) (a1 : Term) (o0 : Int) (o1 : Term) (r : ((((Int × Unit) × Int) × ((Term × Unit) × Unit)) × (Bool × Unit))), telescope_over_1_k0_1_0_1_r n a0 a1 o0 o1 = some r → FnT Try.prog (Rounds Try.prog) (telescope_over_1_k0_1_0_1_r_as.enc (telescope_over_1_k0_1_0_1_r_os.lens ((o0, ()), (o1, ()), ())) (a0, a1, ())) (telescope_over_1_k0_1_0_1_r_os.enc (telescope_over_1_k0_1_0_1_r_os.lens ((o0, ()), (o1, ()), ())) ((o0, ()), (o1, ()), ())) (fun o H' => o = .ret (tupOf ((alT tyB alN).enc (telescope_over_1_k0_1_0_1_r_o1.lens r.1) r.2)) ∧ H' = telescope_over_1_k0_1_0_1_r_o1.enc (telescope_over_1_k0_1_0_1_r_o1.lens r.1) r.1)
  | 0, _, _, _, _, _, h => by cases h
  | n + 1, a0, a1, o0, o1, r, h => by
    exact fnT_run (M := telescope_over_1_k0_1_0_1_r_m n) (lk := telescope_over_1_k0_1_0_1) (slots := ((alZ (alZ (alT (tyP (cI .i64)) (alZ (alP 1 (alZs 13 alN)))))).enc (telescope_over_1_k0_1_0_1_r_os.lens ((o0, ()), (o1, ()), ())) (o0, ()))) ⟨tabA_nil_ok, tabD_nil_ok, tabN_ok _, tabF_ok _, noY_ok, noE_ok⟩ telescope_over_1_k0_1_0_1_r_s (by kernel_rfl) ⟨by kernel_rfl, by kernel_rfl⟩ rfl (nbL_le (Nat.le_trans (of_decide_eq_true (by kernel_rfl)) (Nat.le_of_eq (telescope_over_1_k0_1_0_1_r_os.sz _ _).symm)) _ (telescope_over_1_k0_1_0_1_r_as.nb _ _)) (fun x hx => objNb_le' (Nat.le_trans (of_decide_eq_true (by kernel_rfl)) (Nat.le_of_eq (telescope_over_1_k0_1_0_1_r_os.sz _ _).symm)) _ (telescope_over_1_k0_1_0_1_r_os.nb _ _ x hx)) (fun e σ hs => outRd_ok (js := []) (pos := []) (base := [0, 1]) (low := 2) (os := telescope_over_1_k0_1_0_1_r_o1) (e := e) (σ := σ) (r := r) (by rfl) hs) (((telescope_over_1_k0_1_0_1_r_e n).2 a0 a1 o0 o1).trans h)

noncomputable def term_nodes_m (n : Nat) : Mach Term where
  body := (Try.f89.body).getD .skip
  P := Try.prog
  cl := tabA []
  cd := tabD []
  nrm := tabN []
  cut := tabF [([1, 1], [0])]
  n := n
  out := outR Try.prog [.tmp 2] (tyK1 114 (tyP Term.cel))
theorem term_nodes_f (n : Nat) : (term_nodes_m n).P = Try.prog ∧ (term_nodes_m n).cl = tabA [] ∧ (term_nodes_m n).cd = tabD [] ∧ (term_nodes_m n).nrm = tabN [] ∧ (term_nodes_m n).cut = tabF [([1, 1], [0])] ∧ (term_nodes_m n).n = n ∧ (term_nodes_m n).out = outR Try.prog [.tmp 2] (tyK1 114 (tyP Term.cel)) := ⟨rfl, rfl, rfl, rfl, rfl, rfl, rfl⟩
theorem term_nodes_c (n : Nat) : (term_nodes_m n).body = (Try.f89.body).getD .skip := rfl
noncomputable def term_nodes_e (n : Nat) : { B : Term → Option Term // ∀ (a0 : Term), run (term_nodes_m n) [.at []] { slots := [(tyC Term.cel).enc a0] ++ List.replicate (4 - [(tyC Term.cel).enc a0].length) .any, heap := [] } = B a0 } := by
  apply Subtype.mk
  intro a0
  simp (config := { maxSteps := 100000000 }) only [go_sem, Nat.reduceAdd, Nat.reduceSub, Nat.reduceLeDiff, Nat.reduceEqDiff, Nat.reduceBEq, Nat.reduceMul, Nat.reduceLT, Int.reduceLE, Int.reduceLT, Int.reduceToNat, Int.reduceBEq, Int.reduceEq, term_nodes_f, term_nodes_c, Try.f89, Option.getD_some, mixed]
  exact rfl
noncomputable def term_nodes : Nat → Term → Option Term
  | 0, _ => none
  | n + 1, a0 => (term_nodes_e n).1 a0
theorem term_nodes_ok : ∀ (n : Nat) (a0 : Term) (r : Term), term_nodes n a0 = some r → FnC Try.prog 89 [(tyC Term.cel).enc a0] (fun v => v = (tyK1 114 (tyP Term.cel)).enc r)
  | 0, _, _, h => by cases h
  | n + 1, a0, r, h => by
    exact fnC_run (M := term_nodes_m n) ⟨tabA_nil_ok, tabD_nil_ok, tabN_ok _, tabF_ok _, noY_ok, noE_ok⟩ Try.func89 rfl rfl ⟨(tyC Term.cel).nb 0 _, trivial⟩ Try.ntmps89 Try.results89 (fun σ hs => outR_ok (P := Try.prog) (rs := [.tmp 2]) (t := (tyK1 114 (tyP Term.cel))) (σ := σ) (r := r) hs) (((term_nodes_e n).2 a0).trans h)

noncomputable def term_uses_m (n : Nat) : Mach (Tup TermUse 13) where
  body := (Try.f115.body).getD .skip
  P := Try.prog
  cl := tabA []
  cd := tabD []
  nrm := tabN []
  cut := tabF []
  n := n
  out := outR Try.prog [.cell 0 161] (tyC (cA TermUse.cel 5 13))
theorem term_uses_f (n : Nat) : (term_uses_m n).P = Try.prog ∧ (term_uses_m n).cl = tabA [] ∧ (term_uses_m n).cd = tabD [] ∧ (term_uses_m n).nrm = tabN [] ∧ (term_uses_m n).cut = tabF [] ∧ (term_uses_m n).n = n ∧ (term_uses_m n).out = outR Try.prog [.cell 0 161] (tyC (cA TermUse.cel 5 13)) := ⟨rfl, rfl, rfl, rfl, rfl, rfl, rfl⟩
theorem term_uses_c (n : Nat) : (term_uses_m n).body = (Try.f115.body).getD .skip := rfl
noncomputable def term_uses_e (n : Nat) : { B : Option (Tup TermUse 13) // run (term_uses_m n) [.at []] { slots := ([] : List AV) ++ List.replicate (15 - ([] : List AV).length) .any, heap := [] } = B } := by
  apply Subtype.mk
  simp (config := { maxSteps := 100000000 }) only [go_sem, Nat.reduceAdd, Nat.reduceSub, Nat.reduceLeDiff, Nat.reduceEqDiff, Nat.reduceBEq, Nat.reduceMul, Nat.reduceLT, Int.reduceLE, Int.reduceLT, Int.reduceToNat, Int.reduceBEq, Int.reduceEq, term_uses_f, term_uses_c, Try.f115, Option.getD_some, mixed, tupDec]
  exact rfl
noncomputable def term_uses : Nat → Option (Tup TermUse 13)
  | 0 => none
  | n + 1 => (term_uses_e n).1
theorem term_uses_ok : ∀ (n : Nat) (r : (Tup TermUse 13)), term_uses n = some r → FnC Try.prog 115 [] (fun v => v = (tyC (cA TermUse.cel 5 13)).enc r)
  | 0, _, h => by cases h
  | n + 1, r, h => by
    exact fnC_run (M := term_uses_m n) ⟨tabA_nil_ok, tabD_nil_ok, tabN_ok _, tabF_ok _, noY_ok, noE_ok⟩ Try.func115 rfl rfl trivial Try.ntmps115 Try.results115 (fun σ hs => outR_ok (P := Try.prog) (rs := [.cell 0 161]) (t := (tyC (cA TermUse.cel 5 13))) (σ := σ) (r := r) hs) (((term_uses_e n).2).trans h)

noncomputable def term_Consts_k0_1_0_1_1_1 : LoopC := (lkAt [] (sub [0, 1, 0, 1, 1, 1] ((Try.f48.body).getD .skip)))
theorem term_Consts_k0_1_0_1_1_1_f : term_Consts_k0_1_0_1_1_1.ps.size = 2 ∧ ∀ j : Int, pendOf term_Consts_k0_1_0_1_1_1.js j = none := ⟨by kernel_rfl, fun j => (by show pendOf [] j = none; unfold pendOf lookJ; cases (j == 0) <;> rfl)⟩
noncomputable def term_Consts_k0_1_0_1_1_1_r_as : AL (Int × (Term × Unit)) := (alT (tyI .i64) (alT (tyC Term.cel) alN))
noncomputable def term_Consts_k0_1_0_1_1_1_r_os : OL (Unit × (Unit × (Unit × ((List (Str × Bool)) × ((List Str) × Unit))))) := (olC (ogL0 term_Consts_k0_1_0_1_1_1 (alZs 3 (alP 1 (alP 2 (alZs 26 alN))))) (olC (ogC (alM 3 alN)) (olC (ogC (alA 4 alN)) (olC ogM (olC (ogA true rowS) olN)))))
noncomputable def term_Consts_k0_1_0_1_1_1_r_o1 : OL ((Unit × Int) × (Unit × (Unit × ((List (Str × Bool)) × ((List Str) × Unit))))) := (olC (ogL term_Consts_k0_1_0_1_1_1 (alZs 3 (alP 1 (alP 2 (alZs 26 alN))))) (olC (ogC (alM 3 alN)) (olC (ogC (alA 4 alN)) (olC ogM (olC (ogA true rowS) olN)))))
noncomputable def term_Consts_k0_1_0_1_1_1_r_m (n : Nat) : Mach (((Unit × Int) × (Unit × (Unit × ((List (Str × Bool)) × ((List Str) × Unit))))) × (Bool × Unit)) where
  body := .seq (asgnC (sub [0, 1, 0, 1, 1, 1] ((Try.f48.body).getD .skip))) (bdyC (sub [0, 1, 0, 1, 1, 1] ((Try.f48.body).getD .skip)))
  P := Try.prog
  cl := tabA []
  cd := tabD []
  nrm := tabN []
  cut := tabF []
  n := n
  out := (fun _ => none)
  outR := outRd [] [] [0, 1, 2, 3, 4] 5 term_Consts_k0_1_0_1_1_1_r_o1
theorem term_Consts_k0_1_0_1_1_1_r_f (n : Nat) : (term_Consts_k0_1_0_1_1_1_r_m n).P = Try.prog ∧ (term_Consts_k0_1_0_1_1_1_r_m n).cl = tabA [] ∧ (term_Consts_k0_1_0_1_1_1_r_m n).cd = tabD [] ∧ (term_Consts_k0_1_0_1_1_1_r_m n).nrm = tabN [] ∧ (term_Consts_k0_1_0_1_1_1_r_m n).cut = tabF [] ∧ (term_Consts_k0_1_0_1_1_1_r_m n).n = n ∧ (term_Consts_k0_1_0_1_1_1_r_m n).out = (fun _ => none) ∧ (term_Consts_k0_1_0_1_1_1_r_m n).outR = outRd [] [] [0, 1, 2, 3, 4] 5 term_Consts_k0_1_0_1_1_1_r_o1 := ⟨rfl, rfl, rfl, rfl, rfl, rfl, rfl, rfl⟩
theorem term_Consts_k0_1_0_1_1_1_r_c (n : Nat) : (term_Consts_k0_1_0_1_1_1_r_m n).body = .seq (asgnC (sub [0, 1, 0, 1, 1, 1] ((Try.f48.body).getD .skip))) (bdyC (sub [0, 1, 0, 1, 1, 1] ((Try.f48.body).getD .skip))) := rfl
theorem term_Consts_k0_1_0_1_1_1_r_s : Code.seq (asgnC (sub [0, 1, 0, 1, 1, 1] ((Try.f48.body).getD .skip))) (bdyC (sub [0, 1, 0, 1, 1, 1] ((Try.f48.body).getD .skip))) = Code.seq term_Consts_k0_1_0_1_1_1.assign term_Consts_k0_1_0_1_1_1.body := by kernel_rfl
noncomputable def term_Consts_k0_1_0_1_1_1_r_e (n : Nat) : { B : Int → Term → (List (Str × Bool)) → (List Str) → Option (((Unit × Int) × (Unit × (Unit × ((List (Str × Bool)) × ((List Str) × Unit))))) × (Bool × Unit)) // ∀ (a0 : Int) (a1 : Term) (o0 : (List (Str × Bool))) (o1 : (List Str)), run (term_Consts_k0_1_0_1_1_1_r_m n) [.at [0], .rb, .at [1], .rd] { slots := setPs ((alZs 3 (alP 1 (alP 2 (alZs 26 alN)))).enc (term_Consts_k0_1_0_1_1_1_r_os.lens ((), (), (), o0, o1, ())) ()) [10, 11] (term_Consts_k0_1_0_1_1_1_r_as.enc (term_Consts_k0_1_0_1_1_1_r_os.lens ((), (), (), o0, o1, ())) (a0, a1, ())), heap := (term_Consts_k0_1_0_1_1_1_r_os.enc (term_Consts_k0_1_0_1_1_1_r_os.lens ((), (), (), o0, o1, ())) ((), (), (), o0, o1, ())), low := (term_Consts_k0_1_0_1_1_1_r_os.enc (term_Consts_k0_1_0_1_1_1_r_os.lens ((), (), (), o0, o1, ())) ((), (), (), o0, o1, ())).length } = B a0 a1 o0 o1 } := by
  apply Subtype.mk
  intro a0 a1 o0 o1
  simp (config := { maxSteps := 100000000 }) only [go_sem, Nat.reduceAdd, Nat.reduceSub, Nat.reduceLeDiff, Nat.reduceEqDiff, Nat.reduceBEq, Nat.reduceMul, Nat.reduceLT, Int.reduceLE, Int.reduceLT, Int.reduceToNat, Int.reduceBEq, Int.reduceEq, term_Consts_k0_1_0_1_1_1_r_f, term_Consts_k0_1_0_1_1_1_r_c, Try.f48, Option.getD_some, mixed, term_Consts_k0_1_0_1_1_1_r_as, term_Consts_k0_1_0_1_1_1_r_os, term_Consts_k0_1_0_1_1_1_r_o1, term_Consts_k0_1_0_1_1_1_f]
  exact rfl
noncomputable def term_Consts_k0_1_0_1_1_1_r : Nat → Int → Term → (List (Str × Bool)) → (List Str) → Option (((Unit × Int) × (Unit × (Unit × ((List (Str × Bool)) × ((List Str) × Unit))))) × (Bool × Unit))
  | 0, _, _, _, _ => none
  | n + 1, a0, a1, o0, o1 => (term_Consts_k0_1_0_1_1_1_r_e n).1 a0 a1 o0 o1
theorem term_Consts_k0_1_0_1_1_1_r_ok : ∀ (n : Nat) (a0 : Int) (a1 : Term) (o0 : (List (Str × Bool))) (o1 : (List Str)) (r : (((Unit × Int) × (Unit × (Unit × ((List (Str × Bool)) × ((List Str) × Unit))))) × (Bool × Unit))), term_Consts_k0_1_0_1_1_1_r n a0 a1 o0 o1 = some r → FnT Try.prog (Rounds Try.prog) (term_Consts_k0_1_0_1_1_1_r_as.enc (term_Consts_k0_1_0_1_1_1_r_os.lens ((), (), (), o0, o1, ())) (a0, a1, ())) (term_Consts_k0_1_0_1_1_1_r_os.enc (term_Consts_k0_1_0_1_1_1_r_os.lens ((), (), (), o0, o1, ())) ((), (), (), o0, o1, ())) (fun o H' => o = .ret (tupOf ((alT tyB alN).enc (term_Consts_k0_1_0_1_1_1_r_o1.lens r.1) r.2)) ∧ H' = term_Consts_k0_1_0_1_1_1_r_o1.enc (term_Consts_k0_1_0_1_1_1_r_o1.lens r.1) r.1)
  | 0, _, _, _, _, _, h => by cases h
  | n + 1, a0, a1, o0, o1, r, h => by
    exact fnT_run (M := term_Consts_k0_1_0_1_1_1_r_m n) (lk := term_Consts_k0_1_0_1_1_1) (slots := ((alZs 3 (alP 1 (alP 2 (alZs 26 alN)))).enc (term_Consts_k0_1_0_1_1_1_r_os.lens ((), (), (), o0, o1, ())) ())) ⟨tabA_nil_ok, tabD_nil_ok, tabN_ok _, tabF_ok _, noY_ok, noE_ok⟩ term_Consts_k0_1_0_1_1_1_r_s (by kernel_rfl) ⟨by kernel_rfl, by kernel_rfl⟩ rfl (nbL_le (Nat.le_trans (of_decide_eq_true (by kernel_rfl)) (Nat.le_of_eq (term_Consts_k0_1_0_1_1_1_r_os.sz _ _).symm)) _ (term_Consts_k0_1_0_1_1_1_r_as.nb _ _)) (fun x hx => objNb_le' (Nat.le_trans (of_decide_eq_true (by kernel_rfl)) (Nat.le_of_eq (term_Consts_k0_1_0_1_1_1_r_os.sz _ _).symm)) _ (term_Consts_k0_1_0_1_1_1_r_os.nb _ _ x hx)) (fun e σ hs => outRd_ok (js := []) (pos := []) (base := [0, 1, 2, 3, 4]) (low := 5) (os := term_Consts_k0_1_0_1_1_1_r_o1) (e := e) (σ := σ) (r := r) (by rfl) hs) (((term_Consts_k0_1_0_1_1_1_r_e n).2 a0 a1 o0 o1).trans h)

noncomputable def ref07_Has_n1 : Nrm := ⟨[], [], [zT (tyL rowS), zK, zA, zA, zA, zK, zA, zA, zA, zA, zA, zA, zA, zA, zA, zA, zA, zA], [], none⟩
noncomputable def ref07_Has_m (n : Nat) : Mach Bool where
  body := (Try.f43.body).getD .skip
  P := Try.prog
  cl := tabA []
  cd := tabD []
  nrm := tabN [([0, 1, 0, 1], ref07_Has_n1)]
  cut := tabF []
  n := n
  out := outR Try.prog [.tmp 4] tyB
theorem ref07_Has_f (n : Nat) : (ref07_Has_m n).P = Try.prog ∧ (ref07_Has_m n).cl = tabA [] ∧ (ref07_Has_m n).cd = tabD [] ∧ (ref07_Has_m n).nrm = tabN [([0, 1, 0, 1], ref07_Has_n1)] ∧ (ref07_Has_m n).cut = tabF [] ∧ (ref07_Has_m n).n = n ∧ (ref07_Has_m n).out = outR Try.prog [.tmp 4] tyB := ⟨rfl, rfl, rfl, rfl, rfl, rfl, rfl⟩
theorem ref07_Has_c (n : Nat) : (ref07_Has_m n).body = (Try.f43.body).getD .skip := rfl
noncomputable def ref07_Has_b1 (n : Nat) : { B : ((List Str) → Str → Int → Option Bool) → (List Str) → Str → Int → Option Bool // ∀ m X0, (∀ (v0 : List Str) (v1 : Str) (v2 : Int), run (ref07_Has_m n) [.lq m [0, 1, 0, 1], .blk 0, .cut [1, 1], .at [1, 1]] ⟨[.lst false 1 (mp scell v0), .str (sb v1), .any, .any, .any, .int .i64 v2, .any, .any, .any, .any, .any, .any, .any, .any, .any, .any, .any, .any], [], 0⟩ = X0 v0 v1 v2) → ∀ (v0 : List Str) (v1 : Str) (v2 : Int), run (ref07_Has_m n) [.at [0, 0, 1, 0, 1], .lp m [0, 1, 0, 1], .blk 0, .cut [1, 1], .at [1, 1]] ⟨[.lst false 1 (mp scell v0), .str (sb v1), .any, .any, .any, .int .i64 v2, .any, .any, .any, .any, .any, .any, .any, .any, .any, .any, .any, .any], [], 0⟩ = B X0 v0 v1 v2 } := by
  apply Subtype.mk
  intro m X0 ih v0 v1 v2
  simp (config := { maxSteps := 100000000 }) only [go_sem, Nat.reduceAdd, Nat.reduceSub, Nat.reduceLeDiff, Nat.reduceEqDiff, Nat.reduceBEq, Nat.reduceMul, Nat.reduceLT, Int.reduceLE, Int.reduceLT, Int.reduceToNat, Int.reduceBEq, Int.reduceEq, ref07_Has_f, ref07_Has_c, Try.f43, Option.getD_some, mixed, ref07_Has_n1, ih]
  exact rfl
noncomputable def ref07_Has_l1 (n : Nat) : Nat → (List Str) → Str → Int → Option Bool
  | 0, _, _, _ => none
  | m + 1, v0, v1, v2 => (ref07_Has_b1 n).1 (ref07_Has_l1 n m) v0 v1 v2
theorem ref07_Has_l1_eq (n : Nat) : ∀ (m : Nat), (∀ (v0 : List Str) (v1 : Str) (v2 : Int), run (ref07_Has_m n) [.lq m [0, 1, 0, 1], .blk 0, .cut [1, 1], .at [1, 1]] ⟨[.lst false 1 (mp scell v0), .str (sb v1), .any, .any, .any, .int .i64 v2, .any, .any, .any, .any, .any, .any, .any, .any, .any, .any, .any, .any], [], 0⟩ = ref07_Has_l1 n m v0 v1 v2)
  | 0 => by intros; exact run_lq_zero
  | m + 1 => by
    have ih := ref07_Has_l1_eq n m
    intro v0 v1 v2
    rw [run_lq_succ]
    exact (ref07_Has_b1 n).2  m _  ih v0 v1 v2
noncomputable def ref07_Has_e (n : Nat) : { B : (List Str) → Str → Option Bool // ∀ (a0 : (List Str)) (a1 : Str), run (ref07_Has_m n) [.at []] { slots := [(tyL rowS).enc a0, tyS.enc a1] ++ List.replicate (18 - [(tyL rowS).enc a0, tyS.enc a1].length) .any, heap := [] } = B a0 a1 } := by
  apply Subtype.mk
  intro a0 a1
  simp (config := { maxSteps := 100000000 }) only [go_sem, Nat.reduceAdd, Nat.reduceSub, Nat.reduceLeDiff, Nat.reduceEqDiff, Nat.reduceBEq, Nat.reduceMul, Nat.reduceLT, Int.reduceLE, Int.reduceLT, Int.reduceToNat, Int.reduceBEq, Int.reduceEq, ref07_Has_f, ref07_Has_c, Try.f43, Option.getD_some, mixed, ref07_Has_n1, ref07_Has_l1_eq n]
  exact rfl
noncomputable def ref07_Has : Nat → (List Str) → Str → Option Bool
  | 0, _, _ => none
  | n + 1, a0, a1 => (ref07_Has_e n).1 a0 a1
theorem ref07_Has_ok : ∀ (n : Nat) (a0 : (List Str)) (a1 : Str) (r : Bool), ref07_Has n a0 a1 = some r → FnC Try.prog 43 [(tyL rowS).enc a0, tyS.enc a1] (fun v => v = tyB.enc r)
  | 0, _, _, _, h => by cases h
  | n + 1, a0, a1, r, h => by
    exact fnC_run (M := ref07_Has_m n) ⟨tabA_nil_ok, tabD_nil_ok, tabN_ok _, tabF_ok _, noY_ok, noE_ok⟩ Try.func43 rfl rfl ⟨(tyL rowS).nb 0 _, tyS.nb 0 _, trivial⟩ Try.ntmps43 Try.results43 (fun σ hs => outR_ok (P := Try.prog) (rs := [.tmp 4]) (t := tyB) (σ := σ) (r := r) hs) (((ref07_Has_e n).2 a0 a1).trans h)

noncomputable def ref05_All_n1 : Nrm := ⟨[(4, 5, true)], [], [zA, zK, zA, zK, zK, zA, zA, zA, zA, zA, zA, zA, zA, zA, zA, zA, zA, zA, zA, zA, zA, zA, zA, zA, zA, zA, zA], [oT Term.cel, oK, oA Term.row], none⟩
noncomputable def ref05_All_m (n : Nat) : Mach ((List Term) × Term) where
  body := (Try.f21.body).getD .skip
  P := Try.prog
  cl := tabA []
  cd := tabD []
  nrm := tabN [([0, 0, 1, 1], ref05_All_n1)]
  cut := tabF []
  n := n
  out := outR Try.prog [.tmp 2, .cell 3 25] (ty2 (tyL Term.row) (tyC Term.cel))
  isE := tabI []
theorem ref05_All_f (n : Nat) : (ref05_All_m n).P = Try.prog ∧ (ref05_All_m n).cl = tabA [] ∧ (ref05_All_m n).cd = tabD [] ∧ (ref05_All_m n).nrm = tabN [([0, 0, 1, 1], ref05_All_n1)] ∧ (ref05_All_m n).cut = tabF [] ∧ (ref05_All_m n).n = n ∧ (ref05_All_m n).out = outR Try.prog [.tmp 2, .cell 3 25] (ty2 (tyL Term.row) (tyC Term.cel)) ∧ (ref05_All_m n).isE = tabI [] := ⟨rfl, rfl, rfl, rfl, rfl, rfl, rfl, rfl⟩
theorem ref05_All_c (n : Nat) : (ref05_All_m n).body = (Try.f21.body).getD .skip := rfl
theorem ref05_All_d (n : Nat) : drawP (ref05_All_m n) [0, 1, 1, 1] = true := by kernel_rfl
theorem ref05_All_o (n : Nat) : ordP (ref05_All_m n) [0, 1, 1, 1] 1 3 = true := by kernel_rfl
noncomputable def ref05_All_b1 (n : Nat) : { B : (Term → (List Term) → Option ((List Term) × Term)) → Term → (List Term) → Option ((List Term) × Term) // ∀ m X0, (∀ (o0 : Term) (r2 : List Term) (c2 : Nat), c2 = r2.length → run (ref05_All_m n) [.lq m [0, 0, 1, 1], .blk 0, .cut [1, 1, 1], .at [1, 1, 1]] ⟨[.any, .ptr 0 0, .any, .ptr 1 0, .acc 2 c2, .any, .any, .any, .any, .any, .any, .any, .any, .any, .any, .any, .any, .any, .any, .any, .any, .any, .any, .any, .any, .any, .any], [.cells (Term.cells o0), .cells [.int .i64 0, .int .i64 0, .str (sb []), .lst true 0 [], .lst true 0 []], .acc true 5 (mp Term.cells r2)], 0⟩ = X0 o0 r2) → ∀ (o0 : Term) (r2 : List Term), run (ref05_All_m n) [.at [0, 0, 0, 1, 1], .lp m [0, 0, 1, 1], .blk 0, .cut [1, 1, 1], .at [1, 1, 1]] ⟨[.any, .ptr 0 0, .any, .ptr 1 0, .acc 2 r2.length, .any, .any, .any, .any, .any, .any, .any, .any, .any, .any, .any, .any, .any, .any, .any, .any, .any, .any, .any, .any, .any, .any], [.cells (Term.cells o0), .cells [.int .i64 0, .int .i64 0, .str (sb []), .lst true 0 [], .lst true 0 []], .acc true 5 (mp Term.cells r2)], 0⟩ = B X0 o0 r2 } := by
  apply Subtype.mk
  intro m X0 ih o0 r2
  simp (config := { maxSteps := 100000000 }) only [go_sem, Nat.reduceAdd, Nat.reduceSub, Nat.reduceLeDiff, Nat.reduceEqDiff, Nat.reduceBEq, Nat.reduceMul, Nat.reduceLT, Int.reduceLE, Int.reduceLT, Int.reduceToNat, Int.reduceBEq, Int.reduceEq, ref05_All_f, ref05_All_c, Try.f21, Option.getD_some, mixed, ref05_All_d, ref05_All_o, ref05_All_n1, ih]
  exact rfl
noncomputable def ref05_All_l1 (n : Nat) : Nat → Term → (List Term) → Option ((List Term) × Term)
  | 0, _, _ => none
  | m + 1, o0, r2 => (ref05_All_b1 n).1 (ref05_All_l1 n m) o0 r2
theorem ref05_All_l1_eq (n : Nat) : ∀ (m : Nat), (∀ (o0 : Term) (r2 : List Term) (c2 : Nat), c2 = r2.length → run (ref05_All_m n) [.lq m [0, 0, 1, 1], .blk 0, .cut [1, 1, 1], .at [1, 1, 1]] ⟨[.any, .ptr 0 0, .any, .ptr 1 0, .acc 2 c2, .any, .any, .any, .any, .any, .any, .any, .any, .any, .any, .any, .any, .any, .any, .any, .any, .any, .any, .any, .any, .any, .any], [.cells (Term.cells o0), .cells [.int .i64 0, .int .i64 0, .str (sb []), .lst true 0 [], .lst true 0 []], .acc true 5 (mp Term.cells r2)], 0⟩ = ref05_All_l1 n m o0 r2)
  | 0 => by intros; exact run_lq_zero
  | m + 1 => by
    have ih := ref05_All_l1_eq n m
    intro o0 r2 c2 ec2
    subst ec2
    rw [run_lq_succ]
    exact (ref05_All_b1 n).2  m _  ih o0 r2
noncomputable def ref05_All_e (n : Nat) : { B : Term → Option ((List Term) × Term) // ∀ (a0 : Term), run (ref05_All_m n) [.at []] { slots := [(tyC Term.cel).enc a0] ++ List.replicate (27 - [(tyC Term.cel).enc a0].length) .any, heap := [] } = B a0 } := by
  apply Subtype.mk
  intro a0
  simp (config := { maxSteps := 100000000 }) only [go_sem, Nat.reduceAdd, Nat.reduceSub, Nat.reduceLeDiff, Nat.reduceEqDiff, Nat.reduceBEq, Nat.reduceMul, Nat.reduceLT, Int.reduceLE, Int.reduceLT, Int.reduceToNat, Int.reduceBEq, Int.reduceEq, ref05_All_f, ref05_All_c, Try.f21, Option.getD_some, mixed, ref05_All_d, ref05_All_o, ref05_All_n1, ref05_All_l1_eq n]
  exact rfl
noncomputable def ref05_All : Nat → Term → Option ((List Term) × Term)
  | 0, _ => none
  | n + 1, a0 => (ref05_All_e n).1 a0
theorem ref05_All_ok : ∀ (n : Nat) (a0 : Term) (r : ((List Term) × Term)), ref05_All n a0 = some r → FnC Try.prog 21 [(tyC Term.cel).enc a0] (fun v => v = (ty2 (tyL Term.row) (tyC Term.cel)).enc r)
  | 0, _, _, h => by cases h
  | n + 1, a0, r, h => by
    exact fnC_run (M := ref05_All_m n) ⟨tabA_nil_ok, tabD_nil_ok, tabN_ok _, tabF_ok _, noY_ok, noE_ok⟩ Try.func21 rfl rfl ⟨(tyC Term.cel).nb 0 _, trivial⟩ Try.ntmps21 Try.results21 (fun σ hs => outR_ok (P := Try.prog) (rs := [.tmp 2, .cell 3 25]) (t := (ty2 (tyL Term.row) (tyC Term.cel))) (σ := σ) (r := r) hs) (((ref05_All_e n).2 a0).trans h)
end Go.Abs
namespace Go.Abs
open Go.Proofs
set_option maxRecDepth 100000
set_option maxHeartbeats 4000000
set_option linter.unusedSimpArgs false
set_option linter.unusedVariables false
noncomputable def ref12_sort_m (n : Nat) : Mach Bool where
  body := (Try.f58.body).getD .skip
  P := Try.prog
  cl := tabA []
  cd := tabD []
  nrm := tabN []
  cut := tabF []
  n := n
  out := outR Try.prog [.tmp 2] tyB
theorem ref12_sort_f (n : Nat) : (ref12_sort_m n).P = Try.prog ∧ (ref12_sort_m n).cl = tabA [] ∧ (ref12_sort_m n).cd = tabD [] ∧ (ref12_sort_m n).nrm = tabN [] ∧ (ref12_sort_m n).cut = tabF [] ∧ (ref12_sort_m n).n = n ∧ (ref12_sort_m n).out = outR Try.prog [.tmp 2] tyB := ⟨rfl, rfl, rfl, rfl, rfl, rfl, rfl⟩
theorem ref12_sort_c (n : Nat) : (ref12_sort_m n).body = (Try.f58.body).getD .skip := rfl
noncomputable def ref12_sort_e (n : Nat) : { B : Term → Option Bool // ∀ (a0 : Term), run (ref12_sort_m n) [.at []] { slots := [(tyC Term.cel).enc a0] ++ List.replicate (11 - [(tyC Term.cel).enc a0].length) .any, heap := [] } = B a0 } := by
  apply Subtype.mk
  intro a0
  simp (config := { maxSteps := 100000000 }) only [go_sem, Nat.reduceAdd, Nat.reduceSub, Nat.reduceLeDiff, Nat.reduceEqDiff, Nat.reduceBEq, Nat.reduceMul, Nat.reduceLT, Int.reduceLE, Int.reduceLT, Int.reduceToNat, Int.reduceBEq, Int.reduceEq, ref12_sort_f, ref12_sort_c, Try.f58, Option.getD_some, mixed]
  exact rfl
noncomputable def ref12_sort : Nat → Term → Option Bool
  | 0, _ => none
  | n + 1, a0 => (ref12_sort_e n).1 a0
theorem ref12_sort_ok : ∀ (n : Nat) (a0 : Term) (r : Bool), ref12_sort n a0 = some r → FnC Try.prog 58 [(tyC Term.cel).enc a0] (fun v => v = tyB.enc r)
  | 0, _, _, h => by cases h
  | n + 1, a0, r, h => by
    exact fnC_run (M := ref12_sort_m n) ⟨tabA_nil_ok, tabD_nil_ok, tabN_ok _, tabF_ok _, noY_ok, noE_ok⟩ Try.func58 rfl rfl ⟨(tyC Term.cel).nb 0 _, trivial⟩ Try.ntmps58 Try.results58 (fun σ hs => outR_ok (P := Try.prog) (rs := [.tmp 2]) (t := tyB) (σ := σ) (r := r) hs) (((ref12_sort_e n).2 a0).trans h)

noncomputable def ref05_Spine_h_m (X : Term → Option (((List Term) × Unit) × (Term × Unit))) (n : Nat) : Mach (((List Term) × Unit) × (Term × Unit)) where
  body := (Try.f74.body).getD .skip
  P := Try.prog
  cl := tabA [(74, entG [] osN (asT (tyC Term.cel) asN) (osC (oaT true Term.row) osN) (rsT (tyC Term.cel) (rsA 0 (fun (b : ((List Term) × Unit)) => b.1.length) rsN)) (fun (b : Unit) a => X a.1))]
  cd := tabD []
  nrm := tabN []
  cut := tabF []
  n := n
  out := outH Try.prog [.cell 2 25, .tmp 3] 1 Term.row (rsT (tyC Term.cel) (rsA 0 (fun (b : ((List Term) × Unit)) => b.1.length) rsN))
  isE := tabI []
theorem ref05_Spine_h_f (X : Term → Option (((List Term) × Unit) × (Term × Unit))) (n : Nat) : (ref05_Spine_h_m X n).P = Try.prog ∧ (ref05_Spine_h_m X n).cl = tabA [(74, entG [] osN (asT (tyC Term.cel) asN) (osC (oaT true Term.row) osN) (rsT (tyC Term.cel) (rsA 0 (fun (b : ((List Term) × Unit)) => b.1.length) rsN)) (fun (b : Unit) a => X a.1))] ∧ (ref05_Spine_h_m X n).cd = tabD [] ∧ (ref05_Spine_h_m X n).nrm = tabN [] ∧ (ref05_Spine_h_m X n).cut = tabF [] ∧ (ref05_Spine_h_m X n).n = n ∧ (ref05_Spine_h_m X n).out = outH Try.prog [.cell 2 25, .tmp 3] 1 Term.row (rsT (tyC Term.cel) (rsA 0 (fun (b : ((List Term) × Unit)) => b.1.length) rsN)) ∧ (ref05_Spine_h_m X n).isE = tabI [] := ⟨rfl, rfl, rfl, rfl, rfl, rfl, rfl, rfl⟩
theorem ref05_Spine_h_c (X : Term → Option (((List Term) × Unit) × (Term × Unit))) (n : Nat) : (ref05_Spine_h_m X n).body = (Try.f74.body).getD .skip := rfl
theorem ref05_Spine_h_d (X : Term → Option (((List Term) × Unit) × (Term × Unit))) (n : Nat) : drawP (ref05_Spine_h_m X n) [0, 1, 1, 1] = true := by kernel_rfl
theorem ref05_Spine_h_o (X : Term → Option (((List Term) × Unit) × (Term × Unit))) (n : Nat) : ordP (ref05_Spine_h_m X n) [0, 1, 1, 1] 3 7 = true ∧ ordP (ref05_Spine_h_m X n) [0, 1, 1, 1] 4 7 = true ∧ ordP (ref05_Spine_h_m X n) [0, 1, 1, 1] 5 7 = true ∧ ordP (ref05_Spine_h_m X n) [0, 1, 1, 1] 0 8 = true ∧ ordP (ref05_Spine_h_m X n) [0, 1, 1, 1] 3 8 = true ∧ ordP (ref05_Spine_h_m X n) [0, 1, 1, 1] 4 8 = true ∧ ordP (ref05_Spine_h_m X n) [0, 1, 1, 1] 5 8 = true ∧ ordP (ref05_Spine_h_m X n) [0, 1, 1, 1] 7 8 = true := ⟨by kernel_rfl, by kernel_rfl, by kernel_rfl, by kernel_rfl, by kernel_rfl, by kernel_rfl, by kernel_rfl, by kernel_rfl⟩
noncomputable def ref05_Spine_h_e (X : Term → Option (((List Term) × Unit) × (Term × Unit))) (n : Nat) : { B : Term → Option (((List Term) × Unit) × (Term × Unit)) // ∀ (a0 : Term), run (ref05_Spine_h_m X n) [.at []] { slots := (((asT (tyC Term.cel) asN) : ASpec Unit _).enc () (a0, ())) ++ List.replicate (32 - (((asT (tyC Term.cel) asN) : ASpec Unit _).enc () (a0, ())).length) .any, heap := (osN.enc ()), low := (osN.enc ()).length } = B a0 } := by
  apply Subtype.mk
  intro a0
  simp (config := { maxSteps := 100000000 }) only [go_sem, Nat.reduceAdd, Nat.reduceSub, Nat.reduceLeDiff, Nat.reduceEqDiff, Nat.reduceBEq, Nat.reduceMul, Nat.reduceLT, Int.reduceLE, Int.reduceLT, Int.reduceToNat, Int.reduceBEq, Int.reduceEq, ref05_Spine_h_f, ref05_Spine_h_c, Try.f74, Option.getD_some, mixed, ref05_Spine_h_d, ref05_Spine_h_o]
  exact rfl
noncomputable def ref05_Spine_h : Nat → Term → Option (((List Term) × Unit) × (Term × Unit))
  | 0, _ => none
  | n + 1, a0 => (ref05_Spine_h_e (ref05_Spine_h n) n).1 a0
theorem ref05_Spine_h_ok : ∀ (n : Nat) (a0 : Term) (r : (((List Term) × Unit) × (Term × Unit))), ref05_Spine_h n a0 = some r → FnG Try.prog 74 (((asT (tyC Term.cel) asN) : ASpec Unit _).enc () (a0, ())) (osN.enc ()) (fun o H' => o = .ret (tupOf ((rsT (tyC Term.cel) (rsA 0 (fun (b : ((List Term) × Unit)) => b.1.length) rsN)).enc r.1 r.2)) ∧ H' = (osC (oaT true Term.row) osN).enc r.1)
  | 0, _, _, h => by cases h
  | n + 1, a0, r, h => by
    have ih_ref05_Spine_h := ref05_Spine_h_ok n
    exact fnG_run (M := ref05_Spine_h_m (ref05_Spine_h n) n) ⟨(tabA_cons_ok (entG_ok (fun b a r h => (ih_ref05_Spine_h) a.1 r h)) tabA_nil_ok), tabD_nil_ok, tabN_ok _, tabF_ok _, noY_ok, noE_ok⟩ Try.func74 rfl rfl (by simp only [go_sem, Nat.reduceAdd, Nat.reduceSub, Nat.reduceLeDiff, Nat.reduceEqDiff, Nat.reduceBEq, Nat.reduceMul, Nat.reduceLT, Int.reduceLE, Int.reduceLT, Int.reduceToNat, Int.reduceBEq, Int.reduceEq]) (osN.nb _ _) Try.ntmps74 Try.results74 (fun σ hs => outH_ok hs) (((ref05_Spine_h_e (ref05_Spine_h n) n).2 a0).trans h)

noncomputable def ref01_Same_n1 : Nrm := ⟨[], [], [zA, zA, zK, zK, zA, zK, zA, zA, zA, zA, zA, zA, zA, zA, zA, zA, zA, zA, zA, zA, zA, zA, zA, zA, zA, zA, zA, zA, zA, zA, zA, zA, zA, zA, zA, zA, zA, zA], [oT Level.cel, oT Level.cel], none⟩
noncomputable def ref01_Same_m (n : Nat) : Mach Bool where
  body := (Try.f101.body).getD .skip
  P := Try.prog
  cl := tabA []
  cd := tabD []
  nrm := tabN [([0, 1, 0, 1, 1], ref01_Same_n1)]
  cut := tabF []
  n := n
  out := outR Try.prog [.tmp 4] tyB
  isE := tabI []
theorem ref01_Same_f (n : Nat) : (ref01_Same_m n).P = Try.prog ∧ (ref01_Same_m n).cl = tabA [] ∧ (ref01_Same_m n).cd = tabD [] ∧ (ref01_Same_m n).nrm = tabN [([0, 1, 0, 1, 1], ref01_Same_n1)] ∧ (ref01_Same_m n).cut = tabF [] ∧ (ref01_Same_m n).n = n ∧ (ref01_Same_m n).out = outR Try.prog [.tmp 4] tyB ∧ (ref01_Same_m n).isE = tabI [] := ⟨rfl, rfl, rfl, rfl, rfl, rfl, rfl, rfl⟩
theorem ref01_Same_c (n : Nat) : (ref01_Same_m n).body = (Try.f101.body).getD .skip := rfl
theorem ref01_Same_d (n : Nat) : drawP (ref01_Same_m n) [0, 0, 0, 1, 0, 0, 1, 0, 1, 1] = true := by kernel_rfl
noncomputable def ref01_Same_b1 (n : Nat) : { B : (Int → Level → Level → Option Bool) → Int → Level → Level → Option Bool // ∀ m X0, (∀ (v0 : Int) (o0 : Level) (o1 : Level), run (ref01_Same_m n) [.lq m [0, 1, 0, 1, 1], .blk 0, .cut [1, 1, 1], .at [1, 1, 1]] ⟨[.any, .any, .ptr 0 0, .ptr 1 0, .any, .int .i64 v0, .any, .any, .any, .any, .any, .any, .any, .any, .any, .any, .any, .any, .any, .any, .any, .any, .any, .any, .any, .any, .any, .any, .any, .any, .any, .any, .any, .any, .any, .any, .any, .any], [.cells (Level.cells o0), .cells (Level.cells o1)], 0⟩ = X0 v0 o0 o1) → ∀ (v0 : Int) (o0 : Level) (o1 : Level), run (ref01_Same_m n) [.at [0, 0, 1, 0, 1, 1], .lp m [0, 1, 0, 1, 1], .blk 0, .cut [1, 1, 1], .at [1, 1, 1]] ⟨[.any, .any, .ptr 0 0, .ptr 1 0, .any, .int .i64 v0, .any, .any, .any, .any, .any, .any, .any, .any, .any, .any, .any, .any, .any, .any, .any, .any, .any, .any, .any, .any, .any, .any, .any, .any, .any, .any, .any, .any, .any, .any, .any, .any], [.cells (Level.cells o0), .cells (Level.cells o1)], 0⟩ = B X0 v0 o0 o1 } := by
  apply Subtype.mk
  intro m X0 ih v0 o0 o1
  simp (config := { maxSteps := 100000000 }) only [go_sem, Nat.reduceAdd, Nat.reduceSub, Nat.reduceLeDiff, Nat.reduceEqDiff, Nat.reduceBEq, Nat.reduceMul, Nat.reduceLT, Int.reduceLE, Int.reduceLT, Int.reduceToNat, Int.reduceBEq, Int.reduceEq, ref01_Same_f, ref01_Same_c, Try.f101, Option.getD_some, mixed, ref01_Same_d, ref01_Same_n1, ih]
  exact rfl
noncomputable def ref01_Same_l1 (n : Nat) : Nat → Int → Level → Level → Option Bool
  | 0, _, _, _ => none
  | m + 1, v0, o0, o1 => (ref01_Same_b1 n).1 (ref01_Same_l1 n m) v0 o0 o1
theorem ref01_Same_l1_eq (n : Nat) : ∀ (m : Nat), (∀ (v0 : Int) (o0 : Level) (o1 : Level), run (ref01_Same_m n) [.lq m [0, 1, 0, 1, 1], .blk 0, .cut [1, 1, 1], .at [1, 1, 1]] ⟨[.any, .any, .ptr 0 0, .ptr 1 0, .any, .int .i64 v0, .any, .any, .any, .any, .any, .any, .any, .any, .any, .any, .any, .any, .any, .any, .any, .any, .any, .any, .any, .any, .any, .any, .any, .any, .any, .any, .any, .any, .any, .any, .any, .any], [.cells (Level.cells o0), .cells (Level.cells o1)], 0⟩ = ref01_Same_l1 n m v0 o0 o1)
  | 0 => by intros; exact run_lq_zero
  | m + 1 => by
    have ih := ref01_Same_l1_eq n m
    intro v0 o0 o1
    rw [run_lq_succ]
    exact (ref01_Same_b1 n).2  m _  ih v0 o0 o1
noncomputable def ref01_Same_e (n : Nat) : { B : Level → Level → Option Bool // ∀ (a0 : Level) (a1 : Level), run (ref01_Same_m n) [.at []] { slots := [(tyC Level.cel).enc a0, (tyC Level.cel).enc a1] ++ List.replicate (38 - [(tyC Level.cel).enc a0, (tyC Level.cel).enc a1].length) .any, heap := [] } = B a0 a1 } := by
  apply Subtype.mk
  intro a0 a1
  simp (config := { maxSteps := 100000000 }) only [go_sem, Nat.reduceAdd, Nat.reduceSub, Nat.reduceLeDiff, Nat.reduceEqDiff, Nat.reduceBEq, Nat.reduceMul, Nat.reduceLT, Int.reduceLE, Int.reduceLT, Int.reduceToNat, Int.reduceBEq, Int.reduceEq, ref01_Same_f, ref01_Same_c, Try.f101, Option.getD_some, mixed, ref01_Same_d, ref01_Same_n1, ref01_Same_l1_eq n]
  exact rfl
noncomputable def ref01_Same : Nat → Level → Level → Option Bool
  | 0, _, _ => none
  | n + 1, a0, a1 => (ref01_Same_e n).1 a0 a1
theorem ref01_Same_ok : ∀ (n : Nat) (a0 : Level) (a1 : Level) (r : Bool), ref01_Same n a0 a1 = some r → FnC Try.prog 101 [(tyC Level.cel).enc a0, (tyC Level.cel).enc a1] (fun v => v = tyB.enc r)
  | 0, _, _, _, h => by cases h
  | n + 1, a0, a1, r, h => by
    exact fnC_run (M := ref01_Same_m n) ⟨tabA_nil_ok, tabD_nil_ok, tabN_ok _, tabF_ok _, noY_ok, noE_ok⟩ Try.func101 rfl rfl ⟨(tyC Level.cel).nb 0 _, (tyC Level.cel).nb 0 _, trivial⟩ Try.ntmps101 Try.results101 (fun σ hs => outR_ok (P := Try.prog) (rs := [.tmp 4]) (t := tyB) (σ := σ) (r := r) hs) (((ref01_Same_e n).2 a0 a1).trans h)

noncomputable def ref05_Vars_n1 : Nrm := ⟨[(5, 5, true)], [], [zA, zK, zA, zA, zA, zK, zK, zA, zA, zA, zA, zA, zA, zA, zA, zA, zA, zA, zA, zA, zA, zA, zA, zA, zA, zA, zA, zA, zA, zA, zA], [oA Term.row], none⟩
noncomputable def ref05_Vars_m (n : Nat) : Mach (List Term) where
  body := (Try.f86.body).getD .skip
  P := Try.prog
  cl := tabA []
  cd := tabD []
  nrm := tabN [([0, 1, 0, 1, 1, 1], ref05_Vars_n1)]
  cut := tabF []
  n := n
  out := outR Try.prog [.tmp 4] (tyL Term.row)
theorem ref05_Vars_f (n : Nat) : (ref05_Vars_m n).P = Try.prog ∧ (ref05_Vars_m n).cl = tabA [] ∧ (ref05_Vars_m n).cd = tabD [] ∧ (ref05_Vars_m n).nrm = tabN [([0, 1, 0, 1, 1, 1], ref05_Vars_n1)] ∧ (ref05_Vars_m n).cut = tabF [] ∧ (ref05_Vars_m n).n = n ∧ (ref05_Vars_m n).out = outR Try.prog [.tmp 4] (tyL Term.row) := ⟨rfl, rfl, rfl, rfl, rfl, rfl, rfl⟩
theorem ref05_Vars_c (n : Nat) : (ref05_Vars_m n).body = (Try.f86.body).getD .skip := rfl
noncomputable def ref05_Vars_b1 (n : Nat) : { B : (Int → Int → (List Term) → Option (List Term)) → Int → Int → (List Term) → Option (List Term) // ∀ m X0, (∀ (v0 : Int) (v1 : Int) (r0 : List Term) (c0 : Nat), c0 = r0.length → run (ref05_Vars_m n) [.lq m [0, 1, 0, 1, 1, 1], .blk 0, .cut [1, 1, 1, 1], .at [1, 1, 1, 1]] ⟨[.any, .int .i64 v0, .any, .any, .any, .acc 0 c0, .int .i64 v1, .any, .any, .any, .any, .any, .any, .any, .any, .any, .any, .any, .any, .any, .any, .any, .any, .any, .any, .any, .any, .any, .any, .any, .any], [.acc true 5 (mp Term.cells r0)], 0⟩ = X0 v0 v1 r0) → ∀ (v0 : Int) (v1 : Int) (r0 : List Term), run (ref05_Vars_m n) [.at [0, 0, 1, 0, 1, 1, 1], .lp m [0, 1, 0, 1, 1, 1], .blk 0, .cut [1, 1, 1, 1], .at [1, 1, 1, 1]] ⟨[.any, .int .i64 v0, .any, .any, .any, .acc 0 r0.length, .int .i64 v1, .any, .any, .any, .any, .any, .any, .any, .any, .any, .any, .any, .any, .any, .any, .any, .any, .any, .any, .any, .any, .any, .any, .any, .any], [.acc true 5 (mp Term.cells r0)], 0⟩ = B X0 v0 v1 r0 } := by
  apply Subtype.mk
  intro m X0 ih v0 v1 r0
  simp (config := { maxSteps := 100000000 }) only [go_sem, Nat.reduceAdd, Nat.reduceSub, Nat.reduceLeDiff, Nat.reduceEqDiff, Nat.reduceBEq, Nat.reduceMul, Nat.reduceLT, Int.reduceLE, Int.reduceLT, Int.reduceToNat, Int.reduceBEq, Int.reduceEq, ref05_Vars_f, ref05_Vars_c, Try.f86, Option.getD_some, mixed, ref05_Vars_n1, ih]
  exact rfl
noncomputable def ref05_Vars_l1 (n : Nat) : Nat → Int → Int → (List Term) → Option (List Term)
  | 0, _, _, _ => none
  | m + 1, v0, v1, r0 => (ref05_Vars_b1 n).1 (ref05_Vars_l1 n m) v0 v1 r0
theorem ref05_Vars_l1_eq (n : Nat) : ∀ (m : Nat), (∀ (v0 : Int) (v1 : Int) (r0 : List Term) (c0 : Nat), c0 = r0.length → run (ref05_Vars_m n) [.lq m [0, 1, 0, 1, 1, 1], .blk 0, .cut [1, 1, 1, 1], .at [1, 1, 1, 1]] ⟨[.any, .int .i64 v0, .any, .any, .any, .acc 0 c0, .int .i64 v1, .any, .any, .any, .any, .any, .any, .any, .any, .any, .any, .any, .any, .any, .any, .any, .any, .any, .any, .any, .any, .any, .any, .any, .any], [.acc true 5 (mp Term.cells r0)], 0⟩ = ref05_Vars_l1 n m v0 v1 r0)
  | 0 => by intros; exact run_lq_zero
  | m + 1 => by
    have ih := ref05_Vars_l1_eq n m
    intro v0 v1 r0 c0 ec0
    subst ec0
    rw [run_lq_succ]
    exact (ref05_Vars_b1 n).2  m _  ih v0 v1 r0
noncomputable def ref05_Vars_e (n : Nat) : { B : Int → Int → Option (List Term) // ∀ (a0 : Int) (a1 : Int), run (ref05_Vars_m n) [.at []] { slots := [(tyI .i64).enc a0, (tyI .i64).enc a1] ++ List.replicate (31 - [(tyI .i64).enc a0, (tyI .i64).enc a1].length) .any, heap := [] } = B a0 a1 } := by
  apply Subtype.mk
  intro a0 a1
  simp (config := { maxSteps := 100000000 }) only [go_sem, Nat.reduceAdd, Nat.reduceSub, Nat.reduceLeDiff, Nat.reduceEqDiff, Nat.reduceBEq, Nat.reduceMul, Nat.reduceLT, Int.reduceLE, Int.reduceLT, Int.reduceToNat, Int.reduceBEq, Int.reduceEq, ref05_Vars_f, ref05_Vars_c, Try.f86, Option.getD_some, mixed, ref05_Vars_n1, ref05_Vars_l1_eq n]
  exact rfl
noncomputable def ref05_Vars : Nat → Int → Int → Option (List Term)
  | 0, _, _ => none
  | n + 1, a0, a1 => (ref05_Vars_e n).1 a0 a1
theorem ref05_Vars_ok : ∀ (n : Nat) (a0 : Int) (a1 : Int) (r : (List Term)), ref05_Vars n a0 a1 = some r → FnC Try.prog 86 [(tyI .i64).enc a0, (tyI .i64).enc a1] (fun v => v = (tyL Term.row).enc r)
  | 0, _, _, _, h => by cases h
  | n + 1, a0, a1, r, h => by
    exact fnC_run (M := ref05_Vars_m n) ⟨tabA_nil_ok, tabD_nil_ok, tabN_ok _, tabF_ok _, noY_ok, noE_ok⟩ Try.func86 rfl rfl ⟨(tyI .i64).nb 0 _, (tyI .i64).nb 0 _, trivial⟩ Try.ntmps86 Try.results86 (fun σ hs => outR_ok (P := Try.prog) (rs := [.tmp 4]) (t := (tyL Term.row)) (σ := σ) (r := r) hs) (((ref05_Vars_e n).2 a0 a1).trans h)

noncomputable def ref05_Apply_n1 : Nrm := ⟨[], [], [zA, zT (tyL Term.row), zK, zA, zK, zK, zA, zA, zA, zA, zA, zA, zA, zA, zA, zA, zA, zA, zA, zA], [oT Term.cel, oK], none⟩
noncomputable def ref05_Apply_m (n : Nat) : Mach Term where
  body := (Try.f84.body).getD .skip
  P := Try.prog
  cl := tabA []
  cd := tabD []
  nrm := tabN [([0, 1, 0, 1], ref05_Apply_n1)]
  cut := tabF []
  n := n
  out := outR Try.prog [.cell 4 25] (tyC Term.cel)
  isE := tabI []
theorem ref05_Apply_f (n : Nat) : (ref05_Apply_m n).P = Try.prog ∧ (ref05_Apply_m n).cl = tabA [] ∧ (ref05_Apply_m n).cd = tabD [] ∧ (ref05_Apply_m n).nrm = tabN [([0, 1, 0, 1], ref05_Apply_n1)] ∧ (ref05_Apply_m n).cut = tabF [] ∧ (ref05_Apply_m n).n = n ∧ (ref05_Apply_m n).out = outR Try.prog [.cell 4 25] (tyC Term.cel) ∧ (ref05_Apply_m n).isE = tabI [] := ⟨rfl, rfl, rfl, rfl, rfl, rfl, rfl, rfl⟩
theorem ref05_Apply_c (n : Nat) : (ref05_Apply_m n).body = (Try.f84.body).getD .skip := rfl
theorem ref05_Apply_d (n : Nat) : drawP (ref05_Apply_m n) [0, 0, 1, 0, 0, 1, 0, 1] = true := by kernel_rfl
theorem ref05_Apply_o (n : Nat) : ordP (ref05_Apply_m n) [0, 0, 1, 0, 0, 1, 0, 1] 0 7 = true ∧ ordP (ref05_Apply_m n) [0, 0, 1, 0, 0, 1, 0, 1] 3 7 = true ∧ ordP (ref05_Apply_m n) [0, 0, 1, 0, 0, 1, 0, 1] 4 7 = true := ⟨by kernel_rfl, by kernel_rfl, by kernel_rfl⟩
noncomputable def ref05_Apply_b1 (n : Nat) : { B : ((List Term) → Int → Term → Option Term) → (List Term) → Int → Term → Option Term // ∀ m X0, (∀ (v0 : List Term) (v1 : Int) (o0 : Term), run (ref05_Apply_m n) [.lq m [0, 1, 0, 1], .blk 0, .cut [1, 1], .at [1, 1]] ⟨[.any, .lst false 5 (mp Term.cells v0), .ptr 0 0, .any, .ptr 1 0, .int .i64 v1, .any, .any, .any, .any, .any, .any, .any, .any, .any, .any, .any, .any, .any, .any], [.cells (Term.cells o0), .cells [.int .i64 0, .int .i64 0, .str (sb []), .lst true 0 [], .lst true 0 []]], 0⟩ = X0 v0 v1 o0) → ∀ (v0 : List Term) (v1 : Int) (o0 : Term), run (ref05_Apply_m n) [.at [0, 0, 1, 0, 1], .lp m [0, 1, 0, 1], .blk 0, .cut [1, 1], .at [1, 1]] ⟨[.any, .lst false 5 (mp Term.cells v0), .ptr 0 0, .any, .ptr 1 0, .int .i64 v1, .any, .any, .any, .any, .any, .any, .any, .any, .any, .any, .any, .any, .any, .any], [.cells (Term.cells o0), .cells [.int .i64 0, .int .i64 0, .str (sb []), .lst true 0 [], .lst true 0 []]], 0⟩ = B X0 v0 v1 o0 } := by
  apply Subtype.mk
  intro m X0 ih v0 v1 o0
  simp (config := { maxSteps := 100000000 }) only [go_sem, Nat.reduceAdd, Nat.reduceSub, Nat.reduceLeDiff, Nat.reduceEqDiff, Nat.reduceBEq, Nat.reduceMul, Nat.reduceLT, Int.reduceLE, Int.reduceLT, Int.reduceToNat, Int.reduceBEq, Int.reduceEq, ref05_Apply_f, ref05_Apply_c, Try.f84, Option.getD_some, mixed, ref05_Apply_d, ref05_Apply_o, ref05_Apply_n1, ih]
  exact rfl
noncomputable def ref05_Apply_l1 (n : Nat) : Nat → (List Term) → Int → Term → Option Term
  | 0, _, _, _ => none
  | m + 1, v0, v1, o0 => (ref05_Apply_b1 n).1 (ref05_Apply_l1 n m) v0 v1 o0
theorem ref05_Apply_l1_eq (n : Nat) : ∀ (m : Nat), (∀ (v0 : List Term) (v1 : Int) (o0 : Term), run (ref05_Apply_m n) [.lq m [0, 1, 0, 1], .blk 0, .cut [1, 1], .at [1, 1]] ⟨[.any, .lst false 5 (mp Term.cells v0), .ptr 0 0, .any, .ptr 1 0, .int .i64 v1, .any, .any, .any, .any, .any, .any, .any, .any, .any, .any, .any, .any, .any, .any], [.cells (Term.cells o0), .cells [.int .i64 0, .int .i64 0, .str (sb []), .lst true 0 [], .lst true 0 []]], 0⟩ = ref05_Apply_l1 n m v0 v1 o0)
  | 0 => by intros; exact run_lq_zero
  | m + 1 => by
    have ih := ref05_Apply_l1_eq n m
    intro v0 v1 o0
    rw [run_lq_succ]
    exact (ref05_Apply_b1 n).2  m _  ih v0 v1 o0
noncomputable def ref05_Apply_e (n : Nat) : { B : Term → (List Term) → Option Term // ∀ (a0 : Term) (a1 : (List Term)), run (ref05_Apply_m n) [.at []] { slots := [(tyC Term.cel).enc a0, (tyL Term.row).enc a1] ++ List.replicate (20 - [(tyC Term.cel).enc a0, (tyL Term.row).enc a1].length) .any, heap := [] } = B a0 a1 } := by
  apply Subtype.mk
  intro a0 a1
  simp (config := { maxSteps := 100000000 }) only [go_sem, Nat.reduceAdd, Nat.reduceSub, Nat.reduceLeDiff, Nat.reduceEqDiff, Nat.reduceBEq, Nat.reduceMul, Nat.reduceLT, Int.reduceLE, Int.reduceLT, Int.reduceToNat, Int.reduceBEq, Int.reduceEq, ref05_Apply_f, ref05_Apply_c, Try.f84, Option.getD_some, mixed, ref05_Apply_d, ref05_Apply_o, ref05_Apply_n1, ref05_Apply_l1_eq n]
  exact rfl
noncomputable def ref05_Apply : Nat → Term → (List Term) → Option Term
  | 0, _, _ => none
  | n + 1, a0, a1 => (ref05_Apply_e n).1 a0 a1
theorem ref05_Apply_ok : ∀ (n : Nat) (a0 : Term) (a1 : (List Term)) (r : Term), ref05_Apply n a0 a1 = some r → FnC Try.prog 84 [(tyC Term.cel).enc a0, (tyL Term.row).enc a1] (fun v => v = (tyC Term.cel).enc r)
  | 0, _, _, _, h => by cases h
  | n + 1, a0, a1, r, h => by
    exact fnC_run (M := ref05_Apply_m n) ⟨tabA_nil_ok, tabD_nil_ok, tabN_ok _, tabF_ok _, noY_ok, noE_ok⟩ Try.func84 rfl rfl ⟨(tyC Term.cel).nb 0 _, (tyL Term.row).nb 0 _, trivial⟩ Try.ntmps84 Try.results84 (fun σ hs => outR_ok (P := Try.prog) (rs := [.cell 4 25]) (t := (tyC Term.cel)) (σ := σ) (r := r) hs) (((ref05_Apply_e n).2 a0 a1).trans h)

noncomputable def ref05_bind_n1 : Nrm := ⟨[], [], [zK, zT (tyL Term.row), zA, zA, zA, zK, zK, zK, zA, zA, zA, zA, zA, zA, zA, zA, zA, zA, zA, zA, zA, zA, zA, zA], [oT Term.cel, oK], none⟩
noncomputable def ref05_bind_m (n : Nat) : Mach Term where
  body := (Try.f61.body).getD .skip
  P := Try.prog
  cl := tabA []
  cd := tabD []
  nrm := tabN [([0, 1, 0, 1], ref05_bind_n1)]
  cut := tabF []
  n := n
  out := outR Try.prog [.cell 6 25] (tyC Term.cel)
  isE := tabI []
theorem ref05_bind_f (n : Nat) : (ref05_bind_m n).P = Try.prog ∧ (ref05_bind_m n).cl = tabA [] ∧ (ref05_bind_m n).cd = tabD [] ∧ (ref05_bind_m n).nrm = tabN [([0, 1, 0, 1], ref05_bind_n1)] ∧ (ref05_bind_m n).cut = tabF [] ∧ (ref05_bind_m n).n = n ∧ (ref05_bind_m n).out = outR Try.prog [.cell 6 25] (tyC Term.cel) ∧ (ref05_bind_m n).isE = tabI [] := ⟨rfl, rfl, rfl, rfl, rfl, rfl, rfl, rfl⟩
theorem ref05_bind_c (n : Nat) : (ref05_bind_m n).body = (Try.f61.body).getD .skip := rfl
theorem ref05_bind_d (n : Nat) : drawP (ref05_bind_m n) [0, 0, 1, 0, 0, 1, 0, 1] = true := by kernel_rfl
theorem ref05_bind_o (n : Nat) : ordP (ref05_bind_m n) [0, 0, 1, 0, 0, 1, 0, 1] 3 8 = true ∧ ordP (ref05_bind_m n) [0, 0, 1, 0, 0, 1, 0, 1] 4 8 = true ∧ ordP (ref05_bind_m n) [0, 0, 1, 0, 0, 1, 0, 1] 5 8 = true := ⟨by kernel_rfl, by kernel_rfl, by kernel_rfl⟩
noncomputable def ref05_bind_b1 (n : Nat) : { B : (Int → (List Term) → Int → Term → Option Term) → Int → (List Term) → Int → Term → Option Term // ∀ m X0, (∀ (v0 : Int) (v1 : List Term) (v2 : Int) (o0 : Term), run (ref05_bind_m n) [.lq m [0, 1, 0, 1], .blk 0, .cut [1, 1], .at [1, 1]] ⟨[.int .i64 v0, .lst false 5 (mp Term.cells v1), .any, .any, .any, .ptr 0 0, .ptr 1 0, .int .i64 v2, .any, .any, .any, .any, .any, .any, .any, .any, .any, .any, .any, .any, .any, .any, .any, .any], [.cells (Term.cells o0), .cells [.int .i64 0, .int .i64 0, .str (sb []), .lst true 0 [], .lst true 0 []]], 0⟩ = X0 v0 v1 v2 o0) → ∀ (v0 : Int) (v1 : List Term) (v2 : Int) (o0 : Term), run (ref05_bind_m n) [.at [0, 0, 1, 0, 1], .lp m [0, 1, 0, 1], .blk 0, .cut [1, 1], .at [1, 1]] ⟨[.int .i64 v0, .lst false 5 (mp Term.cells v1), .any, .any, .any, .ptr 0 0, .ptr 1 0, .int .i64 v2, .any, .any, .any, .any, .any, .any, .any, .any, .any, .any, .any, .any, .any, .any, .any, .any], [.cells (Term.cells o0), .cells [.int .i64 0, .int .i64 0, .str (sb []), .lst true 0 [], .lst true 0 []]], 0⟩ = B X0 v0 v1 v2 o0 } := by
  apply Subtype.mk
  intro m X0 ih v0 v1 v2 o0
  simp (config := { maxSteps := 100000000 }) only [go_sem, Nat.reduceAdd, Nat.reduceSub, Nat.reduceLeDiff, Nat.reduceEqDiff, Nat.reduceBEq, Nat.reduceMul, Nat.reduceLT, Int.reduceLE, Int.reduceLT, Int.reduceToNat, Int.reduceBEq, Int.reduceEq, ref05_bind_f, ref05_bind_c, Try.f61, Option.getD_some, mixed, ref05_bind_d, ref05_bind_o, ref05_bind_n1, ih]
  exact rfl
noncomputable def ref05_bind_l1 (n : Nat) : Nat → Int → (List Term) → Int → Term → Option Term
  | 0, _, _, _, _ => none
  | m + 1, v0, v1, v2, o0 => (ref05_bind_b1 n).1 (ref05_bind_l1 n m) v0 v1 v2 o0
theorem ref05_bind_l1_eq (n : Nat) : ∀ (m : Nat), (∀ (v0 : Int) (v1 : List Term) (v2 : Int) (o0 : Term), run (ref05_bind_m n) [.lq m [0, 1, 0, 1], .blk 0, .cut [1, 1], .at [1, 1]] ⟨[.int .i64 v0, .lst false 5 (mp Term.cells v1), .any, .any, .any, .ptr 0 0, .ptr 1 0, .int .i64 v2, .any, .any, .any, .any, .any, .any, .any, .any, .any, .any, .any, .any, .any, .any, .any, .any], [.cells (Term.cells o0), .cells [.int .i64 0, .int .i64 0, .str (sb []), .lst true 0 [], .lst true 0 []]], 0⟩ = ref05_bind_l1 n m v0 v1 v2 o0)
  | 0 => by intros; exact run_lq_zero
  | m + 1 => by
    have ih := ref05_bind_l1_eq n m
    intro v0 v1 v2 o0
    rw [run_lq_succ]
    exact (ref05_bind_b1 n).2  m _  ih v0 v1 v2 o0
noncomputable def ref05_bind_e (n : Nat) : { B : Int → (List Term) → Term → Option Term // ∀ (a0 : Int) (a1 : (List Term)) (a2 : Term), run (ref05_bind_m n) [.at []] { slots := [(tyI .i64).enc a0, (tyL Term.row).enc a1, (tyC Term.cel).enc a2] ++ List.replicate (24 - [(tyI .i64).enc a0, (tyL Term.row).enc a1, (tyC Term.cel).enc a2].length) .any, heap := [] } = B a0 a1 a2 } := by
  apply Subtype.mk
  intro a0 a1 a2
  simp (config := { maxSteps := 100000000 }) only [go_sem, Nat.reduceAdd, Nat.reduceSub, Nat.reduceLeDiff, Nat.reduceEqDiff, Nat.reduceBEq, Nat.reduceMul, Nat.reduceLT, Int.reduceLE, Int.reduceLT, Int.reduceToNat, Int.reduceBEq, Int.reduceEq, ref05_bind_f, ref05_bind_c, Try.f61, Option.getD_some, mixed, ref05_bind_d, ref05_bind_o, ref05_bind_n1, ref05_bind_l1_eq n]
  exact rfl
noncomputable def ref05_bind : Nat → Int → (List Term) → Term → Option Term
  | 0, _, _, _ => none
  | n + 1, a0, a1, a2 => (ref05_bind_e n).1 a0 a1 a2
theorem ref05_bind_ok : ∀ (n : Nat) (a0 : Int) (a1 : (List Term)) (a2 : Term) (r : Term), ref05_bind n a0 a1 a2 = some r → FnC Try.prog 61 [(tyI .i64).enc a0, (tyL Term.row).enc a1, (tyC Term.cel).enc a2] (fun v => v = (tyC Term.cel).enc r)
  | 0, _, _, _, _, h => by cases h
  | n + 1, a0, a1, a2, r, h => by
    exact fnC_run (M := ref05_bind_m n) ⟨tabA_nil_ok, tabD_nil_ok, tabN_ok _, tabF_ok _, noY_ok, noE_ok⟩ Try.func61 rfl rfl ⟨(tyI .i64).nb 0 _, (tyL Term.row).nb 0 _, (tyC Term.cel).nb 0 _, trivial⟩ Try.ntmps61 Try.results61 (fun σ hs => outR_ok (P := Try.prog) (rs := [.cell 6 25]) (t := (tyC Term.cel)) (σ := σ) (r := r) hs) (((ref05_bind_e n).2 a0 a1 a2).trans h)
end Go.Abs
namespace Go.Abs
open Go.Proofs
set_option maxRecDepth 100000
set_option maxHeartbeats 4000000
set_option linter.unusedSimpArgs false
set_option linter.unusedVariables false
noncomputable def law07_small_m (n : Nat) : Mach Bool where
  body := (Try.f90.body).getD .skip
  P := Try.prog
  cl := tabA [(69, ent1 (tyC Term.cel) (tyI .i64) (ref03_Size n)), (70, ent1 (tyC Term.cel) (tyI .i64) (ref03_Depth n))]
  cd := tabD []
  nrm := tabN []
  cut := tabF []
  n := n
  out := outR Try.prog [.tmp 2] tyB
theorem law07_small_f (n : Nat) : (law07_small_m n).P = Try.prog ∧ (law07_small_m n).cl = tabA [(69, ent1 (tyC Term.cel) (tyI .i64) (ref03_Size n)), (70, ent1 (tyC Term.cel) (tyI .i64) (ref03_Depth n))] ∧ (law07_small_m n).cd = tabD [] ∧ (law07_small_m n).nrm = tabN [] ∧ (law07_small_m n).cut = tabF [] ∧ (law07_small_m n).n = n ∧ (law07_small_m n).out = outR Try.prog [.tmp 2] tyB := ⟨rfl, rfl, rfl, rfl, rfl, rfl, rfl⟩
theorem law07_small_c (n : Nat) : (law07_small_m n).body = (Try.f90.body).getD .skip := rfl
noncomputable def law07_small_e (n : Nat) : { B : Term → Option Bool // ∀ (a0 : Term), run (law07_small_m n) [.at []] { slots := [(tyC Term.cel).enc a0] ++ List.replicate (11 - [(tyC Term.cel).enc a0].length) .any, heap := [] } = B a0 } := by
  apply Subtype.mk
  intro a0
  simp (config := { maxSteps := 100000000 }) only [go_sem, Nat.reduceAdd, Nat.reduceSub, Nat.reduceLeDiff, Nat.reduceEqDiff, Nat.reduceBEq, Nat.reduceMul, Nat.reduceLT, Int.reduceLE, Int.reduceLT, Int.reduceToNat, Int.reduceBEq, Int.reduceEq, law07_small_f, law07_small_c, Try.f90, Option.getD_some, mixed]
  exact rfl
noncomputable def law07_small : Nat → Term → Option Bool
  | 0, _ => none
  | n + 1, a0 => (law07_small_e n).1 a0
theorem law07_small_ok : ∀ (n : Nat) (a0 : Term) (r : Bool), law07_small n a0 = some r → FnC Try.prog 90 [(tyC Term.cel).enc a0] (fun v => v = tyB.enc r)
  | 0, _, _, h => by cases h
  | n + 1, a0, r, h => by
    exact fnC_run (M := law07_small_m n) ⟨(tabA_cons_ok (ent1_ok (ref03_Size_ok n)) (tabA_cons_ok (ent1_ok (ref03_Depth_ok n)) tabA_nil_ok)), tabD_nil_ok, tabN_ok _, tabF_ok _, noY_ok, noE_ok⟩ Try.func90 rfl rfl ⟨(tyC Term.cel).nb 0 _, trivial⟩ Try.ntmps90 Try.results90 (fun σ hs => outR_ok (P := Try.prog) (rs := [.tmp 2]) (t := tyB) (σ := σ) (r := r) hs) (((law07_small_e n).2 a0).trans h)

noncomputable def ref03_form_m (n : Nat) : Mach Bool where
  body := (Try.f122.body).getD .skip
  P := Try.prog
  cl := tabA []
  cd := tabD [(133, entD (ent1 (tyI .i64) (tyI .i64) (ref03_Kids n)))]
  nrm := tabN []
  cut := tabF []
  n := n
  out := outR Try.prog [.tmp 2] tyB
  isE := tabI []
theorem ref03_form_f (n : Nat) : (ref03_form_m n).P = Try.prog ∧ (ref03_form_m n).cl = tabA [] ∧ (ref03_form_m n).cd = tabD [(133, entD (ent1 (tyI .i64) (tyI .i64) (ref03_Kids n)))] ∧ (ref03_form_m n).nrm = tabN [] ∧ (ref03_form_m n).cut = tabF [] ∧ (ref03_form_m n).n = n ∧ (ref03_form_m n).out = outR Try.prog [.tmp 2] tyB ∧ (ref03_form_m n).isE = tabI [] := ⟨rfl, rfl, rfl, rfl, rfl, rfl, rfl, rfl⟩
theorem ref03_form_c (n : Nat) : (ref03_form_m n).body = (Try.f122.body).getD .skip := rfl
theorem ref03_form_d (n : Nat) : drawP (ref03_form_m n) [0, 0, 1] = true := by kernel_rfl
noncomputable def ref03_form_e (n : Nat) : { B : Term → Option Bool // ∀ (a0 : Term), run (ref03_form_m n) [.at []] { slots := [(tyC Term.cel).enc a0] ++ List.replicate (57 - [(tyC Term.cel).enc a0].length) .any, heap := [] } = B a0 } := by
  apply Subtype.mk
  intro a0
  simp (config := { maxSteps := 100000000 }) only [go_sem, Nat.reduceAdd, Nat.reduceSub, Nat.reduceLeDiff, Nat.reduceEqDiff, Nat.reduceBEq, Nat.reduceMul, Nat.reduceLT, Int.reduceLE, Int.reduceLT, Int.reduceToNat, Int.reduceBEq, Int.reduceEq, ref03_form_f, ref03_form_c, Try.f122, Option.getD_some, mixed, ref03_form_d]
  exact rfl
noncomputable def ref03_form : Nat → Term → Option Bool
  | 0, _ => none
  | n + 1, a0 => (ref03_form_e n).1 a0
theorem ref03_form_ok : ∀ (n : Nat) (a0 : Term) (r : Bool), ref03_form n a0 = some r → FnC Try.prog 122 [(tyC Term.cel).enc a0] (fun v => v = tyB.enc r)
  | 0, _, _, h => by cases h
  | n + 1, a0, r, h => by
    exact fnC_run (M := ref03_form_m n) ⟨tabA_nil_ok, (tabD_cons_ok (ent1_okD (ref03_Kids_ok n)) tabD_nil_ok), tabN_ok _, tabF_ok _, noY_ok, noE_ok⟩ Try.func122 rfl rfl ⟨(tyC Term.cel).nb 0 _, trivial⟩ Try.ntmps122 Try.results122 (fun σ hs => outR_ok (P := Try.prog) (rs := [.tmp 2]) (t := tyB) (σ := σ) (r := r) hs) (((ref03_form_e n).2 a0).trans h)

noncomputable def ref03_Name_n1 : Nrm := ⟨[], [], [zK, zA, zA, zK, zK, zA, zA, zA, zA, zA, zA, zA, zA, zA, zA, zA, zA, zA, zA, zA, zA, zA, zA, zA, zA, zA, zA, zA, zA, zA, zA, zA, zA, zA, zA, zA, zA, zA, zA, zA, zA, zA, zA, zA, zA], [], none⟩
noncomputable def ref03_Name_m (n : Nat) : Mach Bool where
  body := (Try.f54.body).getD .skip
  P := Try.prog
  cl := tabA [(92, ent1 (tyI .u8) tyB (ref03_letter n))]
  cd := tabD []
  nrm := tabN [([0, 1, 0, 1, 1, 1], ref03_Name_n1)]
  cut := tabF []
  n := n
  out := outR Try.prog [.tmp 2] tyB
theorem ref03_Name_f (n : Nat) : (ref03_Name_m n).P = Try.prog ∧ (ref03_Name_m n).cl = tabA [(92, ent1 (tyI .u8) tyB (ref03_letter n))] ∧ (ref03_Name_m n).cd = tabD [] ∧ (ref03_Name_m n).nrm = tabN [([0, 1, 0, 1, 1, 1], ref03_Name_n1)] ∧ (ref03_Name_m n).cut = tabF [] ∧ (ref03_Name_m n).n = n ∧ (ref03_Name_m n).out = outR Try.prog [.tmp 2] tyB := ⟨rfl, rfl, rfl, rfl, rfl, rfl, rfl⟩
theorem ref03_Name_c (n : Nat) : (ref03_Name_m n).body = (Try.f54.body).getD .skip := rfl
noncomputable def ref03_Name_b1 (n : Nat) : { B : (Str → Bool → Int → Option Bool) → Str → Bool → Int → Option Bool // ∀ m X0, (∀ (v0 : Str) (v1 : Bool) (v2 : Int), run (ref03_Name_m n) [.lq m [0, 1, 0, 1, 1, 1], .blk 0, .cut [1, 1, 1, 1], .at [1, 1, 1, 1]] ⟨[.str (sb v0), .any, .any, .bool v1, .int .i64 v2, .any, .any, .any, .any, .any, .any, .any, .any, .any, .any, .any, .any, .any, .any, .any, .any, .any, .any, .any, .any, .any, .any, .any, .any, .any, .any, .any, .any, .any, .any, .any, .any, .any, .any, .any, .any, .any, .any, .any, .any], [], 0⟩ = X0 v0 v1 v2) → ∀ (v0 : Str) (v1 : Bool) (v2 : Int), run (ref03_Name_m n) [.at [0, 0, 1, 0, 1, 1, 1], .lp m [0, 1, 0, 1, 1, 1], .blk 0, .cut [1, 1, 1, 1], .at [1, 1, 1, 1]] ⟨[.str (sb v0), .any, .any, .bool v1, .int .i64 v2, .any, .any, .any, .any, .any, .any, .any, .any, .any, .any, .any, .any, .any, .any, .any, .any, .any, .any, .any, .any, .any, .any, .any, .any, .any, .any, .any, .any, .any, .any, .any, .any, .any, .any, .any, .any, .any, .any, .any, .any], [], 0⟩ = B X0 v0 v1 v2 } := by
  apply Subtype.mk
  intro m X0 ih v0 v1 v2
  simp (config := { maxSteps := 100000000 }) only [go_sem, Nat.reduceAdd, Nat.reduceSub, Nat.reduceLeDiff, Nat.reduceEqDiff, Nat.reduceBEq, Nat.reduceMul, Nat.reduceLT, Int.reduceLE, Int.reduceLT, Int.reduceToNat, Int.reduceBEq, Int.reduceEq, ref03_Name_f, ref03_Name_c, Try.f54, Option.getD_some, mixed, ref03_Name_n1, ih]
  exact rfl
noncomputable def ref03_Name_l1 (n : Nat) : Nat → Str → Bool → Int → Option Bool
  | 0, _, _, _ => none
  | m + 1, v0, v1, v2 => (ref03_Name_b1 n).1 (ref03_Name_l1 n m) v0 v1 v2
theorem ref03_Name_l1_eq (n : Nat) : ∀ (m : Nat), (∀ (v0 : Str) (v1 : Bool) (v2 : Int), run (ref03_Name_m n) [.lq m [0, 1, 0, 1, 1, 1], .blk 0, .cut [1, 1, 1, 1], .at [1, 1, 1, 1]] ⟨[.str (sb v0), .any, .any, .bool v1, .int .i64 v2, .any, .any, .any, .any, .any, .any, .any, .any, .any, .any, .any, .any, .any, .any, .any, .any, .any, .any, .any, .any, .any, .any, .any, .any, .any, .any, .any, .any, .any, .any, .any, .any, .any, .any, .any, .any, .any, .any, .any, .any], [], 0⟩ = ref03_Name_l1 n m v0 v1 v2)
  | 0 => by intros; exact run_lq_zero
  | m + 1 => by
    have ih := ref03_Name_l1_eq n m
    intro v0 v1 v2
    rw [run_lq_succ]
    exact (ref03_Name_b1 n).2  m _  ih v0 v1 v2
noncomputable def ref03_Name_e (n : Nat) : { B : Str → Option Bool // ∀ (a0 : Str), run (ref03_Name_m n) [.at []] { slots := [tyS.enc a0] ++ List.replicate (45 - [tyS.enc a0].length) .any, heap := [] } = B a0 } := by
  apply Subtype.mk
  intro a0
  simp (config := { maxSteps := 100000000 }) only [go_sem, Nat.reduceAdd, Nat.reduceSub, Nat.reduceLeDiff, Nat.reduceEqDiff, Nat.reduceBEq, Nat.reduceMul, Nat.reduceLT, Int.reduceLE, Int.reduceLT, Int.reduceToNat, Int.reduceBEq, Int.reduceEq, ref03_Name_f, ref03_Name_c, Try.f54, Option.getD_some, mixed, ref03_Name_n1, ref03_Name_l1_eq n]
  exact rfl
noncomputable def ref03_Name : Nat → Str → Option Bool
  | 0, _ => none
  | n + 1, a0 => (ref03_Name_e n).1 a0
theorem ref03_Name_ok : ∀ (n : Nat) (a0 : Str) (r : Bool), ref03_Name n a0 = some r → FnC Try.prog 54 [tyS.enc a0] (fun v => v = tyB.enc r)
  | 0, _, _, h => by cases h
  | n + 1, a0, r, h => by
    exact fnC_run (M := ref03_Name_m n) ⟨(tabA_cons_ok (ent1_ok (ref03_letter_ok n)) tabA_nil_ok), tabD_nil_ok, tabN_ok _, tabF_ok _, noY_ok, noE_ok⟩ Try.func54 rfl rfl ⟨tyS.nb 0 _, trivial⟩ Try.ntmps54 Try.results54 (fun σ hs => outR_ok (P := Try.prog) (rs := [.tmp 2]) (t := tyB) (σ := σ) (r := r) hs) (((ref03_Name_e n).2 a0).trans h)

noncomputable def ref03_level_n1 : Nrm := ⟨[], [], [zA, zA, zK, zK, zA, zA, zA, zA, zK, zA, zA, zA, zA, zA, zA, zA, zA, zA, zA, zA, zA, zA, zA, zA, zA, zA, zA, zA, zA, zA, zA, zA, zA, zA, zA, zA, zA, zA, zA, zA, zA, zA, zA, zA, zA, zA, zA, zA, zA, zA, zA, zA, zA, zA, zA, zA, zA, zA, zA, zA, zA], [oT Level.cel], none⟩
noncomputable def ref03_level_n2 : Nrm := ⟨[], [], [zA, zK, zK, zK, zA, zA, zA, zK, zA, zA, zA, zA, zA, zA, zA, zA, zA, zA, zA, zA, zA, zA, zA, zA, zA, zA, zA, zA, zA, zA, zA, zA, zA, zA, zA, zA, zA, zA, zA, zA, zA, zA, zA, zA, zA, zA, zA, zA, zA, zA, zA, zA, zA, zA, zA, zA, zA, zA, zA, zA, zA], [oT Level.cel], none⟩
noncomputable def ref03_level_m (n : Nat) : Mach Int where
  body := (Try.f123.body).getD .skip
  P := Try.prog
  cl := tabA [(134, ent1 (tyC Level.cel) tyB (ref01_Valid n))]
  cd := tabD []
  nrm := tabN [([0, 1, 0, 1, 1, 1], ref03_level_n1), ([0, 1, 0, 1, 1], ref03_level_n2)]
  cut := tabF []
  n := n
  out := outR Try.prog [.tmp 6] (tyI .i64)
theorem ref03_level_f (n : Nat) : (ref03_level_m n).P = Try.prog ∧ (ref03_level_m n).cl = tabA [(134, ent1 (tyC Level.cel) tyB (ref01_Valid n))] ∧ (ref03_level_m n).cd = tabD [] ∧ (ref03_level_m n).nrm = tabN [([0, 1, 0, 1, 1, 1], ref03_level_n1), ([0, 1, 0, 1, 1], ref03_level_n2)] ∧ (ref03_level_m n).cut = tabF [] ∧ (ref03_level_m n).n = n ∧ (ref03_level_m n).out = outR Try.prog [.tmp 6] (tyI .i64) := ⟨rfl, rfl, rfl, rfl, rfl, rfl, rfl⟩
theorem ref03_level_c (n : Nat) : (ref03_level_m n).body = (Try.f123.body).getD .skip := rfl
noncomputable def ref03_level_b1 (n : Nat) : { B : (Int → Int → Level → Option Int) → Int → Int → Level → Option Int // ∀ m X0, (∀ (v0 : Int) (v1 : Int) (o0 : Level), run (ref03_level_m n) [.lq m [0, 1, 0, 1, 1, 1], .blk 2, .cut [1, 1, 1, 1], .at [1, 1, 1, 1]] ⟨[.any, .any, .int .i64 v0, .ptr 0 0, .any, .any, .any, .any, .int .i64 v1, .any, .any, .any, .any, .any, .any, .any, .any, .any, .any, .any, .any, .any, .any, .any, .any, .any, .any, .any, .any, .any, .any, .any, .any, .any, .any, .any, .any, .any, .any, .any, .any, .any, .any, .any, .any, .any, .any, .any, .any, .any, .any, .any, .any, .any, .any, .any, .any, .any, .any, .any, .any], [.cells (Level.cells o0)], 0⟩ = X0 v0 v1 o0) → ∀ (v0 : Int) (v1 : Int) (o0 : Level), run (ref03_level_m n) [.at [0, 0, 1, 0, 1, 1, 1], .lp m [0, 1, 0, 1, 1, 1], .blk 2, .cut [1, 1, 1, 1], .at [1, 1, 1, 1]] ⟨[.any, .any, .int .i64 v0, .ptr 0 0, .any, .any, .any, .any, .int .i64 v1, .any, .any, .any, .any, .any, .any, .any, .any, .any, .any, .any, .any, .any, .any, .any, .any, .any, .any, .any, .any, .any, .any, .any, .any, .any, .any, .any, .any, .any, .any, .any, .any, .any, .any, .any, .any, .any, .any, .any, .any, .any, .any, .any, .any, .any, .any, .any, .any, .any, .any, .any, .any], [.cells (Level.cells o0)], 0⟩ = B X0 v0 v1 o0 } := by
  apply Subtype.mk
  intro m X0 ih v0 v1 o0
  simp (config := { maxSteps := 100000000 }) only [go_sem, Nat.reduceAdd, Nat.reduceSub, Nat.reduceLeDiff, Nat.reduceEqDiff, Nat.reduceBEq, Nat.reduceMul, Nat.reduceLT, Int.reduceLE, Int.reduceLT, Int.reduceToNat, Int.reduceBEq, Int.reduceEq, ref03_level_f, ref03_level_c, Try.f123, Option.getD_some, mixed, ref03_level_n1, ref03_level_n2, ih]
  exact rfl
noncomputable def ref03_level_l1 (n : Nat) : Nat → Int → Int → Level → Option Int
  | 0, _, _, _ => none
  | m + 1, v0, v1, o0 => (ref03_level_b1 n).1 (ref03_level_l1 n m) v0 v1 o0
theorem ref03_level_l1_eq (n : Nat) : ∀ (m : Nat), (∀ (v0 : Int) (v1 : Int) (o0 : Level), run (ref03_level_m n) [.lq m [0, 1, 0, 1, 1, 1], .blk 2, .cut [1, 1, 1, 1], .at [1, 1, 1, 1]] ⟨[.any, .any, .int .i64 v0, .ptr 0 0, .any, .any, .any, .any, .int .i64 v1, .any, .any, .any, .any, .any, .any, .any, .any, .any, .any, .any, .any, .any, .any, .any, .any, .any, .any, .any, .any, .any, .any, .any, .any, .any, .any, .any, .any, .any, .any, .any, .any, .any, .any, .any, .any, .any, .any, .any, .any, .any, .any, .any, .any, .any, .any, .any, .any, .any, .any, .any, .any], [.cells (Level.cells o0)], 0⟩ = ref03_level_l1 n m v0 v1 o0)
  | 0 => by intros; exact run_lq_zero
  | m + 1 => by
    have ih := ref03_level_l1_eq n m
    intro v0 v1 o0
    rw [run_lq_succ]
    exact (ref03_level_b1 n).2  m _  ih v0 v1 o0
noncomputable def ref03_level_b2 (n : Nat) : { B : (Int → Int → Int → Level → Option Int) → Int → Int → Int → Level → Option Int // ∀ m X0, (∀ (v0 : Int) (v1 : Int) (v2 : Int) (o0 : Level), run (ref03_level_m n) [.lq m [0, 1, 0, 1, 1], .blk 0, .cut [1, 1, 1], .at [1, 1, 1]] ⟨[.any, .int .i64 v0, .int .i64 v1, .ptr 0 0, .any, .any, .any, .int .i64 v2, .any, .any, .any, .any, .any, .any, .any, .any, .any, .any, .any, .any, .any, .any, .any, .any, .any, .any, .any, .any, .any, .any, .any, .any, .any, .any, .any, .any, .any, .any, .any, .any, .any, .any, .any, .any, .any, .any, .any, .any, .any, .any, .any, .any, .any, .any, .any, .any, .any, .any, .any, .any, .any], [.cells (Level.cells o0)], 0⟩ = X0 v0 v1 v2 o0) → ∀ (v0 : Int) (v1 : Int) (v2 : Int) (o0 : Level), run (ref03_level_m n) [.at [0, 0, 1, 0, 1, 1], .lp m [0, 1, 0, 1, 1], .blk 0, .cut [1, 1, 1], .at [1, 1, 1]] ⟨[.any, .int .i64 v0, .int .i64 v1, .ptr 0 0, .any, .any, .any, .int .i64 v2, .any, .any, .any, .any, .any, .any, .any, .any, .any, .any, .any, .any, .any, .any, .any, .any, .any, .any, .any, .any, .any, .any, .any, .any, .any, .any, .any, .any, .any, .any, .any, .any, .any, .any, .any, .any, .any, .any, .any, .any, .any, .any, .any, .any, .any, .any, .any, .any, .any, .any, .any, .any, .any], [.cells (Level.cells o0)], 0⟩ = B X0 v0 v1 v2 o0 } := by
  apply Subtype.mk
  intro m X0 ih v0 v1 v2 o0
  simp (config := { maxSteps := 100000000 }) only [go_sem, Nat.reduceAdd, Nat.reduceSub, Nat.reduceLeDiff, Nat.reduceEqDiff, Nat.reduceBEq, Nat.reduceMul, Nat.reduceLT, Int.reduceLE, Int.reduceLT, Int.reduceToNat, Int.reduceBEq, Int.reduceEq, ref03_level_f, ref03_level_c, Try.f123, Option.getD_some, mixed, ref03_level_n1, ref03_level_n2, ref03_level_l1_eq n, ih]
  exact rfl
noncomputable def ref03_level_l2 (n : Nat) : Nat → Int → Int → Int → Level → Option Int
  | 0, _, _, _, _ => none
  | m + 1, v0, v1, v2, o0 => (ref03_level_b2 n).1 (ref03_level_l2 n m) v0 v1 v2 o0
theorem ref03_level_l2_eq (n : Nat) : ∀ (m : Nat), (∀ (v0 : Int) (v1 : Int) (v2 : Int) (o0 : Level), run (ref03_level_m n) [.lq m [0, 1, 0, 1, 1], .blk 0, .cut [1, 1, 1], .at [1, 1, 1]] ⟨[.any, .int .i64 v0, .int .i64 v1, .ptr 0 0, .any, .any, .any, .int .i64 v2, .any, .any, .any, .any, .any, .any, .any, .any, .any, .any, .any, .any, .any, .any, .any, .any, .any, .any, .any, .any, .any, .any, .any, .any, .any, .any, .any, .any, .any, .any, .any, .any, .any, .any, .any, .any, .any, .any, .any, .any, .any, .any, .any, .any, .any, .any, .any, .any, .any, .any, .any, .any, .any], [.cells (Level.cells o0)], 0⟩ = ref03_level_l2 n m v0 v1 v2 o0)
  | 0 => by intros; exact run_lq_zero
  | m + 1 => by
    have ih := ref03_level_l2_eq n m
    intro v0 v1 v2 o0
    rw [run_lq_succ]
    exact (ref03_level_b2 n).2  m _  ih v0 v1 v2 o0
noncomputable def ref03_level_e (n : Nat) : { B : Level → Int → Int → Option Int // ∀ (a0 : Level) (a1 : Int) (a2 : Int), run (ref03_level_m n) [.at []] { slots := [(tyC Level.cel).enc a0, (tyI .i64).enc a1, (tyI .i64).enc a2] ++ List.replicate (61 - [(tyC Level.cel).enc a0, (tyI .i64).enc a1, (tyI .i64).enc a2].length) .any, heap := [] } = B a0 a1 a2 } := by
  apply Subtype.mk
  intro a0 a1 a2
  simp (config := { maxSteps := 100000000 }) only [go_sem, Nat.reduceAdd, Nat.reduceSub, Nat.reduceLeDiff, Nat.reduceEqDiff, Nat.reduceBEq, Nat.reduceMul, Nat.reduceLT, Int.reduceLE, Int.reduceLT, Int.reduceToNat, Int.reduceBEq, Int.reduceEq, ref03_level_f, ref03_level_c, Try.f123, Option.getD_some, mixed, ref03_level_n1, ref03_level_n2, ref03_level_l1_eq n, ref03_level_l2_eq n]
  exact rfl
noncomputable def ref03_level : Nat → Level → Int → Int → Option Int
  | 0, _, _, _ => none
  | n + 1, a0, a1, a2 => (ref03_level_e n).1 a0 a1 a2
theorem ref03_level_ok : ∀ (n : Nat) (a0 : Level) (a1 : Int) (a2 : Int) (r : Int), ref03_level n a0 a1 a2 = some r → FnC Try.prog 123 [(tyC Level.cel).enc a0, (tyI .i64).enc a1, (tyI .i64).enc a2] (fun v => v = (tyI .i64).enc r)
  | 0, _, _, _, _, h => by cases h
  | n + 1, a0, a1, a2, r, h => by
    exact fnC_run (M := ref03_level_m n) ⟨(tabA_cons_ok (ent1_ok (ref01_Valid_ok n)) tabA_nil_ok), tabD_nil_ok, tabN_ok _, tabF_ok _, noY_ok, noE_ok⟩ Try.func123 rfl rfl ⟨(tyC Level.cel).nb 0 _, (tyI .i64).nb 0 _, (tyI .i64).nb 0 _, trivial⟩ Try.ntmps123 Try.results123 (fun σ hs => outR_ok (P := Try.prog) (rs := [.tmp 6]) (t := (tyI .i64)) (σ := σ) (r := r) hs) (((ref03_level_e n).2 a0 a1 a2).trans h)

noncomputable def law12_vec_4_m (n : Nat) : Mach Term where
  body := (Try.f96.body).getD .skip
  P := Try.prog
  cl := tabA []
  cd := tabD [(95, entD (ent2 (tyC Term.cel) (tyC Term.cel) (tyC Term.cel) (law12_vec_3 n)))]
  nrm := tabN []
  cut := tabF []
  n := n
  out := outR Try.prog [.cell 6 25] (tyC Term.cel)
  isE := tabI []
theorem law12_vec_4_f (n : Nat) : (law12_vec_4_m n).P = Try.prog ∧ (law12_vec_4_m n).cl = tabA [] ∧ (law12_vec_4_m n).cd = tabD [(95, entD (ent2 (tyC Term.cel) (tyC Term.cel) (tyC Term.cel) (law12_vec_3 n)))] ∧ (law12_vec_4_m n).nrm = tabN [] ∧ (law12_vec_4_m n).cut = tabF [] ∧ (law12_vec_4_m n).n = n ∧ (law12_vec_4_m n).out = outR Try.prog [.cell 6 25] (tyC Term.cel) ∧ (law12_vec_4_m n).isE = tabI [] := ⟨rfl, rfl, rfl, rfl, rfl, rfl, rfl, rfl⟩
theorem law12_vec_4_c (n : Nat) : (law12_vec_4_m n).body = (Try.f96.body).getD .skip := rfl
theorem law12_vec_4_d (n : Nat) : drawP (law12_vec_4_m n) [0, 1] = true := by kernel_rfl
theorem law12_vec_4_o (n : Nat) : ordP (law12_vec_4_m n) [0, 1] 0 8 = true ∧ ordP (law12_vec_4_m n) [0, 1] 1 8 = true ∧ ordP (law12_vec_4_m n) [0, 1] 2 8 = true ∧ ordP (law12_vec_4_m n) [0, 1] 4 8 = true ∧ ordP (law12_vec_4_m n) [0, 1] 6 8 = true := ⟨by kernel_rfl, by kernel_rfl, by kernel_rfl, by kernel_rfl, by kernel_rfl⟩
noncomputable def law12_vec_4_e (n : Nat) : { B : Term → Term → Unit → (List Level) → Option Term // ∀ (a0 : Term) (a1 : Term) (a2 : Unit) (a3 : (List Level)), run (law12_vec_4_m n) [.at []] { slots := [(tyC Term.cel).enc a0, (tyC Term.cel).enc a1, (tyP (cF 95)).enc a2, (tyP (cL Level.row)).enc a3] ++ List.replicate (15 - [(tyC Term.cel).enc a0, (tyC Term.cel).enc a1, (tyP (cF 95)).enc a2, (tyP (cL Level.row)).enc a3].length) .any, heap := [] } = B a0 a1 a2 a3 } := by
  apply Subtype.mk
  intro a0 a1 a2 a3
  simp (config := { maxSteps := 100000000 }) only [go_sem, Nat.reduceAdd, Nat.reduceSub, Nat.reduceLeDiff, Nat.reduceEqDiff, Nat.reduceBEq, Nat.reduceMul, Nat.reduceLT, Int.reduceLE, Int.reduceLT, Int.reduceToNat, Int.reduceBEq, Int.reduceEq, law12_vec_4_f, law12_vec_4_c, Try.f96, Option.getD_some, mixed, law12_vec_4_d, law12_vec_4_o]
  exact rfl
noncomputable def law12_vec_4 : Nat → Term → Term → Unit → (List Level) → Option Term
  | 0, _, _, _, _ => none
  | n + 1, a0, a1, a2, a3 => (law12_vec_4_e n).1 a0 a1 a2 a3
theorem law12_vec_4_ok : ∀ (n : Nat) (a0 : Term) (a1 : Term) (a2 : Unit) (a3 : (List Level)) (r : Term), law12_vec_4 n a0 a1 a2 a3 = some r → FnC Try.prog 96 [(tyC Term.cel).enc a0, (tyC Term.cel).enc a1, (tyP (cF 95)).enc a2, (tyP (cL Level.row)).enc a3] (fun v => v = (tyC Term.cel).enc r)
  | 0, _, _, _, _, _, h => by cases h
  | n + 1, a0, a1, a2, a3, r, h => by
    exact fnC_run (M := law12_vec_4_m n) ⟨tabA_nil_ok, (tabD_cons_ok (ent2_okD (law12_vec_3_ok n)) tabD_nil_ok), tabN_ok _, tabF_ok _, noY_ok, noE_ok⟩ Try.func96 rfl rfl ⟨(tyC Term.cel).nb 0 _, (tyC Term.cel).nb 0 _, (tyP (cF 95)).nb 0 _, (tyP (cL Level.row)).nb 0 _, trivial⟩ Try.ntmps96 Try.results96 (fun σ hs => outR_ok (P := Try.prog) (rs := [.cell 6 25]) (t := (tyC Term.cel)) (σ := σ) (r := r) hs) (((law12_vec_4_e n).2 a0 a1 a2 a3).trans h)

noncomputable def telescope_Spine_n1 : Nrm := ⟨[(4, 5, false)], [], [zA, zK, zK, zA, zK, zA, zA, zA, zA, zA, zA, zA, zA, zA, zA, zA, zA, zA, zA, zA, zA, zA, zA, zA, zA, zA, zA, zA, zA], [oT Term.cel, oK, oA Term.row], none⟩
noncomputable def telescope_Spine_m (n : Nat) : Mach (Term × (List Term)) where
  body := (Try.f72.body).getD .skip
  P := Try.prog
  cl := tabA [(107, entGh 0 false 5 (entG [0] (osC (oaT false Term.row) osN) (asA 0 (fun (b : ((List Term) × Unit)) => b.1.length) asN) (osC (oaT false Term.row) osN) rsN (fun (b : ((List Term) × Unit)) a => (slices_Reverse_Term n) b.1)))]
  cd := tabD []
  nrm := tabN [([0, 0, 1, 1], telescope_Spine_n1)]
  cut := tabF []
  n := n
  out := outR Try.prog [.cell 2 25, .tmp 3] (ty2 (tyC Term.cel) (tyL Term.row))
theorem telescope_Spine_f (n : Nat) : (telescope_Spine_m n).P = Try.prog ∧ (telescope_Spine_m n).cl = tabA [(107, entGh 0 false 5 (entG [0] (osC (oaT false Term.row) osN) (asA 0 (fun (b : ((List Term) × Unit)) => b.1.length) asN) (osC (oaT false Term.row) osN) rsN (fun (b : ((List Term) × Unit)) a => (slices_Reverse_Term n) b.1)))] ∧ (telescope_Spine_m n).cd = tabD [] ∧ (telescope_Spine_m n).nrm = tabN [([0, 0, 1, 1], telescope_Spine_n1)] ∧ (telescope_Spine_m n).cut = tabF [] ∧ (telescope_Spine_m n).n = n ∧ (telescope_Spine_m n).out = outR Try.prog [.cell 2 25, .tmp 3] (ty2 (tyC Term.cel) (tyL Term.row)) := ⟨rfl, rfl, rfl, rfl, rfl, rfl, rfl⟩
theorem telescope_Spine_c (n : Nat) : (telescope_Spine_m n).body = (Try.f72.body).getD .skip := rfl
noncomputable def telescope_Spine_b1 (n : Nat) : { B : (Term → (List Term) → Option (Term × (List Term))) → Term → (List Term) → Option (Term × (List Term)) // ∀ m X0, (∀ (o0 : Term) (r2 : List Term) (c2 : Nat), c2 = r2.length → run (telescope_Spine_m n) [.lq m [0, 0, 1, 1], .blk 0, .cut [1, 1, 1], .at [1, 1, 1]] ⟨[.any, .ptr 0 0, .ptr 1 0, .any, .acc 2 c2, .any, .any, .any, .any, .any, .any, .any, .any, .any, .any, .any, .any, .any, .any, .any, .any, .any, .any, .any, .any, .any, .any, .any, .any], [.cells (Term.cells o0), .cells [.int .i64 0, .int .i64 0, .str (sb []), .lst true 0 [], .lst true 0 []], .acc false 5 (mp Term.cells r2)], 0⟩ = X0 o0 r2) → ∀ (o0 : Term) (r2 : List Term), run (telescope_Spine_m n) [.at [0, 0, 0, 1, 1], .lp m [0, 0, 1, 1], .blk 0, .cut [1, 1, 1], .at [1, 1, 1]] ⟨[.any, .ptr 0 0, .ptr 1 0, .any, .acc 2 r2.length, .any, .any, .any, .any, .any, .any, .any, .any, .any, .any, .any, .any, .any, .any, .any, .any, .any, .any, .any, .any, .any, .any, .any, .any], [.cells (Term.cells o0), .cells [.int .i64 0, .int .i64 0, .str (sb []), .lst true 0 [], .lst true 0 []], .acc false 5 (mp Term.cells r2)], 0⟩ = B X0 o0 r2 } := by
  apply Subtype.mk
  intro m X0 ih o0 r2
  simp (config := { maxSteps := 100000000 }) only [go_sem, Nat.reduceAdd, Nat.reduceSub, Nat.reduceLeDiff, Nat.reduceEqDiff, Nat.reduceBEq, Nat.reduceMul, Nat.reduceLT, Int.reduceLE, Int.reduceLT, Int.reduceToNat, Int.reduceBEq, Int.reduceEq, telescope_Spine_f, telescope_Spine_c, Try.f72, Option.getD_some, mixed, telescope_Spine_n1, ih]
  exact rfl
noncomputable def telescope_Spine_l1 (n : Nat) : Nat → Term → (List Term) → Option (Term × (List Term))
  | 0, _, _ => none
  | m + 1, o0, r2 => (telescope_Spine_b1 n).1 (telescope_Spine_l1 n m) o0 r2
theorem telescope_Spine_l1_eq (n : Nat) : ∀ (m : Nat), (∀ (o0 : Term) (r2 : List Term) (c2 : Nat), c2 = r2.length → run (telescope_Spine_m n) [.lq m [0, 0, 1, 1], .blk 0, .cut [1, 1, 1], .at [1, 1, 1]] ⟨[.any, .ptr 0 0, .ptr 1 0, .any, .acc 2 c2, .any, .any, .any, .any, .any, .any, .any, .any, .any, .any, .any, .any, .any, .any, .any, .any, .any, .any, .any, .any, .any, .any, .any, .any], [.cells (Term.cells o0), .cells [.int .i64 0, .int .i64 0, .str (sb []), .lst true 0 [], .lst true 0 []], .acc false 5 (mp Term.cells r2)], 0⟩ = telescope_Spine_l1 n m o0 r2)
  | 0 => by intros; exact run_lq_zero
  | m + 1 => by
    have ih := telescope_Spine_l1_eq n m
    intro o0 r2 c2 ec2
    subst ec2
    rw [run_lq_succ]
    exact (telescope_Spine_b1 n).2  m _  ih o0 r2
noncomputable def telescope_Spine_e (n : Nat) : { B : Term → Option (Term × (List Term)) // ∀ (a0 : Term), run (telescope_Spine_m n) [.at []] { slots := [(tyC Term.cel).enc a0] ++ List.replicate (29 - [(tyC Term.cel).enc a0].length) .any, heap := [] } = B a0 } := by
  apply Subtype.mk
  intro a0
  simp (config := { maxSteps := 100000000 }) only [go_sem, Nat.reduceAdd, Nat.reduceSub, Nat.reduceLeDiff, Nat.reduceEqDiff, Nat.reduceBEq, Nat.reduceMul, Nat.reduceLT, Int.reduceLE, Int.reduceLT, Int.reduceToNat, Int.reduceBEq, Int.reduceEq, telescope_Spine_f, telescope_Spine_c, Try.f72, Option.getD_some, mixed, telescope_Spine_n1, telescope_Spine_l1_eq n]
  exact rfl
noncomputable def telescope_Spine : Nat → Term → Option (Term × (List Term))
  | 0, _ => none
  | n + 1, a0 => (telescope_Spine_e n).1 a0
theorem telescope_Spine_ok : ∀ (n : Nat) (a0 : Term) (r : (Term × (List Term))), telescope_Spine n a0 = some r → FnC Try.prog 72 [(tyC Term.cel).enc a0] (fun v => v = (ty2 (tyC Term.cel) (tyL Term.row)).enc r)
  | 0, _, _, h => by cases h
  | n + 1, a0, r, h => by
    exact fnC_run (M := telescope_Spine_m n) ⟨(tabA_cons_ok (entGh_ok (entG_ok (fun b a r h => (slices_Reverse_Term_ok n) b.1 r h))) tabA_nil_ok), tabD_nil_ok, tabN_ok _, tabF_ok _, noY_ok, noE_ok⟩ Try.func72 rfl rfl ⟨(tyC Term.cel).nb 0 _, trivial⟩ Try.ntmps72 Try.results72 (fun σ hs => outR_ok (P := Try.prog) (rs := [.cell 2 25, .tmp 3]) (t := (ty2 (tyC Term.cel) (tyL Term.row))) (σ := σ) (r := r) hs) (((telescope_Spine_e n).2 a0).trans h)
end Go.Abs
namespace Go.Abs
open Go.Proofs
set_option maxRecDepth 100000
set_option maxHeartbeats 4000000
set_option linter.unusedSimpArgs false
set_option linter.unusedVariables false
noncomputable def term_sameLevel_m (n : Nat) : Mach Bool where
  body := (Try.f64.body).getD .skip
  P := Try.prog
  cl := tabA [(102, ent2 (tyL LevelVar.row) (tyL LevelVar.row) tyB (slices_Equal_LevelVar n))]
  cd := tabD []
  nrm := tabN []
  cut := tabF []
  n := n
  out := outR Try.prog [.tmp 4] tyB
theorem term_sameLevel_f (n : Nat) : (term_sameLevel_m n).P = Try.prog ∧ (term_sameLevel_m n).cl = tabA [(102, ent2 (tyL LevelVar.row) (tyL LevelVar.row) tyB (slices_Equal_LevelVar n))] ∧ (term_sameLevel_m n).cd = tabD [] ∧ (term_sameLevel_m n).nrm = tabN [] ∧ (term_sameLevel_m n).cut = tabF [] ∧ (term_sameLevel_m n).n = n ∧ (term_sameLevel_m n).out = outR Try.prog [.tmp 4] tyB := ⟨rfl, rfl, rfl, rfl, rfl, rfl, rfl⟩
theorem term_sameLevel_c (n : Nat) : (term_sameLevel_m n).body = (Try.f64.body).getD .skip := rfl
noncomputable def term_sameLevel_e (n : Nat) : { B : Level → Level → Option Bool // ∀ (a0 : Level) (a1 : Level), run (term_sameLevel_m n) [.at []] { slots := [(tyC Level.cel).enc a0, (tyC Level.cel).enc a1] ++ List.replicate (17 - [(tyC Level.cel).enc a0, (tyC Level.cel).enc a1].length) .any, heap := [] } = B a0 a1 } := by
  apply Subtype.mk
  intro a0 a1
  simp (config := { maxSteps := 100000000 }) only [go_sem, Nat.reduceAdd, Nat.reduceSub, Nat.reduceLeDiff, Nat.reduceEqDiff, Nat.reduceBEq, Nat.reduceMul, Nat.reduceLT, Int.reduceLE, Int.reduceLT, Int.reduceToNat, Int.reduceBEq, Int.reduceEq, term_sameLevel_f, term_sameLevel_c, Try.f64, Option.getD_some, mixed]
  exact rfl
noncomputable def term_sameLevel : Nat → Level → Level → Option Bool
  | 0, _, _ => none
  | n + 1, a0, a1 => (term_sameLevel_e n).1 a0 a1
theorem term_sameLevel_ok : ∀ (n : Nat) (a0 : Level) (a1 : Level) (r : Bool), term_sameLevel n a0 a1 = some r → FnC Try.prog 64 [(tyC Level.cel).enc a0, (tyC Level.cel).enc a1] (fun v => v = tyB.enc r)
  | 0, _, _, _, h => by cases h
  | n + 1, a0, a1, r, h => by
    exact fnC_run (M := term_sameLevel_m n) ⟨(tabA_cons_ok (ent2_ok (slices_Equal_LevelVar_ok n)) tabA_nil_ok), tabD_nil_ok, tabN_ok _, tabF_ok _, noY_ok, noE_ok⟩ Try.func64 rfl rfl ⟨(tyC Level.cel).nb 0 _, (tyC Level.cel).nb 0 _, trivial⟩ Try.ntmps64 Try.results64 (fun σ hs => outR_ok (P := Try.prog) (rs := [.tmp 4]) (t := tyB) (σ := σ) (r := r) hs) (((term_sameLevel_e n).2 a0 a1).trans h)

noncomputable def ref07_Params_n1 : Nrm := ⟨[(3, 2, true)], [], [zK, zA, zA, zK, zK, zA, zA, zA, zA, zA, zA, zA, zA, zA, zA, zA, zA, zA, zA, zA, zA, zA], [oA Level.row], none⟩
noncomputable def ref07_Params_m (n : Nat) : Mach (List Level) where
  body := (Try.f45.body).getD .skip
  P := Try.prog
  cl := tabA [(88, ent2 (tyI .i64) (tyI .i64) (ty2 (tyC Level.cel) (tyI .i64)) (ref01_Var n))]
  cd := tabD []
  nrm := tabN [([0, 1, 0, 1, 1], ref07_Params_n1)]
  cut := tabF []
  n := n
  out := outR Try.prog [.tmp 2] (tyL Level.row)
theorem ref07_Params_f (n : Nat) : (ref07_Params_m n).P = Try.prog ∧ (ref07_Params_m n).cl = tabA [(88, ent2 (tyI .i64) (tyI .i64) (ty2 (tyC Level.cel) (tyI .i64)) (ref01_Var n))] ∧ (ref07_Params_m n).cd = tabD [] ∧ (ref07_Params_m n).nrm = tabN [([0, 1, 0, 1, 1], ref07_Params_n1)] ∧ (ref07_Params_m n).cut = tabF [] ∧ (ref07_Params_m n).n = n ∧ (ref07_Params_m n).out = outR Try.prog [.tmp 2] (tyL Level.row) := ⟨rfl, rfl, rfl, rfl, rfl, rfl, rfl⟩
theorem ref07_Params_c (n : Nat) : (ref07_Params_m n).body = (Try.f45.body).getD .skip := rfl
noncomputable def ref07_Params_b1 (n : Nat) : { B : (Int → Int → (List Level) → Option (List Level)) → Int → Int → (List Level) → Option (List Level) // ∀ m X0, (∀ (v0 : Int) (v1 : Int) (r0 : List Level) (c0 : Nat), c0 = r0.length → run (ref07_Params_m n) [.lq m [0, 1, 0, 1, 1], .blk 0, .cut [1, 1, 1], .at [1, 1, 1]] ⟨[.int .i64 v0, .any, .any, .acc 0 c0, .int .i64 v1, .any, .any, .any, .any, .any, .any, .any, .any, .any, .any, .any, .any, .any, .any, .any, .any, .any], [.acc true 2 (mp Level.cells r0)], 0⟩ = X0 v0 v1 r0) → ∀ (v0 : Int) (v1 : Int) (r0 : List Level), run (ref07_Params_m n) [.at [0, 0, 1, 0, 1, 1], .lp m [0, 1, 0, 1, 1], .blk 0, .cut [1, 1, 1], .at [1, 1, 1]] ⟨[.int .i64 v0, .any, .any, .acc 0 r0.length, .int .i64 v1, .any, .any, .any, .any, .any, .any, .any, .any, .any, .any, .any, .any, .any, .any, .any, .any, .any], [.acc true 2 (mp Level.cells r0)], 0⟩ = B X0 v0 v1 r0 } := by
  apply Subtype.mk
  intro m X0 ih v0 v1 r0
  simp (config := { maxSteps := 100000000 }) only [go_sem, Nat.reduceAdd, Nat.reduceSub, Nat.reduceLeDiff, Nat.reduceEqDiff, Nat.reduceBEq, Nat.reduceMul, Nat.reduceLT, Int.reduceLE, Int.reduceLT, Int.reduceToNat, Int.reduceBEq, Int.reduceEq, ref07_Params_f, ref07_Params_c, Try.f45, Option.getD_some, mixed, ref07_Params_n1, ih]
  exact rfl
noncomputable def ref07_Params_l1 (n : Nat) : Nat → Int → Int → (List Level) → Option (List Level)
  | 0, _, _, _ => none
  | m + 1, v0, v1, r0 => (ref07_Params_b1 n).1 (ref07_Params_l1 n m) v0 v1 r0
theorem ref07_Params_l1_eq (n : Nat) : ∀ (m : Nat), (∀ (v0 : Int) (v1 : Int) (r0 : List Level) (c0 : Nat), c0 = r0.length → run (ref07_Params_m n) [.lq m [0, 1, 0, 1, 1], .blk 0, .cut [1, 1, 1], .at [1, 1, 1]] ⟨[.int .i64 v0, .any, .any, .acc 0 c0, .int .i64 v1, .any, .any, .any, .any, .any, .any, .any, .any, .any, .any, .any, .any, .any, .any, .any, .any, .any], [.acc true 2 (mp Level.cells r0)], 0⟩ = ref07_Params_l1 n m v0 v1 r0)
  | 0 => by intros; exact run_lq_zero
  | m + 1 => by
    have ih := ref07_Params_l1_eq n m
    intro v0 v1 r0 c0 ec0
    subst ec0
    rw [run_lq_succ]
    exact (ref07_Params_b1 n).2  m _  ih v0 v1 r0
noncomputable def ref07_Params_e (n : Nat) : { B : Int → Option (List Level) // ∀ (a0 : Int), run (ref07_Params_m n) [.at []] { slots := [(tyI .i64).enc a0] ++ List.replicate (22 - [(tyI .i64).enc a0].length) .any, heap := [] } = B a0 } := by
  apply Subtype.mk
  intro a0
  simp (config := { maxSteps := 100000000 }) only [go_sem, Nat.reduceAdd, Nat.reduceSub, Nat.reduceLeDiff, Nat.reduceEqDiff, Nat.reduceBEq, Nat.reduceMul, Nat.reduceLT, Int.reduceLE, Int.reduceLT, Int.reduceToNat, Int.reduceBEq, Int.reduceEq, ref07_Params_f, ref07_Params_c, Try.f45, Option.getD_some, mixed, ref07_Params_n1, ref07_Params_l1_eq n]
  exact rfl
noncomputable def ref07_Params : Nat → Int → Option (List Level)
  | 0, _ => none
  | n + 1, a0 => (ref07_Params_e n).1 a0
theorem ref07_Params_ok : ∀ (n : Nat) (a0 : Int) (r : (List Level)), ref07_Params n a0 = some r → FnC Try.prog 45 [(tyI .i64).enc a0] (fun v => v = (tyL Level.row).enc r)
  | 0, _, _, h => by cases h
  | n + 1, a0, r, h => by
    exact fnC_run (M := ref07_Params_m n) ⟨(tabA_cons_ok (ent2_ok (ref01_Var_ok n)) tabA_nil_ok), tabD_nil_ok, tabN_ok _, tabF_ok _, noY_ok, noE_ok⟩ Try.func45 rfl rfl ⟨(tyI .i64).nb 0 _, trivial⟩ Try.ntmps45 Try.results45 (fun σ hs => outR_ok (P := Try.prog) (rs := [.tmp 2]) (t := (tyL Level.row)) (σ := σ) (r := r) hs) (((ref07_Params_e n).2 a0).trans h)

noncomputable def slices_Backward_Term_1_n1 : Nrm := ⟨[], [], [zK, zT (tyP (cL Term.row)), zA, zK, zA, zA, zA, zA, zA, zA, zA, zA, zA, zA, zA, zA, zA, zA, zA], [oL [zA, zA, zT (tyP (cI .i64)), zA, zK, zA, zA, zA, zA, zA, zA, zA, zA, zA, zA, zA, zA, zA], oT Term.cel], none⟩
noncomputable def slices_Backward_Term_1_os : OL ((Int × Unit) × ((Term × Unit) × Unit)) := (olC (ogL0 telescope_over_1_k0_1_0_1 (alZ (alZ (alT (tyP (cI .i64)) (alZ (alP 1 (alZs 13 alN))))))) (olC (ogC (alC Term.cel 5 alN)) olN))
noncomputable def slices_Backward_Term_1_o1 : OL (((Int × Unit) × Int) × ((Term × Unit) × Unit)) := (olC (ogL telescope_over_1_k0_1_0_1 (alZ (alZ (alT (tyP (cI .i64)) (alZ (alP 1 (alZs 13 alN))))))) (olC (ogC (alC Term.cel 5 alN)) olN))
noncomputable def slices_Backward_Term_1_m (n : Nat) : Mach ((((Int × Unit) × Int) × ((Term × Unit) × Unit)) × Unit) where
  body := (Try.f117.body).getD .skip
  P := Try.prog
  cl := tabA []
  cd := tabD []
  nrm := tabN [([0, 1], slices_Backward_Term_1_n1)]
  cut := tabF []
  n := n
  out := outS Try.prog [] [] [0, 1] 2 slices_Backward_Term_1_o1 alN
  cy := tabY [(0, entY [.obj 0 4 []] telescope_over_1_k0_1_0_1_r_os telescope_over_1_k0_1_0_1_r_as telescope_over_1_k0_1_0_1_r_o1 (alT tyB alN) (fun (b : ((Int × Unit) × ((Term × Unit) × Unit))) (a : (Int × (Term × Unit))) => (telescope_over_1_k0_1_0_1_r n) a.1 a.2.1 b.1.1 b.2.1.1))]
theorem slices_Backward_Term_1_f (n : Nat) : (slices_Backward_Term_1_m n).P = Try.prog ∧ (slices_Backward_Term_1_m n).cl = tabA [] ∧ (slices_Backward_Term_1_m n).cd = tabD [] ∧ (slices_Backward_Term_1_m n).nrm = tabN [([0, 1], slices_Backward_Term_1_n1)] ∧ (slices_Backward_Term_1_m n).cut = tabF [] ∧ (slices_Backward_Term_1_m n).n = n ∧ (slices_Backward_Term_1_m n).out = outS Try.prog [] [] [0, 1] 2 slices_Backward_Term_1_o1 alN ∧ (slices_Backward_Term_1_m n).cy = tabY [(0, entY [.obj 0 4 []] telescope_over_1_k0_1_0_1_r_os telescope_over_1_k0_1_0_1_r_as telescope_over_1_k0_1_0_1_r_o1 (alT tyB alN) (fun (b : ((Int × Unit) × ((Term × Unit) × Unit))) (a : (Int × (Term × Unit))) => (telescope_over_1_k0_1_0_1_r n) a.1 a.2.1 b.1.1 b.2.1.1))] := ⟨rfl, rfl, rfl, rfl, rfl, rfl, rfl, rfl⟩
theorem slices_Backward_Term_1_c (n : Nat) : (slices_Backward_Term_1_m n).body = (Try.f117.body).getD .skip := rfl
noncomputable def slices_Backward_Term_1_b1 (n : Nat) : { B : ((List Term) → Int → Int → Int → Term → Option ((((Int × Unit) × Int) × ((Term × Unit) × Unit)) × Unit)) → (List Term) → Int → Int → Int → Term → Option ((((Int × Unit) × Int) × ((Term × Unit) × Unit)) × Unit) // ∀ m X0, (∀ (v0 : List Term) (v1 : Int) (v2 : Int) (j0 : Int) (o1 : Term), run (slices_Backward_Term_1_m n) [.lq m [0, 1], .blk 0] ⟨[.map 0, .pp [.lst false 5 (mp Term.cells v0)], .any, .int .i64 v1, .any, .any, .any, .any, .any, .any, .any, .any, .any, .any, .any, .any, .any, .any, .any], [.loop telescope_over_1_k0_1_0_1 [.any, .any, .pp [.int .i64 v2], .any, .ptr 1 0, .any, .any, .any, .any, .any, .any, .any, .any, .any, .any, .any, .any, .any] (stJ telescope_over_1_k0_1_0_1 j0) j0, .cells (Term.cells o1)], 2⟩ = X0 v0 v1 v2 j0 o1) → ∀ (v0 : List Term) (v1 : Int) (v2 : Int) (j0 : Int) (o1 : Term), run (slices_Backward_Term_1_m n) [.at [0, 0, 1], .lp m [0, 1], .blk 0] ⟨[.map 0, .pp [.lst false 5 (mp Term.cells v0)], .any, .int .i64 v1, .any, .any, .any, .any, .any, .any, .any, .any, .any, .any, .any, .any, .any, .any, .any], [.loop telescope_over_1_k0_1_0_1 [.any, .any, .pp [.int .i64 v2], .any, .ptr 1 0, .any, .any, .any, .any, .any, .any, .any, .any, .any, .any, .any, .any, .any] (stJ telescope_over_1_k0_1_0_1 j0) j0, .cells (Term.cells o1)], 2⟩ = B X0 v0 v1 v2 j0 o1 } := by
  apply Subtype.mk
  intro m X0 ih v0 v1 v2 j0 o1
  simp (config := { maxSteps := 100000000 }) only [go_sem, Nat.reduceAdd, Nat.reduceSub, Nat.reduceLeDiff, Nat.reduceEqDiff, Nat.reduceBEq, Nat.reduceMul, Nat.reduceLT, Int.reduceLE, Int.reduceLT, Int.reduceToNat, Int.reduceBEq, Int.reduceEq, slices_Backward_Term_1_f, slices_Backward_Term_1_c, Try.f117, Option.getD_some, mixed, slices_Backward_Term_1_os, slices_Backward_Term_1_o1, telescope_over_1_k0_1_0_1_r_as, telescope_over_1_k0_1_0_1_r_os, telescope_over_1_k0_1_0_1_r_o1, telescope_over_1_k0_1_0_1_f, slices_Backward_Term_1_n1, ih]
  exact rfl
noncomputable def slices_Backward_Term_1_l1 (n : Nat) : Nat → (List Term) → Int → Int → Int → Term → Option ((((Int × Unit) × Int) × ((Term × Unit) × Unit)) × Unit)
  | 0, _, _, _, _, _ => none
  | m + 1, v0, v1, v2, j0, o1 => (slices_Backward_Term_1_b1 n).1 (slices_Backward_Term_1_l1 n m) v0 v1 v2 j0 o1
theorem slices_Backward_Term_1_l1_eq (n : Nat) : ∀ (m : Nat), (∀ (v0 : List Term) (v1 : Int) (v2 : Int) (j0 : Int) (o1 : Term), run (slices_Backward_Term_1_m n) [.lq m [0, 1], .blk 0] ⟨[.map 0, .pp [.lst false 5 (mp Term.cells v0)], .any, .int .i64 v1, .any, .any, .any, .any, .any, .any, .any, .any, .any, .any, .any, .any, .any, .any, .any], [.loop telescope_over_1_k0_1_0_1 [.any, .any, .pp [.int .i64 v2], .any, .ptr 1 0, .any, .any, .any, .any, .any, .any, .any, .any, .any, .any, .any, .any, .any] (stJ telescope_over_1_k0_1_0_1 j0) j0, .cells (Term.cells o1)], 2⟩ = slices_Backward_Term_1_l1 n m v0 v1 v2 j0 o1)
  | 0 => by intros; exact run_lq_zero
  | m + 1 => by
    have ih := slices_Backward_Term_1_l1_eq n m
    intro v0 v1 v2 j0 o1
    rw [run_lq_succ]
    exact (slices_Backward_Term_1_b1 n).2  m _  ih v0 v1 v2 j0 o1
noncomputable def slices_Backward_Term_1_e (n : Nat) : { B : (List Term) → Int → Term → Option ((((Int × Unit) × Int) × ((Term × Unit) × Unit)) × Unit) // ∀ (a0 : (List Term)) (o0 : Int) (o1 : Term), run (slices_Backward_Term_1_m n) [.at []] { slots := ((alM 0 (alT (tyP (cL Term.row)) alN)).enc (slices_Backward_Term_1_os.lens ((o0, ()), (o1, ()), ())) (a0, ())) ++ List.replicate (19 - ((alM 0 (alT (tyP (cL Term.row)) alN)).enc (slices_Backward_Term_1_os.lens ((o0, ()), (o1, ()), ())) (a0, ())).length) .any, heap := (slices_Backward_Term_1_os.enc (slices_Backward_Term_1_os.lens ((o0, ()), (o1, ()), ())) ((o0, ()), (o1, ()), ())), low := (slices_Backward_Term_1_os.enc (slices_Backward_Term_1_os.lens ((o0, ()), (o1, ()), ())) ((o0, ()), (o1, ()), ())).length } = B a0 o0 o1 } := by
  apply Subtype.mk
  intro a0 o0 o1
  simp (config := { maxSteps := 100000000 }) only [go_sem, Nat.reduceAdd, Nat.reduceSub, Nat.reduceLeDiff, Nat.reduceEqDiff, Nat.reduceBEq, Nat.reduceMul, Nat.reduceLT, Int.reduceLE, Int.reduceLT, Int.reduceToNat, Int.reduceBEq, Int.reduceEq, slices_Backward_Term_1_f, slices_Backward_Term_1_c, Try.f117, Option.getD_some, mixed, slices_Backward_Term_1_os, slices_Backward_Term_1_o1, telescope_over_1_k0_1_0_1_r_as, telescope_over_1_k0_1_0_1_r_os, telescope_over_1_k0_1_0_1_r_o1, telescope_over_1_k0_1_0_1_f, slices_Backward_Term_1_n1, slices_Backward_Term_1_l1_eq n]
  exact rfl
noncomputable def slices_Backward_Term_1 : Nat → (List Term) → Int → Term → Option ((((Int × Unit) × Int) × ((Term × Unit) × Unit)) × Unit)
  | 0, _, _, _ => none
  | n + 1, a0, o0, o1 => (slices_Backward_Term_1_e n).1 a0 o0 o1
theorem slices_Backward_Term_1_ok : ∀ (n : Nat) (a0 : (List Term)) (o0 : Int) (o1 : Term) (r : ((((Int × Unit) × Int) × ((Term × Unit) × Unit)) × Unit)), slices_Backward_Term_1 n a0 o0 o1 = some r → FnG Try.prog 117 ((alM 0 (alT (tyP (cL Term.row)) alN)).enc (slices_Backward_Term_1_os.lens ((o0, ()), (o1, ()), ())) (a0, ())) (slices_Backward_Term_1_os.enc (slices_Backward_Term_1_os.lens ((o0, ()), (o1, ()), ())) ((o0, ()), (o1, ()), ())) (fun o H' => o = .ret (tupOf (alN.enc (slices_Backward_Term_1_o1.lens r.1) r.2)) ∧ H' = slices_Backward_Term_1_o1.enc (slices_Backward_Term_1_o1.lens r.1) r.1)
  | 0, _, _, _, _, h => by cases h
  | n + 1, a0, o0, o1, r, h => by
    exact fnG_run (M := slices_Backward_Term_1_m n) ⟨tabA_nil_ok, tabD_nil_ok, tabN_ok _, tabF_ok _, (tabY_cons_ok (fun _ _ _ _ _ h => entY_ok (fun b a r h => (telescope_over_1_k0_1_0_1_r_ok n) a.1 a.2.1 b.1.1 b.2.1.1 r h) h) tabY_nil_ok), noE_ok⟩ Try.func117 rfl rfl (nbL_le (Nat.le_trans (of_decide_eq_true (by kernel_rfl)) (Nat.le_of_eq (slices_Backward_Term_1_os.sz _ _).symm)) _ ((alM 0 (alT (tyP (cL Term.row)) alN)).nb _ _)) (fun x hx => objNb_le' (Nat.le_trans (of_decide_eq_true (by kernel_rfl)) (Nat.le_of_eq (slices_Backward_Term_1_os.sz _ _).symm)) _ (slices_Backward_Term_1_os.nb _ _ x hx)) Try.ntmps117 Try.results117 (fun σ hs => outS_ok (P := Try.prog) (rs := []) (pos := []) (base := [0, 1]) (low := 2) (os := slices_Backward_Term_1_o1) (s := alN) (σ := σ) (r := r) (by rfl) hs) (((slices_Backward_Term_1_e n).2 a0 o0 o1).trans h)

noncomputable def term_nodes_1_1_n1 : Nrm := ⟨[], [], [zA, zK, zA, zA, zK, zA, zA, zA, zK, zA, zA, zA, zA, zA, zA, zA, zA, zA, zA, zA, zA, zA, zA, zA, zA, zA, zA, zA, zA, zA, zA, zT (tyL Term.row), zK, zK, zA, zA, zA, zA, zA, zA, zA, zA, zA, zA, zA, zA, zA, zA, zA, zA], [oC [zK], oC [zK], oL [zA, zA, zA, zK, zK, zA, zA, zA, zA, zA, zA, zA, zA, zA, zA, zA, zA, zA, zA, zA, zA, zA, zA, zA, zA, zA, zA, zA, zA, zA, zA], oC [zK], oC [zK], oK, oA rowS], none⟩
noncomputable def term_nodes_1_1_as : AL (Term × (Int × ((Tup TermUse 13) × Unit))) := (alT (tyC Term.cel) (alT (tyI .i64) (alP 0 (alT (tyP (cA TermUse.cel 5 13)) (alP 1 alN)))))
noncomputable def term_nodes_1_1_os : OL (Unit × ((((Tup TermUse 13) × Unit) × Unit) × (Unit × (Unit × (Unit × ((List (Str × Bool)) × ((List Str) × Unit))))))) := (olC (ogC (alM 2 alN)) (olC (ogC (alF 116 (vlP 0 (vlT (tyP (cA TermUse.cel 5 13)) (vlP 1 vlN))) alN)) (olC (ogL0 term_Consts_k0_1_0_1_1_1 (alZs 3 (alP 3 (alP 4 (alZs 26 alN))))) (olC (ogC (alM 5 alN)) (olC (ogC (alA 6 alN)) (olC ogM (olC (ogA true rowS) olN)))))))
noncomputable def term_nodes_1_1_o1 : OL (Unit × ((((Tup TermUse 13) × Unit) × Unit) × ((Unit × Int) × (Unit × (Unit × ((List (Str × Bool)) × ((List Str) × Unit))))))) := (olC (ogC (alM 2 alN)) (olC (ogC (alF 116 (vlP 0 (vlT (tyP (cA TermUse.cel 5 13)) (vlP 1 vlN))) alN)) (olC (ogL term_Consts_k0_1_0_1_1_1 (alZs 3 (alP 3 (alP 4 (alZs 26 alN))))) (olC (ogC (alM 5 alN)) (olC (ogC (alA 6 alN)) (olC ogM (olC (ogA true rowS) olN)))))))
noncomputable def term_nodes_1_1_m (X : Term → Int → (Tup TermUse 13) → (Tup TermUse 13) → (List (Str × Bool)) → (List Str) → Option ((Unit × ((((Tup TermUse 13) × Unit) × Unit) × ((Unit × Int) × (Unit × (Unit × ((List (Str × Bool)) × ((List Str) × Unit))))))) × (Bool × Unit))) (n : Nat) : Mach ((Unit × ((((Tup TermUse 13) × Unit) × Unit) × ((Unit × Int) × (Unit × (Unit × ((List (Str × Bool)) × ((List Str) × Unit))))))) × (Bool × Unit)) where
  body := (Try.f116.body).getD .skip
  P := Try.prog
  cl := tabA [(116, entX [.arg 2 [], .arg 4 [], .obj 0 0 [], .obj 2 3 [], .obj 2 4 [], .obj 3 0 [], .obj 4 0 []] term_nodes_1_1_os term_nodes_1_1_as term_nodes_1_1_o1 (alT tyB alN) (fun (b : (Unit × ((((Tup TermUse 13) × Unit) × Unit) × (Unit × (Unit × (Unit × ((List (Str × Bool)) × ((List Str) × Unit)))))))) (a : (Term × (Int × ((Tup TermUse 13) × Unit)))) => X a.1 a.2.1 a.2.2.1 b.2.1.1.1 b.2.2.2.2.2.1 b.2.2.2.2.2.2.1))]
  cd := tabD []
  nrm := tabN [([0, 1, 0, 1, 1, 1, 1], term_nodes_1_1_n1)]
  cut := tabF []
  n := n
  out := outS Try.prog [.tmp 7] [] [0, 1, 2, 3, 4, 5, 6] 7 term_nodes_1_1_o1 (alT tyB alN)
  cy := tabY [(2, entY [.obj 0 3 [], .obj 0 4 [], .obj 1 0 [], .obj 2 0 []] term_Consts_k0_1_0_1_1_1_r_os term_Consts_k0_1_0_1_1_1_r_as term_Consts_k0_1_0_1_1_1_r_o1 (alT tyB alN) (fun (b : (Unit × (Unit × (Unit × ((List (Str × Bool)) × ((List Str) × Unit)))))) (a : (Int × (Term × Unit))) => (term_Consts_k0_1_0_1_1_1_r n) a.1 a.2.1 b.2.2.2.1 b.2.2.2.2.1))]
theorem term_nodes_1_1_f (X : Term → Int → (Tup TermUse 13) → (Tup TermUse 13) → (List (Str × Bool)) → (List Str) → Option ((Unit × ((((Tup TermUse 13) × Unit) × Unit) × ((Unit × Int) × (Unit × (Unit × ((List (Str × Bool)) × ((List Str) × Unit))))))) × (Bool × Unit))) (n : Nat) : (term_nodes_1_1_m X n).P = Try.prog ∧ (term_nodes_1_1_m X n).cl = tabA [(116, entX [.arg 2 [], .arg 4 [], .obj 0 0 [], .obj 2 3 [], .obj 2 4 [], .obj 3 0 [], .obj 4 0 []] term_nodes_1_1_os term_nodes_1_1_as term_nodes_1_1_o1 (alT tyB alN) (fun (b : (Unit × ((((Tup TermUse 13) × Unit) × Unit) × (Unit × (Unit × (Unit × ((List (Str × Bool)) × ((List Str) × Unit)))))))) (a : (Term × (Int × ((Tup TermUse 13) × Unit)))) => X a.1 a.2.1 a.2.2.1 b.2.1.1.1 b.2.2.2.2.2.1 b.2.2.2.2.2.2.1))] ∧ (term_nodes_1_1_m X n).cd = tabD [] ∧ (term_nodes_1_1_m X n).nrm = tabN [([0, 1, 0, 1, 1, 1, 1], term_nodes_1_1_n1)] ∧ (term_nodes_1_1_m X n).cut = tabF [] ∧ (term_nodes_1_1_m X n).n = n ∧ (term_nodes_1_1_m X n).out = outS Try.prog [.tmp 7] [] [0, 1, 2, 3, 4, 5, 6] 7 term_nodes_1_1_o1 (alT tyB alN) ∧ (term_nodes_1_1_m X n).cy = tabY [(2, entY [.obj 0 3 [], .obj 0 4 [], .obj 1 0 [], .obj 2 0 []] term_Consts_k0_1_0_1_1_1_r_os term_Consts_k0_1_0_1_1_1_r_as term_Consts_k0_1_0_1_1_1_r_o1 (alT tyB alN) (fun (b : (Unit × (Unit × (Unit × ((List (Str × Bool)) × ((List Str) × Unit)))))) (a : (Int × (Term × Unit))) => (term_Consts_k0_1_0_1_1_1_r n) a.1 a.2.1 b.2.2.2.1 b.2.2.2.2.1))] := ⟨rfl, rfl, rfl, rfl, rfl, rfl, rfl, rfl⟩
theorem term_nodes_1_1_c (X : Term → Int → (Tup TermUse 13) → (Tup TermUse 13) → (List (Str × Bool)) → (List Str) → Option ((Unit × ((((Tup TermUse 13) × Unit) × Unit) × ((Unit × Int) × (Unit × (Unit × ((List (Str × Bool)) × ((List Str) × Unit))))))) × (Bool × Unit))) (n : Nat) : (term_nodes_1_1_m X n).body = (Try.f116.body).getD .skip := rfl
noncomputable def term_nodes_1_1_b1 (X : Term → Int → (Tup TermUse 13) → (Tup TermUse 13) → (List (Str × Bool)) → (List Str) → Option ((Unit × ((((Tup TermUse 13) × Unit) × Unit) × ((Unit × Int) × (Unit × (Unit × ((List (Str × Bool)) × ((List Str) × Unit))))))) × (Bool × Unit))) (n : Nat) : { B : (Int → Int → (List Term) → Int → Int → (Tup TermUse 13) → Int → (List (Str × Bool)) → (List Str) → Option ((Unit × ((((Tup TermUse 13) × Unit) × Unit) × ((Unit × Int) × (Unit × (Unit × ((List (Str × Bool)) × ((List Str) × Unit))))))) × (Bool × Unit))) → Int → Int → (List Term) → Int → Int → (Tup TermUse 13) → Int → (List (Str × Bool)) → (List Str) → Option ((Unit × ((((Tup TermUse 13) × Unit) × Unit) × ((Unit × Int) × (Unit × (Unit × ((List (Str × Bool)) × ((List Str) × Unit))))))) × (Bool × Unit)) // ∀ m X0, (∀ (v0 : Int) (v1 : Int) (v2 : List Term) (v3 : Int) (v4 : Int) (v5 : Tup TermUse 13) (j2 : Int) (r5 : List (Str × Bool)) (r6 : List Str) (c6 : Nat), c6 = r6.length → run (term_nodes_1_1_m X n) [.lq m [0, 1, 0, 1, 1, 1, 1], .blk 0, .cut [1, 1, 1, 1, 1], .at [1, 1, 1, 1, 1]] ⟨[.any, .int .i64 v0, .any, .any, .ptr 1 0, .any, .any, .any, .int .i64 v1, .any, .any, .any, .any, .any, .any, .any, .any, .any, .any, .any, .any, .any, .any, .any, .any, .any, .any, .any, .any, .any, .any, .lst false 5 (mp Term.cells v2), .int .i64 v3, .int .i64 v4, .any, .any, .any, .any, .any, .any, .any, .any, .any, .any, .any, .any, .any, .any, .any, .any], [.cells [.map 2], .cells [.func (.func 116) [] [.ptr 0 0, .pp (tupEnc TermUse.cells 13 v5), .ptr 1 0]], .loop term_Consts_k0_1_0_1_1_1 [.any, .any, .any, .ptr 3 0, .ptr 4 0, .any, .any, .any, .any, .any, .any, .any, .any, .any, .any, .any, .any, .any, .any, .any, .any, .any, .any, .any, .any, .any, .any, .any, .any, .any, .any] (stJ term_Consts_k0_1_0_1_1_1 j2) j2, .cells [.map 5], .cells [.acc 6 c6], .map (mp mcB r5), .acc true 1 (mp scell r6)], 7⟩ = X0 v0 v1 v2 v3 v4 v5 j2 r5 r6) → ∀ (v0 : Int) (v1 : Int) (v2 : List Term) (v3 : Int) (v4 : Int) (v5 : Tup TermUse 13) (j2 : Int) (r5 : List (Str × Bool)) (r6 : List Str), run (term_nodes_1_1_m X n) [.at [0, 0, 1, 0, 1, 1, 1, 1], .lp m [0, 1, 0, 1, 1, 1, 1], .blk 0, .cut [1, 1, 1, 1, 1], .at [1, 1, 1, 1, 1]] ⟨[.any, .int .i64 v0, .any, .any, .ptr 1 0, .any, .any, .any, .int .i64 v1, .any, .any, .any, .any, .any, .any, .any, .any, .any, .any, .any, .any, .any, .any, .any, .any, .any, .any, .any, .any, .any, .any, .lst false 5 (mp Term.cells v2), .int .i64 v3, .int .i64 v4, .any, .any, .any, .any, .any, .any, .any, .any, .any, .any, .any, .any, .any, .any, .any, .any], [.cells [.map 2], .cells [.func (.func 116) [] [.ptr 0 0, .pp (tupEnc TermUse.cells 13 v5), .ptr 1 0]], .loop term_Consts_k0_1_0_1_1_1 [.any, .any, .any, .ptr 3 0, .ptr 4 0, .any, .any, .any, .any, .any, .any, .any, .any, .any, .any, .any, .any, .any, .any, .any, .any, .any, .any, .any, .any, .any, .any, .any, .any, .any, .any] (stJ term_Consts_k0_1_0_1_1_1 j2) j2, .cells [.map 5], .cells [.acc 6 r6.length], .map (mp mcB r5), .acc true 1 (mp scell r6)], 7⟩ = B X0 v0 v1 v2 v3 v4 v5 j2 r5 r6 } := by
  apply Subtype.mk
  intro m X0 ih v0 v1 v2 v3 v4 v5 j2 r5 r6
  simp (config := { maxSteps := 100000000 }) only [go_sem, Nat.reduceAdd, Nat.reduceSub, Nat.reduceLeDiff, Nat.reduceEqDiff, Nat.reduceBEq, Nat.reduceMul, Nat.reduceLT, Int.reduceLE, Int.reduceLT, Int.reduceToNat, Int.reduceBEq, Int.reduceEq, term_nodes_1_1_f, term_nodes_1_1_c, Try.f116, Option.getD_some, mixed, term_nodes_1_1_as, term_nodes_1_1_os, term_nodes_1_1_o1, term_Consts_k0_1_0_1_1_1_r_as, term_Consts_k0_1_0_1_1_1_r_os, term_Consts_k0_1_0_1_1_1_r_o1, term_Consts_k0_1_0_1_1_1_f, term_nodes_1_1_n1, ih]
  exact rfl
noncomputable def term_nodes_1_1_l1 (X : Term → Int → (Tup TermUse 13) → (Tup TermUse 13) → (List (Str × Bool)) → (List Str) → Option ((Unit × ((((Tup TermUse 13) × Unit) × Unit) × ((Unit × Int) × (Unit × (Unit × ((List (Str × Bool)) × ((List Str) × Unit))))))) × (Bool × Unit))) (n : Nat) : Nat → Int → Int → (List Term) → Int → Int → (Tup TermUse 13) → Int → (List (Str × Bool)) → (List Str) → Option ((Unit × ((((Tup TermUse 13) × Unit) × Unit) × ((Unit × Int) × (Unit × (Unit × ((List (Str × Bool)) × ((List Str) × Unit))))))) × (Bool × Unit))
  | 0, _, _, _, _, _, _, _, _, _ => none
  | m + 1, v0, v1, v2, v3, v4, v5, j2, r5, r6 => (term_nodes_1_1_b1 X n).1 (term_nodes_1_1_l1 X n m) v0 v1 v2 v3 v4 v5 j2 r5 r6
theorem term_nodes_1_1_l1_eq (X : Term → Int → (Tup TermUse 13) → (Tup TermUse 13) → (List (Str × Bool)) → (List Str) → Option ((Unit × ((((Tup TermUse 13) × Unit) × Unit) × ((Unit × Int) × (Unit × (Unit × ((List (Str × Bool)) × ((List Str) × Unit))))))) × (Bool × Unit))) (n : Nat) : ∀ (m : Nat), (∀ (v0 : Int) (v1 : Int) (v2 : List Term) (v3 : Int) (v4 : Int) (v5 : Tup TermUse 13) (j2 : Int) (r5 : List (Str × Bool)) (r6 : List Str) (c6 : Nat), c6 = r6.length → run (term_nodes_1_1_m X n) [.lq m [0, 1, 0, 1, 1, 1, 1], .blk 0, .cut [1, 1, 1, 1, 1], .at [1, 1, 1, 1, 1]] ⟨[.any, .int .i64 v0, .any, .any, .ptr 1 0, .any, .any, .any, .int .i64 v1, .any, .any, .any, .any, .any, .any, .any, .any, .any, .any, .any, .any, .any, .any, .any, .any, .any, .any, .any, .any, .any, .any, .lst false 5 (mp Term.cells v2), .int .i64 v3, .int .i64 v4, .any, .any, .any, .any, .any, .any, .any, .any, .any, .any, .any, .any, .any, .any, .any, .any], [.cells [.map 2], .cells [.func (.func 116) [] [.ptr 0 0, .pp (tupEnc TermUse.cells 13 v5), .ptr 1 0]], .loop term_Consts_k0_1_0_1_1_1 [.any, .any, .any, .ptr 3 0, .ptr 4 0, .any, .any, .any, .any, .any, .any, .any, .any, .any, .any, .any, .any, .any, .any, .any, .any, .any, .any, .any, .any, .any, .any, .any, .any, .any, .any] (stJ term_Consts_k0_1_0_1_1_1 j2) j2, .cells [.map 5], .cells [.acc 6 c6], .map (mp mcB r5), .acc true 1 (mp scell r6)], 7⟩ = term_nodes_1_1_l1 X n m v0 v1 v2 v3 v4 v5 j2 r5 r6)
  | 0 => by intros; exact run_lq_zero
  | m + 1 => by
    have ih := term_nodes_1_1_l1_eq X n m
    intro v0 v1 v2 v3 v4 v5 j2 r5 r6 c6 ec6
    subst ec6
    rw [run_lq_succ]
    exact (term_nodes_1_1_b1 X n).2  m _  ih v0 v1 v2 v3 v4 v5 j2 r5 r6
noncomputable def term_nodes_1_1_e (X : Term → Int → (Tup TermUse 13) → (Tup TermUse 13) → (List (Str × Bool)) → (List Str) → Option ((Unit × ((((Tup TermUse 13) × Unit) × Unit) × ((Unit × Int) × (Unit × (Unit × ((List (Str × Bool)) × ((List Str) × Unit))))))) × (Bool × Unit))) (n : Nat) : { B : Term → Int → (Tup TermUse 13) → (Tup TermUse 13) → (List (Str × Bool)) → (List Str) → Option ((Unit × ((((Tup TermUse 13) × Unit) × Unit) × ((Unit × Int) × (Unit × (Unit × ((List (Str × Bool)) × ((List Str) × Unit))))))) × (Bool × Unit)) // ∀ (a0 : Term) (a1 : Int) (a2 : (Tup TermUse 13)) (o0 : (Tup TermUse 13)) (o1 : (List (Str × Bool))) (o2 : (List Str)), run (term_nodes_1_1_m X n) [.at []] { slots := (term_nodes_1_1_as.enc (term_nodes_1_1_os.lens ((), ((o0, ()), ()), (), (), (), o1, o2, ())) (a0, a1, a2, ())) ++ List.replicate (50 - (term_nodes_1_1_as.enc (term_nodes_1_1_os.lens ((), ((o0, ()), ()), (), (), (), o1, o2, ())) (a0, a1, a2, ())).length) .any, heap := (term_nodes_1_1_os.enc (term_nodes_1_1_os.lens ((), ((o0, ()), ()), (), (), (), o1, o2, ())) ((), ((o0, ()), ()), (), (), (), o1, o2, ())), low := (term_nodes_1_1_os.enc (term_nodes_1_1_os.lens ((), ((o0, ()), ()), (), (), (), o1, o2, ())) ((), ((o0, ()), ()), (), (), (), o1, o2, ())).length } = B a0 a1 a2 o0 o1 o2 } := by
  apply Subtype.mk
  intro a0 a1 a2 o0 o1 o2
  simp (config := { maxSteps := 100000000 }) only [go_sem, Nat.reduceAdd, Nat.reduceSub, Nat.reduceLeDiff, Nat.reduceEqDiff, Nat.reduceBEq, Nat.reduceMul, Nat.reduceLT, Int.reduceLE, Int.reduceLT, Int.reduceToNat, Int.reduceBEq, Int.reduceEq, term_nodes_1_1_f, term_nodes_1_1_c, Try.f116, Option.getD_some, mixed, term_nodes_1_1_as, term_nodes_1_1_os, term_nodes_1_1_o1, term_Consts_k0_1_0_1_1_1_r_as, term_Consts_k0_1_0_1_1_1_r_os, term_Consts_k0_1_0_1_1_1_r_o1, term_Consts_k0_1_0_1_1_1_f, term_nodes_1_1_n1, term_nodes_1_1_l1_eq X n]
  exact rfl
noncomputable def term_nodes_1_1 : Nat → Term → Int → (Tup TermUse 13) → (Tup TermUse 13) → (List (Str × Bool)) → (List Str) → Option ((Unit × ((((Tup TermUse 13) × Unit) × Unit) × ((Unit × Int) × (Unit × (Unit × ((List (Str × Bool)) × ((List Str) × Unit))))))) × (Bool × Unit))
  | 0, _, _, _, _, _, _ => none
  | n + 1, a0, a1, a2, o0, o1, o2 => (term_nodes_1_1_e (term_nodes_1_1 n) n).1 a0 a1 a2 o0 o1 o2
theorem term_nodes_1_1_ok : ∀ (n : Nat) (a0 : Term) (a1 : Int) (a2 : (Tup TermUse 13)) (o0 : (Tup TermUse 13)) (o1 : (List (Str × Bool))) (o2 : (List Str)) (r : ((Unit × ((((Tup TermUse 13) × Unit) × Unit) × ((Unit × Int) × (Unit × (Unit × ((List (Str × Bool)) × ((List Str) × Unit))))))) × (Bool × Unit))), term_nodes_1_1 n a0 a1 a2 o0 o1 o2 = some r → FnG Try.prog 116 (term_nodes_1_1_as.enc (term_nodes_1_1_os.lens ((), ((o0, ()), ()), (), (), (), o1, o2, ())) (a0, a1, a2, ())) (term_nodes_1_1_os.enc (term_nodes_1_1_os.lens ((), ((o0, ()), ()), (), (), (), o1, o2, ())) ((), ((o0, ()), ()), (), (), (), o1, o2, ())) (fun o H' => o = .ret (tupOf ((alT tyB alN).enc (term_nodes_1_1_o1.lens r.1) r.2)) ∧ H' = term_nodes_1_1_o1.enc (term_nodes_1_1_o1.lens r.1) r.1)
  | 0, _, _, _, _, _, _, _, h => by cases h
  | n + 1, a0, a1, a2, o0, o1, o2, r, h => by
    have ih_term_nodes_1_1 := term_nodes_1_1_ok n
    exact fnG_run (M := term_nodes_1_1_m (term_nodes_1_1 n) n) ⟨(tabA_cons_ok (entX_ok (fun b a r h => (ih_term_nodes_1_1) a.1 a.2.1 a.2.2.1 b.2.1.1.1 b.2.2.2.2.2.1 b.2.2.2.2.2.2.1 r h)) tabA_nil_ok), tabD_nil_ok, tabN_ok _, tabF_ok _, (tabY_cons_ok (fun _ _ _ _ _ h => entY_ok (fun b a r h => (term_Consts_k0_1_0_1_1_1_r_ok n) a.1 a.2.1 b.2.2.2.1 b.2.2.2.2.1 r h) h) tabY_nil_ok), noE_ok⟩ Try.func116 rfl rfl (nbL_le (Nat.le_trans (of_decide_eq_true (by kernel_rfl)) (Nat.le_of_eq (term_nodes_1_1_os.sz _ _).symm)) _ (term_nodes_1_1_as.nb _ _)) (fun x hx => objNb_le' (Nat.le_trans (of_decide_eq_true (by kernel_rfl)) (Nat.le_of_eq (term_nodes_1_1_os.sz _ _).symm)) _ (term_nodes_1_1_os.nb _ _ x hx)) Try.ntmps116 Try.results116 (fun σ hs => outS_ok (P := Try.prog) (rs := [.tmp 7]) (pos := []) (base := [0, 1, 2, 3, 4, 5, 6]) (low := 7) (os := term_nodes_1_1_o1) (s := (alT tyB alN)) (σ := σ) (r := r) (by rfl) hs) (((term_nodes_1_1_e (term_nodes_1_1 n) n).2 a0 a1 a2 o0 o1 o2).trans h)

noncomputable def ref01_SameLists_n1 : Nrm := ⟨[], [], [zT (tyL Level.row), zT (tyL Level.row), zA, zA, zA, zK, zA, zA, zA, zA, zA, zA, zA, zA, zA, zA, zA, zA, zA, zA, zA, zA, zA, zA, zA, zA, zA], [], none⟩
noncomputable def ref01_SameLists_m (n : Nat) : Mach Bool where
  body := (Try.f62.body).getD .skip
  P := Try.prog
  cl := tabA []
  cd := tabD [(101, entD (ent2 (tyC Level.cel) (tyC Level.cel) tyB (ref01_Same n)))]
  nrm := tabN [([0, 1, 0, 1, 1], ref01_SameLists_n1)]
  cut := tabF []
  n := n
  out := outR Try.prog [.tmp 4] tyB
  isE := tabI []
theorem ref01_SameLists_f (n : Nat) : (ref01_SameLists_m n).P = Try.prog ∧ (ref01_SameLists_m n).cl = tabA [] ∧ (ref01_SameLists_m n).cd = tabD [(101, entD (ent2 (tyC Level.cel) (tyC Level.cel) tyB (ref01_Same n)))] ∧ (ref01_SameLists_m n).nrm = tabN [([0, 1, 0, 1, 1], ref01_SameLists_n1)] ∧ (ref01_SameLists_m n).cut = tabF [] ∧ (ref01_SameLists_m n).n = n ∧ (ref01_SameLists_m n).out = outR Try.prog [.tmp 4] tyB ∧ (ref01_SameLists_m n).isE = tabI [] := ⟨rfl, rfl, rfl, rfl, rfl, rfl, rfl, rfl⟩
theorem ref01_SameLists_c (n : Nat) : (ref01_SameLists_m n).body = (Try.f62.body).getD .skip := rfl
theorem ref01_SameLists_d (n : Nat) : drawP (ref01_SameLists_m n) [0, 0, 0, 1, 0, 0, 1, 0, 1, 1] = true := by kernel_rfl
noncomputable def ref01_SameLists_b1 (n : Nat) : { B : ((List Level) → (List Level) → Int → Option Bool) → (List Level) → (List Level) → Int → Option Bool // ∀ m X0, (∀ (v0 : List Level) (v1 : List Level) (v2 : Int), run (ref01_SameLists_m n) [.lq m [0, 1, 0, 1, 1], .blk 0, .cut [1, 1, 1], .at [1, 1, 1]] ⟨[.lst false 2 (mp Level.cells v0), .lst false 2 (mp Level.cells v1), .any, .any, .any, .int .i64 v2, .any, .any, .any, .any, .any, .any, .any, .any, .any, .any, .any, .any, .any, .any, .any, .any, .any, .any, .any, .any, .any], [], 0⟩ = X0 v0 v1 v2) → ∀ (v0 : List Level) (v1 : List Level) (v2 : Int), run (ref01_SameLists_m n) [.at [0, 0, 1, 0, 1, 1], .lp m [0, 1, 0, 1, 1], .blk 0, .cut [1, 1, 1], .at [1, 1, 1]] ⟨[.lst false 2 (mp Level.cells v0), .lst false 2 (mp Level.cells v1), .any, .any, .any, .int .i64 v2, .any, .any, .any, .any, .any, .any, .any, .any, .any, .any, .any, .any, .any, .any, .any, .any, .any, .any, .any, .any, .any], [], 0⟩ = B X0 v0 v1 v2 } := by
  apply Subtype.mk
  intro m X0 ih v0 v1 v2
  simp (config := { maxSteps := 100000000 }) only [go_sem, Nat.reduceAdd, Nat.reduceSub, Nat.reduceLeDiff, Nat.reduceEqDiff, Nat.reduceBEq, Nat.reduceMul, Nat.reduceLT, Int.reduceLE, Int.reduceLT, Int.reduceToNat, Int.reduceBEq, Int.reduceEq, ref01_SameLists_f, ref01_SameLists_c, Try.f62, Option.getD_some, mixed, ref01_SameLists_d, ref01_SameLists_n1, ih]
  exact rfl
noncomputable def ref01_SameLists_l1 (n : Nat) : Nat → (List Level) → (List Level) → Int → Option Bool
  | 0, _, _, _ => none
  | m + 1, v0, v1, v2 => (ref01_SameLists_b1 n).1 (ref01_SameLists_l1 n m) v0 v1 v2
theorem ref01_SameLists_l1_eq (n : Nat) : ∀ (m : Nat), (∀ (v0 : List Level) (v1 : List Level) (v2 : Int), run (ref01_SameLists_m n) [.lq m [0, 1, 0, 1, 1], .blk 0, .cut [1, 1, 1], .at [1, 1, 1]] ⟨[.lst false 2 (mp Level.cells v0), .lst false 2 (mp Level.cells v1), .any, .any, .any, .int .i64 v2, .any, .any, .any, .any, .any, .any, .any, .any, .any, .any, .any, .any, .any, .any, .any, .any, .any, .any, .any, .any, .any], [], 0⟩ = ref01_SameLists_l1 n m v0 v1 v2)
  | 0 => by intros; exact run_lq_zero
  | m + 1 => by
    have ih := ref01_SameLists_l1_eq n m
    intro v0 v1 v2
    rw [run_lq_succ]
    exact (ref01_SameLists_b1 n).2  m _  ih v0 v1 v2
noncomputable def ref01_SameLists_e (n : Nat) : { B : (List Level) → (List Level) → Option Bool // ∀ (a0 : (List Level)) (a1 : (List Level)), run (ref01_SameLists_m n) [.at []] { slots := [(tyL Level.row).enc a0, (tyL Level.row).enc a1] ++ List.replicate (27 - [(tyL Level.row).enc a0, (tyL Level.row).enc a1].length) .any, heap := [] } = B a0 a1 } := by
  apply Subtype.mk
  intro a0 a1
  simp (config := { maxSteps := 100000000 }) only [go_sem, Nat.reduceAdd, Nat.reduceSub, Nat.reduceLeDiff, Nat.reduceEqDiff, Nat.reduceBEq, Nat.reduceMul, Nat.reduceLT, Int.reduceLE, Int.reduceLT, Int.reduceToNat, Int.reduceBEq, Int.reduceEq, ref01_SameLists_f, ref01_SameLists_c, Try.f62, Option.getD_some, mixed, ref01_SameLists_d, ref01_SameLists_n1, ref01_SameLists_l1_eq n]
  exact rfl
noncomputable def ref01_SameLists : Nat → (List Level) → (List Level) → Option Bool
  | 0, _, _ => none
  | n + 1, a0, a1 => (ref01_SameLists_e n).1 a0 a1
theorem ref01_SameLists_ok : ∀ (n : Nat) (a0 : (List Level)) (a1 : (List Level)) (r : Bool), ref01_SameLists n a0 a1 = some r → FnC Try.prog 62 [(tyL Level.row).enc a0, (tyL Level.row).enc a1] (fun v => v = tyB.enc r)
  | 0, _, _, _, h => by cases h
  | n + 1, a0, a1, r, h => by
    exact fnC_run (M := ref01_SameLists_m n) ⟨tabA_nil_ok, (tabD_cons_ok (ent2_okD (ref01_Same_ok n)) tabD_nil_ok), tabN_ok _, tabF_ok _, noY_ok, noE_ok⟩ Try.func62 rfl rfl ⟨(tyL Level.row).nb 0 _, (tyL Level.row).nb 0 _, trivial⟩ Try.ntmps62 Try.results62 (fun σ hs => outR_ok (P := Try.prog) (rs := [.tmp 4]) (t := tyB) (σ := σ) (r := r) hs) (((ref01_SameLists_e n).2 a0 a1).trans h)

noncomputable def ref05_Pis_m (n : Nat) : Mach Term where
  body := (Try.f22.body).getD .skip
  P := Try.prog
  cl := tabA [(61, ent3 (tyI .i64) (tyL Term.row) (tyC Term.cel) (tyC Term.cel) (ref05_bind n))]
  cd := tabD []
  nrm := tabN []
  cut := tabF []
  n := n
  out := outR Try.prog [.cell 4 25] (tyC Term.cel)
theorem ref05_Pis_f (n : Nat) : (ref05_Pis_m n).P = Try.prog ∧ (ref05_Pis_m n).cl = tabA [(61, ent3 (tyI .i64) (tyL Term.row) (tyC Term.cel) (tyC Term.cel) (ref05_bind n))] ∧ (ref05_Pis_m n).cd = tabD [] ∧ (ref05_Pis_m n).nrm = tabN [] ∧ (ref05_Pis_m n).cut = tabF [] ∧ (ref05_Pis_m n).n = n ∧ (ref05_Pis_m n).out = outR Try.prog [.cell 4 25] (tyC Term.cel) := ⟨rfl, rfl, rfl, rfl, rfl, rfl, rfl⟩
theorem ref05_Pis_c (n : Nat) : (ref05_Pis_m n).body = (Try.f22.body).getD .skip := rfl
noncomputable def ref05_Pis_e (n : Nat) : { B : (List Term) → Term → Option Term // ∀ (a0 : (List Term)) (a1 : Term), run (ref05_Pis_m n) [.at []] { slots := [(tyL Term.row).enc a0, (tyC Term.cel).enc a1] ++ List.replicate (8 - [(tyL Term.row).enc a0, (tyC Term.cel).enc a1].length) .any, heap := [] } = B a0 a1 } := by
  apply Subtype.mk
  intro a0 a1
  simp (config := { maxSteps := 100000000 }) only [go_sem, Nat.reduceAdd, Nat.reduceSub, Nat.reduceLeDiff, Nat.reduceEqDiff, Nat.reduceBEq, Nat.reduceMul, Nat.reduceLT, Int.reduceLE, Int.reduceLT, Int.reduceToNat, Int.reduceBEq, Int.reduceEq, ref05_Pis_f, ref05_Pis_c, Try.f22, Option.getD_some, mixed]
  exact rfl
noncomputable def ref05_Pis : Nat → (List Term) → Term → Option Term
  | 0, _, _ => none
  | n + 1, a0, a1 => (ref05_Pis_e n).1 a0 a1
theorem ref05_Pis_ok : ∀ (n : Nat) (a0 : (List Term)) (a1 : Term) (r : Term), ref05_Pis n a0 a1 = some r → FnC Try.prog 22 [(tyL Term.row).enc a0, (tyC Term.cel).enc a1] (fun v => v = (tyC Term.cel).enc r)
  | 0, _, _, _, h => by cases h
  | n + 1, a0, a1, r, h => by
    exact fnC_run (M := ref05_Pis_m n) ⟨(tabA_cons_ok (ent3_ok (ref05_bind_ok n)) tabA_nil_ok), tabD_nil_ok, tabN_ok _, tabF_ok _, noY_ok, noE_ok⟩ Try.func22 rfl rfl ⟨(tyL Term.row).nb 0 _, (tyC Term.cel).nb 0 _, trivial⟩ Try.ntmps22 Try.results22 (fun σ hs => outR_ok (P := Try.prog) (rs := [.cell 4 25]) (t := (tyC Term.cel)) (σ := σ) (r := r) hs) (((ref05_Pis_e n).2 a0 a1).trans h)
end Go.Abs
