/- A part of the proof: what the functions compute. -/
import Derived.Test.YtgimdhmoloobkaaDataA
import Derived.Test.YtgimdhmoloobkaaWalkB
import Derived.Test.YtgimdhmoloobkaaWalkA
set_option linter.all false
open Nat renaming reduceAdd → q00, reduceSub → q01, reduceLeDiff → q02, reduceEqDiff → q03, reduceBEq → q04, reduceMul → q05, reduceLT → q06
open Int renaming reduceLE → q10, reduceLT → q11, reduceToNat → q12, reduceBEq → q13, reduceEq → q14
namespace Go.Abs
open Go.Proofs
set_option maxRecDepth 100000
set_option maxHeartbeats 4000000
set_option linter.unusedSimpArgs false
set_option linter.unusedVariables false
noncomputable def z0d_n1 : Nrm := ⟨[], [], [zT (tyL Decl.row), zK, zA, zA, zA, zK, zA, zA, zA, zA, zA, zA, zA, zA, zA, zA, zA, zA, zA, zA, zA, zA, zA, zA, zA, zA, zA, zA, zA, zA, zA, zA, zA, zA, zA, zA, zA, zA, zA, zA, zA, zA, zA, zA, zA, zA, zA, zA, zA, zA, zA, zA, zA, zA, zA, zA, zA, zA, zA, zA, zA, zA, zA, zA, zA, zA, zA, zA, zA, zA, zA, zA, zA, zA, zA, zA, zA, zA, zA, zA, zA, zA, zA, zA, zA, zA, zA, zA, zA, zA, zA, zA, zA, zA, zA, zA, zA, zA, zA, zA, zA, zA, zA, zA, zA, zA, zA, zA, zA, zA, zA, zA, zA], [], none⟩
noncomputable def z0d_m (n : Nat) : Mach Bool where
  body := (Try.f14.body).getD .skip
  P := Try.prog
  cl := tabA [(17, ent0  tyB (z1a n)), (18, ent1 (tyC Decl.cel) (ty2 (tyC Family.cel) (tyI .i64)) (z0p n)), (24, ent2 (tyC Family.cel) (tyI .i64) (ty2 (tyC Term.cel) (tyI .i64)) (z0i n)), (28, ent1 (tyL Decl.row) tyB (z1q n)), (30, ent2 (tyL Decl.row) (tyC Term.cel) (ty5 (tyC Decl.cel) (tyL Level.row) (tyL Term.row) (tyL Term.row) tyB) (z0q n)), (49, ent1 (tyC Term.cel) (ty2 (tyL Term.row) (tyC Term.cel)) (z10 n))]
  cd := tabD [(33, entD (ent2 (tyL Level.row) (tyL Level.row) tyB (z0f n))), (34, entD (ent2 (tyL Term.row) (tyL Term.row) tyB (z0r n))), (45, entD (ent1 (tyI .i64) (tyL Level.row) (z14 n)))]
  nrm := tabN [([0, 1, 0, 1, 1], z0d_n1)]
  cut := tabF []
  n := n
  out := outR Try.prog [.tmp 4] tyB
  isE := tabI []
theorem z0d_f (n : Nat) : (z0d_m n).P = Try.prog ∧ (z0d_m n).cl = tabA [(17, ent0  tyB (z1a n)), (18, ent1 (tyC Decl.cel) (ty2 (tyC Family.cel) (tyI .i64)) (z0p n)), (24, ent2 (tyC Family.cel) (tyI .i64) (ty2 (tyC Term.cel) (tyI .i64)) (z0i n)), (28, ent1 (tyL Decl.row) tyB (z1q n)), (30, ent2 (tyL Decl.row) (tyC Term.cel) (ty5 (tyC Decl.cel) (tyL Level.row) (tyL Term.row) (tyL Term.row) tyB) (z0q n)), (49, ent1 (tyC Term.cel) (ty2 (tyL Term.row) (tyC Term.cel)) (z10 n))] ∧ (z0d_m n).cd = tabD [(33, entD (ent2 (tyL Level.row) (tyL Level.row) tyB (z0f n))), (34, entD (ent2 (tyL Term.row) (tyL Term.row) tyB (z0r n))), (45, entD (ent1 (tyI .i64) (tyL Level.row) (z14 n)))] ∧ (z0d_m n).nrm = tabN [([0, 1, 0, 1, 1], z0d_n1)] ∧ (z0d_m n).cut = tabF [] ∧ (z0d_m n).n = n ∧ (z0d_m n).out = outR Try.prog [.tmp 4] tyB ∧ (z0d_m n).isE = tabI [] := ⟨rfl, rfl, rfl, rfl, rfl, rfl, rfl, rfl⟩
theorem z0d_c (n : Nat) : (z0d_m n).body = (Try.f14.body).getD .skip := rfl
theorem z0d_d (n : Nat) : drawP (z0d_m n) [0, 1, 1, 1, 1, 1, 1, 0, 0, 1, 0, 0, 1, 0, 1, 1] = true := by kernel_rfl
noncomputable def z0d_b1 (n : Nat) : { B : ((List Decl) → Int → Int → Option Bool) → (List Decl) → Int → Int → Option Bool // ∀ m X0, (∀ (v0 : List Decl) (v1 : Int) (v2 : Int), run (z0d_m n) [.lq m [0, 1, 0, 1, 1], .blk 0, .cut [1, 1, 1], .at [1, 1, 1]] ⟨[.lst false 23 (mp Decl.cells v0), .int .u8 v1, .any, .any, .any, .int .i64 v2, .any, .any, .any, .any, .any, .any, .any, .any, .any, .any, .any, .any, .any, .any, .any, .any, .any, .any, .any, .any, .any, .any, .any, .any, .any, .any, .any, .any, .any, .any, .any, .any, .any, .any, .any, .any, .any, .any, .any, .any, .any, .any, .any, .any, .any, .any, .any, .any, .any, .any, .any, .any, .any, .any, .any, .any, .any, .any, .any, .any, .any, .any, .any, .any, .any, .any, .any, .any, .any, .any, .any, .any, .any, .any, .any, .any, .any, .any, .any, .any, .any, .any, .any, .any, .any, .any, .any, .any, .any, .any, .any, .any, .any, .any, .any, .any, .any, .any, .any, .any, .any, .any, .any, .any, .any, .any, .any], [], 0⟩ = X0 v0 v1 v2) → ∀ (v0 : List Decl) (v1 : Int) (v2 : Int), run (z0d_m n) [.at [0, 0, 1, 0, 1, 1], .lp m [0, 1, 0, 1, 1], .blk 0, .cut [1, 1, 1], .at [1, 1, 1]] ⟨[.lst false 23 (mp Decl.cells v0), .int .u8 v1, .any, .any, .any, .int .i64 v2, .any, .any, .any, .any, .any, .any, .any, .any, .any, .any, .any, .any, .any, .any, .any, .any, .any, .any, .any, .any, .any, .any, .any, .any, .any, .any, .any, .any, .any, .any, .any, .any, .any, .any, .any, .any, .any, .any, .any, .any, .any, .any, .any, .any, .any, .any, .any, .any, .any, .any, .any, .any, .any, .any, .any, .any, .any, .any, .any, .any, .any, .any, .any, .any, .any, .any, .any, .any, .any, .any, .any, .any, .any, .any, .any, .any, .any, .any, .any, .any, .any, .any, .any, .any, .any, .any, .any, .any, .any, .any, .any, .any, .any, .any, .any, .any, .any, .any, .any, .any, .any, .any, .any, .any, .any, .any, .any], [], 0⟩ = B X0 v0 v1 v2 } := by
  apply Subtype.mk
  intro m X0 ih v0 v1 v2
  simp (maxSteps := 100000000) only [go_sem, q00, q01, q02, q03, q04, q05, q06, q10, q11, q12, q13, q14, z0d_f, z0d_c, Try.f14, Option.getD_some, mixed, z0d_d, z0d_n1, ih]
  exact rfl
noncomputable def z0d_l1 (n : Nat) : Nat → (List Decl) → Int → Int → Option Bool
  | 0, _, _, _ => none
  | m + 1, v0, v1, v2 => (z0d_b1 n).1 (z0d_l1 n m) v0 v1 v2
theorem z0d_l1_eq (n : Nat) : ∀ (m : Nat), (∀ (v0 : List Decl) (v1 : Int) (v2 : Int), run (z0d_m n) [.lq m [0, 1, 0, 1, 1], .blk 0, .cut [1, 1, 1], .at [1, 1, 1]] ⟨[.lst false 23 (mp Decl.cells v0), .int .u8 v1, .any, .any, .any, .int .i64 v2, .any, .any, .any, .any, .any, .any, .any, .any, .any, .any, .any, .any, .any, .any, .any, .any, .any, .any, .any, .any, .any, .any, .any, .any, .any, .any, .any, .any, .any, .any, .any, .any, .any, .any, .any, .any, .any, .any, .any, .any, .any, .any, .any, .any, .any, .any, .any, .any, .any, .any, .any, .any, .any, .any, .any, .any, .any, .any, .any, .any, .any, .any, .any, .any, .any, .any, .any, .any, .any, .any, .any, .any, .any, .any, .any, .any, .any, .any, .any, .any, .any, .any, .any, .any, .any, .any, .any, .any, .any, .any, .any, .any, .any, .any, .any, .any, .any, .any, .any, .any, .any, .any, .any, .any, .any, .any, .any], [], 0⟩ = z0d_l1 n m v0 v1 v2)
  | 0 => by intros; exact run_lq_zero
  | m + 1 => by
    have ih := z0d_l1_eq n m
    intro v0 v1 v2
    rw [run_lq_succ]
    exact (z0d_b1 n).2  m _  ih v0 v1 v2
noncomputable def z0d_e (n : Nat) : { B : (List Decl) → Int → Option Bool // ∀ (a0 : (List Decl)) (a1 : Int), run (z0d_m n) [.at []] { slots := [(tyL Decl.row).enc a0, (tyI .u8).enc a1] ++ List.replicate (113 - [(tyL Decl.row).enc a0, (tyI .u8).enc a1].length) .any, heap := [] } = B a0 a1 } := by
  apply Subtype.mk
  intro a0 a1
  simp (maxSteps := 100000000) only [go_sem, q00, q01, q02, q03, q04, q05, q06, q10, q11, q12, q13, q14, z0d_f, z0d_c, Try.f14, Option.getD_some, mixed, z0d_d, z0d_n1, z0d_l1_eq n]
  exact rfl
noncomputable def z0d : Nat → (List Decl) → Int → Option Bool
  | 0, _, _ => none
  | n + 1, a0, a1 => (z0d_e n).1 a0 a1
theorem z0d_ok : ∀ (n : Nat) (a0 : (List Decl)) (a1 : Int) (r : Bool), z0d n a0 a1 = some r → FnC Try.prog 14 [(tyL Decl.row).enc a0, (tyI .u8).enc a1] (fun v => v = tyB.enc r)
  | 0, _, _, _, h => by cases h
  | n + 1, a0, a1, r, h => by
    exact fnC_run (M := z0d_m n) ⟨(tabA_cons_ok (ent0_ok (z1a_ok n)) (tabA_cons_ok (ent1_ok (z0p_ok n)) (tabA_cons_ok (ent2_ok (z0i_ok n)) (tabA_cons_ok (ent1_ok (z1q_ok n)) (tabA_cons_ok (ent2_ok (z0q_ok n)) (tabA_cons_ok (ent1_ok (z10_ok n)) tabA_nil_ok)))))), (tabD_cons_ok (ent2_okD (z0f_ok n)) (tabD_cons_ok (ent2_okD (z0r_ok n)) (tabD_cons_ok (ent1_okD (z14_ok n)) tabD_nil_ok))), tabN_ok _, tabF_ok _, noY_ok, noE_ok⟩ Try.func14 rfl rfl ⟨(tyL Decl.row).nb 0 _, (tyI .u8).nb 0 _, trivial⟩ Try.ntmps14 Try.results14 (fun σ hs => outR_ok (P := Try.prog) (rs := [.tmp 4]) (t := tyB) (σ := σ) (r := r) hs) (((z0d_e n).2 a0 a1).trans h)
end Go.Abs
