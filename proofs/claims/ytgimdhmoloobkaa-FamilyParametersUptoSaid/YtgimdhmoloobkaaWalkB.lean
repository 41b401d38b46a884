/- A part of the proof: what the functions compute. -/
import Derived.Test.YtgimdhmoloobkaaDataA
import Derived.Test.YtgimdhmoloobkaaWalkA
set_option linter.all false
open Nat renaming reduceAdd → q00, reduceSub → q01, reduceLeDiff → q02, reduceEqDiff → q03, reduceBEq → q04, reduceMul → q05, reduceLT → q06
open Int renaming reduceLE → q10, reduceLT → q11, reduceToNat → q12, reduceBEq → q13, reduceEq → q14
namespace Go.Abs
open Go.Proofs
set_option maxRecDepth 100000
set_option maxHeartbeats 4000000
set_option linter.unusedSimpArgs false
set_option linter.unusedVariables false
noncomputable def z1b_m (n : Nat) : Mach Bool where
  body := (Try.f16.body).getD .skip
  P := Try.prog
  cl := tabA [(52, ent1 (tyC Decl.cel) tyB (z0h n)), (53, ent1 (tyC Decl.cel) tyB (z0n n)), (54, ent1 tyS tyB (z13 n))]
  cd := tabD []
  nrm := tabN []
  cut := tabF []
  n := n
  out := outR Try.prog [.tmp 2] tyB
theorem z1b_f (n : Nat) : (z1b_m n).P = Try.prog ∧ (z1b_m n).cl = tabA [(52, ent1 (tyC Decl.cel) tyB (z0h n)), (53, ent1 (tyC Decl.cel) tyB (z0n n)), (54, ent1 tyS tyB (z13 n))] ∧ (z1b_m n).cd = tabD [] ∧ (z1b_m n).nrm = tabN [] ∧ (z1b_m n).cut = tabF [] ∧ (z1b_m n).n = n ∧ (z1b_m n).out = outR Try.prog [.tmp 2] tyB := ⟨rfl, rfl, rfl, rfl, rfl, rfl, rfl⟩
theorem z1b_c (n : Nat) : (z1b_m n).body = (Try.f16.body).getD .skip := rfl
noncomputable def z1b_e (n : Nat) : { B : Decl → Option Bool // ∀ (a0 : Decl), run (z1b_m n) [.at []] { slots := [(tyC Decl.cel).enc a0] ++ List.replicate (14 - [(tyC Decl.cel).enc a0].length) .any, heap := [] } = B a0 } := by
  apply Subtype.mk
  intro a0
  simp (maxSteps := 100000000) only [go_sem, q00, q01, q02, q03, q04, q05, q06, q10, q11, q12, q13, q14, z1b_f, z1b_c, Try.f16, Option.getD_some, mixed]
  exact rfl
noncomputable def z1b : Nat → Decl → Option Bool
  | 0, _ => none
  | n + 1, a0 => (z1b_e n).1 a0
theorem z1b_ok : ∀ (n : Nat) (a0 : Decl) (r : Bool), z1b n a0 = some r → FnC Try.prog 16 [(tyC Decl.cel).enc a0] (fun v => v = tyB.enc r)
  | 0, _, _, h => by cases h
  | n + 1, a0, r, h => by
    exact fnC_run (M := z1b_m n) ⟨(tabA_cons_ok (ent1_ok (z0h_ok n)) (tabA_cons_ok (ent1_ok (z0n_ok n)) (tabA_cons_ok (ent1_ok (z13_ok n)) tabA_nil_ok))), tabD_nil_ok, tabN_ok _, tabF_ok _, noY_ok, noE_ok⟩ Try.func16 rfl rfl ⟨(tyC Decl.cel).nb 0 _, trivial⟩ Try.ntmps16 Try.results16 (fun σ hs => outR_ok (P := Try.prog) (rs := [.tmp 2]) (t := tyB) (σ := σ) (r := r) hs) (((z1b_e n).2 a0).trans h)

noncomputable def z06_m (n : Nat) : Mach ((List Term) × Bool) where
  body := (Try.f98.body).getD .skip
  P := Try.prog
  cl := tabA [(72, ent1 (tyC Term.cel) (ty2 (tyC Term.cel) (tyL Term.row)) (z0b n))]
  cd := tabD [(26, entD (ent2 (tyC Term.cel) (tyC Term.cel) tyB (z1h n))), (47, entD (ent2 (tyI .i64) (tyI .i64) (tyL Term.row) (z0e n))), (97, entD (ent3 (tyL Term.row) (tyL Term.row) (tyF 26) tyB (z02 n)))]
  nrm := tabN []
  cut := tabF []
  n := n
  out := outR Try.prog [.tmp 6, .tmp 7] (ty2 (tyL Term.row) tyB)
  isE := tabI []
theorem z06_f (n : Nat) : (z06_m n).P = Try.prog ∧ (z06_m n).cl = tabA [(72, ent1 (tyC Term.cel) (ty2 (tyC Term.cel) (tyL Term.row)) (z0b n))] ∧ (z06_m n).cd = tabD [(26, entD (ent2 (tyC Term.cel) (tyC Term.cel) tyB (z1h n))), (47, entD (ent2 (tyI .i64) (tyI .i64) (tyL Term.row) (z0e n))), (97, entD (ent3 (tyL Term.row) (tyL Term.row) (tyF 26) tyB (z02 n)))] ∧ (z06_m n).nrm = tabN [] ∧ (z06_m n).cut = tabF [] ∧ (z06_m n).n = n ∧ (z06_m n).out = outR Try.prog [.tmp 6, .tmp 7] (ty2 (tyL Term.row) tyB) ∧ (z06_m n).isE = tabI [] := ⟨rfl, rfl, rfl, rfl, rfl, rfl, rfl, rfl⟩
theorem z06_c (n : Nat) : (z06_m n).body = (Try.f98.body).getD .skip := rfl
theorem z06_d (n : Nat) : drawP (z06_m n) [0, 0, 1, 1, 1] = true := by kernel_rfl
noncomputable def z06_e (n : Nat) : { B : Zs1 → Term → Int → Option ((List Term) × Bool) // ∀ (a0 : Zs1) (a1 : Term) (a2 : Int), run (z06_m n) [.at []] { slots := [(tyC Zs1.cel).enc a0, (tyC Term.cel).enc a1, (tyI .i64).enc a2] ++ List.replicate (46 - [(tyC Zs1.cel).enc a0, (tyC Term.cel).enc a1, (tyI .i64).enc a2].length) .any, heap := [] } = B a0 a1 a2 } := by
  apply Subtype.mk
  intro a0 a1 a2
  simp (maxSteps := 100000000) only [go_sem, q00, q01, q02, q03, q04, q05, q06, q10, q11, q12, q13, q14, z06_f, z06_c, Try.f98, Option.getD_some, mixed, z06_d]
  exact rfl
noncomputable def z06 : Nat → Zs1 → Term → Int → Option ((List Term) × Bool)
  | 0, _, _, _ => none
  | n + 1, a0, a1, a2 => (z06_e n).1 a0 a1 a2
theorem z06_ok : ∀ (n : Nat) (a0 : Zs1) (a1 : Term) (a2 : Int) (r : ((List Term) × Bool)), z06 n a0 a1 a2 = some r → FnC Try.prog 98 [(tyC Zs1.cel).enc a0, (tyC Term.cel).enc a1, (tyI .i64).enc a2] (fun v => v = (ty2 (tyL Term.row) tyB).enc r)
  | 0, _, _, _, _, h => by cases h
  | n + 1, a0, a1, a2, r, h => by
    exact fnC_run (M := z06_m n) ⟨(tabA_cons_ok (ent1_ok (z0b_ok n)) tabA_nil_ok), (tabD_cons_ok (ent2_okD (z1h_ok n)) (tabD_cons_ok (ent2_okD (z0e_ok n)) (tabD_cons_ok (ent3_okD (z02_ok n)) tabD_nil_ok))), tabN_ok _, tabF_ok _, noY_ok, noE_ok⟩ Try.func98 rfl rfl ⟨(tyC Zs1.cel).nb 0 _, (tyC Term.cel).nb 0 _, (tyI .i64).nb 0 _, trivial⟩ Try.ntmps98 Try.results98 (fun σ hs => outR_ok (P := Try.prog) (rs := [.tmp 6, .tmp 7]) (t := (ty2 (tyL Term.row) tyB)) (σ := σ) (r := r) hs) (((z06_e n).2 a0 a1 a2).trans h)

noncomputable def z19_n1 : Nrm := ⟨[], [(5, 2, 3)], [zA, zA, zA, zA, zK, zA, zK, zA, zA, zK, zK, zK, zA, zA, zK, zA, zA, zA, zA, zA, zA, zA, zA, zA, zA, zA, zA, zA, zA, zA, zA, zA, zA, zA, zA, zA, zA, zA, zA, zA, zA, zA, zA, zA, zA, zA, zA, zA, zA, zA, zA, zA, zA, zA, zA, zA, zA, zA, zA, zA, zA, zA, zA, zA, zA, zA, zA, zA, zA, zA, zA, zA, zA, zA, zA, zA, zA, zA, zA, zA, zA, zA, zA, zA, zA, zA, zA, zA, zA, zA, zA, zA, zA, zA, zA, zA, zA, zA, zA, zA, zA, zA, zA, zA, zA, zA, zA, zA, zA, zA, zA], [oD, oD, oK, oT Term.cel, oD, oC [zK, zT (tyL Term.row), zK, zT (tyL Term.row)], oA Zs5.row], none⟩
noncomputable def z19_m (n : Nat) : Mach (Zs4 × Bool) where
  body := (Try.f59.body).getD .skip
  P := Try.prog
  cl := tabA [(21, ent1 (tyC Term.cel) (ty2 (tyL Term.row) (tyC Term.cel)) (z1e n)), (85, ent2 tyS (tyI .i64) (tyC Term.cel) (z1g n)), (100, ent5 (tyC Term.cel) (tyC Term.cel) (tyI .i64) (tyI .i64) (tyI .i64) (ty2 (tyL Term.row) tyB) (z0o n))]
  cd := tabD [(34, entD (ent2 (tyL Term.row) (tyL Term.row) tyB (z0d n)))]
  nrm := tabN [([0, 1, 0, 1, 1, 1, 1, 1, 1, 1, 1, 1], z19_n1)]
  cut := tabF []
  n := n
  out := outR Try.prog [.cell 4 60, .tmp 5] (ty2 (tyC Zs4.cel) tyB)
  isE := tabI []
theorem z19_f (n : Nat) : (z19_m n).P = Try.prog ∧ (z19_m n).cl = tabA [(21, ent1 (tyC Term.cel) (ty2 (tyL Term.row) (tyC Term.cel)) (z1e n)), (85, ent2 tyS (tyI .i64) (tyC Term.cel) (z1g n)), (100, ent5 (tyC Term.cel) (tyC Term.cel) (tyI .i64) (tyI .i64) (tyI .i64) (ty2 (tyL Term.row) tyB) (z0o n))] ∧ (z19_m n).cd = tabD [(34, entD (ent2 (tyL Term.row) (tyL Term.row) tyB (z0d n)))] ∧ (z19_m n).nrm = tabN [([0, 1, 0, 1, 1, 1, 1, 1, 1, 1, 1, 1], z19_n1)] ∧ (z19_m n).cut = tabF [] ∧ (z19_m n).n = n ∧ (z19_m n).out = outR Try.prog [.cell 4 60, .tmp 5] (ty2 (tyC Zs4.cel) tyB) ∧ (z19_m n).isE = tabI [] := ⟨rfl, rfl, rfl, rfl, rfl, rfl, rfl, rfl⟩
theorem z19_c (n : Nat) : (z19_m n).body = (Try.f59.body).getD .skip := rfl
theorem z19_d (n : Nat) : drawP (z19_m n) [0, 0, 1, 1, 1, 1] = true ∧ drawP (z19_m n) [0, 1, 1, 1] = true ∧ drawP (z19_m n) [0, 1, 1, 1, 1, 1] = true := ⟨by kernel_rfl, by kernel_rfl, by kernel_rfl⟩
theorem z19_o (n : Nat) : ordP (z19_m n) [0, 1, 1, 1, 1, 1] 1 7 = true ∧ ordP (z19_m n) [0, 1, 1, 1, 1, 1] 4 7 = true ∧ ordP (z19_m n) [0, 1, 1, 1, 1, 1] 6 7 = true := ⟨by kernel_rfl, by kernel_rfl, by kernel_rfl⟩
noncomputable def z19_b1 (n : Nat) : { B : (Int → Int → Int → Term → Str → (List Term) → (List Term) → (List Zs5) → Option (Zs4 × Bool)) → Int → Int → Int → Term → Str → (List Term) → (List Term) → (List Zs5) → Option (Zs4 × Bool) // ∀ m X0, (∀ (v0 : Int) (v1 : Int) (v2 : Int) (o3 : Term) (v4 : Str) (v5 : List Term) (v6 : List Term) (r6 : List Zs5) (c6 : Nat), c6 = r6.length → run (z19_m n) [.lq m [0, 1, 0, 1, 1, 1, 1, 1, 1, 1, 1, 1], .blk 0, .cut [1, 1, 1, 1, 1, 1, 1, 1, 1, 1], .at [1, 1, 1, 1, 1, 1, 1, 1, 1, 1]] ⟨[.any, .any, .any, .any, .ptr 2 0, .any, .ptr 3 0, .any, .any, .int .i64 v0, .int .i64 v1, .ptr 5 0, .any, .any, .int .i64 v2, .any, .any, .any, .any, .any, .any, .any, .any, .any, .any, .any, .any, .any, .any, .any, .any, .any, .any, .any, .any, .any, .any, .any, .any, .any, .any, .any, .any, .any, .any, .any, .any, .any, .any, .any, .any, .any, .any, .any, .any, .any, .any, .any, .any, .any, .any, .any, .any, .any, .any, .any, .any, .any, .any, .any, .any, .any, .any, .any, .any, .any, .any, .any, .any, .any, .any, .any, .any, .any, .any, .any, .any, .any, .any, .any, .any, .any, .any, .any, .any, .any, .any, .any, .any, .any, .any, .any, .any, .any, .any, .any, .any, .any, .any, .any, .any], [.dead, .dead, .cells [.str (sb []), .lst true 0 [], .lst true 0 [], .lst true 0 []], .cells (Term.cells o3), .dead, .cells [.str (sb v4), .lst false 5 (mp Term.cells v5), .acc 6 c6, .lst false 5 (mp Term.cells v6)], .acc true 3 (mp Zs5.cells r6)], 0⟩ = X0 v0 v1 v2 o3 v4 v5 v6 r6) → ∀ (v0 : Int) (v1 : Int) (v2 : Int) (o3 : Term) (v4 : Str) (v5 : List Term) (v6 : List Term) (r6 : List Zs5), run (z19_m n) [.at [0, 0, 1, 0, 1, 1, 1, 1, 1, 1, 1, 1, 1], .lp m [0, 1, 0, 1, 1, 1, 1, 1, 1, 1, 1, 1], .blk 0, .cut [1, 1, 1, 1, 1, 1, 1, 1, 1, 1], .at [1, 1, 1, 1, 1, 1, 1, 1, 1, 1]] ⟨[.any, .any, .any, .any, .ptr 2 0, .any, .ptr 3 0, .any, .any, .int .i64 v0, .int .i64 v1, .ptr 5 0, .any, .any, .int .i64 v2, .any, .any, .any, .any, .any, .any, .any, .any, .any, .any, .any, .any, .any, .any, .any, .any, .any, .any, .any, .any, .any, .any, .any, .any, .any, .any, .any, .any, .any, .any, .any, .any, .any, .any, .any, .any, .any, .any, .any, .any, .any, .any, .any, .any, .any, .any, .any, .any, .any, .any, .any, .any, .any, .any, .any, .any, .any, .any, .any, .any, .any, .any, .any, .any, .any, .any, .any, .any, .any, .any, .any, .any, .any, .any, .any, .any, .any, .any, .any, .any, .any, .any, .any, .any, .any, .any, .any, .any, .any, .any, .any, .any, .any, .any, .any, .any], [.dead, .dead, .cells [.str (sb []), .lst true 0 [], .lst true 0 [], .lst true 0 []], .cells (Term.cells o3), .dead, .cells [.str (sb v4), .lst false 5 (mp Term.cells v5), .acc 6 r6.length, .lst false 5 (mp Term.cells v6)], .acc true 3 (mp Zs5.cells r6)], 0⟩ = B X0 v0 v1 v2 o3 v4 v5 v6 r6 } := by
  apply Subtype.mk
  intro m X0 ih v0 v1 v2 o3 v4 v5 v6 r6
  simp (maxSteps := 100000000) only [go_sem, q00, q01, q02, q03, q04, q05, q06, q10, q11, q12, q13, q14, z19_f, z19_c, Try.f59, Option.getD_some, mixed, z19_d, z19_o, z19_n1, ih]
  exact rfl
noncomputable def z19_l1 (n : Nat) : Nat → Int → Int → Int → Term → Str → (List Term) → (List Term) → (List Zs5) → Option (Zs4 × Bool)
  | 0, _, _, _, _, _, _, _, _ => none
  | m + 1, v0, v1, v2, o3, v4, v5, v6, r6 => (z19_b1 n).1 (z19_l1 n m) v0 v1 v2 o3 v4 v5 v6 r6
theorem z19_l1_eq (n : Nat) : ∀ (m : Nat), (∀ (v0 : Int) (v1 : Int) (v2 : Int) (o3 : Term) (v4 : Str) (v5 : List Term) (v6 : List Term) (r6 : List Zs5) (c6 : Nat), c6 = r6.length → run (z19_m n) [.lq m [0, 1, 0, 1, 1, 1, 1, 1, 1, 1, 1, 1], .blk 0, .cut [1, 1, 1, 1, 1, 1, 1, 1, 1, 1], .at [1, 1, 1, 1, 1, 1, 1, 1, 1, 1]] ⟨[.any, .any, .any, .any, .ptr 2 0, .any, .ptr 3 0, .any, .any, .int .i64 v0, .int .i64 v1, .ptr 5 0, .any, .any, .int .i64 v2, .any, .any, .any, .any, .any, .any, .any, .any, .any, .any, .any, .any, .any, .any, .any, .any, .any, .any, .any, .any, .any, .any, .any, .any, .any, .any, .any, .any, .any, .any, .any, .any, .any, .any, .any, .any, .any, .any, .any, .any, .any, .any, .any, .any, .any, .any, .any, .any, .any, .any, .any, .any, .any, .any, .any, .any, .any, .any, .any, .any, .any, .any, .any, .any, .any, .any, .any, .any, .any, .any, .any, .any, .any, .any, .any, .any, .any, .any, .any, .any, .any, .any, .any, .any, .any, .any, .any, .any, .any, .any, .any, .any, .any, .any, .any, .any], [.dead, .dead, .cells [.str (sb []), .lst true 0 [], .lst true 0 [], .lst true 0 []], .cells (Term.cells o3), .dead, .cells [.str (sb v4), .lst false 5 (mp Term.cells v5), .acc 6 c6, .lst false 5 (mp Term.cells v6)], .acc true 3 (mp Zs5.cells r6)], 0⟩ = z19_l1 n m v0 v1 v2 o3 v4 v5 v6 r6)
  | 0 => by intros; exact run_lq_zero
  | m + 1 => by
    have ih := z19_l1_eq n m
    intro v0 v1 v2 o3 v4 v5 v6 r6 c6 ec6
    subst ec6
    rw [run_lq_succ]
    exact (z19_b1 n).2  m _  ih v0 v1 v2 o3 v4 v5 v6 r6
noncomputable def z19_e (n : Nat) : { B : Family → Ctor → Option (Zs4 × Bool) // ∀ (a0 : Family) (a1 : Ctor), run (z19_m n) [.at []] { slots := [(tyC Family.cel).enc a0, (tyC Ctor.cel).enc a1] ++ List.replicate (111 - [(tyC Family.cel).enc a0, (tyC Ctor.cel).enc a1].length) .any, heap := [] } = B a0 a1 } := by
  apply Subtype.mk
  intro a0 a1
  simp (maxSteps := 100000000) only [go_sem, q00, q01, q02, q03, q04, q05, q06, q10, q11, q12, q13, q14, z19_f, z19_c, Try.f59, Option.getD_some, mixed, z19_d, z19_o, z19_n1, z19_l1_eq n]
  exact rfl
noncomputable def z19 : Nat → Family → Ctor → Option (Zs4 × Bool)
  | 0, _, _ => none
  | n + 1, a0, a1 => (z19_e n).1 a0 a1
theorem z19_ok : ∀ (n : Nat) (a0 : Family) (a1 : Ctor) (r : (Zs4 × Bool)), z19 n a0 a1 = some r → FnC Try.prog 59 [(tyC Family.cel).enc a0, (tyC Ctor.cel).enc a1] (fun v => v = (ty2 (tyC Zs4.cel) tyB).enc r)
  | 0, _, _, _, h => by cases h
  | n + 1, a0, a1, r, h => by
    exact fnC_run (M := z19_m n) ⟨(tabA_cons_ok (ent1_ok (z1e_ok n)) (tabA_cons_ok (ent2_ok (z1g_ok n)) (tabA_cons_ok (ent5_ok (z0o_ok n)) tabA_nil_ok))), (tabD_cons_ok (ent2_okD (z0d_ok n)) tabD_nil_ok), tabN_ok _, tabF_ok _, noY_ok, noE_ok⟩ Try.func59 rfl rfl ⟨(tyC Family.cel).nb 0 _, (tyC Ctor.cel).nb 0 _, trivial⟩ Try.ntmps59 Try.results59 (fun σ hs => outR_ok (P := Try.prog) (rs := [.cell 4 60, .tmp 5]) (t := (ty2 (tyC Zs4.cel) tyB)) (σ := σ) (r := r) hs) (((z19_e n).2 a0 a1).trans h)
end Go.Abs
namespace Go.Abs
open Go.Proofs
set_option maxRecDepth 100000
set_option maxHeartbeats 4000000
set_option linter.unusedSimpArgs false
set_option linter.unusedVariables false
noncomputable def z03_n1 : Nrm := ⟨[(5, 3, true)], [], [zA, zA, zK, zA, zA, zK, zA, zA, zA, zA, zA, zA, zT (tyL Term.row), zK, zK, zA, zA, zA, zA, zA, zA, zA, zA, zA, zA, zA, zA, zA, zA, zA, zA, zA, zA, zA, zA, zA, zA, zA, zA, zA, zA, zA, zA, zA, zA], [oT Zs1.cel, oA Zs5.row], none⟩
noncomputable def z03_m (n : Nat) : Mach (List Zs5) where
  body := (Try.f99.body).getD .skip
  P := Try.prog
  cl := tabA [(49, ent1 (tyC Term.cel) (ty2 (tyL Term.row) (tyC Term.cel)) (z0k n)), (98, ent3 (tyC Zs1.cel) (tyC Term.cel) (tyI .i64) (ty2 (tyL Term.row) tyB) (z06 n))]
  cd := tabD []
  nrm := tabN [([0, 1, 0, 1, 1, 0, 1], z03_n1)]
  cut := tabF []
  n := n
  out := outR Try.prog [.tmp 4] (tyL Zs5.row)
theorem z03_f (n : Nat) : (z03_m n).P = Try.prog ∧ (z03_m n).cl = tabA [(49, ent1 (tyC Term.cel) (ty2 (tyL Term.row) (tyC Term.cel)) (z0k n)), (98, ent3 (tyC Zs1.cel) (tyC Term.cel) (tyI .i64) (ty2 (tyL Term.row) tyB) (z06 n))] ∧ (z03_m n).cd = tabD [] ∧ (z03_m n).nrm = tabN [([0, 1, 0, 1, 1, 0, 1], z03_n1)] ∧ (z03_m n).cut = tabF [] ∧ (z03_m n).n = n ∧ (z03_m n).out = outR Try.prog [.tmp 4] (tyL Zs5.row) := ⟨rfl, rfl, rfl, rfl, rfl, rfl, rfl⟩
theorem z03_c (n : Nat) : (z03_m n).body = (Try.f99.body).getD .skip := rfl
noncomputable def z03_b1 (n : Nat) : { B : ((List Term) → Int → Int → Zs1 → (List Zs5) → Option (List Zs5)) → (List Term) → Int → Int → Zs1 → (List Zs5) → Option (List Zs5) // ∀ m X0, (∀ (v0 : List Term) (v1 : Int) (v2 : Int) (o0 : Zs1) (r1 : List Zs5) (c1 : Nat), c1 = r1.length → run (z03_m n) [.lq m [0, 1, 0, 1, 1, 0, 1], .blk 0, .cut [1, 1, 1, 0, 1], .at [1, 1, 1, 0, 1]] ⟨[.any, .any, .ptr 0 0, .any, .any, .acc 1 c1, .any, .any, .any, .any, .any, .any, .lst false 5 (mp Term.cells v0), .int .i64 v1, .int .i64 v2, .any, .any, .any, .any, .any, .any, .any, .any, .any, .any, .any, .any, .any, .any, .any, .any, .any, .any, .any, .any, .any, .any, .any, .any, .any, .any, .any, .any, .any, .any], [.cells (Zs1.cells o0), .acc true 3 (mp Zs5.cells r1)], 0⟩ = X0 v0 v1 v2 o0 r1) → ∀ (v0 : List Term) (v1 : Int) (v2 : Int) (o0 : Zs1) (r1 : List Zs5), run (z03_m n) [.at [0, 0, 1, 0, 1, 1, 0, 1], .lp m [0, 1, 0, 1, 1, 0, 1], .blk 0, .cut [1, 1, 1, 0, 1], .at [1, 1, 1, 0, 1]] ⟨[.any, .any, .ptr 0 0, .any, .any, .acc 1 r1.length, .any, .any, .any, .any, .any, .any, .lst false 5 (mp Term.cells v0), .int .i64 v1, .int .i64 v2, .any, .any, .any, .any, .any, .any, .any, .any, .any, .any, .any, .any, .any, .any, .any, .any, .any, .any, .any, .any, .any, .any, .any, .any, .any, .any, .any, .any, .any, .any], [.cells (Zs1.cells o0), .acc true 3 (mp Zs5.cells r1)], 0⟩ = B X0 v0 v1 v2 o0 r1 } := by
  apply Subtype.mk
  intro m X0 ih v0 v1 v2 o0 r1
  simp (maxSteps := 100000000) only [go_sem, q00, q01, q02, q03, q04, q05, q06, q10, q11, q12, q13, q14, z03_f, z03_c, Try.f99, Option.getD_some, mixed, z03_n1, ih]
  exact rfl
noncomputable def z03_l1 (n : Nat) : Nat → (List Term) → Int → Int → Zs1 → (List Zs5) → Option (List Zs5)
  | 0, _, _, _, _, _ => none
  | m + 1, v0, v1, v2, o0, r1 => (z03_b1 n).1 (z03_l1 n m) v0 v1 v2 o0 r1
theorem z03_l1_eq (n : Nat) : ∀ (m : Nat), (∀ (v0 : List Term) (v1 : Int) (v2 : Int) (o0 : Zs1) (r1 : List Zs5) (c1 : Nat), c1 = r1.length → run (z03_m n) [.lq m [0, 1, 0, 1, 1, 0, 1], .blk 0, .cut [1, 1, 1, 0, 1], .at [1, 1, 1, 0, 1]] ⟨[.any, .any, .ptr 0 0, .any, .any, .acc 1 c1, .any, .any, .any, .any, .any, .any, .lst false 5 (mp Term.cells v0), .int .i64 v1, .int .i64 v2, .any, .any, .any, .any, .any, .any, .any, .any, .any, .any, .any, .any, .any, .any, .any, .any, .any, .any, .any, .any, .any, .any, .any, .any, .any, .any, .any, .any, .any, .any], [.cells (Zs1.cells o0), .acc true 3 (mp Zs5.cells r1)], 0⟩ = z03_l1 n m v0 v1 v2 o0 r1)
  | 0 => by intros; exact run_lq_zero
  | m + 1 => by
    have ih := z03_l1_eq n m
    intro v0 v1 v2 o0 r1 c1 ec1
    subst ec1
    rw [run_lq_succ]
    exact (z03_b1 n).2  m _  ih v0 v1 v2 o0 r1
noncomputable def z03_e (n : Nat) : { B : Zs1 → (List Term) → Option (List Zs5) // ∀ (a0 : Zs1) (a1 : (List Term)), run (z03_m n) [.at []] { slots := [(tyC Zs1.cel).enc a0, (tyL Term.row).enc a1] ++ List.replicate (45 - [(tyC Zs1.cel).enc a0, (tyL Term.row).enc a1].length) .any, heap := [] } = B a0 a1 } := by
  apply Subtype.mk
  intro a0 a1
  simp (maxSteps := 100000000) only [go_sem, q00, q01, q02, q03, q04, q05, q06, q10, q11, q12, q13, q14, z03_f, z03_c, Try.f99, Option.getD_some, mixed, z03_n1, z03_l1_eq n]
  exact rfl
noncomputable def z03 : Nat → Zs1 → (List Term) → Option (List Zs5)
  | 0, _, _ => none
  | n + 1, a0, a1 => (z03_e n).1 a0 a1
theorem z03_ok : ∀ (n : Nat) (a0 : Zs1) (a1 : (List Term)) (r : (List Zs5)), z03 n a0 a1 = some r → FnC Try.prog 99 [(tyC Zs1.cel).enc a0, (tyL Term.row).enc a1] (fun v => v = (tyL Zs5.row).enc r)
  | 0, _, _, _, h => by cases h
  | n + 1, a0, a1, r, h => by
    exact fnC_run (M := z03_m n) ⟨(tabA_cons_ok (ent1_ok (z0k_ok n)) (tabA_cons_ok (ent3_ok (z06_ok n)) tabA_nil_ok)), tabD_nil_ok, tabN_ok _, tabF_ok _, noY_ok, noE_ok⟩ Try.func99 rfl rfl ⟨(tyC Zs1.cel).nb 0 _, (tyL Term.row).nb 0 _, trivial⟩ Try.ntmps99 Try.results99 (fun σ hs => outR_ok (P := Try.prog) (rs := [.tmp 4]) (t := (tyL Zs5.row)) (σ := σ) (r := r) hs) (((z03_e n).2 a0 a1).trans h)

noncomputable def z0j_n1 : Nrm := ⟨[], [(3, 9, 4)], [zA, zK, zK, zA, zA, zA, zK, zK, zA, zA, zA, zA, zA, zA, zA, zA, zA, zA, zA, zA, zA, zA, zA, zA, zA, zA, zA, zA, zA, zA, zA, zA, zA, zA, zA, zA, zA, zA, zA, zA, zA, zA, zA, zA, zA, zA, zA, zA, zA, zA, zA, zA, zA, zA, zA, zA, zA, zA, zA, zA, zA, zA, zA, zA, zA, zA, zA, zA, zA, zA, zA, zA, zA, zA, zA, zA, zA], [oT Decl.cel, oK, oD, oC [zK, zK, zT (tyL Term.row), zT (tyL Term.row), zK, zK, zK, zT (tyL Level.row), zT (tyL Term.row), zK], oA Zs4.row], none⟩
noncomputable def z0j_m (n : Nat) : Mach (Family × Int) where
  body := (Try.f19.body).getD .skip
  P := Try.prog
  cl := tabA [(21, ent1 (tyC Term.cel) (ty2 (tyL Term.row) (tyC Term.cel)) (z1e n)), (58, ent1 (tyC Term.cel) tyB (z1a n))]
  cd := tabD [(59, entD (ent2 (tyC Family.cel) (tyC Ctor.cel) (ty2 (tyC Zs4.cel) tyB) (z19 n)))]
  nrm := tabN [([0, 1, 0, 1, 1, 1, 1, 1], z0j_n1)]
  cut := tabF []
  n := n
  out := outR Try.prog [.cell 2 36, .tmp 3] (ty2 (tyC Family.cel) (tyI .i64))
  isE := tabI []
theorem z0j_f (n : Nat) : (z0j_m n).P = Try.prog ∧ (z0j_m n).cl = tabA [(21, ent1 (tyC Term.cel) (ty2 (tyL Term.row) (tyC Term.cel)) (z1e n)), (58, ent1 (tyC Term.cel) tyB (z1a n))] ∧ (z0j_m n).cd = tabD [(59, entD (ent2 (tyC Family.cel) (tyC Ctor.cel) (ty2 (tyC Zs4.cel) tyB) (z19 n)))] ∧ (z0j_m n).nrm = tabN [([0, 1, 0, 1, 1, 1, 1, 1], z0j_n1)] ∧ (z0j_m n).cut = tabF [] ∧ (z0j_m n).n = n ∧ (z0j_m n).out = outR Try.prog [.cell 2 36, .tmp 3] (ty2 (tyC Family.cel) (tyI .i64)) ∧ (z0j_m n).isE = tabI [] := ⟨rfl, rfl, rfl, rfl, rfl, rfl, rfl, rfl⟩
theorem z0j_c (n : Nat) : (z0j_m n).body = (Try.f19.body).getD .skip := rfl
theorem z0j_d (n : Nat) : drawP (z0j_m n) [0, 0, 0, 1, 0, 0, 1, 0, 1, 1, 1, 1, 1] = true ∧ drawP (z0j_m n) [0, 1, 1, 1, 1] = true := ⟨by kernel_rfl, by kernel_rfl⟩
theorem z0j_o (n : Nat) : ordP (z0j_m n) [0, 0, 0, 1, 0, 0, 1, 0, 1, 1, 1, 1, 1] 0 11 = true ∧ ordP (z0j_m n) [0, 0, 0, 1, 0, 0, 1, 0, 1, 1, 1, 1, 1] 2 11 = true ∧ ordP (z0j_m n) [0, 0, 0, 1, 0, 0, 1, 0, 1, 1, 1, 1, 1] 4 11 = true ∧ ordP (z0j_m n) [0, 0, 0, 1, 0, 0, 1, 0, 1, 1, 1, 1, 1] 5 11 = true ∧ ordP (z0j_m n) [0, 0, 0, 1, 0, 0, 1, 0, 1, 1, 1, 1, 1] 10 11 = true ∧ ordP (z0j_m n) [0, 1, 1, 1, 1] 1 15 = true ∧ ordP (z0j_m n) [0, 1, 1, 1, 1] 3 15 = true ∧ ordP (z0j_m n) [0, 1, 1, 1, 1] 6 15 = true ∧ ordP (z0j_m n) [0, 1, 1, 1, 1] 7 15 = true ∧ ordP (z0j_m n) [0, 1, 1, 1, 1] 10 15 = true ∧ ordP (z0j_m n) [0, 1, 1, 1, 1] 11 15 = true ∧ ordP (z0j_m n) [0, 1, 1, 1, 1] 12 15 = true ∧ ordP (z0j_m n) [0, 1, 1, 1, 1] 14 15 = true := ⟨by kernel_rfl, by kernel_rfl, by kernel_rfl, by kernel_rfl, by kernel_rfl, by kernel_rfl, by kernel_rfl, by kernel_rfl, by kernel_rfl, by kernel_rfl, by kernel_rfl, by kernel_rfl, by kernel_rfl⟩
noncomputable def z0j_b1 (n : Nat) : { B : (Int → Decl → Str → Int → (List Term) → (List Term) → Int → Int → Str → (List Level) → (List Term) → (List Zs4) → Option (Family × Int)) → Int → Decl → Str → Int → (List Term) → (List Term) → Int → Int → Str → (List Level) → (List Term) → (List Zs4) → Option (Family × Int) // ∀ m X0, (∀ (v0 : Int) (o0 : Decl) (v2 : Str) (v3 : Int) (v4 : List Term) (v5 : List Term) (v6 : Int) (v7 : Int) (v8 : Str) (v9 : List Level) (v10 : List Term) (r4 : List Zs4) (c4 : Nat), c4 = r4.length → run (z0j_m n) [.lq m [0, 1, 0, 1, 1, 1, 1, 1], .blk 0, .cut [1, 1, 1, 1, 1, 1], .at [1, 1, 1, 1, 1, 1]] ⟨[.any, .ptr 0 0, .ptr 1 0, .any, .any, .any, .ptr 3 0, .int .i64 v0, .any, .any, .any, .any, .any, .any, .any, .any, .any, .any, .any, .any, .any, .any, .any, .any, .any, .any, .any, .any, .any, .any, .any, .any, .any, .any, .any, .any, .any, .any, .any, .any, .any, .any, .any, .any, .any, .any, .any, .any, .any, .any, .any, .any, .any, .any, .any, .any, .any, .any, .any, .any, .any, .any, .any, .any, .any, .any, .any, .any, .any, .any, .any, .any, .any, .any, .any, .any, .any], [.cells (Decl.cells o0), .cells [.str (sb []), .int .i64 0, .lst true 0 [], .lst true 0 [], .int .i64 0, .int .i64 0, .str (sb []), .lst true 0 [], .lst true 0 [], .lst true 0 []], .dead, .cells [.str (sb v2), .int .i64 v3, .lst false 5 (mp Term.cells v4), .lst false 5 (mp Term.cells v5), .int .i64 v6, .int .i64 v7, .str (sb v8), .lst false 2 (mp Level.cells v9), .lst false 5 (mp Term.cells v10), .acc 4 c4], .acc true 4 (mp Zs4.cells r4)], 0⟩ = X0 v0 o0 v2 v3 v4 v5 v6 v7 v8 v9 v10 r4) → ∀ (v0 : Int) (o0 : Decl) (v2 : Str) (v3 : Int) (v4 : List Term) (v5 : List Term) (v6 : Int) (v7 : Int) (v8 : Str) (v9 : List Level) (v10 : List Term) (r4 : List Zs4), run (z0j_m n) [.at [0, 0, 1, 0, 1, 1, 1, 1, 1], .lp m [0, 1, 0, 1, 1, 1, 1, 1], .blk 0, .cut [1, 1, 1, 1, 1, 1], .at [1, 1, 1, 1, 1, 1]] ⟨[.any, .ptr 0 0, .ptr 1 0, .any, .any, .any, .ptr 3 0, .int .i64 v0, .any, .any, .any, .any, .any, .any, .any, .any, .any, .any, .any, .any, .any, .any, .any, .any, .any, .any, .any, .any, .any, .any, .any, .any, .any, .any, .any, .any, .any, .any, .any, .any, .any, .any, .any, .any, .any, .any, .any, .any, .any, .any, .any, .any, .any, .any, .any, .any, .any, .any, .any, .any, .any, .any, .any, .any, .any, .any, .any, .any, .any, .any, .any, .any, .any, .any, .any, .any, .any], [.cells (Decl.cells o0), .cells [.str (sb []), .int .i64 0, .lst true 0 [], .lst true 0 [], .int .i64 0, .int .i64 0, .str (sb []), .lst true 0 [], .lst true 0 [], .lst true 0 []], .dead, .cells [.str (sb v2), .int .i64 v3, .lst false 5 (mp Term.cells v4), .lst false 5 (mp Term.cells v5), .int .i64 v6, .int .i64 v7, .str (sb v8), .lst false 2 (mp Level.cells v9), .lst false 5 (mp Term.cells v10), .acc 4 r4.length], .acc true 4 (mp Zs4.cells r4)], 0⟩ = B X0 v0 o0 v2 v3 v4 v5 v6 v7 v8 v9 v10 r4 } := by
  apply Subtype.mk
  intro m X0 ih v0 o0 v2 v3 v4 v5 v6 v7 v8 v9 v10 r4
  simp (maxSteps := 100000000) only [go_sem, q00, q01, q02, q03, q04, q05, q06, q10, q11, q12, q13, q14, z0j_f, z0j_c, Try.f19, Option.getD_some, mixed, z0j_d, z0j_o, z0j_n1, ih]
  exact rfl
noncomputable def z0j_l1 (n : Nat) : Nat → Int → Decl → Str → Int → (List Term) → (List Term) → Int → Int → Str → (List Level) → (List Term) → (List Zs4) → Option (Family × Int)
  | 0, _, _, _, _, _, _, _, _, _, _, _, _ => none
  | m + 1, v0, o0, v2, v3, v4, v5, v6, v7, v8, v9, v10, r4 => (z0j_b1 n).1 (z0j_l1 n m) v0 o0 v2 v3 v4 v5 v6 v7 v8 v9 v10 r4
theorem z0j_l1_eq (n : Nat) : ∀ (m : Nat), (∀ (v0 : Int) (o0 : Decl) (v2 : Str) (v3 : Int) (v4 : List Term) (v5 : List Term) (v6 : Int) (v7 : Int) (v8 : Str) (v9 : List Level) (v10 : List Term) (r4 : List Zs4) (c4 : Nat), c4 = r4.length → run (z0j_m n) [.lq m [0, 1, 0, 1, 1, 1, 1, 1], .blk 0, .cut [1, 1, 1, 1, 1, 1], .at [1, 1, 1, 1, 1, 1]] ⟨[.any, .ptr 0 0, .ptr 1 0, .any, .any, .any, .ptr 3 0, .int .i64 v0, .any, .any, .any, .any, .any, .any, .any, .any, .any, .any, .any, .any, .any, .any, .any, .any, .any, .any, .any, .any, .any, .any, .any, .any, .any, .any, .any, .any, .any, .any, .any, .any, .any, .any, .any, .any, .any, .any, .any, .any, .any, .any, .any, .any, .any, .any, .any, .any, .any, .any, .any, .any, .any, .any, .any, .any, .any, .any, .any, .any, .any, .any, .any, .any, .any, .any, .any, .any, .any], [.cells (Decl.cells o0), .cells [.str (sb []), .int .i64 0, .lst true 0 [], .lst true 0 [], .int .i64 0, .int .i64 0, .str (sb []), .lst true 0 [], .lst true 0 [], .lst true 0 []], .dead, .cells [.str (sb v2), .int .i64 v3, .lst false 5 (mp Term.cells v4), .lst false 5 (mp Term.cells v5), .int .i64 v6, .int .i64 v7, .str (sb v8), .lst false 2 (mp Level.cells v9), .lst false 5 (mp Term.cells v10), .acc 4 c4], .acc true 4 (mp Zs4.cells r4)], 0⟩ = z0j_l1 n m v0 o0 v2 v3 v4 v5 v6 v7 v8 v9 v10 r4)
  | 0 => by intros; exact run_lq_zero
  | m + 1 => by
    have ih := z0j_l1_eq n m
    intro v0 o0 v2 v3 v4 v5 v6 v7 v8 v9 v10 r4 c4 ec4
    subst ec4
    rw [run_lq_succ]
    exact (z0j_b1 n).2  m _  ih v0 o0 v2 v3 v4 v5 v6 v7 v8 v9 v10 r4
noncomputable def z0j_e (n : Nat) : { B : Decl → Option (Family × Int) // ∀ (a0 : Decl), run (z0j_m n) [.at []] { slots := [(tyC Decl.cel).enc a0] ++ List.replicate (77 - [(tyC Decl.cel).enc a0].length) .any, heap := [] } = B a0 } := by
  apply Subtype.mk
  intro a0
  simp (maxSteps := 100000000) only [go_sem, q00, q01, q02, q03, q04, q05, q06, q10, q11, q12, q13, q14, z0j_f, z0j_c, Try.f19, Option.getD_some, mixed, z0j_d, z0j_o, z0j_n1, z0j_l1_eq n]
  exact rfl
noncomputable def z0j : Nat → Decl → Option (Family × Int)
  | 0, _ => none
  | n + 1, a0 => (z0j_e n).1 a0
theorem z0j_ok : ∀ (n : Nat) (a0 : Decl) (r : (Family × Int)), z0j n a0 = some r → FnC Try.prog 19 [(tyC Decl.cel).enc a0] (fun v => v = (ty2 (tyC Family.cel) (tyI .i64)).enc r)
  | 0, _, _, h => by cases h
  | n + 1, a0, r, h => by
    exact fnC_run (M := z0j_m n) ⟨(tabA_cons_ok (ent1_ok (z1e_ok n)) (tabA_cons_ok (ent1_ok (z1a_ok n)) tabA_nil_ok)), (tabD_cons_ok (ent2_okD (z19_ok n)) tabD_nil_ok), tabN_ok _, tabF_ok _, noY_ok, noE_ok⟩ Try.func19 rfl rfl ⟨(tyC Decl.cel).nb 0 _, trivial⟩ Try.ntmps19 Try.results19 (fun σ hs => outR_ok (P := Try.prog) (rs := [.cell 2 36, .tmp 3]) (t := (ty2 (tyC Family.cel) (tyI .i64))) (σ := σ) (r := r) hs) (((z0j_e n).2 a0).trans h)
end Go.Abs
namespace Go.Abs
open Go.Proofs
set_option maxRecDepth 100000
set_option maxHeartbeats 4000000
set_option linter.unusedSimpArgs false
set_option linter.unusedVariables false
noncomputable def z08_m (n : Nat) : Mach (Zs4 × Bool) where
  body := (Try.f57.body).getD .skip
  P := Try.prog
  cl := tabA [(49, ent1 (tyC Term.cel) (ty2 (tyL Term.row) (tyC Term.cel)) (z0k n)), (98, ent3 (tyC Zs1.cel) (tyC Term.cel) (tyI .i64) (ty2 (tyL Term.row) tyB) (z06 n))]
  cd := tabD [(97, entD (ent3 (tyL Term.row) (tyL Term.row) (tyF 26) tyB (z02 n))), (99, entD (ent2 (tyC Zs1.cel) (tyL Term.row) (tyL Zs5.row) (z03 n)))]
  nrm := tabN []
  cut := tabF []
  n := n
  out := outR Try.prog [.cell 4 60, .tmp 5] (ty2 (tyC Zs4.cel) tyB)
  isE := tabI []
theorem z08_f (n : Nat) : (z08_m n).P = Try.prog ∧ (z08_m n).cl = tabA [(49, ent1 (tyC Term.cel) (ty2 (tyL Term.row) (tyC Term.cel)) (z0k n)), (98, ent3 (tyC Zs1.cel) (tyC Term.cel) (tyI .i64) (ty2 (tyL Term.row) tyB) (z06 n))] ∧ (z08_m n).cd = tabD [(97, entD (ent3 (tyL Term.row) (tyL Term.row) (tyF 26) tyB (z02 n))), (99, entD (ent2 (tyC Zs1.cel) (tyL Term.row) (tyL Zs5.row) (z03 n)))] ∧ (z08_m n).nrm = tabN [] ∧ (z08_m n).cut = tabF [] ∧ (z08_m n).n = n ∧ (z08_m n).out = outR Try.prog [.cell 4 60, .tmp 5] (ty2 (tyC Zs4.cel) tyB) ∧ (z08_m n).isE = tabI [] := ⟨rfl, rfl, rfl, rfl, rfl, rfl, rfl, rfl⟩
theorem z08_c (n : Nat) : (z08_m n).body = (Try.f57.body).getD .skip := rfl
theorem z08_d (n : Nat) : drawP (z08_m n) [0, 0, 1, 1, 1] = true ∧ drawP (z08_m n) [0, 1, 1, 1, 1, 1, 1, 1] = true := ⟨by kernel_rfl, by kernel_rfl⟩
theorem z08_o (n : Nat) : ordP (z08_m n) [0, 1, 1, 1, 1, 1, 1, 1] 1 8 = true ∧ ordP (z08_m n) [0, 1, 1, 1, 1, 1, 1, 1] 3 8 = true := ⟨by kernel_rfl, by kernel_rfl⟩
noncomputable def z08_e (n : Nat) : { B : Zs1 → Ctor → Option (Zs4 × Bool) // ∀ (a0 : Zs1) (a1 : Ctor), run (z08_m n) [.at []] { slots := [(tyC Zs1.cel).enc a0, (tyC Ctor.cel).enc a1] ++ List.replicate (57 - [(tyC Zs1.cel).enc a0, (tyC Ctor.cel).enc a1].length) .any, heap := [] } = B a0 a1 } := by
  apply Subtype.mk
  intro a0 a1
  simp (maxSteps := 100000000) only [go_sem, q00, q01, q02, q03, q04, q05, q06, q10, q11, q12, q13, q14, z08_f, z08_c, Try.f57, Option.getD_some, mixed, z08_d, z08_o]
  exact rfl
noncomputable def z08 : Nat → Zs1 → Ctor → Option (Zs4 × Bool)
  | 0, _, _ => none
  | n + 1, a0, a1 => (z08_e n).1 a0 a1
theorem z08_ok : ∀ (n : Nat) (a0 : Zs1) (a1 : Ctor) (r : (Zs4 × Bool)), z08 n a0 a1 = some r → FnC Try.prog 57 [(tyC Zs1.cel).enc a0, (tyC Ctor.cel).enc a1] (fun v => v = (ty2 (tyC Zs4.cel) tyB).enc r)
  | 0, _, _, _, h => by cases h
  | n + 1, a0, a1, r, h => by
    exact fnC_run (M := z08_m n) ⟨(tabA_cons_ok (ent1_ok (z0k_ok n)) (tabA_cons_ok (ent3_ok (z06_ok n)) tabA_nil_ok)), (tabD_cons_ok (ent3_okD (z02_ok n)) (tabD_cons_ok (ent2_okD (z03_ok n)) tabD_nil_ok)), tabN_ok _, tabF_ok _, noY_ok, noE_ok⟩ Try.func57 rfl rfl ⟨(tyC Zs1.cel).nb 0 _, (tyC Ctor.cel).nb 0 _, trivial⟩ Try.ntmps57 Try.results57 (fun σ hs => outR_ok (P := Try.prog) (rs := [.cell 4 60, .tmp 5]) (t := (ty2 (tyC Zs4.cel) tyB)) (σ := σ) (r := r) hs) (((z08_e n).2 a0 a1).trans h)
end Go.Abs
namespace Go.Abs
open Go.Proofs
set_option maxRecDepth 100000
set_option maxHeartbeats 4000000
set_option linter.unusedSimpArgs false
set_option linter.unusedVariables false
noncomputable def z0c_n1 : Nrm := ⟨[], [(3, 9, 4)], [zA, zA, zK, zA, zA, zA, zK, zK, zA, zA, zA, zA, zA, zA, zA, zA, zA, zA, zA, zA, zA, zA, zA, zA, zA, zA, zA, zA, zA, zA, zA, zA, zA, zA, zA, zA, zA, zA, zA, zA, zA, zA, zA, zA, zA, zA, zA, zA, zA, zA, zA, zA, zA, zA, zA, zA, zA, zA, zA, zA, zA, zA, zA, zA, zA, zA, zA, zA, zA, zT (tyL Ctor.row), zK, zK, zA, zA, zA, zA, zA, zA, zA, zA, zA, zA, zA, zA, zA, zA, zA, zA, zA, zA, zA, zA], [oD, oK, oD, oC [zK, zK, zT (tyL Term.row), zT (tyL Term.row), zK, zK, zK, zT (tyL Level.row), zT (tyL Term.row), zK], oT Zs1.cel, oA Zs4.row], none⟩
noncomputable def z0c_m (n : Nat) : Mach (Family × Int) where
  body := (Try.f18.body).getD .skip
  P := Try.prog
  cl := tabA [(49, ent1 (tyC Term.cel) (ty2 (tyL Term.row) (tyC Term.cel)) (z0k n)), (57, ent2 (tyC Zs1.cel) (tyC Ctor.cel) (ty2 (tyC Zs4.cel) tyB) (z08 n))]
  cd := tabD [(56, entD (ent2 tyS (tyI .i64) (tyC Term.cel) (z0g n)))]
  nrm := tabN [([0, 1, 0, 1, 1, 1, 1, 1, 1], z0c_n1)]
  cut := tabF []
  n := n
  out := outR Try.prog [.cell 2 36, .tmp 3] (ty2 (tyC Family.cel) (tyI .i64))
  isE := tabI []
theorem z0c_f (n : Nat) : (z0c_m n).P = Try.prog ∧ (z0c_m n).cl = tabA [(49, ent1 (tyC Term.cel) (ty2 (tyL Term.row) (tyC Term.cel)) (z0k n)), (57, ent2 (tyC Zs1.cel) (tyC Ctor.cel) (ty2 (tyC Zs4.cel) tyB) (z08 n))] ∧ (z0c_m n).cd = tabD [(56, entD (ent2 tyS (tyI .i64) (tyC Term.cel) (z0g n)))] ∧ (z0c_m n).nrm = tabN [([0, 1, 0, 1, 1, 1, 1, 1, 1], z0c_n1)] ∧ (z0c_m n).cut = tabF [] ∧ (z0c_m n).n = n ∧ (z0c_m n).out = outR Try.prog [.cell 2 36, .tmp 3] (ty2 (tyC Family.cel) (tyI .i64)) ∧ (z0c_m n).isE = tabI [] := ⟨rfl, rfl, rfl, rfl, rfl, rfl, rfl, rfl⟩
theorem z0c_c (n : Nat) : (z0c_m n).body = (Try.f18.body).getD .skip := rfl
theorem z0c_d (n : Nat) : drawP (z0c_m n) [0, 1, 1, 1, 1] = true ∧ drawP (z0c_m n) [0, 1, 1, 1, 1, 1] = true := ⟨by kernel_rfl, by kernel_rfl⟩
theorem z0c_o (n : Nat) : ordP (z0c_m n) [0, 1, 1, 1, 1] 1 15 = true ∧ ordP (z0c_m n) [0, 1, 1, 1, 1] 3 15 = true ∧ ordP (z0c_m n) [0, 1, 1, 1, 1] 6 15 = true ∧ ordP (z0c_m n) [0, 1, 1, 1, 1] 7 15 = true ∧ ordP (z0c_m n) [0, 1, 1, 1, 1] 10 15 = true ∧ ordP (z0c_m n) [0, 1, 1, 1, 1] 11 15 = true ∧ ordP (z0c_m n) [0, 1, 1, 1, 1] 12 15 = true ∧ ordP (z0c_m n) [0, 1, 1, 1, 1] 14 15 = true ∧ ordP (z0c_m n) [0, 1, 1, 1, 1, 1] 1 12 = true ∧ ordP (z0c_m n) [0, 1, 1, 1, 1, 1] 3 12 = true ∧ ordP (z0c_m n) [0, 1, 1, 1, 1, 1] 6 12 = true ∧ ordP (z0c_m n) [0, 1, 1, 1, 1, 1] 8 12 = true ∧ ordP (z0c_m n) [0, 1, 1, 1, 1, 1] 9 12 = true ∧ ordP (z0c_m n) [0, 1, 1, 1, 1, 1] 11 12 = true := ⟨by kernel_rfl, by kernel_rfl, by kernel_rfl, by kernel_rfl, by kernel_rfl, by kernel_rfl, by kernel_rfl, by kernel_rfl, by kernel_rfl, by kernel_rfl, by kernel_rfl, by kernel_rfl, by kernel_rfl, by kernel_rfl⟩
noncomputable def z0c_b1 (n : Nat) : { B : ((List Ctor) → Int → Int → Str → Int → (List Term) → (List Term) → Int → Int → Str → (List Level) → (List Term) → Zs1 → (List Zs4) → Option (Family × Int)) → (List Ctor) → Int → Int → Str → Int → (List Term) → (List Term) → Int → Int → Str → (List Level) → (List Term) → Zs1 → (List Zs4) → Option (Family × Int) // ∀ m X0, (∀ (v0 : List Ctor) (v1 : Int) (v2 : Int) (v3 : Str) (v4 : Int) (v5 : List Term) (v6 : List Term) (v7 : Int) (v8 : Int) (v9 : Str) (v10 : List Level) (v11 : List Term) (o4 : Zs1) (r5 : List Zs4) (c5 : Nat), c5 = r5.length → run (z0c_m n) [.lq m [0, 1, 0, 1, 1, 1, 1, 1, 1], .blk 0, .cut [1, 1, 1, 1, 1, 1, 1], .at [1, 1, 1, 1, 1, 1, 1]] ⟨[.any, .any, .ptr 1 0, .any, .any, .any, .ptr 3 0, .ptr 4 0, .any, .any, .any, .any, .any, .any, .any, .any, .any, .any, .any, .any, .any, .any, .any, .any, .any, .any, .any, .any, .any, .any, .any, .any, .any, .any, .any, .any, .any, .any, .any, .any, .any, .any, .any, .any, .any, .any, .any, .any, .any, .any, .any, .any, .any, .any, .any, .any, .any, .any, .any, .any, .any, .any, .any, .any, .any, .any, .any, .any, .any, .lst false 6 (mp Ctor.cells v0), .int .i64 v1, .int .i64 v2, .any, .any, .any, .any, .any, .any, .any, .any, .any, .any, .any, .any, .any, .any, .any, .any, .any, .any, .any, .any], [.dead, .cells [.str (sb []), .int .i64 0, .lst true 0 [], .lst true 0 [], .int .i64 0, .int .i64 0, .str (sb []), .lst true 0 [], .lst true 0 [], .lst true 0 []], .dead, .cells [.str (sb v3), .int .i64 v4, .lst false 5 (mp Term.cells v5), .lst false 5 (mp Term.cells v6), .int .i64 v7, .int .i64 v8, .str (sb v9), .lst false 2 (mp Level.cells v10), .lst false 5 (mp Term.cells v11), .acc 5 c5], .cells (Zs1.cells o4), .acc true 4 (mp Zs4.cells r5)], 0⟩ = X0 v0 v1 v2 v3 v4 v5 v6 v7 v8 v9 v10 v11 o4 r5) → ∀ (v0 : List Ctor) (v1 : Int) (v2 : Int) (v3 : Str) (v4 : Int) (v5 : List Term) (v6 : List Term) (v7 : Int) (v8 : Int) (v9 : Str) (v10 : List Level) (v11 : List Term) (o4 : Zs1) (r5 : List Zs4), run (z0c_m n) [.at [0, 0, 1, 0, 1, 1, 1, 1, 1, 1], .lp m [0, 1, 0, 1, 1, 1, 1, 1, 1], .blk 0, .cut [1, 1, 1, 1, 1, 1, 1], .at [1, 1, 1, 1, 1, 1, 1]] ⟨[.any, .any, .ptr 1 0, .any, .any, .any, .ptr 3 0, .ptr 4 0, .any, .any, .any, .any, .any, .any, .any, .any, .any, .any, .any, .any, .any, .any, .any, .any, .any, .any, .any, .any, .any, .any, .any, .any, .any, .any, .any, .any, .any, .any, .any, .any, .any, .any, .any, .any, .any, .any, .any, .any, .any, .any, .any, .any, .any, .any, .any, .any, .any, .any, .any, .any, .any, .any, .any, .any, .any, .any, .any, .any, .any, .lst false 6 (mp Ctor.cells v0), .int .i64 v1, .int .i64 v2, .any, .any, .any, .any, .any, .any, .any, .any, .any, .any, .any, .any, .any, .any, .any, .any, .any, .any, .any, .any], [.dead, .cells [.str (sb []), .int .i64 0, .lst true 0 [], .lst true 0 [], .int .i64 0, .int .i64 0, .str (sb []), .lst true 0 [], .lst true 0 [], .lst true 0 []], .dead, .cells [.str (sb v3), .int .i64 v4, .lst false 5 (mp Term.cells v5), .lst false 5 (mp Term.cells v6), .int .i64 v7, .int .i64 v8, .str (sb v9), .lst false 2 (mp Level.cells v10), .lst false 5 (mp Term.cells v11), .acc 5 r5.length], .cells (Zs1.cells o4), .acc true 4 (mp Zs4.cells r5)], 0⟩ = B X0 v0 v1 v2 v3 v4 v5 v6 v7 v8 v9 v10 v11 o4 r5 } := by
  apply Subtype.mk
  intro m X0 ih v0 v1 v2 v3 v4 v5 v6 v7 v8 v9 v10 v11 o4 r5
  simp (maxSteps := 100000000) only [go_sem, q00, q01, q02, q03, q04, q05, q06, q10, q11, q12, q13, q14, z0c_f, z0c_c, Try.f18, Option.getD_some, mixed, z0c_d, z0c_o, z0c_n1, ih]
  exact rfl
noncomputable def z0c_l1 (n : Nat) : Nat → (List Ctor) → Int → Int → Str → Int → (List Term) → (List Term) → Int → Int → Str → (List Level) → (List Term) → Zs1 → (List Zs4) → Option (Family × Int)
  | 0, _, _, _, _, _, _, _, _, _, _, _, _, _, _ => none
  | m + 1, v0, v1, v2, v3, v4, v5, v6, v7, v8, v9, v10, v11, o4, r5 => (z0c_b1 n).1 (z0c_l1 n m) v0 v1 v2 v3 v4 v5 v6 v7 v8 v9 v10 v11 o4 r5
theorem z0c_l1_eq (n : Nat) : ∀ (m : Nat), (∀ (v0 : List Ctor) (v1 : Int) (v2 : Int) (v3 : Str) (v4 : Int) (v5 : List Term) (v6 : List Term) (v7 : Int) (v8 : Int) (v9 : Str) (v10 : List Level) (v11 : List Term) (o4 : Zs1) (r5 : List Zs4) (c5 : Nat), c5 = r5.length → run (z0c_m n) [.lq m [0, 1, 0, 1, 1, 1, 1, 1, 1], .blk 0, .cut [1, 1, 1, 1, 1, 1, 1], .at [1, 1, 1, 1, 1, 1, 1]] ⟨[.any, .any, .ptr 1 0, .any, .any, .any, .ptr 3 0, .ptr 4 0, .any, .any, .any, .any, .any, .any, .any, .any, .any, .any, .any, .any, .any, .any, .any, .any, .any, .any, .any, .any, .any, .any, .any, .any, .any, .any, .any, .any, .any, .any, .any, .any, .any, .any, .any, .any, .any, .any, .any, .any, .any, .any, .any, .any, .any, .any, .any, .any, .any, .any, .any, .any, .any, .any, .any, .any, .any, .any, .any, .any, .any, .lst false 6 (mp Ctor.cells v0), .int .i64 v1, .int .i64 v2, .any, .any, .any, .any, .any, .any, .any, .any, .any, .any, .any, .any, .any, .any, .any, .any, .any, .any, .any, .any], [.dead, .cells [.str (sb []), .int .i64 0, .lst true 0 [], .lst true 0 [], .int .i64 0, .int .i64 0, .str (sb []), .lst true 0 [], .lst true 0 [], .lst true 0 []], .dead, .cells [.str (sb v3), .int .i64 v4, .lst false 5 (mp Term.cells v5), .lst false 5 (mp Term.cells v6), .int .i64 v7, .int .i64 v8, .str (sb v9), .lst false 2 (mp Level.cells v10), .lst false 5 (mp Term.cells v11), .acc 5 c5], .cells (Zs1.cells o4), .acc true 4 (mp Zs4.cells r5)], 0⟩ = z0c_l1 n m v0 v1 v2 v3 v4 v5 v6 v7 v8 v9 v10 v11 o4 r5)
  | 0 => by intros; exact run_lq_zero
  | m + 1 => by
    have ih := z0c_l1_eq n m
    intro v0 v1 v2 v3 v4 v5 v6 v7 v8 v9 v10 v11 o4 r5 c5 ec5
    subst ec5
    rw [run_lq_succ]
    exact (z0c_b1 n).2  m _  ih v0 v1 v2 v3 v4 v5 v6 v7 v8 v9 v10 v11 o4 r5
noncomputable def z0c_e (n : Nat) : { B : Decl → Option (Family × Int) // ∀ (a0 : Decl), run (z0c_m n) [.at []] { slots := [(tyC Decl.cel).enc a0] ++ List.replicate (92 - [(tyC Decl.cel).enc a0].length) .any, heap := [] } = B a0 } := by
  apply Subtype.mk
  intro a0
  simp (maxSteps := 100000000) only [go_sem, q00, q01, q02, q03, q04, q05, q06, q10, q11, q12, q13, q14, z0c_f, z0c_c, Try.f18, Option.getD_some, mixed, z0c_d, z0c_o, z0c_n1, z0c_l1_eq n]
  exact rfl
noncomputable def z0c : Nat → Decl → Option (Family × Int)
  | 0, _ => none
  | n + 1, a0 => (z0c_e n).1 a0
theorem z0c_ok : ∀ (n : Nat) (a0 : Decl) (r : (Family × Int)), z0c n a0 = some r → FnC Try.prog 18 [(tyC Decl.cel).enc a0] (fun v => v = (ty2 (tyC Family.cel) (tyI .i64)).enc r)
  | 0, _, _, h => by cases h
  | n + 1, a0, r, h => by
    exact fnC_run (M := z0c_m n) ⟨(tabA_cons_ok (ent1_ok (z0k_ok n)) (tabA_cons_ok (ent2_ok (z08_ok n)) tabA_nil_ok)), (tabD_cons_ok (ent2_okD (z0g_ok n)) tabD_nil_ok), tabN_ok _, tabF_ok _, noY_ok, noE_ok⟩ Try.func18 rfl rfl ⟨(tyC Decl.cel).nb 0 _, trivial⟩ Try.ntmps18 Try.results18 (fun σ hs => outR_ok (P := Try.prog) (rs := [.cell 2 36, .tmp 3]) (t := (ty2 (tyC Family.cel) (tyI .i64))) (σ := σ) (r := r) hs) (((z0c_e n).2 a0).trans h)
end Go.Abs
namespace Go.Abs
open Go.Proofs
set_option maxRecDepth 100000
set_option maxHeartbeats 4000000
set_option linter.unusedSimpArgs false
set_option linter.unusedVariables false
noncomputable def z0q_m (n : Nat) : Mach Bool where
  body := (Try.f17.body).getD .skip
  P := Try.prog
  cl := tabA [(18, ent1 (tyC Decl.cel) (ty2 (tyC Family.cel) (tyI .i64)) (z0c n)), (26, ent2 (tyC Term.cel) (tyC Term.cel) tyB (z1h n)), (55, ent1 (tyI .i64) (tyC Decl.cel) (z1c n))]
  cd := tabD []
  nrm := tabN []
  cut := tabF []
  n := n
  out := outR Try.prog [.tmp 0] tyB
theorem z0q_f (n : Nat) : (z0q_m n).P = Try.prog ∧ (z0q_m n).cl = tabA [(18, ent1 (tyC Decl.cel) (ty2 (tyC Family.cel) (tyI .i64)) (z0c n)), (26, ent2 (tyC Term.cel) (tyC Term.cel) tyB (z1h n)), (55, ent1 (tyI .i64) (tyC Decl.cel) (z1c n))] ∧ (z0q_m n).cd = tabD [] ∧ (z0q_m n).nrm = tabN [] ∧ (z0q_m n).cut = tabF [] ∧ (z0q_m n).n = n ∧ (z0q_m n).out = outR Try.prog [.tmp 0] tyB := ⟨rfl, rfl, rfl, rfl, rfl, rfl, rfl⟩
theorem z0q_c (n : Nat) : (z0q_m n).body = (Try.f17.body).getD .skip := rfl
noncomputable def z0q_e (n : Nat) : { B : Option Bool // run (z0q_m n) [.at []] { slots := ([] : List AV) ++ List.replicate (109 - ([] : List AV).length) .any, heap := [] } = B } := by
  apply Subtype.mk
  simp (maxSteps := 100000000) only [go_sem, q00, q01, q02, q03, q04, q05, q06, q10, q11, q12, q13, q14, z0q_f, z0q_c, Try.f17, Option.getD_some, mixed]
  exact rfl
noncomputable def z0q : Nat → Option Bool
  | 0 => none
  | n + 1 => (z0q_e n).1
theorem z0q_ok : ∀ (n : Nat) (r : Bool), z0q n = some r → FnC Try.prog 17 [] (fun v => v = tyB.enc r)
  | 0, _, h => by cases h
  | n + 1, r, h => by
    exact fnC_run (M := z0q_m n) ⟨(tabA_cons_ok (ent1_ok (z0c_ok n)) (tabA_cons_ok (ent2_ok (z1h_ok n)) (tabA_cons_ok (ent1_ok (z1c_ok n)) tabA_nil_ok))), tabD_nil_ok, tabN_ok _, tabF_ok _, noY_ok, noE_ok⟩ Try.func17 rfl rfl trivial Try.ntmps17 Try.results17 (fun σ hs => outR_ok (P := Try.prog) (rs := [.tmp 0]) (t := tyB) (σ := σ) (r := r) hs) (((z0q_e n).2).trans h)
end Go.Abs
namespace Go.Abs
open Go.Proofs
set_option maxRecDepth 100000
set_option maxHeartbeats 4000000
set_option linter.unusedSimpArgs false
set_option linter.unusedVariables false
noncomputable def z04_m (n : Nat) : Mach Bool where
  body := (Try.f4.body).getD .skip
  P := Try.prog
  cl := tabA [(16, ent1 (tyC Decl.cel) tyB (z1b n)), (17, ent0  tyB (z0q n)), (18, entAlt (ent1 (tyC Decl.cel) (ty2 (tyC Family.cel) (tyI .i64)) (z0c n)) (entB (entD (ent1 (tyC Decl.cel) (ty2 (tyC Family.cel) (tyI .i64)) (z0c n))))), (21, ent1 (tyC Term.cel) (ty2 (tyL Term.row) (tyC Term.cel)) (z1e n))]
  cd := tabD [(23, entD (ent2 (tyC Term.cel) (tyC Term.cel) tyB (z14 n)))]
  nrm := tabN []
  cut := tabF []
  n := n
  out := outR Try.prog [.tmp 4] tyB
  isE := tabI [22]
  ce := tabE [(22, entR (entD (ent2 (tyL Term.row) (tyC Term.cel) (tyC Term.cel) (z1f n))))]
theorem z04_f (n : Nat) : (z04_m n).P = Try.prog ∧ (z04_m n).cl = tabA [(16, ent1 (tyC Decl.cel) tyB (z1b n)), (17, ent0  tyB (z0q n)), (18, entAlt (ent1 (tyC Decl.cel) (ty2 (tyC Family.cel) (tyI .i64)) (z0c n)) (entB (entD (ent1 (tyC Decl.cel) (ty2 (tyC Family.cel) (tyI .i64)) (z0c n))))), (21, ent1 (tyC Term.cel) (ty2 (tyL Term.row) (tyC Term.cel)) (z1e n))] ∧ (z04_m n).cd = tabD [(23, entD (ent2 (tyC Term.cel) (tyC Term.cel) tyB (z14 n)))] ∧ (z04_m n).nrm = tabN [] ∧ (z04_m n).cut = tabF [] ∧ (z04_m n).n = n ∧ (z04_m n).out = outR Try.prog [.tmp 4] tyB ∧ (z04_m n).isE = tabI [22] ∧ (z04_m n).ce = tabE [(22, entR (entD (ent2 (tyL Term.row) (tyC Term.cel) (tyC Term.cel) (z1f n))))] := ⟨rfl, rfl, rfl, rfl, rfl, rfl, rfl, rfl, rfl⟩
theorem z04_c (n : Nat) : (z04_m n).body = (Try.f4.body).getD .skip := rfl
theorem z04_d (n : Nat) : drawP (z04_m n) [0, 0, 1, 1, 1, 1, 1, 1, 1, 1, 1, 1, 1, 1] = true ∧ drawP (z04_m n) [0, 1, 1, 1, 1, 1, 1, 1] = true ∧ drawP (z04_m n) [0, 1, 1, 1, 1, 1, 1, 1, 1, 1, 1, 1, 1, 1] = true := ⟨by kernel_rfl, by kernel_rfl, by kernel_rfl⟩
theorem z04_o (n : Nat) : ordP (z04_m n) [0, 1, 1, 1, 1, 1, 1, 1] 5 6 = true ∧ ordP (z04_m n) [0, 1, 1, 1, 1, 1, 1, 1] 1 8 = true ∧ ordP (z04_m n) [0, 1, 1, 1, 1, 1, 1, 1] 5 8 = true ∧ ordP (z04_m n) [0, 1, 1, 1, 1, 1, 1, 1] 6 8 = true ∧ ordP (z04_m n) [0, 1, 1, 1, 1, 1, 1, 1, 1, 1, 1, 1, 1, 1] 3 7 = true ∧ ordP (z04_m n) [0, 1, 1, 1, 1, 1, 1, 1, 1, 1, 1, 1, 1, 1] 6 7 = true ∧ ordP (z04_m n) [0, 1, 1, 1, 1, 1, 1, 1, 1, 1, 1, 1, 1, 1] 7 9 = true ∧ ordP (z04_m n) [0, 1, 1, 1, 1, 1, 1, 1, 1, 1, 1, 1, 1, 1] 7 10 = true ∧ ordP (z04_m n) [0, 1, 1, 1, 1, 1, 1, 1, 1, 1, 1, 1, 1, 1] 9 10 = true ∧ ordP (z04_m n) [0, 1, 1, 1, 1, 1, 1, 1, 1, 1, 1, 1, 1, 1] 1 12 = true ∧ ordP (z04_m n) [0, 1, 1, 1, 1, 1, 1, 1, 1, 1, 1, 1, 1, 1] 3 12 = true ∧ ordP (z04_m n) [0, 1, 1, 1, 1, 1, 1, 1, 1, 1, 1, 1, 1, 1] 6 12 = true ∧ ordP (z04_m n) [0, 1, 1, 1, 1, 1, 1, 1, 1, 1, 1, 1, 1, 1] 7 12 = true ∧ ordP (z04_m n) [0, 1, 1, 1, 1, 1, 1, 1, 1, 1, 1, 1, 1, 1] 8 12 = true ∧ ordP (z04_m n) [0, 1, 1, 1, 1, 1, 1, 1, 1, 1, 1, 1, 1, 1] 9 12 = true ∧ ordP (z04_m n) [0, 1, 1, 1, 1, 1, 1, 1, 1, 1, 1, 1, 1, 1] 10 12 = true := ⟨by kernel_rfl, by kernel_rfl, by kernel_rfl, by kernel_rfl, by kernel_rfl, by kernel_rfl, by kernel_rfl, by kernel_rfl, by kernel_rfl, by kernel_rfl, by kernel_rfl, by kernel_rfl, by kernel_rfl, by kernel_rfl, by kernel_rfl, by kernel_rfl⟩
noncomputable def z04_e (n : Nat) : { B : Decl → Int → Option Bool // ∀ (a0 : Decl) (a1 : Int), run (z04_m n) [.at []] { slots := [(tyC Decl.cel).enc a0, (tyI .u8).enc a1] ++ List.replicate (119 - [(tyC Decl.cel).enc a0, (tyI .u8).enc a1].length) .any, heap := [] } = B a0 a1 } := by
  apply Subtype.mk
  intro a0 a1
  simp (maxSteps := 100000000) only [go_sem, q00, q01, q02, q03, q04, q05, q06, q10, q11, q12, q13, q14, z04_f, z04_c, Try.f4, Option.getD_some, mixed, z04_d, z04_o, Family.cells_eq, List.map_cons, List.map_nil, List.set_set, Ctor.nbset]
  exact rfl
noncomputable def z04 : Nat → Decl → Int → Option Bool
  | 0, _, _ => none
  | n + 1, a0, a1 => (z04_e n).1 a0 a1
theorem z04_ok : ∀ (n : Nat) (a0 : Decl) (a1 : Int) (r : Bool), z04 n a0 a1 = some r → FnC Try.prog 4 [(tyC Decl.cel).enc a0, (tyI .u8).enc a1] (fun v => v = tyB.enc r)
  | 0, _, _, _, h => by cases h
  | n + 1, a0, a1, r, h => by
    exact fnC_run (M := z04_m n) ⟨(tabA_cons_ok (ent1_ok (z1b_ok n)) (tabA_cons_ok (ent0_ok (z0q_ok n)) (tabA_cons_ok (entAlt_ok (ent1_ok (z0c_ok n)) (entB_ok (ent1_okD (z0c_ok n)))) (tabA_cons_ok (ent1_ok (z1e_ok n)) tabA_nil_ok)))), (tabD_cons_ok (ent2_okD (z14_ok n)) tabD_nil_ok), tabN_ok _, tabF_ok _, noY_ok, (tabE_cons_ok (entR_ok (ent2_okD (z1f_ok n))) tabE_nil_ok)⟩ Try.func4 rfl rfl ⟨(tyC Decl.cel).nb 0 _, (tyI .u8).nb 0 _, trivial⟩ Try.ntmps4 Try.results4 (fun σ hs => outR_ok (P := Try.prog) (rs := [.tmp 4]) (t := tyB) (σ := σ) (r := r) hs) (((z04_e n).2 a0 a1).trans h)
end Go.Abs
