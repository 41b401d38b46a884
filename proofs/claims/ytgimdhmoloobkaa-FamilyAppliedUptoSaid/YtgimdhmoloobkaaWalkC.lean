/- A part of the proof: what the functions compute. -/
import Derived.Test.YtgimdhmoloobkaaDataA
import Derived.Test.YtgimdhmoloobkaaWalkB
import Derived.Test.YtgimdhmoloobkaaWalkA
set_option linter.all false
namespace Go.Abs
open Go.Proofs
set_option maxRecDepth 100000
set_option maxHeartbeats 4000000
set_option linter.unusedSimpArgs false
set_option linter.unusedVariables false
noncomputable def z1g_n1 : Nrm := ⟨[], [], [zT (tyL Decl.row), zA, zA, zA, zK, zA, zA, zA, zA, zA, zA, zA, zA, zA, zA, zA, zA, zA, zA, zA, zA, zA, zA, zA, zA, zA, zA], [], none⟩
noncomputable def z1g_m (n : Nat) : Mach (Int × Int) where
  body := (Try.f68.body).getD .skip
  P := Try.prog
  cl := tabA []
  cd := tabD [(105, entD (ent2 (tyL Decl.row) (tyC Decl.cel) (tyI .i64) (z1s n)))]
  nrm := tabN [([0, 1, 0, 1, 1], z1g_n1)]
  cut := tabF []
  n := n
  out := outR Try.prog [.tmp 2, .tmp 3] (ty2 (tyI .i64) (tyI .i64))
  isE := tabI []
theorem z1g_f (n : Nat) : (z1g_m n).P = Try.prog ∧ (z1g_m n).cl = tabA [] ∧ (z1g_m n).cd = tabD [(105, entD (ent2 (tyL Decl.row) (tyC Decl.cel) (tyI .i64) (z1s n)))] ∧ (z1g_m n).nrm = tabN [([0, 1, 0, 1, 1], z1g_n1)] ∧ (z1g_m n).cut = tabF [] ∧ (z1g_m n).n = n ∧ (z1g_m n).out = outR Try.prog [.tmp 2, .tmp 3] (ty2 (tyI .i64) (tyI .i64)) ∧ (z1g_m n).isE = tabI [] := ⟨rfl, rfl, rfl, rfl, rfl, rfl, rfl, rfl⟩
theorem z1g_c (n : Nat) : (z1g_m n).body = (Try.f68.body).getD .skip := rfl
theorem z1g_d (n : Nat) : drawP (z1g_m n) [0, 0, 0, 1, 0, 0, 1, 0, 1, 1] = true := by kernel_rfl
noncomputable def z1g_b1 (n : Nat) : { B : ((List Decl) → Int → Option (Int × Int)) → (List Decl) → Int → Option (Int × Int) // ∀ m X0, (∀ (v0 : List Decl) (v1 : Int), run (z1g_m n) [.lq m [0, 1, 0, 1, 1], .blk 0, .cut [1, 1, 1], .at [1, 1, 1]] ⟨[.lst false 23 (mp Decl.cells v0), .any, .any, .any, .int .i64 v1, .any, .any, .any, .any, .any, .any, .any, .any, .any, .any, .any, .any, .any, .any, .any, .any, .any, .any, .any, .any, .any, .any], [], 0⟩ = X0 v0 v1) → ∀ (v0 : List Decl) (v1 : Int), run (z1g_m n) [.at [0, 0, 1, 0, 1, 1], .lp m [0, 1, 0, 1, 1], .blk 0, .cut [1, 1, 1], .at [1, 1, 1]] ⟨[.lst false 23 (mp Decl.cells v0), .any, .any, .any, .int .i64 v1, .any, .any, .any, .any, .any, .any, .any, .any, .any, .any, .any, .any, .any, .any, .any, .any, .any, .any, .any, .any, .any, .any], [], 0⟩ = B X0 v0 v1 } := by
  apply Subtype.mk
  intro m X0 ih v0 v1
  simp (maxSteps := 100000000) only [go_sem, Nat.reduceAdd, Nat.reduceSub, Nat.reduceLeDiff, Nat.reduceEqDiff, Nat.reduceBEq, Nat.reduceMul, Nat.reduceLT, Int.reduceLE, Int.reduceLT, Int.reduceToNat, Int.reduceBEq, Int.reduceEq, z1g_f, z1g_c, Try.f68, Option.getD_some, mixed, z1g_d, z1g_n1, ih]
  exact rfl
noncomputable def z1g_l1 (n : Nat) : Nat → (List Decl) → Int → Option (Int × Int)
  | 0, _, _ => none
  | m + 1, v0, v1 => (z1g_b1 n).1 (z1g_l1 n m) v0 v1
theorem z1g_l1_eq (n : Nat) : ∀ (m : Nat), (∀ (v0 : List Decl) (v1 : Int), run (z1g_m n) [.lq m [0, 1, 0, 1, 1], .blk 0, .cut [1, 1, 1], .at [1, 1, 1]] ⟨[.lst false 23 (mp Decl.cells v0), .any, .any, .any, .int .i64 v1, .any, .any, .any, .any, .any, .any, .any, .any, .any, .any, .any, .any, .any, .any, .any, .any, .any, .any, .any, .any, .any, .any], [], 0⟩ = z1g_l1 n m v0 v1)
  | 0 => by intros; exact run_lq_zero
  | m + 1 => by
    have ih := z1g_l1_eq n m
    intro v0 v1
    rw [run_lq_succ]
    exact (z1g_b1 n).2  m _  ih v0 v1
noncomputable def z1g_e (n : Nat) : { B : (List Decl) → Option (Int × Int) // ∀ (a0 : (List Decl)), run (z1g_m n) [.at []] { slots := [(tyL Decl.row).enc a0] ++ List.replicate (27 - [(tyL Decl.row).enc a0].length) .any, heap := [] } = B a0 } := by
  apply Subtype.mk
  intro a0
  simp (maxSteps := 100000000) only [go_sem, Nat.reduceAdd, Nat.reduceSub, Nat.reduceLeDiff, Nat.reduceEqDiff, Nat.reduceBEq, Nat.reduceMul, Nat.reduceLT, Int.reduceLE, Int.reduceLT, Int.reduceToNat, Int.reduceBEq, Int.reduceEq, z1g_f, z1g_c, Try.f68, Option.getD_some, mixed, z1g_d, z1g_n1, z1g_l1_eq n]
  exact rfl
noncomputable def z1g : Nat → (List Decl) → Option (Int × Int)
  | 0, _ => none
  | n + 1, a0 => (z1g_e n).1 a0
theorem z1g_ok : ∀ (n : Nat) (a0 : (List Decl)) (r : (Int × Int)), z1g n a0 = some r → FnC Try.prog 68 [(tyL Decl.row).enc a0] (fun v => v = (ty2 (tyI .i64) (tyI .i64)).enc r)
  | 0, _, _, h => by cases h
  | n + 1, a0, r, h => by
    exact fnC_run (M := z1g_m n) ⟨tabA_nil_ok, (tabD_cons_ok (ent2_okD (z1s_ok n)) tabD_nil_ok), tabN_ok _, tabF_ok _, noY_ok, noE_ok⟩ Try.func68 rfl rfl ⟨(tyL Decl.row).nb 0 _, trivial⟩ Try.ntmps68 Try.results68 (fun σ hs => outR_ok (P := Try.prog) (rs := [.tmp 2, .tmp 3]) (t := (ty2 (tyI .i64) (tyI .i64))) (σ := σ) (r := r) hs) (((z1g_e n).2 a0).trans h)

noncomputable def z0i_n1 : Nrm := ⟨[], [(3, 9, 4)], [zA, zA, zK, zA, zA, zA, zK, zK, zA, zA, zA, zA, zA, zA, zA, zA, zA, zA, zA, zA, zA, zA, zA, zA, zA, zA, zA, zA, zA, zA, zA, zA, zA, zA, zA, zA, zA, zA, zA, zA, zA, zA, zA, zA, zA, zA, zA, zA, zA, zA, zA, zA, zA, zA, zA, zA, zA, zA, zA, zA, zA, zA, zA, zA, zA, zA, zA, zA, zA, zT (tyL Ctor.row), zK, zK, zA, zA, zA, zA, zA, zA, zA, zA, zA, zA, zA, zA, zA, zA, zA, zA, zA, zA, zA, zA], [oD, oK, oD, oC [zK, zK, zT (tyL Term.row), zT (tyL Term.row), zK, zK, zK, zT (tyL Level.row), zT (tyL Term.row), zK], oT FamilyShape.cel, oA CtorForm.row], none⟩
noncomputable def z0i_m (n : Nat) : Mach (Family × Int) where
  body := (Try.f18.body).getD .skip
  P := Try.prog
  cl := tabA [(49, ent1 (tyC Term.cel) (ty2 (tyL Term.row) (tyC Term.cel)) (z0w n)), (57, ent2 (tyC FamilyShape.cel) (tyC Ctor.cel) (ty2 (tyC CtorForm.cel) tyB) (z0a n))]
  cd := tabD [(56, entD (ent2 tyS (tyI .i64) (tyC Term.cel) (z0q n)))]
  nrm := tabN [([0, 1, 0, 1, 1, 1, 1, 1, 1], z0i_n1)]
  cut := tabF []
  n := n
  out := outR Try.prog [.cell 2 36, .tmp 3] (ty2 (tyC Family.cel) (tyI .i64))
  isE := tabI []
theorem z0i_f (n : Nat) : (z0i_m n).P = Try.prog ∧ (z0i_m n).cl = tabA [(49, ent1 (tyC Term.cel) (ty2 (tyL Term.row) (tyC Term.cel)) (z0w n)), (57, ent2 (tyC FamilyShape.cel) (tyC Ctor.cel) (ty2 (tyC CtorForm.cel) tyB) (z0a n))] ∧ (z0i_m n).cd = tabD [(56, entD (ent2 tyS (tyI .i64) (tyC Term.cel) (z0q n)))] ∧ (z0i_m n).nrm = tabN [([0, 1, 0, 1, 1, 1, 1, 1, 1], z0i_n1)] ∧ (z0i_m n).cut = tabF [] ∧ (z0i_m n).n = n ∧ (z0i_m n).out = outR Try.prog [.cell 2 36, .tmp 3] (ty2 (tyC Family.cel) (tyI .i64)) ∧ (z0i_m n).isE = tabI [] := ⟨rfl, rfl, rfl, rfl, rfl, rfl, rfl, rfl⟩
theorem z0i_c (n : Nat) : (z0i_m n).body = (Try.f18.body).getD .skip := rfl
theorem z0i_d (n : Nat) : drawP (z0i_m n) [0, 1, 1, 1, 1] = true ∧ drawP (z0i_m n) [0, 1, 1, 1, 1, 1] = true := ⟨by kernel_rfl, by kernel_rfl⟩
theorem z0i_o (n : Nat) : ordP (z0i_m n) [0, 1, 1, 1, 1] 1 15 = true ∧ ordP (z0i_m n) [0, 1, 1, 1, 1] 3 15 = true ∧ ordP (z0i_m n) [0, 1, 1, 1, 1] 6 15 = true ∧ ordP (z0i_m n) [0, 1, 1, 1, 1] 7 15 = true ∧ ordP (z0i_m n) [0, 1, 1, 1, 1] 10 15 = true ∧ ordP (z0i_m n) [0, 1, 1, 1, 1] 11 15 = true ∧ ordP (z0i_m n) [0, 1, 1, 1, 1] 12 15 = true ∧ ordP (z0i_m n) [0, 1, 1, 1, 1] 14 15 = true ∧ ordP (z0i_m n) [0, 1, 1, 1, 1, 1] 1 12 = true ∧ ordP (z0i_m n) [0, 1, 1, 1, 1, 1] 3 12 = true ∧ ordP (z0i_m n) [0, 1, 1, 1, 1, 1] 6 12 = true ∧ ordP (z0i_m n) [0, 1, 1, 1, 1, 1] 8 12 = true ∧ ordP (z0i_m n) [0, 1, 1, 1, 1, 1] 9 12 = true ∧ ordP (z0i_m n) [0, 1, 1, 1, 1, 1] 11 12 = true := ⟨by kernel_rfl, by kernel_rfl, by kernel_rfl, by kernel_rfl, by kernel_rfl, by kernel_rfl, by kernel_rfl, by kernel_rfl, by kernel_rfl, by kernel_rfl, by kernel_rfl, by kernel_rfl, by kernel_rfl, by kernel_rfl⟩
noncomputable def z0i_b1 (n : Nat) : { B : ((List Ctor) → Int → Int → Str → Int → (List Term) → (List Term) → Int → Int → Str → (List Level) → (List Term) → FamilyShape → (List CtorForm) → Option (Family × Int)) → (List Ctor) → Int → Int → Str → Int → (List Term) → (List Term) → Int → Int → Str → (List Level) → (List Term) → FamilyShape → (List CtorForm) → Option (Family × Int) // ∀ m X0, (∀ (v0 : List Ctor) (v1 : Int) (v2 : Int) (v3 : Str) (v4 : Int) (v5 : List Term) (v6 : List Term) (v7 : Int) (v8 : Int) (v9 : Str) (v10 : List Level) (v11 : List Term) (o4 : FamilyShape) (r5 : List CtorForm) (c5 : Nat), c5 = r5.length → run (z0i_m n) [.lq m [0, 1, 0, 1, 1, 1, 1, 1, 1], .blk 0, .cut [1, 1, 1, 1, 1, 1, 1], .at [1, 1, 1, 1, 1, 1, 1]] ⟨[.any, .any, .ptr 1 0, .any, .any, .any, .ptr 3 0, .ptr 4 0, .any, .any, .any, .any, .any, .any, .any, .any, .any, .any, .any, .any, .any, .any, .any, .any, .any, .any, .any, .any, .any, .any, .any, .any, .any, .any, .any, .any, .any, .any, .any, .any, .any, .any, .any, .any, .any, .any, .any, .any, .any, .any, .any, .any, .any, .any, .any, .any, .any, .any, .any, .any, .any, .any, .any, .any, .any, .any, .any, .any, .any, .lst false 6 (mp Ctor.cells v0), .int .i64 v1, .int .i64 v2, .any, .any, .any, .any, .any, .any, .any, .any, .any, .any, .any, .any, .any, .any, .any, .any, .any, .any, .any, .any], [.dead, .cells [.str (sb []), .int .i64 0, .lst true 0 [], .lst true 0 [], .int .i64 0, .int .i64 0, .str (sb []), .lst true 0 [], .lst true 0 [], .lst true 0 []], .dead, .cells [.str (sb v3), .int .i64 v4, .lst false 5 (mp Term.cells v5), .lst false 5 (mp Term.cells v6), .int .i64 v7, .int .i64 v8, .str (sb v9), .lst false 2 (mp Level.cells v10), .lst false 5 (mp Term.cells v11), .acc 5 c5], .cells (FamilyShape.cells o4), .acc true 4 (mp CtorForm.cells r5)], 0⟩ = X0 v0 v1 v2 v3 v4 v5 v6 v7 v8 v9 v10 v11 o4 r5) → ∀ (v0 : List Ctor) (v1 : Int) (v2 : Int) (v3 : Str) (v4 : Int) (v5 : List Term) (v6 : List Term) (v7 : Int) (v8 : Int) (v9 : Str) (v10 : List Level) (v11 : List Term) (o4 : FamilyShape) (r5 : List CtorForm), run (z0i_m n) [.at [0, 0, 1, 0, 1, 1, 1, 1, 1, 1], .lp m [0, 1, 0, 1, 1, 1, 1, 1, 1], .blk 0, .cut [1, 1, 1, 1, 1, 1, 1], .at [1, 1, 1, 1, 1, 1, 1]] ⟨[.any, .any, .ptr 1 0, .any, .any, .any, .ptr 3 0, .ptr 4 0, .any, .any, .any, .any, .any, .any, .any, .any, .any, .any, .any, .any, .any, .any, .any, .any, .any, .any, .any, .any, .any, .any, .any, .any, .any, .any, .any, .any, .any, .any, .any, .any, .any, .any, .any, .any, .any, .any, .any, .any, .any, .any, .any, .any, .any, .any, .any, .any, .any, .any, .any, .any, .any, .any, .any, .any, .any, .any, .any, .any, .any, .lst false 6 (mp Ctor.cells v0), .int .i64 v1, .int .i64 v2, .any, .any, .any, .any, .any, .any, .any, .any, .any, .any, .any, .any, .any, .any, .any, .any, .any, .any, .any, .any], [.dead, .cells [.str (sb []), .int .i64 0, .lst true 0 [], .lst true 0 [], .int .i64 0, .int .i64 0, .str (sb []), .lst true 0 [], .lst true 0 [], .lst true 0 []], .dead, .cells [.str (sb v3), .int .i64 v4, .lst false 5 (mp Term.cells v5), .lst false 5 (mp Term.cells v6), .int .i64 v7, .int .i64 v8, .str (sb v9), .lst false 2 (mp Level.cells v10), .lst false 5 (mp Term.cells v11), .acc 5 r5.length], .cells (FamilyShape.cells o4), .acc true 4 (mp CtorForm.cells r5)], 0⟩ = B X0 v0 v1 v2 v3 v4 v5 v6 v7 v8 v9 v10 v11 o4 r5 } := by
  apply Subtype.mk
  intro m X0 ih v0 v1 v2 v3 v4 v5 v6 v7 v8 v9 v10 v11 o4 r5
  simp (maxSteps := 100000000) only [go_sem, Nat.reduceAdd, Nat.reduceSub, Nat.reduceLeDiff, Nat.reduceEqDiff, Nat.reduceBEq, Nat.reduceMul, Nat.reduceLT, Int.reduceLE, Int.reduceLT, Int.reduceToNat, Int.reduceBEq, Int.reduceEq, z0i_f, z0i_c, Try.f18, Option.getD_some, mixed, z0i_d, z0i_o, z0i_n1, ih]
  exact rfl
noncomputable def z0i_l1 (n : Nat) : Nat → (List Ctor) → Int → Int → Str → Int → (List Term) → (List Term) → Int → Int → Str → (List Level) → (List Term) → FamilyShape → (List CtorForm) → Option (Family × Int)
  | 0, _, _, _, _, _, _, _, _, _, _, _, _, _, _ => none
  | m + 1, v0, v1, v2, v3, v4, v5, v6, v7, v8, v9, v10, v11, o4, r5 => (z0i_b1 n).1 (z0i_l1 n m) v0 v1 v2 v3 v4 v5 v6 v7 v8 v9 v10 v11 o4 r5
theorem z0i_l1_eq (n : Nat) : ∀ (m : Nat), (∀ (v0 : List Ctor) (v1 : Int) (v2 : Int) (v3 : Str) (v4 : Int) (v5 : List Term) (v6 : List Term) (v7 : Int) (v8 : Int) (v9 : Str) (v10 : List Level) (v11 : List Term) (o4 : FamilyShape) (r5 : List CtorForm) (c5 : Nat), c5 = r5.length → run (z0i_m n) [.lq m [0, 1, 0, 1, 1, 1, 1, 1, 1], .blk 0, .cut [1, 1, 1, 1, 1, 1, 1], .at [1, 1, 1, 1, 1, 1, 1]] ⟨[.any, .any, .ptr 1 0, .any, .any, .any, .ptr 3 0, .ptr 4 0, .any, .any, .any, .any, .any, .any, .any, .any, .any, .any, .any, .any, .any, .any, .any, .any, .any, .any, .any, .any, .any, .any, .any, .any, .any, .any, .any, .any, .any, .any, .any, .any, .any, .any, .any, .any, .any, .any, .any, .any, .any, .any, .any, .any, .any, .any, .any, .any, .any, .any, .any, .any, .any, .any, .any, .any, .any, .any, .any, .any, .any, .lst false 6 (mp Ctor.cells v0), .int .i64 v1, .int .i64 v2, .any, .any, .any, .any, .any, .any, .any, .any, .any, .any, .any, .any, .any, .any, .any, .any, .any, .any, .any, .any], [.dead, .cells [.str (sb []), .int .i64 0, .lst true 0 [], .lst true 0 [], .int .i64 0, .int .i64 0, .str (sb []), .lst true 0 [], .lst true 0 [], .lst true 0 []], .dead, .cells [.str (sb v3), .int .i64 v4, .lst false 5 (mp Term.cells v5), .lst false 5 (mp Term.cells v6), .int .i64 v7, .int .i64 v8, .str (sb v9), .lst false 2 (mp Level.cells v10), .lst false 5 (mp Term.cells v11), .acc 5 c5], .cells (FamilyShape.cells o4), .acc true 4 (mp CtorForm.cells r5)], 0⟩ = z0i_l1 n m v0 v1 v2 v3 v4 v5 v6 v7 v8 v9 v10 v11 o4 r5)
  | 0 => by intros; exact run_lq_zero
  | m + 1 => by
    have ih := z0i_l1_eq n m
    intro v0 v1 v2 v3 v4 v5 v6 v7 v8 v9 v10 v11 o4 r5 c5 ec5
    subst ec5
    rw [run_lq_succ]
    exact (z0i_b1 n).2  m _  ih v0 v1 v2 v3 v4 v5 v6 v7 v8 v9 v10 v11 o4 r5
noncomputable def z0i_e (n : Nat) : { B : Decl → Option (Family × Int) // ∀ (a0 : Decl), run (z0i_m n) [.at []] { slots := [(tyC Decl.cel).enc a0] ++ List.replicate (92 - [(tyC Decl.cel).enc a0].length) .any, heap := [] } = B a0 } := by
  apply Subtype.mk
  intro a0
  simp (maxSteps := 100000000) only [go_sem, Nat.reduceAdd, Nat.reduceSub, Nat.reduceLeDiff, Nat.reduceEqDiff, Nat.reduceBEq, Nat.reduceMul, Nat.reduceLT, Int.reduceLE, Int.reduceLT, Int.reduceToNat, Int.reduceBEq, Int.reduceEq, z0i_f, z0i_c, Try.f18, Option.getD_some, mixed, z0i_d, z0i_o, z0i_n1, z0i_l1_eq n]
  exact rfl
noncomputable def z0i : Nat → Decl → Option (Family × Int)
  | 0, _ => none
  | n + 1, a0 => (z0i_e n).1 a0
theorem z0i_ok : ∀ (n : Nat) (a0 : Decl) (r : (Family × Int)), z0i n a0 = some r → FnC Try.prog 18 [(tyC Decl.cel).enc a0] (fun v => v = (ty2 (tyC Family.cel) (tyI .i64)).enc r)
  | 0, _, _, h => by cases h
  | n + 1, a0, r, h => by
    exact fnC_run (M := z0i_m n) ⟨(tabA_cons_ok (ent1_ok (z0w_ok n)) (tabA_cons_ok (ent2_ok (z0a_ok n)) tabA_nil_ok)), (tabD_cons_ok (ent2_okD (z0q_ok n)) tabD_nil_ok), tabN_ok _, tabF_ok _, noY_ok, noE_ok⟩ Try.func18 rfl rfl ⟨(tyC Decl.cel).nb 0 _, trivial⟩ Try.ntmps18 Try.results18 (fun σ hs => outR_ok (P := Try.prog) (rs := [.cell 2 36, .tmp 3]) (t := (ty2 (tyC Family.cel) (tyI .i64))) (σ := σ) (r := r) hs) (((z0i_e n).2 a0).trans h)
end Go.Abs
namespace Go.Abs
open Go.Proofs
set_option maxRecDepth 100000
set_option maxHeartbeats 4000000
set_option linter.unusedSimpArgs false
set_option linter.unusedVariables false
noncomputable def z1l_m (n : Nat) : Mach Bool where
  body := (Try.f28.body).getD .skip
  P := Try.prog
  cl := tabA [(67, ent1 (tyL Decl.row) tyB (z1w n)), (68, ent1 (tyL Decl.row) (ty2 (tyI .i64) (tyI .i64)) (z1g n))]
  cd := tabD []
  nrm := tabN []
  cut := tabF []
  n := n
  out := outR Try.prog [.tmp 2] tyB
theorem z1l_f (n : Nat) : (z1l_m n).P = Try.prog ∧ (z1l_m n).cl = tabA [(67, ent1 (tyL Decl.row) tyB (z1w n)), (68, ent1 (tyL Decl.row) (ty2 (tyI .i64) (tyI .i64)) (z1g n))] ∧ (z1l_m n).cd = tabD [] ∧ (z1l_m n).nrm = tabN [] ∧ (z1l_m n).cut = tabF [] ∧ (z1l_m n).n = n ∧ (z1l_m n).out = outR Try.prog [.tmp 2] tyB := ⟨rfl, rfl, rfl, rfl, rfl, rfl, rfl⟩
theorem z1l_c (n : Nat) : (z1l_m n).body = (Try.f28.body).getD .skip := rfl
noncomputable def z1l_e (n : Nat) : { B : (List Decl) → Option Bool // ∀ (a0 : (List Decl)), run (z1l_m n) [.at []] { slots := [(tyL Decl.row).enc a0] ++ List.replicate (15 - [(tyL Decl.row).enc a0].length) .any, heap := [] } = B a0 } := by
  apply Subtype.mk
  intro a0
  simp (maxSteps := 100000000) only [go_sem, Nat.reduceAdd, Nat.reduceSub, Nat.reduceLeDiff, Nat.reduceEqDiff, Nat.reduceBEq, Nat.reduceMul, Nat.reduceLT, Int.reduceLE, Int.reduceLT, Int.reduceToNat, Int.reduceBEq, Int.reduceEq, z1l_f, z1l_c, Try.f28, Option.getD_some, mixed]
  exact rfl
noncomputable def z1l : Nat → (List Decl) → Option Bool
  | 0, _ => none
  | n + 1, a0 => (z1l_e n).1 a0
theorem z1l_ok : ∀ (n : Nat) (a0 : (List Decl)) (r : Bool), z1l n a0 = some r → FnC Try.prog 28 [(tyL Decl.row).enc a0] (fun v => v = tyB.enc r)
  | 0, _, _, h => by cases h
  | n + 1, a0, r, h => by
    exact fnC_run (M := z1l_m n) ⟨(tabA_cons_ok (ent1_ok (z1w_ok n)) (tabA_cons_ok (ent1_ok (z1g_ok n)) tabA_nil_ok)), tabD_nil_ok, tabN_ok _, tabF_ok _, noY_ok, noE_ok⟩ Try.func28 rfl rfl ⟨(tyL Decl.row).nb 0 _, trivial⟩ Try.ntmps28 Try.results28 (fun σ hs => outR_ok (P := Try.prog) (rs := [.tmp 2]) (t := tyB) (σ := σ) (r := r) hs) (((z1l_e n).2 a0).trans h)

noncomputable def z15_m (n : Nat) : Mach Bool where
  body := (Try.f17.body).getD .skip
  P := Try.prog
  cl := tabA [(18, ent1 (tyC Decl.cel) (ty2 (tyC Family.cel) (tyI .i64)) (z0i n)), (26, ent2 (tyC Term.cel) (tyC Term.cel) tyB (z20 n)), (55, ent1 (tyI .i64) (tyC Decl.cel) (z1x n))]
  cd := tabD []
  nrm := tabN []
  cut := tabF []
  n := n
  out := outR Try.prog [.tmp 0] tyB
theorem z15_f (n : Nat) : (z15_m n).P = Try.prog ∧ (z15_m n).cl = tabA [(18, ent1 (tyC Decl.cel) (ty2 (tyC Family.cel) (tyI .i64)) (z0i n)), (26, ent2 (tyC Term.cel) (tyC Term.cel) tyB (z20 n)), (55, ent1 (tyI .i64) (tyC Decl.cel) (z1x n))] ∧ (z15_m n).cd = tabD [] ∧ (z15_m n).nrm = tabN [] ∧ (z15_m n).cut = tabF [] ∧ (z15_m n).n = n ∧ (z15_m n).out = outR Try.prog [.tmp 0] tyB := ⟨rfl, rfl, rfl, rfl, rfl, rfl, rfl⟩
theorem z15_c (n : Nat) : (z15_m n).body = (Try.f17.body).getD .skip := rfl
noncomputable def z15_e (n : Nat) : { B : Option Bool // run (z15_m n) [.at []] { slots := ([] : List AV) ++ List.replicate (109 - ([] : List AV).length) .any, heap := [] } = B } := by
  apply Subtype.mk
  simp (maxSteps := 100000000) only [go_sem, Nat.reduceAdd, Nat.reduceSub, Nat.reduceLeDiff, Nat.reduceEqDiff, Nat.reduceBEq, Nat.reduceMul, Nat.reduceLT, Int.reduceLE, Int.reduceLT, Int.reduceToNat, Int.reduceBEq, Int.reduceEq, z15_f, z15_c, Try.f17, Option.getD_some, mixed]
  exact rfl
noncomputable def z15 : Nat → Option Bool
  | 0 => none
  | n + 1 => (z15_e n).1
theorem z15_ok : ∀ (n : Nat) (r : Bool), z15 n = some r → FnC Try.prog 17 [] (fun v => v = tyB.enc r)
  | 0, _, h => by cases h
  | n + 1, r, h => by
    exact fnC_run (M := z15_m n) ⟨(tabA_cons_ok (ent1_ok (z0i_ok n)) (tabA_cons_ok (ent2_ok (z20_ok n)) (tabA_cons_ok (ent1_ok (z1x_ok n)) tabA_nil_ok))), tabD_nil_ok, tabN_ok _, tabF_ok _, noY_ok, noE_ok⟩ Try.func17 rfl rfl trivial Try.ntmps17 Try.results17 (fun σ hs => outR_ok (P := Try.prog) (rs := [.tmp 0]) (t := tyB) (σ := σ) (r := r) hs) (((z15_e n).2).trans h)
end Go.Abs
namespace Go.Abs
open Go.Proofs
set_option maxRecDepth 100000
set_option maxHeartbeats 4000000
set_option linter.unusedSimpArgs false
set_option linter.unusedVariables false
noncomputable def z07_m (n : Nat) : Mach Bool where
  body := (Try.f7.body).getD .skip
  P := Try.prog
  cl := tabA [(17, ent0  tyB (z15 n)), (28, ent1 (tyL Decl.row) tyB (z1l n)), (29, ent2 (tyC Term.cel) (tyI .i64) tyB (z1v n)), (30, ent2 (tyL Decl.row) (tyC Term.cel) (ty5 (tyC Decl.cel) (tyL Level.row) (tyL Term.row) (tyL Term.row) tyB) (z0j n)), (31, ent2 (tyL Decl.row) (tyC Term.cel) (ty5 (tyC Decl.cel) (tyL Level.row) (tyL Term.row) (tyL Term.row) tyB) (z0v n)), (32, ent2 (tyC Decl.cel) (tyC Decl.cel) tyB (z0l n)), (33, ent2 (tyL Level.row) (tyL Level.row) tyB (z0c n)), (34, ent2 (tyL Term.row) (tyL Term.row) tyB (z0k n))]
  cd := tabD []
  nrm := tabN []
  cut := tabF []
  n := n
  out := outR Try.prog [.tmp 4] tyB
theorem z07_f (n : Nat) : (z07_m n).P = Try.prog ∧ (z07_m n).cl = tabA [(17, ent0  tyB (z15 n)), (28, ent1 (tyL Decl.row) tyB (z1l n)), (29, ent2 (tyC Term.cel) (tyI .i64) tyB (z1v n)), (30, ent2 (tyL Decl.row) (tyC Term.cel) (ty5 (tyC Decl.cel) (tyL Level.row) (tyL Term.row) (tyL Term.row) tyB) (z0j n)), (31, ent2 (tyL Decl.row) (tyC Term.cel) (ty5 (tyC Decl.cel) (tyL Level.row) (tyL Term.row) (tyL Term.row) tyB) (z0v n)), (32, ent2 (tyC Decl.cel) (tyC Decl.cel) tyB (z0l n)), (33, ent2 (tyL Level.row) (tyL Level.row) tyB (z0c n)), (34, ent2 (tyL Term.row) (tyL Term.row) tyB (z0k n))] ∧ (z07_m n).cd = tabD [] ∧ (z07_m n).nrm = tabN [] ∧ (z07_m n).cut = tabF [] ∧ (z07_m n).n = n ∧ (z07_m n).out = outR Try.prog [.tmp 4] tyB := ⟨rfl, rfl, rfl, rfl, rfl, rfl, rfl⟩
theorem z07_c (n : Nat) : (z07_m n).body = (Try.f7.body).getD .skip := rfl
noncomputable def z07_e (n : Nat) : { B : (List Decl) → Term → Option Bool // ∀ (a0 : (List Decl)) (a1 : Term), run (z07_m n) [.at []] { slots := [(tyL Decl.row).enc a0, (tyC Term.cel).enc a1] ++ List.replicate (68 - [(tyL Decl.row).enc a0, (tyC Term.cel).enc a1].length) .any, heap := [] } = B a0 a1 } := by
  apply Subtype.mk
  intro a0 a1
  simp (maxSteps := 100000000) only [go_sem, Nat.reduceAdd, Nat.reduceSub, Nat.reduceLeDiff, Nat.reduceEqDiff, Nat.reduceBEq, Nat.reduceMul, Nat.reduceLT, Int.reduceLE, Int.reduceLT, Int.reduceToNat, Int.reduceBEq, Int.reduceEq, z07_f, z07_c, Try.f7, Option.getD_some, mixed]
  exact rfl
noncomputable def z07 : Nat → (List Decl) → Term → Option Bool
  | 0, _, _ => none
  | n + 1, a0, a1 => (z07_e n).1 a0 a1
theorem z07_ok : ∀ (n : Nat) (a0 : (List Decl)) (a1 : Term) (r : Bool), z07 n a0 a1 = some r → FnC Try.prog 7 [(tyL Decl.row).enc a0, (tyC Term.cel).enc a1] (fun v => v = tyB.enc r)
  | 0, _, _, _, h => by cases h
  | n + 1, a0, a1, r, h => by
    exact fnC_run (M := z07_m n) ⟨(tabA_cons_ok (ent0_ok (z15_ok n)) (tabA_cons_ok (ent1_ok (z1l_ok n)) (tabA_cons_ok (ent2_ok (z1v_ok n)) (tabA_cons_ok (ent2_ok (z0j_ok n)) (tabA_cons_ok (ent2_ok (z0v_ok n)) (tabA_cons_ok (ent2_ok (z0l_ok n)) (tabA_cons_ok (ent2_ok (z0c_ok n)) (tabA_cons_ok (ent2_ok (z0k_ok n)) tabA_nil_ok)))))))), tabD_nil_ok, tabN_ok _, tabF_ok _, noY_ok, noE_ok⟩ Try.func7 rfl rfl ⟨(tyL Decl.row).nb 0 _, (tyC Term.cel).nb 0 _, trivial⟩ Try.ntmps7 Try.results7 (fun σ hs => outR_ok (P := Try.prog) (rs := [.tmp 4]) (t := tyB) (σ := σ) (r := r) hs) (((z07_e n).2 a0 a1).trans h)
end Go.Abs
