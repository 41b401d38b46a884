/- A part of the proof: what the functions compute. -/
import Derived.Test.YtocalpbkeegkbaaDataA
import Derived.Test.YtocalpbkeegkbaaWalkA
set_option linter.all false
open Nat renaming reduceAdd → q00, reduceSub → q01, reduceLeDiff → q02, reduceEqDiff → q03, reduceBEq → q04, reduceMul → q05, reduceLT → q06
open Int renaming reduceLE → q10, reduceLT → q11, reduceToNat → q12, reduceBEq → q13, reduceEq → q14
namespace Go.Abs
open Go.Proofs
set_option maxRecDepth 100000
set_option maxHeartbeats 4000000
set_option linter.unusedSimpArgs false
set_option linter.unusedVariables false
noncomputable def family_shape_recursive_n1 : Nrm := ⟨[(5, 3, true)], [], (zA :: zA :: zK :: zA :: zA :: zK :: zA4 (zA :: zA :: zT (tyL Term.row) :: zK :: zK :: zA16 (zA4 (zA4 (zA4 (zA :: zA :: [])))))), [oT Zs1.cel, oA Zs5.row], none, none⟩
@[reducible] noncomputable def family_shape_recursive_m (n : Nat) : Mach (List Zs5) := mkA Try.prog Try.f49 n (outR Try.prog [.tmp 4] (tyL Zs5.row)) (cl := tabA [(33, ent1 (tyC Term.cel) (ty2 (tyL Term.row) (tyC Term.cel)) (telescope_All n)), (48, ent3 (tyC Zs1.cel) (tyC Term.cel) (tyI .i64) (ty2 (tyL Term.row) tyB) (family_shape_result n))]) (nrm := tabN [([0, 1, 0, 1, 1, 0, 1], family_shape_recursive_n1)])
attribute [go_sem] family_shape_recursive_n1
noncomputable abbrev family_shape_recursive_s1 (v0 : List Term) (v1 : Int) (v2 : Int) (o0 : Zs1) (r1 : List Zs5) (c1 : Nat) : AState := ⟨(.any :: .any :: .ptr 0 0 :: .any :: .any :: .acc 1 c1 :: ay4 (.any :: .any :: .lst false 5 (mp Term.cells v0) :: .int .i64 v1 :: .int .i64 v2 :: ay16 (ay4 (ay4 (ay4 (.any :: .any :: [])))))), [.cells (Zs1.cells o0), .acc true 3 (mp Zs5.cells r1)], 0, []⟩
abbrev family_shape_recursive_t1 := (List Term) → Int → Int → Zs1 → (List Zs5) → Option (List Zs5)
abbrev family_shape_recursive_g1 (n : Nat) (K : List Kt) (Z : family_shape_recursive_t1) : Prop := ∀ (v0 : List Term) (v1 : Int) (v2 : Int) (o0 : Zs1) (r1 : List Zs5) (c1 : Nat), c1 = r1.length → run (family_shape_recursive_m n) K (family_shape_recursive_s1 v0 v1 v2 o0 r1 c1) = Z v0 v1 v2 o0 r1
attribute [go_sem] family_shape_recursive_s1
noncomputable def family_shape_recursive_b1 (n : Nat) : { B : family_shape_recursive_t1 → family_shape_recursive_t1 // ∀ m X0, family_shape_recursive_g1 n (.lq m [0, 1, 0, 1, 1, 0, 1] :: [.blk 0, .cut [1, 1, 1, 0, 1], .at [1, 1, 1, 0, 1]]) X0 → ∀ (v0 : List Term) (v1 : Int) (v2 : Int) (o0 : Zs1) (r1 : List Zs5), run (family_shape_recursive_m n) (.at [0, 0, 1, 0, 1, 1, 0, 1] :: .lp m [0, 1, 0, 1, 1, 0, 1] :: [.blk 0, .cut [1, 1, 1, 0, 1], .at [1, 1, 1, 0, 1]]) (family_shape_recursive_s1 v0 v1 v2 o0 r1 (r1.length)) = B X0 v0 v1 v2 o0 r1 } := by
  apply Subtype.mk
  intro m X0 ih v0 v1 v2 o0 r1
  simp (maxSteps := 100000000) only [go_sem, q00, q01, q02, q03, q04, q05, q06, q10, q11, q12, q13, q14, Try.f49, Option.getD_some, mixed, ih]
  exact rfl
noncomputable def family_shape_recursive_l1 (n : Nat) : Nat → family_shape_recursive_t1 := lpF ((family_shape_recursive_b1 n).1)
theorem family_shape_recursive_l1_s {n : Nat} {m : Nat} : family_shape_recursive_l1 n (m + 1) = (family_shape_recursive_b1 n).1 (family_shape_recursive_l1 n m) := rfl
theorem family_shape_recursive_l1_eq (n : Nat) (m : Nat) : family_shape_recursive_g1 n (.lq m [0, 1, 0, 1, 1, 0, 1] :: [.blk 0, .cut [1, 1, 1, 0, 1], .at [1, 1, 1, 0, 1]]) (family_shape_recursive_l1 n m) :=
  lpF_eq (G := fun m Z => family_shape_recursive_g1 n (.lq m [0, 1, 0, 1, 1, 0, 1] :: [.blk 0, .cut [1, 1, 1, 0, 1], .at [1, 1, 1, 0, 1]]) Z) (fun _ _ _ _ _ _ _ => run_lq_zero) (fun m _ ih => by
    intro v0 v1 v2 o0 r1 c1 ec1
    subst ec1
    rw [run_lq_succ]
    exact (family_shape_recursive_b1 n).2 _ _ ih v0 v1 v2 o0 r1) m
noncomputable def family_shape_recursive_e (n : Nat) : { B : Zs1 → (List Term) → Option (List Zs5) // ∀ (a0 : Zs1) (a1 : (List Term)), run (family_shape_recursive_m n) [.at []] (ini [(tyC Zs1.cel).enc a0, (tyL Term.row).enc a1] 45) = B a0 a1 } := by
  apply Subtype.mk
  intro a0 a1
  simp (maxSteps := 100000000) only [go_sem, q00, q01, q02, q03, q04, q05, q06, q10, q11, q12, q13, q14, Try.f49, Option.getD_some, mixed, family_shape_recursive_l1_eq n]
  exact rfl
noncomputable def family_shape_recursive := fu fun n => (family_shape_recursive_e n).1
theorem family_shape_recursive_ok : ∀ (n : Nat) (a0 : Zs1) (a1 : (List Term)) (r : (List Zs5)), family_shape_recursive n a0 a1 = some r → FnC Try.prog 49 [(tyC Zs1.cel).enc a0, (tyL Term.row).enc a1] (fun v => v = (tyL Zs5.row).enc r)
  | 0, _, _, _, h => by cases h
  | n + 1, a0, a1, r, h => by
    exact okC (((family_shape_recursive_e n).2 a0 a1).trans h) (gd (tabA_cons_ok (ent1_ok (telescope_All_ok n)) (tabA_cons_ok (ent3_ok (family_shape_result_ok n)) tabA_nil_ok)) tabD_nil_ok) Try.func49 ⟨(tyC Zs1.cel).nb 0 _, (tyL Term.row).nb 0 _, trivial⟩ Try.ntmps49 Try.results49

noncomputable def ref12_Analyse_n1 : Nrm := ⟨[], [(3, 9, 4)], (zA :: zK :: zK :: zA :: zA :: zA :: zK :: zK :: zA64 (zA4 (zA :: []))), [oT Decl.cel, oK, oD, oC [zK, zK, zT (tyL Term.row), zT (tyL Term.row), zK, zK, zK, zT (tyL Level.row), zT (tyL Term.row), zK], oA Zs4.row], none, none⟩
@[reducible] noncomputable def ref12_Analyse_m (n : Nat) : Mach (Family × Int) := mkA Try.prog Try.f7 n (outR Try.prog [.cell 2 39, .tmp 3] (ty2 (tyC Family.cel) (tyI .i64))) (cl := tabA [(21, ent1 (tyC Term.cel) (ty2 (tyL Term.row) (tyC Term.cel)) (ref05_All n)), (22, ent1 (tyC Term.cel) tyB (ref12_sort n))]) (cd := tabD [(23, entD (ent2 (tyC Family.cel) (tyC Ctor.cel) (ty2 (tyC Zs4.cel) tyB) (ref12_ctor n)))]) (nrm := tabN [([0, 1, 0, 1, 1, 1, 1, 1], ref12_Analyse_n1)]) (isC := tabI []) (isE := tabI [])
theorem ref12_Analyse_d (n : Nat) : drawP (ref12_Analyse_m n) [0, 0, 0, 1, 0, 0, 1, 0, 1, 1, 1, 1, 1] = true ∧ drawP (ref12_Analyse_m n) [0, 1, 1, 1, 1] = true := ⟨by kernel_rfl, by kernel_rfl⟩
theorem ref12_Analyse_o (n : Nat) : ordP (ref12_Analyse_m n) [0, 0, 0, 1, 0, 0, 1, 0, 1, 1, 1, 1, 1] 0 11 = true ∧ ordP (ref12_Analyse_m n) [0, 0, 0, 1, 0, 0, 1, 0, 1, 1, 1, 1, 1] 2 11 = true ∧ ordP (ref12_Analyse_m n) [0, 0, 0, 1, 0, 0, 1, 0, 1, 1, 1, 1, 1] 4 11 = true ∧ ordP (ref12_Analyse_m n) [0, 0, 0, 1, 0, 0, 1, 0, 1, 1, 1, 1, 1] 5 11 = true ∧ ordP (ref12_Analyse_m n) [0, 0, 0, 1, 0, 0, 1, 0, 1, 1, 1, 1, 1] 10 11 = true ∧ ordP (ref12_Analyse_m n) [0, 1, 1, 1, 1] 1 15 = true ∧ ordP (ref12_Analyse_m n) [0, 1, 1, 1, 1] 3 15 = true ∧ ordP (ref12_Analyse_m n) [0, 1, 1, 1, 1] 6 15 = true ∧ ordP (ref12_Analyse_m n) [0, 1, 1, 1, 1] 7 15 = true ∧ ordP (ref12_Analyse_m n) [0, 1, 1, 1, 1] 10 15 = true ∧ ordP (ref12_Analyse_m n) [0, 1, 1, 1, 1] 11 15 = true ∧ ordP (ref12_Analyse_m n) [0, 1, 1, 1, 1] 12 15 = true ∧ ordP (ref12_Analyse_m n) [0, 1, 1, 1, 1] 14 15 = true := ⟨by kernel_rfl, by kernel_rfl, by kernel_rfl, by kernel_rfl, by kernel_rfl, by kernel_rfl, by kernel_rfl, by kernel_rfl, by kernel_rfl, by kernel_rfl, by kernel_rfl, by kernel_rfl, by kernel_rfl⟩
attribute [go_sem] ref12_Analyse_d ref12_Analyse_o ref12_Analyse_n1
noncomputable abbrev ref12_Analyse_s1 (v0 : Int) (o0 : Decl) (v2 : Str) (v3 : Int) (v4 : List Term) (v5 : List Term) (v6 : Int) (v7 : Int) (v8 : Str) (v9 : List Level) (v10 : List Term) (r4 : List Zs4) (c4 : Nat) : AState := ⟨(.any :: .ptr 0 0 :: .ptr 1 0 :: .any :: .any :: .any :: .ptr 3 0 :: .int .i64 v0 :: ay64 (ay4 (.any :: []))), [.cells (Decl.cells o0), .cells [.str (sb []), .int .i64 0, .lst true 0 [], .lst true 0 [], .int .i64 0, .int .i64 0, .str (sb []), .lst true 0 [], .lst true 0 [], .lst true 0 []], .dead, .cells [.str (sb v2), .int .i64 v3, .lst false 5 (mp Term.cells v4), .lst false 5 (mp Term.cells v5), .int .i64 v6, .int .i64 v7, .str (sb v8), .lst false 2 (mp Level.cells v9), .lst false 5 (mp Term.cells v10), .acc 4 c4], .acc true 4 (mp Zs4.cells r4)], 0, []⟩
abbrev ref12_Analyse_t1 := Int → Decl → Str → Int → (List Term) → (List Term) → Int → Int → Str → (List Level) → (List Term) → (List Zs4) → Option (Family × Int)
abbrev ref12_Analyse_g1 (n : Nat) (K : List Kt) (Z : ref12_Analyse_t1) : Prop := ∀ (v0 : Int) (o0 : Decl) (v2 : Str) (v3 : Int) (v4 : List Term) (v5 : List Term) (v6 : Int) (v7 : Int) (v8 : Str) (v9 : List Level) (v10 : List Term) (r4 : List Zs4) (c4 : Nat), c4 = r4.length → run (ref12_Analyse_m n) K (ref12_Analyse_s1 v0 o0 v2 v3 v4 v5 v6 v7 v8 v9 v10 r4 c4) = Z v0 o0 v2 v3 v4 v5 v6 v7 v8 v9 v10 r4
attribute [go_sem] ref12_Analyse_s1
noncomputable def ref12_Analyse_b1 (n : Nat) : { B : ref12_Analyse_t1 → ref12_Analyse_t1 // ∀ m X0, ref12_Analyse_g1 n (.lq m [0, 1, 0, 1, 1, 1, 1, 1] :: [.blk 0, .cut [1, 1, 1, 1, 1, 1], .at [1, 1, 1, 1, 1, 1]]) X0 → ∀ (v0 : Int) (o0 : Decl) (v2 : Str) (v3 : Int) (v4 : List Term) (v5 : List Term) (v6 : Int) (v7 : Int) (v8 : Str) (v9 : List Level) (v10 : List Term) (r4 : List Zs4), run (ref12_Analyse_m n) (.at [0, 0, 1, 0, 1, 1, 1, 1, 1] :: .lp m [0, 1, 0, 1, 1, 1, 1, 1] :: [.blk 0, .cut [1, 1, 1, 1, 1, 1], .at [1, 1, 1, 1, 1, 1]]) (ref12_Analyse_s1 v0 o0 v2 v3 v4 v5 v6 v7 v8 v9 v10 r4 (r4.length)) = B X0 v0 o0 v2 v3 v4 v5 v6 v7 v8 v9 v10 r4 } := by
  apply Subtype.mk
  intro m X0 ih v0 o0 v2 v3 v4 v5 v6 v7 v8 v9 v10 r4
  simp (maxSteps := 100000000) only [go_sem, q00, q01, q02, q03, q04, q05, q06, q10, q11, q12, q13, q14, Try.f7, Option.getD_some, mixed, ih]
  exact rfl
noncomputable def ref12_Analyse_l1 (n : Nat) : Nat → ref12_Analyse_t1 := lpF ((ref12_Analyse_b1 n).1)
theorem ref12_Analyse_l1_s {n : Nat} {m : Nat} : ref12_Analyse_l1 n (m + 1) = (ref12_Analyse_b1 n).1 (ref12_Analyse_l1 n m) := rfl
theorem ref12_Analyse_l1_eq (n : Nat) (m : Nat) : ref12_Analyse_g1 n (.lq m [0, 1, 0, 1, 1, 1, 1, 1] :: [.blk 0, .cut [1, 1, 1, 1, 1, 1], .at [1, 1, 1, 1, 1, 1]]) (ref12_Analyse_l1 n m) :=
  lpF_eq (G := fun m Z => ref12_Analyse_g1 n (.lq m [0, 1, 0, 1, 1, 1, 1, 1] :: [.blk 0, .cut [1, 1, 1, 1, 1, 1], .at [1, 1, 1, 1, 1, 1]]) Z) (fun _ _ _ _ _ _ _ _ _ _ _ _ _ _ => run_lq_zero) (fun m _ ih => by
    intro v0 o0 v2 v3 v4 v5 v6 v7 v8 v9 v10 r4 c4 ec4
    subst ec4
    rw [run_lq_succ]
    exact (ref12_Analyse_b1 n).2 _ _ ih v0 o0 v2 v3 v4 v5 v6 v7 v8 v9 v10 r4) m
noncomputable def ref12_Analyse_e (n : Nat) : { B : Decl → Option (Family × Int) // ∀ (a0 : Decl), run (ref12_Analyse_m n) [.at []] (ini [(tyC Decl.cel).enc a0] 77) = B a0 } := by
  apply Subtype.mk
  intro a0
  simp (maxSteps := 100000000) only [go_sem, q00, q01, q02, q03, q04, q05, q06, q10, q11, q12, q13, q14, Try.f7, Option.getD_some, mixed, ref12_Analyse_l1_eq n]
  exact rfl
noncomputable def ref12_Analyse := fu fun n => (ref12_Analyse_e n).1
theorem ref12_Analyse_ok : ∀ (n : Nat) (a0 : Decl) (r : (Family × Int)), ref12_Analyse n a0 = some r → FnC Try.prog 7 [(tyC Decl.cel).enc a0] (fun v => v = (ty2 (tyC Family.cel) (tyI .i64)).enc r)
  | 0, _, _, h => by cases h
  | n + 1, a0, r, h => by
    exact okC (((ref12_Analyse_e n).2 a0).trans h) (gd (tabA_cons_ok (ent1_ok (ref05_All_ok n)) (tabA_cons_ok (ent1_ok (ref12_sort_ok n)) tabA_nil_ok)) (tabD_cons_ok (ent2_okD (ref12_ctor_ok n)) tabD_nil_ok)) Try.func7 ⟨(tyC Decl.cel).nb 0 _, trivial⟩ Try.ntmps7 Try.results7
end Go.Abs
namespace Go.Abs
open Go.Proofs
set_option maxRecDepth 100000
set_option maxHeartbeats 4000000
set_option linter.unusedSimpArgs false
set_option linter.unusedVariables false
@[reducible] noncomputable def family_shape_ctor_m (n : Nat) : Mach (Zs4 × Bool) := mkA Try.prog Try.f35 n (outR Try.prog [.cell 4 56, .tmp 5] (ty2 (tyC Zs4.cel) tyB)) (cl := tabA [(33, ent1 (tyC Term.cel) (ty2 (tyL Term.row) (tyC Term.cel)) (telescope_All n)), (48, ent3 (tyC Zs1.cel) (tyC Term.cel) (tyI .i64) (ty2 (tyL Term.row) tyB) (family_shape_result n))]) (cd := tabD [(46, entD (ent3 (tyL Term.row) (tyL Term.row) (tyF 47) tyB (family_alike_Term_term_Same n))), (49, entD (ent2 (tyC Zs1.cel) (tyL Term.row) (tyL Zs5.row) (family_shape_recursive n)))]) (isC := tabI []) (isE := tabI [])
theorem family_shape_ctor_d (n : Nat) : drawP (family_shape_ctor_m n) [0, 0, 1, 1, 1] = true ∧ drawP (family_shape_ctor_m n) [0, 1, 1, 1, 1, 1, 1, 1] = true := ⟨by kernel_rfl, by kernel_rfl⟩
theorem family_shape_ctor_o (n : Nat) : ordP (family_shape_ctor_m n) [0, 1, 1, 1, 1, 1, 1, 1] 1 8 = true ∧ ordP (family_shape_ctor_m n) [0, 1, 1, 1, 1, 1, 1, 1] 3 8 = true := ⟨by kernel_rfl, by kernel_rfl⟩
attribute [go_sem] family_shape_ctor_d family_shape_ctor_o
noncomputable def family_shape_ctor_e (n : Nat) : { B : Zs1 → Ctor → Option (Zs4 × Bool) // ∀ (a0 : Zs1) (a1 : Ctor), run (family_shape_ctor_m n) [.at []] (ini [(tyC Zs1.cel).enc a0, (tyC Ctor.cel).enc a1] 57) = B a0 a1 } := by
  apply Subtype.mk
  intro a0 a1
  simp (maxSteps := 100000000) only [go_sem, q00, q01, q02, q03, q04, q05, q06, q10, q11, q12, q13, q14, Try.f35, Option.getD_some, mixed]
  exact rfl
noncomputable def family_shape_ctor := fu fun n => (family_shape_ctor_e n).1
theorem family_shape_ctor_ok : ∀ (n : Nat) (a0 : Zs1) (a1 : Ctor) (r : (Zs4 × Bool)), family_shape_ctor n a0 a1 = some r → FnC Try.prog 35 [(tyC Zs1.cel).enc a0, (tyC Ctor.cel).enc a1] (fun v => v = (ty2 (tyC Zs4.cel) tyB).enc r)
  | 0, _, _, _, h => by cases h
  | n + 1, a0, a1, r, h => by
    exact okC (((family_shape_ctor_e n).2 a0 a1).trans h) (gd (tabA_cons_ok (ent1_ok (telescope_All_ok n)) (tabA_cons_ok (ent3_ok (family_shape_result_ok n)) tabA_nil_ok)) (tabD_cons_ok (ent3_okD (family_alike_Term_term_Same_ok n)) (tabD_cons_ok (ent2_okD (family_shape_recursive_ok n)) tabD_nil_ok))) Try.func35 ⟨(tyC Zs1.cel).nb 0 _, (tyC Ctor.cel).nb 0 _, trivial⟩ Try.ntmps35 Try.results35
end Go.Abs
namespace Go.Abs
open Go.Proofs
set_option maxRecDepth 100000
set_option maxHeartbeats 4000000
set_option linter.unusedSimpArgs false
set_option linter.unusedVariables false
noncomputable def family_Analyse_n1 : Nrm := ⟨[], [(3, 9, 4)], (zA :: zA :: zK :: zA :: zA :: zA :: zK :: zK :: zA16 (zA16 (zA16 (zA4 (zA4 (zA4 (zA :: zT (tyL Ctor.row) :: zK :: zK :: zA16 (zA4 [])))))))), [oD, oK, oD, oC [zK, zK, zT (tyL Term.row), zT (tyL Term.row), zK, zK, zK, zT (tyL Level.row), zT (tyL Term.row), zK], oT Zs1.cel, oA Zs4.row], none, none⟩
@[reducible] noncomputable def family_Analyse_m (n : Nat) : Mach (Family × Int) := mkA Try.prog Try.f17 n (outR Try.prog [.cell 2 39, .tmp 3] (ty2 (tyC Family.cel) (tyI .i64))) (cl := tabA [(33, ent1 (tyC Term.cel) (ty2 (tyL Term.row) (tyC Term.cel)) (telescope_All n)), (35, ent2 (tyC Zs1.cel) (tyC Ctor.cel) (ty2 (tyC Zs4.cel) tyB) (family_shape_ctor n))]) (cd := tabD [(34, entD (ent2 tyS (tyI .i64) (tyC Term.cel) (family_itself n)))]) (nrm := tabN [([0, 1, 0, 1, 1, 1, 1, 1, 1], family_Analyse_n1)]) (isC := tabI []) (isE := tabI [])
theorem family_Analyse_d (n : Nat) : drawP (family_Analyse_m n) [0, 1, 1, 1, 1] = true ∧ drawP (family_Analyse_m n) [0, 1, 1, 1, 1, 1] = true := ⟨by kernel_rfl, by kernel_rfl⟩
theorem family_Analyse_o (n : Nat) : ordP (family_Analyse_m n) [0, 1, 1, 1, 1] 1 15 = true ∧ ordP (family_Analyse_m n) [0, 1, 1, 1, 1] 3 15 = true ∧ ordP (family_Analyse_m n) [0, 1, 1, 1, 1] 6 15 = true ∧ ordP (family_Analyse_m n) [0, 1, 1, 1, 1] 7 15 = true ∧ ordP (family_Analyse_m n) [0, 1, 1, 1, 1] 10 15 = true ∧ ordP (family_Analyse_m n) [0, 1, 1, 1, 1] 11 15 = true ∧ ordP (family_Analyse_m n) [0, 1, 1, 1, 1] 12 15 = true ∧ ordP (family_Analyse_m n) [0, 1, 1, 1, 1] 14 15 = true ∧ ordP (family_Analyse_m n) [0, 1, 1, 1, 1, 1] 1 12 = true ∧ ordP (family_Analyse_m n) [0, 1, 1, 1, 1, 1] 3 12 = true ∧ ordP (family_Analyse_m n) [0, 1, 1, 1, 1, 1] 6 12 = true ∧ ordP (family_Analyse_m n) [0, 1, 1, 1, 1, 1] 8 12 = true ∧ ordP (family_Analyse_m n) [0, 1, 1, 1, 1, 1] 9 12 = true ∧ ordP (family_Analyse_m n) [0, 1, 1, 1, 1, 1] 11 12 = true := ⟨by kernel_rfl, by kernel_rfl, by kernel_rfl, by kernel_rfl, by kernel_rfl, by kernel_rfl, by kernel_rfl, by kernel_rfl, by kernel_rfl, by kernel_rfl, by kernel_rfl, by kernel_rfl, by kernel_rfl, by kernel_rfl⟩
attribute [go_sem] family_Analyse_d family_Analyse_o family_Analyse_n1
noncomputable abbrev family_Analyse_s1 (v0 : List Ctor) (v1 : Int) (v2 : Int) (v3 : Str) (v4 : Int) (v5 : List Term) (v6 : List Term) (v7 : Int) (v8 : Int) (v9 : Str) (v10 : List Level) (v11 : List Term) (o4 : Zs1) (r5 : List Zs4) (c5 : Nat) : AState := ⟨(.any :: .any :: .ptr 1 0 :: .any :: .any :: .any :: .ptr 3 0 :: .ptr 4 0 :: ay16 (ay16 (ay16 (ay4 (ay4 (ay4 (.any :: .lst false 6 (mp Ctor.cells v0) :: .int .i64 v1 :: .int .i64 v2 :: ay16 (ay4 [])))))))), [.dead, .cells [.str (sb []), .int .i64 0, .lst true 0 [], .lst true 0 [], .int .i64 0, .int .i64 0, .str (sb []), .lst true 0 [], .lst true 0 [], .lst true 0 []], .dead, .cells [.str (sb v3), .int .i64 v4, .lst false 5 (mp Term.cells v5), .lst false 5 (mp Term.cells v6), .int .i64 v7, .int .i64 v8, .str (sb v9), .lst false 2 (mp Level.cells v10), .lst false 5 (mp Term.cells v11), .acc 5 c5], .cells (Zs1.cells o4), .acc true 4 (mp Zs4.cells r5)], 0, []⟩
abbrev family_Analyse_c1 : List Kt := [.blk 0, .cut [1, 1, 1, 1, 1, 1, 1], .at [1, 1, 1, 1, 1, 1, 1]]
abbrev family_Analyse_t1 := (List Ctor) → Int → Int → Str → Int → (List Term) → (List Term) → Int → Int → Str → (List Level) → (List Term) → Zs1 → (List Zs4) → Option (Family × Int)
abbrev family_Analyse_g1 (n : Nat) (K : List Kt) (Z : family_Analyse_t1) : Prop := ∀ (v0 : List Ctor) (v1 : Int) (v2 : Int) (v3 : Str) (v4 : Int) (v5 : List Term) (v6 : List Term) (v7 : Int) (v8 : Int) (v9 : Str) (v10 : List Level) (v11 : List Term) (o4 : Zs1) (r5 : List Zs4) (c5 : Nat), c5 = r5.length → run (family_Analyse_m n) K (family_Analyse_s1 v0 v1 v2 v3 v4 v5 v6 v7 v8 v9 v10 v11 o4 r5 c5) = Z v0 v1 v2 v3 v4 v5 v6 v7 v8 v9 v10 v11 o4 r5
attribute [go_sem] family_Analyse_s1 family_Analyse_c1
noncomputable def family_Analyse_b1 (n : Nat) : { B : family_Analyse_t1 → family_Analyse_t1 // ∀ m X0, family_Analyse_g1 n (.lq m [0, 1, 0, 1, 1, 1, 1, 1, 1] :: family_Analyse_c1) X0 → ∀ (v0 : List Ctor) (v1 : Int) (v2 : Int) (v3 : Str) (v4 : Int) (v5 : List Term) (v6 : List Term) (v7 : Int) (v8 : Int) (v9 : Str) (v10 : List Level) (v11 : List Term) (o4 : Zs1) (r5 : List Zs4), run (family_Analyse_m n) (.at [0, 0, 1, 0, 1, 1, 1, 1, 1, 1] :: .lp m [0, 1, 0, 1, 1, 1, 1, 1, 1] :: family_Analyse_c1) (family_Analyse_s1 v0 v1 v2 v3 v4 v5 v6 v7 v8 v9 v10 v11 o4 r5 (r5.length)) = B X0 v0 v1 v2 v3 v4 v5 v6 v7 v8 v9 v10 v11 o4 r5 } := by
  apply Subtype.mk
  intro m X0 ih v0 v1 v2 v3 v4 v5 v6 v7 v8 v9 v10 v11 o4 r5
  simp (maxSteps := 100000000) only [go_sem, q00, q01, q02, q03, q04, q05, q06, q10, q11, q12, q13, q14, Try.f17, Option.getD_some, mixed, ih]
  exact rfl
noncomputable def family_Analyse_l1 (n : Nat) : Nat → family_Analyse_t1 := lpF ((family_Analyse_b1 n).1)
theorem family_Analyse_l1_s {n : Nat} {m : Nat} : family_Analyse_l1 n (m + 1) = (family_Analyse_b1 n).1 (family_Analyse_l1 n m) := rfl
theorem family_Analyse_l1_eq (n : Nat) (m : Nat) : family_Analyse_g1 n (.lq m [0, 1, 0, 1, 1, 1, 1, 1, 1] :: family_Analyse_c1) (family_Analyse_l1 n m) :=
  lpF_eq (G := fun m Z => family_Analyse_g1 n (.lq m [0, 1, 0, 1, 1, 1, 1, 1, 1] :: family_Analyse_c1) Z) (fun _ _ _ _ _ _ _ _ _ _ _ _ _ _ _ _ => run_lq_zero) (fun m _ ih => by
    intro v0 v1 v2 v3 v4 v5 v6 v7 v8 v9 v10 v11 o4 r5 c5 ec5
    subst ec5
    rw [run_lq_succ]
    exact (family_Analyse_b1 n).2 _ _ ih v0 v1 v2 v3 v4 v5 v6 v7 v8 v9 v10 v11 o4 r5) m
noncomputable def family_Analyse_e (n : Nat) : { B : Decl → Option (Family × Int) // ∀ (a0 : Decl), run (family_Analyse_m n) [.at []] (ini [(tyC Decl.cel).enc a0] 92) = B a0 } := by
  apply Subtype.mk
  intro a0
  simp (maxSteps := 100000000) only [go_sem, q00, q01, q02, q03, q04, q05, q06, q10, q11, q12, q13, q14, Try.f17, Option.getD_some, mixed, family_Analyse_l1_eq n]
  exact rfl
noncomputable def family_Analyse := fu fun n => (family_Analyse_e n).1
theorem family_Analyse_ok : ∀ (n : Nat) (a0 : Decl) (r : (Family × Int)), family_Analyse n a0 = some r → FnC Try.prog 17 [(tyC Decl.cel).enc a0] (fun v => v = (ty2 (tyC Family.cel) (tyI .i64)).enc r)
  | 0, _, _, h => by cases h
  | n + 1, a0, r, h => by
    exact okC (((family_Analyse_e n).2 a0).trans h) (gd (tabA_cons_ok (ent1_ok (telescope_All_ok n)) (tabA_cons_ok (ent2_ok (family_shape_ctor_ok n)) tabA_nil_ok)) (tabD_cons_ok (ent2_okD (family_itself_ok n)) tabD_nil_ok)) Try.func17 ⟨(tyC Decl.cel).nb 0 _, trivial⟩ Try.ntmps17 Try.results17
end Go.Abs
namespace Go.Abs
open Go.Proofs
set_option maxRecDepth 100000
set_option maxHeartbeats 4000000
set_option linter.unusedSimpArgs false
set_option linter.unusedVariables false
noncomputable def positivity_Check_n1 : Nrm := ⟨[], [], (zA4 (zA :: zK :: zA :: zK :: zK :: zK :: zK :: zA4 (zA4 (zA4 (zT (tyL Zs4.row) :: zK :: zK :: zA4 (zA :: zT (tyL Term.row) :: zK :: zK :: zA16 (zA16 (zA4 (zA4 (zA :: [])))))))))), [oD, oT Family.cel, oT Zs4.cel], none, none⟩
noncomputable def positivity_Check_n2 : Nrm := ⟨[], [], (zA4 (zA :: zK :: zA :: zK :: zK :: zA4 (zA4 (zA4 (zA :: zA :: zT (tyL Zs4.row) :: zK :: zK :: zA16 (zA16 (zA16 (zA :: [])))))))), [oD, oT Family.cel], none, none⟩
@[reducible] noncomputable def positivity_Check_m (n : Nat) : Mach (Int × Int × Int) := mkA Try.prog Try.f6 n (outR Try.prog [.tmp 2, .tmp 3, .tmp 4] (ty3 (tyI .i64) (tyI .i64) (tyI .i64))) (cl := tabA [(16, ent2 (tyC Term.cel) tyS tyB (positivity_Positive n)), (17, ent1 (tyC Decl.cel) (ty2 (tyC Family.cel) (tyI .i64)) (family_Analyse n)), (18, slices_ContainsFunc_RecField_positivity_Check_1_t (slices_ContainsFunc_RecField_positivity_Check_1 n)), (20, ent2 tyS (tyL Term.row) tyB (positivity_occurs n))]) (nrm := tabN [([0, 1, 0, 1, 0, 0, 1, 1, 0, 0, 1, 0, 1, 1, 1, 1, 0, 1], positivity_Check_n1), ([0, 1, 0, 1, 1, 1, 1, 0, 1], positivity_Check_n2)]) (cut := tabF [([1, 1, 0, 0, 1, 1, 0, 0, 1, 0, 1, 0, 0, 1, 1, 0, 0, 1, 0, 1, 1, 1, 1, 0, 1], [3])]) (isC := tabI []) (isE := tabI [])
theorem positivity_Check_d (n : Nat) : drawP (positivity_Check_m n) [0, 0, 1, 1, 1, 0, 0, 1, 1, 0, 0, 1, 0, 1, 0, 0, 1, 1, 0, 0, 1, 0, 1, 1, 1, 1, 0, 1] = true ∧ drawP (positivity_Check_m n) [0, 0, 1, 1, 1, 0, 0, 1, 1, 0, 0, 1, 0, 1, 1, 1, 1, 0, 1] = true := ⟨by kernel_rfl, by kernel_rfl⟩
attribute [go_sem] positivity_Check_d positivity_Check_n1 positivity_Check_n2
noncomputable abbrev positivity_Check_s1 (v0 : Int) (v1 : Int) (v2 : Int) (v3 : List Zs4) (v4 : Int) (v5 : Int) (v6 : List Term) (v7 : Int) (v8 : Int) (o1 : Family) (o2 : Zs4) : AState := ⟨(ay4 (.any :: .ptr 1 0 :: .any :: .int .i64 v0 :: .int .i64 v1 :: .int .i64 v2 :: .ptr 2 0 :: ay4 (ay4 (ay4 (.lst false 4 (mp Zs4.cells v3) :: .int .i64 v4 :: .int .i64 v5 :: ay4 (.any :: .lst false 5 (mp Term.cells v6) :: .int .i64 v7 :: .int .i64 v8 :: ay16 (ay16 (ay4 (ay4 (.any :: [])))))))))), [.dead, .cells (Family.cells o1), .cells (Zs4.cells o2)], 0, []⟩
abbrev positivity_Check_c1 (m2 : Nat) : List Kt := [.blk 2, .cut [1, 1, 0, 0, 1, 1, 0, 0, 1, 0, 1, 1, 1, 1, 0, 1], .at [1, 1, 0, 0, 1, 1, 0, 0, 1, 0, 1, 1, 1, 1, 0, 1], .blk 1, .cut [1, 1, 1, 0, 0, 1, 0, 1, 1, 1, 1, 0, 1], .at [1, 1, 1, 0, 0, 1, 0, 1, 1, 1, 1, 0, 1], .lp m2 [0, 1, 0, 1, 1, 1, 1, 0, 1], .blk 0, .cut [1, 1, 1, 1, 1, 0, 1], .at [1, 1, 1, 1, 1, 0, 1]]
abbrev positivity_Check_t1 := Int → Int → Int → (List Zs4) → Int → Int → (List Term) → Int → Int → Family → Zs4 → Option (Int × Int × Int)
abbrev positivity_Check_g1 (n : Nat) (K : List Kt) (Z : positivity_Check_t1) : Prop := ∀ (v0 : Int) (v1 : Int) (v2 : Int) (v3 : List Zs4) (v4 : Int) (v5 : Int) (v6 : List Term) (v7 : Int) (v8 : Int) (o1 : Family) (o2 : Zs4), run (positivity_Check_m n) K (positivity_Check_s1 v0 v1 v2 v3 v4 v5 v6 v7 v8 o1 o2) = Z v0 v1 v2 v3 v4 v5 v6 v7 v8 o1 o2
noncomputable abbrev positivity_Check_s2 (v0 : Int) (v1 : Int) (v2 : List Zs4) (v3 : Int) (v4 : Int) (o1 : Family) : AState := ⟨(ay4 (.any :: .ptr 1 0 :: .any :: .int .i64 v0 :: .int .i64 v1 :: ay4 (ay4 (ay4 (.any :: .any :: .lst false 4 (mp Zs4.cells v2) :: .int .i64 v3 :: .int .i64 v4 :: ay16 (ay16 (ay16 (.any :: [])))))))), [.dead, .cells (Family.cells o1)], 0, []⟩
abbrev positivity_Check_c2 : List Kt := [.blk 0, .cut [1, 1, 1, 1, 1, 0, 1], .at [1, 1, 1, 1, 1, 0, 1]]
abbrev positivity_Check_t2 := Int → Int → (List Zs4) → Int → Int → Family → Option (Int × Int × Int)
abbrev positivity_Check_g2 (n : Nat) (K : List Kt) (Z : positivity_Check_t2) : Prop := ∀ (v0 : Int) (v1 : Int) (v2 : List Zs4) (v3 : Int) (v4 : Int) (o1 : Family), run (positivity_Check_m n) K (positivity_Check_s2 v0 v1 v2 v3 v4 o1) = Z v0 v1 v2 v3 v4 o1
attribute [go_sem] positivity_Check_s1 positivity_Check_c1 positivity_Check_s2 positivity_Check_c2
noncomputable def positivity_Check_b1 (n : Nat) : { B : positivity_Check_t2 → positivity_Check_t1 → positivity_Check_t1 // ∀ m2 X2 m X0, positivity_Check_g2 n (.lq m2 [0, 1, 0, 1, 1, 1, 1, 0, 1] :: positivity_Check_c2) X2 → positivity_Check_g1 n (.lq m [0, 1, 0, 1, 0, 0, 1, 1, 0, 0, 1, 0, 1, 1, 1, 1, 0, 1] :: positivity_Check_c1 m2) X0 → positivity_Check_g1 n (.at [0, 0, 1, 0, 1, 0, 0, 1, 1, 0, 0, 1, 0, 1, 1, 1, 1, 0, 1] :: .lp m [0, 1, 0, 1, 0, 0, 1, 1, 0, 0, 1, 0, 1, 1, 1, 1, 0, 1] :: positivity_Check_c1 m2) (B X2 X0) } := by
  apply Subtype.mk
  intro m2 X2 m X0 h2 ih v0 v1 v2 v3 v4 v5 v6 v7 v8 o1 o2
  simp (maxSteps := 100000000) only [go_sem, q00, q01, q02, q03, q04, q05, q06, q10, q11, q12, q13, q14, Try.f6, Option.getD_some, mixed, h2, ih]
  exact rfl
noncomputable def positivity_Check_l1 (n : Nat) (X2 : positivity_Check_t2) : Nat → positivity_Check_t1 := lpF ((positivity_Check_b1 n).1 X2)
theorem positivity_Check_l1_s {n : Nat} (X2 : positivity_Check_t2) {m : Nat} : positivity_Check_l1 n X2 (m + 1) = (positivity_Check_b1 n).1 X2 (positivity_Check_l1 n X2 m) := rfl
theorem positivity_Check_l1_eq (n : Nat) {m2 : Nat} {X2} (h2 : positivity_Check_g2 n (.lq m2 [0, 1, 0, 1, 1, 1, 1, 0, 1] :: positivity_Check_c2) X2) (m : Nat) : positivity_Check_g1 n (.lq m [0, 1, 0, 1, 0, 0, 1, 1, 0, 0, 1, 0, 1, 1, 1, 1, 0, 1] :: positivity_Check_c1 m2) (positivity_Check_l1 n X2 m) :=
  lpF_eq (G := fun m Z => positivity_Check_g1 n (.lq m [0, 1, 0, 1, 0, 0, 1, 1, 0, 0, 1, 0, 1, 1, 1, 1, 0, 1] :: positivity_Check_c1 m2) Z) (fun _ _ _ _ _ _ _ _ _ _ _ => run_lq_zero) (fun m _ ih v0 v1 v2 v3 v4 v5 v6 v7 v8 o1 o2 => run_lq_succ.trans ((positivity_Check_b1 n).2 _ _ _ _ h2 ih v0 v1 v2 v3 v4 v5 v6 v7 v8 o1 o2)) m
noncomputable def positivity_Check_b2 (n : Nat) : { B : positivity_Check_t2 → positivity_Check_t2 // ∀ m X0, positivity_Check_g2 n (.lq m [0, 1, 0, 1, 1, 1, 1, 0, 1] :: positivity_Check_c2) X0 → positivity_Check_g2 n (.at [0, 0, 1, 0, 1, 1, 1, 1, 0, 1] :: .lp m [0, 1, 0, 1, 1, 1, 1, 0, 1] :: positivity_Check_c2) (B X0) } := by
  apply Subtype.mk
  intro m X0 ih v0 v1 v2 v3 v4 o1
  simp (maxSteps := 100000000) only [go_sem, q00, q01, q02, q03, q04, q05, q06, q10, q11, q12, q13, q14, Try.f6, Option.getD_some, mixed, positivity_Check_l1_eq n ih, ih]
  exact rfl
noncomputable def positivity_Check_l2 (n : Nat) : Nat → positivity_Check_t2 := lpF ((positivity_Check_b2 n).1)
theorem positivity_Check_l2_s {n : Nat} {m : Nat} : positivity_Check_l2 n (m + 1) = (positivity_Check_b2 n).1 (positivity_Check_l2 n m) := rfl
theorem positivity_Check_l2_eq (n : Nat) (m : Nat) : positivity_Check_g2 n (.lq m [0, 1, 0, 1, 1, 1, 1, 0, 1] :: positivity_Check_c2) (positivity_Check_l2 n m) :=
  lpF_eq (G := fun m Z => positivity_Check_g2 n (.lq m [0, 1, 0, 1, 1, 1, 1, 0, 1] :: positivity_Check_c2) Z) (fun _ _ _ _ _ _ => run_lq_zero) (fun m _ ih v0 v1 v2 v3 v4 o1 => run_lq_succ.trans ((positivity_Check_b2 n).2 _ _ ih v0 v1 v2 v3 v4 o1)) m
noncomputable def positivity_Check_e (n : Nat) : { B : Decl → Option (Int × Int × Int) // ∀ (a0 : Decl), run (positivity_Check_m n) [.at []] (ini [(tyC Decl.cel).enc a0] 75) = B a0 } := by
  apply Subtype.mk
  intro a0
  simp (maxSteps := 100000000) only [go_sem, q00, q01, q02, q03, q04, q05, q06, q10, q11, q12, q13, q14, Try.f6, Option.getD_some, mixed, positivity_Check_l2_eq n]
  exact rfl
noncomputable def positivity_Check := fu fun n => (positivity_Check_e n).1
theorem positivity_Check_ok : ∀ (n : Nat) (a0 : Decl) (r : (Int × Int × Int)), positivity_Check n a0 = some r → FnC Try.prog 6 [(tyC Decl.cel).enc a0] (fun v => v = (ty3 (tyI .i64) (tyI .i64) (tyI .i64)).enc r)
  | 0, _, _, h => by cases h
  | n + 1, a0, r, h => by
    exact okC (((positivity_Check_e n).2 a0).trans h) (gd (tabA_cons_ok (ent2_ok (positivity_Positive_ok n)) (tabA_cons_ok (ent1_ok (family_Analyse_ok n)) (tabA_cons_ok (entX_ok (fun b a r h => (slices_ContainsFunc_RecField_positivity_Check_1_ok n) a.1 b.1.1 r h)) (tabA_cons_ok (ent2_ok (positivity_occurs_ok n)) tabA_nil_ok)))) tabD_nil_ok) Try.func6 ⟨(tyC Decl.cel).nb 0 _, trivial⟩ Try.ntmps6 Try.results6
end Go.Abs
namespace Go.Abs
open Go.Proofs
set_option maxRecDepth 100000
set_option maxHeartbeats 4000000
set_option linter.unusedSimpArgs false
set_option linter.unusedVariables false
@[reducible] noncomputable def law13_awake_m (n : Nat) : Mach Bool := mkA Try.prog Try.f5 n (outR Try.prog [.tmp 0] tyB) (cl := tabA [(14, ent1 tyS (tyC Term.cel) (law13_constant n))]) (cd := tabD [(6, entD (ent1 (tyC Decl.cel) (ty3 (tyI .i64) (tyI .i64) (tyI .i64)) (positivity_Check n))), (8, entD (ent2 (tyC Term.cel) (tyC Term.cel) (tyC Term.cel) (law13_arrow n))), (15, entD (ent1 (tyC Term.cel) (tyC Decl.cel) (law13_one n))), (16, entD (ent2 (tyC Term.cel) tyS tyB (positivity_Positive n)))]) (isC := tabI []) (isE := tabI [])
theorem law13_awake_d (n : Nat) : drawP (law13_awake_m n) [0, 1, 1] = true ∧ drawP (law13_awake_m n) [0, 1, 1, 1] = true ∧ drawP (law13_awake_m n) [0, 1, 1, 1, 1] = true ∧ drawP (law13_awake_m n) [0, 1, 1, 1, 1, 1] = true := ⟨by kernel_rfl, by kernel_rfl, by kernel_rfl, by kernel_rfl⟩
attribute [go_sem] law13_awake_d
noncomputable def law13_awake_e (n : Nat) : { B : Option Bool // run (law13_awake_m n) [.at []] (ini ([] : List AV) 100) = B } := by
  apply Subtype.mk
  simp (maxSteps := 100000000) only [go_sem, q00, q01, q02, q03, q04, q05, q06, q10, q11, q12, q13, q14, Try.f5, Option.getD_some, mixed]
  exact rfl
noncomputable def law13_awake := fu fun n => (law13_awake_e n).1
theorem law13_awake_ok : ∀ (n : Nat) (r : Bool), law13_awake n = some r → FnC Try.prog 5 [] (fun v => v = tyB.enc r)
  | 0, _, h => by cases h
  | n + 1, r, h => by
    exact okC ((law13_awake_e n).2.trans h) (gd (tabA_cons_ok (ent1_ok (law13_constant_ok n)) tabA_nil_ok) (tabD_cons_ok (ent1_okD (positivity_Check_ok n)) (tabD_cons_ok (ent2_okD (law13_arrow_ok n)) (tabD_cons_ok (ent1_okD (law13_one_ok n)) (tabD_cons_ok (ent2_okD (positivity_Positive_ok n)) tabD_nil_ok))))) Try.func5 trivial Try.ntmps5 Try.results5
end Go.Abs
namespace Go.Abs
open Go.Proofs
set_option maxRecDepth 100000
set_option maxHeartbeats 4000000
set_option linter.unusedSimpArgs false
set_option linter.unusedVariables false
noncomputable def law13_PositivityRefuses_n1 : Nrm := ⟨[(11, 5, false)], [], (zA :: zA :: zK :: zA4 (zA :: zK :: zA :: zK :: zK :: zK :: zA64 (zA64 (zA16 (zA :: zA :: []))))), [oT Decl.cel, oT Family.cel, oA Term.row], none, none⟩
@[reducible] noncomputable def law13_PositivityRefuses_m (n : Nat) : Mach Bool := mkA Try.prog Try.f3 n (outR Try.prog [.tmp 4] tyB) (cl := tabA [(4, ent1 (tyC Decl.cel) tyB (law12_Few n)), (5, ent0  tyB (law13_awake n)), (6, entAlt (ent1 (tyC Decl.cel) (ty3 (tyI .i64) (tyI .i64) (tyI .i64)) (positivity_Check n)) (entB (entD (ent1 (tyC Decl.cel) (ty3 (tyI .i64) (tyI .i64) (tyI .i64)) (positivity_Check n))))), (7, ent1 (tyC Decl.cel) (ty2 (tyC Family.cel) (tyI .i64)) (ref12_Analyse n)), (8, ent2 (tyC Term.cel) (tyC Term.cel) (tyC Term.cel) (law13_arrow n)), (9, ent3 (tyC Family.cel) (tyI .i64) (tyL Term.row) (tyC Term.cel) (ref12_Result n))]) (cd := tabD [(9, entD (ent3 (tyC Family.cel) (tyI .i64) (tyL Term.row) (tyC Term.cel) (ref12_Result n))), (10, entD (ent2 (tyL Term.row) (tyC Term.cel) (tyC Term.cel) (ref05_Pis_i2 n)))]) (nrm := tabN [([0, 1, 0, 1, 1, 1, 1, 1, 1, 1], law13_PositivityRefuses_n1)]) (co := tabC [(10, entCA (entA false Term.row (alT (tyC Term.cel) alN) (alT (tyC Term.cel) alN) (fun (b : ((List Term) × Unit)) (a : (Term × Unit)) => (ref05_Pis n) a.1 b.1)) (entDC (entD (ent2 (tyL Term.row) (tyC Term.cel) (tyC Term.cel) (ref05_Pis_i2 n)))))]) (isC := tabI [10]) (isE := tabI [])
theorem law13_PositivityRefuses_d (n : Nat) : drawP (law13_PositivityRefuses_m n) [0, 1, 1, 1, 1, 1, 1, 1, 1, 1, 1, 1] = true ∧ drawP (law13_PositivityRefuses_m n) [0, 1, 1, 1, 1, 1, 1, 1, 1, 1, 1, 1, 1] = true ∧ drawP (law13_PositivityRefuses_m n) [0, 1, 1, 1, 1, 1, 1, 1, 1, 1, 1, 1, 1, 1, 1, 1] = true := ⟨by kernel_rfl, by kernel_rfl, by kernel_rfl⟩
theorem law13_PositivityRefuses_o (n : Nat) : ordP (law13_PositivityRefuses_m n) [0, 1, 1, 1, 1, 1, 1, 1, 1, 1, 1, 1] 7 8 = true ∧ ordP (law13_PositivityRefuses_m n) [0, 1, 1, 1, 1, 1, 1, 1, 1, 1, 1, 1] 1 10 = true ∧ ordP (law13_PositivityRefuses_m n) [0, 1, 1, 1, 1, 1, 1, 1, 1, 1, 1, 1] 3 10 = true ∧ ordP (law13_PositivityRefuses_m n) [0, 1, 1, 1, 1, 1, 1, 1, 1, 1, 1, 1] 7 10 = true ∧ ordP (law13_PositivityRefuses_m n) [0, 1, 1, 1, 1, 1, 1, 1, 1, 1, 1, 1] 8 10 = true ∧ ordP (law13_PositivityRefuses_m n) [0, 1, 1, 1, 1, 1, 1, 1, 1, 1, 1, 1] 9 10 = true ∧ ordP (law13_PositivityRefuses_m n) [0, 1, 1, 1, 1, 1, 1, 1, 1, 1, 1, 1, 1] 2 3 = true ∧ ordP (law13_PositivityRefuses_m n) [0, 1, 1, 1, 1, 1, 1, 1, 1, 1, 1, 1, 1] 2 7 = true ∧ ordP (law13_PositivityRefuses_m n) [0, 1, 1, 1, 1, 1, 1, 1, 1, 1, 1, 1, 1] 3 7 = true ∧ ordP (law13_PositivityRefuses_m n) [0, 1, 1, 1, 1, 1, 1, 1, 1, 1, 1, 1, 1] 4 7 = true ∧ ordP (law13_PositivityRefuses_m n) [0, 1, 1, 1, 1, 1, 1, 1, 1, 1, 1, 1, 1] 2 9 = true ∧ ordP (law13_PositivityRefuses_m n) [0, 1, 1, 1, 1, 1, 1, 1, 1, 1, 1, 1, 1] 3 9 = true ∧ ordP (law13_PositivityRefuses_m n) [0, 1, 1, 1, 1, 1, 1, 1, 1, 1, 1, 1, 1] 4 9 = true ∧ ordP (law13_PositivityRefuses_m n) [0, 1, 1, 1, 1, 1, 1, 1, 1, 1, 1, 1, 1] 7 9 = true ∧ ordP (law13_PositivityRefuses_m n) [0, 1, 1, 1, 1, 1, 1, 1, 1, 1, 1, 1, 1, 1, 1, 1] 12 13 = true ∧ ordP (law13_PositivityRefuses_m n) [0, 1, 1, 1, 1, 1, 1, 1, 1, 1, 1, 1, 1, 1, 1, 1] 12 14 = true ∧ ordP (law13_PositivityRefuses_m n) [0, 1, 1, 1, 1, 1, 1, 1, 1, 1, 1, 1, 1, 1, 1, 1] 13 14 = true ∧ ordP (law13_PositivityRefuses_m n) [0, 1, 1, 1, 1, 1, 1, 1, 1, 1, 1, 1, 1, 1, 1, 1] 1 16 = true ∧ ordP (law13_PositivityRefuses_m n) [0, 1, 1, 1, 1, 1, 1, 1, 1, 1, 1, 1, 1, 1, 1, 1] 3 16 = true ∧ ordP (law13_PositivityRefuses_m n) [0, 1, 1, 1, 1, 1, 1, 1, 1, 1, 1, 1, 1, 1, 1, 1] 4 16 = true ∧ ordP (law13_PositivityRefuses_m n) [0, 1, 1, 1, 1, 1, 1, 1, 1, 1, 1, 1, 1, 1, 1, 1] 6 16 = true ∧ ordP (law13_PositivityRefuses_m n) [0, 1, 1, 1, 1, 1, 1, 1, 1, 1, 1, 1, 1, 1, 1, 1] 8 16 = true ∧ ordP (law13_PositivityRefuses_m n) [0, 1, 1, 1, 1, 1, 1, 1, 1, 1, 1, 1, 1, 1, 1, 1] 12 16 = true ∧ ordP (law13_PositivityRefuses_m n) [0, 1, 1, 1, 1, 1, 1, 1, 1, 1, 1, 1, 1, 1, 1, 1] 13 16 = true ∧ ordP (law13_PositivityRefuses_m n) [0, 1, 1, 1, 1, 1, 1, 1, 1, 1, 1, 1, 1, 1, 1, 1] 14 16 = true := ⟨by kernel_rfl, by kernel_rfl, by kernel_rfl, by kernel_rfl, by kernel_rfl, by kernel_rfl, by kernel_rfl, by kernel_rfl, by kernel_rfl, by kernel_rfl, by kernel_rfl, by kernel_rfl, by kernel_rfl, by kernel_rfl, by kernel_rfl, by kernel_rfl, by kernel_rfl, by kernel_rfl, by kernel_rfl, by kernel_rfl, by kernel_rfl, by kernel_rfl, by kernel_rfl, by kernel_rfl, by kernel_rfl⟩
attribute [go_sem] law13_PositivityRefuses_d law13_PositivityRefuses_o law13_PositivityRefuses_n1
noncomputable abbrev law13_PositivityRefuses_s1 (v0 : Int) (v1 : Int) (o0 : Decl) (o1 : Family) (r2 : List Term) (c2 : Nat) : AState := ⟨(.any :: .any :: .ptr 0 0 :: ay4 (.any :: .ptr 1 0 :: .any :: .int .i64 v0 :: .acc 2 c2 :: .int .i64 v1 :: ay64 (ay64 (ay16 (.any :: .any :: []))))), [.cells (Decl.cells o0), .cells (Family.cells o1), .acc false 5 (mp Term.cells r2)], 0, []⟩
abbrev law13_PositivityRefuses_c1 : List Kt := [.blk 0, .cut [1, 1, 1, 1, 1, 1, 1, 1], .at [1, 1, 1, 1, 1, 1, 1, 1]]
abbrev law13_PositivityRefuses_t1 := Int → Int → Decl → Family → (List Term) → Option Bool
abbrev law13_PositivityRefuses_g1 (n : Nat) (K : List Kt) (Z : law13_PositivityRefuses_t1) : Prop := ∀ (v0 : Int) (v1 : Int) (o0 : Decl) (o1 : Family) (r2 : List Term) (c2 : Nat), c2 = r2.length → run (law13_PositivityRefuses_m n) K (law13_PositivityRefuses_s1 v0 v1 o0 o1 r2 c2) = Z v0 v1 o0 o1 r2
attribute [go_sem] law13_PositivityRefuses_s1 law13_PositivityRefuses_c1
noncomputable def law13_PositivityRefuses_b1 (n : Nat) : { B : law13_PositivityRefuses_t1 → law13_PositivityRefuses_t1 // ∀ m X0, law13_PositivityRefuses_g1 n (.lq m [0, 1, 0, 1, 1, 1, 1, 1, 1, 1] :: law13_PositivityRefuses_c1) X0 → ∀ (v0 : Int) (v1 : Int) (o0 : Decl) (o1 : Family) (r2 : List Term), run (law13_PositivityRefuses_m n) (.at [0, 0, 1, 0, 1, 1, 1, 1, 1, 1, 1] :: .lp m [0, 1, 0, 1, 1, 1, 1, 1, 1, 1] :: law13_PositivityRefuses_c1) (law13_PositivityRefuses_s1 v0 v1 o0 o1 r2 (r2.length)) = B X0 v0 v1 o0 o1 r2 } := by
  apply Subtype.mk
  intro m X0 ih v0 v1 o0 o1 r2
  simp (config := { maxSteps := 100000000, implicitDefEqProofs := false }) only [go_sem, q00, q01, q02, q03, q04, q05, q06, q10, q11, q12, q13, q14, Try.f3, Option.getD_some, mixed, Ctor.nbset, ih]
  exact rfl
noncomputable def law13_PositivityRefuses_l1 (n : Nat) : Nat → law13_PositivityRefuses_t1 := lpF ((law13_PositivityRefuses_b1 n).1)
theorem law13_PositivityRefuses_l1_s {n : Nat} {m : Nat} : law13_PositivityRefuses_l1 n (m + 1) = (law13_PositivityRefuses_b1 n).1 (law13_PositivityRefuses_l1 n m) := rfl
theorem law13_PositivityRefuses_l1_eq (n : Nat) (m : Nat) : law13_PositivityRefuses_g1 n (.lq m [0, 1, 0, 1, 1, 1, 1, 1, 1, 1] :: law13_PositivityRefuses_c1) (law13_PositivityRefuses_l1 n m) :=
  lpF_eq (G := fun m Z => law13_PositivityRefuses_g1 n (.lq m [0, 1, 0, 1, 1, 1, 1, 1, 1, 1] :: law13_PositivityRefuses_c1) Z) (fun _ _ _ _ _ _ _ => run_lq_zero) (fun m _ ih => by
    intro v0 v1 o0 o1 r2 c2 ec2
    subst ec2
    rw [run_lq_succ]
    exact (law13_PositivityRefuses_b1 n).2 _ _ ih v0 v1 o0 o1 r2) m
noncomputable def law13_PositivityRefuses_e (n : Nat) : { B : Decl → Int → Option Bool // ∀ (a0 : Decl) (a1 : Int), run (law13_PositivityRefuses_m n) [.at []] (ini [(tyC Decl.cel).enc a0, (tyI .u8).enc a1] 159) = B a0 a1 } := by
  apply Subtype.mk
  intro a0 a1
  simp (config := { maxSteps := 100000000, implicitDefEqProofs := false }) only [go_sem, q00, q01, q02, q03, q04, q05, q06, q10, q11, q12, q13, q14, Try.f3, Option.getD_some, mixed, Ctor.nbset, law13_PositivityRefuses_l1_eq n]
  exact rfl
noncomputable def law13_PositivityRefuses := fu fun n => (law13_PositivityRefuses_e n).1
theorem law13_PositivityRefuses_ok : ∀ (n : Nat) (a0 : Decl) (a1 : Int) (r : Bool), law13_PositivityRefuses n a0 a1 = some r → FnC Try.prog 3 [(tyC Decl.cel).enc a0, (tyI .u8).enc a1] (fun v => v = tyB.enc r)
  | 0, _, _, _, h => by cases h
  | n + 1, a0, a1, r, h => by
    exact okC (((law13_PositivityRefuses_e n).2 a0 a1).trans h) (gd (tabA_cons_ok (ent1_ok (law12_Few_ok n)) (tabA_cons_ok (ent0_ok (law13_awake_ok n)) (tabA_cons_ok (entAlt_ok (ent1_ok (positivity_Check_ok n)) (entB_ok (ent1_okD (positivity_Check_ok n)))) (tabA_cons_ok (ent1_ok (ref12_Analyse_ok n)) (tabA_cons_ok (ent2_ok (law13_arrow_ok n)) (tabA_cons_ok (ent3_ok (ref12_Result_ok n)) tabA_nil_ok)))))) (tabD_cons_ok (ent3_okD (ref12_Result_ok n)) (tabD_cons_ok (ent2_okD (ref05_Pis_i2_ok n)) tabD_nil_ok)) (c := (tabC_cons_ok (entCA_ok (entA_ok rfl rfl (fun b a r h => (ref05_Pis_ok n) a.1 b.1 r h)) (entDC_ok (ent2_okD (ref05_Pis_i2_ok n)))) tabC_nil_ok))) Try.func3 ⟨(tyC Decl.cel).nb 0 _, (tyI .u8).nb 0 _, trivial⟩ Try.ntmps3 Try.results3
end Go.Abs
