/- A part of the proof: what the functions compute. -/
import Derived.Test.YtgimdhmoloobkaaDataA
import Derived.Test.YtgimdhmoloobkaaWalkB
import Derived.Test.YtgimdhmoloobkaaWalkA
set_option linter.all false
namespace Go.Abs
open Go.Proofs
set_option maxRecDepth 100000
set_option maxHeartbeats 4000000
set_option linter.unusedSimpArgs false
set_option linter.unusedVariables false
noncomputable def law12_awake_m (n : Nat) : Mach Bool where
  body := (Try.f17.body).getD .skip
  P := Try.prog
  cl := tabA [(18, ent1 (tyC Decl.cel) (ty2 (tyC Family.cel) (tyI .i64)) (family_Analyse n)), (26, ent2 (tyC Term.cel) (tyC Term.cel) tyB (term_Same n)), (55, ent1 (tyI .i64) (tyC Decl.cel) (law12_vec n))]
  cd := tabD []
  nrm := tabN []
  cut := tabF []
  n := n
  out := outR Try.prog [.tmp 0] tyB
theorem law12_awake_f (n : Nat) : (law12_awake_m n).P = Try.prog ∧ (law12_awake_m n).cl = tabA [(18, ent1 (tyC Decl.cel) (ty2 (tyC Family.cel) (tyI .i64)) (family_Analyse n)), (26, ent2 (tyC Term.cel) (tyC Term.cel) tyB (term_Same n)), (55, ent1 (tyI .i64) (tyC Decl.cel) (law12_vec n))] ∧ (law12_awake_m n).cd = tabD [] ∧ (law12_awake_m n).nrm = tabN [] ∧ (law12_awake_m n).cut = tabF [] ∧ (law12_awake_m n).n = n ∧ (law12_awake_m n).out = outR Try.prog [.tmp 0] tyB := ⟨rfl, rfl, rfl, rfl, rfl, rfl, rfl⟩
theorem law12_awake_c (n : Nat) : (law12_awake_m n).body = (Try.f17.body).getD .skip := rfl
noncomputable def law12_awake_e (n : Nat) : { B : Option Bool // run (law12_awake_m n) [.at []] { slots := ([] : List AV) ++ List.replicate (109 - ([] : List AV).length) .any, heap := [] } = B } := by
  apply Subtype.mk
  simp (config := { maxSteps := 100000000 }) only [go_sem, Nat.reduceAdd, Nat.reduceSub, Nat.reduceLeDiff, Nat.reduceEqDiff, Nat.reduceBEq, Nat.reduceMul, Nat.reduceLT, Int.reduceLE, Int.reduceLT, Int.reduceToNat, Int.reduceBEq, Int.reduceEq, law12_awake_f, law12_awake_c, Try.f17, Option.getD_some, mixed]
  exact rfl
noncomputable def law12_awake : Nat → Option Bool
  | 0 => none
  | n + 1 => (law12_awake_e n).1
theorem law12_awake_ok : ∀ (n : Nat) (r : Bool), law12_awake n = some r → FnC Try.prog 17 [] (fun v => v = tyB.enc r)
  | 0, _, h => by cases h
  | n + 1, r, h => by
    exact fnC_run (M := law12_awake_m n) ⟨(tabA_cons_ok (ent1_ok (family_Analyse_ok n)) (tabA_cons_ok (ent2_ok (term_Same_ok n)) (tabA_cons_ok (ent1_ok (law12_vec_ok n)) tabA_nil_ok))), tabD_nil_ok, tabN_ok _, tabF_ok _⟩ Try.func17 rfl rfl trivial Try.ntmps17 Try.results17 (fun σ hs => outR_ok (P := Try.prog) (rs := [.tmp 0]) (t := tyB) (σ := σ) (r := r) hs) (((law12_awake_e n).2).trans h)

noncomputable def positivity_Check_n1 : Nrm := ⟨[], [], [zA, zA, zA, zA, zA, zK, zA, zK, zK, zK, zK, zA, zA, zA, zA, zA, zA, zA, zA, zA, zA, zA, zA, zT (tyL CtorForm.row), zK, zK, zA, zA, zA, zA, zA, zT (tyL Term.row), zK, zK, zA, zA, zA, zA, zA, zA, zA, zA, zA, zA, zA, zA, zA, zA, zA, zA, zA, zA, zA, zA, zA, zA, zA, zA, zA, zA, zA, zA, zA, zA, zA, zA, zA, zA, zA, zA, zA, zA, zA, zA, zA], [oD, oT Family.cel, oT CtorForm.cel]⟩
noncomputable def positivity_Check_n2 : Nrm := ⟨[], [], [zA, zA, zA, zA, zA, zK, zA, zK, zK, zA, zA, zA, zA, zA, zA, zA, zA, zA, zA, zA, zA, zA, zA, zT (tyL CtorForm.row), zK, zK, zA, zA, zA, zA, zA, zA, zA, zA, zA, zA, zA, zA, zA, zA, zA, zA, zA, zA, zA, zA, zA, zA, zA, zA, zA, zA, zA, zA, zA, zA, zA, zA, zA, zA, zA, zA, zA, zA, zA, zA, zA, zA, zA, zA, zA, zA, zA, zA, zA], [oD, oT Family.cel]⟩
noncomputable def positivity_Check_m (n : Nat) : Mach (Int × Int × Int) where
  body := (Try.f36.body).getD .skip
  P := Try.prog
  cl := tabA [(18, ent1 (tyC Decl.cel) (ty2 (tyC Family.cel) (tyI .i64)) (family_Analyse n)), (38, ent2 (tyC Term.cel) tyS tyB (positivity_Positive n)), (79, entX [.arg 1 [0]] (olC (ogC (alC (cI .i64) 1 alN)) olN) (alT (tyL RecField.row) (alF 80 (vlP 0 vlN) alN)) (olC (ogC (alC (cI .i64) 1 alN)) olN) (alT tyB alN) (fun (b : ((Int × Unit) × Unit)) (a : ((List RecField) × (Unit × Unit))) => (slices_ContainsFunc_RecField_positivity_Check_1 n) a.1 b.1.1)), (81, ent2 tyS (tyL Term.row) tyB (positivity_occurs n))]
  cd := tabD []
  nrm := tabN [([0, 1, 0, 1, 0, 0, 1, 1, 0, 0, 1, 0, 1, 1, 1, 1, 0, 1], positivity_Check_n1), ([0, 1, 0, 1, 1, 1, 1, 0, 1], positivity_Check_n2)]
  cut := tabF [([1, 1, 0, 0, 1, 1, 0, 0, 1, 0, 1, 0, 0, 1, 1, 0, 0, 1, 0, 1, 1, 1, 1, 0, 1], [3])]
  n := n
  out := outR Try.prog [.tmp 2, .tmp 3, .tmp 4] (ty3 (tyI .i64) (tyI .i64) (tyI .i64))
theorem positivity_Check_f (n : Nat) : (positivity_Check_m n).P = Try.prog ∧ (positivity_Check_m n).cl = tabA [(18, ent1 (tyC Decl.cel) (ty2 (tyC Family.cel) (tyI .i64)) (family_Analyse n)), (38, ent2 (tyC Term.cel) tyS tyB (positivity_Positive n)), (79, entX [.arg 1 [0]] (olC (ogC (alC (cI .i64) 1 alN)) olN) (alT (tyL RecField.row) (alF 80 (vlP 0 vlN) alN)) (olC (ogC (alC (cI .i64) 1 alN)) olN) (alT tyB alN) (fun (b : ((Int × Unit) × Unit)) (a : ((List RecField) × (Unit × Unit))) => (slices_ContainsFunc_RecField_positivity_Check_1 n) a.1 b.1.1)), (81, ent2 tyS (tyL Term.row) tyB (positivity_occurs n))] ∧ (positivity_Check_m n).cd = tabD [] ∧ (positivity_Check_m n).nrm = tabN [([0, 1, 0, 1, 0, 0, 1, 1, 0, 0, 1, 0, 1, 1, 1, 1, 0, 1], positivity_Check_n1), ([0, 1, 0, 1, 1, 1, 1, 0, 1], positivity_Check_n2)] ∧ (positivity_Check_m n).cut = tabF [([1, 1, 0, 0, 1, 1, 0, 0, 1, 0, 1, 0, 0, 1, 1, 0, 0, 1, 0, 1, 1, 1, 1, 0, 1], [3])] ∧ (positivity_Check_m n).n = n ∧ (positivity_Check_m n).out = outR Try.prog [.tmp 2, .tmp 3, .tmp 4] (ty3 (tyI .i64) (tyI .i64) (tyI .i64)) := ⟨rfl, rfl, rfl, rfl, rfl, rfl, rfl⟩
theorem positivity_Check_c (n : Nat) : (positivity_Check_m n).body = (Try.f36.body).getD .skip := rfl
theorem positivity_Check_d (n : Nat) : drawP (positivity_Check_m n) [0, 0, 1, 1, 1, 0, 0, 1, 1, 0, 0, 1, 0, 1, 0, 0, 1, 1, 0, 0, 1, 0, 1, 1, 1, 1, 0, 1] = true ∧ drawP (positivity_Check_m n) [0, 0, 1, 1, 1, 0, 0, 1, 1, 0, 0, 1, 0, 1, 1, 1, 1, 0, 1] = true := ⟨by kernel_rfl, by kernel_rfl⟩
noncomputable def positivity_Check_b1 (n : Nat) : { B : (Int → Int → (List CtorForm) → Int → Int → Family → Option (Int × Int × Int)) → (Int → Int → Int → (List CtorForm) → Int → Int → (List Term) → Int → Int → Family → CtorForm → Option (Int × Int × Int)) → Int → Int → Int → (List CtorForm) → Int → Int → (List Term) → Int → Int → Family → CtorForm → Option (Int × Int × Int) // ∀ m2 X2 m X0, (∀ (v0 : Int) (v1 : Int) (v2 : List CtorForm) (v3 : Int) (v4 : Int) (o1 : Family), run (positivity_Check_m n) [.lq m2 [0, 1, 0, 1, 1, 1, 1, 0, 1], .blk 0, .cut [1, 1, 1, 1, 1, 0, 1], .at [1, 1, 1, 1, 1, 0, 1]] ⟨[.any, .any, .any, .any, .any, .ptr 1 0, .any, .int .i64 v0, .int .i64 v1, .any, .any, .any, .any, .any, .any, .any, .any, .any, .any, .any, .any, .any, .any, .lst false 4 (mp CtorForm.cells v2), .int .i64 v3, .int .i64 v4, .any, .any, .any, .any, .any, .any, .any, .any, .any, .any, .any, .any, .any, .any, .any, .any, .any, .any, .any, .any, .any, .any, .any, .any, .any, .any, .any, .any, .any, .any, .any, .any, .any, .any, .any, .any, .any, .any, .any, .any, .any, .any, .any, .any, .any, .any, .any, .any, .any], [.dead, .cells (Family.cells o1)], 0⟩ = X2 v0 v1 v2 v3 v4 o1) → (∀ (v0 : Int) (v1 : Int) (v2 : Int) (v3 : List CtorForm) (v4 : Int) (v5 : Int) (v6 : List Term) (v7 : Int) (v8 : Int) (o1 : Family) (o2 : CtorForm), run (positivity_Check_m n) [.lq m [0, 1, 0, 1, 0, 0, 1, 1, 0, 0, 1, 0, 1, 1, 1, 1, 0, 1], .blk 2, .cut [1, 1, 0, 0, 1, 1, 0, 0, 1, 0, 1, 1, 1, 1, 0, 1], .at [1, 1, 0, 0, 1, 1, 0, 0, 1, 0, 1, 1, 1, 1, 0, 1], .blk 1, .cut [1, 1, 1, 0, 0, 1, 0, 1, 1, 1, 1, 0, 1], .at [1, 1, 1, 0, 0, 1, 0, 1, 1, 1, 1, 0, 1], .lp m2 [0, 1, 0, 1, 1, 1, 1, 0, 1], .blk 0, .cut [1, 1, 1, 1, 1, 0, 1], .at [1, 1, 1, 1, 1, 0, 1]] ⟨[.any, .any, .any, .any, .any, .ptr 1 0, .any, .int .i64 v0, .int .i64 v1, .int .i64 v2, .ptr 2 0, .any, .any, .any, .any, .any, .any, .any, .any, .any, .any, .any, .any, .lst false 4 (mp CtorForm.cells v3), .int .i64 v4, .int .i64 v5, .any, .any, .any, .any, .any, .lst false 5 (mp Term.cells v6), .int .i64 v7, .int .i64 v8, .any, .any, .any, .any, .any, .any, .any, .any, .any, .any, .any, .any, .any, .any, .any, .any, .any, .any, .any, .any, .any, .any, .any, .any, .any, .any, .any, .any, .any, .any, .any, .any, .any, .any, .any, .any, .any, .any, .any, .any, .any], [.dead, .cells (Family.cells o1), .cells (CtorForm.cells o2)], 0⟩ = X0 v0 v1 v2 v3 v4 v5 v6 v7 v8 o1 o2) → ∀ (v0 : Int) (v1 : Int) (v2 : Int) (v3 : List CtorForm) (v4 : Int) (v5 : Int) (v6 : List Term) (v7 : Int) (v8 : Int) (o1 : Family) (o2 : CtorForm), run (positivity_Check_m n) [.at [0, 0, 1, 0, 1, 0, 0, 1, 1, 0, 0, 1, 0, 1, 1, 1, 1, 0, 1], .lp m [0, 1, 0, 1, 0, 0, 1, 1, 0, 0, 1, 0, 1, 1, 1, 1, 0, 1], .blk 2, .cut [1, 1, 0, 0, 1, 1, 0, 0, 1, 0, 1, 1, 1, 1, 0, 1], .at [1, 1, 0, 0, 1, 1, 0, 0, 1, 0, 1, 1, 1, 1, 0, 1], .blk 1, .cut [1, 1, 1, 0, 0, 1, 0, 1, 1, 1, 1, 0, 1], .at [1, 1, 1, 0, 0, 1, 0, 1, 1, 1, 1, 0, 1], .lp m2 [0, 1, 0, 1, 1, 1, 1, 0, 1], .blk 0, .cut [1, 1, 1, 1, 1, 0, 1], .at [1, 1, 1, 1, 1, 0, 1]] ⟨[.any, .any, .any, .any, .any, .ptr 1 0, .any, .int .i64 v0, .int .i64 v1, .int .i64 v2, .ptr 2 0, .any, .any, .any, .any, .any, .any, .any, .any, .any, .any, .any, .any, .lst false 4 (mp CtorForm.cells v3), .int .i64 v4, .int .i64 v5, .any, .any, .any, .any, .any, .lst false 5 (mp Term.cells v6), .int .i64 v7, .int .i64 v8, .any, .any, .any, .any, .any, .any, .any, .any, .any, .any, .any, .any, .any, .any, .any, .any, .any, .any, .any, .any, .any, .any, .any, .any, .any, .any, .any, .any, .any, .any, .any, .any, .any, .any, .any, .any, .any, .any, .any, .any, .any], [.dead, .cells (Family.cells o1), .cells (CtorForm.cells o2)], 0⟩ = B X2 X0 v0 v1 v2 v3 v4 v5 v6 v7 v8 o1 o2 } := by
  apply Subtype.mk
  intro m2 X2 m X0 h2 ih v0 v1 v2 v3 v4 v5 v6 v7 v8 o1 o2
  simp (config := { maxSteps := 100000000 }) only [go_sem, Nat.reduceAdd, Nat.reduceSub, Nat.reduceLeDiff, Nat.reduceEqDiff, Nat.reduceBEq, Nat.reduceMul, Nat.reduceLT, Int.reduceLE, Int.reduceLT, Int.reduceToNat, Int.reduceBEq, Int.reduceEq, positivity_Check_f, positivity_Check_c, Try.f36, Option.getD_some, mixed, positivity_Check_d, positivity_Check_n1, positivity_Check_n2, h2, ih]
  exact rfl
noncomputable def positivity_Check_l1 (n : Nat) (X2 : Int → Int → (List CtorForm) → Int → Int → Family → Option (Int × Int × Int)) : Nat → Int → Int → Int → (List CtorForm) → Int → Int → (List Term) → Int → Int → Family → CtorForm → Option (Int × Int × Int)
  | 0, _, _, _, _, _, _, _, _, _, _, _ => none
  | m + 1, v0, v1, v2, v3, v4, v5, v6, v7, v8, o1, o2 => (positivity_Check_b1 n).1 X2 (positivity_Check_l1 n X2 m) v0 v1 v2 v3 v4 v5 v6 v7 v8 o1 o2
theorem positivity_Check_l1_eq (n : Nat) (m2 : Nat) (X2 : Int → Int → (List CtorForm) → Int → Int → Family → Option (Int × Int × Int)) (h2 : (∀ (v0 : Int) (v1 : Int) (v2 : List CtorForm) (v3 : Int) (v4 : Int) (o1 : Family), run (positivity_Check_m n) [.lq m2 [0, 1, 0, 1, 1, 1, 1, 0, 1], .blk 0, .cut [1, 1, 1, 1, 1, 0, 1], .at [1, 1, 1, 1, 1, 0, 1]] ⟨[.any, .any, .any, .any, .any, .ptr 1 0, .any, .int .i64 v0, .int .i64 v1, .any, .any, .any, .any, .any, .any, .any, .any, .any, .any, .any, .any, .any, .any, .lst false 4 (mp CtorForm.cells v2), .int .i64 v3, .int .i64 v4, .any, .any, .any, .any, .any, .any, .any, .any, .any, .any, .any, .any, .any, .any, .any, .any, .any, .any, .any, .any, .any, .any, .any, .any, .any, .any, .any, .any, .any, .any, .any, .any, .any, .any, .any, .any, .any, .any, .any, .any, .any, .any, .any, .any, .any, .any, .any, .any, .any], [.dead, .cells (Family.cells o1)], 0⟩ = X2 v0 v1 v2 v3 v4 o1)) : ∀ (m : Nat), (∀ (v0 : Int) (v1 : Int) (v2 : Int) (v3 : List CtorForm) (v4 : Int) (v5 : Int) (v6 : List Term) (v7 : Int) (v8 : Int) (o1 : Family) (o2 : CtorForm), run (positivity_Check_m n) [.lq m [0, 1, 0, 1, 0, 0, 1, 1, 0, 0, 1, 0, 1, 1, 1, 1, 0, 1], .blk 2, .cut [1, 1, 0, 0, 1, 1, 0, 0, 1, 0, 1, 1, 1, 1, 0, 1], .at [1, 1, 0, 0, 1, 1, 0, 0, 1, 0, 1, 1, 1, 1, 0, 1], .blk 1, .cut [1, 1, 1, 0, 0, 1, 0, 1, 1, 1, 1, 0, 1], .at [1, 1, 1, 0, 0, 1, 0, 1, 1, 1, 1, 0, 1], .lp m2 [0, 1, 0, 1, 1, 1, 1, 0, 1], .blk 0, .cut [1, 1, 1, 1, 1, 0, 1], .at [1, 1, 1, 1, 1, 0, 1]] ⟨[.any, .any, .any, .any, .any, .ptr 1 0, .any, .int .i64 v0, .int .i64 v1, .int .i64 v2, .ptr 2 0, .any, .any, .any, .any, .any, .any, .any, .any, .any, .any, .any, .any, .lst false 4 (mp CtorForm.cells v3), .int .i64 v4, .int .i64 v5, .any, .any, .any, .any, .any, .lst false 5 (mp Term.cells v6), .int .i64 v7, .int .i64 v8, .any, .any, .any, .any, .any, .any, .any, .any, .any, .any, .any, .any, .any, .any, .any, .any, .any, .any, .any, .any, .any, .any, .any, .any, .any, .any, .any, .any, .any, .any, .any, .any, .any, .any, .any, .any, .any, .any, .any, .any, .any], [.dead, .cells (Family.cells o1), .cells (CtorForm.cells o2)], 0⟩ = positivity_Check_l1 n X2 m v0 v1 v2 v3 v4 v5 v6 v7 v8 o1 o2)
  | 0 => by intros; exact run_lq_zero
  | m + 1 => by
    have ih := positivity_Check_l1_eq n m2 X2 h2 m
    intro v0 v1 v2 v3 v4 v5 v6 v7 v8 o1 o2
    rw [run_lq_succ]
    exact (positivity_Check_b1 n).2 m2 X2 m _ h2 ih v0 v1 v2 v3 v4 v5 v6 v7 v8 o1 o2
noncomputable def positivity_Check_b2 (n : Nat) : { B : (Int → Int → (List CtorForm) → Int → Int → Family → Option (Int × Int × Int)) → Int → Int → (List CtorForm) → Int → Int → Family → Option (Int × Int × Int) // ∀ m X0, (∀ (v0 : Int) (v1 : Int) (v2 : List CtorForm) (v3 : Int) (v4 : Int) (o1 : Family), run (positivity_Check_m n) [.lq m [0, 1, 0, 1, 1, 1, 1, 0, 1], .blk 0, .cut [1, 1, 1, 1, 1, 0, 1], .at [1, 1, 1, 1, 1, 0, 1]] ⟨[.any, .any, .any, .any, .any, .ptr 1 0, .any, .int .i64 v0, .int .i64 v1, .any, .any, .any, .any, .any, .any, .any, .any, .any, .any, .any, .any, .any, .any, .lst false 4 (mp CtorForm.cells v2), .int .i64 v3, .int .i64 v4, .any, .any, .any, .any, .any, .any, .any, .any, .any, .any, .any, .any, .any, .any, .any, .any, .any, .any, .any, .any, .any, .any, .any, .any, .any, .any, .any, .any, .any, .any, .any, .any, .any, .any, .any, .any, .any, .any, .any, .any, .any, .any, .any, .any, .any, .any, .any, .any, .any], [.dead, .cells (Family.cells o1)], 0⟩ = X0 v0 v1 v2 v3 v4 o1) → ∀ (v0 : Int) (v1 : Int) (v2 : List CtorForm) (v3 : Int) (v4 : Int) (o1 : Family), run (positivity_Check_m n) [.at [0, 0, 1, 0, 1, 1, 1, 1, 0, 1], .lp m [0, 1, 0, 1, 1, 1, 1, 0, 1], .blk 0, .cut [1, 1, 1, 1, 1, 0, 1], .at [1, 1, 1, 1, 1, 0, 1]] ⟨[.any, .any, .any, .any, .any, .ptr 1 0, .any, .int .i64 v0, .int .i64 v1, .any, .any, .any, .any, .any, .any, .any, .any, .any, .any, .any, .any, .any, .any, .lst false 4 (mp CtorForm.cells v2), .int .i64 v3, .int .i64 v4, .any, .any, .any, .any, .any, .any, .any, .any, .any, .any, .any, .any, .any, .any, .any, .any, .any, .any, .any, .any, .any, .any, .any, .any, .any, .any, .any, .any, .any, .any, .any, .any, .any, .any, .any, .any, .any, .any, .any, .any, .any, .any, .any, .any, .any, .any, .any, .any, .any], [.dead, .cells (Family.cells o1)], 0⟩ = B X0 v0 v1 v2 v3 v4 o1 } := by
  apply Subtype.mk
  intro m X0 ih v0 v1 v2 v3 v4 o1
  simp (config := { maxSteps := 100000000 }) only [go_sem, Nat.reduceAdd, Nat.reduceSub, Nat.reduceLeDiff, Nat.reduceEqDiff, Nat.reduceBEq, Nat.reduceMul, Nat.reduceLT, Int.reduceLE, Int.reduceLT, Int.reduceToNat, Int.reduceBEq, Int.reduceEq, positivity_Check_f, positivity_Check_c, Try.f36, Option.getD_some, mixed, positivity_Check_d, positivity_Check_n1, positivity_Check_n2, positivity_Check_l1_eq n m X0 ih, ih]
  exact rfl
noncomputable def positivity_Check_l2 (n : Nat) : Nat → Int → Int → (List CtorForm) → Int → Int → Family → Option (Int × Int × Int)
  | 0, _, _, _, _, _, _ => none
  | m + 1, v0, v1, v2, v3, v4, o1 => (positivity_Check_b2 n).1 (positivity_Check_l2 n m) v0 v1 v2 v3 v4 o1
theorem positivity_Check_l2_eq (n : Nat) : ∀ (m : Nat), (∀ (v0 : Int) (v1 : Int) (v2 : List CtorForm) (v3 : Int) (v4 : Int) (o1 : Family), run (positivity_Check_m n) [.lq m [0, 1, 0, 1, 1, 1, 1, 0, 1], .blk 0, .cut [1, 1, 1, 1, 1, 0, 1], .at [1, 1, 1, 1, 1, 0, 1]] ⟨[.any, .any, .any, .any, .any, .ptr 1 0, .any, .int .i64 v0, .int .i64 v1, .any, .any, .any, .any, .any, .any, .any, .any, .any, .any, .any, .any, .any, .any, .lst false 4 (mp CtorForm.cells v2), .int .i64 v3, .int .i64 v4, .any, .any, .any, .any, .any, .any, .any, .any, .any, .any, .any, .any, .any, .any, .any, .any, .any, .any, .any, .any, .any, .any, .any, .any, .any, .any, .any, .any, .any, .any, .any, .any, .any, .any, .any, .any, .any, .any, .any, .any, .any, .any, .any, .any, .any, .any, .any, .any, .any], [.dead, .cells (Family.cells o1)], 0⟩ = positivity_Check_l2 n m v0 v1 v2 v3 v4 o1)
  | 0 => by intros; exact run_lq_zero
  | m + 1 => by
    have ih := positivity_Check_l2_eq n m
    intro v0 v1 v2 v3 v4 o1
    rw [run_lq_succ]
    exact (positivity_Check_b2 n).2  m _  ih v0 v1 v2 v3 v4 o1
noncomputable def positivity_Check_e (n : Nat) : { B : Decl → Option (Int × Int × Int) // ∀ (a0 : Decl), run (positivity_Check_m n) [.at []] { slots := [(tyC Decl.cel).enc a0] ++ List.replicate (75 - [(tyC Decl.cel).enc a0].length) .any, heap := [] } = B a0 } := by
  apply Subtype.mk
  intro a0
  simp (config := { maxSteps := 100000000 }) only [go_sem, Nat.reduceAdd, Nat.reduceSub, Nat.reduceLeDiff, Nat.reduceEqDiff, Nat.reduceBEq, Nat.reduceMul, Nat.reduceLT, Int.reduceLE, Int.reduceLT, Int.reduceToNat, Int.reduceBEq, Int.reduceEq, positivity_Check_f, positivity_Check_c, Try.f36, Option.getD_some, mixed, positivity_Check_d, positivity_Check_n1, positivity_Check_n2, positivity_Check_l2_eq n]
  exact rfl
noncomputable def positivity_Check : Nat → Decl → Option (Int × Int × Int)
  | 0, _ => none
  | n + 1, a0 => (positivity_Check_e n).1 a0
theorem positivity_Check_ok : ∀ (n : Nat) (a0 : Decl) (r : (Int × Int × Int)), positivity_Check n a0 = some r → FnC Try.prog 36 [(tyC Decl.cel).enc a0] (fun v => v = (ty3 (tyI .i64) (tyI .i64) (tyI .i64)).enc r)
  | 0, _, _, h => by cases h
  | n + 1, a0, r, h => by
    exact fnC_run (M := positivity_Check_m n) ⟨(tabA_cons_ok (ent1_ok (family_Analyse_ok n)) (tabA_cons_ok (ent2_ok (positivity_Positive_ok n)) (tabA_cons_ok (entX_ok (fun b a r h => (slices_ContainsFunc_RecField_positivity_Check_1_ok n) a.1 b.1.1 r h)) (tabA_cons_ok (ent2_ok (positivity_occurs_ok n)) tabA_nil_ok)))), tabD_nil_ok, tabN_ok _, tabF_ok _⟩ Try.func36 rfl rfl ⟨(tyC Decl.cel).nb 0 _, trivial⟩ Try.ntmps36 Try.results36 (fun σ hs => outR_ok (P := Try.prog) (rs := [.tmp 2, .tmp 3, .tmp 4]) (t := (ty3 (tyI .i64) (tyI .i64) (tyI .i64))) (σ := σ) (r := r) hs) (((positivity_Check_e n).2 a0).trans h)
end Go.Abs
namespace Go.Abs
open Go.Proofs
set_option maxRecDepth 100000
set_option maxHeartbeats 4000000
set_option linter.unusedSimpArgs false
set_option linter.unusedVariables false
noncomputable def law12_FamilyAnalyses_m (n : Nat) : Mach Bool where
  body := (Try.f3.body).getD .skip
  P := Try.prog
  cl := tabA [(16, ent1 (tyC Decl.cel) tyB (law12_Few n)), (17, ent0  tyB (law12_awake n)), (18, ent1 (tyC Decl.cel) (ty2 (tyC Family.cel) (tyI .i64)) (family_Analyse n)), (19, ent1 (tyC Decl.cel) (ty2 (tyC Family.cel) (tyI .i64)) (ref12_Analyse n)), (20, ent2 (tyC Family.cel) (tyC Family.cel) tyB (ref12_Same n))]
  cd := tabD []
  nrm := tabN []
  cut := tabF []
  n := n
  out := outR Try.prog [.tmp 2] tyB
theorem law12_FamilyAnalyses_f (n : Nat) : (law12_FamilyAnalyses_m n).P = Try.prog ∧ (law12_FamilyAnalyses_m n).cl = tabA [(16, ent1 (tyC Decl.cel) tyB (law12_Few n)), (17, ent0  tyB (law12_awake n)), (18, ent1 (tyC Decl.cel) (ty2 (tyC Family.cel) (tyI .i64)) (family_Analyse n)), (19, ent1 (tyC Decl.cel) (ty2 (tyC Family.cel) (tyI .i64)) (ref12_Analyse n)), (20, ent2 (tyC Family.cel) (tyC Family.cel) tyB (ref12_Same n))] ∧ (law12_FamilyAnalyses_m n).cd = tabD [] ∧ (law12_FamilyAnalyses_m n).nrm = tabN [] ∧ (law12_FamilyAnalyses_m n).cut = tabF [] ∧ (law12_FamilyAnalyses_m n).n = n ∧ (law12_FamilyAnalyses_m n).out = outR Try.prog [.tmp 2] tyB := ⟨rfl, rfl, rfl, rfl, rfl, rfl, rfl⟩
theorem law12_FamilyAnalyses_c (n : Nat) : (law12_FamilyAnalyses_m n).body = (Try.f3.body).getD .skip := rfl
noncomputable def law12_FamilyAnalyses_e (n : Nat) : { B : Decl → Option Bool // ∀ (a0 : Decl), run (law12_FamilyAnalyses_m n) [.at []] { slots := [(tyC Decl.cel).enc a0] ++ List.replicate (32 - [(tyC Decl.cel).enc a0].length) .any, heap := [] } = B a0 } := by
  apply Subtype.mk
  intro a0
  simp (config := { maxSteps := 100000000 }) only [go_sem, Nat.reduceAdd, Nat.reduceSub, Nat.reduceLeDiff, Nat.reduceEqDiff, Nat.reduceBEq, Nat.reduceMul, Nat.reduceLT, Int.reduceLE, Int.reduceLT, Int.reduceToNat, Int.reduceBEq, Int.reduceEq, law12_FamilyAnalyses_f, law12_FamilyAnalyses_c, Try.f3, Option.getD_some, mixed]
  exact rfl
noncomputable def law12_FamilyAnalyses : Nat → Decl → Option Bool
  | 0, _ => none
  | n + 1, a0 => (law12_FamilyAnalyses_e n).1 a0
theorem law12_FamilyAnalyses_ok : ∀ (n : Nat) (a0 : Decl) (r : Bool), law12_FamilyAnalyses n a0 = some r → FnC Try.prog 3 [(tyC Decl.cel).enc a0] (fun v => v = tyB.enc r)
  | 0, _, _, h => by cases h
  | n + 1, a0, r, h => by
    exact fnC_run (M := law12_FamilyAnalyses_m n) ⟨(tabA_cons_ok (ent1_ok (law12_Few_ok n)) (tabA_cons_ok (ent0_ok (law12_awake_ok n)) (tabA_cons_ok (ent1_ok (family_Analyse_ok n)) (tabA_cons_ok (ent1_ok (ref12_Analyse_ok n)) (tabA_cons_ok (ent2_ok (ref12_Same_ok n)) tabA_nil_ok))))), tabD_nil_ok, tabN_ok _, tabF_ok _⟩ Try.func3 rfl rfl ⟨(tyC Decl.cel).nb 0 _, trivial⟩ Try.ntmps3 Try.results3 (fun σ hs => outR_ok (P := Try.prog) (rs := [.tmp 2]) (t := tyB) (σ := σ) (r := r) hs) (((law12_FamilyAnalyses_e n).2 a0).trans h)

noncomputable def law13_awake_m (n : Nat) : Mach Bool where
  body := (Try.f35.body).getD .skip
  P := Try.prog
  cl := tabA [(51, ent1 tyS (tyC Term.cel) (law13_constant n))]
  cd := tabD [(36, entD (ent1 (tyC Decl.cel) (ty3 (tyI .i64) (tyI .i64) (tyI .i64)) (positivity_Check n))), (38, entD (ent2 (tyC Term.cel) tyS tyB (positivity_Positive n))), (40, entD (ent2 (tyC Term.cel) (tyC Term.cel) (tyC Term.cel) (law13_arrow n))), (78, entD (ent1 (tyC Term.cel) (tyC Decl.cel) (law13_one n)))]
  nrm := tabN []
  cut := tabF []
  n := n
  out := outR Try.prog [.tmp 0] tyB
theorem law13_awake_f (n : Nat) : (law13_awake_m n).P = Try.prog ∧ (law13_awake_m n).cl = tabA [(51, ent1 tyS (tyC Term.cel) (law13_constant n))] ∧ (law13_awake_m n).cd = tabD [(36, entD (ent1 (tyC Decl.cel) (ty3 (tyI .i64) (tyI .i64) (tyI .i64)) (positivity_Check n))), (38, entD (ent2 (tyC Term.cel) tyS tyB (positivity_Positive n))), (40, entD (ent2 (tyC Term.cel) (tyC Term.cel) (tyC Term.cel) (law13_arrow n))), (78, entD (ent1 (tyC Term.cel) (tyC Decl.cel) (law13_one n)))] ∧ (law13_awake_m n).nrm = tabN [] ∧ (law13_awake_m n).cut = tabF [] ∧ (law13_awake_m n).n = n ∧ (law13_awake_m n).out = outR Try.prog [.tmp 0] tyB := ⟨rfl, rfl, rfl, rfl, rfl, rfl, rfl⟩
theorem law13_awake_c (n : Nat) : (law13_awake_m n).body = (Try.f35.body).getD .skip := rfl
theorem law13_awake_d (n : Nat) : drawP (law13_awake_m n) [0, 1, 1] = true ∧ drawP (law13_awake_m n) [0, 1, 1, 1] = true ∧ drawP (law13_awake_m n) [0, 1, 1, 1, 1] = true ∧ drawP (law13_awake_m n) [0, 1, 1, 1, 1, 1] = true := ⟨by kernel_rfl, by kernel_rfl, by kernel_rfl, by kernel_rfl⟩
noncomputable def law13_awake_e (n : Nat) : { B : Option Bool // run (law13_awake_m n) [.at []] { slots := ([] : List AV) ++ List.replicate (100 - ([] : List AV).length) .any, heap := [] } = B } := by
  apply Subtype.mk
  simp (config := { maxSteps := 100000000 }) only [go_sem, Nat.reduceAdd, Nat.reduceSub, Nat.reduceLeDiff, Nat.reduceEqDiff, Nat.reduceBEq, Nat.reduceMul, Nat.reduceLT, Int.reduceLE, Int.reduceLT, Int.reduceToNat, Int.reduceBEq, Int.reduceEq, law13_awake_f, law13_awake_c, Try.f35, Option.getD_some, mixed, law13_awake_d]
  exact rfl
noncomputable def law13_awake : Nat → Option Bool
  | 0 => none
  | n + 1 => (law13_awake_e n).1
theorem law13_awake_ok : ∀ (n : Nat) (r : Bool), law13_awake n = some r → FnC Try.prog 35 [] (fun v => v = tyB.enc r)
  | 0, _, h => by cases h
  | n + 1, r, h => by
    exact fnC_run (M := law13_awake_m n) ⟨(tabA_cons_ok (ent1_ok (law13_constant_ok n)) tabA_nil_ok), (tabD_cons_ok (ent1_okD (positivity_Check_ok n)) (tabD_cons_ok (ent2_okD (positivity_Positive_ok n)) (tabD_cons_ok (ent2_okD (law13_arrow_ok n)) (tabD_cons_ok (ent1_okD (law13_one_ok n)) tabD_nil_ok)))), tabN_ok _, tabF_ok _⟩ Try.func35 rfl rfl trivial Try.ntmps35 Try.results35 (fun σ hs => outR_ok (P := Try.prog) (rs := [.tmp 0]) (t := tyB) (σ := σ) (r := r) hs) (((law13_awake_e n).2).trans h)
end Go.Abs
namespace Go.Abs
open Go.Proofs
set_option maxRecDepth 100000
set_option maxHeartbeats 4000000
set_option linter.unusedSimpArgs false
set_option linter.unusedVariables false
noncomputable def law13_PositivityChecks_m (n : Nat) : Mach Bool where
  body := (Try.f8.body).getD .skip
  P := Try.prog
  cl := tabA [(16, ent1 (tyC Decl.cel) tyB (law12_Few n)), (35, ent0  tyB (law13_awake n)), (36, ent1 (tyC Decl.cel) (ty3 (tyI .i64) (tyI .i64) (tyI .i64)) (positivity_Check n)), (37, ent1 (tyC Decl.cel) (ty3 (tyI .i64) (tyI .i64) (tyI .i64)) (ref13_Check n))]
  cd := tabD []
  nrm := tabN []
  cut := tabF []
  n := n
  out := outR Try.prog [.tmp 2] tyB
theorem law13_PositivityChecks_f (n : Nat) : (law13_PositivityChecks_m n).P = Try.prog ∧ (law13_PositivityChecks_m n).cl = tabA [(16, ent1 (tyC Decl.cel) tyB (law12_Few n)), (35, ent0  tyB (law13_awake n)), (36, ent1 (tyC Decl.cel) (ty3 (tyI .i64) (tyI .i64) (tyI .i64)) (positivity_Check n)), (37, ent1 (tyC Decl.cel) (ty3 (tyI .i64) (tyI .i64) (tyI .i64)) (ref13_Check n))] ∧ (law13_PositivityChecks_m n).cd = tabD [] ∧ (law13_PositivityChecks_m n).nrm = tabN [] ∧ (law13_PositivityChecks_m n).cut = tabF [] ∧ (law13_PositivityChecks_m n).n = n ∧ (law13_PositivityChecks_m n).out = outR Try.prog [.tmp 2] tyB := ⟨rfl, rfl, rfl, rfl, rfl, rfl, rfl⟩
theorem law13_PositivityChecks_c (n : Nat) : (law13_PositivityChecks_m n).body = (Try.f8.body).getD .skip := rfl
noncomputable def law13_PositivityChecks_e (n : Nat) : { B : Decl → Option Bool // ∀ (a0 : Decl), run (law13_PositivityChecks_m n) [.at []] { slots := [(tyC Decl.cel).enc a0] ++ List.replicate (41 - [(tyC Decl.cel).enc a0].length) .any, heap := [] } = B a0 } := by
  apply Subtype.mk
  intro a0
  simp (config := { maxSteps := 100000000 }) only [go_sem, Nat.reduceAdd, Nat.reduceSub, Nat.reduceLeDiff, Nat.reduceEqDiff, Nat.reduceBEq, Nat.reduceMul, Nat.reduceLT, Int.reduceLE, Int.reduceLT, Int.reduceToNat, Int.reduceBEq, Int.reduceEq, law13_PositivityChecks_f, law13_PositivityChecks_c, Try.f8, Option.getD_some, mixed]
  exact rfl
noncomputable def law13_PositivityChecks : Nat → Decl → Option Bool
  | 0, _ => none
  | n + 1, a0 => (law13_PositivityChecks_e n).1 a0
theorem law13_PositivityChecks_ok : ∀ (n : Nat) (a0 : Decl) (r : Bool), law13_PositivityChecks n a0 = some r → FnC Try.prog 8 [(tyC Decl.cel).enc a0] (fun v => v = tyB.enc r)
  | 0, _, _, h => by cases h
  | n + 1, a0, r, h => by
    exact fnC_run (M := law13_PositivityChecks_m n) ⟨(tabA_cons_ok (ent1_ok (law12_Few_ok n)) (tabA_cons_ok (ent0_ok (law13_awake_ok n)) (tabA_cons_ok (ent1_ok (positivity_Check_ok n)) (tabA_cons_ok (ent1_ok (ref13_Check_ok n)) tabA_nil_ok)))), tabD_nil_ok, tabN_ok _, tabF_ok _⟩ Try.func8 rfl rfl ⟨(tyC Decl.cel).nb 0 _, trivial⟩ Try.ntmps8 Try.results8 (fun σ hs => outR_ok (P := Try.prog) (rs := [.tmp 2]) (t := tyB) (σ := σ) (r := r) hs) (((law13_PositivityChecks_e n).2 a0).trans h)

noncomputable def law13_PositivityBegins_n1 : Nrm := ⟨[], [], [zA, zK, zA, zK, zK, zK, zK, zA, zA, zA, zA, zA, zA, zA, zA, zA, zA, zA, zA, zA, zA, zA, zA, zA, zA, zA, zA, zA, zA, zA, zA, zA, zA, zA, zA, zA, zA, zA, zA, zA, zA, zA, zA, zA, zA, zA, zA, zA, zA, zA, zA, zA, zA, zA, zA, zA, zA, zA, zA, zA, zA, zA, zA, zA, zA, zA, zA, zA, zA, zA, zA, zA, zA, zA, zA, zA, zA, zA, zA, zA, zA, zA, zA, zA, zA, zA, zA, zA, zA, zA, zA, zA, zA, zA, zA, zA, zA], [oT Decl.cel]⟩
noncomputable def law13_PositivityBegins_m (n : Nat) : Mach Bool where
  body := (Try.f10.body).getD .skip
  P := Try.prog
  cl := tabA [(16, ent1 (tyC Decl.cel) tyB (law12_Few n)), (35, ent0  tyB (law13_awake n)), (36, ent1 (tyC Decl.cel) (ty3 (tyI .i64) (tyI .i64) (tyI .i64)) (positivity_Check n))]
  cd := tabD []
  nrm := tabN [([0, 1, 0, 1, 1, 1, 1], law13_PositivityBegins_n1)]
  cut := tabF []
  n := n
  out := outR Try.prog [.tmp 2] tyB
theorem law13_PositivityBegins_f (n : Nat) : (law13_PositivityBegins_m n).P = Try.prog ∧ (law13_PositivityBegins_m n).cl = tabA [(16, ent1 (tyC Decl.cel) tyB (law12_Few n)), (35, ent0  tyB (law13_awake n)), (36, ent1 (tyC Decl.cel) (ty3 (tyI .i64) (tyI .i64) (tyI .i64)) (positivity_Check n))] ∧ (law13_PositivityBegins_m n).cd = tabD [] ∧ (law13_PositivityBegins_m n).nrm = tabN [([0, 1, 0, 1, 1, 1, 1], law13_PositivityBegins_n1)] ∧ (law13_PositivityBegins_m n).cut = tabF [] ∧ (law13_PositivityBegins_m n).n = n ∧ (law13_PositivityBegins_m n).out = outR Try.prog [.tmp 2] tyB := ⟨rfl, rfl, rfl, rfl, rfl, rfl, rfl⟩
theorem law13_PositivityBegins_c (n : Nat) : (law13_PositivityBegins_m n).body = (Try.f10.body).getD .skip := rfl
noncomputable def law13_PositivityBegins_b1 (n : Nat) : { B : (Int → Int → Int → Int → Decl → Option Bool) → Int → Int → Int → Int → Decl → Option Bool // ∀ m X0, (∀ (v0 : Int) (v1 : Int) (v2 : Int) (v3 : Int) (o0 : Decl), run (law13_PositivityBegins_m n) [.lq m [0, 1, 0, 1, 1, 1, 1], .blk 0, .cut [1, 1, 1, 1, 1], .at [1, 1, 1, 1, 1]] ⟨[.any, .ptr 0 0, .any, .int .i64 v0, .int .i64 v1, .int .i64 v2, .int .i64 v3, .any, .any, .any, .any, .any, .any, .any, .any, .any, .any, .any, .any, .any, .any, .any, .any, .any, .any, .any, .any, .any, .any, .any, .any, .any, .any, .any, .any, .any, .any, .any, .any, .any, .any, .any, .any, .any, .any, .any, .any, .any, .any, .any, .any, .any, .any, .any, .any, .any, .any, .any, .any, .any, .any, .any, .any, .any, .any, .any, .any, .any, .any, .any, .any, .any, .any, .any, .any, .any, .any, .any, .any, .any, .any, .any, .any, .any, .any, .any, .any, .any, .any, .any, .any, .any, .any, .any, .any, .any, .any], [.cells (Decl.cells o0)], 0⟩ = X0 v0 v1 v2 v3 o0) → ∀ (v0 : Int) (v1 : Int) (v2 : Int) (v3 : Int) (o0 : Decl), run (law13_PositivityBegins_m n) [.at [0, 0, 1, 0, 1, 1, 1, 1], .lp m [0, 1, 0, 1, 1, 1, 1], .blk 0, .cut [1, 1, 1, 1, 1], .at [1, 1, 1, 1, 1]] ⟨[.any, .ptr 0 0, .any, .int .i64 v0, .int .i64 v1, .int .i64 v2, .int .i64 v3, .any, .any, .any, .any, .any, .any, .any, .any, .any, .any, .any, .any, .any, .any, .any, .any, .any, .any, .any, .any, .any, .any, .any, .any, .any, .any, .any, .any, .any, .any, .any, .any, .any, .any, .any, .any, .any, .any, .any, .any, .any, .any, .any, .any, .any, .any, .any, .any, .any, .any, .any, .any, .any, .any, .any, .any, .any, .any, .any, .any, .any, .any, .any, .any, .any, .any, .any, .any, .any, .any, .any, .any, .any, .any, .any, .any, .any, .any, .any, .any, .any, .any, .any, .any, .any, .any, .any, .any, .any, .any], [.cells (Decl.cells o0)], 0⟩ = B X0 v0 v1 v2 v3 o0 } := by
  apply Subtype.mk
  intro m X0 ih v0 v1 v2 v3 o0
  simp (config := { maxSteps := 100000000 }) only [go_sem, Nat.reduceAdd, Nat.reduceSub, Nat.reduceLeDiff, Nat.reduceEqDiff, Nat.reduceBEq, Nat.reduceMul, Nat.reduceLT, Int.reduceLE, Int.reduceLT, Int.reduceToNat, Int.reduceBEq, Int.reduceEq, law13_PositivityBegins_f, law13_PositivityBegins_c, Try.f10, Option.getD_some, mixed, law13_PositivityBegins_n1, ih]
  exact rfl
noncomputable def law13_PositivityBegins_l1 (n : Nat) : Nat → Int → Int → Int → Int → Decl → Option Bool
  | 0, _, _, _, _, _ => none
  | m + 1, v0, v1, v2, v3, o0 => (law13_PositivityBegins_b1 n).1 (law13_PositivityBegins_l1 n m) v0 v1 v2 v3 o0
theorem law13_PositivityBegins_l1_eq (n : Nat) : ∀ (m : Nat), (∀ (v0 : Int) (v1 : Int) (v2 : Int) (v3 : Int) (o0 : Decl), run (law13_PositivityBegins_m n) [.lq m [0, 1, 0, 1, 1, 1, 1], .blk 0, .cut [1, 1, 1, 1, 1], .at [1, 1, 1, 1, 1]] ⟨[.any, .ptr 0 0, .any, .int .i64 v0, .int .i64 v1, .int .i64 v2, .int .i64 v3, .any, .any, .any, .any, .any, .any, .any, .any, .any, .any, .any, .any, .any, .any, .any, .any, .any, .any, .any, .any, .any, .any, .any, .any, .any, .any, .any, .any, .any, .any, .any, .any, .any, .any, .any, .any, .any, .any, .any, .any, .any, .any, .any, .any, .any, .any, .any, .any, .any, .any, .any, .any, .any, .any, .any, .any, .any, .any, .any, .any, .any, .any, .any, .any, .any, .any, .any, .any, .any, .any, .any, .any, .any, .any, .any, .any, .any, .any, .any, .any, .any, .any, .any, .any, .any, .any, .any, .any, .any, .any], [.cells (Decl.cells o0)], 0⟩ = law13_PositivityBegins_l1 n m v0 v1 v2 v3 o0)
  | 0 => by intros; exact run_lq_zero
  | m + 1 => by
    have ih := law13_PositivityBegins_l1_eq n m
    intro v0 v1 v2 v3 o0
    rw [run_lq_succ]
    exact (law13_PositivityBegins_b1 n).2  m _  ih v0 v1 v2 v3 o0
noncomputable def law13_PositivityBegins_e (n : Nat) : { B : Decl → Option Bool // ∀ (a0 : Decl), run (law13_PositivityBegins_m n) [.at []] { slots := [(tyC Decl.cel).enc a0] ++ List.replicate (97 - [(tyC Decl.cel).enc a0].length) .any, heap := [] } = B a0 } := by
  apply Subtype.mk
  intro a0
  simp (config := { maxSteps := 100000000 }) only [go_sem, Nat.reduceAdd, Nat.reduceSub, Nat.reduceLeDiff, Nat.reduceEqDiff, Nat.reduceBEq, Nat.reduceMul, Nat.reduceLT, Int.reduceLE, Int.reduceLT, Int.reduceToNat, Int.reduceBEq, Int.reduceEq, law13_PositivityBegins_f, law13_PositivityBegins_c, Try.f10, Option.getD_some, mixed, law13_PositivityBegins_n1, law13_PositivityBegins_l1_eq n]
  exact rfl
noncomputable def law13_PositivityBegins : Nat → Decl → Option Bool
  | 0, _ => none
  | n + 1, a0 => (law13_PositivityBegins_e n).1 a0
theorem law13_PositivityBegins_ok : ∀ (n : Nat) (a0 : Decl) (r : Bool), law13_PositivityBegins n a0 = some r → FnC Try.prog 10 [(tyC Decl.cel).enc a0] (fun v => v = tyB.enc r)
  | 0, _, _, h => by cases h
  | n + 1, a0, r, h => by
    exact fnC_run (M := law13_PositivityBegins_m n) ⟨(tabA_cons_ok (ent1_ok (law12_Few_ok n)) (tabA_cons_ok (ent0_ok (law13_awake_ok n)) (tabA_cons_ok (ent1_ok (positivity_Check_ok n)) tabA_nil_ok))), tabD_nil_ok, tabN_ok _, tabF_ok _⟩ Try.func10 rfl rfl ⟨(tyC Decl.cel).nb 0 _, trivial⟩ Try.ntmps10 Try.results10 (fun σ hs => outR_ok (P := Try.prog) (rs := [.tmp 2]) (t := tyB) (σ := σ) (r := r) hs) (((law13_PositivityBegins_e n).2 a0).trans h)

noncomputable def law13_PositivityAllows_n1 : Nrm := ⟨[(11, 5, true)], [], [zA, zA, zA, zA, zA, zA, zK, zA, zT (tyK1 42 (tyP Decl.cel)), zK, zK, zK, zK, zK, zA, zA, zA, zA, zA, zA, zA, zA, zA, zA, zA, zA, zA, zA, zA, zA, zA, zA, zA, zA, zA, zA, zA, zA, zA, zA, zA, zA, zA, zA, zA, zA, zA, zA, zA, zA, zA, zA, zA, zA, zA, zA, zA, zA, zA, zA, zA, zA, zA, zA, zA, zA, zA, zA, zA, zA, zA, zA, zA, zA, zA, zA, zA, zA, zA, zA, zA, zA, zA, zA, zA, zA, zA, zA, zA, zA, zA, zA, zA, zA, zA, zA, zA, zA, zA, zA, zA, zA, zA, zA, zA, zA, zA], [oD, oT Family.cel, oT CtorForm.cel, oA Term.row]⟩
noncomputable def law13_PositivityAllows_n2 : Nrm := ⟨[], [], [zA, zA, zA, zA, zA, zA, zK, zA, zT (tyK1 42 (tyP Decl.cel)), zK, zA, zA, zA, zA, zA, zA, zA, zA, zA, zA, zA, zA, zA, zA, zA, zA, zA, zA, zA, zA, zA, zA, zA, zA, zA, zA, zA, zA, zA, zA, zA, zA, zA, zA, zA, zA, zA, zA, zA, zA, zA, zA, zA, zA, zA, zA, zA, zA, zA, zA, zA, zA, zA, zA, zA, zA, zA, zA, zA, zA, zA, zA, zA, zA, zA, zA, zA, zA, zA, zA, zA, zA, zA, zA, zA, zA, zA, zA, zA, zA, zA, zA, zA, zA, zA, zA, zA, zA, zA, zA, zA, zA, zA, zA, zA, zA, zA], [oD, oT Family.cel]⟩
noncomputable def law13_PositivityAllows_m (n : Nat) : Mach Bool where
  body := (Try.f12.body).getD .skip
  P := Try.prog
  cl := tabA [(16, ent1 (tyC Decl.cel) tyB (law12_Few n)), (18, ent1 (tyC Decl.cel) (ty2 (tyC Family.cel) (tyI .i64)) (family_Analyse n)), (35, ent0  tyB (law13_awake n)), (36, ent1 (tyC Decl.cel) (ty3 (tyI .i64) (tyI .i64) (tyI .i64)) (positivity_Check n)), (42, ent2 (tyL Term.row) (tyP Decl.cel) tyB (law13_PositivityAllows_1 n))]
  cd := tabD []
  nrm := tabN [([0, 1, 0, 1, 1, 1, 0, 0, 1, 0, 0, 1, 0, 1, 1, 1, 1, 1, 1], law13_PositivityAllows_n1), ([0, 1, 0, 1, 1, 1, 1, 1, 1], law13_PositivityAllows_n2)]
  cut := tabF [([1, 1, 1, 1, 1, 1], [0])]
  n := n
  out := outR Try.prog [.tmp 2] tyB
theorem law13_PositivityAllows_f (n : Nat) : (law13_PositivityAllows_m n).P = Try.prog ∧ (law13_PositivityAllows_m n).cl = tabA [(16, ent1 (tyC Decl.cel) tyB (law12_Few n)), (18, ent1 (tyC Decl.cel) (ty2 (tyC Family.cel) (tyI .i64)) (family_Analyse n)), (35, ent0  tyB (law13_awake n)), (36, ent1 (tyC Decl.cel) (ty3 (tyI .i64) (tyI .i64) (tyI .i64)) (positivity_Check n)), (42, ent2 (tyL Term.row) (tyP Decl.cel) tyB (law13_PositivityAllows_1 n))] ∧ (law13_PositivityAllows_m n).cd = tabD [] ∧ (law13_PositivityAllows_m n).nrm = tabN [([0, 1, 0, 1, 1, 1, 0, 0, 1, 0, 0, 1, 0, 1, 1, 1, 1, 1, 1], law13_PositivityAllows_n1), ([0, 1, 0, 1, 1, 1, 1, 1, 1], law13_PositivityAllows_n2)] ∧ (law13_PositivityAllows_m n).cut = tabF [([1, 1, 1, 1, 1, 1], [0])] ∧ (law13_PositivityAllows_m n).n = n ∧ (law13_PositivityAllows_m n).out = outR Try.prog [.tmp 2] tyB := ⟨rfl, rfl, rfl, rfl, rfl, rfl, rfl⟩
theorem law13_PositivityAllows_c (n : Nat) : (law13_PositivityAllows_m n).body = (Try.f12.body).getD .skip := rfl
noncomputable def law13_PositivityAllows_b1 (n : Nat) : { B : (Decl → Int → Family → Option Bool) → (Decl → Int → Int → Int → Family → CtorForm → (List Term) → Option Bool) → Decl → Int → Int → Int → Family → CtorForm → (List Term) → Option Bool // ∀ m2 X2 m X0, (∀ (v0 : Decl) (v1 : Int) (o1 : Family), run (law13_PositivityAllows_m n) [.lq m2 [0, 1, 0, 1, 1, 1, 1, 1, 1], .blk 0, .cut [1, 1, 1, 1, 1, 1, 1], .at [1, 1, 1, 1, 1, 1, 1]] ⟨[.any, .any, .any, .any, .any, .any, .ptr 1 0, .any, .func (.func 42) [] [.pp (Decl.cells v0)], .int .i64 v1, .any, .any, .any, .any, .any, .any, .any, .any, .any, .any, .any, .any, .any, .any, .any, .any, .any, .any, .any, .any, .any, .any, .any, .any, .any, .any, .any, .any, .any, .any, .any, .any, .any, .any, .any, .any, .any, .any, .any, .any, .any, .any, .any, .any, .any, .any, .any, .any, .any, .any, .any, .any, .any, .any, .any, .any, .any, .any, .any, .any, .any, .any, .any, .any, .any, .any, .any, .any, .any, .any, .any, .any, .any, .any, .any, .any, .any, .any, .any, .any, .any, .any, .any, .any, .any, .any, .any, .any, .any, .any, .any, .any, .any, .any, .any, .any, .any], [.dead, .cells (Family.cells o1)], 0⟩ = X2 v0 v1 o1) → (∀ (v0 : Decl) (v1 : Int) (v2 : Int) (v3 : Int) (o1 : Family) (o2 : CtorForm) (r3 : List Term) (c3 : Nat), c3 = r3.length → run (law13_PositivityAllows_m n) [.lq m [0, 1, 0, 1, 1, 1, 0, 0, 1, 0, 0, 1, 0, 1, 1, 1, 1, 1, 1], .blk 2, .cut [1, 1, 1, 1, 0, 0, 1, 0, 0, 1, 0, 1, 1, 1, 1, 1, 1], .at [1, 1, 1, 1, 0, 0, 1, 0, 0, 1, 0, 1, 1, 1, 1, 1, 1], .blk 1, .cut [1, 1, 0, 0, 1, 0, 1, 1, 1, 1, 1, 1], .at [1, 1, 0, 0, 1, 0, 1, 1, 1, 1, 1, 1], .lp m2 [0, 1, 0, 1, 1, 1, 1, 1, 1], .blk 0, .cut [1, 1, 1, 1, 1, 1, 1], .at [1, 1, 1, 1, 1, 1, 1]] ⟨[.any, .any, .any, .any, .any, .any, .ptr 1 0, .any, .func (.func 42) [] [.pp (Decl.cells v0)], .int .i64 v1, .ptr 2 0, .acc 3 c3, .int .i64 v2, .int .i64 v3, .any, .any, .any, .any, .any, .any, .any, .any, .any, .any, .any, .any, .any, .any, .any, .any, .any, .any, .any, .any, .any, .any, .any, .any, .any, .any, .any, .any, .any, .any, .any, .any, .any, .any, .any, .any, .any, .any, .any, .any, .any, .any, .any, .any, .any, .any, .any, .any, .any, .any, .any, .any, .any, .any, .any, .any, .any, .any, .any, .any, .any, .any, .any, .any, .any, .any, .any, .any, .any, .any, .any, .any, .any, .any, .any, .any, .any, .any, .any, .any, .any, .any, .any, .any, .any, .any, .any, .any, .any, .any, .any, .any, .any], [.dead, .cells (Family.cells o1), .cells (CtorForm.cells o2), .acc true 5 (mp Term.cells r3)], 0⟩ = X0 v0 v1 v2 v3 o1 o2 r3) → ∀ (v0 : Decl) (v1 : Int) (v2 : Int) (v3 : Int) (o1 : Family) (o2 : CtorForm) (r3 : List Term), run (law13_PositivityAllows_m n) [.at [0, 0, 1, 0, 1, 1, 1, 0, 0, 1, 0, 0, 1, 0, 1, 1, 1, 1, 1, 1], .lp m [0, 1, 0, 1, 1, 1, 0, 0, 1, 0, 0, 1, 0, 1, 1, 1, 1, 1, 1], .blk 2, .cut [1, 1, 1, 1, 0, 0, 1, 0, 0, 1, 0, 1, 1, 1, 1, 1, 1], .at [1, 1, 1, 1, 0, 0, 1, 0, 0, 1, 0, 1, 1, 1, 1, 1, 1], .blk 1, .cut [1, 1, 0, 0, 1, 0, 1, 1, 1, 1, 1, 1], .at [1, 1, 0, 0, 1, 0, 1, 1, 1, 1, 1, 1], .lp m2 [0, 1, 0, 1, 1, 1, 1, 1, 1], .blk 0, .cut [1, 1, 1, 1, 1, 1, 1], .at [1, 1, 1, 1, 1, 1, 1]] ⟨[.any, .any, .any, .any, .any, .any, .ptr 1 0, .any, .func (.func 42) [] [.pp (Decl.cells v0)], .int .i64 v1, .ptr 2 0, .acc 3 r3.length, .int .i64 v2, .int .i64 v3, .any, .any, .any, .any, .any, .any, .any, .any, .any, .any, .any, .any, .any, .any, .any, .any, .any, .any, .any, .any, .any, .any, .any, .any, .any, .any, .any, .any, .any, .any, .any, .any, .any, .any, .any, .any, .any, .any, .any, .any, .any, .any, .any, .any, .any, .any, .any, .any, .any, .any, .any, .any, .any, .any, .any, .any, .any, .any, .any, .any, .any, .any, .any, .any, .any, .any, .any, .any, .any, .any, .any, .any, .any, .any, .any, .any, .any, .any, .any, .any, .any, .any, .any, .any, .any, .any, .any, .any, .any, .any, .any, .any, .any], [.dead, .cells (Family.cells o1), .cells (CtorForm.cells o2), .acc true 5 (mp Term.cells r3)], 0⟩ = B X2 X0 v0 v1 v2 v3 o1 o2 r3 } := by
  apply Subtype.mk
  intro m2 X2 m X0 h2 ih v0 v1 v2 v3 o1 o2 r3
  simp (config := { maxSteps := 100000000 }) only [go_sem, Nat.reduceAdd, Nat.reduceSub, Nat.reduceLeDiff, Nat.reduceEqDiff, Nat.reduceBEq, Nat.reduceMul, Nat.reduceLT, Int.reduceLE, Int.reduceLT, Int.reduceToNat, Int.reduceBEq, Int.reduceEq, law13_PositivityAllows_f, law13_PositivityAllows_c, Try.f12, Option.getD_some, mixed, law13_PositivityAllows_n1, law13_PositivityAllows_n2, h2, ih]
  exact rfl
noncomputable def law13_PositivityAllows_l1 (n : Nat) (X2 : Decl → Int → Family → Option Bool) : Nat → Decl → Int → Int → Int → Family → CtorForm → (List Term) → Option Bool
  | 0, _, _, _, _, _, _, _ => none
  | m + 1, v0, v1, v2, v3, o1, o2, r3 => (law13_PositivityAllows_b1 n).1 X2 (law13_PositivityAllows_l1 n X2 m) v0 v1 v2 v3 o1 o2 r3
theorem law13_PositivityAllows_l1_eq (n : Nat) (m2 : Nat) (X2 : Decl → Int → Family → Option Bool) (h2 : (∀ (v0 : Decl) (v1 : Int) (o1 : Family), run (law13_PositivityAllows_m n) [.lq m2 [0, 1, 0, 1, 1, 1, 1, 1, 1], .blk 0, .cut [1, 1, 1, 1, 1, 1, 1], .at [1, 1, 1, 1, 1, 1, 1]] ⟨[.any, .any, .any, .any, .any, .any, .ptr 1 0, .any, .func (.func 42) [] [.pp (Decl.cells v0)], .int .i64 v1, .any, .any, .any, .any, .any, .any, .any, .any, .any, .any, .any, .any, .any, .any, .any, .any, .any, .any, .any, .any, .any, .any, .any, .any, .any, .any, .any, .any, .any, .any, .any, .any, .any, .any, .any, .any, .any, .any, .any, .any, .any, .any, .any, .any, .any, .any, .any, .any, .any, .any, .any, .any, .any, .any, .any, .any, .any, .any, .any, .any, .any, .any, .any, .any, .any, .any, .any, .any, .any, .any, .any, .any, .any, .any, .any, .any, .any, .any, .any, .any, .any, .any, .any, .any, .any, .any, .any, .any, .any, .any, .any, .any, .any, .any, .any, .any, .any], [.dead, .cells (Family.cells o1)], 0⟩ = X2 v0 v1 o1)) : ∀ (m : Nat), (∀ (v0 : Decl) (v1 : Int) (v2 : Int) (v3 : Int) (o1 : Family) (o2 : CtorForm) (r3 : List Term) (c3 : Nat), c3 = r3.length → run (law13_PositivityAllows_m n) [.lq m [0, 1, 0, 1, 1, 1, 0, 0, 1, 0, 0, 1, 0, 1, 1, 1, 1, 1, 1], .blk 2, .cut [1, 1, 1, 1, 0, 0, 1, 0, 0, 1, 0, 1, 1, 1, 1, 1, 1], .at [1, 1, 1, 1, 0, 0, 1, 0, 0, 1, 0, 1, 1, 1, 1, 1, 1], .blk 1, .cut [1, 1, 0, 0, 1, 0, 1, 1, 1, 1, 1, 1], .at [1, 1, 0, 0, 1, 0, 1, 1, 1, 1, 1, 1], .lp m2 [0, 1, 0, 1, 1, 1, 1, 1, 1], .blk 0, .cut [1, 1, 1, 1, 1, 1, 1], .at [1, 1, 1, 1, 1, 1, 1]] ⟨[.any, .any, .any, .any, .any, .any, .ptr 1 0, .any, .func (.func 42) [] [.pp (Decl.cells v0)], .int .i64 v1, .ptr 2 0, .acc 3 c3, .int .i64 v2, .int .i64 v3, .any, .any, .any, .any, .any, .any, .any, .any, .any, .any, .any, .any, .any, .any, .any, .any, .any, .any, .any, .any, .any, .any, .any, .any, .any, .any, .any, .any, .any, .any, .any, .any, .any, .any, .any, .any, .any, .any, .any, .any, .any, .any, .any, .any, .any, .any, .any, .any, .any, .any, .any, .any, .any, .any, .any, .any, .any, .any, .any, .any, .any, .any, .any, .any, .any, .any, .any, .any, .any, .any, .any, .any, .any, .any, .any, .any, .any, .any, .any, .any, .any, .any, .any, .any, .any, .any, .any, .any, .any, .any, .any, .any, .any], [.dead, .cells (Family.cells o1), .cells (CtorForm.cells o2), .acc true 5 (mp Term.cells r3)], 0⟩ = law13_PositivityAllows_l1 n X2 m v0 v1 v2 v3 o1 o2 r3)
  | 0 => by intros; exact run_lq_zero
  | m + 1 => by
    have ih := law13_PositivityAllows_l1_eq n m2 X2 h2 m
    intro v0 v1 v2 v3 o1 o2 r3 c3 ec3
    subst ec3
    rw [run_lq_succ]
    exact (law13_PositivityAllows_b1 n).2 m2 X2 m _ h2 ih v0 v1 v2 v3 o1 o2 r3
noncomputable def law13_PositivityAllows_b2 (n : Nat) : { B : (Decl → Int → Family → Option Bool) → Decl → Int → Family → Option Bool // ∀ m X0, (∀ (v0 : Decl) (v1 : Int) (o1 : Family), run (law13_PositivityAllows_m n) [.lq m [0, 1, 0, 1, 1, 1, 1, 1, 1], .blk 0, .cut [1, 1, 1, 1, 1, 1, 1], .at [1, 1, 1, 1, 1, 1, 1]] ⟨[.any, .any, .any, .any, .any, .any, .ptr 1 0, .any, .func (.func 42) [] [.pp (Decl.cells v0)], .int .i64 v1, .any, .any, .any, .any, .any, .any, .any, .any, .any, .any, .any, .any, .any, .any, .any, .any, .any, .any, .any, .any, .any, .any, .any, .any, .any, .any, .any, .any, .any, .any, .any, .any, .any, .any, .any, .any, .any, .any, .any, .any, .any, .any, .any, .any, .any, .any, .any, .any, .any, .any, .any, .any, .any, .any, .any, .any, .any, .any, .any, .any, .any, .any, .any, .any, .any, .any, .any, .any, .any, .any, .any, .any, .any, .any, .any, .any, .any, .any, .any, .any, .any, .any, .any, .any, .any, .any, .any, .any, .any, .any, .any, .any, .any, .any, .any, .any, .any], [.dead, .cells (Family.cells o1)], 0⟩ = X0 v0 v1 o1) → ∀ (v0 : Decl) (v1 : Int) (o1 : Family), run (law13_PositivityAllows_m n) [.at [0, 0, 1, 0, 1, 1, 1, 1, 1, 1], .lp m [0, 1, 0, 1, 1, 1, 1, 1, 1], .blk 0, .cut [1, 1, 1, 1, 1, 1, 1], .at [1, 1, 1, 1, 1, 1, 1]] ⟨[.any, .any, .any, .any, .any, .any, .ptr 1 0, .any, .func (.func 42) [] [.pp (Decl.cells v0)], .int .i64 v1, .any, .any, .any, .any, .any, .any, .any, .any, .any, .any, .any, .any, .any, .any, .any, .any, .any, .any, .any, .any, .any, .any, .any, .any, .any, .any, .any, .any, .any, .any, .any, .any, .any, .any, .any, .any, .any, .any, .any, .any, .any, .any, .any, .any, .any, .any, .any, .any, .any, .any, .any, .any, .any, .any, .any, .any, .any, .any, .any, .any, .any, .any, .any, .any, .any, .any, .any, .any, .any, .any, .any, .any, .any, .any, .any, .any, .any, .any, .any, .any, .any, .any, .any, .any, .any, .any, .any, .any, .any, .any, .any, .any, .any, .any, .any, .any, .any], [.dead, .cells (Family.cells o1)], 0⟩ = B X0 v0 v1 o1 } := by
  apply Subtype.mk
  intro m X0 ih v0 v1 o1
  simp (config := { maxSteps := 100000000 }) only [go_sem, Nat.reduceAdd, Nat.reduceSub, Nat.reduceLeDiff, Nat.reduceEqDiff, Nat.reduceBEq, Nat.reduceMul, Nat.reduceLT, Int.reduceLE, Int.reduceLT, Int.reduceToNat, Int.reduceBEq, Int.reduceEq, law13_PositivityAllows_f, law13_PositivityAllows_c, Try.f12, Option.getD_some, mixed, law13_PositivityAllows_n1, law13_PositivityAllows_n2, law13_PositivityAllows_l1_eq n m X0 ih, ih]
  exact rfl
noncomputable def law13_PositivityAllows_l2 (n : Nat) : Nat → Decl → Int → Family → Option Bool
  | 0, _, _, _ => none
  | m + 1, v0, v1, o1 => (law13_PositivityAllows_b2 n).1 (law13_PositivityAllows_l2 n m) v0 v1 o1
theorem law13_PositivityAllows_l2_eq (n : Nat) : ∀ (m : Nat), (∀ (v0 : Decl) (v1 : Int) (o1 : Family), run (law13_PositivityAllows_m n) [.lq m [0, 1, 0, 1, 1, 1, 1, 1, 1], .blk 0, .cut [1, 1, 1, 1, 1, 1, 1], .at [1, 1, 1, 1, 1, 1, 1]] ⟨[.any, .any, .any, .any, .any, .any, .ptr 1 0, .any, .func (.func 42) [] [.pp (Decl.cells v0)], .int .i64 v1, .any, .any, .any, .any, .any, .any, .any, .any, .any, .any, .any, .any, .any, .any, .any, .any, .any, .any, .any, .any, .any, .any, .any, .any, .any, .any, .any, .any, .any, .any, .any, .any, .any, .any, .any, .any, .any, .any, .any, .any, .any, .any, .any, .any, .any, .any, .any, .any, .any, .any, .any, .any, .any, .any, .any, .any, .any, .any, .any, .any, .any, .any, .any, .any, .any, .any, .any, .any, .any, .any, .any, .any, .any, .any, .any, .any, .any, .any, .any, .any, .any, .any, .any, .any, .any, .any, .any, .any, .any, .any, .any, .any, .any, .any, .any, .any, .any], [.dead, .cells (Family.cells o1)], 0⟩ = law13_PositivityAllows_l2 n m v0 v1 o1)
  | 0 => by intros; exact run_lq_zero
  | m + 1 => by
    have ih := law13_PositivityAllows_l2_eq n m
    intro v0 v1 o1
    rw [run_lq_succ]
    exact (law13_PositivityAllows_b2 n).2  m _  ih v0 v1 o1
noncomputable def law13_PositivityAllows_e (n : Nat) : { B : Decl → Option Bool // ∀ (a0 : Decl), run (law13_PositivityAllows_m n) [.at []] { slots := [(tyC Decl.cel).enc a0] ++ List.replicate (107 - [(tyC Decl.cel).enc a0].length) .any, heap := [] } = B a0 } := by
  apply Subtype.mk
  intro a0
  simp (config := { maxSteps := 100000000 }) only [go_sem, Nat.reduceAdd, Nat.reduceSub, Nat.reduceLeDiff, Nat.reduceEqDiff, Nat.reduceBEq, Nat.reduceMul, Nat.reduceLT, Int.reduceLE, Int.reduceLT, Int.reduceToNat, Int.reduceBEq, Int.reduceEq, law13_PositivityAllows_f, law13_PositivityAllows_c, Try.f12, Option.getD_some, mixed, law13_PositivityAllows_n1, law13_PositivityAllows_n2, law13_PositivityAllows_l2_eq n]
  exact rfl
noncomputable def law13_PositivityAllows : Nat → Decl → Option Bool
  | 0, _ => none
  | n + 1, a0 => (law13_PositivityAllows_e n).1 a0
theorem law13_PositivityAllows_ok : ∀ (n : Nat) (a0 : Decl) (r : Bool), law13_PositivityAllows n a0 = some r → FnC Try.prog 12 [(tyC Decl.cel).enc a0] (fun v => v = tyB.enc r)
  | 0, _, _, h => by cases h
  | n + 1, a0, r, h => by
    exact fnC_run (M := law13_PositivityAllows_m n) ⟨(tabA_cons_ok (ent1_ok (law12_Few_ok n)) (tabA_cons_ok (ent1_ok (family_Analyse_ok n)) (tabA_cons_ok (ent0_ok (law13_awake_ok n)) (tabA_cons_ok (ent1_ok (positivity_Check_ok n)) (tabA_cons_ok (ent2_ok (law13_PositivityAllows_1_ok n)) tabA_nil_ok))))), tabD_nil_ok, tabN_ok _, tabF_ok _⟩ Try.func12 rfl rfl ⟨(tyC Decl.cel).nb 0 _, trivial⟩ Try.ntmps12 Try.results12 (fun σ hs => outR_ok (P := Try.prog) (rs := [.tmp 2]) (t := tyB) (σ := σ) (r := r) hs) (((law13_PositivityAllows_e n).2 a0).trans h)
end Go.Abs
