/- Plain functions and contracts, printed by mk.py: ref12_Closed, family_alike_Term_term_Same, ref12_result, ref12_SameCtor. -/
import Derived.Test.YtgimdhmoloobkaaDataA
import Derived.Test.YtgimdhmoloobkaaWalkA
import Derived.Test.YtgimdhmoloobkaaWalkB
namespace Go.Abs
open Go.Proofs
set_option maxRecDepth 100000
set_option maxHeartbeats 4000000
set_option linter.unusedSimpArgs false
set_option linter.unusedVariables false
noncomputable def ref12_Closed_n1 : Nrm := ⟨[], [], [zA, zK, zA, zK, zA, zA, zA, zA, zA, zA, zA, zA, zA, zA, zA, zA, zA, zA, zA, zA, zA, zA, zA, zA, zA, zA, zA, zA, zA, zA, zA, zA, zA, zA, zA, zA, zA, zA, zA, zA, zA, zA, zA], [oT Decl.cel]⟩
noncomputable def ref12_Closed_m (n : Nat) : Mach Bool where
  body := (Try.f53.body).getD .skip
  P := Try.prog
  cl := tabA [(71, ent5 (tyC Term.cel) (tyI .i64) (tyI .i64) (tyI .i64) (tyI .i64) (tyI .i64) (ref03_Check n))]
  cd := tabD [(71, entD (ent5 (tyC Term.cel) (tyI .i64) (tyI .i64) (tyI .i64) (tyI .i64) (tyI .i64) (ref03_Check n)))]
  nrm := tabN [([0, 1, 0, 1, 1], ref12_Closed_n1)]
  cut := tabF []
  n := n
  out := outR Try.prog [.tmp 2] tyB
theorem ref12_Closed_f (n : Nat) : (ref12_Closed_m n).P = Try.prog ∧ (ref12_Closed_m n).cl = tabA [(71, ent5 (tyC Term.cel) (tyI .i64) (tyI .i64) (tyI .i64) (tyI .i64) (tyI .i64) (ref03_Check n))] ∧ (ref12_Closed_m n).cd = tabD [(71, entD (ent5 (tyC Term.cel) (tyI .i64) (tyI .i64) (tyI .i64) (tyI .i64) (tyI .i64) (ref03_Check n)))] ∧ (ref12_Closed_m n).nrm = tabN [([0, 1, 0, 1, 1], ref12_Closed_n1)] ∧ (ref12_Closed_m n).cut = tabF [] ∧ (ref12_Closed_m n).n = n ∧ (ref12_Closed_m n).out = outR Try.prog [.tmp 2] tyB := ⟨rfl, rfl, rfl, rfl, rfl, rfl, rfl⟩
theorem ref12_Closed_c (n : Nat) : (ref12_Closed_m n).body = (Try.f53.body).getD .skip := rfl
theorem ref12_Closed_d (n : Nat) : drawP (ref12_Closed_m n) [0, 0, 0, 1, 0, 0, 1, 0, 1, 1] = true := by kernel_rfl
noncomputable def ref12_Closed_b1 (n : Nat) : { B : (Int → Decl → Option Bool) → Int → Decl → Option Bool // ∀ m X0, (∀ (v0 : Int) (o0 : Decl), run (ref12_Closed_m n) [.lq m [0, 1, 0, 1, 1], .blk 0, .cut [1, 1, 1], .at [1, 1, 1]] ⟨[.any, .ptr 0 0, .any, .int .i64 v0, .any, .any, .any, .any, .any, .any, .any, .any, .any, .any, .any, .any, .any, .any, .any, .any, .any, .any, .any, .any, .any, .any, .any, .any, .any, .any, .any, .any, .any, .any, .any, .any, .any, .any, .any, .any, .any, .any, .any], [.cells (Decl.cells o0)], 0⟩ = X0 v0 o0) → ∀ (v0 : Int) (o0 : Decl), run (ref12_Closed_m n) [.at [0, 0, 1, 0, 1, 1], .lp m [0, 1, 0, 1, 1], .blk 0, .cut [1, 1, 1], .at [1, 1, 1]] ⟨[.any, .ptr 0 0, .any, .int .i64 v0, .any, .any, .any, .any, .any, .any, .any, .any, .any, .any, .any, .any, .any, .any, .any, .any, .any, .any, .any, .any, .any, .any, .any, .any, .any, .any, .any, .any, .any, .any, .any, .any, .any, .any, .any, .any, .any, .any, .any], [.cells (Decl.cells o0)], 0⟩ = B X0 v0 o0 } := by
  apply Subtype.mk
  intro m X0 ih v0 o0
  simp (maxSteps := 100000000) only [go_sem, Nat.reduceAdd, Nat.reduceSub, Nat.reduceLeDiff, Nat.reduceEqDiff, Nat.reduceBEq, Nat.reduceMul, Nat.reduceLT, Int.reduceLE, Int.reduceLT, Int.reduceToNat, Int.reduceBEq, Int.reduceEq, ref12_Closed_f, ref12_Closed_c, Try.f53, Option.getD_some, mixed, ref12_Closed_d, ref12_Closed_n1, ih]
  exact rfl
noncomputable def ref12_Closed_l1 (n : Nat) : Nat → Int → Decl → Option Bool
  | 0, _, _ => none
  | m + 1, v0, o0 => (ref12_Closed_b1 n).1 (ref12_Closed_l1 n m) v0 o0
theorem ref12_Closed_l1_eq (n : Nat) : ∀ (m : Nat), (∀ (v0 : Int) (o0 : Decl), run (ref12_Closed_m n) [.lq m [0, 1, 0, 1, 1], .blk 0, .cut [1, 1, 1], .at [1, 1, 1]] ⟨[.any, .ptr 0 0, .any, .int .i64 v0, .any, .any, .any, .any, .any, .any, .any, .any, .any, .any, .any, .any, .any, .any, .any, .any, .any, .any, .any, .any, .any, .any, .any, .any, .any, .any, .any, .any, .any, .any, .any, .any, .any, .any, .any, .any, .any, .any, .any], [.cells (Decl.cells o0)], 0⟩ = ref12_Closed_l1 n m v0 o0)
  | 0 => by intros; exact run_lq_zero
  | m + 1 => by
    have ih := ref12_Closed_l1_eq n m
    intro v0 o0
    rw [run_lq_succ]
    exact (ref12_Closed_b1 n).2  m _  ih v0 o0
noncomputable def ref12_Closed_e (n : Nat) : { B : Decl → Option Bool // ∀ (a0 : Decl), run (ref12_Closed_m n) [.at []] { slots := [(tyC Decl.cel).enc a0] ++ List.replicate (43 - [(tyC Decl.cel).enc a0].length) .any, heap := [] } = B a0 } := by
  apply Subtype.mk
  intro a0
  simp (maxSteps := 100000000) only [go_sem, Nat.reduceAdd, Nat.reduceSub, Nat.reduceLeDiff, Nat.reduceEqDiff, Nat.reduceBEq, Nat.reduceMul, Nat.reduceLT, Int.reduceLE, Int.reduceLT, Int.reduceToNat, Int.reduceBEq, Int.reduceEq, ref12_Closed_f, ref12_Closed_c, Try.f53, Option.getD_some, mixed, ref12_Closed_d, ref12_Closed_n1, ref12_Closed_l1_eq n]
  exact rfl
noncomputable def ref12_Closed : Nat → Decl → Option Bool
  | 0, _ => none
  | n + 1, a0 => (ref12_Closed_e n).1 a0
theorem ref12_Closed_ok : ∀ (n : Nat) (a0 : Decl) (r : Bool), ref12_Closed n a0 = some r → FnC Try.prog 53 [(tyC Decl.cel).enc a0] (fun v => v = tyB.enc r)
  | 0, _, _, h => by cases h
  | n + 1, a0, r, h => by
    exact fnC_run (M := ref12_Closed_m n) ⟨(tabA_cons_ok (ent5_ok (ref03_Check_ok n)) tabA_nil_ok), (tabD_cons_ok (ent5_okD (ref03_Check_ok n)) tabD_nil_ok), tabN_ok _, tabF_ok _⟩ Try.func53 rfl rfl ⟨(tyC Decl.cel).nb 0 _, trivial⟩ Try.ntmps53 Try.results53 (fun σ hs => outR_ok (P := Try.prog) (rs := [.tmp 2]) (t := tyB) (σ := σ) (r := r) hs) (((ref12_Closed_e n).2 a0).trans h)

noncomputable def family_alike_Term_term_Same_m (n : Nat) : Mach Bool where
  body := (Try.f97.body).getD .skip
  P := Try.prog
  cl := tabA [(65, ent3 (tyL Term.row) (tyL Term.row) (tyF 26) tyB (slices_EqualFunc_Term_term_Same n))]
  cd := tabD []
  nrm := tabN []
  cut := tabF []
  n := n
  out := outR Try.prog [.tmp 6] tyB
theorem family_alike_Term_term_Same_f (n : Nat) : (family_alike_Term_term_Same_m n).P = Try.prog ∧ (family_alike_Term_term_Same_m n).cl = tabA [(65, ent3 (tyL Term.row) (tyL Term.row) (tyF 26) tyB (slices_EqualFunc_Term_term_Same n))] ∧ (family_alike_Term_term_Same_m n).cd = tabD [] ∧ (family_alike_Term_term_Same_m n).nrm = tabN [] ∧ (family_alike_Term_term_Same_m n).cut = tabF [] ∧ (family_alike_Term_term_Same_m n).n = n ∧ (family_alike_Term_term_Same_m n).out = outR Try.prog [.tmp 6] tyB := ⟨rfl, rfl, rfl, rfl, rfl, rfl, rfl⟩
theorem family_alike_Term_term_Same_c (n : Nat) : (family_alike_Term_term_Same_m n).body = (Try.f97.body).getD .skip := rfl
noncomputable def family_alike_Term_term_Same_e (n : Nat) : { B : (List Term) → (List Term) → Unit → Option Bool // ∀ (a0 : (List Term)) (a1 : (List Term)) (a2 : Unit), run (family_alike_Term_term_Same_m n) [.at []] { slots := [(tyL Term.row).enc a0, (tyL Term.row).enc a1, (tyF 26).enc a2] ++ List.replicate (18 - [(tyL Term.row).enc a0, (tyL Term.row).enc a1, (tyF 26).enc a2].length) .any, heap := [] } = B a0 a1 a2 } := by
  apply Subtype.mk
  intro a0 a1 a2
  simp (maxSteps := 100000000) only [go_sem, Nat.reduceAdd, Nat.reduceSub, Nat.reduceLeDiff, Nat.reduceEqDiff, Nat.reduceBEq, Nat.reduceMul, Nat.reduceLT, Int.reduceLE, Int.reduceLT, Int.reduceToNat, Int.reduceBEq, Int.reduceEq, family_alike_Term_term_Same_f, family_alike_Term_term_Same_c, Try.f97, Option.getD_some, mixed]
  exact rfl
noncomputable def family_alike_Term_term_Same : Nat → (List Term) → (List Term) → Unit → Option Bool
  | 0, _, _, _ => none
  | n + 1, a0, a1, a2 => (family_alike_Term_term_Same_e n).1 a0 a1 a2
theorem family_alike_Term_term_Same_ok : ∀ (n : Nat) (a0 : (List Term)) (a1 : (List Term)) (a2 : Unit) (r : Bool), family_alike_Term_term_Same n a0 a1 a2 = some r → FnC Try.prog 97 [(tyL Term.row).enc a0, (tyL Term.row).enc a1, (tyF 26).enc a2] (fun v => v = tyB.enc r)
  | 0, _, _, _, _, h => by cases h
  | n + 1, a0, a1, a2, r, h => by
    exact fnC_run (M := family_alike_Term_term_Same_m n) ⟨(tabA_cons_ok (ent3_ok (slices_EqualFunc_Term_term_Same_ok n)) tabA_nil_ok), tabD_nil_ok, tabN_ok _, tabF_ok _⟩ Try.func97 rfl rfl ⟨(tyL Term.row).nb 0 _, (tyL Term.row).nb 0 _, (tyF 26).nb 0 _, trivial⟩ Try.ntmps97 Try.results97 (fun σ hs => outR_ok (P := Try.prog) (rs := [.tmp 6]) (t := tyB) (σ := σ) (r := r) hs) (((family_alike_Term_term_Same_e n).2 a0 a1 a2).trans h)

noncomputable def ref12_result_m (n : Nat) : Mach ((List Term) × Bool) where
  body := (Try.f100.body).getD .skip
  P := Try.prog
  cl := tabA [(74, entG [] osN (asT (tyC Term.cel) asN) (osC (oaT true Term.row) osN) (rsT (tyC Term.cel) (rsA 0 (fun (b : ((List Term) × Unit)) => b.1.length) rsN)) (fun (b : Unit) a => (ref05_Spine_h n) a.1))]
  cd := tabD [(23, entD (ent2 (tyC Term.cel) (tyC Term.cel) tyB (ref03_Same n))), (34, entD (ent2 (tyL Term.row) (tyL Term.row) tyB (ref05_SameList n))), (86, entD (ent2 (tyI .i64) (tyI .i64) (tyL Term.row) (ref05_Vars n)))]
  nrm := tabN []
  cut := tabF []
  n := n
  out := outR Try.prog [.tmp 10, .tmp 11] (ty2 (tyL Term.row) tyB)
theorem ref12_result_f (n : Nat) : (ref12_result_m n).P = Try.prog ∧ (ref12_result_m n).cl = tabA [(74, entG [] osN (asT (tyC Term.cel) asN) (osC (oaT true Term.row) osN) (rsT (tyC Term.cel) (rsA 0 (fun (b : ((List Term) × Unit)) => b.1.length) rsN)) (fun (b : Unit) a => (ref05_Spine_h n) a.1))] ∧ (ref12_result_m n).cd = tabD [(23, entD (ent2 (tyC Term.cel) (tyC Term.cel) tyB (ref03_Same n))), (34, entD (ent2 (tyL Term.row) (tyL Term.row) tyB (ref05_SameList n))), (86, entD (ent2 (tyI .i64) (tyI .i64) (tyL Term.row) (ref05_Vars n)))] ∧ (ref12_result_m n).nrm = tabN [] ∧ (ref12_result_m n).cut = tabF [] ∧ (ref12_result_m n).n = n ∧ (ref12_result_m n).out = outR Try.prog [.tmp 10, .tmp 11] (ty2 (tyL Term.row) tyB) := ⟨rfl, rfl, rfl, rfl, rfl, rfl, rfl⟩
theorem ref12_result_c (n : Nat) : (ref12_result_m n).body = (Try.f100.body).getD .skip := rfl
theorem ref12_result_d (n : Nat) : drawP (ref12_result_m n) [0, 0, 1, 1] = true := by kernel_rfl
noncomputable def ref12_result_e (n : Nat) : { B : Term → Term → Int → Int → Int → Option ((List Term) × Bool) // ∀ (a0 : Term) (a1 : Term) (a2 : Int) (a3 : Int) (a4 : Int), run (ref12_result_m n) [.at []] { slots := [(tyC Term.cel).enc a0, (tyC Term.cel).enc a1, (tyI .i64).enc a2, (tyI .i64).enc a3, (tyI .i64).enc a4] ++ List.replicate (44 - [(tyC Term.cel).enc a0, (tyC Term.cel).enc a1, (tyI .i64).enc a2, (tyI .i64).enc a3, (tyI .i64).enc a4].length) .any, heap := [] } = B a0 a1 a2 a3 a4 } := by
  apply Subtype.mk
  intro a0 a1 a2 a3 a4
  simp (maxSteps := 100000000) only [go_sem, Nat.reduceAdd, Nat.reduceSub, Nat.reduceLeDiff, Nat.reduceEqDiff, Nat.reduceBEq, Nat.reduceMul, Nat.reduceLT, Int.reduceLE, Int.reduceLT, Int.reduceToNat, Int.reduceBEq, Int.reduceEq, ref12_result_f, ref12_result_c, Try.f100, Option.getD_some, mixed, ref12_result_d]
  exact rfl
noncomputable def ref12_result : Nat → Term → Term → Int → Int → Int → Option ((List Term) × Bool)
  | 0, _, _, _, _, _ => none
  | n + 1, a0, a1, a2, a3, a4 => (ref12_result_e n).1 a0 a1 a2 a3 a4
theorem ref12_result_ok : ∀ (n : Nat) (a0 : Term) (a1 : Term) (a2 : Int) (a3 : Int) (a4 : Int) (r : ((List Term) × Bool)), ref12_result n a0 a1 a2 a3 a4 = some r → FnC Try.prog 100 [(tyC Term.cel).enc a0, (tyC Term.cel).enc a1, (tyI .i64).enc a2, (tyI .i64).enc a3, (tyI .i64).enc a4] (fun v => v = (ty2 (tyL Term.row) tyB).enc r)
  | 0, _, _, _, _, _, _, h => by cases h
  | n + 1, a0, a1, a2, a3, a4, r, h => by
    exact fnC_run (M := ref12_result_m n) ⟨(tabA_cons_ok (entG_ok (fun b a r h => (ref05_Spine_h_ok n) a.1 r h)) tabA_nil_ok), (tabD_cons_ok (ent2_okD (ref03_Same_ok n)) (tabD_cons_ok (ent2_okD (ref05_SameList_ok n)) (tabD_cons_ok (ent2_okD (ref05_Vars_ok n)) tabD_nil_ok))), tabN_ok _, tabF_ok _⟩ Try.func100 rfl rfl ⟨(tyC Term.cel).nb 0 _, (tyC Term.cel).nb 0 _, (tyI .i64).nb 0 _, (tyI .i64).nb 0 _, (tyI .i64).nb 0 _, trivial⟩ Try.ntmps100 Try.results100 (fun σ hs => outR_ok (P := Try.prog) (rs := [.tmp 10, .tmp 11]) (t := (ty2 (tyL Term.row) tyB)) (σ := σ) (r := r) hs) (((ref12_result_e n).2 a0 a1 a2 a3 a4).trans h)

noncomputable def ref12_SameCtor_n1 : Nrm := ⟨[], [], [zA, zA, zK, zK, zA, zK, zA, zA, zA, zA, zA, zA, zA, zA, zA, zA, zA, zA, zA, zA, zA, zA, zA, zA, zA, zA, zA, zA, zA, zA, zA, zA, zA, zA, zA, zA, zA, zA, zA, zA, zA, zA, zA, zA, zA, zA, zA, zA, zA, zA, zA, zA, zA, zA, zA, zA, zA, zA, zA, zA, zA, zA, zA, zA, zA, zA, zA, zA, zA, zA, zA, zA, zA, zA, zA, zA], [oT CtorForm.cel, oT CtorForm.cel]⟩
noncomputable def ref12_SameCtor_m (n : Nat) : Mach Bool where
  body := (Try.f60.body).getD .skip
  P := Try.prog
  cl := tabA [(34, ent2 (tyL Term.row) (tyL Term.row) tyB (ref05_SameList n))]
  cd := tabD []
  nrm := tabN [([0, 1, 0, 1, 1], ref12_SameCtor_n1)]
  cut := tabF []
  n := n
  out := outR Try.prog [.tmp 4] tyB
theorem ref12_SameCtor_f (n : Nat) : (ref12_SameCtor_m n).P = Try.prog ∧ (ref12_SameCtor_m n).cl = tabA [(34, ent2 (tyL Term.row) (tyL Term.row) tyB (ref05_SameList n))] ∧ (ref12_SameCtor_m n).cd = tabD [] ∧ (ref12_SameCtor_m n).nrm = tabN [([0, 1, 0, 1, 1], ref12_SameCtor_n1)] ∧ (ref12_SameCtor_m n).cut = tabF [] ∧ (ref12_SameCtor_m n).n = n ∧ (ref12_SameCtor_m n).out = outR Try.prog [.tmp 4] tyB := ⟨rfl, rfl, rfl, rfl, rfl, rfl, rfl⟩
theorem ref12_SameCtor_c (n : Nat) : (ref12_SameCtor_m n).body = (Try.f60.body).getD .skip := rfl
theorem ref12_SameCtor_d (n : Nat) : drawP (ref12_SameCtor_m n) [0, 0, 0, 1, 0, 0, 1, 0, 1, 1] = true := by kernel_rfl
theorem ref12_SameCtor_o (n : Nat) : ordP (ref12_SameCtor_m n) [0, 0, 0, 1, 0, 0, 1, 0, 1, 1] 1 12 = true ∧ ordP (ref12_SameCtor_m n) [0, 0, 0, 1, 0, 0, 1, 0, 1, 1] 3 12 = true ∧ ordP (ref12_SameCtor_m n) [0, 0, 0, 1, 0, 0, 1, 0, 1, 1] 4 12 = true ∧ ordP (ref12_SameCtor_m n) [0, 0, 0, 1, 0, 0, 1, 0, 1, 1] 10 12 = true ∧ ordP (ref12_SameCtor_m n) [0, 0, 0, 1, 0, 0, 1, 0, 1, 1] 11 12 = true ∧ ordP (ref12_SameCtor_m n) [0, 0, 0, 1, 0, 0, 1, 0, 1, 1] 1 13 = true ∧ ordP (ref12_SameCtor_m n) [0, 0, 0, 1, 0, 0, 1, 0, 1, 1] 3 13 = true ∧ ordP (ref12_SameCtor_m n) [0, 0, 0, 1, 0, 0, 1, 0, 1, 1] 4 13 = true ∧ ordP (ref12_SameCtor_m n) [0, 0, 0, 1, 0, 0, 1, 0, 1, 1] 6 13 = true ∧ ordP (ref12_SameCtor_m n) [0, 0, 0, 1, 0, 0, 1, 0, 1, 1] 8 13 = true ∧ ordP (ref12_SameCtor_m n) [0, 0, 0, 1, 0, 0, 1, 0, 1, 1] 9 13 = true ∧ ordP (ref12_SameCtor_m n) [0, 0, 0, 1, 0, 0, 1, 0, 1, 1] 10 13 = true ∧ ordP (ref12_SameCtor_m n) [0, 0, 0, 1, 0, 0, 1, 0, 1, 1] 11 13 = true ∧ ordP (ref12_SameCtor_m n) [0, 0, 0, 1, 0, 0, 1, 0, 1, 1] 12 13 = true ∧ ordP (ref12_SameCtor_m n) [0, 0, 0, 1, 0, 0, 1, 0, 1, 1] 10 11 = true := ⟨by kernel_rfl, by kernel_rfl, by kernel_rfl, by kernel_rfl, by kernel_rfl, by kernel_rfl, by kernel_rfl, by kernel_rfl, by kernel_rfl, by kernel_rfl, by kernel_rfl, by kernel_rfl, by kernel_rfl, by kernel_rfl, by kernel_rfl⟩
noncomputable def ref12_SameCtor_b1 (n : Nat) : { B : (Int → CtorForm → CtorForm → Option Bool) → Int → CtorForm → CtorForm → Option Bool // ∀ m X0, (∀ (v0 : Int) (o0 : CtorForm) (o1 : CtorForm), run (ref12_SameCtor_m n) [.lq m [0, 1, 0, 1, 1], .blk 0, .cut [1, 1, 1], .at [1, 1, 1]] ⟨[.any, .any, .ptr 0 0, .ptr 1 0, .any, .int .i64 v0, .any, .any, .any, .any, .any, .any, .any, .any, .any, .any, .any, .any, .any, .any, .any, .any, .any, .any, .any, .any, .any, .any, .any, .any, .any, .any, .any, .any, .any, .any, .any, .any, .any, .any, .any, .any, .any, .any, .any, .any, .any, .any, .any, .any, .any, .any, .any, .any, .any, .any, .any, .any, .any, .any, .any, .any, .any, .any, .any, .any, .any, .any, .any, .any, .any, .any, .any, .any, .any, .any], [.cells (CtorForm.cells o0), .cells (CtorForm.cells o1)], 0⟩ = X0 v0 o0 o1) → ∀ (v0 : Int) (o0 : CtorForm) (o1 : CtorForm), run (ref12_SameCtor_m n) [.at [0, 0, 1, 0, 1, 1], .lp m [0, 1, 0, 1, 1], .blk 0, .cut [1, 1, 1], .at [1, 1, 1]] ⟨[.any, .any, .ptr 0 0, .ptr 1 0, .any, .int .i64 v0, .any, .any, .any, .any, .any, .any, .any, .any, .any, .any, .any, .any, .any, .any, .any, .any, .any, .any, .any, .any, .any, .any, .any, .any, .any, .any, .any, .any, .any, .any, .any, .any, .any, .any, .any, .any, .any, .any, .any, .any, .any, .any, .any, .any, .any, .any, .any, .any, .any, .any, .any, .any, .any, .any, .any, .any, .any, .any, .any, .any, .any, .any, .any, .any, .any, .any, .any, .any, .any, .any], [.cells (CtorForm.cells o0), .cells (CtorForm.cells o1)], 0⟩ = B X0 v0 o0 o1 } := by
  apply Subtype.mk
  intro m X0 ih v0 o0 o1
  simp (maxSteps := 100000000) only [go_sem, Nat.reduceAdd, Nat.reduceSub, Nat.reduceLeDiff, Nat.reduceEqDiff, Nat.reduceBEq, Nat.reduceMul, Nat.reduceLT, Int.reduceLE, Int.reduceLT, Int.reduceToNat, Int.reduceBEq, Int.reduceEq, ref12_SameCtor_f, ref12_SameCtor_c, Try.f60, Option.getD_some, mixed, ref12_SameCtor_d, ref12_SameCtor_o, ref12_SameCtor_n1, ih]
  exact rfl
noncomputable def ref12_SameCtor_l1 (n : Nat) : Nat → Int → CtorForm → CtorForm → Option Bool
  | 0, _, _, _ => none
  | m + 1, v0, o0, o1 => (ref12_SameCtor_b1 n).1 (ref12_SameCtor_l1 n m) v0 o0 o1
theorem ref12_SameCtor_l1_eq (n : Nat) : ∀ (m : Nat), (∀ (v0 : Int) (o0 : CtorForm) (o1 : CtorForm), run (ref12_SameCtor_m n) [.lq m [0, 1, 0, 1, 1], .blk 0, .cut [1, 1, 1], .at [1, 1, 1]] ⟨[.any, .any, .ptr 0 0, .ptr 1 0, .any, .int .i64 v0, .any, .any, .any, .any, .any, .any, .any, .any, .any, .any, .any, .any, .any, .any, .any, .any, .any, .any, .any, .any, .any, .any, .any, .any, .any, .any, .any, .any, .any, .any, .any, .any, .any, .any, .any, .any, .any, .any, .any, .any, .any, .any, .any, .any, .any, .any, .any, .any, .any, .any, .any, .any, .any, .any, .any, .any, .any, .any, .any, .any, .any, .any, .any, .any, .any, .any, .any, .any, .any, .any], [.cells (CtorForm.cells o0), .cells (CtorForm.cells o1)], 0⟩ = ref12_SameCtor_l1 n m v0 o0 o1)
  | 0 => by intros; exact run_lq_zero
  | m + 1 => by
    have ih := ref12_SameCtor_l1_eq n m
    intro v0 o0 o1
    rw [run_lq_succ]
    exact (ref12_SameCtor_b1 n).2  m _  ih v0 o0 o1
noncomputable def ref12_SameCtor_e (n : Nat) : { B : CtorForm → CtorForm → Option Bool // ∀ (a0 : CtorForm) (a1 : CtorForm), run (ref12_SameCtor_m n) [.at []] { slots := [(tyC CtorForm.cel).enc a0, (tyC CtorForm.cel).enc a1] ++ List.replicate (76 - [(tyC CtorForm.cel).enc a0, (tyC CtorForm.cel).enc a1].length) .any, heap := [] } = B a0 a1 } := by
  apply Subtype.mk
  intro a0 a1
  simp (maxSteps := 100000000) only [go_sem, Nat.reduceAdd, Nat.reduceSub, Nat.reduceLeDiff, Nat.reduceEqDiff, Nat.reduceBEq, Nat.reduceMul, Nat.reduceLT, Int.reduceLE, Int.reduceLT, Int.reduceToNat, Int.reduceBEq, Int.reduceEq, ref12_SameCtor_f, ref12_SameCtor_c, Try.f60, Option.getD_some, mixed, ref12_SameCtor_d, ref12_SameCtor_o, ref12_SameCtor_n1, ref12_SameCtor_l1_eq n]
  exact rfl
noncomputable def ref12_SameCtor : Nat → CtorForm → CtorForm → Option Bool
  | 0, _, _ => none
  | n + 1, a0, a1 => (ref12_SameCtor_e n).1 a0 a1
theorem ref12_SameCtor_ok : ∀ (n : Nat) (a0 : CtorForm) (a1 : CtorForm) (r : Bool), ref12_SameCtor n a0 a1 = some r → FnC Try.prog 60 [(tyC CtorForm.cel).enc a0, (tyC CtorForm.cel).enc a1] (fun v => v = tyB.enc r)
  | 0, _, _, _, h => by cases h
  | n + 1, a0, a1, r, h => by
    exact fnC_run (M := ref12_SameCtor_m n) ⟨(tabA_cons_ok (ent2_ok (ref05_SameList_ok n)) tabA_nil_ok), tabD_nil_ok, tabN_ok _, tabF_ok _⟩ Try.func60 rfl rfl ⟨(tyC CtorForm.cel).nb 0 _, (tyC CtorForm.cel).nb 0 _, trivial⟩ Try.ntmps60 Try.results60 (fun σ hs => outR_ok (P := Try.prog) (rs := [.tmp 4]) (t := tyB) (σ := σ) (r := r) hs) (((ref12_SameCtor_e n).2 a0 a1).trans h)
end Go.Abs

/- Plain functions and contracts, printed by mk.py: law12_Few, family_shape_result, ref12_ctor, ref12_Same. -/
namespace Go.Abs
open Go.Proofs
set_option maxRecDepth 100000
set_option maxHeartbeats 4000000
set_option linter.unusedSimpArgs false
set_option linter.unusedVariables false
noncomputable def law12_Few_m (n : Nat) : Mach Bool where
  body := (Try.f16.body).getD .skip
  P := Try.prog
  cl := tabA [(52, ent1 (tyC Decl.cel) tyB (law07_FewDecl n)), (53, ent1 (tyC Decl.cel) tyB (ref12_Closed n)), (54, ent1 tyS tyB (ref03_Name n))]
  cd := tabD []
  nrm := tabN []
  cut := tabF []
  n := n
  out := outR Try.prog [.tmp 2] tyB
theorem law12_Few_f (n : Nat) : (law12_Few_m n).P = Try.prog ∧ (law12_Few_m n).cl = tabA [(52, ent1 (tyC Decl.cel) tyB (law07_FewDecl n)), (53, ent1 (tyC Decl.cel) tyB (ref12_Closed n)), (54, ent1 tyS tyB (ref03_Name n))] ∧ (law12_Few_m n).cd = tabD [] ∧ (law12_Few_m n).nrm = tabN [] ∧ (law12_Few_m n).cut = tabF [] ∧ (law12_Few_m n).n = n ∧ (law12_Few_m n).out = outR Try.prog [.tmp 2] tyB := ⟨rfl, rfl, rfl, rfl, rfl, rfl, rfl⟩
theorem law12_Few_c (n : Nat) : (law12_Few_m n).body = (Try.f16.body).getD .skip := rfl
noncomputable def law12_Few_e (n : Nat) : { B : Decl → Option Bool // ∀ (a0 : Decl), run (law12_Few_m n) [.at []] { slots := [(tyC Decl.cel).enc a0] ++ List.replicate (14 - [(tyC Decl.cel).enc a0].length) .any, heap := [] } = B a0 } := by
  apply Subtype.mk
  intro a0
  simp (maxSteps := 100000000) only [go_sem, Nat.reduceAdd, Nat.reduceSub, Nat.reduceLeDiff, Nat.reduceEqDiff, Nat.reduceBEq, Nat.reduceMul, Nat.reduceLT, Int.reduceLE, Int.reduceLT, Int.reduceToNat, Int.reduceBEq, Int.reduceEq, law12_Few_f, law12_Few_c, Try.f16, Option.getD_some, mixed]
  exact rfl
noncomputable def law12_Few : Nat → Decl → Option Bool
  | 0, _ => none
  | n + 1, a0 => (law12_Few_e n).1 a0
theorem law12_Few_ok : ∀ (n : Nat) (a0 : Decl) (r : Bool), law12_Few n a0 = some r → FnC Try.prog 16 [(tyC Decl.cel).enc a0] (fun v => v = tyB.enc r)
  | 0, _, _, h => by cases h
  | n + 1, a0, r, h => by
    exact fnC_run (M := law12_Few_m n) ⟨(tabA_cons_ok (ent1_ok (law07_FewDecl_ok n)) (tabA_cons_ok (ent1_ok (ref12_Closed_ok n)) (tabA_cons_ok (ent1_ok (ref03_Name_ok n)) tabA_nil_ok))), tabD_nil_ok, tabN_ok _, tabF_ok _⟩ Try.func16 rfl rfl ⟨(tyC Decl.cel).nb 0 _, trivial⟩ Try.ntmps16 Try.results16 (fun σ hs => outR_ok (P := Try.prog) (rs := [.tmp 2]) (t := tyB) (σ := σ) (r := r) hs) (((law12_Few_e n).2 a0).trans h)

noncomputable def family_shape_result_m (n : Nat) : Mach ((List Term) × Bool) where
  body := (Try.f98.body).getD .skip
  P := Try.prog
  cl := tabA [(72, ent1 (tyC Term.cel) (ty2 (tyC Term.cel) (tyL Term.row)) (telescope_Spine n))]
  cd := tabD [(26, entD (ent2 (tyC Term.cel) (tyC Term.cel) tyB (term_Same n))), (47, entD (ent2 (tyI .i64) (tyI .i64) (tyL Term.row) (telescope_Vars n))), (97, entD (ent3 (tyL Term.row) (tyL Term.row) (tyF 26) tyB (family_alike_Term_term_Same n)))]
  nrm := tabN []
  cut := tabF []
  n := n
  out := outR Try.prog [.tmp 6, .tmp 7] (ty2 (tyL Term.row) tyB)
theorem family_shape_result_f (n : Nat) : (family_shape_result_m n).P = Try.prog ∧ (family_shape_result_m n).cl = tabA [(72, ent1 (tyC Term.cel) (ty2 (tyC Term.cel) (tyL Term.row)) (telescope_Spine n))] ∧ (family_shape_result_m n).cd = tabD [(26, entD (ent2 (tyC Term.cel) (tyC Term.cel) tyB (term_Same n))), (47, entD (ent2 (tyI .i64) (tyI .i64) (tyL Term.row) (telescope_Vars n))), (97, entD (ent3 (tyL Term.row) (tyL Term.row) (tyF 26) tyB (family_alike_Term_term_Same n)))] ∧ (family_shape_result_m n).nrm = tabN [] ∧ (family_shape_result_m n).cut = tabF [] ∧ (family_shape_result_m n).n = n ∧ (family_shape_result_m n).out = outR Try.prog [.tmp 6, .tmp 7] (ty2 (tyL Term.row) tyB) := ⟨rfl, rfl, rfl, rfl, rfl, rfl, rfl⟩
theorem family_shape_result_c (n : Nat) : (family_shape_result_m n).body = (Try.f98.body).getD .skip := rfl
theorem family_shape_result_d (n : Nat) : drawP (family_shape_result_m n) [0, 0, 1, 1, 1] = true := by kernel_rfl
noncomputable def family_shape_result_e (n : Nat) : { B : FamilyShape → Term → Int → Option ((List Term) × Bool) // ∀ (a0 : FamilyShape) (a1 : Term) (a2 : Int), run (family_shape_result_m n) [.at []] { slots := [(tyC FamilyShape.cel).enc a0, (tyC Term.cel).enc a1, (tyI .i64).enc a2] ++ List.replicate (46 - [(tyC FamilyShape.cel).enc a0, (tyC Term.cel).enc a1, (tyI .i64).enc a2].length) .any, heap := [] } = B a0 a1 a2 } := by
  apply Subtype.mk
  intro a0 a1 a2
  simp (maxSteps := 100000000) only [go_sem, Nat.reduceAdd, Nat.reduceSub, Nat.reduceLeDiff, Nat.reduceEqDiff, Nat.reduceBEq, Nat.reduceMul, Nat.reduceLT, Int.reduceLE, Int.reduceLT, Int.reduceToNat, Int.reduceBEq, Int.reduceEq, family_shape_result_f, family_shape_result_c, Try.f98, Option.getD_some, mixed, family_shape_result_d]
  exact rfl
noncomputable def family_shape_result : Nat → FamilyShape → Term → Int → Option ((List Term) × Bool)
  | 0, _, _, _ => none
  | n + 1, a0, a1, a2 => (family_shape_result_e n).1 a0 a1 a2
theorem family_shape_result_ok : ∀ (n : Nat) (a0 : FamilyShape) (a1 : Term) (a2 : Int) (r : ((List Term) × Bool)), family_shape_result n a0 a1 a2 = some r → FnC Try.prog 98 [(tyC FamilyShape.cel).enc a0, (tyC Term.cel).enc a1, (tyI .i64).enc a2] (fun v => v = (ty2 (tyL Term.row) tyB).enc r)
  | 0, _, _, _, _, h => by cases h
  | n + 1, a0, a1, a2, r, h => by
    exact fnC_run (M := family_shape_result_m n) ⟨(tabA_cons_ok (ent1_ok (telescope_Spine_ok n)) tabA_nil_ok), (tabD_cons_ok (ent2_okD (term_Same_ok n)) (tabD_cons_ok (ent2_okD (telescope_Vars_ok n)) (tabD_cons_ok (ent3_okD (family_alike_Term_term_Same_ok n)) tabD_nil_ok))), tabN_ok _, tabF_ok _⟩ Try.func98 rfl rfl ⟨(tyC FamilyShape.cel).nb 0 _, (tyC Term.cel).nb 0 _, (tyI .i64).nb 0 _, trivial⟩ Try.ntmps98 Try.results98 (fun σ hs => outR_ok (P := Try.prog) (rs := [.tmp 6, .tmp 7]) (t := (ty2 (tyL Term.row) tyB)) (σ := σ) (r := r) hs) (((family_shape_result_e n).2 a0 a1 a2).trans h)

noncomputable def ref12_ctor_n1 : Nrm := ⟨[], [(5, 2, 3)], [zA, zA, zA, zA, zK, zA, zK, zA, zA, zK, zK, zK, zA, zA, zK, zA, zA, zA, zA, zA, zA, zA, zA, zA, zA, zA, zA, zA, zA, zA, zA, zA, zA, zA, zA, zA, zA, zA, zA, zA, zA, zA, zA, zA, zA, zA, zA, zA, zA, zA, zA, zA, zA, zA, zA, zA, zA, zA, zA, zA, zA, zA, zA, zA, zA, zA, zA, zA, zA, zA, zA, zA, zA, zA, zA, zA, zA, zA, zA, zA, zA, zA, zA, zA, zA, zA, zA, zA, zA, zA, zA, zA, zA, zA, zA, zA, zA, zA, zA, zA, zA, zA, zA, zA, zA, zA, zA, zA, zA, zA, zA], [oD, oD, oK, oT Term.cel, oD, oC [zK, zT (tyL Term.row), zK, zT (tyL Term.row)], oA RecField.row]⟩
noncomputable def ref12_ctor_m (n : Nat) : Mach (CtorForm × Bool) where
  body := (Try.f59.body).getD .skip
  P := Try.prog
  cl := tabA [(21, ent1 (tyC Term.cel) (ty2 (tyL Term.row) (tyC Term.cel)) (ref05_All n)), (85, ent2 tyS (tyI .i64) (tyC Term.cel) (ref12_Own n)), (100, ent5 (tyC Term.cel) (tyC Term.cel) (tyI .i64) (tyI .i64) (tyI .i64) (ty2 (tyL Term.row) tyB) (ref12_result n))]
  cd := tabD [(34, entD (ent2 (tyL Term.row) (tyL Term.row) tyB (ref05_SameList n)))]
  nrm := tabN [([0, 1, 0, 1, 1, 1, 1, 1, 1, 1, 1, 1], ref12_ctor_n1)]
  cut := tabF []
  n := n
  out := outR Try.prog [.cell 4 60, .tmp 5] (ty2 (tyC CtorForm.cel) tyB)
theorem ref12_ctor_f (n : Nat) : (ref12_ctor_m n).P = Try.prog ∧ (ref12_ctor_m n).cl = tabA [(21, ent1 (tyC Term.cel) (ty2 (tyL Term.row) (tyC Term.cel)) (ref05_All n)), (85, ent2 tyS (tyI .i64) (tyC Term.cel) (ref12_Own n)), (100, ent5 (tyC Term.cel) (tyC Term.cel) (tyI .i64) (tyI .i64) (tyI .i64) (ty2 (tyL Term.row) tyB) (ref12_result n))] ∧ (ref12_ctor_m n).cd = tabD [(34, entD (ent2 (tyL Term.row) (tyL Term.row) tyB (ref05_SameList n)))] ∧ (ref12_ctor_m n).nrm = tabN [([0, 1, 0, 1, 1, 1, 1, 1, 1, 1, 1, 1], ref12_ctor_n1)] ∧ (ref12_ctor_m n).cut = tabF [] ∧ (ref12_ctor_m n).n = n ∧ (ref12_ctor_m n).out = outR Try.prog [.cell 4 60, .tmp 5] (ty2 (tyC CtorForm.cel) tyB) := ⟨rfl, rfl, rfl, rfl, rfl, rfl, rfl⟩
theorem ref12_ctor_c (n : Nat) : (ref12_ctor_m n).body = (Try.f59.body).getD .skip := rfl
theorem ref12_ctor_d (n : Nat) : drawP (ref12_ctor_m n) [0, 0, 1, 1, 1, 1] = true ∧ drawP (ref12_ctor_m n) [0, 1, 1, 1] = true ∧ drawP (ref12_ctor_m n) [0, 1, 1, 1, 1, 1] = true := ⟨by kernel_rfl, by kernel_rfl, by kernel_rfl⟩
theorem ref12_ctor_o (n : Nat) : ordP (ref12_ctor_m n) [0, 1, 1, 1, 1, 1] 1 7 = true ∧ ordP (ref12_ctor_m n) [0, 1, 1, 1, 1, 1] 4 7 = true ∧ ordP (ref12_ctor_m n) [0, 1, 1, 1, 1, 1] 6 7 = true := ⟨by kernel_rfl, by kernel_rfl, by kernel_rfl⟩
noncomputable def ref12_ctor_b1 (n : Nat) : { B : (Int → Int → Int → Term → Str → (List Term) → (List Term) → (List RecField) → Option (CtorForm × Bool)) → Int → Int → Int → Term → Str → (List Term) → (List Term) → (List RecField) → Option (CtorForm × Bool) // ∀ m X0, (∀ (v0 : Int) (v1 : Int) (v2 : Int) (o3 : Term) (v4 : Str) (v5 : List Term) (v6 : List Term) (r6 : List RecField) (c6 : Nat), c6 = r6.length → run (ref12_ctor_m n) [.lq m [0, 1, 0, 1, 1, 1, 1, 1, 1, 1, 1, 1], .blk 0, .cut [1, 1, 1, 1, 1, 1, 1, 1, 1, 1], .at [1, 1, 1, 1, 1, 1, 1, 1, 1, 1]] ⟨[.any, .any, .any, .any, .ptr 2 0, .any, .ptr 3 0, .any, .any, .int .i64 v0, .int .i64 v1, .ptr 5 0, .any, .any, .int .i64 v2, .any, .any, .any, .any, .any, .any, .any, .any, .any, .any, .any, .any, .any, .any, .any, .any, .any, .any, .any, .any, .any, .any, .any, .any, .any, .any, .any, .any, .any, .any, .any, .any, .any, .any, .any, .any, .any, .any, .any, .any, .any, .any, .any, .any, .any, .any, .any, .any, .any, .any, .any, .any, .any, .any, .any, .any, .any, .any, .any, .any, .any, .any, .any, .any, .any, .any, .any, .any, .any, .any, .any, .any, .any, .any, .any, .any, .any, .any, .any, .any, .any, .any, .any, .any, .any, .any, .any, .any, .any, .any, .any, .any, .any, .any, .any, .any], [.dead, .dead, .cells [.str (sb []), .lst true 0 [], .lst true 0 [], .lst true 0 []], .cells (Term.cells o3), .dead, .cells [.str (sb v4), .lst false 5 (mp Term.cells v5), .acc 6 c6, .lst false 5 (mp Term.cells v6)], .acc true 3 (mp RecField.cells r6)], 0⟩ = X0 v0 v1 v2 o3 v4 v5 v6 r6) → ∀ (v0 : Int) (v1 : Int) (v2 : Int) (o3 : Term) (v4 : Str) (v5 : List Term) (v6 : List Term) (r6 : List RecField), run (ref12_ctor_m n) [.at [0, 0, 1, 0, 1, 1, 1, 1, 1, 1, 1, 1, 1], .lp m [0, 1, 0, 1, 1, 1, 1, 1, 1, 1, 1, 1], .blk 0, .cut [1, 1, 1, 1, 1, 1, 1, 1, 1, 1], .at [1, 1, 1, 1, 1, 1, 1, 1, 1, 1]] ⟨[.any, .any, .any, .any, .ptr 2 0, .any, .ptr 3 0, .any, .any, .int .i64 v0, .int .i64 v1, .ptr 5 0, .any, .any, .int .i64 v2, .any, .any, .any, .any, .any, .any, .any, .any, .any, .any, .any, .any, .any, .any, .any, .any, .any, .any, .any, .any, .any, .any, .any, .any, .any, .any, .any, .any, .any, .any, .any, .any, .any, .any, .any, .any, .any, .any, .any, .any, .any, .any, .any, .any, .any, .any, .any, .any, .any, .any, .any, .any, .any, .any, .any, .any, .any, .any, .any, .any, .any, .any, .any, .any, .any, .any, .any, .any, .any, .any, .any, .any, .any, .any, .any, .any, .any, .any, .any, .any, .any, .any, .any, .any, .any, .any, .any, .any, .any, .any, .any, .any, .any, .any, .any, .any], [.dead, .dead, .cells [.str (sb []), .lst true 0 [], .lst true 0 [], .lst true 0 []], .cells (Term.cells o3), .dead, .cells [.str (sb v4), .lst false 5 (mp Term.cells v5), .acc 6 r6.length, .lst false 5 (mp Term.cells v6)], .acc true 3 (mp RecField.cells r6)], 0⟩ = B X0 v0 v1 v2 o3 v4 v5 v6 r6 } := by
  apply Subtype.mk
  intro m X0 ih v0 v1 v2 o3 v4 v5 v6 r6
  simp (maxSteps := 100000000) only [go_sem, Nat.reduceAdd, Nat.reduceSub, Nat.reduceLeDiff, Nat.reduceEqDiff, Nat.reduceBEq, Nat.reduceMul, Nat.reduceLT, Int.reduceLE, Int.reduceLT, Int.reduceToNat, Int.reduceBEq, Int.reduceEq, ref12_ctor_f, ref12_ctor_c, Try.f59, Option.getD_some, mixed, ref12_ctor_d, ref12_ctor_o, ref12_ctor_n1, ih]
  exact rfl
noncomputable def ref12_ctor_l1 (n : Nat) : Nat → Int → Int → Int → Term → Str → (List Term) → (List Term) → (List RecField) → Option (CtorForm × Bool)
  | 0, _, _, _, _, _, _, _, _ => none
  | m + 1, v0, v1, v2, o3, v4, v5, v6, r6 => (ref12_ctor_b1 n).1 (ref12_ctor_l1 n m) v0 v1 v2 o3 v4 v5 v6 r6
theorem ref12_ctor_l1_eq (n : Nat) : ∀ (m : Nat), (∀ (v0 : Int) (v1 : Int) (v2 : Int) (o3 : Term) (v4 : Str) (v5 : List Term) (v6 : List Term) (r6 : List RecField) (c6 : Nat), c6 = r6.length → run (ref12_ctor_m n) [.lq m [0, 1, 0, 1, 1, 1, 1, 1, 1, 1, 1, 1], .blk 0, .cut [1, 1, 1, 1, 1, 1, 1, 1, 1, 1], .at [1, 1, 1, 1, 1, 1, 1, 1, 1, 1]] ⟨[.any, .any, .any, .any, .ptr 2 0, .any, .ptr 3 0, .any, .any, .int .i64 v0, .int .i64 v1, .ptr 5 0, .any, .any, .int .i64 v2, .any, .any, .any, .any, .any, .any, .any, .any, .any, .any, .any, .any, .any, .any, .any, .any, .any, .any, .any, .any, .any, .any, .any, .any, .any, .any, .any, .any, .any, .any, .any, .any, .any, .any, .any, .any, .any, .any, .any, .any, .any, .any, .any, .any, .any, .any, .any, .any, .any, .any, .any, .any, .any, .any, .any, .any, .any, .any, .any, .any, .any, .any, .any, .any, .any, .any, .any, .any, .any, .any, .any, .any, .any, .any, .any, .any, .any, .any, .any, .any, .any, .any, .any, .any, .any, .any, .any, .any, .any, .any, .any, .any, .any, .any, .any, .any], [.dead, .dead, .cells [.str (sb []), .lst true 0 [], .lst true 0 [], .lst true 0 []], .cells (Term.cells o3), .dead, .cells [.str (sb v4), .lst false 5 (mp Term.cells v5), .acc 6 c6, .lst false 5 (mp Term.cells v6)], .acc true 3 (mp RecField.cells r6)], 0⟩ = ref12_ctor_l1 n m v0 v1 v2 o3 v4 v5 v6 r6)
  | 0 => by intros; exact run_lq_zero
  | m + 1 => by
    have ih := ref12_ctor_l1_eq n m
    intro v0 v1 v2 o3 v4 v5 v6 r6 c6 ec6
    subst ec6
    rw [run_lq_succ]
    exact (ref12_ctor_b1 n).2  m _  ih v0 v1 v2 o3 v4 v5 v6 r6
noncomputable def ref12_ctor_e (n : Nat) : { B : Family → Ctor → Option (CtorForm × Bool) // ∀ (a0 : Family) (a1 : Ctor), run (ref12_ctor_m n) [.at []] { slots := [(tyC Family.cel).enc a0, (tyC Ctor.cel).enc a1] ++ List.replicate (111 - [(tyC Family.cel).enc a0, (tyC Ctor.cel).enc a1].length) .any, heap := [] } = B a0 a1 } := by
  apply Subtype.mk
  intro a0 a1
  simp (maxSteps := 100000000) only [go_sem, Nat.reduceAdd, Nat.reduceSub, Nat.reduceLeDiff, Nat.reduceEqDiff, Nat.reduceBEq, Nat.reduceMul, Nat.reduceLT, Int.reduceLE, Int.reduceLT, Int.reduceToNat, Int.reduceBEq, Int.reduceEq, ref12_ctor_f, ref12_ctor_c, Try.f59, Option.getD_some, mixed, ref12_ctor_d, ref12_ctor_o, ref12_ctor_n1, ref12_ctor_l1_eq n]
  exact rfl
noncomputable def ref12_ctor : Nat → Family → Ctor → Option (CtorForm × Bool)
  | 0, _, _ => none
  | n + 1, a0, a1 => (ref12_ctor_e n).1 a0 a1
theorem ref12_ctor_ok : ∀ (n : Nat) (a0 : Family) (a1 : Ctor) (r : (CtorForm × Bool)), ref12_ctor n a0 a1 = some r → FnC Try.prog 59 [(tyC Family.cel).enc a0, (tyC Ctor.cel).enc a1] (fun v => v = (ty2 (tyC CtorForm.cel) tyB).enc r)
  | 0, _, _, _, h => by cases h
  | n + 1, a0, a1, r, h => by
    exact fnC_run (M := ref12_ctor_m n) ⟨(tabA_cons_ok (ent1_ok (ref05_All_ok n)) (tabA_cons_ok (ent2_ok (ref12_Own_ok n)) (tabA_cons_ok (ent5_ok (ref12_result_ok n)) tabA_nil_ok))), (tabD_cons_ok (ent2_okD (ref05_SameList_ok n)) tabD_nil_ok), tabN_ok _, tabF_ok _⟩ Try.func59 rfl rfl ⟨(tyC Family.cel).nb 0 _, (tyC Ctor.cel).nb 0 _, trivial⟩ Try.ntmps59 Try.results59 (fun σ hs => outR_ok (P := Try.prog) (rs := [.cell 4 60, .tmp 5]) (t := (ty2 (tyC CtorForm.cel) tyB)) (σ := σ) (r := r) hs) (((ref12_ctor_e n).2 a0 a1).trans h)

noncomputable def ref12_Same_n1 : Nrm := ⟨[], [], [zA, zA, zK, zK, zA, zK, zA, zA, zA, zA, zA, zA, zA, zA, zA, zA, zA, zA, zA, zA, zA, zA, zA, zA, zA, zA, zA, zA, zA, zA, zA, zA, zA, zA, zA, zA, zA, zA, zA, zA, zA, zA, zA, zA, zA, zA, zA, zA, zA, zA, zA, zA, zA, zA, zA, zA, zA, zA, zA, zA, zA, zA, zA, zA, zA, zA, zA, zA, zA, zA], [oT Family.cel, oT Family.cel]⟩
noncomputable def ref12_Same_m (n : Nat) : Mach Bool where
  body := (Try.f20.body).getD .skip
  P := Try.prog
  cl := tabA [(23, ent2 (tyC Term.cel) (tyC Term.cel) tyB (ref03_Same n)), (34, ent2 (tyL Term.row) (tyL Term.row) tyB (ref05_SameList n))]
  cd := tabD [(60, entD (ent2 (tyC CtorForm.cel) (tyC CtorForm.cel) tyB (ref12_SameCtor n)))]
  nrm := tabN [([0, 1, 0, 1, 1], ref12_Same_n1)]
  cut := tabF []
  n := n
  out := outR Try.prog [.tmp 4] tyB
theorem ref12_Same_f (n : Nat) : (ref12_Same_m n).P = Try.prog ∧ (ref12_Same_m n).cl = tabA [(23, ent2 (tyC Term.cel) (tyC Term.cel) tyB (ref03_Same n)), (34, ent2 (tyL Term.row) (tyL Term.row) tyB (ref05_SameList n))] ∧ (ref12_Same_m n).cd = tabD [(60, entD (ent2 (tyC CtorForm.cel) (tyC CtorForm.cel) tyB (ref12_SameCtor n)))] ∧ (ref12_Same_m n).nrm = tabN [([0, 1, 0, 1, 1], ref12_Same_n1)] ∧ (ref12_Same_m n).cut = tabF [] ∧ (ref12_Same_m n).n = n ∧ (ref12_Same_m n).out = outR Try.prog [.tmp 4] tyB := ⟨rfl, rfl, rfl, rfl, rfl, rfl, rfl⟩
theorem ref12_Same_c (n : Nat) : (ref12_Same_m n).body = (Try.f20.body).getD .skip := rfl
theorem ref12_Same_d (n : Nat) : drawP (ref12_Same_m n) [0, 0, 0, 1, 0, 0, 1, 0, 1, 1] = true := by kernel_rfl
noncomputable def ref12_Same_b1 (n : Nat) : { B : (Int → Family → Family → Option Bool) → Int → Family → Family → Option Bool // ∀ m X0, (∀ (v0 : Int) (o0 : Family) (o1 : Family), run (ref12_Same_m n) [.lq m [0, 1, 0, 1, 1], .blk 0, .cut [1, 1, 1], .at [1, 1, 1]] ⟨[.any, .any, .ptr 0 0, .ptr 1 0, .any, .int .i64 v0, .any, .any, .any, .any, .any, .any, .any, .any, .any, .any, .any, .any, .any, .any, .any, .any, .any, .any, .any, .any, .any, .any, .any, .any, .any, .any, .any, .any, .any, .any, .any, .any, .any, .any, .any, .any, .any, .any, .any, .any, .any, .any, .any, .any, .any, .any, .any, .any, .any, .any, .any, .any, .any, .any, .any, .any, .any, .any, .any, .any, .any, .any, .any, .any], [.cells (Family.cells o0), .cells (Family.cells o1)], 0⟩ = X0 v0 o0 o1) → ∀ (v0 : Int) (o0 : Family) (o1 : Family), run (ref12_Same_m n) [.at [0, 0, 1, 0, 1, 1], .lp m [0, 1, 0, 1, 1], .blk 0, .cut [1, 1, 1], .at [1, 1, 1]] ⟨[.any, .any, .ptr 0 0, .ptr 1 0, .any, .int .i64 v0, .any, .any, .any, .any, .any, .any, .any, .any, .any, .any, .any, .any, .any, .any, .any, .any, .any, .any, .any, .any, .any, .any, .any, .any, .any, .any, .any, .any, .any, .any, .any, .any, .any, .any, .any, .any, .any, .any, .any, .any, .any, .any, .any, .any, .any, .any, .any, .any, .any, .any, .any, .any, .any, .any, .any, .any, .any, .any, .any, .any, .any, .any, .any, .any], [.cells (Family.cells o0), .cells (Family.cells o1)], 0⟩ = B X0 v0 o0 o1 } := by
  apply Subtype.mk
  intro m X0 ih v0 o0 o1
  simp (maxSteps := 100000000) only [go_sem, Nat.reduceAdd, Nat.reduceSub, Nat.reduceLeDiff, Nat.reduceEqDiff, Nat.reduceBEq, Nat.reduceMul, Nat.reduceLT, Int.reduceLE, Int.reduceLT, Int.reduceToNat, Int.reduceBEq, Int.reduceEq, ref12_Same_f, ref12_Same_c, Try.f20, Option.getD_some, mixed, ref12_Same_d, ref12_Same_n1, ih]
  exact rfl
noncomputable def ref12_Same_l1 (n : Nat) : Nat → Int → Family → Family → Option Bool
  | 0, _, _, _ => none
  | m + 1, v0, o0, o1 => (ref12_Same_b1 n).1 (ref12_Same_l1 n m) v0 o0 o1
theorem ref12_Same_l1_eq (n : Nat) : ∀ (m : Nat), (∀ (v0 : Int) (o0 : Family) (o1 : Family), run (ref12_Same_m n) [.lq m [0, 1, 0, 1, 1], .blk 0, .cut [1, 1, 1], .at [1, 1, 1]] ⟨[.any, .any, .ptr 0 0, .ptr 1 0, .any, .int .i64 v0, .any, .any, .any, .any, .any, .any, .any, .any, .any, .any, .any, .any, .any, .any, .any, .any, .any, .any, .any, .any, .any, .any, .any, .any, .any, .any, .any, .any, .any, .any, .any, .any, .any, .any, .any, .any, .any, .any, .any, .any, .any, .any, .any, .any, .any, .any, .any, .any, .any, .any, .any, .any, .any, .any, .any, .any, .any, .any, .any, .any, .any, .any, .any, .any], [.cells (Family.cells o0), .cells (Family.cells o1)], 0⟩ = ref12_Same_l1 n m v0 o0 o1)
  | 0 => by intros; exact run_lq_zero
  | m + 1 => by
    have ih := ref12_Same_l1_eq n m
    intro v0 o0 o1
    rw [run_lq_succ]
    exact (ref12_Same_b1 n).2  m _  ih v0 o0 o1
noncomputable def ref12_Same_e (n : Nat) : { B : Family → Family → Option Bool // ∀ (a0 : Family) (a1 : Family), run (ref12_Same_m n) [.at []] { slots := [(tyC Family.cel).enc a0, (tyC Family.cel).enc a1] ++ List.replicate (70 - [(tyC Family.cel).enc a0, (tyC Family.cel).enc a1].length) .any, heap := [] } = B a0 a1 } := by
  apply Subtype.mk
  intro a0 a1
  simp (maxSteps := 100000000) only [go_sem, Nat.reduceAdd, Nat.reduceSub, Nat.reduceLeDiff, Nat.reduceEqDiff, Nat.reduceBEq, Nat.reduceMul, Nat.reduceLT, Int.reduceLE, Int.reduceLT, Int.reduceToNat, Int.reduceBEq, Int.reduceEq, ref12_Same_f, ref12_Same_c, Try.f20, Option.getD_some, mixed, ref12_Same_d, ref12_Same_n1, ref12_Same_l1_eq n]
  exact rfl
noncomputable def ref12_Same : Nat → Family → Family → Option Bool
  | 0, _, _ => none
  | n + 1, a0, a1 => (ref12_Same_e n).1 a0 a1
theorem ref12_Same_ok : ∀ (n : Nat) (a0 : Family) (a1 : Family) (r : Bool), ref12_Same n a0 a1 = some r → FnC Try.prog 20 [(tyC Family.cel).enc a0, (tyC Family.cel).enc a1] (fun v => v = tyB.enc r)
  | 0, _, _, _, h => by cases h
  | n + 1, a0, a1, r, h => by
    exact fnC_run (M := ref12_Same_m n) ⟨(tabA_cons_ok (ent2_ok (ref03_Same_ok n)) (tabA_cons_ok (ent2_ok (ref05_SameList_ok n)) tabA_nil_ok)), (tabD_cons_ok (ent2_okD (ref12_SameCtor_ok n)) tabD_nil_ok), tabN_ok _, tabF_ok _⟩ Try.func20 rfl rfl ⟨(tyC Family.cel).nb 0 _, (tyC Family.cel).nb 0 _, trivial⟩ Try.ntmps20 Try.results20 (fun σ hs => outR_ok (P := Try.prog) (rs := [.tmp 4]) (t := tyB) (σ := σ) (r := r) hs) (((ref12_Same_e n).2 a0 a1).trans h)
end Go.Abs

/- Plain functions and contracts, printed by mk.py: family_shape_recursive, ref12_Analyse. -/
namespace Go.Abs
open Go.Proofs
set_option maxRecDepth 100000
set_option maxHeartbeats 4000000
set_option linter.unusedSimpArgs false
set_option linter.unusedVariables false
noncomputable def family_shape_recursive_n1 : Nrm := ⟨[(5, 3, true)], [], [zA, zA, zK, zA, zA, zK, zA, zA, zA, zA, zA, zA, zT (tyL Term.row), zK, zK, zA, zA, zA, zA, zA, zA, zA, zA, zA, zA, zA, zA, zA, zA, zA, zA, zA, zA, zA, zA, zA, zA, zA, zA, zA, zA, zA, zA, zA, zA], [oT FamilyShape.cel, oA RecField.row]⟩
noncomputable def family_shape_recursive_m (n : Nat) : Mach (List RecField) where
  body := (Try.f99.body).getD .skip
  P := Try.prog
  cl := tabA [(49, ent1 (tyC Term.cel) (ty2 (tyL Term.row) (tyC Term.cel)) (telescope_All n)), (98, ent3 (tyC FamilyShape.cel) (tyC Term.cel) (tyI .i64) (ty2 (tyL Term.row) tyB) (family_shape_result n))]
  cd := tabD []
  nrm := tabN [([0, 1, 0, 1, 1, 0, 1], family_shape_recursive_n1)]
  cut := tabF []
  n := n
  out := outR Try.prog [.tmp 4] (tyL RecField.row)
theorem family_shape_recursive_f (n : Nat) : (family_shape_recursive_m n).P = Try.prog ∧ (family_shape_recursive_m n).cl = tabA [(49, ent1 (tyC Term.cel) (ty2 (tyL Term.row) (tyC Term.cel)) (telescope_All n)), (98, ent3 (tyC FamilyShape.cel) (tyC Term.cel) (tyI .i64) (ty2 (tyL Term.row) tyB) (family_shape_result n))] ∧ (family_shape_recursive_m n).cd = tabD [] ∧ (family_shape_recursive_m n).nrm = tabN [([0, 1, 0, 1, 1, 0, 1], family_shape_recursive_n1)] ∧ (family_shape_recursive_m n).cut = tabF [] ∧ (family_shape_recursive_m n).n = n ∧ (family_shape_recursive_m n).out = outR Try.prog [.tmp 4] (tyL RecField.row) := ⟨rfl, rfl, rfl, rfl, rfl, rfl, rfl⟩
theorem family_shape_recursive_c (n : Nat) : (family_shape_recursive_m n).body = (Try.f99.body).getD .skip := rfl
noncomputable def family_shape_recursive_b1 (n : Nat) : { B : ((List Term) → Int → Int → FamilyShape → (List RecField) → Option (List RecField)) → (List Term) → Int → Int → FamilyShape → (List RecField) → Option (List RecField) // ∀ m X0, (∀ (v0 : List Term) (v1 : Int) (v2 : Int) (o0 : FamilyShape) (r1 : List RecField) (c1 : Nat), c1 = r1.length → run (family_shape_recursive_m n) [.lq m [0, 1, 0, 1, 1, 0, 1], .blk 0, .cut [1, 1, 1, 0, 1], .at [1, 1, 1, 0, 1]] ⟨[.any, .any, .ptr 0 0, .any, .any, .acc 1 c1, .any, .any, .any, .any, .any, .any, .lst false 5 (mp Term.cells v0), .int .i64 v1, .int .i64 v2, .any, .any, .any, .any, .any, .any, .any, .any, .any, .any, .any, .any, .any, .any, .any, .any, .any, .any, .any, .any, .any, .any, .any, .any, .any, .any, .any, .any, .any, .any], [.cells (FamilyShape.cells o0), .acc true 3 (mp RecField.cells r1)], 0⟩ = X0 v0 v1 v2 o0 r1) → ∀ (v0 : List Term) (v1 : Int) (v2 : Int) (o0 : FamilyShape) (r1 : List RecField), run (family_shape_recursive_m n) [.at [0, 0, 1, 0, 1, 1, 0, 1], .lp m [0, 1, 0, 1, 1, 0, 1], .blk 0, .cut [1, 1, 1, 0, 1], .at [1, 1, 1, 0, 1]] ⟨[.any, .any, .ptr 0 0, .any, .any, .acc 1 r1.length, .any, .any, .any, .any, .any, .any, .lst false 5 (mp Term.cells v0), .int .i64 v1, .int .i64 v2, .any, .any, .any, .any, .any, .any, .any, .any, .any, .any, .any, .any, .any, .any, .any, .any, .any, .any, .any, .any, .any, .any, .any, .any, .any, .any, .any, .any, .any, .any], [.cells (FamilyShape.cells o0), .acc true 3 (mp RecField.cells r1)], 0⟩ = B X0 v0 v1 v2 o0 r1 } := by
  apply Subtype.mk
  intro m X0 ih v0 v1 v2 o0 r1
  simp (maxSteps := 100000000) only [go_sem, Nat.reduceAdd, Nat.reduceSub, Nat.reduceLeDiff, Nat.reduceEqDiff, Nat.reduceBEq, Nat.reduceMul, Nat.reduceLT, Int.reduceLE, Int.reduceLT, Int.reduceToNat, Int.reduceBEq, Int.reduceEq, family_shape_recursive_f, family_shape_recursive_c, Try.f99, Option.getD_some, mixed, family_shape_recursive_n1, ih]
  exact rfl
noncomputable def family_shape_recursive_l1 (n : Nat) : Nat → (List Term) → Int → Int → FamilyShape → (List RecField) → Option (List RecField)
  | 0, _, _, _, _, _ => none
  | m + 1, v0, v1, v2, o0, r1 => (family_shape_recursive_b1 n).1 (family_shape_recursive_l1 n m) v0 v1 v2 o0 r1
theorem family_shape_recursive_l1_eq (n : Nat) : ∀ (m : Nat), (∀ (v0 : List Term) (v1 : Int) (v2 : Int) (o0 : FamilyShape) (r1 : List RecField) (c1 : Nat), c1 = r1.length → run (family_shape_recursive_m n) [.lq m [0, 1, 0, 1, 1, 0, 1], .blk 0, .cut [1, 1, 1, 0, 1], .at [1, 1, 1, 0, 1]] ⟨[.any, .any, .ptr 0 0, .any, .any, .acc 1 c1, .any, .any, .any, .any, .any, .any, .lst false 5 (mp Term.cells v0), .int .i64 v1, .int .i64 v2, .any, .any, .any, .any, .any, .any, .any, .any, .any, .any, .any, .any, .any, .any, .any, .any, .any, .any, .any, .any, .any, .any, .any, .any, .any, .any, .any, .any, .any, .any], [.cells (FamilyShape.cells o0), .acc true 3 (mp RecField.cells r1)], 0⟩ = family_shape_recursive_l1 n m v0 v1 v2 o0 r1)
  | 0 => by intros; exact run_lq_zero
  | m + 1 => by
    have ih := family_shape_recursive_l1_eq n m
    intro v0 v1 v2 o0 r1 c1 ec1
    subst ec1
    rw [run_lq_succ]
    exact (family_shape_recursive_b1 n).2  m _  ih v0 v1 v2 o0 r1
noncomputable def family_shape_recursive_e (n : Nat) : { B : FamilyShape → (List Term) → Option (List RecField) // ∀ (a0 : FamilyShape) (a1 : (List Term)), run (family_shape_recursive_m n) [.at []] { slots := [(tyC FamilyShape.cel).enc a0, (tyL Term.row).enc a1] ++ List.replicate (45 - [(tyC FamilyShape.cel).enc a0, (tyL Term.row).enc a1].length) .any, heap := [] } = B a0 a1 } := by
  apply Subtype.mk
  intro a0 a1
  simp (maxSteps := 100000000) only [go_sem, Nat.reduceAdd, Nat.reduceSub, Nat.reduceLeDiff, Nat.reduceEqDiff, Nat.reduceBEq, Nat.reduceMul, Nat.reduceLT, Int.reduceLE, Int.reduceLT, Int.reduceToNat, Int.reduceBEq, Int.reduceEq, family_shape_recursive_f, family_shape_recursive_c, Try.f99, Option.getD_some, mixed, family_shape_recursive_n1, family_shape_recursive_l1_eq n]
  exact rfl
noncomputable def family_shape_recursive : Nat → FamilyShape → (List Term) → Option (List RecField)
  | 0, _, _ => none
  | n + 1, a0, a1 => (family_shape_recursive_e n).1 a0 a1
theorem family_shape_recursive_ok : ∀ (n : Nat) (a0 : FamilyShape) (a1 : (List Term)) (r : (List RecField)), family_shape_recursive n a0 a1 = some r → FnC Try.prog 99 [(tyC FamilyShape.cel).enc a0, (tyL Term.row).enc a1] (fun v => v = (tyL RecField.row).enc r)
  | 0, _, _, _, h => by cases h
  | n + 1, a0, a1, r, h => by
    exact fnC_run (M := family_shape_recursive_m n) ⟨(tabA_cons_ok (ent1_ok (telescope_All_ok n)) (tabA_cons_ok (ent3_ok (family_shape_result_ok n)) tabA_nil_ok)), tabD_nil_ok, tabN_ok _, tabF_ok _⟩ Try.func99 rfl rfl ⟨(tyC FamilyShape.cel).nb 0 _, (tyL Term.row).nb 0 _, trivial⟩ Try.ntmps99 Try.results99 (fun σ hs => outR_ok (P := Try.prog) (rs := [.tmp 4]) (t := (tyL RecField.row)) (σ := σ) (r := r) hs) (((family_shape_recursive_e n).2 a0 a1).trans h)

noncomputable def ref12_Analyse_n1 : Nrm := ⟨[], [(3, 9, 4)], [zA, zK, zK, zA, zA, zA, zK, zK, zA, zA, zA, zA, zA, zA, zA, zA, zA, zA, zA, zA, zA, zA, zA, zA, zA, zA, zA, zA, zA, zA, zA, zA, zA, zA, zA, zA, zA, zA, zA, zA, zA, zA, zA, zA, zA, zA, zA, zA, zA, zA, zA, zA, zA, zA, zA, zA, zA, zA, zA, zA, zA, zA, zA, zA, zA, zA, zA, zA, zA, zA, zA, zA, zA, zA, zA, zA, zA], [oT Decl.cel, oK, oD, oC [zK, zK, zT (tyL Term.row), zT (tyL Term.row), zK, zK, zK, zT (tyL Level.row), zT (tyL Term.row), zK], oA CtorForm.row]⟩
noncomputable def ref12_Analyse_m (n : Nat) : Mach (Family × Int) where
  body := (Try.f19.body).getD .skip
  P := Try.prog
  cl := tabA [(21, ent1 (tyC Term.cel) (ty2 (tyL Term.row) (tyC Term.cel)) (ref05_All n)), (58, ent1 (tyC Term.cel) tyB (ref12_sort n))]
  cd := tabD [(59, entD (ent2 (tyC Family.cel) (tyC Ctor.cel) (ty2 (tyC CtorForm.cel) tyB) (ref12_ctor n)))]
  nrm := tabN [([0, 1, 0, 1, 1, 1, 1, 1], ref12_Analyse_n1)]
  cut := tabF []
  n := n
  out := outR Try.prog [.cell 2 36, .tmp 3] (ty2 (tyC Family.cel) (tyI .i64))
theorem ref12_Analyse_f (n : Nat) : (ref12_Analyse_m n).P = Try.prog ∧ (ref12_Analyse_m n).cl = tabA [(21, ent1 (tyC Term.cel) (ty2 (tyL Term.row) (tyC Term.cel)) (ref05_All n)), (58, ent1 (tyC Term.cel) tyB (ref12_sort n))] ∧ (ref12_Analyse_m n).cd = tabD [(59, entD (ent2 (tyC Family.cel) (tyC Ctor.cel) (ty2 (tyC CtorForm.cel) tyB) (ref12_ctor n)))] ∧ (ref12_Analyse_m n).nrm = tabN [([0, 1, 0, 1, 1, 1, 1, 1], ref12_Analyse_n1)] ∧ (ref12_Analyse_m n).cut = tabF [] ∧ (ref12_Analyse_m n).n = n ∧ (ref12_Analyse_m n).out = outR Try.prog [.cell 2 36, .tmp 3] (ty2 (tyC Family.cel) (tyI .i64)) := ⟨rfl, rfl, rfl, rfl, rfl, rfl, rfl⟩
theorem ref12_Analyse_c (n : Nat) : (ref12_Analyse_m n).body = (Try.f19.body).getD .skip := rfl
theorem ref12_Analyse_d (n : Nat) : drawP (ref12_Analyse_m n) [0, 0, 0, 1, 0, 0, 1, 0, 1, 1, 1, 1, 1] = true ∧ drawP (ref12_Analyse_m n) [0, 1, 1, 1, 1] = true := ⟨by kernel_rfl, by kernel_rfl⟩
theorem ref12_Analyse_o (n : Nat) : ordP (ref12_Analyse_m n) [0, 0, 0, 1, 0, 0, 1, 0, 1, 1, 1, 1, 1] 0 11 = true ∧ ordP (ref12_Analyse_m n) [0, 0, 0, 1, 0, 0, 1, 0, 1, 1, 1, 1, 1] 2 11 = true ∧ ordP (ref12_Analyse_m n) [0, 0, 0, 1, 0, 0, 1, 0, 1, 1, 1, 1, 1] 4 11 = true ∧ ordP (ref12_Analyse_m n) [0, 0, 0, 1, 0, 0, 1, 0, 1, 1, 1, 1, 1] 5 11 = true ∧ ordP (ref12_Analyse_m n) [0, 0, 0, 1, 0, 0, 1, 0, 1, 1, 1, 1, 1] 10 11 = true ∧ ordP (ref12_Analyse_m n) [0, 1, 1, 1, 1] 1 15 = true ∧ ordP (ref12_Analyse_m n) [0, 1, 1, 1, 1] 3 15 = true ∧ ordP (ref12_Analyse_m n) [0, 1, 1, 1, 1] 6 15 = true ∧ ordP (ref12_Analyse_m n) [0, 1, 1, 1, 1] 7 15 = true ∧ ordP (ref12_Analyse_m n) [0, 1, 1, 1, 1] 10 15 = true ∧ ordP (ref12_Analyse_m n) [0, 1, 1, 1, 1] 11 15 = true ∧ ordP (ref12_Analyse_m n) [0, 1, 1, 1, 1] 12 15 = true ∧ ordP (ref12_Analyse_m n) [0, 1, 1, 1, 1] 14 15 = true := ⟨by kernel_rfl, by kernel_rfl, by kernel_rfl, by kernel_rfl, by kernel_rfl, by kernel_rfl, by kernel_rfl, by kernel_rfl, by kernel_rfl, by kernel_rfl, by kernel_rfl, by kernel_rfl, by kernel_rfl⟩
noncomputable def ref12_Analyse_b1 (n : Nat) : { B : (Int → Decl → Str → Int → (List Term) → (List Term) → Int → Int → Str → (List Level) → (List Term) → (List CtorForm) → Option (Family × Int)) → Int → Decl → Str → Int → (List Term) → (List Term) → Int → Int → Str → (List Level) → (List Term) → (List CtorForm) → Option (Family × Int) // ∀ m X0, (∀ (v0 : Int) (o0 : Decl) (v2 : Str) (v3 : Int) (v4 : List Term) (v5 : List Term) (v6 : Int) (v7 : Int) (v8 : Str) (v9 : List Level) (v10 : List Term) (r4 : List CtorForm) (c4 : Nat), c4 = r4.length → run (ref12_Analyse_m n) [.lq m [0, 1, 0, 1, 1, 1, 1, 1], .blk 0, .cut [1, 1, 1, 1, 1, 1], .at [1, 1, 1, 1, 1, 1]] ⟨[.any, .ptr 0 0, .ptr 1 0, .any, .any, .any, .ptr 3 0, .int .i64 v0, .any, .any, .any, .any, .any, .any, .any, .any, .any, .any, .any, .any, .any, .any, .any, .any, .any, .any, .any, .any, .any, .any, .any, .any, .any, .any, .any, .any, .any, .any, .any, .any, .any, .any, .any, .any, .any, .any, .any, .any, .any, .any, .any, .any, .any, .any, .any, .any, .any, .any, .any, .any, .any, .any, .any, .any, .any, .any, .any, .any, .any, .any, .any, .any, .any, .any, .any, .any, .any], [.cells (Decl.cells o0), .cells [.str (sb []), .int .i64 0, .lst true 0 [], .lst true 0 [], .int .i64 0, .int .i64 0, .str (sb []), .lst true 0 [], .lst true 0 [], .lst true 0 []], .dead, .cells [.str (sb v2), .int .i64 v3, .lst false 5 (mp Term.cells v4), .lst false 5 (mp Term.cells v5), .int .i64 v6, .int .i64 v7, .str (sb v8), .lst false 2 (mp Level.cells v9), .lst false 5 (mp Term.cells v10), .acc 4 c4], .acc true 4 (mp CtorForm.cells r4)], 0⟩ = X0 v0 o0 v2 v3 v4 v5 v6 v7 v8 v9 v10 r4) → ∀ (v0 : Int) (o0 : Decl) (v2 : Str) (v3 : Int) (v4 : List Term) (v5 : List Term) (v6 : Int) (v7 : Int) (v8 : Str) (v9 : List Level) (v10 : List Term) (r4 : List CtorForm), run (ref12_Analyse_m n) [.at [0, 0, 1, 0, 1, 1, 1, 1, 1], .lp m [0, 1, 0, 1, 1, 1, 1, 1], .blk 0, .cut [1, 1, 1, 1, 1, 1], .at [1, 1, 1, 1, 1, 1]] ⟨[.any, .ptr 0 0, .ptr 1 0, .any, .any, .any, .ptr 3 0, .int .i64 v0, .any, .any, .any, .any, .any, .any, .any, .any, .any, .any, .any, .any, .any, .any, .any, .any, .any, .any, .any, .any, .any, .any, .any, .any, .any, .any, .any, .any, .any, .any, .any, .any, .any, .any, .any, .any, .any, .any, .any, .any, .any, .any, .any, .any, .any, .any, .any, .any, .any, .any, .any, .any, .any, .any, .any, .any, .any, .any, .any, .any, .any, .any, .any, .any, .any, .any, .any, .any, .any], [.cells (Decl.cells o0), .cells [.str (sb []), .int .i64 0, .lst true 0 [], .lst true 0 [], .int .i64 0, .int .i64 0, .str (sb []), .lst true 0 [], .lst true 0 [], .lst true 0 []], .dead, .cells [.str (sb v2), .int .i64 v3, .lst false 5 (mp Term.cells v4), .lst false 5 (mp Term.cells v5), .int .i64 v6, .int .i64 v7, .str (sb v8), .lst false 2 (mp Level.cells v9), .lst false 5 (mp Term.cells v10), .acc 4 r4.length], .acc true 4 (mp CtorForm.cells r4)], 0⟩ = B X0 v0 o0 v2 v3 v4 v5 v6 v7 v8 v9 v10 r4 } := by
  apply Subtype.mk
  intro m X0 ih v0 o0 v2 v3 v4 v5 v6 v7 v8 v9 v10 r4
  simp (maxSteps := 100000000) only [go_sem, Nat.reduceAdd, Nat.reduceSub, Nat.reduceLeDiff, Nat.reduceEqDiff, Nat.reduceBEq, Nat.reduceMul, Nat.reduceLT, Int.reduceLE, Int.reduceLT, Int.reduceToNat, Int.reduceBEq, Int.reduceEq, ref12_Analyse_f, ref12_Analyse_c, Try.f19, Option.getD_some, mixed, ref12_Analyse_d, ref12_Analyse_o, ref12_Analyse_n1, ih]
  exact rfl
noncomputable def ref12_Analyse_l1 (n : Nat) : Nat → Int → Decl → Str → Int → (List Term) → (List Term) → Int → Int → Str → (List Level) → (List Term) → (List CtorForm) → Option (Family × Int)
  | 0, _, _, _, _, _, _, _, _, _, _, _, _ => none
  | m + 1, v0, o0, v2, v3, v4, v5, v6, v7, v8, v9, v10, r4 => (ref12_Analyse_b1 n).1 (ref12_Analyse_l1 n m) v0 o0 v2 v3 v4 v5 v6 v7 v8 v9 v10 r4
theorem ref12_Analyse_l1_eq (n : Nat) : ∀ (m : Nat), (∀ (v0 : Int) (o0 : Decl) (v2 : Str) (v3 : Int) (v4 : List Term) (v5 : List Term) (v6 : Int) (v7 : Int) (v8 : Str) (v9 : List Level) (v10 : List Term) (r4 : List CtorForm) (c4 : Nat), c4 = r4.length → run (ref12_Analyse_m n) [.lq m [0, 1, 0, 1, 1, 1, 1, 1], .blk 0, .cut [1, 1, 1, 1, 1, 1], .at [1, 1, 1, 1, 1, 1]] ⟨[.any, .ptr 0 0, .ptr 1 0, .any, .any, .any, .ptr 3 0, .int .i64 v0, .any, .any, .any, .any, .any, .any, .any, .any, .any, .any, .any, .any, .any, .any, .any, .any, .any, .any, .any, .any, .any, .any, .any, .any, .any, .any, .any, .any, .any, .any, .any, .any, .any, .any, .any, .any, .any, .any, .any, .any, .any, .any, .any, .any, .any, .any, .any, .any, .any, .any, .any, .any, .any, .any, .any, .any, .any, .any, .any, .any, .any, .any, .any, .any, .any, .any, .any, .any, .any], [.cells (Decl.cells o0), .cells [.str (sb []), .int .i64 0, .lst true 0 [], .lst true 0 [], .int .i64 0, .int .i64 0, .str (sb []), .lst true 0 [], .lst true 0 [], .lst true 0 []], .dead, .cells [.str (sb v2), .int .i64 v3, .lst false 5 (mp Term.cells v4), .lst false 5 (mp Term.cells v5), .int .i64 v6, .int .i64 v7, .str (sb v8), .lst false 2 (mp Level.cells v9), .lst false 5 (mp Term.cells v10), .acc 4 c4], .acc true 4 (mp CtorForm.cells r4)], 0⟩ = ref12_Analyse_l1 n m v0 o0 v2 v3 v4 v5 v6 v7 v8 v9 v10 r4)
  | 0 => by intros; exact run_lq_zero
  | m + 1 => by
    have ih := ref12_Analyse_l1_eq n m
    intro v0 o0 v2 v3 v4 v5 v6 v7 v8 v9 v10 r4 c4 ec4
    subst ec4
    rw [run_lq_succ]
    exact (ref12_Analyse_b1 n).2  m _  ih v0 o0 v2 v3 v4 v5 v6 v7 v8 v9 v10 r4
noncomputable def ref12_Analyse_e (n : Nat) : { B : Decl → Option (Family × Int) // ∀ (a0 : Decl), run (ref12_Analyse_m n) [.at []] { slots := [(tyC Decl.cel).enc a0] ++ List.replicate (77 - [(tyC Decl.cel).enc a0].length) .any, heap := [] } = B a0 } := by
  apply Subtype.mk
  intro a0
  simp (maxSteps := 100000000) only [go_sem, Nat.reduceAdd, Nat.reduceSub, Nat.reduceLeDiff, Nat.reduceEqDiff, Nat.reduceBEq, Nat.reduceMul, Nat.reduceLT, Int.reduceLE, Int.reduceLT, Int.reduceToNat, Int.reduceBEq, Int.reduceEq, ref12_Analyse_f, ref12_Analyse_c, Try.f19, Option.getD_some, mixed, ref12_Analyse_d, ref12_Analyse_o, ref12_Analyse_n1, ref12_Analyse_l1_eq n]
  exact rfl
noncomputable def ref12_Analyse : Nat → Decl → Option (Family × Int)
  | 0, _ => none
  | n + 1, a0 => (ref12_Analyse_e n).1 a0
theorem ref12_Analyse_ok : ∀ (n : Nat) (a0 : Decl) (r : (Family × Int)), ref12_Analyse n a0 = some r → FnC Try.prog 19 [(tyC Decl.cel).enc a0] (fun v => v = (ty2 (tyC Family.cel) (tyI .i64)).enc r)
  | 0, _, _, h => by cases h
  | n + 1, a0, r, h => by
    exact fnC_run (M := ref12_Analyse_m n) ⟨(tabA_cons_ok (ent1_ok (ref05_All_ok n)) (tabA_cons_ok (ent1_ok (ref12_sort_ok n)) tabA_nil_ok)), (tabD_cons_ok (ent2_okD (ref12_ctor_ok n)) tabD_nil_ok), tabN_ok _, tabF_ok _⟩ Try.func19 rfl rfl ⟨(tyC Decl.cel).nb 0 _, trivial⟩ Try.ntmps19 Try.results19 (fun σ hs => outR_ok (P := Try.prog) (rs := [.cell 2 36, .tmp 3]) (t := (ty2 (tyC Family.cel) (tyI .i64))) (σ := σ) (r := r) hs) (((ref12_Analyse_e n).2 a0).trans h)
end Go.Abs

/- Plain functions and contracts, printed by mk.py: family_shape_ctor. -/
namespace Go.Abs
open Go.Proofs
set_option maxRecDepth 100000
set_option maxHeartbeats 4000000
set_option linter.unusedSimpArgs false
set_option linter.unusedVariables false
noncomputable def family_shape_ctor_m (n : Nat) : Mach (CtorForm × Bool) where
  body := (Try.f57.body).getD .skip
  P := Try.prog
  cl := tabA [(49, ent1 (tyC Term.cel) (ty2 (tyL Term.row) (tyC Term.cel)) (telescope_All n)), (98, ent3 (tyC FamilyShape.cel) (tyC Term.cel) (tyI .i64) (ty2 (tyL Term.row) tyB) (family_shape_result n))]
  cd := tabD [(97, entD (ent3 (tyL Term.row) (tyL Term.row) (tyF 26) tyB (family_alike_Term_term_Same n))), (99, entD (ent2 (tyC FamilyShape.cel) (tyL Term.row) (tyL RecField.row) (family_shape_recursive n)))]
  nrm := tabN []
  cut := tabF []
  n := n
  out := outR Try.prog [.cell 4 60, .tmp 5] (ty2 (tyC CtorForm.cel) tyB)
theorem family_shape_ctor_f (n : Nat) : (family_shape_ctor_m n).P = Try.prog ∧ (family_shape_ctor_m n).cl = tabA [(49, ent1 (tyC Term.cel) (ty2 (tyL Term.row) (tyC Term.cel)) (telescope_All n)), (98, ent3 (tyC FamilyShape.cel) (tyC Term.cel) (tyI .i64) (ty2 (tyL Term.row) tyB) (family_shape_result n))] ∧ (family_shape_ctor_m n).cd = tabD [(97, entD (ent3 (tyL Term.row) (tyL Term.row) (tyF 26) tyB (family_alike_Term_term_Same n))), (99, entD (ent2 (tyC FamilyShape.cel) (tyL Term.row) (tyL RecField.row) (family_shape_recursive n)))] ∧ (family_shape_ctor_m n).nrm = tabN [] ∧ (family_shape_ctor_m n).cut = tabF [] ∧ (family_shape_ctor_m n).n = n ∧ (family_shape_ctor_m n).out = outR Try.prog [.cell 4 60, .tmp 5] (ty2 (tyC CtorForm.cel) tyB) := ⟨rfl, rfl, rfl, rfl, rfl, rfl, rfl⟩
theorem family_shape_ctor_c (n : Nat) : (family_shape_ctor_m n).body = (Try.f57.body).getD .skip := rfl
theorem family_shape_ctor_d (n : Nat) : drawP (family_shape_ctor_m n) [0, 0, 1, 1, 1] = true ∧ drawP (family_shape_ctor_m n) [0, 1, 1, 1, 1, 1, 1, 1] = true := ⟨by kernel_rfl, by kernel_rfl⟩
theorem family_shape_ctor_o (n : Nat) : ordP (family_shape_ctor_m n) [0, 1, 1, 1, 1, 1, 1, 1] 1 8 = true ∧ ordP (family_shape_ctor_m n) [0, 1, 1, 1, 1, 1, 1, 1] 3 8 = true := ⟨by kernel_rfl, by kernel_rfl⟩
noncomputable def family_shape_ctor_e (n : Nat) : { B : FamilyShape → Ctor → Option (CtorForm × Bool) // ∀ (a0 : FamilyShape) (a1 : Ctor), run (family_shape_ctor_m n) [.at []] { slots := [(tyC FamilyShape.cel).enc a0, (tyC Ctor.cel).enc a1] ++ List.replicate (57 - [(tyC FamilyShape.cel).enc a0, (tyC Ctor.cel).enc a1].length) .any, heap := [] } = B a0 a1 } := by
  apply Subtype.mk
  intro a0 a1
  simp (maxSteps := 100000000) only [go_sem, Nat.reduceAdd, Nat.reduceSub, Nat.reduceLeDiff, Nat.reduceEqDiff, Nat.reduceBEq, Nat.reduceMul, Nat.reduceLT, Int.reduceLE, Int.reduceLT, Int.reduceToNat, Int.reduceBEq, Int.reduceEq, family_shape_ctor_f, family_shape_ctor_c, Try.f57, Option.getD_some, mixed, family_shape_ctor_d, family_shape_ctor_o]
  exact rfl
noncomputable def family_shape_ctor : Nat → FamilyShape → Ctor → Option (CtorForm × Bool)
  | 0, _, _ => none
  | n + 1, a0, a1 => (family_shape_ctor_e n).1 a0 a1
theorem family_shape_ctor_ok : ∀ (n : Nat) (a0 : FamilyShape) (a1 : Ctor) (r : (CtorForm × Bool)), family_shape_ctor n a0 a1 = some r → FnC Try.prog 57 [(tyC FamilyShape.cel).enc a0, (tyC Ctor.cel).enc a1] (fun v => v = (ty2 (tyC CtorForm.cel) tyB).enc r)
  | 0, _, _, _, h => by cases h
  | n + 1, a0, a1, r, h => by
    exact fnC_run (M := family_shape_ctor_m n) ⟨(tabA_cons_ok (ent1_ok (telescope_All_ok n)) (tabA_cons_ok (ent3_ok (family_shape_result_ok n)) tabA_nil_ok)), (tabD_cons_ok (ent3_okD (family_alike_Term_term_Same_ok n)) (tabD_cons_ok (ent2_okD (family_shape_recursive_ok n)) tabD_nil_ok)), tabN_ok _, tabF_ok _⟩ Try.func57 rfl rfl ⟨(tyC FamilyShape.cel).nb 0 _, (tyC Ctor.cel).nb 0 _, trivial⟩ Try.ntmps57 Try.results57 (fun σ hs => outR_ok (P := Try.prog) (rs := [.cell 4 60, .tmp 5]) (t := (ty2 (tyC CtorForm.cel) tyB)) (σ := σ) (r := r) hs) (((family_shape_ctor_e n).2 a0 a1).trans h)
end Go.Abs

/- Plain functions and contracts, printed by mk.py: family_Analyse. -/
namespace Go.Abs
open Go.Proofs
set_option maxRecDepth 100000
set_option maxHeartbeats 4000000
set_option linter.unusedSimpArgs false
set_option linter.unusedVariables false
noncomputable def family_Analyse_n1 : Nrm := ⟨[], [(3, 9, 4)], [zA, zA, zK, zA, zA, zA, zK, zK, zA, zA, zA, zA, zA, zA, zA, zA, zA, zA, zA, zA, zA, zA, zA, zA, zA, zA, zA, zA, zA, zA, zA, zA, zA, zA, zA, zA, zA, zA, zA, zA, zA, zA, zA, zA, zA, zA, zA, zA, zA, zA, zA, zA, zA, zA, zA, zA, zA, zA, zA, zA, zA, zA, zA, zA, zA, zA, zA, zA, zA, zT (tyL Ctor.row), zK, zK, zA, zA, zA, zA, zA, zA, zA, zA, zA, zA, zA, zA, zA, zA, zA, zA, zA, zA, zA, zA], [oD, oK, oD, oC [zK, zK, zT (tyL Term.row), zT (tyL Term.row), zK, zK, zK, zT (tyL Level.row), zT (tyL Term.row), zK], oT FamilyShape.cel, oA CtorForm.row]⟩
noncomputable def family_Analyse_m (n : Nat) : Mach (Family × Int) where
  body := (Try.f18.body).getD .skip
  P := Try.prog
  cl := tabA [(49, ent1 (tyC Term.cel) (ty2 (tyL Term.row) (tyC Term.cel)) (telescope_All n)), (57, ent2 (tyC FamilyShape.cel) (tyC Ctor.cel) (ty2 (tyC CtorForm.cel) tyB) (family_shape_ctor n))]
  cd := tabD [(56, entD (ent2 tyS (tyI .i64) (tyC Term.cel) (family_itself n)))]
  nrm := tabN [([0, 1, 0, 1, 1, 1, 1, 1, 1], family_Analyse_n1)]
  cut := tabF []
  n := n
  out := outR Try.prog [.cell 2 36, .tmp 3] (ty2 (tyC Family.cel) (tyI .i64))
theorem family_Analyse_f (n : Nat) : (family_Analyse_m n).P = Try.prog ∧ (family_Analyse_m n).cl = tabA [(49, ent1 (tyC Term.cel) (ty2 (tyL Term.row) (tyC Term.cel)) (telescope_All n)), (57, ent2 (tyC FamilyShape.cel) (tyC Ctor.cel) (ty2 (tyC CtorForm.cel) tyB) (family_shape_ctor n))] ∧ (family_Analyse_m n).cd = tabD [(56, entD (ent2 tyS (tyI .i64) (tyC Term.cel) (family_itself n)))] ∧ (family_Analyse_m n).nrm = tabN [([0, 1, 0, 1, 1, 1, 1, 1, 1], family_Analyse_n1)] ∧ (family_Analyse_m n).cut = tabF [] ∧ (family_Analyse_m n).n = n ∧ (family_Analyse_m n).out = outR Try.prog [.cell 2 36, .tmp 3] (ty2 (tyC Family.cel) (tyI .i64)) := ⟨rfl, rfl, rfl, rfl, rfl, rfl, rfl⟩
theorem family_Analyse_c (n : Nat) : (family_Analyse_m n).body = (Try.f18.body).getD .skip := rfl
theorem family_Analyse_d (n : Nat) : drawP (family_Analyse_m n) [0, 1, 1, 1, 1] = true ∧ drawP (family_Analyse_m n) [0, 1, 1, 1, 1, 1] = true := ⟨by kernel_rfl, by kernel_rfl⟩
theorem family_Analyse_o (n : Nat) : ordP (family_Analyse_m n) [0, 1, 1, 1, 1] 1 15 = true ∧ ordP (family_Analyse_m n) [0, 1, 1, 1, 1] 3 15 = true ∧ ordP (family_Analyse_m n) [0, 1, 1, 1, 1] 6 15 = true ∧ ordP (family_Analyse_m n) [0, 1, 1, 1, 1] 7 15 = true ∧ ordP (family_Analyse_m n) [0, 1, 1, 1, 1] 10 15 = true ∧ ordP (family_Analyse_m n) [0, 1, 1, 1, 1] 11 15 = true ∧ ordP (family_Analyse_m n) [0, 1, 1, 1, 1] 12 15 = true ∧ ordP (family_Analyse_m n) [0, 1, 1, 1, 1] 14 15 = true ∧ ordP (family_Analyse_m n) [0, 1, 1, 1, 1, 1] 1 12 = true ∧ ordP (family_Analyse_m n) [0, 1, 1, 1, 1, 1] 3 12 = true ∧ ordP (family_Analyse_m n) [0, 1, 1, 1, 1, 1] 6 12 = true ∧ ordP (family_Analyse_m n) [0, 1, 1, 1, 1, 1] 8 12 = true ∧ ordP (family_Analyse_m n) [0, 1, 1, 1, 1, 1] 9 12 = true ∧ ordP (family_Analyse_m n) [0, 1, 1, 1, 1, 1] 11 12 = true := ⟨by kernel_rfl, by kernel_rfl, by kernel_rfl, by kernel_rfl, by kernel_rfl, by kernel_rfl, by kernel_rfl, by kernel_rfl, by kernel_rfl, by kernel_rfl, by kernel_rfl, by kernel_rfl, by kernel_rfl, by kernel_rfl⟩
noncomputable def family_Analyse_b1 (n : Nat) : { B : ((List Ctor) → Int → Int → Str → Int → (List Term) → (List Term) → Int → Int → Str → (List Level) → (List Term) → FamilyShape → (List CtorForm) → Option (Family × Int)) → (List Ctor) → Int → Int → Str → Int → (List Term) → (List Term) → Int → Int → Str → (List Level) → (List Term) → FamilyShape → (List CtorForm) → Option (Family × Int) // ∀ m X0, (∀ (v0 : List Ctor) (v1 : Int) (v2 : Int) (v3 : Str) (v4 : Int) (v5 : List Term) (v6 : List Term) (v7 : Int) (v8 : Int) (v9 : Str) (v10 : List Level) (v11 : List Term) (o4 : FamilyShape) (r5 : List CtorForm) (c5 : Nat), c5 = r5.length → run (family_Analyse_m n) [.lq m [0, 1, 0, 1, 1, 1, 1, 1, 1], .blk 0, .cut [1, 1, 1, 1, 1, 1, 1], .at [1, 1, 1, 1, 1, 1, 1]] ⟨[.any, .any, .ptr 1 0, .any, .any, .any, .ptr 3 0, .ptr 4 0, .any, .any, .any, .any, .any, .any, .any, .any, .any, .any, .any, .any, .any, .any, .any, .any, .any, .any, .any, .any, .any, .any, .any, .any, .any, .any, .any, .any, .any, .any, .any, .any, .any, .any, .any, .any, .any, .any, .any, .any, .any, .any, .any, .any, .any, .any, .any, .any, .any, .any, .any, .any, .any, .any, .any, .any, .any, .any, .any, .any, .any, .lst false 6 (mp Ctor.cells v0), .int .i64 v1, .int .i64 v2, .any, .any, .any, .any, .any, .any, .any, .any, .any, .any, .any, .any, .any, .any, .any, .any, .any, .any, .any, .any], [.dead, .cells [.str (sb []), .int .i64 0, .lst true 0 [], .lst true 0 [], .int .i64 0, .int .i64 0, .str (sb []), .lst true 0 [], .lst true 0 [], .lst true 0 []], .dead, .cells [.str (sb v3), .int .i64 v4, .lst false 5 (mp Term.cells v5), .lst false 5 (mp Term.cells v6), .int .i64 v7, .int .i64 v8, .str (sb v9), .lst false 2 (mp Level.cells v10), .lst false 5 (mp Term.cells v11), .acc 5 c5], .cells (FamilyShape.cells o4), .acc true 4 (mp CtorForm.cells r5)], 0⟩ = X0 v0 v1 v2 v3 v4 v5 v6 v7 v8 v9 v10 v11 o4 r5) → ∀ (v0 : List Ctor) (v1 : Int) (v2 : Int) (v3 : Str) (v4 : Int) (v5 : List Term) (v6 : List Term) (v7 : Int) (v8 : Int) (v9 : Str) (v10 : List Level) (v11 : List Term) (o4 : FamilyShape) (r5 : List CtorForm), run (family_Analyse_m n) [.at [0, 0, 1, 0, 1, 1, 1, 1, 1, 1], .lp m [0, 1, 0, 1, 1, 1, 1, 1, 1], .blk 0, .cut [1, 1, 1, 1, 1, 1, 1], .at [1, 1, 1, 1, 1, 1, 1]] ⟨[.any, .any, .ptr 1 0, .any, .any, .any, .ptr 3 0, .ptr 4 0, .any, .any, .any, .any, .any, .any, .any, .any, .any, .any, .any, .any, .any, .any, .any, .any, .any, .any, .any, .any, .any, .any, .any, .any, .any, .any, .any, .any, .any, .any, .any, .any, .any, .any, .any, .any, .any, .any, .any, .any, .any, .any, .any, .any, .any, .any, .any, .any, .any, .any, .any, .any, .any, .any, .any, .any, .any, .any, .any, .any, .any, .lst false 6 (mp Ctor.cells v0), .int .i64 v1, .int .i64 v2, .any, .any, .any, .any, .any, .any, .any, .any, .any, .any, .any, .any, .any, .any, .any, .any, .any, .any, .any, .any], [.dead, .cells [.str (sb []), .int .i64 0, .lst true 0 [], .lst true 0 [], .int .i64 0, .int .i64 0, .str (sb []), .lst true 0 [], .lst true 0 [], .lst true 0 []], .dead, .cells [.str (sb v3), .int .i64 v4, .lst false 5 (mp Term.cells v5), .lst false 5 (mp Term.cells v6), .int .i64 v7, .int .i64 v8, .str (sb v9), .lst false 2 (mp Level.cells v10), .lst false 5 (mp Term.cells v11), .acc 5 r5.length], .cells (FamilyShape.cells o4), .acc true 4 (mp CtorForm.cells r5)], 0⟩ = B X0 v0 v1 v2 v3 v4 v5 v6 v7 v8 v9 v10 v11 o4 r5 } := by
  apply Subtype.mk
  intro m X0 ih v0 v1 v2 v3 v4 v5 v6 v7 v8 v9 v10 v11 o4 r5
  simp (maxSteps := 100000000) only [go_sem, Nat.reduceAdd, Nat.reduceSub, Nat.reduceLeDiff, Nat.reduceEqDiff, Nat.reduceBEq, Nat.reduceMul, Nat.reduceLT, Int.reduceLE, Int.reduceLT, Int.reduceToNat, Int.reduceBEq, Int.reduceEq, family_Analyse_f, family_Analyse_c, Try.f18, Option.getD_some, mixed, family_Analyse_d, family_Analyse_o, family_Analyse_n1, ih]
  exact rfl
noncomputable def family_Analyse_l1 (n : Nat) : Nat → (List Ctor) → Int → Int → Str → Int → (List Term) → (List Term) → Int → Int → Str → (List Level) → (List Term) → FamilyShape → (List CtorForm) → Option (Family × Int)
  | 0, _, _, _, _, _, _, _, _, _, _, _, _, _, _ => none
  | m + 1, v0, v1, v2, v3, v4, v5, v6, v7, v8, v9, v10, v11, o4, r5 => (family_Analyse_b1 n).1 (family_Analyse_l1 n m) v0 v1 v2 v3 v4 v5 v6 v7 v8 v9 v10 v11 o4 r5
theorem family_Analyse_l1_eq (n : Nat) : ∀ (m : Nat), (∀ (v0 : List Ctor) (v1 : Int) (v2 : Int) (v3 : Str) (v4 : Int) (v5 : List Term) (v6 : List Term) (v7 : Int) (v8 : Int) (v9 : Str) (v10 : List Level) (v11 : List Term) (o4 : FamilyShape) (r5 : List CtorForm) (c5 : Nat), c5 = r5.length → run (family_Analyse_m n) [.lq m [0, 1, 0, 1, 1, 1, 1, 1, 1], .blk 0, .cut [1, 1, 1, 1, 1, 1, 1], .at [1, 1, 1, 1, 1, 1, 1]] ⟨[.any, .any, .ptr 1 0, .any, .any, .any, .ptr 3 0, .ptr 4 0, .any, .any, .any, .any, .any, .any, .any, .any, .any, .any, .any, .any, .any, .any, .any, .any, .any, .any, .any, .any, .any, .any, .any, .any, .any, .any, .any, .any, .any, .any, .any, .any, .any, .any, .any, .any, .any, .any, .any, .any, .any, .any, .any, .any, .any, .any, .any, .any, .any, .any, .any, .any, .any, .any, .any, .any, .any, .any, .any, .any, .any, .lst false 6 (mp Ctor.cells v0), .int .i64 v1, .int .i64 v2, .any, .any, .any, .any, .any, .any, .any, .any, .any, .any, .any, .any, .any, .any, .any, .any, .any, .any, .any, .any], [.dead, .cells [.str (sb []), .int .i64 0, .lst true 0 [], .lst true 0 [], .int .i64 0, .int .i64 0, .str (sb []), .lst true 0 [], .lst true 0 [], .lst true 0 []], .dead, .cells [.str (sb v3), .int .i64 v4, .lst false 5 (mp Term.cells v5), .lst false 5 (mp Term.cells v6), .int .i64 v7, .int .i64 v8, .str (sb v9), .lst false 2 (mp Level.cells v10), .lst false 5 (mp Term.cells v11), .acc 5 c5], .cells (FamilyShape.cells o4), .acc true 4 (mp CtorForm.cells r5)], 0⟩ = family_Analyse_l1 n m v0 v1 v2 v3 v4 v5 v6 v7 v8 v9 v10 v11 o4 r5)
  | 0 => by intros; exact run_lq_zero
  | m + 1 => by
    have ih := family_Analyse_l1_eq n m
    intro v0 v1 v2 v3 v4 v5 v6 v7 v8 v9 v10 v11 o4 r5 c5 ec5
    subst ec5
    rw [run_lq_succ]
    exact (family_Analyse_b1 n).2  m _  ih v0 v1 v2 v3 v4 v5 v6 v7 v8 v9 v10 v11 o4 r5
noncomputable def family_Analyse_e (n : Nat) : { B : Decl → Option (Family × Int) // ∀ (a0 : Decl), run (family_Analyse_m n) [.at []] { slots := [(tyC Decl.cel).enc a0] ++ List.replicate (92 - [(tyC Decl.cel).enc a0].length) .any, heap := [] } = B a0 } := by
  apply Subtype.mk
  intro a0
  simp (maxSteps := 100000000) only [go_sem, Nat.reduceAdd, Nat.reduceSub, Nat.reduceLeDiff, Nat.reduceEqDiff, Nat.reduceBEq, Nat.reduceMul, Nat.reduceLT, Int.reduceLE, Int.reduceLT, Int.reduceToNat, Int.reduceBEq, Int.reduceEq, family_Analyse_f, family_Analyse_c, Try.f18, Option.getD_some, mixed, family_Analyse_d, family_Analyse_o, family_Analyse_n1, family_Analyse_l1_eq n]
  exact rfl
noncomputable def family_Analyse : Nat → Decl → Option (Family × Int)
  | 0, _ => none
  | n + 1, a0 => (family_Analyse_e n).1 a0
theorem family_Analyse_ok : ∀ (n : Nat) (a0 : Decl) (r : (Family × Int)), family_Analyse n a0 = some r → FnC Try.prog 18 [(tyC Decl.cel).enc a0] (fun v => v = (ty2 (tyC Family.cel) (tyI .i64)).enc r)
  | 0, _, _, h => by cases h
  | n + 1, a0, r, h => by
    exact fnC_run (M := family_Analyse_m n) ⟨(tabA_cons_ok (ent1_ok (telescope_All_ok n)) (tabA_cons_ok (ent2_ok (family_shape_ctor_ok n)) tabA_nil_ok)), (tabD_cons_ok (ent2_okD (family_itself_ok n)) tabD_nil_ok), tabN_ok _, tabF_ok _⟩ Try.func18 rfl rfl ⟨(tyC Decl.cel).nb 0 _, trivial⟩ Try.ntmps18 Try.results18 (fun σ hs => outR_ok (P := Try.prog) (rs := [.cell 2 36, .tmp 3]) (t := (ty2 (tyC Family.cel) (tyI .i64))) (σ := σ) (r := r) hs) (((family_Analyse_e n).2 a0).trans h)
end Go.Abs

/- Plain functions and contracts, printed by mk.py: law12_awake. -/
namespace Go.Abs
open Go.Proofs
set_option maxRecDepth 100000
set_option maxHeartbeats 4000000
set_option linter.unusedSimpArgs false
set_option linter.unusedVariables false
noncomputable def law12_awake_m (n : Nat) : Mach Bool where
  body := (Try.f17.body).getD .skip
  P := Try.prog
  cl := tabA [(18, ent1 (tyC Decl.cel) (ty2 (tyC Family.cel) (tyI .i64)) (family_Analyse n)), (26, ent2 (tyC Term.cel) (tyC Term.cel) tyB (term_Same n)), (55, ent1 (tyI .i64) (tyC Decl.cel) (law12_vec n))]
  cd := tabD []
  nrm := tabN []
  cut := tabF []
  n := n
  out := outR Try.prog [.tmp 0] tyB
theorem law12_awake_f (n : Nat) : (law12_awake_m n).P = Try.prog ∧ (law12_awake_m n).cl = tabA [(18, ent1 (tyC Decl.cel) (ty2 (tyC Family.cel) (tyI .i64)) (family_Analyse n)), (26, ent2 (tyC Term.cel) (tyC Term.cel) tyB (term_Same n)), (55, ent1 (tyI .i64) (tyC Decl.cel) (law12_vec n))] ∧ (law12_awake_m n).cd = tabD [] ∧ (law12_awake_m n).nrm = tabN [] ∧ (law12_awake_m n).cut = tabF [] ∧ (law12_awake_m n).n = n ∧ (law12_awake_m n).out = outR Try.prog [.tmp 0] tyB := ⟨rfl, rfl, rfl, rfl, rfl, rfl, rfl⟩
theorem law12_awake_c (n : Nat) : (law12_awake_m n).body = (Try.f17.body).getD .skip := rfl
noncomputable def law12_awake_e (n : Nat) : { B : Option Bool // run (law12_awake_m n) [.at []] { slots := ([] : List AV) ++ List.replicate (109 - ([] : List AV).length) .any, heap := [] } = B } := by
  apply Subtype.mk
  simp (maxSteps := 100000000) only [go_sem, Nat.reduceAdd, Nat.reduceSub, Nat.reduceLeDiff, Nat.reduceEqDiff, Nat.reduceBEq, Nat.reduceMul, Nat.reduceLT, Int.reduceLE, Int.reduceLT, Int.reduceToNat, Int.reduceBEq, Int.reduceEq, law12_awake_f, law12_awake_c, Try.f17, Option.getD_some, mixed]
  exact rfl
noncomputable def law12_awake : Nat → Option Bool
  | 0 => none
  | n + 1 => (law12_awake_e n).1
theorem law12_awake_ok : ∀ (n : Nat) (r : Bool), law12_awake n = some r → FnC Try.prog 17 [] (fun v => v = tyB.enc r)
  | 0, _, h => by cases h
  | n + 1, r, h => by
    exact fnC_run (M := law12_awake_m n) ⟨(tabA_cons_ok (ent1_ok (family_Analyse_ok n)) (tabA_cons_ok (ent2_ok (term_Same_ok n)) (tabA_cons_ok (ent1_ok (law12_vec_ok n)) tabA_nil_ok))), tabD_nil_ok, tabN_ok _, tabF_ok _⟩ Try.func17 rfl rfl trivial Try.ntmps17 Try.results17 (fun σ hs => outR_ok (P := Try.prog) (rs := [.tmp 0]) (t := tyB) (σ := σ) (r := r) hs) (((law12_awake_e n).2).trans h)
end Go.Abs

/- Plain functions and contracts, printed by mk.py: law12_FamilyAnalyses. -/
namespace Go.Abs
open Go.Proofs
set_option maxRecDepth 100000
set_option maxHeartbeats 4000000
set_option linter.unusedSimpArgs false
set_option linter.unusedVariables false
noncomputable def law12_FamilyAnalyses_m (n : Nat) : Mach Bool where
  body := (Try.f3.body).getD .skip
  P := Try.prog
  cl := tabA [(16, ent1 (tyC Decl.cel) tyB (law12_Few n)), (17, ent0  tyB (law12_awake n)), (18, ent1 (tyC Decl.cel) (ty2 (tyC Family.cel) (tyI .i64)) (family_Analyse n)), (19, ent1 (tyC Decl.cel) (ty2 (tyC Family.cel) (tyI .i64)) (ref12_Analyse n)), (20, ent2 (tyC Family.cel) (tyC Family.cel) tyB (ref12_Same n))]
  cd := tabD []
  nrm := tabN []
  cut := tabF []
  n := n
  out := outR Try.prog [.tmp 2] tyB
theorem law12_FamilyAnalyses_f (n : Nat) : (law12_FamilyAnalyses_m n).P = Try.prog ∧ (law12_FamilyAnalyses_m n).cl = tabA [(16, ent1 (tyC Decl.cel) tyB (law12_Few n)), (17, ent0  tyB (law12_awake n)), (18, ent1 (tyC Decl.cel) (ty2 (tyC Family.cel) (tyI .i64)) (family_Analyse n)), (19, ent1 (tyC Decl.cel) (ty2 (tyC Family.cel) (tyI .i64)) (ref12_Analyse n)), (20, ent2 (tyC Family.cel) (tyC Family.cel) tyB (ref12_Same n))] ∧ (law12_FamilyAnalyses_m n).cd = tabD [] ∧ (law12_FamilyAnalyses_m n).nrm = tabN [] ∧ (law12_FamilyAnalyses_m n).cut = tabF [] ∧ (law12_FamilyAnalyses_m n).n = n ∧ (law12_FamilyAnalyses_m n).out = outR Try.prog [.tmp 2] tyB := ⟨rfl, rfl, rfl, rfl, rfl, rfl, rfl⟩
theorem law12_FamilyAnalyses_c (n : Nat) : (law12_FamilyAnalyses_m n).body = (Try.f3.body).getD .skip := rfl
noncomputable def law12_FamilyAnalyses_e (n : Nat) : { B : Decl → Option Bool // ∀ (a0 : Decl), run (law12_FamilyAnalyses_m n) [.at []] { slots := [(tyC Decl.cel).enc a0] ++ List.replicate (32 - [(tyC Decl.cel).enc a0].length) .any, heap := [] } = B a0 } := by
  apply Subtype.mk
  intro a0
  simp (maxSteps := 100000000) only [go_sem, Nat.reduceAdd, Nat.reduceSub, Nat.reduceLeDiff, Nat.reduceEqDiff, Nat.reduceBEq, Nat.reduceMul, Nat.reduceLT, Int.reduceLE, Int.reduceLT, Int.reduceToNat, Int.reduceBEq, Int.reduceEq, law12_FamilyAnalyses_f, law12_FamilyAnalyses_c, Try.f3, Option.getD_some, mixed]
  exact rfl
noncomputable def law12_FamilyAnalyses : Nat → Decl → Option Bool
  | 0, _ => none
  | n + 1, a0 => (law12_FamilyAnalyses_e n).1 a0
theorem law12_FamilyAnalyses_ok : ∀ (n : Nat) (a0 : Decl) (r : Bool), law12_FamilyAnalyses n a0 = some r → FnC Try.prog 3 [(tyC Decl.cel).enc a0] (fun v => v = tyB.enc r)
  | 0, _, _, h => by cases h
  | n + 1, a0, r, h => by
    exact fnC_run (M := law12_FamilyAnalyses_m n) ⟨(tabA_cons_ok (ent1_ok (law12_Few_ok n)) (tabA_cons_ok (ent0_ok (law12_awake_ok n)) (tabA_cons_ok (ent1_ok (family_Analyse_ok n)) (tabA_cons_ok (ent1_ok (ref12_Analyse_ok n)) (tabA_cons_ok (ent2_ok (ref12_Same_ok n)) tabA_nil_ok))))), tabD_nil_ok, tabN_ok _, tabF_ok _⟩ Try.func3 rfl rfl ⟨(tyC Decl.cel).nb 0 _, trivial⟩ Try.ntmps3 Try.results3 (fun σ hs => outR_ok (P := Try.prog) (rs := [.tmp 2]) (t := tyB) (σ := σ) (r := r) hs) (((law12_FamilyAnalyses_e n).2 a0).trans h)
end Go.Abs

