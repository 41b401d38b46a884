/- A part of the proof: what the functions compute. -/
import Derived.Test.YtecpjooedpkedaaDoorDataA
import Derived.Test.YtecpjooedpkedaaDoorExtA
set_option linter.all false
namespace Go.Abs
open Go.Proofs
set_option maxRecDepth 100000
set_option maxHeartbeats 4000000
set_option linter.unusedSimpArgs false
set_option linter.unusedVariables false
noncomputable def law24_few_n1 : Nrm := ⟨[], [], [zT (tyL rowS), zA, zA, zK, zA, zA, zA, zA, zA, zA, zA, zA, zA, zA, zA, zA, zA, zA, zA, zA, zA, zA, zA], [], none⟩
noncomputable def law24_few_m (n : Nat) : Mach Bool where
  body := (Tryd.f11.body).getD .skip
  P := Tryd.prog
  cl := tabA []
  cd := tabD []
  nrm := tabN [([0, 1, 0, 1], law24_few_n1)]
  cut := tabF []
  n := n
  out := outR Tryd.prog [.tmp 2] tyB
theorem law24_few_f (n : Nat) : (law24_few_m n).P = Tryd.prog ∧ (law24_few_m n).cl = tabA [] ∧ (law24_few_m n).cd = tabD [] ∧ (law24_few_m n).nrm = tabN [([0, 1, 0, 1], law24_few_n1)] ∧ (law24_few_m n).cut = tabF [] ∧ (law24_few_m n).n = n ∧ (law24_few_m n).out = outR Tryd.prog [.tmp 2] tyB := ⟨rfl, rfl, rfl, rfl, rfl, rfl, rfl⟩
theorem law24_few_c (n : Nat) : (law24_few_m n).body = (Tryd.f11.body).getD .skip := rfl
noncomputable def law24_few_b1 (n : Nat) : { B : ((List Str) → Int → Option Bool) → (List Str) → Int → Option Bool // ∀ m X0, (∀ (v0 : List Str) (v1 : Int), run (law24_few_m n) [.lq m [0, 1, 0, 1], .blk 0, .cut [1, 1], .at [1, 1]] ⟨[.lst false 1 (mp scell v0), .any, .any, .int .i64 v1, .any, .any, .any, .any, .any, .any, .any, .any, .any, .any, .any, .any, .any, .any, .any, .any, .any, .any, .any], [], 0⟩ = X0 v0 v1) → ∀ (v0 : List Str) (v1 : Int), run (law24_few_m n) [.at [0, 0, 1, 0, 1], .lp m [0, 1, 0, 1], .blk 0, .cut [1, 1], .at [1, 1]] ⟨[.lst false 1 (mp scell v0), .any, .any, .int .i64 v1, .any, .any, .any, .any, .any, .any, .any, .any, .any, .any, .any, .any, .any, .any, .any, .any, .any, .any, .any], [], 0⟩ = B X0 v0 v1 } := by
  apply Subtype.mk
  intro m X0 ih v0 v1
  simp (config := { maxSteps := 100000000 }) only [go_sem, Nat.reduceAdd, Nat.reduceSub, Nat.reduceLeDiff, Nat.reduceEqDiff, Nat.reduceBEq, Nat.reduceMul, Nat.reduceLT, Int.reduceLE, Int.reduceLT, Int.reduceToNat, Int.reduceBEq, Int.reduceEq, law24_few_f, law24_few_c, Tryd.f11, Option.getD_some, mixed, law24_few_n1, ih]
  exact rfl
noncomputable def law24_few_l1 (n : Nat) : Nat → (List Str) → Int → Option Bool
  | 0, _, _ => none
  | m + 1, v0, v1 => (law24_few_b1 n).1 (law24_few_l1 n m) v0 v1
theorem law24_few_l1_eq (n : Nat) : ∀ (m : Nat), (∀ (v0 : List Str) (v1 : Int), run (law24_few_m n) [.lq m [0, 1, 0, 1], .blk 0, .cut [1, 1], .at [1, 1]] ⟨[.lst false 1 (mp scell v0), .any, .any, .int .i64 v1, .any, .any, .any, .any, .any, .any, .any, .any, .any, .any, .any, .any, .any, .any, .any, .any, .any, .any, .any], [], 0⟩ = law24_few_l1 n m v0 v1)
  | 0 => by intros; exact run_lq_zero
  | m + 1 => by
    have ih := law24_few_l1_eq n m
    intro v0 v1
    rw [run_lq_succ]
    exact (law24_few_b1 n).2  m _  ih v0 v1
noncomputable def law24_few_e (n : Nat) : { B : (List Str) → Option Bool // ∀ (a0 : (List Str)), run (law24_few_m n) [.at []] { slots := [(tyL rowS).enc a0] ++ List.replicate (23 - [(tyL rowS).enc a0].length) .any, heap := [] } = B a0 } := by
  apply Subtype.mk
  intro a0
  simp (config := { maxSteps := 100000000 }) only [go_sem, Nat.reduceAdd, Nat.reduceSub, Nat.reduceLeDiff, Nat.reduceEqDiff, Nat.reduceBEq, Nat.reduceMul, Nat.reduceLT, Int.reduceLE, Int.reduceLT, Int.reduceToNat, Int.reduceBEq, Int.reduceEq, law24_few_f, law24_few_c, Tryd.f11, Option.getD_some, mixed, law24_few_n1, law24_few_l1_eq n]
  exact rfl
noncomputable def law24_few : Nat → (List Str) → Option Bool
  | 0, _ => none
  | n + 1, a0 => (law24_few_e n).1 a0
theorem law24_few_ok : ∀ (n : Nat) (a0 : (List Str)) (r : Bool), law24_few n a0 = some r → FnC Tryd.prog 11 [(tyL rowS).enc a0] (fun v => v = tyB.enc r)
  | 0, _, _, h => by cases h
  | n + 1, a0, r, h => by
    exact fnC_run (M := law24_few_m n) ⟨tabA_nil_ok, tabD_nil_ok, tabN_ok _, tabF_ok _, noY_ok, noE_ok⟩ Tryd.func11 rfl rfl ⟨(tyL rowS).nb 0 _, trivial⟩ Tryd.ntmps11 Tryd.results11 (fun σ hs => outR_ok (P := Tryd.prog) (rs := [.tmp 2]) (t := tyB) (σ := σ) (r := r) hs) (((law24_few_e n).2 a0).trans h)

noncomputable def strings_FieldsSeq_m (n : Nat) : Mach Str where
  body := (Tryd.f37.body).getD .skip
  P := Tryd.prog
  cl := tabA []
  cd := tabD []
  nrm := tabN []
  cut := tabF [([1, 1], [0])]
  n := n
  out := outR Tryd.prog [.tmp 2] (tyK1 49 (tyP cS))
theorem strings_FieldsSeq_f (n : Nat) : (strings_FieldsSeq_m n).P = Tryd.prog ∧ (strings_FieldsSeq_m n).cl = tabA [] ∧ (strings_FieldsSeq_m n).cd = tabD [] ∧ (strings_FieldsSeq_m n).nrm = tabN [] ∧ (strings_FieldsSeq_m n).cut = tabF [([1, 1], [0])] ∧ (strings_FieldsSeq_m n).n = n ∧ (strings_FieldsSeq_m n).out = outR Tryd.prog [.tmp 2] (tyK1 49 (tyP cS)) := ⟨rfl, rfl, rfl, rfl, rfl, rfl, rfl⟩
theorem strings_FieldsSeq_c (n : Nat) : (strings_FieldsSeq_m n).body = (Tryd.f37.body).getD .skip := rfl
noncomputable def strings_FieldsSeq_e (n : Nat) : { B : Str → Option Str // ∀ (a0 : Str), run (strings_FieldsSeq_m n) [.at []] { slots := [tyS.enc a0] ++ List.replicate (4 - [tyS.enc a0].length) .any, heap := [] } = B a0 } := by
  apply Subtype.mk
  intro a0
  simp (config := { maxSteps := 100000000 }) only [go_sem, Nat.reduceAdd, Nat.reduceSub, Nat.reduceLeDiff, Nat.reduceEqDiff, Nat.reduceBEq, Nat.reduceMul, Nat.reduceLT, Int.reduceLE, Int.reduceLT, Int.reduceToNat, Int.reduceBEq, Int.reduceEq, strings_FieldsSeq_f, strings_FieldsSeq_c, Tryd.f37, Option.getD_some, mixed]
  exact rfl
noncomputable def strings_FieldsSeq : Nat → Str → Option Str
  | 0, _ => none
  | n + 1, a0 => (strings_FieldsSeq_e n).1 a0
theorem strings_FieldsSeq_ok : ∀ (n : Nat) (a0 : Str) (r : Str), strings_FieldsSeq n a0 = some r → FnC Tryd.prog 37 [tyS.enc a0] (fun v => v = (tyK1 49 (tyP cS)).enc r)
  | 0, _, _, h => by cases h
  | n + 1, a0, r, h => by
    exact fnC_run (M := strings_FieldsSeq_m n) ⟨tabA_nil_ok, tabD_nil_ok, tabN_ok _, tabF_ok _, noY_ok, noE_ok⟩ Tryd.func37 rfl rfl ⟨tyS.nb 0 _, trivial⟩ Tryd.ntmps37 Tryd.results37 (fun σ hs => outR_ok (P := Tryd.prog) (rs := [.tmp 2]) (t := (tyK1 49 (tyP cS))) (σ := σ) (r := r) hs) (((strings_FieldsSeq_e n).2 a0).trans h)

noncomputable def lexer_keywords_k0_1_0_1_1 : LoopC := (lkAt [] (sub [0, 1, 0, 1, 1] ((Tryd.f21.body).getD .skip)))
theorem lexer_keywords_k0_1_0_1_1_f : lexer_keywords_k0_1_0_1_1.ps.size = 1 ∧ ∀ j : Int, pendOf lexer_keywords_k0_1_0_1_1.js j = none := ⟨by kernel_rfl, fun j => (by show pendOf [] j = none; unfold pendOf lookJ; cases (j == 0) <;> rfl)⟩
noncomputable def lexer_keywords_k0_1_0_1_1_r_os : OL (Unit × (Unit × ((List (Str × Bool)) × Unit))) := (olC (ogL0 lexer_keywords_k0_1_0_1_1 (alZ (alP 1 (alZs 7 alN)))) (olC (ogC (alM 2 alN)) (olC ogM olN)))
noncomputable def lexer_keywords_k0_1_0_1_1_r_o1 : OL ((Unit × Int) × (Unit × ((List (Str × Bool)) × Unit))) := (olC (ogL lexer_keywords_k0_1_0_1_1 (alZ (alP 1 (alZs 7 alN)))) (olC (ogC (alM 2 alN)) (olC ogM olN)))
noncomputable def lexer_keywords_k0_1_0_1_1_r_m (n : Nat) : Mach (((Unit × Int) × (Unit × ((List (Str × Bool)) × Unit))) × (Bool × Unit)) where
  body := .seq (asgnC (sub [0, 1, 0, 1, 1] ((Tryd.f21.body).getD .skip))) (bdyC (sub [0, 1, 0, 1, 1] ((Tryd.f21.body).getD .skip)))
  P := Tryd.prog
  cl := tabA []
  cd := tabD []
  nrm := tabN []
  cut := tabF []
  n := n
  out := (fun _ => none)
  outR := outRd [] [] [0, 1, 2] 3 lexer_keywords_k0_1_0_1_1_r_o1
theorem lexer_keywords_k0_1_0_1_1_r_f (n : Nat) : (lexer_keywords_k0_1_0_1_1_r_m n).P = Tryd.prog ∧ (lexer_keywords_k0_1_0_1_1_r_m n).cl = tabA [] ∧ (lexer_keywords_k0_1_0_1_1_r_m n).cd = tabD [] ∧ (lexer_keywords_k0_1_0_1_1_r_m n).nrm = tabN [] ∧ (lexer_keywords_k0_1_0_1_1_r_m n).cut = tabF [] ∧ (lexer_keywords_k0_1_0_1_1_r_m n).n = n ∧ (lexer_keywords_k0_1_0_1_1_r_m n).out = (fun _ => none) ∧ (lexer_keywords_k0_1_0_1_1_r_m n).outR = outRd [] [] [0, 1, 2] 3 lexer_keywords_k0_1_0_1_1_r_o1 := ⟨rfl, rfl, rfl, rfl, rfl, rfl, rfl, rfl⟩
theorem lexer_keywords_k0_1_0_1_1_r_c (n : Nat) : (lexer_keywords_k0_1_0_1_1_r_m n).body = .seq (asgnC (sub [0, 1, 0, 1, 1] ((Tryd.f21.body).getD .skip))) (bdyC (sub [0, 1, 0, 1, 1] ((Tryd.f21.body).getD .skip))) := rfl
theorem lexer_keywords_k0_1_0_1_1_r_s : Code.seq (asgnC (sub [0, 1, 0, 1, 1] ((Tryd.f21.body).getD .skip))) (bdyC (sub [0, 1, 0, 1, 1] ((Tryd.f21.body).getD .skip))) = Code.seq lexer_keywords_k0_1_0_1_1.assign lexer_keywords_k0_1_0_1_1.body := by kernel_rfl
noncomputable def lexer_keywords_k0_1_0_1_1_r_e (n : Nat) : { B : Str → (List (Str × Bool)) → Option (((Unit × Int) × (Unit × ((List (Str × Bool)) × Unit))) × (Bool × Unit)) // ∀ (a0 : Str) (o0 : (List (Str × Bool))), run (lexer_keywords_k0_1_0_1_1_r_m n) [.at [0], .rb, .at [1], .rd] { slots := setPs ((alZ (alP 1 (alZs 7 alN))).enc (lexer_keywords_k0_1_0_1_1_r_os.lens ((), (), o0, ())) ()) [5] ((alT tyS alN).enc (lexer_keywords_k0_1_0_1_1_r_os.lens ((), (), o0, ())) (a0, ())), heap := (lexer_keywords_k0_1_0_1_1_r_os.enc (lexer_keywords_k0_1_0_1_1_r_os.lens ((), (), o0, ())) ((), (), o0, ())), low := (lexer_keywords_k0_1_0_1_1_r_os.enc (lexer_keywords_k0_1_0_1_1_r_os.lens ((), (), o0, ())) ((), (), o0, ())).length } = B a0 o0 } := by
  apply Subtype.mk
  intro a0 o0
  simp (config := { maxSteps := 100000000 }) only [go_sem, Nat.reduceAdd, Nat.reduceSub, Nat.reduceLeDiff, Nat.reduceEqDiff, Nat.reduceBEq, Nat.reduceMul, Nat.reduceLT, Int.reduceLE, Int.reduceLT, Int.reduceToNat, Int.reduceBEq, Int.reduceEq, lexer_keywords_k0_1_0_1_1_r_f, lexer_keywords_k0_1_0_1_1_r_c, Tryd.f21, Option.getD_some, mixed, lexer_keywords_k0_1_0_1_1_r_os, lexer_keywords_k0_1_0_1_1_r_o1, lexer_keywords_k0_1_0_1_1_f]
  exact rfl
noncomputable def lexer_keywords_k0_1_0_1_1_r : Nat → Str → (List (Str × Bool)) → Option (((Unit × Int) × (Unit × ((List (Str × Bool)) × Unit))) × (Bool × Unit))
  | 0, _, _ => none
  | n + 1, a0, o0 => (lexer_keywords_k0_1_0_1_1_r_e n).1 a0 o0
theorem lexer_keywords_k0_1_0_1_1_r_ok : ∀ (n : Nat) (a0 : Str) (o0 : (List (Str × Bool))) (r : (((Unit × Int) × (Unit × ((List (Str × Bool)) × Unit))) × (Bool × Unit))), lexer_keywords_k0_1_0_1_1_r n a0 o0 = some r → FnT Tryd.prog (Rounds Tryd.prog) ((alT tyS alN).enc (lexer_keywords_k0_1_0_1_1_r_os.lens ((), (), o0, ())) (a0, ())) (lexer_keywords_k0_1_0_1_1_r_os.enc (lexer_keywords_k0_1_0_1_1_r_os.lens ((), (), o0, ())) ((), (), o0, ())) (fun o H' => o = .ret (tupOf ((alT tyB alN).enc (lexer_keywords_k0_1_0_1_1_r_o1.lens r.1) r.2)) ∧ H' = lexer_keywords_k0_1_0_1_1_r_o1.enc (lexer_keywords_k0_1_0_1_1_r_o1.lens r.1) r.1)
  | 0, _, _, _, h => by cases h
  | n + 1, a0, o0, r, h => by
    exact fnT_run (M := lexer_keywords_k0_1_0_1_1_r_m n) (lk := lexer_keywords_k0_1_0_1_1) (slots := ((alZ (alP 1 (alZs 7 alN))).enc (lexer_keywords_k0_1_0_1_1_r_os.lens ((), (), o0, ())) ())) ⟨tabA_nil_ok, tabD_nil_ok, tabN_ok _, tabF_ok _, noY_ok, noE_ok⟩ lexer_keywords_k0_1_0_1_1_r_s (by kernel_rfl) ⟨by kernel_rfl, by kernel_rfl⟩ rfl (nbL_le (Nat.le_trans (of_decide_eq_true (by kernel_rfl)) (Nat.le_of_eq (lexer_keywords_k0_1_0_1_1_r_os.sz _ _).symm)) _ ((alT tyS alN).nb _ _)) (fun x hx => objNb_le' (Nat.le_trans (of_decide_eq_true (by kernel_rfl)) (Nat.le_of_eq (lexer_keywords_k0_1_0_1_1_r_os.sz _ _).symm)) _ (lexer_keywords_k0_1_0_1_1_r_os.nb _ _ x hx)) (fun e σ hs => outRd_ok (js := []) (pos := []) (base := [0, 1, 2]) (low := 3) (os := lexer_keywords_k0_1_0_1_1_r_o1) (e := e) (σ := σ) (r := r) (by rfl) hs) (((lexer_keywords_k0_1_0_1_1_r_e n).2 a0 o0).trans h)

noncomputable def lexer_class_m (n : Nat) : Mach Int where
  body := (Tryd.f28.body).getD .skip
  P := Tryd.prog
  cl := tabA []
  cd := tabD []
  nrm := tabN []
  cut := tabF []
  n := n
  out := outR Tryd.prog [.tmp 2] (tyI .i64)
theorem lexer_class_f (n : Nat) : (lexer_class_m n).P = Tryd.prog ∧ (lexer_class_m n).cl = tabA [] ∧ (lexer_class_m n).cd = tabD [] ∧ (lexer_class_m n).nrm = tabN [] ∧ (lexer_class_m n).cut = tabF [] ∧ (lexer_class_m n).n = n ∧ (lexer_class_m n).out = outR Tryd.prog [.tmp 2] (tyI .i64) := ⟨rfl, rfl, rfl, rfl, rfl, rfl, rfl⟩
theorem lexer_class_c (n : Nat) : (lexer_class_m n).body = (Tryd.f28.body).getD .skip := rfl
noncomputable def lexer_class_e (n : Nat) : { B : Int → Option Int // ∀ (a0 : Int), run (lexer_class_m n) [.at []] { slots := [(tyI .u8).enc a0] ++ List.replicate (28 - [(tyI .u8).enc a0].length) .any, heap := [] } = B a0 } := by
  apply Subtype.mk
  intro a0
  simp (config := { maxSteps := 100000000 }) only [go_sem, Nat.reduceAdd, Nat.reduceSub, Nat.reduceLeDiff, Nat.reduceEqDiff, Nat.reduceBEq, Nat.reduceMul, Nat.reduceLT, Int.reduceLE, Int.reduceLT, Int.reduceToNat, Int.reduceBEq, Int.reduceEq, lexer_class_f, lexer_class_c, Tryd.f28, Option.getD_some, mixed]
  exact rfl
noncomputable def lexer_class : Nat → Int → Option Int
  | 0, _ => none
  | n + 1, a0 => (lexer_class_e n).1 a0
theorem lexer_class_ok : ∀ (n : Nat) (a0 : Int) (r : Int), lexer_class n a0 = some r → FnC Tryd.prog 28 [(tyI .u8).enc a0] (fun v => v = (tyI .i64).enc r)
  | 0, _, _, h => by cases h
  | n + 1, a0, r, h => by
    exact fnC_run (M := lexer_class_m n) ⟨tabA_nil_ok, tabD_nil_ok, tabN_ok _, tabF_ok _, noY_ok, noE_ok⟩ Tryd.func28 rfl rfl ⟨(tyI .u8).nb 0 _, trivial⟩ Tryd.ntmps28 Tryd.results28 (fun σ hs => outR_ok (P := Tryd.prog) (rs := [.tmp 2]) (t := (tyI .i64)) (σ := σ) (r := r) hs) (((lexer_class_e n).2 a0).trans h)

noncomputable def strings_Fields_n1 : Nrm := ⟨[], [], [zK, zA, zA, zA, zA, zA, zA, zA, zA, zK, zK, zA, zK, zA, zA, zA, zA, zA, zA, zA, zA, zA, zA, zA, zA, zA, zA, zA, zA, zA, zA, zA, zA, zA, zA, zA, zA, zA, zA, zA, zA, zA, zA, zA, zA, zA, zA, zA, zA, zA, zA, zA, zA, zA, zA, zA, zA, zA, zA, zA, zA, zA, zA, zA, zA, zA, zA, zA, zA, zA, zA, zA, zA, zA, zA, zA, zA, zA, zA, zA, zA, zA, zA, zA, zA, zA, zA, zA, zA, zA, zA, zA, zA, zA, zA, zA, zA, zA, zA, zA, zA, zA, zA, zA, zA, zA], [oA rowS], none⟩
noncomputable def strings_Fields_n2 : Nrm := ⟨[], [], [zK, zA, zA, zA, zA, zA, zA, zA, zA, zK, zK, zK, zK, zA, zA, zA, zA, zA, zA, zA, zA, zA, zA, zA, zA, zA, zA, zA, zA, zA, zA, zA, zA, zA, zA, zA, zA, zA, zA, zA, zA, zA, zA, zA, zA, zA, zA, zA, zA, zA, zA, zA, zA, zA, zA, zA, zA, zA, zA, zA, zA, zA, zA, zA, zA, zA, zA, zA, zA, zA, zA, zA, zA, zA, zA, zA, zA, zA, zA, zA, zA, zA, zA, zA, zA, zA, zA, zA, zA, zA, zA, zA, zA, zA, zA, zA, zA, zA, zA, zA, zA, zA, zA, zA, zA, zA], [oA rowS], none⟩
noncomputable def strings_Fields_n3 : Nrm := ⟨[], [], [zK, zA, zA, zA, zA, zA, zA, zA, zA, zK, zK, zA, zK, zA, zA, zA, zA, zA, zA, zA, zA, zA, zA, zA, zA, zA, zA, zA, zA, zA, zA, zA, zA, zA, zA, zA, zA, zA, zA, zA, zA, zA, zA, zA, zA, zA, zA, zA, zA, zA, zA, zA, zA, zA, zA, zA, zA, zA, zA, zA, zA, zA, zA, zA, zA, zA, zA, zA, zA, zA, zA, zA, zA, zA, zA, zA, zA, zA, zA, zA, zA, zA, zA, zA, zA, zA, zA, zA, zA, zA, zA, zA, zA, zA, zA, zA, zA, zA, zA, zA, zA, zA, zA, zA, zA, zA], [oA rowS], none⟩
noncomputable def strings_Fields_n4 : Nrm := ⟨[], [], [zK, zA, zA, zK, zK, zK, zK, zA, zA, zA, zA, zA, zA, zA, zA, zA, zA, zA, zA, zA, zA, zA, zA, zA, zA, zA, zA, zA, zA, zA, zA, zA, zA, zA, zA, zA, zA, zA, zA, zA, zA, zA, zA, zA, zA, zA, zA, zA, zA, zA, zA, zA, zA, zA, zA, zA, zA, zA, zA, zA, zA, zA, zA, zA, zA, zA, zA, zA, zA, zA, zA, zA, zA, zA, zA, zA, zA, zA, zA, zA, zA, zA, zA, zA, zA, zA, zA, zA, zA, zA, zA, zA, zA, zA, zA, zA, zA, zA, zA, zA, zA, zA, zA, zA, zA, zA], [], none⟩
noncomputable def strings_Fields_m (n : Nat) : Mach (List Str) where
  body := (Tryd.f38.body).getD .skip
  P := Tryd.prog
  cl := tabA []
  cd := tabD []
  nrm := tabN [([0, 0, 1, 1, 1, 1, 0, 1, 0, 0, 0, 1, 1, 1, 1, 1, 1, 1, 1, 1, 1, 1, 1], strings_Fields_n1), ([0, 0, 1, 1, 1, 1, 1, 1, 1, 1, 1, 1, 1, 1], strings_Fields_n2), ([0, 0, 1, 1, 1, 1, 1, 1, 1, 1, 1, 1], strings_Fields_n3), ([0, 1, 0, 1, 1, 1, 1], strings_Fields_n4)]
  cut := tabF []
  n := n
  out := outR Tryd.prog [.tmp 2] (tyL rowS)
theorem strings_Fields_f (n : Nat) : (strings_Fields_m n).P = Tryd.prog ∧ (strings_Fields_m n).cl = tabA [] ∧ (strings_Fields_m n).cd = tabD [] ∧ (strings_Fields_m n).nrm = tabN [([0, 0, 1, 1, 1, 1, 0, 1, 0, 0, 0, 1, 1, 1, 1, 1, 1, 1, 1, 1, 1, 1, 1], strings_Fields_n1), ([0, 0, 1, 1, 1, 1, 1, 1, 1, 1, 1, 1, 1, 1], strings_Fields_n2), ([0, 0, 1, 1, 1, 1, 1, 1, 1, 1, 1, 1], strings_Fields_n3), ([0, 1, 0, 1, 1, 1, 1], strings_Fields_n4)] ∧ (strings_Fields_m n).cut = tabF [] ∧ (strings_Fields_m n).n = n ∧ (strings_Fields_m n).out = outR Tryd.prog [.tmp 2] (tyL rowS) := ⟨rfl, rfl, rfl, rfl, rfl, rfl, rfl⟩
theorem strings_Fields_c (n : Nat) : (strings_Fields_m n).body = (Tryd.f38.body).getD .skip := rfl
noncomputable def strings_Fields_b1 (n : Nat) : { B : (Str → Int → Int → Int → (List Str) → Option (List Str)) → (Str → Int → Int → (List Str) → Option (List Str)) → Str → Int → Int → (List Str) → Option (List Str) // ∀ m2 X2 m X0, (∀ (v0 : Str) (v1 : Int) (v2 : Int) (v3 : Int) (r0 : List Str) (c0 : Nat), c0 = r0.length → run (strings_Fields_m n) [.lq m2 [0, 0, 1, 1, 1, 1, 1, 1, 1, 1, 1, 1, 1, 1], .blk 4, .cut [1, 1, 1, 1, 1, 1, 1, 1, 1, 1, 1, 1, 1], .at [1, 1, 1, 1, 1, 1, 1, 1, 1, 1, 1, 1, 1]] ⟨[.str (sb v0), .any, .any, .any, .any, .any, .any, .any, .any, .acc 0 c0, .int .i64 v1, .int .i64 v2, .int .i64 v3, .any, .any, .any, .any, .any, .any, .any, .any, .any, .any, .any, .any, .any, .any, .any, .any, .any, .any, .any, .any, .any, .any, .any, .any, .any, .any, .any, .any, .any, .any, .any, .any, .any, .any, .any, .any, .any, .any, .any, .any, .any, .any, .any, .any, .any, .any, .any, .any, .any, .any, .any, .any, .any, .any, .any, .any, .any, .any, .any, .any, .any, .any, .any, .any, .any, .any, .any, .any, .any, .any, .any, .any, .any, .any, .any, .any, .any, .any, .any, .any, .any, .any, .any, .any, .any, .any, .any, .any, .any, .any, .any, .any, .any], [.acc false 1 (mp scell r0)], 0⟩ = X2 v0 v1 v2 v3 r0) → (∀ (v0 : Str) (v1 : Int) (v2 : Int) (r0 : List Str) (c0 : Nat), c0 = r0.length → run (strings_Fields_m n) [.lq m [0, 0, 1, 1, 1, 1, 0, 1, 0, 0, 0, 1, 1, 1, 1, 1, 1, 1, 1, 1, 1, 1, 1], .blk 6, .cut [1, 1, 1, 1, 1, 0, 1, 0, 0, 0, 1, 1, 1, 1, 1, 1, 1, 1, 1, 1, 1, 1], .at [1, 1, 1, 1, 1, 0, 1, 0, 0, 0, 1, 1, 1, 1, 1, 1, 1, 1, 1, 1, 1, 1], .blk 5, .lp m2 [0, 0, 1, 1, 1, 1, 1, 1, 1, 1, 1, 1, 1, 1], .blk 4, .cut [1, 1, 1, 1, 1, 1, 1, 1, 1, 1, 1, 1, 1], .at [1, 1, 1, 1, 1, 1, 1, 1, 1, 1, 1, 1, 1]] ⟨[.str (sb v0), .any, .any, .any, .any, .any, .any, .any, .any, .acc 0 c0, .int .i64 v1, .any, .int .i64 v2, .any, .any, .any, .any, .any, .any, .any, .any, .any, .any, .any, .any, .any, .any, .any, .any, .any, .any, .any, .any, .any, .any, .any, .any, .any, .any, .any, .any, .any, .any, .any, .any, .any, .any, .any, .any, .any, .any, .any, .any, .any, .any, .any, .any, .any, .any, .any, .any, .any, .any, .any, .any, .any, .any, .any, .any, .any, .any, .any, .any, .any, .any, .any, .any, .any, .any, .any, .any, .any, .any, .any, .any, .any, .any, .any, .any, .any, .any, .any, .any, .any, .any, .any, .any, .any, .any, .any, .any, .any, .any, .any, .any, .any], [.acc false 1 (mp scell r0)], 0⟩ = X0 v0 v1 v2 r0) → ∀ (v0 : Str) (v1 : Int) (v2 : Int) (r0 : List Str), run (strings_Fields_m n) [.at [0, 0, 0, 1, 1, 1, 1, 0, 1, 0, 0, 0, 1, 1, 1, 1, 1, 1, 1, 1, 1, 1, 1, 1], .lp m [0, 0, 1, 1, 1, 1, 0, 1, 0, 0, 0, 1, 1, 1, 1, 1, 1, 1, 1, 1, 1, 1, 1], .blk 6, .cut [1, 1, 1, 1, 1, 0, 1, 0, 0, 0, 1, 1, 1, 1, 1, 1, 1, 1, 1, 1, 1, 1], .at [1, 1, 1, 1, 1, 0, 1, 0, 0, 0, 1, 1, 1, 1, 1, 1, 1, 1, 1, 1, 1, 1], .blk 5, .lp m2 [0, 0, 1, 1, 1, 1, 1, 1, 1, 1, 1, 1, 1, 1], .blk 4, .cut [1, 1, 1, 1, 1, 1, 1, 1, 1, 1, 1, 1, 1], .at [1, 1, 1, 1, 1, 1, 1, 1, 1, 1, 1, 1, 1]] ⟨[.str (sb v0), .any, .any, .any, .any, .any, .any, .any, .any, .acc 0 r0.length, .int .i64 v1, .any, .int .i64 v2, .any, .any, .any, .any, .any, .any, .any, .any, .any, .any, .any, .any, .any, .any, .any, .any, .any, .any, .any, .any, .any, .any, .any, .any, .any, .any, .any, .any, .any, .any, .any, .any, .any, .any, .any, .any, .any, .any, .any, .any, .any, .any, .any, .any, .any, .any, .any, .any, .any, .any, .any, .any, .any, .any, .any, .any, .any, .any, .any, .any, .any, .any, .any, .any, .any, .any, .any, .any, .any, .any, .any, .any, .any, .any, .any, .any, .any, .any, .any, .any, .any, .any, .any, .any, .any, .any, .any, .any, .any, .any, .any, .any, .any], [.acc false 1 (mp scell r0)], 0⟩ = B X2 X0 v0 v1 v2 r0 } := by
  apply Subtype.mk
  intro m2 X2 m X0 h2 ih v0 v1 v2 r0
  simp (config := { maxSteps := 100000000 }) only [go_sem, Nat.reduceAdd, Nat.reduceSub, Nat.reduceLeDiff, Nat.reduceEqDiff, Nat.reduceBEq, Nat.reduceMul, Nat.reduceLT, Int.reduceLE, Int.reduceLT, Int.reduceToNat, Int.reduceBEq, Int.reduceEq, strings_Fields_f, strings_Fields_c, Tryd.f38, Option.getD_some, mixed, strings_Fields_n1, strings_Fields_n2, strings_Fields_n3, strings_Fields_n4, h2, ih]
  exact rfl
noncomputable def strings_Fields_l1 (n : Nat) (X2 : Str → Int → Int → Int → (List Str) → Option (List Str)) : Nat → Str → Int → Int → (List Str) → Option (List Str)
  | 0, _, _, _, _ => none
  | m + 1, v0, v1, v2, r0 => (strings_Fields_b1 n).1 X2 (strings_Fields_l1 n X2 m) v0 v1 v2 r0
theorem strings_Fields_l1_eq (n : Nat) (m2 : Nat) (X2 : Str → Int → Int → Int → (List Str) → Option (List Str)) (h2 : (∀ (v0 : Str) (v1 : Int) (v2 : Int) (v3 : Int) (r0 : List Str) (c0 : Nat), c0 = r0.length → run (strings_Fields_m n) [.lq m2 [0, 0, 1, 1, 1, 1, 1, 1, 1, 1, 1, 1, 1, 1], .blk 4, .cut [1, 1, 1, 1, 1, 1, 1, 1, 1, 1, 1, 1, 1], .at [1, 1, 1, 1, 1, 1, 1, 1, 1, 1, 1, 1, 1]] ⟨[.str (sb v0), .any, .any, .any, .any, .any, .any, .any, .any, .acc 0 c0, .int .i64 v1, .int .i64 v2, .int .i64 v3, .any, .any, .any, .any, .any, .any, .any, .any, .any, .any, .any, .any, .any, .any, .any, .any, .any, .any, .any, .any, .any, .any, .any, .any, .any, .any, .any, .any, .any, .any, .any, .any, .any, .any, .any, .any, .any, .any, .any, .any, .any, .any, .any, .any, .any, .any, .any, .any, .any, .any, .any, .any, .any, .any, .any, .any, .any, .any, .any, .any, .any, .any, .any, .any, .any, .any, .any, .any, .any, .any, .any, .any, .any, .any, .any, .any, .any, .any, .any, .any, .any, .any, .any, .any, .any, .any, .any, .any, .any, .any, .any, .any, .any], [.acc false 1 (mp scell r0)], 0⟩ = X2 v0 v1 v2 v3 r0)) : ∀ (m : Nat), (∀ (v0 : Str) (v1 : Int) (v2 : Int) (r0 : List Str) (c0 : Nat), c0 = r0.length → run (strings_Fields_m n) [.lq m [0, 0, 1, 1, 1, 1, 0, 1, 0, 0, 0, 1, 1, 1, 1, 1, 1, 1, 1, 1, 1, 1, 1], .blk 6, .cut [1, 1, 1, 1, 1, 0, 1, 0, 0, 0, 1, 1, 1, 1, 1, 1, 1, 1, 1, 1, 1, 1], .at [1, 1, 1, 1, 1, 0, 1, 0, 0, 0, 1, 1, 1, 1, 1, 1, 1, 1, 1, 1, 1, 1], .blk 5, .lp m2 [0, 0, 1, 1, 1, 1, 1, 1, 1, 1, 1, 1, 1, 1], .blk 4, .cut [1, 1, 1, 1, 1, 1, 1, 1, 1, 1, 1, 1, 1], .at [1, 1, 1, 1, 1, 1, 1, 1, 1, 1, 1, 1, 1]] ⟨[.str (sb v0), .any, .any, .any, .any, .any, .any, .any, .any, .acc 0 c0, .int .i64 v1, .any, .int .i64 v2, .any, .any, .any, .any, .any, .any, .any, .any, .any, .any, .any, .any, .any, .any, .any, .any, .any, .any, .any, .any, .any, .any, .any, .any, .any, .any, .any, .any, .any, .any, .any, .any, .any, .any, .any, .any, .any, .any, .any, .any, .any, .any, .any, .any, .any, .any, .any, .any, .any, .any, .any, .any, .any, .any, .any, .any, .any, .any, .any, .any, .any, .any, .any, .any, .any, .any, .any, .any, .any, .any, .any, .any, .any, .any, .any, .any, .any, .any, .any, .any, .any, .any, .any, .any, .any, .any, .any, .any, .any, .any, .any, .any, .any], [.acc false 1 (mp scell r0)], 0⟩ = strings_Fields_l1 n X2 m v0 v1 v2 r0)
  | 0 => by intros; exact run_lq_zero
  | m + 1 => by
    have ih := strings_Fields_l1_eq n m2 X2 h2 m
    intro v0 v1 v2 r0 c0 ec0
    subst ec0
    rw [run_lq_succ]
    exact (strings_Fields_b1 n).2 m2 X2 m _ h2 ih v0 v1 v2 r0
noncomputable def strings_Fields_b2 (n : Nat) : { B : (Str → Int → Int → Int → (List Str) → Option (List Str)) → Str → Int → Int → Int → (List Str) → Option (List Str) // ∀ m X0, (∀ (v0 : Str) (v1 : Int) (v2 : Int) (v3 : Int) (r0 : List Str) (c0 : Nat), c0 = r0.length → run (strings_Fields_m n) [.lq m [0, 0, 1, 1, 1, 1, 1, 1, 1, 1, 1, 1, 1, 1], .blk 4, .cut [1, 1, 1, 1, 1, 1, 1, 1, 1, 1, 1, 1, 1], .at [1, 1, 1, 1, 1, 1, 1, 1, 1, 1, 1, 1, 1]] ⟨[.str (sb v0), .any, .any, .any, .any, .any, .any, .any, .any, .acc 0 c0, .int .i64 v1, .int .i64 v2, .int .i64 v3, .any, .any, .any, .any, .any, .any, .any, .any, .any, .any, .any, .any, .any, .any, .any, .any, .any, .any, .any, .any, .any, .any, .any, .any, .any, .any, .any, .any, .any, .any, .any, .any, .any, .any, .any, .any, .any, .any, .any, .any, .any, .any, .any, .any, .any, .any, .any, .any, .any, .any, .any, .any, .any, .any, .any, .any, .any, .any, .any, .any, .any, .any, .any, .any, .any, .any, .any, .any, .any, .any, .any, .any, .any, .any, .any, .any, .any, .any, .any, .any, .any, .any, .any, .any, .any, .any, .any, .any, .any, .any, .any, .any, .any], [.acc false 1 (mp scell r0)], 0⟩ = X0 v0 v1 v2 v3 r0) → ∀ (v0 : Str) (v1 : Int) (v2 : Int) (v3 : Int) (r0 : List Str), run (strings_Fields_m n) [.at [0, 0, 0, 1, 1, 1, 1, 1, 1, 1, 1, 1, 1, 1, 1], .lp m [0, 0, 1, 1, 1, 1, 1, 1, 1, 1, 1, 1, 1, 1], .blk 4, .cut [1, 1, 1, 1, 1, 1, 1, 1, 1, 1, 1, 1, 1], .at [1, 1, 1, 1, 1, 1, 1, 1, 1, 1, 1, 1, 1]] ⟨[.str (sb v0), .any, .any, .any, .any, .any, .any, .any, .any, .acc 0 r0.length, .int .i64 v1, .int .i64 v2, .int .i64 v3, .any, .any, .any, .any, .any, .any, .any, .any, .any, .any, .any, .any, .any, .any, .any, .any, .any, .any, .any, .any, .any, .any, .any, .any, .any, .any, .any, .any, .any, .any, .any, .any, .any, .any, .any, .any, .any, .any, .any, .any, .any, .any, .any, .any, .any, .any, .any, .any, .any, .any, .any, .any, .any, .any, .any, .any, .any, .any, .any, .any, .any, .any, .any, .any, .any, .any, .any, .any, .any, .any, .any, .any, .any, .any, .any, .any, .any, .any, .any, .any, .any, .any, .any, .any, .any, .any, .any, .any, .any, .any, .any, .any, .any], [.acc false 1 (mp scell r0)], 0⟩ = B X0 v0 v1 v2 v3 r0 } := by
  apply Subtype.mk
  intro m X0 ih v0 v1 v2 v3 r0
  simp (config := { maxSteps := 100000000 }) only [go_sem, Nat.reduceAdd, Nat.reduceSub, Nat.reduceLeDiff, Nat.reduceEqDiff, Nat.reduceBEq, Nat.reduceMul, Nat.reduceLT, Int.reduceLE, Int.reduceLT, Int.reduceToNat, Int.reduceBEq, Int.reduceEq, strings_Fields_f, strings_Fields_c, Tryd.f38, Option.getD_some, mixed, strings_Fields_n1, strings_Fields_n2, strings_Fields_n3, strings_Fields_n4, strings_Fields_l1_eq n m X0 ih, ih]
  exact rfl
noncomputable def strings_Fields_l2 (n : Nat) : Nat → Str → Int → Int → Int → (List Str) → Option (List Str)
  | 0, _, _, _, _, _ => none
  | m + 1, v0, v1, v2, v3, r0 => (strings_Fields_b2 n).1 (strings_Fields_l2 n m) v0 v1 v2 v3 r0
theorem strings_Fields_l2_eq (n : Nat) : ∀ (m : Nat), (∀ (v0 : Str) (v1 : Int) (v2 : Int) (v3 : Int) (r0 : List Str) (c0 : Nat), c0 = r0.length → run (strings_Fields_m n) [.lq m [0, 0, 1, 1, 1, 1, 1, 1, 1, 1, 1, 1, 1, 1], .blk 4, .cut [1, 1, 1, 1, 1, 1, 1, 1, 1, 1, 1, 1, 1], .at [1, 1, 1, 1, 1, 1, 1, 1, 1, 1, 1, 1, 1]] ⟨[.str (sb v0), .any, .any, .any, .any, .any, .any, .any, .any, .acc 0 c0, .int .i64 v1, .int .i64 v2, .int .i64 v3, .any, .any, .any, .any, .any, .any, .any, .any, .any, .any, .any, .any, .any, .any, .any, .any, .any, .any, .any, .any, .any, .any, .any, .any, .any, .any, .any, .any, .any, .any, .any, .any, .any, .any, .any, .any, .any, .any, .any, .any, .any, .any, .any, .any, .any, .any, .any, .any, .any, .any, .any, .any, .any, .any, .any, .any, .any, .any, .any, .any, .any, .any, .any, .any, .any, .any, .any, .any, .any, .any, .any, .any, .any, .any, .any, .any, .any, .any, .any, .any, .any, .any, .any, .any, .any, .any, .any, .any, .any, .any, .any, .any, .any], [.acc false 1 (mp scell r0)], 0⟩ = strings_Fields_l2 n m v0 v1 v2 v3 r0)
  | 0 => by intros; exact run_lq_zero
  | m + 1 => by
    have ih := strings_Fields_l2_eq n m
    intro v0 v1 v2 v3 r0 c0 ec0
    subst ec0
    rw [run_lq_succ]
    exact (strings_Fields_b2 n).2  m _  ih v0 v1 v2 v3 r0
noncomputable def strings_Fields_b3 (n : Nat) : { B : (Str → Int → Int → (List Str) → Option (List Str)) → Str → Int → Int → (List Str) → Option (List Str) // ∀ m X0, (∀ (v0 : Str) (v1 : Int) (v2 : Int) (r0 : List Str) (c0 : Nat), c0 = r0.length → run (strings_Fields_m n) [.lq m [0, 0, 1, 1, 1, 1, 1, 1, 1, 1, 1, 1], .blk 2, .cut [1, 1, 1, 1, 1, 1, 1, 1, 1, 1, 1], .at [1, 1, 1, 1, 1, 1, 1, 1, 1, 1, 1]] ⟨[.str (sb v0), .any, .any, .any, .any, .any, .any, .any, .any, .acc 0 c0, .int .i64 v1, .any, .int .i64 v2, .any, .any, .any, .any, .any, .any, .any, .any, .any, .any, .any, .any, .any, .any, .any, .any, .any, .any, .any, .any, .any, .any, .any, .any, .any, .any, .any, .any, .any, .any, .any, .any, .any, .any, .any, .any, .any, .any, .any, .any, .any, .any, .any, .any, .any, .any, .any, .any, .any, .any, .any, .any, .any, .any, .any, .any, .any, .any, .any, .any, .any, .any, .any, .any, .any, .any, .any, .any, .any, .any, .any, .any, .any, .any, .any, .any, .any, .any, .any, .any, .any, .any, .any, .any, .any, .any, .any, .any, .any, .any, .any, .any, .any], [.acc false 1 (mp scell r0)], 0⟩ = X0 v0 v1 v2 r0) → ∀ (v0 : Str) (v1 : Int) (v2 : Int) (r0 : List Str), run (strings_Fields_m n) [.at [0, 0, 0, 1, 1, 1, 1, 1, 1, 1, 1, 1, 1], .lp m [0, 0, 1, 1, 1, 1, 1, 1, 1, 1, 1, 1], .blk 2, .cut [1, 1, 1, 1, 1, 1, 1, 1, 1, 1, 1], .at [1, 1, 1, 1, 1, 1, 1, 1, 1, 1, 1]] ⟨[.str (sb v0), .any, .any, .any, .any, .any, .any, .any, .any, .acc 0 r0.length, .int .i64 v1, .any, .int .i64 v2, .any, .any, .any, .any, .any, .any, .any, .any, .any, .any, .any, .any, .any, .any, .any, .any, .any, .any, .any, .any, .any, .any, .any, .any, .any, .any, .any, .any, .any, .any, .any, .any, .any, .any, .any, .any, .any, .any, .any, .any, .any, .any, .any, .any, .any, .any, .any, .any, .any, .any, .any, .any, .any, .any, .any, .any, .any, .any, .any, .any, .any, .any, .any, .any, .any, .any, .any, .any, .any, .any, .any, .any, .any, .any, .any, .any, .any, .any, .any, .any, .any, .any, .any, .any, .any, .any, .any, .any, .any, .any, .any, .any, .any], [.acc false 1 (mp scell r0)], 0⟩ = B X0 v0 v1 v2 r0 } := by
  apply Subtype.mk
  intro m X0 ih v0 v1 v2 r0
  simp (config := { maxSteps := 100000000 }) only [go_sem, Nat.reduceAdd, Nat.reduceSub, Nat.reduceLeDiff, Nat.reduceEqDiff, Nat.reduceBEq, Nat.reduceMul, Nat.reduceLT, Int.reduceLE, Int.reduceLT, Int.reduceToNat, Int.reduceBEq, Int.reduceEq, strings_Fields_f, strings_Fields_c, Tryd.f38, Option.getD_some, mixed, strings_Fields_n1, strings_Fields_n2, strings_Fields_n3, strings_Fields_n4, strings_Fields_l2_eq n, ih]
  exact rfl
noncomputable def strings_Fields_l3 (n : Nat) : Nat → Str → Int → Int → (List Str) → Option (List Str)
  | 0, _, _, _, _ => none
  | m + 1, v0, v1, v2, r0 => (strings_Fields_b3 n).1 (strings_Fields_l3 n m) v0 v1 v2 r0
theorem strings_Fields_l3_eq (n : Nat) : ∀ (m : Nat), (∀ (v0 : Str) (v1 : Int) (v2 : Int) (r0 : List Str) (c0 : Nat), c0 = r0.length → run (strings_Fields_m n) [.lq m [0, 0, 1, 1, 1, 1, 1, 1, 1, 1, 1, 1], .blk 2, .cut [1, 1, 1, 1, 1, 1, 1, 1, 1, 1, 1], .at [1, 1, 1, 1, 1, 1, 1, 1, 1, 1, 1]] ⟨[.str (sb v0), .any, .any, .any, .any, .any, .any, .any, .any, .acc 0 c0, .int .i64 v1, .any, .int .i64 v2, .any, .any, .any, .any, .any, .any, .any, .any, .any, .any, .any, .any, .any, .any, .any, .any, .any, .any, .any, .any, .any, .any, .any, .any, .any, .any, .any, .any, .any, .any, .any, .any, .any, .any, .any, .any, .any, .any, .any, .any, .any, .any, .any, .any, .any, .any, .any, .any, .any, .any, .any, .any, .any, .any, .any, .any, .any, .any, .any, .any, .any, .any, .any, .any, .any, .any, .any, .any, .any, .any, .any, .any, .any, .any, .any, .any, .any, .any, .any, .any, .any, .any, .any, .any, .any, .any, .any, .any, .any, .any, .any, .any, .any], [.acc false 1 (mp scell r0)], 0⟩ = strings_Fields_l3 n m v0 v1 v2 r0)
  | 0 => by intros; exact run_lq_zero
  | m + 1 => by
    have ih := strings_Fields_l3_eq n m
    intro v0 v1 v2 r0 c0 ec0
    subst ec0
    rw [run_lq_succ]
    exact (strings_Fields_b3 n).2  m _  ih v0 v1 v2 r0
noncomputable def strings_Fields_b4 (n : Nat) : { B : (Str → Int → Int → Int → Int → Option (List Str)) → Str → Int → Int → Int → Int → Option (List Str) // ∀ m X0, (∀ (v0 : Str) (v1 : Int) (v2 : Int) (v3 : Int) (v4 : Int), run (strings_Fields_m n) [.lq m [0, 1, 0, 1, 1, 1, 1], .blk 0, .cut [1, 1, 1, 1, 1], .at [1, 1, 1, 1, 1]] ⟨[.str (sb v0), .any, .any, .int .i64 v1, .int .i64 v2, .int .u8 v3, .int .i64 v4, .any, .any, .any, .any, .any, .any, .any, .any, .any, .any, .any, .any, .any, .any, .any, .any, .any, .any, .any, .any, .any, .any, .any, .any, .any, .any, .any, .any, .any, .any, .any, .any, .any, .any, .any, .any, .any, .any, .any, .any, .any, .any, .any, .any, .any, .any, .any, .any, .any, .any, .any, .any, .any, .any, .any, .any, .any, .any, .any, .any, .any, .any, .any, .any, .any, .any, .any, .any, .any, .any, .any, .any, .any, .any, .any, .any, .any, .any, .any, .any, .any, .any, .any, .any, .any, .any, .any, .any, .any, .any, .any, .any, .any, .any, .any, .any, .any, .any, .any], [], 0⟩ = X0 v0 v1 v2 v3 v4) → ∀ (v0 : Str) (v1 : Int) (v2 : Int) (v3 : Int) (v4 : Int), run (strings_Fields_m n) [.at [0, 0, 1, 0, 1, 1, 1, 1], .lp m [0, 1, 0, 1, 1, 1, 1], .blk 0, .cut [1, 1, 1, 1, 1], .at [1, 1, 1, 1, 1]] ⟨[.str (sb v0), .any, .any, .int .i64 v1, .int .i64 v2, .int .u8 v3, .int .i64 v4, .any, .any, .any, .any, .any, .any, .any, .any, .any, .any, .any, .any, .any, .any, .any, .any, .any, .any, .any, .any, .any, .any, .any, .any, .any, .any, .any, .any, .any, .any, .any, .any, .any, .any, .any, .any, .any, .any, .any, .any, .any, .any, .any, .any, .any, .any, .any, .any, .any, .any, .any, .any, .any, .any, .any, .any, .any, .any, .any, .any, .any, .any, .any, .any, .any, .any, .any, .any, .any, .any, .any, .any, .any, .any, .any, .any, .any, .any, .any, .any, .any, .any, .any, .any, .any, .any, .any, .any, .any, .any, .any, .any, .any, .any, .any, .any, .any, .any, .any], [], 0⟩ = B X0 v0 v1 v2 v3 v4 } := by
  apply Subtype.mk
  intro m X0 ih v0 v1 v2 v3 v4
  simp (config := { maxSteps := 100000000 }) only [go_sem, Nat.reduceAdd, Nat.reduceSub, Nat.reduceLeDiff, Nat.reduceEqDiff, Nat.reduceBEq, Nat.reduceMul, Nat.reduceLT, Int.reduceLE, Int.reduceLT, Int.reduceToNat, Int.reduceBEq, Int.reduceEq, strings_Fields_f, strings_Fields_c, Tryd.f38, Option.getD_some, mixed, strings_Fields_n1, strings_Fields_n2, strings_Fields_n3, strings_Fields_n4, strings_Fields_l2_eq n, strings_Fields_l3_eq n, ih]
  exact rfl
noncomputable def strings_Fields_l4 (n : Nat) : Nat → Str → Int → Int → Int → Int → Option (List Str)
  | 0, _, _, _, _, _ => none
  | m + 1, v0, v1, v2, v3, v4 => (strings_Fields_b4 n).1 (strings_Fields_l4 n m) v0 v1 v2 v3 v4
theorem strings_Fields_l4_eq (n : Nat) : ∀ (m : Nat), (∀ (v0 : Str) (v1 : Int) (v2 : Int) (v3 : Int) (v4 : Int), run (strings_Fields_m n) [.lq m [0, 1, 0, 1, 1, 1, 1], .blk 0, .cut [1, 1, 1, 1, 1], .at [1, 1, 1, 1, 1]] ⟨[.str (sb v0), .any, .any, .int .i64 v1, .int .i64 v2, .int .u8 v3, .int .i64 v4, .any, .any, .any, .any, .any, .any, .any, .any, .any, .any, .any, .any, .any, .any, .any, .any, .any, .any, .any, .any, .any, .any, .any, .any, .any, .any, .any, .any, .any, .any, .any, .any, .any, .any, .any, .any, .any, .any, .any, .any, .any, .any, .any, .any, .any, .any, .any, .any, .any, .any, .any, .any, .any, .any, .any, .any, .any, .any, .any, .any, .any, .any, .any, .any, .any, .any, .any, .any, .any, .any, .any, .any, .any, .any, .any, .any, .any, .any, .any, .any, .any, .any, .any, .any, .any, .any, .any, .any, .any, .any, .any, .any, .any, .any, .any, .any, .any, .any, .any], [], 0⟩ = strings_Fields_l4 n m v0 v1 v2 v3 v4)
  | 0 => by intros; exact run_lq_zero
  | m + 1 => by
    have ih := strings_Fields_l4_eq n m
    intro v0 v1 v2 v3 v4
    rw [run_lq_succ]
    exact (strings_Fields_b4 n).2  m _  ih v0 v1 v2 v3 v4
noncomputable def strings_Fields_e (n : Nat) : { B : Str → Option (List Str) // ∀ (a0 : Str), run (strings_Fields_m n) [.at []] { slots := [tyS.enc a0] ++ List.replicate (106 - [tyS.enc a0].length) .any, heap := [] } = B a0 } := by
  apply Subtype.mk
  intro a0
  simp (config := { maxSteps := 100000000 }) only [go_sem, Nat.reduceAdd, Nat.reduceSub, Nat.reduceLeDiff, Nat.reduceEqDiff, Nat.reduceBEq, Nat.reduceMul, Nat.reduceLT, Int.reduceLE, Int.reduceLT, Int.reduceToNat, Int.reduceBEq, Int.reduceEq, strings_Fields_f, strings_Fields_c, Tryd.f38, Option.getD_some, mixed, strings_Fields_n1, strings_Fields_n2, strings_Fields_n3, strings_Fields_n4, strings_Fields_l2_eq n, strings_Fields_l3_eq n, strings_Fields_l4_eq n]
  exact rfl
noncomputable def strings_Fields : Nat → Str → Option (List Str)
  | 0, _ => none
  | n + 1, a0 => (strings_Fields_e n).1 a0
theorem strings_Fields_ok : ∀ (n : Nat) (a0 : Str) (r : (List Str)), strings_Fields n a0 = some r → FnC Tryd.prog 38 [tyS.enc a0] (fun v => v = (tyL rowS).enc r)
  | 0, _, _, h => by cases h
  | n + 1, a0, r, h => by
    exact fnC_run (M := strings_Fields_m n) ⟨tabA_nil_ok, tabD_nil_ok, tabN_ok _, tabF_ok _, noY_ok, noE_ok⟩ Tryd.func38 rfl rfl ⟨tyS.nb 0 _, trivial⟩ Tryd.ntmps38 Tryd.results38 (fun σ hs => outR_ok (P := Tryd.prog) (rs := [.tmp 2]) (t := (tyL rowS)) (σ := σ) (r := r) hs) (((strings_Fields_e n).2 a0).trans h)

noncomputable def strings_IndexByte_m (n : Nat) : Mach Int where
  body := (Tryd.f62.body).getD .skip
  P := Tryd.prog
  cl := tabA [(66, ent2 tyS (tyI .u8) (tyI .i64) (internal_stringslite_IndexByte n))]
  cd := tabD []
  nrm := tabN []
  cut := tabF []
  n := n
  out := outR Tryd.prog [.tmp 4] (tyI .i64)
theorem strings_IndexByte_f (n : Nat) : (strings_IndexByte_m n).P = Tryd.prog ∧ (strings_IndexByte_m n).cl = tabA [(66, ent2 tyS (tyI .u8) (tyI .i64) (internal_stringslite_IndexByte n))] ∧ (strings_IndexByte_m n).cd = tabD [] ∧ (strings_IndexByte_m n).nrm = tabN [] ∧ (strings_IndexByte_m n).cut = tabF [] ∧ (strings_IndexByte_m n).n = n ∧ (strings_IndexByte_m n).out = outR Tryd.prog [.tmp 4] (tyI .i64) := ⟨rfl, rfl, rfl, rfl, rfl, rfl, rfl⟩
theorem strings_IndexByte_c (n : Nat) : (strings_IndexByte_m n).body = (Tryd.f62.body).getD .skip := rfl
noncomputable def strings_IndexByte_e (n : Nat) : { B : Str → Int → Option Int // ∀ (a0 : Str) (a1 : Int), run (strings_IndexByte_m n) [.at []] { slots := [tyS.enc a0, (tyI .u8).enc a1] ++ List.replicate (8 - [tyS.enc a0, (tyI .u8).enc a1].length) .any, heap := [] } = B a0 a1 } := by
  apply Subtype.mk
  intro a0 a1
  simp (config := { maxSteps := 100000000 }) only [go_sem, Nat.reduceAdd, Nat.reduceSub, Nat.reduceLeDiff, Nat.reduceEqDiff, Nat.reduceBEq, Nat.reduceMul, Nat.reduceLT, Int.reduceLE, Int.reduceLT, Int.reduceToNat, Int.reduceBEq, Int.reduceEq, strings_IndexByte_f, strings_IndexByte_c, Tryd.f62, Option.getD_some, mixed]
  exact rfl
noncomputable def strings_IndexByte : Nat → Str → Int → Option Int
  | 0, _, _ => none
  | n + 1, a0, a1 => (strings_IndexByte_e n).1 a0 a1
theorem strings_IndexByte_ok : ∀ (n : Nat) (a0 : Str) (a1 : Int) (r : Int), strings_IndexByte n a0 a1 = some r → FnC Tryd.prog 62 [tyS.enc a0, (tyI .u8).enc a1] (fun v => v = (tyI .i64).enc r)
  | 0, _, _, _, h => by cases h
  | n + 1, a0, a1, r, h => by
    exact fnC_run (M := strings_IndexByte_m n) ⟨(tabA_cons_ok (ent2_ok (internal_stringslite_IndexByte_ok n)) tabA_nil_ok), tabD_nil_ok, tabN_ok _, tabF_ok _, noY_ok, noE_ok⟩ Tryd.func62 rfl rfl ⟨tyS.nb 0 _, (tyI .u8).nb 0 _, trivial⟩ Tryd.ntmps62 Tryd.results62 (fun σ hs => outR_ok (P := Tryd.prog) (rs := [.tmp 4]) (t := (tyI .i64)) (σ := σ) (r := r) hs) (((strings_IndexByte_e n).2 a0 a1).trans h)
end Go.Abs
namespace Go.Abs
open Go.Proofs
set_option maxRecDepth 100000
set_option maxHeartbeats 4000000
set_option linter.unusedSimpArgs false
set_option linter.unusedVariables false
noncomputable def unicode_utf8_ValidRune_m (n : Nat) : Mach Bool where
  body := (Tryd.f63.body).getD .skip
  P := Tryd.prog
  cl := tabA []
  cd := tabD []
  nrm := tabN []
  cut := tabF []
  n := n
  out := outR Tryd.prog [.tmp 2] tyB
theorem unicode_utf8_ValidRune_f (n : Nat) : (unicode_utf8_ValidRune_m n).P = Tryd.prog ∧ (unicode_utf8_ValidRune_m n).cl = tabA [] ∧ (unicode_utf8_ValidRune_m n).cd = tabD [] ∧ (unicode_utf8_ValidRune_m n).nrm = tabN [] ∧ (unicode_utf8_ValidRune_m n).cut = tabF [] ∧ (unicode_utf8_ValidRune_m n).n = n ∧ (unicode_utf8_ValidRune_m n).out = outR Tryd.prog [.tmp 2] tyB := ⟨rfl, rfl, rfl, rfl, rfl, rfl, rfl⟩
theorem unicode_utf8_ValidRune_c (n : Nat) : (unicode_utf8_ValidRune_m n).body = (Tryd.f63.body).getD .skip := rfl
noncomputable def unicode_utf8_ValidRune_e (n : Nat) : { B : Int → Option Bool // ∀ (a0 : Int), run (unicode_utf8_ValidRune_m n) [.at []] { slots := [(tyI .i32).enc a0] ++ List.replicate (17 - [(tyI .i32).enc a0].length) .any, heap := [] } = B a0 } := by
  apply Subtype.mk
  intro a0
  simp (config := { maxSteps := 100000000 }) only [go_sem, Nat.reduceAdd, Nat.reduceSub, Nat.reduceLeDiff, Nat.reduceEqDiff, Nat.reduceBEq, Nat.reduceMul, Nat.reduceLT, Int.reduceLE, Int.reduceLT, Int.reduceToNat, Int.reduceBEq, Int.reduceEq, unicode_utf8_ValidRune_f, unicode_utf8_ValidRune_c, Tryd.f63, Option.getD_some, mixed]
  exact rfl
noncomputable def unicode_utf8_ValidRune : Nat → Int → Option Bool
  | 0, _ => none
  | n + 1, a0 => (unicode_utf8_ValidRune_e n).1 a0
theorem unicode_utf8_ValidRune_ok : ∀ (n : Nat) (a0 : Int) (r : Bool), unicode_utf8_ValidRune n a0 = some r → FnC Tryd.prog 63 [(tyI .i32).enc a0] (fun v => v = tyB.enc r)
  | 0, _, _, h => by cases h
  | n + 1, a0, r, h => by
    exact fnC_run (M := unicode_utf8_ValidRune_m n) ⟨tabA_nil_ok, tabD_nil_ok, tabN_ok _, tabF_ok _, noY_ok, noE_ok⟩ Tryd.func63 rfl rfl ⟨(tyI .i32).nb 0 _, trivial⟩ Tryd.ntmps63 Tryd.results63 (fun σ hs => outR_ok (P := Tryd.prog) (rs := [.tmp 2]) (t := tyB) (σ := σ) (r := r) hs) (((unicode_utf8_ValidRune_e n).2 a0).trans h)

noncomputable def internal_stringslite_HasPrefix_m (n : Nat) : Mach Bool where
  body := (Tryd.f57.body).getD .skip
  P := Tryd.prog
  cl := tabA []
  cd := tabD []
  nrm := tabN []
  cut := tabF []
  n := n
  out := outR Tryd.prog [.tmp 4] tyB
theorem internal_stringslite_HasPrefix_f (n : Nat) : (internal_stringslite_HasPrefix_m n).P = Tryd.prog ∧ (internal_stringslite_HasPrefix_m n).cl = tabA [] ∧ (internal_stringslite_HasPrefix_m n).cd = tabD [] ∧ (internal_stringslite_HasPrefix_m n).nrm = tabN [] ∧ (internal_stringslite_HasPrefix_m n).cut = tabF [] ∧ (internal_stringslite_HasPrefix_m n).n = n ∧ (internal_stringslite_HasPrefix_m n).out = outR Tryd.prog [.tmp 4] tyB := ⟨rfl, rfl, rfl, rfl, rfl, rfl, rfl⟩
theorem internal_stringslite_HasPrefix_c (n : Nat) : (internal_stringslite_HasPrefix_m n).body = (Tryd.f57.body).getD .skip := rfl
noncomputable def internal_stringslite_HasPrefix_e (n : Nat) : { B : Str → Str → Option Bool // ∀ (a0 : Str) (a1 : Str), run (internal_stringslite_HasPrefix_m n) [.at []] { slots := [tyS.enc a0, tyS.enc a1] ++ List.replicate (18 - [tyS.enc a0, tyS.enc a1].length) .any, heap := [] } = B a0 a1 } := by
  apply Subtype.mk
  intro a0 a1
  simp (config := { maxSteps := 100000000 }) only [go_sem, Nat.reduceAdd, Nat.reduceSub, Nat.reduceLeDiff, Nat.reduceEqDiff, Nat.reduceBEq, Nat.reduceMul, Nat.reduceLT, Int.reduceLE, Int.reduceLT, Int.reduceToNat, Int.reduceBEq, Int.reduceEq, internal_stringslite_HasPrefix_f, internal_stringslite_HasPrefix_c, Tryd.f57, Option.getD_some, mixed]
  exact rfl
noncomputable def internal_stringslite_HasPrefix : Nat → Str → Str → Option Bool
  | 0, _, _ => none
  | n + 1, a0, a1 => (internal_stringslite_HasPrefix_e n).1 a0 a1
theorem internal_stringslite_HasPrefix_ok : ∀ (n : Nat) (a0 : Str) (a1 : Str) (r : Bool), internal_stringslite_HasPrefix n a0 a1 = some r → FnC Tryd.prog 57 [tyS.enc a0, tyS.enc a1] (fun v => v = tyB.enc r)
  | 0, _, _, _, h => by cases h
  | n + 1, a0, a1, r, h => by
    exact fnC_run (M := internal_stringslite_HasPrefix_m n) ⟨tabA_nil_ok, tabD_nil_ok, tabN_ok _, tabF_ok _, noY_ok, noE_ok⟩ Tryd.func57 rfl rfl ⟨tyS.nb 0 _, tyS.nb 0 _, trivial⟩ Tryd.ntmps57 Tryd.results57 (fun σ hs => outR_ok (P := Tryd.prog) (rs := [.tmp 4]) (t := tyB) (σ := σ) (r := r) hs) (((internal_stringslite_HasPrefix_e n).2 a0 a1).trans h)

noncomputable def lexer_scanner_symbol_n1 : Nrm := ⟨[], [], [zK, zA, zA, zA, zA, zK, zA, zA, zA, zA, zA, zA, zA, zA, zA, zA, zA, zA, zA, zA, zA, zA, zA, zA, zA, zA, zA, zA, zA, zA, zA, zA, zA, zA, zA, zA, zA, zA, zA, zA, zA, zA, zA, zA, zA, zA, zA, zA, zA, zA, zA], [oC [zK, zK, zK, zK, zK], oK, oK, oK], none⟩
noncomputable def lexer_scanner_symbol_os : OL ((Str × (Int × Unit)) × ((List (Str × Bool)) × ((List (Str × Bool)) × ((List (Str × Bool)) × Unit)))) := (olC (ogC (alT tyS (alT (tyI .i64) (alM 1 (alM 2 (alM 3 alN)))))) (olC ogM (olC ogM (olC ogM olN))))
noncomputable def lexer_scanner_symbol_o1 : OL ((Str × (Int × Unit)) × ((List (Str × Bool)) × ((List (Str × Bool)) × ((List (Str × Bool)) × Unit)))) := (olC (ogC (alT tyS (alT (tyI .i64) (alM 1 (alM 2 (alM 3 alN)))))) (olC ogM (olC ogM (olC ogM olN))))
noncomputable def lexer_scanner_symbol_rs : AL (Int × (Int × (Int × Unit))) := (alT (tyI .i64) (alT (tyI .i64) (alT (tyI .i64) alN)))
noncomputable def lexer_scanner_symbol_m (n : Nat) : Mach (((Str × (Int × Unit)) × ((List (Str × Bool)) × ((List (Str × Bool)) × ((List (Str × Bool)) × Unit)))) × (Int × (Int × (Int × Unit)))) where
  body := (Tryd.f23.body).getD .skip
  P := Tryd.prog
  cl := tabA []
  cd := tabD []
  nrm := tabN [([0, 1, 0, 1], lexer_scanner_symbol_n1)]
  cut := tabF []
  n := n
  out := outS Tryd.prog [.tmp 2, .tmp 3, .tmp 4] [] [0, 1, 2, 3] 4 lexer_scanner_symbol_o1 lexer_scanner_symbol_rs
  isE := tabI []
theorem lexer_scanner_symbol_f (n : Nat) : (lexer_scanner_symbol_m n).P = Tryd.prog ∧ (lexer_scanner_symbol_m n).cl = tabA [] ∧ (lexer_scanner_symbol_m n).cd = tabD [] ∧ (lexer_scanner_symbol_m n).nrm = tabN [([0, 1, 0, 1], lexer_scanner_symbol_n1)] ∧ (lexer_scanner_symbol_m n).cut = tabF [] ∧ (lexer_scanner_symbol_m n).n = n ∧ (lexer_scanner_symbol_m n).out = outS Tryd.prog [.tmp 2, .tmp 3, .tmp 4] [] [0, 1, 2, 3] 4 lexer_scanner_symbol_o1 lexer_scanner_symbol_rs ∧ (lexer_scanner_symbol_m n).isE = tabI [] := ⟨rfl, rfl, rfl, rfl, rfl, rfl, rfl, rfl⟩
theorem lexer_scanner_symbol_c (n : Nat) : (lexer_scanner_symbol_m n).body = (Tryd.f23.body).getD .skip := rfl
theorem lexer_scanner_symbol_d (n : Nat) : drawP (lexer_scanner_symbol_m n) [0, 0, 0, 1, 0, 0, 1, 0, 1] = true ∧ drawP (lexer_scanner_symbol_m n) [0, 0, 1] = true ∧ drawP (lexer_scanner_symbol_m n) [0, 0, 1, 0, 0, 1, 0, 0, 1, 0, 1] = true ∧ drawP (lexer_scanner_symbol_m n) [0, 1, 1] = true := ⟨by kernel_rfl, by kernel_rfl, by kernel_rfl, by kernel_rfl⟩
noncomputable def lexer_scanner_symbol_b1 (n : Nat) : { B : (Int → Str → Int → (List (Str × Bool)) → (List (Str × Bool)) → (List (Str × Bool)) → Option (((Str × (Int × Unit)) × ((List (Str × Bool)) × ((List (Str × Bool)) × ((List (Str × Bool)) × Unit)))) × (Int × (Int × (Int × Unit))))) → Int → Str → Int → (List (Str × Bool)) → (List (Str × Bool)) → (List (Str × Bool)) → Option (((Str × (Int × Unit)) × ((List (Str × Bool)) × ((List (Str × Bool)) × ((List (Str × Bool)) × Unit)))) × (Int × (Int × (Int × Unit)))) // ∀ m X0, (∀ (v0 : Int) (v1 : Str) (v2 : Int) (r1 : List (Str × Bool)) (r2 : List (Str × Bool)) (r3 : List (Str × Bool)), run (lexer_scanner_symbol_m n) [.lq m [0, 1, 0, 1], .blk 0, .cut [1, 1], .at [1, 1]] ⟨[.ptr 0 0, .any, .any, .any, .any, .int .i64 v0, .any, .any, .any, .any, .any, .any, .any, .any, .any, .any, .any, .any, .any, .any, .any, .any, .any, .any, .any, .any, .any, .any, .any, .any, .any, .any, .any, .any, .any, .any, .any, .any, .any, .any, .any, .any, .any, .any, .any, .any, .any, .any, .any, .any, .any], [.cells [.str (sb v1), .int .i64 v2, .map 1, .map 2, .map 3], .map (mp mcB r1), .map (mp mcB r2), .map (mp mcB r3)], 4⟩ = X0 v0 v1 v2 r1 r2 r3) → ∀ (v0 : Int) (v1 : Str) (v2 : Int) (r1 : List (Str × Bool)) (r2 : List (Str × Bool)) (r3 : List (Str × Bool)), run (lexer_scanner_symbol_m n) [.at [0, 0, 1, 0, 1], .lp m [0, 1, 0, 1], .blk 0, .cut [1, 1], .at [1, 1]] ⟨[.ptr 0 0, .any, .any, .any, .any, .int .i64 v0, .any, .any, .any, .any, .any, .any, .any, .any, .any, .any, .any, .any, .any, .any, .any, .any, .any, .any, .any, .any, .any, .any, .any, .any, .any, .any, .any, .any, .any, .any, .any, .any, .any, .any, .any, .any, .any, .any, .any, .any, .any, .any, .any, .any, .any], [.cells [.str (sb v1), .int .i64 v2, .map 1, .map 2, .map 3], .map (mp mcB r1), .map (mp mcB r2), .map (mp mcB r3)], 4⟩ = B X0 v0 v1 v2 r1 r2 r3 } := by
  apply Subtype.mk
  intro m X0 ih v0 v1 v2 r1 r2 r3
  simp (config := { maxSteps := 100000000 }) only [go_sem, Nat.reduceAdd, Nat.reduceSub, Nat.reduceLeDiff, Nat.reduceEqDiff, Nat.reduceBEq, Nat.reduceMul, Nat.reduceLT, Int.reduceLE, Int.reduceLT, Int.reduceToNat, Int.reduceBEq, Int.reduceEq, lexer_scanner_symbol_f, lexer_scanner_symbol_c, Tryd.f23, Option.getD_some, mixed, lexer_scanner_symbol_os, lexer_scanner_symbol_o1, lexer_scanner_symbol_rs, lexer_scanner_symbol_d, lexer_scanner_symbol_n1, ih]
  exact rfl
noncomputable def lexer_scanner_symbol_l1 (n : Nat) : Nat → Int → Str → Int → (List (Str × Bool)) → (List (Str × Bool)) → (List (Str × Bool)) → Option (((Str × (Int × Unit)) × ((List (Str × Bool)) × ((List (Str × Bool)) × ((List (Str × Bool)) × Unit)))) × (Int × (Int × (Int × Unit))))
  | 0, _, _, _, _, _, _ => none
  | m + 1, v0, v1, v2, r1, r2, r3 => (lexer_scanner_symbol_b1 n).1 (lexer_scanner_symbol_l1 n m) v0 v1 v2 r1 r2 r3
theorem lexer_scanner_symbol_l1_eq (n : Nat) : ∀ (m : Nat), (∀ (v0 : Int) (v1 : Str) (v2 : Int) (r1 : List (Str × Bool)) (r2 : List (Str × Bool)) (r3 : List (Str × Bool)), run (lexer_scanner_symbol_m n) [.lq m [0, 1, 0, 1], .blk 0, .cut [1, 1], .at [1, 1]] ⟨[.ptr 0 0, .any, .any, .any, .any, .int .i64 v0, .any, .any, .any, .any, .any, .any, .any, .any, .any, .any, .any, .any, .any, .any, .any, .any, .any, .any, .any, .any, .any, .any, .any, .any, .any, .any, .any, .any, .any, .any, .any, .any, .any, .any, .any, .any, .any, .any, .any, .any, .any, .any, .any, .any, .any], [.cells [.str (sb v1), .int .i64 v2, .map 1, .map 2, .map 3], .map (mp mcB r1), .map (mp mcB r2), .map (mp mcB r3)], 4⟩ = lexer_scanner_symbol_l1 n m v0 v1 v2 r1 r2 r3)
  | 0 => by intros; exact run_lq_zero
  | m + 1 => by
    have ih := lexer_scanner_symbol_l1_eq n m
    intro v0 v1 v2 r1 r2 r3
    rw [run_lq_succ]
    exact (lexer_scanner_symbol_b1 n).2  m _  ih v0 v1 v2 r1 r2 r3
noncomputable def lexer_scanner_symbol_e (n : Nat) : { B : Str → Int → (List (Str × Bool)) → (List (Str × Bool)) → (List (Str × Bool)) → Option (((Str × (Int × Unit)) × ((List (Str × Bool)) × ((List (Str × Bool)) × ((List (Str × Bool)) × Unit)))) × (Int × (Int × (Int × Unit)))) // ∀ (o0 : Str) (o1 : Int) (o2 : (List (Str × Bool))) (o3 : (List (Str × Bool))) (o4 : (List (Str × Bool))), run (lexer_scanner_symbol_m n) [.at []] { slots := ((alP 0 alN).enc (lexer_scanner_symbol_os.lens ((o0, o1, ()), o2, o3, o4, ())) ()) ++ List.replicate (51 - ((alP 0 alN).enc (lexer_scanner_symbol_os.lens ((o0, o1, ()), o2, o3, o4, ())) ()).length) .any, heap := (lexer_scanner_symbol_os.enc (lexer_scanner_symbol_os.lens ((o0, o1, ()), o2, o3, o4, ())) ((o0, o1, ()), o2, o3, o4, ())), low := (lexer_scanner_symbol_os.enc (lexer_scanner_symbol_os.lens ((o0, o1, ()), o2, o3, o4, ())) ((o0, o1, ()), o2, o3, o4, ())).length } = B o0 o1 o2 o3 o4 } := by
  apply Subtype.mk
  intro o0 o1 o2 o3 o4
  simp (config := { maxSteps := 100000000 }) only [go_sem, Nat.reduceAdd, Nat.reduceSub, Nat.reduceLeDiff, Nat.reduceEqDiff, Nat.reduceBEq, Nat.reduceMul, Nat.reduceLT, Int.reduceLE, Int.reduceLT, Int.reduceToNat, Int.reduceBEq, Int.reduceEq, lexer_scanner_symbol_f, lexer_scanner_symbol_c, Tryd.f23, Option.getD_some, mixed, lexer_scanner_symbol_os, lexer_scanner_symbol_o1, lexer_scanner_symbol_rs, lexer_scanner_symbol_d, lexer_scanner_symbol_n1, lexer_scanner_symbol_l1_eq n]
  exact rfl
noncomputable def lexer_scanner_symbol : Nat → Str → Int → (List (Str × Bool)) → (List (Str × Bool)) → (List (Str × Bool)) → Option (((Str × (Int × Unit)) × ((List (Str × Bool)) × ((List (Str × Bool)) × ((List (Str × Bool)) × Unit)))) × (Int × (Int × (Int × Unit))))
  | 0, _, _, _, _, _ => none
  | n + 1, o0, o1, o2, o3, o4 => (lexer_scanner_symbol_e n).1 o0 o1 o2 o3 o4
theorem lexer_scanner_symbol_ok : ∀ (n : Nat) (o0 : Str) (o1 : Int) (o2 : (List (Str × Bool))) (o3 : (List (Str × Bool))) (o4 : (List (Str × Bool))) (r : (((Str × (Int × Unit)) × ((List (Str × Bool)) × ((List (Str × Bool)) × ((List (Str × Bool)) × Unit)))) × (Int × (Int × (Int × Unit))))), lexer_scanner_symbol n o0 o1 o2 o3 o4 = some r → FnG Tryd.prog 23 ((alP 0 alN).enc (lexer_scanner_symbol_os.lens ((o0, o1, ()), o2, o3, o4, ())) ()) (lexer_scanner_symbol_os.enc (lexer_scanner_symbol_os.lens ((o0, o1, ()), o2, o3, o4, ())) ((o0, o1, ()), o2, o3, o4, ())) (fun o H' => o = .ret (tupOf (lexer_scanner_symbol_rs.enc (lexer_scanner_symbol_o1.lens r.1) r.2)) ∧ H' = lexer_scanner_symbol_o1.enc (lexer_scanner_symbol_o1.lens r.1) r.1)
  | 0, _, _, _, _, _, _, h => by cases h
  | n + 1, o0, o1, o2, o3, o4, r, h => by
    exact fnG_run (M := lexer_scanner_symbol_m n) ⟨tabA_nil_ok, tabD_nil_ok, tabN_ok _, tabF_ok _, noY_ok, noE_ok⟩ Tryd.func23 rfl rfl (nbL_le (Nat.le_trans (of_decide_eq_true (by kernel_rfl)) (Nat.le_of_eq (lexer_scanner_symbol_os.sz _ _).symm)) _ ((alP 0 alN).nb _ _)) (fun x hx => objNb_le' (Nat.le_trans (of_decide_eq_true (by kernel_rfl)) (Nat.le_of_eq (lexer_scanner_symbol_os.sz _ _).symm)) _ (lexer_scanner_symbol_os.nb _ _ x hx)) Tryd.ntmps23 Tryd.results23 (fun σ hs => outS_ok (P := Tryd.prog) (rs := [.tmp 2, .tmp 3, .tmp 4]) (pos := []) (base := [0, 1, 2, 3]) (low := 4) (os := lexer_scanner_symbol_o1) (s := lexer_scanner_symbol_rs) (σ := σ) (r := r) (by rfl) hs) (((lexer_scanner_symbol_e n).2 o0 o1 o2 o3 o4).trans h)

noncomputable def strings_shouldUseASCIISet_m (n : Nat) : Mach Bool where
  body := (Tryd.f54.body).getD .skip
  P := Tryd.prog
  cl := tabA []
  cd := tabD []
  nrm := tabN []
  cut := tabF []
  n := n
  out := outR Tryd.prog [.tmp 2] tyB
theorem strings_shouldUseASCIISet_f (n : Nat) : (strings_shouldUseASCIISet_m n).P = Tryd.prog ∧ (strings_shouldUseASCIISet_m n).cl = tabA [] ∧ (strings_shouldUseASCIISet_m n).cd = tabD [] ∧ (strings_shouldUseASCIISet_m n).nrm = tabN [] ∧ (strings_shouldUseASCIISet_m n).cut = tabF [] ∧ (strings_shouldUseASCIISet_m n).n = n ∧ (strings_shouldUseASCIISet_m n).out = outR Tryd.prog [.tmp 2] tyB := ⟨rfl, rfl, rfl, rfl, rfl, rfl, rfl⟩
theorem strings_shouldUseASCIISet_c (n : Nat) : (strings_shouldUseASCIISet_m n).body = (Tryd.f54.body).getD .skip := rfl
noncomputable def strings_shouldUseASCIISet_e (n : Nat) : { B : Int → Option Bool // ∀ (a0 : Int), run (strings_shouldUseASCIISet_m n) [.at []] { slots := [(tyI .i64).enc a0] ++ List.replicate (5 - [(tyI .i64).enc a0].length) .any, heap := [] } = B a0 } := by
  apply Subtype.mk
  intro a0
  simp (config := { maxSteps := 100000000 }) only [go_sem, Nat.reduceAdd, Nat.reduceSub, Nat.reduceLeDiff, Nat.reduceEqDiff, Nat.reduceBEq, Nat.reduceMul, Nat.reduceLT, Int.reduceLE, Int.reduceLT, Int.reduceToNat, Int.reduceBEq, Int.reduceEq, strings_shouldUseASCIISet_f, strings_shouldUseASCIISet_c, Tryd.f54, Option.getD_some, mixed]
  exact rfl
noncomputable def strings_shouldUseASCIISet : Nat → Int → Option Bool
  | 0, _ => none
  | n + 1, a0 => (strings_shouldUseASCIISet_e n).1 a0
theorem strings_shouldUseASCIISet_ok : ∀ (n : Nat) (a0 : Int) (r : Bool), strings_shouldUseASCIISet n a0 = some r → FnC Tryd.prog 54 [(tyI .i64).enc a0] (fun v => v = tyB.enc r)
  | 0, _, _, h => by cases h
  | n + 1, a0, r, h => by
    exact fnC_run (M := strings_shouldUseASCIISet_m n) ⟨tabA_nil_ok, tabD_nil_ok, tabN_ok _, tabF_ok _, noY_ok, noE_ok⟩ Tryd.func54 rfl rfl ⟨(tyI .i64).nb 0 _, trivial⟩ Tryd.ntmps54 Tryd.results54 (fun σ hs => outR_ok (P := Tryd.prog) (rs := [.tmp 2]) (t := tyB) (σ := σ) (r := r) hs) (((strings_shouldUseASCIISet_e n).2 a0).trans h)

noncomputable def ref24_letter_m (n : Nat) : Mach Bool where
  body := (Tryd.f48.body).getD .skip
  P := Tryd.prog
  cl := tabA []
  cd := tabD []
  nrm := tabN []
  cut := tabF []
  n := n
  out := outR Tryd.prog [.tmp 2] tyB
theorem ref24_letter_f (n : Nat) : (ref24_letter_m n).P = Tryd.prog ∧ (ref24_letter_m n).cl = tabA [] ∧ (ref24_letter_m n).cd = tabD [] ∧ (ref24_letter_m n).nrm = tabN [] ∧ (ref24_letter_m n).cut = tabF [] ∧ (ref24_letter_m n).n = n ∧ (ref24_letter_m n).out = outR Tryd.prog [.tmp 2] tyB := ⟨rfl, rfl, rfl, rfl, rfl, rfl, rfl⟩
theorem ref24_letter_c (n : Nat) : (ref24_letter_m n).body = (Tryd.f48.body).getD .skip := rfl
noncomputable def ref24_letter_e (n : Nat) : { B : Int → Option Bool // ∀ (a0 : Int), run (ref24_letter_m n) [.at []] { slots := [(tyI .u8).enc a0] ++ List.replicate (17 - [(tyI .u8).enc a0].length) .any, heap := [] } = B a0 } := by
  apply Subtype.mk
  intro a0
  simp (config := { maxSteps := 100000000 }) only [go_sem, Nat.reduceAdd, Nat.reduceSub, Nat.reduceLeDiff, Nat.reduceEqDiff, Nat.reduceBEq, Nat.reduceMul, Nat.reduceLT, Int.reduceLE, Int.reduceLT, Int.reduceToNat, Int.reduceBEq, Int.reduceEq, ref24_letter_f, ref24_letter_c, Tryd.f48, Option.getD_some, mixed]
  exact rfl
noncomputable def ref24_letter : Nat → Int → Option Bool
  | 0, _ => none
  | n + 1, a0 => (ref24_letter_e n).1 a0
theorem ref24_letter_ok : ∀ (n : Nat) (a0 : Int) (r : Bool), ref24_letter n a0 = some r → FnC Tryd.prog 48 [(tyI .u8).enc a0] (fun v => v = tyB.enc r)
  | 0, _, _, h => by cases h
  | n + 1, a0, r, h => by
    exact fnC_run (M := ref24_letter_m n) ⟨tabA_nil_ok, tabD_nil_ok, tabN_ok _, tabF_ok _, noY_ok, noE_ok⟩ Tryd.func48 rfl rfl ⟨(tyI .u8).nb 0 _, trivial⟩ Tryd.ntmps48 Tryd.results48 (fun σ hs => outR_ok (P := Tryd.prog) (rs := [.tmp 2]) (t := tyB) (σ := σ) (r := r) hs) (((ref24_letter_e n).2 a0).trans h)

noncomputable def ref24_digit_m (n : Nat) : Mach Bool where
  body := (Tryd.f45.body).getD .skip
  P := Tryd.prog
  cl := tabA []
  cd := tabD []
  nrm := tabN []
  cut := tabF []
  n := n
  out := outR Tryd.prog [.tmp 2] tyB
theorem ref24_digit_f (n : Nat) : (ref24_digit_m n).P = Tryd.prog ∧ (ref24_digit_m n).cl = tabA [] ∧ (ref24_digit_m n).cd = tabD [] ∧ (ref24_digit_m n).nrm = tabN [] ∧ (ref24_digit_m n).cut = tabF [] ∧ (ref24_digit_m n).n = n ∧ (ref24_digit_m n).out = outR Tryd.prog [.tmp 2] tyB := ⟨rfl, rfl, rfl, rfl, rfl, rfl, rfl⟩
theorem ref24_digit_c (n : Nat) : (ref24_digit_m n).body = (Tryd.f45.body).getD .skip := rfl
noncomputable def ref24_digit_e (n : Nat) : { B : Int → Option Bool // ∀ (a0 : Int), run (ref24_digit_m n) [.at []] { slots := [(tyI .u8).enc a0] ++ List.replicate (9 - [(tyI .u8).enc a0].length) .any, heap := [] } = B a0 } := by
  apply Subtype.mk
  intro a0
  simp (config := { maxSteps := 100000000 }) only [go_sem, Nat.reduceAdd, Nat.reduceSub, Nat.reduceLeDiff, Nat.reduceEqDiff, Nat.reduceBEq, Nat.reduceMul, Nat.reduceLT, Int.reduceLE, Int.reduceLT, Int.reduceToNat, Int.reduceBEq, Int.reduceEq, ref24_digit_f, ref24_digit_c, Tryd.f45, Option.getD_some, mixed]
  exact rfl
noncomputable def ref24_digit : Nat → Int → Option Bool
  | 0, _ => none
  | n + 1, a0 => (ref24_digit_e n).1 a0
theorem ref24_digit_ok : ∀ (n : Nat) (a0 : Int) (r : Bool), ref24_digit n a0 = some r → FnC Tryd.prog 45 [(tyI .u8).enc a0] (fun v => v = tyB.enc r)
  | 0, _, _, h => by cases h
  | n + 1, a0, r, h => by
    exact fnC_run (M := ref24_digit_m n) ⟨tabA_nil_ok, tabD_nil_ok, tabN_ok _, tabF_ok _, noY_ok, noE_ok⟩ Tryd.func45 rfl rfl ⟨(tyI .u8).nb 0 _, trivial⟩ Tryd.ntmps45 Tryd.results45 (fun σ hs => outR_ok (P := Tryd.prog) (rs := [.tmp 2]) (t := tyB) (σ := σ) (r := r) hs) (((ref24_digit_e n).2 a0).trans h)
end Go.Abs
namespace Go.Abs
open Go.Proofs
set_option maxRecDepth 100000
set_option maxHeartbeats 4000000
set_option linter.unusedSimpArgs false
set_option linter.unusedVariables false
noncomputable def ref24_Keyword_n1 : Nrm := ⟨[], [], [zK, zA, zA, zT (tyL rowS), zK, zA, zA, zA, zA, zA, zA, zA, zA, zA, zA, zA, zA, zA], [], none⟩
noncomputable def ref24_Keyword_m (n : Nat) : Mach Bool where
  body := (Tryd.f17.body).getD .skip
  P := Tryd.prog
  cl := tabA []
  cd := tabD []
  nrm := tabN [([0, 1, 0, 1, 1], ref24_Keyword_n1)]
  cut := tabF []
  n := n
  out := outR Tryd.prog [.tmp 2] tyB
theorem ref24_Keyword_f (n : Nat) : (ref24_Keyword_m n).P = Tryd.prog ∧ (ref24_Keyword_m n).cl = tabA [] ∧ (ref24_Keyword_m n).cd = tabD [] ∧ (ref24_Keyword_m n).nrm = tabN [([0, 1, 0, 1, 1], ref24_Keyword_n1)] ∧ (ref24_Keyword_m n).cut = tabF [] ∧ (ref24_Keyword_m n).n = n ∧ (ref24_Keyword_m n).out = outR Tryd.prog [.tmp 2] tyB := ⟨rfl, rfl, rfl, rfl, rfl, rfl, rfl⟩
theorem ref24_Keyword_c (n : Nat) : (ref24_Keyword_m n).body = (Tryd.f17.body).getD .skip := rfl
noncomputable def ref24_Keyword_b1 (n : Nat) : { B : (Str → (List Str) → Int → Option Bool) → Str → (List Str) → Int → Option Bool // ∀ m X0, (∀ (v0 : Str) (v1 : List Str) (v2 : Int), run (ref24_Keyword_m n) [.lq m [0, 1, 0, 1, 1], .blk 0, .cut [1, 1, 1], .at [1, 1, 1]] ⟨[.str (sb v0), .any, .any, .lst false 1 (mp scell v1), .int .i64 v2, .any, .any, .any, .any, .any, .any, .any, .any, .any, .any, .any, .any, .any], [], 0⟩ = X0 v0 v1 v2) → ∀ (v0 : Str) (v1 : List Str) (v2 : Int), run (ref24_Keyword_m n) [.at [0, 0, 1, 0, 1, 1], .lp m [0, 1, 0, 1, 1], .blk 0, .cut [1, 1, 1], .at [1, 1, 1]] ⟨[.str (sb v0), .any, .any, .lst false 1 (mp scell v1), .int .i64 v2, .any, .any, .any, .any, .any, .any, .any, .any, .any, .any, .any, .any, .any], [], 0⟩ = B X0 v0 v1 v2 } := by
  apply Subtype.mk
  intro m X0 ih v0 v1 v2
  simp (config := { maxSteps := 100000000 }) only [go_sem, Nat.reduceAdd, Nat.reduceSub, Nat.reduceLeDiff, Nat.reduceEqDiff, Nat.reduceBEq, Nat.reduceMul, Nat.reduceLT, Int.reduceLE, Int.reduceLT, Int.reduceToNat, Int.reduceBEq, Int.reduceEq, ref24_Keyword_f, ref24_Keyword_c, Tryd.f17, Option.getD_some, mixed, ref24_Keyword_n1, ih]
  exact rfl
noncomputable def ref24_Keyword_l1 (n : Nat) : Nat → Str → (List Str) → Int → Option Bool
  | 0, _, _, _ => none
  | m + 1, v0, v1, v2 => (ref24_Keyword_b1 n).1 (ref24_Keyword_l1 n m) v0 v1 v2
theorem ref24_Keyword_l1_eq (n : Nat) : ∀ (m : Nat), (∀ (v0 : Str) (v1 : List Str) (v2 : Int), run (ref24_Keyword_m n) [.lq m [0, 1, 0, 1, 1], .blk 0, .cut [1, 1, 1], .at [1, 1, 1]] ⟨[.str (sb v0), .any, .any, .lst false 1 (mp scell v1), .int .i64 v2, .any, .any, .any, .any, .any, .any, .any, .any, .any, .any, .any, .any, .any], [], 0⟩ = ref24_Keyword_l1 n m v0 v1 v2)
  | 0 => by intros; exact run_lq_zero
  | m + 1 => by
    have ih := ref24_Keyword_l1_eq n m
    intro v0 v1 v2
    rw [run_lq_succ]
    exact (ref24_Keyword_b1 n).2  m _  ih v0 v1 v2
noncomputable def ref24_Keyword_e (n : Nat) : { B : Str → Option Bool // ∀ (a0 : Str), run (ref24_Keyword_m n) [.at []] { slots := [tyS.enc a0] ++ List.replicate (18 - [tyS.enc a0].length) .any, heap := [] } = B a0 } := by
  apply Subtype.mk
  intro a0
  simp (config := { maxSteps := 100000000 }) only [go_sem, Nat.reduceAdd, Nat.reduceSub, Nat.reduceLeDiff, Nat.reduceEqDiff, Nat.reduceBEq, Nat.reduceMul, Nat.reduceLT, Int.reduceLE, Int.reduceLT, Int.reduceToNat, Int.reduceBEq, Int.reduceEq, ref24_Keyword_f, ref24_Keyword_c, Tryd.f17, Option.getD_some, mixed, ref24_Keyword_n1, ref24_Keyword_l1_eq n]
  exact rfl
noncomputable def ref24_Keyword : Nat → Str → Option Bool
  | 0, _ => none
  | n + 1, a0 => (ref24_Keyword_e n).1 a0
theorem ref24_Keyword_ok : ∀ (n : Nat) (a0 : Str) (r : Bool), ref24_Keyword n a0 = some r → FnC Tryd.prog 17 [tyS.enc a0] (fun v => v = tyB.enc r)
  | 0, _, _, h => by cases h
  | n + 1, a0, r, h => by
    exact fnC_run (M := ref24_Keyword_m n) ⟨tabA_nil_ok, tabD_nil_ok, tabN_ok _, tabF_ok _, noY_ok, noE_ok⟩ Tryd.func17 rfl rfl ⟨tyS.nb 0 _, trivial⟩ Tryd.ntmps17 Tryd.results17 (fun σ hs => outR_ok (P := Tryd.prog) (rs := [.tmp 2]) (t := tyB) (σ := σ) (r := r) hs) (((ref24_Keyword_e n).2 a0).trans h)

noncomputable def ref24_sign_n1 : Nrm := ⟨[], [], [zK, zA, zA, zK, zK, zA, zA, zA, zA, zA, zA, zA, zA, zA, zA, zA], [], none⟩
noncomputable def ref24_sign_m (n : Nat) : Mach Bool where
  body := (Tryd.f35.body).getD .skip
  P := Tryd.prog
  cl := tabA []
  cd := tabD []
  nrm := tabN [([0, 1, 0, 1, 1], ref24_sign_n1)]
  cut := tabF []
  n := n
  out := outR Tryd.prog [.tmp 2] tyB
theorem ref24_sign_f (n : Nat) : (ref24_sign_m n).P = Tryd.prog ∧ (ref24_sign_m n).cl = tabA [] ∧ (ref24_sign_m n).cd = tabD [] ∧ (ref24_sign_m n).nrm = tabN [([0, 1, 0, 1, 1], ref24_sign_n1)] ∧ (ref24_sign_m n).cut = tabF [] ∧ (ref24_sign_m n).n = n ∧ (ref24_sign_m n).out = outR Tryd.prog [.tmp 2] tyB := ⟨rfl, rfl, rfl, rfl, rfl, rfl, rfl⟩
theorem ref24_sign_c (n : Nat) : (ref24_sign_m n).body = (Tryd.f35.body).getD .skip := rfl
noncomputable def ref24_sign_b1 (n : Nat) : { B : (Int → Str → Int → Option Bool) → Int → Str → Int → Option Bool // ∀ m X0, (∀ (v0 : Int) (v1 : Str) (v2 : Int), run (ref24_sign_m n) [.lq m [0, 1, 0, 1, 1], .blk 0, .cut [1, 1, 1], .at [1, 1, 1]] ⟨[.int .u8 v0, .any, .any, .str (sb v1), .int .i64 v2, .any, .any, .any, .any, .any, .any, .any, .any, .any, .any, .any], [], 0⟩ = X0 v0 v1 v2) → ∀ (v0 : Int) (v1 : Str) (v2 : Int), run (ref24_sign_m n) [.at [0, 0, 1, 0, 1, 1], .lp m [0, 1, 0, 1, 1], .blk 0, .cut [1, 1, 1], .at [1, 1, 1]] ⟨[.int .u8 v0, .any, .any, .str (sb v1), .int .i64 v2, .any, .any, .any, .any, .any, .any, .any, .any, .any, .any, .any], [], 0⟩ = B X0 v0 v1 v2 } := by
  apply Subtype.mk
  intro m X0 ih v0 v1 v2
  simp (config := { maxSteps := 100000000 }) only [go_sem, Nat.reduceAdd, Nat.reduceSub, Nat.reduceLeDiff, Nat.reduceEqDiff, Nat.reduceBEq, Nat.reduceMul, Nat.reduceLT, Int.reduceLE, Int.reduceLT, Int.reduceToNat, Int.reduceBEq, Int.reduceEq, ref24_sign_f, ref24_sign_c, Tryd.f35, Option.getD_some, mixed, ref24_sign_n1, ih]
  exact rfl
noncomputable def ref24_sign_l1 (n : Nat) : Nat → Int → Str → Int → Option Bool
  | 0, _, _, _ => none
  | m + 1, v0, v1, v2 => (ref24_sign_b1 n).1 (ref24_sign_l1 n m) v0 v1 v2
theorem ref24_sign_l1_eq (n : Nat) : ∀ (m : Nat), (∀ (v0 : Int) (v1 : Str) (v2 : Int), run (ref24_sign_m n) [.lq m [0, 1, 0, 1, 1], .blk 0, .cut [1, 1, 1], .at [1, 1, 1]] ⟨[.int .u8 v0, .any, .any, .str (sb v1), .int .i64 v2, .any, .any, .any, .any, .any, .any, .any, .any, .any, .any, .any], [], 0⟩ = ref24_sign_l1 n m v0 v1 v2)
  | 0 => by intros; exact run_lq_zero
  | m + 1 => by
    have ih := ref24_sign_l1_eq n m
    intro v0 v1 v2
    rw [run_lq_succ]
    exact (ref24_sign_b1 n).2  m _  ih v0 v1 v2
noncomputable def ref24_sign_e (n : Nat) : { B : Int → Option Bool // ∀ (a0 : Int), run (ref24_sign_m n) [.at []] { slots := [(tyI .u8).enc a0] ++ List.replicate (16 - [(tyI .u8).enc a0].length) .any, heap := [] } = B a0 } := by
  apply Subtype.mk
  intro a0
  simp (config := { maxSteps := 100000000 }) only [go_sem, Nat.reduceAdd, Nat.reduceSub, Nat.reduceLeDiff, Nat.reduceEqDiff, Nat.reduceBEq, Nat.reduceMul, Nat.reduceLT, Int.reduceLE, Int.reduceLT, Int.reduceToNat, Int.reduceBEq, Int.reduceEq, ref24_sign_f, ref24_sign_c, Tryd.f35, Option.getD_some, mixed, ref24_sign_n1, ref24_sign_l1_eq n]
  exact rfl
noncomputable def ref24_sign : Nat → Int → Option Bool
  | 0, _ => none
  | n + 1, a0 => (ref24_sign_e n).1 a0
theorem ref24_sign_ok : ∀ (n : Nat) (a0 : Int) (r : Bool), ref24_sign n a0 = some r → FnC Tryd.prog 35 [(tyI .u8).enc a0] (fun v => v = tyB.enc r)
  | 0, _, _, h => by cases h
  | n + 1, a0, r, h => by
    exact fnC_run (M := ref24_sign_m n) ⟨tabA_nil_ok, tabD_nil_ok, tabN_ok _, tabF_ok _, noY_ok, noE_ok⟩ Tryd.func35 rfl rfl ⟨(tyI .u8).nb 0 _, trivial⟩ Tryd.ntmps35 Tryd.results35 (fun σ hs => outR_ok (P := Tryd.prog) (rs := [.tmp 2]) (t := tyB) (σ := σ) (r := r) hs) (((ref24_sign_e n).2 a0).trans h)

noncomputable def ref24_fixed_m (n : Nat) : Mach (List Str) where
  body := (Tryd.f36.body).getD .skip
  P := Tryd.prog
  cl := tabA []
  cd := tabD []
  nrm := tabN []
  cut := tabF []
  n := n
  out := outR Tryd.prog [.tmp 0] (tyLt rowS)
theorem ref24_fixed_f (n : Nat) : (ref24_fixed_m n).P = Tryd.prog ∧ (ref24_fixed_m n).cl = tabA [] ∧ (ref24_fixed_m n).cd = tabD [] ∧ (ref24_fixed_m n).nrm = tabN [] ∧ (ref24_fixed_m n).cut = tabF [] ∧ (ref24_fixed_m n).n = n ∧ (ref24_fixed_m n).out = outR Tryd.prog [.tmp 0] (tyLt rowS) := ⟨rfl, rfl, rfl, rfl, rfl, rfl, rfl⟩
theorem ref24_fixed_c (n : Nat) : (ref24_fixed_m n).body = (Tryd.f36.body).getD .skip := rfl
noncomputable def ref24_fixed_e (n : Nat) : { B : Option (List Str) // run (ref24_fixed_m n) [.at []] { slots := ([] : List AV) ++ List.replicate (2 - ([] : List AV).length) .any, heap := [] } = B } := by
  apply Subtype.mk
  simp (config := { maxSteps := 100000000 }) only [go_sem, Nat.reduceAdd, Nat.reduceSub, Nat.reduceLeDiff, Nat.reduceEqDiff, Nat.reduceBEq, Nat.reduceMul, Nat.reduceLT, Int.reduceLE, Int.reduceLT, Int.reduceToNat, Int.reduceBEq, Int.reduceEq, ref24_fixed_f, ref24_fixed_c, Tryd.f36, Option.getD_some, mixed]
  exact rfl
noncomputable def ref24_fixed : Nat → Option (List Str)
  | 0 => none
  | n + 1 => (ref24_fixed_e n).1
theorem ref24_fixed_ok : ∀ (n : Nat) (r : (List Str)), ref24_fixed n = some r → FnC Tryd.prog 36 [] (fun v => v = (tyLt rowS).enc r)
  | 0, _, h => by cases h
  | n + 1, r, h => by
    exact fnC_run (M := ref24_fixed_m n) ⟨tabA_nil_ok, tabD_nil_ok, tabN_ok _, tabF_ok _, noY_ok, noE_ok⟩ Tryd.func36 rfl rfl trivial Tryd.ntmps36 Tryd.results36 (fun σ hs => outR_ok (P := Tryd.prog) (rs := [.tmp 0]) (t := (tyLt rowS)) (σ := σ) (r := r) hs) (((ref24_fixed_e n).2).trans h)

noncomputable def ref24_skip_n1 : Nrm := ⟨[], [], [zK, zK, zA, zA, zA, zA, zA, zA, zA, zA, zA, zA, zA, zA, zA, zA, zA, zA, zA, zA, zA, zA, zA, zA, zA, zA, zA, zA, zA, zA, zA, zA, zA, zA, zA, zA, zA, zA, zA, zA, zA, zA, zA, zA, zA, zA, zA, zA, zA, zA, zA, zA, zA, zA, zA, zA, zA, zA, zA, zA, zA, zA, zA, zA, zA, zA, zA], [], none⟩
noncomputable def ref24_skip_n2 : Nrm := ⟨[], [], [zK, zK, zA, zA, zA, zA, zA, zA, zA, zA, zA, zA, zA, zA, zA, zA, zA, zA, zA, zA, zA, zA, zA, zA, zA, zA, zA, zA, zA, zA, zA, zA, zA, zA, zA, zA, zA, zA, zA, zA, zA, zA, zA, zA, zA, zA, zA, zA, zA, zA, zA, zA, zA, zA, zA, zA, zA, zA, zA, zA, zA, zA, zA, zA, zA, zA, zA], [], none⟩
noncomputable def ref24_skip_m (n : Nat) : Mach Int where
  body := (Tryd.f29.body).getD .skip
  P := Tryd.prog
  cl := tabA []
  cd := tabD []
  nrm := tabN [([0, 0, 1, 1, 1, 0, 0, 1, 0, 0, 0, 1], ref24_skip_n1), ([0, 0, 1], ref24_skip_n2)]
  cut := tabF []
  n := n
  out := outR Tryd.prog [.tmp 4] (tyI .i64)
theorem ref24_skip_f (n : Nat) : (ref24_skip_m n).P = Tryd.prog ∧ (ref24_skip_m n).cl = tabA [] ∧ (ref24_skip_m n).cd = tabD [] ∧ (ref24_skip_m n).nrm = tabN [([0, 0, 1, 1, 1, 0, 0, 1, 0, 0, 0, 1], ref24_skip_n1), ([0, 0, 1], ref24_skip_n2)] ∧ (ref24_skip_m n).cut = tabF [] ∧ (ref24_skip_m n).n = n ∧ (ref24_skip_m n).out = outR Tryd.prog [.tmp 4] (tyI .i64) := ⟨rfl, rfl, rfl, rfl, rfl, rfl, rfl⟩
theorem ref24_skip_c (n : Nat) : (ref24_skip_m n).body = (Tryd.f29.body).getD .skip := rfl
noncomputable def ref24_skip_b1 (n : Nat) : { B : (Str → Int → Option Int) → (Str → Int → Option Int) → Str → Int → Option Int // ∀ m2 X2 m X0, (∀ (v0 : Str) (v1 : Int), run (ref24_skip_m n) [.lq m2 [0, 0, 1], .blk 0, .cut [1, 1], .at [1, 1]] ⟨[.str (sb v0), .int .i64 v1, .any, .any, .any, .any, .any, .any, .any, .any, .any, .any, .any, .any, .any, .any, .any, .any, .any, .any, .any, .any, .any, .any, .any, .any, .any, .any, .any, .any, .any, .any, .any, .any, .any, .any, .any, .any, .any, .any, .any, .any, .any, .any, .any, .any, .any, .any, .any, .any, .any, .any, .any, .any, .any, .any, .any, .any, .any, .any, .any, .any, .any, .any, .any, .any, .any], [], 0⟩ = X2 v0 v1) → (∀ (v0 : Str) (v1 : Int), run (ref24_skip_m n) [.lq m [0, 0, 1, 1, 1, 0, 0, 1, 0, 0, 0, 1], .blk 3, .blk 2, .blk 1, .lp m2 [0, 0, 1], .blk 0, .cut [1, 1], .at [1, 1]] ⟨[.str (sb v0), .int .i64 v1, .any, .any, .any, .any, .any, .any, .any, .any, .any, .any, .any, .any, .any, .any, .any, .any, .any, .any, .any, .any, .any, .any, .any, .any, .any, .any, .any, .any, .any, .any, .any, .any, .any, .any, .any, .any, .any, .any, .any, .any, .any, .any, .any, .any, .any, .any, .any, .any, .any, .any, .any, .any, .any, .any, .any, .any, .any, .any, .any, .any, .any, .any, .any, .any, .any], [], 0⟩ = X0 v0 v1) → ∀ (v0 : Str) (v1 : Int), run (ref24_skip_m n) [.at [0, 0, 0, 1, 1, 1, 0, 0, 1, 0, 0, 0, 1], .lp m [0, 0, 1, 1, 1, 0, 0, 1, 0, 0, 0, 1], .blk 3, .blk 2, .blk 1, .lp m2 [0, 0, 1], .blk 0, .cut [1, 1], .at [1, 1]] ⟨[.str (sb v0), .int .i64 v1, .any, .any, .any, .any, .any, .any, .any, .any, .any, .any, .any, .any, .any, .any, .any, .any, .any, .any, .any, .any, .any, .any, .any, .any, .any, .any, .any, .any, .any, .any, .any, .any, .any, .any, .any, .any, .any, .any, .any, .any, .any, .any, .any, .any, .any, .any, .any, .any, .any, .any, .any, .any, .any, .any, .any, .any, .any, .any, .any, .any, .any, .any, .any, .any, .any], [], 0⟩ = B X2 X0 v0 v1 } := by
  apply Subtype.mk
  intro m2 X2 m X0 h2 ih v0 v1
  simp (config := { maxSteps := 100000000 }) only [go_sem, Nat.reduceAdd, Nat.reduceSub, Nat.reduceLeDiff, Nat.reduceEqDiff, Nat.reduceBEq, Nat.reduceMul, Nat.reduceLT, Int.reduceLE, Int.reduceLT, Int.reduceToNat, Int.reduceBEq, Int.reduceEq, ref24_skip_f, ref24_skip_c, Tryd.f29, Option.getD_some, mixed, ref24_skip_n1, ref24_skip_n2, h2, ih]
  exact rfl
noncomputable def ref24_skip_l1 (n : Nat) (X2 : Str → Int → Option Int) : Nat → Str → Int → Option Int
  | 0, _, _ => none
  | m + 1, v0, v1 => (ref24_skip_b1 n).1 X2 (ref24_skip_l1 n X2 m) v0 v1
theorem ref24_skip_l1_eq (n : Nat) (m2 : Nat) (X2 : Str → Int → Option Int) (h2 : (∀ (v0 : Str) (v1 : Int), run (ref24_skip_m n) [.lq m2 [0, 0, 1], .blk 0, .cut [1, 1], .at [1, 1]] ⟨[.str (sb v0), .int .i64 v1, .any, .any, .any, .any, .any, .any, .any, .any, .any, .any, .any, .any, .any, .any, .any, .any, .any, .any, .any, .any, .any, .any, .any, .any, .any, .any, .any, .any, .any, .any, .any, .any, .any, .any, .any, .any, .any, .any, .any, .any, .any, .any, .any, .any, .any, .any, .any, .any, .any, .any, .any, .any, .any, .any, .any, .any, .any, .any, .any, .any, .any, .any, .any, .any, .any], [], 0⟩ = X2 v0 v1)) : ∀ (m : Nat), (∀ (v0 : Str) (v1 : Int), run (ref24_skip_m n) [.lq m [0, 0, 1, 1, 1, 0, 0, 1, 0, 0, 0, 1], .blk 3, .blk 2, .blk 1, .lp m2 [0, 0, 1], .blk 0, .cut [1, 1], .at [1, 1]] ⟨[.str (sb v0), .int .i64 v1, .any, .any, .any, .any, .any, .any, .any, .any, .any, .any, .any, .any, .any, .any, .any, .any, .any, .any, .any, .any, .any, .any, .any, .any, .any, .any, .any, .any, .any, .any, .any, .any, .any, .any, .any, .any, .any, .any, .any, .any, .any, .any, .any, .any, .any, .any, .any, .any, .any, .any, .any, .any, .any, .any, .any, .any, .any, .any, .any, .any, .any, .any, .any, .any, .any], [], 0⟩ = ref24_skip_l1 n X2 m v0 v1)
  | 0 => by intros; exact run_lq_zero
  | m + 1 => by
    have ih := ref24_skip_l1_eq n m2 X2 h2 m
    intro v0 v1
    rw [run_lq_succ]
    exact (ref24_skip_b1 n).2 m2 X2 m _ h2 ih v0 v1
noncomputable def ref24_skip_b2 (n : Nat) : { B : (Str → Int → Option Int) → Str → Int → Option Int // ∀ m X0, (∀ (v0 : Str) (v1 : Int), run (ref24_skip_m n) [.lq m [0, 0, 1], .blk 0, .cut [1, 1], .at [1, 1]] ⟨[.str (sb v0), .int .i64 v1, .any, .any, .any, .any, .any, .any, .any, .any, .any, .any, .any, .any, .any, .any, .any, .any, .any, .any, .any, .any, .any, .any, .any, .any, .any, .any, .any, .any, .any, .any, .any, .any, .any, .any, .any, .any, .any, .any, .any, .any, .any, .any, .any, .any, .any, .any, .any, .any, .any, .any, .any, .any, .any, .any, .any, .any, .any, .any, .any, .any, .any, .any, .any, .any, .any], [], 0⟩ = X0 v0 v1) → ∀ (v0 : Str) (v1 : Int), run (ref24_skip_m n) [.at [0, 0, 0, 1], .lp m [0, 0, 1], .blk 0, .cut [1, 1], .at [1, 1]] ⟨[.str (sb v0), .int .i64 v1, .any, .any, .any, .any, .any, .any, .any, .any, .any, .any, .any, .any, .any, .any, .any, .any, .any, .any, .any, .any, .any, .any, .any, .any, .any, .any, .any, .any, .any, .any, .any, .any, .any, .any, .any, .any, .any, .any, .any, .any, .any, .any, .any, .any, .any, .any, .any, .any, .any, .any, .any, .any, .any, .any, .any, .any, .any, .any, .any, .any, .any, .any, .any, .any, .any], [], 0⟩ = B X0 v0 v1 } := by
  apply Subtype.mk
  intro m X0 ih v0 v1
  simp (config := { maxSteps := 100000000 }) only [go_sem, Nat.reduceAdd, Nat.reduceSub, Nat.reduceLeDiff, Nat.reduceEqDiff, Nat.reduceBEq, Nat.reduceMul, Nat.reduceLT, Int.reduceLE, Int.reduceLT, Int.reduceToNat, Int.reduceBEq, Int.reduceEq, ref24_skip_f, ref24_skip_c, Tryd.f29, Option.getD_some, mixed, ref24_skip_n1, ref24_skip_n2, ref24_skip_l1_eq n m X0 ih, ih]
  exact rfl
noncomputable def ref24_skip_l2 (n : Nat) : Nat → Str → Int → Option Int
  | 0, _, _ => none
  | m + 1, v0, v1 => (ref24_skip_b2 n).1 (ref24_skip_l2 n m) v0 v1
theorem ref24_skip_l2_eq (n : Nat) : ∀ (m : Nat), (∀ (v0 : Str) (v1 : Int), run (ref24_skip_m n) [.lq m [0, 0, 1], .blk 0, .cut [1, 1], .at [1, 1]] ⟨[.str (sb v0), .int .i64 v1, .any, .any, .any, .any, .any, .any, .any, .any, .any, .any, .any, .any, .any, .any, .any, .any, .any, .any, .any, .any, .any, .any, .any, .any, .any, .any, .any, .any, .any, .any, .any, .any, .any, .any, .any, .any, .any, .any, .any, .any, .any, .any, .any, .any, .any, .any, .any, .any, .any, .any, .any, .any, .any, .any, .any, .any, .any, .any, .any, .any, .any, .any, .any, .any, .any], [], 0⟩ = ref24_skip_l2 n m v0 v1)
  | 0 => by intros; exact run_lq_zero
  | m + 1 => by
    have ih := ref24_skip_l2_eq n m
    intro v0 v1
    rw [run_lq_succ]
    exact (ref24_skip_b2 n).2  m _  ih v0 v1
noncomputable def ref24_skip_e (n : Nat) : { B : Str → Int → Option Int // ∀ (a0 : Str) (a1 : Int), run (ref24_skip_m n) [.at []] { slots := [tyS.enc a0, (tyI .i64).enc a1] ++ List.replicate (67 - [tyS.enc a0, (tyI .i64).enc a1].length) .any, heap := [] } = B a0 a1 } := by
  apply Subtype.mk
  intro a0 a1
  simp (config := { maxSteps := 100000000 }) only [go_sem, Nat.reduceAdd, Nat.reduceSub, Nat.reduceLeDiff, Nat.reduceEqDiff, Nat.reduceBEq, Nat.reduceMul, Nat.reduceLT, Int.reduceLE, Int.reduceLT, Int.reduceToNat, Int.reduceBEq, Int.reduceEq, ref24_skip_f, ref24_skip_c, Tryd.f29, Option.getD_some, mixed, ref24_skip_n1, ref24_skip_n2, ref24_skip_l2_eq n]
  exact rfl
noncomputable def ref24_skip : Nat → Str → Int → Option Int
  | 0, _, _ => none
  | n + 1, a0, a1 => (ref24_skip_e n).1 a0 a1
theorem ref24_skip_ok : ∀ (n : Nat) (a0 : Str) (a1 : Int) (r : Int), ref24_skip n a0 a1 = some r → FnC Tryd.prog 29 [tyS.enc a0, (tyI .i64).enc a1] (fun v => v = (tyI .i64).enc r)
  | 0, _, _, _, h => by cases h
  | n + 1, a0, a1, r, h => by
    exact fnC_run (M := ref24_skip_m n) ⟨tabA_nil_ok, tabD_nil_ok, tabN_ok _, tabF_ok _, noY_ok, noE_ok⟩ Tryd.func29 rfl rfl ⟨tyS.nb 0 _, (tyI .i64).nb 0 _, trivial⟩ Tryd.ntmps29 Tryd.results29 (fun σ hs => outR_ok (P := Tryd.prog) (rs := [.tmp 4]) (t := (tyI .i64)) (σ := σ) (r := r) hs) (((ref24_skip_e n).2 a0 a1).trans h)

noncomputable def ref24_has_n1 : Nrm := ⟨[], [], [zT (tyL rowS), zK, zA, zA, zA, zK, zA, zA, zA, zA, zA, zA, zA, zA, zA, zA, zA, zA], [], none⟩
noncomputable def ref24_has_m (n : Nat) : Mach Bool where
  body := (Tryd.f44.body).getD .skip
  P := Tryd.prog
  cl := tabA []
  cd := tabD []
  nrm := tabN [([0, 1, 0, 1], ref24_has_n1)]
  cut := tabF []
  n := n
  out := outR Tryd.prog [.tmp 4] tyB
theorem ref24_has_f (n : Nat) : (ref24_has_m n).P = Tryd.prog ∧ (ref24_has_m n).cl = tabA [] ∧ (ref24_has_m n).cd = tabD [] ∧ (ref24_has_m n).nrm = tabN [([0, 1, 0, 1], ref24_has_n1)] ∧ (ref24_has_m n).cut = tabF [] ∧ (ref24_has_m n).n = n ∧ (ref24_has_m n).out = outR Tryd.prog [.tmp 4] tyB := ⟨rfl, rfl, rfl, rfl, rfl, rfl, rfl⟩
theorem ref24_has_c (n : Nat) : (ref24_has_m n).body = (Tryd.f44.body).getD .skip := rfl
noncomputable def ref24_has_b1 (n : Nat) : { B : ((List Str) → Str → Int → Option Bool) → (List Str) → Str → Int → Option Bool // ∀ m X0, (∀ (v0 : List Str) (v1 : Str) (v2 : Int), run (ref24_has_m n) [.lq m [0, 1, 0, 1], .blk 0, .cut [1, 1], .at [1, 1]] ⟨[.lst false 1 (mp scell v0), .str (sb v1), .any, .any, .any, .int .i64 v2, .any, .any, .any, .any, .any, .any, .any, .any, .any, .any, .any, .any], [], 0⟩ = X0 v0 v1 v2) → ∀ (v0 : List Str) (v1 : Str) (v2 : Int), run (ref24_has_m n) [.at [0, 0, 1, 0, 1], .lp m [0, 1, 0, 1], .blk 0, .cut [1, 1], .at [1, 1]] ⟨[.lst false 1 (mp scell v0), .str (sb v1), .any, .any, .any, .int .i64 v2, .any, .any, .any, .any, .any, .any, .any, .any, .any, .any, .any, .any], [], 0⟩ = B X0 v0 v1 v2 } := by
  apply Subtype.mk
  intro m X0 ih v0 v1 v2
  simp (config := { maxSteps := 100000000 }) only [go_sem, Nat.reduceAdd, Nat.reduceSub, Nat.reduceLeDiff, Nat.reduceEqDiff, Nat.reduceBEq, Nat.reduceMul, Nat.reduceLT, Int.reduceLE, Int.reduceLT, Int.reduceToNat, Int.reduceBEq, Int.reduceEq, ref24_has_f, ref24_has_c, Tryd.f44, Option.getD_some, mixed, ref24_has_n1, ih]
  exact rfl
noncomputable def ref24_has_l1 (n : Nat) : Nat → (List Str) → Str → Int → Option Bool
  | 0, _, _, _ => none
  | m + 1, v0, v1, v2 => (ref24_has_b1 n).1 (ref24_has_l1 n m) v0 v1 v2
theorem ref24_has_l1_eq (n : Nat) : ∀ (m : Nat), (∀ (v0 : List Str) (v1 : Str) (v2 : Int), run (ref24_has_m n) [.lq m [0, 1, 0, 1], .blk 0, .cut [1, 1], .at [1, 1]] ⟨[.lst false 1 (mp scell v0), .str (sb v1), .any, .any, .any, .int .i64 v2, .any, .any, .any, .any, .any, .any, .any, .any, .any, .any, .any, .any], [], 0⟩ = ref24_has_l1 n m v0 v1 v2)
  | 0 => by intros; exact run_lq_zero
  | m + 1 => by
    have ih := ref24_has_l1_eq n m
    intro v0 v1 v2
    rw [run_lq_succ]
    exact (ref24_has_b1 n).2  m _  ih v0 v1 v2
noncomputable def ref24_has_e (n : Nat) : { B : (List Str) → Str → Option Bool // ∀ (a0 : (List Str)) (a1 : Str), run (ref24_has_m n) [.at []] { slots := [(tyL rowS).enc a0, tyS.enc a1] ++ List.replicate (18 - [(tyL rowS).enc a0, tyS.enc a1].length) .any, heap := [] } = B a0 a1 } := by
  apply Subtype.mk
  intro a0 a1
  simp (config := { maxSteps := 100000000 }) only [go_sem, Nat.reduceAdd, Nat.reduceSub, Nat.reduceLeDiff, Nat.reduceEqDiff, Nat.reduceBEq, Nat.reduceMul, Nat.reduceLT, Int.reduceLE, Int.reduceLT, Int.reduceToNat, Int.reduceBEq, Int.reduceEq, ref24_has_f, ref24_has_c, Tryd.f44, Option.getD_some, mixed, ref24_has_n1, ref24_has_l1_eq n]
  exact rfl
noncomputable def ref24_has : Nat → (List Str) → Str → Option Bool
  | 0, _, _ => none
  | n + 1, a0, a1 => (ref24_has_e n).1 a0 a1
theorem ref24_has_ok : ∀ (n : Nat) (a0 : (List Str)) (a1 : Str) (r : Bool), ref24_has n a0 a1 = some r → FnC Tryd.prog 44 [(tyL rowS).enc a0, tyS.enc a1] (fun v => v = tyB.enc r)
  | 0, _, _, _, h => by cases h
  | n + 1, a0, a1, r, h => by
    exact fnC_run (M := ref24_has_m n) ⟨tabA_nil_ok, tabD_nil_ok, tabN_ok _, tabF_ok _, noY_ok, noE_ok⟩ Tryd.func44 rfl rfl ⟨(tyL rowS).nb 0 _, tyS.nb 0 _, trivial⟩ Tryd.ntmps44 Tryd.results44 (fun σ hs => outR_ok (P := Tryd.prog) (rs := [.tmp 4]) (t := tyB) (σ := σ) (r := r) hs) (((ref24_has_e n).2 a0 a1).trans h)

noncomputable def ref24_longest_n1 : Nrm := ⟨[], [], [zK, zK, zT (tyL rowS), zA, zA, zA, zA, zK, zK, zA, zA, zA, zA, zA, zA, zA, zA, zA, zA, zA, zA, zA, zA, zA, zA, zA, zA, zA, zA, zA, zA, zA, zA, zA, zA, zA, zA, zA, zA, zA, zA, zA, zA, zA, zA, zA, zA], [], none⟩
noncomputable def ref24_longest_m (n : Nat) : Mach Int where
  body := (Tryd.f46.body).getD .skip
  P := Tryd.prog
  cl := tabA []
  cd := tabD []
  nrm := tabN [([0, 1, 0, 1, 1], ref24_longest_n1)]
  cut := tabF []
  n := n
  out := outR Tryd.prog [.tmp 6] (tyI .i64)
  isE := tabI []
theorem ref24_longest_f (n : Nat) : (ref24_longest_m n).P = Tryd.prog ∧ (ref24_longest_m n).cl = tabA [] ∧ (ref24_longest_m n).cd = tabD [] ∧ (ref24_longest_m n).nrm = tabN [([0, 1, 0, 1, 1], ref24_longest_n1)] ∧ (ref24_longest_m n).cut = tabF [] ∧ (ref24_longest_m n).n = n ∧ (ref24_longest_m n).out = outR Tryd.prog [.tmp 6] (tyI .i64) ∧ (ref24_longest_m n).isE = tabI [] := ⟨rfl, rfl, rfl, rfl, rfl, rfl, rfl, rfl⟩
theorem ref24_longest_c (n : Nat) : (ref24_longest_m n).body = (Tryd.f46.body).getD .skip := rfl
theorem ref24_longest_d (n : Nat) : drawP (ref24_longest_m n) [0, 1, 0, 0, 1, 0, 0, 1, 0, 1, 1] = true := by kernel_rfl
noncomputable def ref24_longest_b1 (n : Nat) : { B : (Str → Int → (List Str) → Int → Int → Option Int) → Str → Int → (List Str) → Int → Int → Option Int // ∀ m X0, (∀ (v0 : Str) (v1 : Int) (v2 : List Str) (v3 : Int) (v4 : Int), run (ref24_longest_m n) [.lq m [0, 1, 0, 1, 1], .blk 0, .cut [1, 1, 1], .at [1, 1, 1]] ⟨[.str (sb v0), .int .i64 v1, .lst false 1 (mp scell v2), .any, .any, .any, .any, .int .i64 v3, .int .i64 v4, .any, .any, .any, .any, .any, .any, .any, .any, .any, .any, .any, .any, .any, .any, .any, .any, .any, .any, .any, .any, .any, .any, .any, .any, .any, .any, .any, .any, .any, .any, .any, .any, .any, .any, .any, .any, .any, .any], [], 0⟩ = X0 v0 v1 v2 v3 v4) → ∀ (v0 : Str) (v1 : Int) (v2 : List Str) (v3 : Int) (v4 : Int), run (ref24_longest_m n) [.at [0, 0, 1, 0, 1, 1], .lp m [0, 1, 0, 1, 1], .blk 0, .cut [1, 1, 1], .at [1, 1, 1]] ⟨[.str (sb v0), .int .i64 v1, .lst false 1 (mp scell v2), .any, .any, .any, .any, .int .i64 v3, .int .i64 v4, .any, .any, .any, .any, .any, .any, .any, .any, .any, .any, .any, .any, .any, .any, .any, .any, .any, .any, .any, .any, .any, .any, .any, .any, .any, .any, .any, .any, .any, .any, .any, .any, .any, .any, .any, .any, .any, .any], [], 0⟩ = B X0 v0 v1 v2 v3 v4 } := by
  apply Subtype.mk
  intro m X0 ih v0 v1 v2 v3 v4
  simp (config := { maxSteps := 100000000 }) only [go_sem, Nat.reduceAdd, Nat.reduceSub, Nat.reduceLeDiff, Nat.reduceEqDiff, Nat.reduceBEq, Nat.reduceMul, Nat.reduceLT, Int.reduceLE, Int.reduceLT, Int.reduceToNat, Int.reduceBEq, Int.reduceEq, ref24_longest_f, ref24_longest_c, Tryd.f46, Option.getD_some, mixed, ref24_longest_d, ref24_longest_n1, ih]
  exact rfl
noncomputable def ref24_longest_l1 (n : Nat) : Nat → Str → Int → (List Str) → Int → Int → Option Int
  | 0, _, _, _, _, _ => none
  | m + 1, v0, v1, v2, v3, v4 => (ref24_longest_b1 n).1 (ref24_longest_l1 n m) v0 v1 v2 v3 v4
theorem ref24_longest_l1_eq (n : Nat) : ∀ (m : Nat), (∀ (v0 : Str) (v1 : Int) (v2 : List Str) (v3 : Int) (v4 : Int), run (ref24_longest_m n) [.lq m [0, 1, 0, 1, 1], .blk 0, .cut [1, 1, 1], .at [1, 1, 1]] ⟨[.str (sb v0), .int .i64 v1, .lst false 1 (mp scell v2), .any, .any, .any, .any, .int .i64 v3, .int .i64 v4, .any, .any, .any, .any, .any, .any, .any, .any, .any, .any, .any, .any, .any, .any, .any, .any, .any, .any, .any, .any, .any, .any, .any, .any, .any, .any, .any, .any, .any, .any, .any, .any, .any, .any, .any, .any, .any, .any], [], 0⟩ = ref24_longest_l1 n m v0 v1 v2 v3 v4)
  | 0 => by intros; exact run_lq_zero
  | m + 1 => by
    have ih := ref24_longest_l1_eq n m
    intro v0 v1 v2 v3 v4
    rw [run_lq_succ]
    exact (ref24_longest_b1 n).2  m _  ih v0 v1 v2 v3 v4
noncomputable def ref24_longest_e (n : Nat) : { B : Str → Int → (List Str) → Option Int // ∀ (a0 : Str) (a1 : Int) (a2 : (List Str)), run (ref24_longest_m n) [.at []] { slots := [tyS.enc a0, (tyI .i64).enc a1, (tyL rowS).enc a2] ++ List.replicate (47 - [tyS.enc a0, (tyI .i64).enc a1, (tyL rowS).enc a2].length) .any, heap := [] } = B a0 a1 a2 } := by
  apply Subtype.mk
  intro a0 a1 a2
  simp (config := { maxSteps := 100000000 }) only [go_sem, Nat.reduceAdd, Nat.reduceSub, Nat.reduceLeDiff, Nat.reduceEqDiff, Nat.reduceBEq, Nat.reduceMul, Nat.reduceLT, Int.reduceLE, Int.reduceLT, Int.reduceToNat, Int.reduceBEq, Int.reduceEq, ref24_longest_f, ref24_longest_c, Tryd.f46, Option.getD_some, mixed, ref24_longest_d, ref24_longest_n1, ref24_longest_l1_eq n]
  exact rfl
noncomputable def ref24_longest : Nat → Str → Int → (List Str) → Option Int
  | 0, _, _, _ => none
  | n + 1, a0, a1, a2 => (ref24_longest_e n).1 a0 a1 a2
theorem ref24_longest_ok : ∀ (n : Nat) (a0 : Str) (a1 : Int) (a2 : (List Str)) (r : Int), ref24_longest n a0 a1 a2 = some r → FnC Tryd.prog 46 [tyS.enc a0, (tyI .i64).enc a1, (tyL rowS).enc a2] (fun v => v = (tyI .i64).enc r)
  | 0, _, _, _, _, h => by cases h
  | n + 1, a0, a1, a2, r, h => by
    exact fnC_run (M := ref24_longest_m n) ⟨tabA_nil_ok, tabD_nil_ok, tabN_ok _, tabF_ok _, noY_ok, noE_ok⟩ Tryd.func46 rfl rfl ⟨tyS.nb 0 _, (tyI .i64).nb 0 _, (tyL rowS).nb 0 _, trivial⟩ Tryd.ntmps46 Tryd.results46 (fun σ hs => outR_ok (P := Tryd.prog) (rs := [.tmp 6]) (t := (tyI .i64)) (σ := σ) (r := r) hs) (((ref24_longest_e n).2 a0 a1 a2).trans h)
end Go.Abs
namespace Go.Abs
open Go.Proofs
set_option maxRecDepth 100000
set_option maxHeartbeats 4000000
set_option linter.unusedSimpArgs false
set_option linter.unusedVariables false
noncomputable def ref24_Same_n1 : Nrm := ⟨[], [], [zT (tyL Token.row), zT (tyL Token.row), zK, zA, zA, zA, zA, zK, zA, zA, zA, zA, zA, zA, zA, zA, zA, zA, zA, zA, zA, zA, zA, zA, zA, zA, zA, zA, zA, zA, zA, zA, zA, zA, zA, zA, zA, zA, zA, zA, zA, zA, zA, zA, zA, zA, zA, zA, zA, zA, zA, zA, zA, zA, zA, zA, zA, zA, zA, zA], [], none⟩
noncomputable def ref24_Same_m (n : Nat) : Mach Bool where
  body := (Tryd.f15.body).getD .skip
  P := Tryd.prog
  cl := tabA []
  cd := tabD []
  nrm := tabN [([0, 1, 0, 1, 1], ref24_Same_n1)]
  cut := tabF []
  n := n
  out := outR Tryd.prog [.tmp 6] tyB
  isE := tabI []
theorem ref24_Same_f (n : Nat) : (ref24_Same_m n).P = Tryd.prog ∧ (ref24_Same_m n).cl = tabA [] ∧ (ref24_Same_m n).cd = tabD [] ∧ (ref24_Same_m n).nrm = tabN [([0, 1, 0, 1, 1], ref24_Same_n1)] ∧ (ref24_Same_m n).cut = tabF [] ∧ (ref24_Same_m n).n = n ∧ (ref24_Same_m n).out = outR Tryd.prog [.tmp 6] tyB ∧ (ref24_Same_m n).isE = tabI [] := ⟨rfl, rfl, rfl, rfl, rfl, rfl, rfl, rfl⟩
theorem ref24_Same_c (n : Nat) : (ref24_Same_m n).body = (Tryd.f15.body).getD .skip := rfl
theorem ref24_Same_d (n : Nat) : drawP (ref24_Same_m n) [0, 0, 0, 1, 0, 0, 1, 0, 1, 1] = true := by kernel_rfl
noncomputable def ref24_Same_b1 (n : Nat) : { B : ((List Token) → (List Token) → Bool → Int → Option Bool) → (List Token) → (List Token) → Bool → Int → Option Bool // ∀ m X0, (∀ (v0 : List Token) (v1 : List Token) (v2 : Bool) (v3 : Int), run (ref24_Same_m n) [.lq m [0, 1, 0, 1, 1], .blk 0, .cut [1, 1, 1], .at [1, 1, 1]] ⟨[.lst false 3 (mp Token.cells v0), .lst false 3 (mp Token.cells v1), .bool v2, .any, .any, .any, .any, .int .i64 v3, .any, .any, .any, .any, .any, .any, .any, .any, .any, .any, .any, .any, .any, .any, .any, .any, .any, .any, .any, .any, .any, .any, .any, .any, .any, .any, .any, .any, .any, .any, .any, .any, .any, .any, .any, .any, .any, .any, .any, .any, .any, .any, .any, .any, .any, .any, .any, .any, .any, .any, .any, .any], [], 0⟩ = X0 v0 v1 v2 v3) → ∀ (v0 : List Token) (v1 : List Token) (v2 : Bool) (v3 : Int), run (ref24_Same_m n) [.at [0, 0, 1, 0, 1, 1], .lp m [0, 1, 0, 1, 1], .blk 0, .cut [1, 1, 1], .at [1, 1, 1]] ⟨[.lst false 3 (mp Token.cells v0), .lst false 3 (mp Token.cells v1), .bool v2, .any, .any, .any, .any, .int .i64 v3, .any, .any, .any, .any, .any, .any, .any, .any, .any, .any, .any, .any, .any, .any, .any, .any, .any, .any, .any, .any, .any, .any, .any, .any, .any, .any, .any, .any, .any, .any, .any, .any, .any, .any, .any, .any, .any, .any, .any, .any, .any, .any, .any, .any, .any, .any, .any, .any, .any, .any, .any, .any], [], 0⟩ = B X0 v0 v1 v2 v3 } := by
  apply Subtype.mk
  intro m X0 ih v0 v1 v2 v3
  simp (config := { maxSteps := 100000000 }) only [go_sem, Nat.reduceAdd, Nat.reduceSub, Nat.reduceLeDiff, Nat.reduceEqDiff, Nat.reduceBEq, Nat.reduceMul, Nat.reduceLT, Int.reduceLE, Int.reduceLT, Int.reduceToNat, Int.reduceBEq, Int.reduceEq, ref24_Same_f, ref24_Same_c, Tryd.f15, Option.getD_some, mixed, ref24_Same_d, ref24_Same_n1, ih]
  exact rfl
noncomputable def ref24_Same_l1 (n : Nat) : Nat → (List Token) → (List Token) → Bool → Int → Option Bool
  | 0, _, _, _, _ => none
  | m + 1, v0, v1, v2, v3 => (ref24_Same_b1 n).1 (ref24_Same_l1 n m) v0 v1 v2 v3
theorem ref24_Same_l1_eq (n : Nat) : ∀ (m : Nat), (∀ (v0 : List Token) (v1 : List Token) (v2 : Bool) (v3 : Int), run (ref24_Same_m n) [.lq m [0, 1, 0, 1, 1], .blk 0, .cut [1, 1, 1], .at [1, 1, 1]] ⟨[.lst false 3 (mp Token.cells v0), .lst false 3 (mp Token.cells v1), .bool v2, .any, .any, .any, .any, .int .i64 v3, .any, .any, .any, .any, .any, .any, .any, .any, .any, .any, .any, .any, .any, .any, .any, .any, .any, .any, .any, .any, .any, .any, .any, .any, .any, .any, .any, .any, .any, .any, .any, .any, .any, .any, .any, .any, .any, .any, .any, .any, .any, .any, .any, .any, .any, .any, .any, .any, .any, .any, .any, .any], [], 0⟩ = ref24_Same_l1 n m v0 v1 v2 v3)
  | 0 => by intros; exact run_lq_zero
  | m + 1 => by
    have ih := ref24_Same_l1_eq n m
    intro v0 v1 v2 v3
    rw [run_lq_succ]
    exact (ref24_Same_b1 n).2  m _  ih v0 v1 v2 v3
noncomputable def ref24_Same_e (n : Nat) : { B : (List Token) → (List Token) → Bool → Option Bool // ∀ (a0 : (List Token)) (a1 : (List Token)) (a2 : Bool), run (ref24_Same_m n) [.at []] { slots := [(tyL Token.row).enc a0, (tyL Token.row).enc a1, tyB.enc a2] ++ List.replicate (60 - [(tyL Token.row).enc a0, (tyL Token.row).enc a1, tyB.enc a2].length) .any, heap := [] } = B a0 a1 a2 } := by
  apply Subtype.mk
  intro a0 a1 a2
  simp (config := { maxSteps := 100000000 }) only [go_sem, Nat.reduceAdd, Nat.reduceSub, Nat.reduceLeDiff, Nat.reduceEqDiff, Nat.reduceBEq, Nat.reduceMul, Nat.reduceLT, Int.reduceLE, Int.reduceLT, Int.reduceToNat, Int.reduceBEq, Int.reduceEq, ref24_Same_f, ref24_Same_c, Tryd.f15, Option.getD_some, mixed, ref24_Same_d, ref24_Same_n1, ref24_Same_l1_eq n]
  exact rfl
noncomputable def ref24_Same : Nat → (List Token) → (List Token) → Bool → Option Bool
  | 0, _, _, _ => none
  | n + 1, a0, a1, a2 => (ref24_Same_e n).1 a0 a1 a2
theorem ref24_Same_ok : ∀ (n : Nat) (a0 : (List Token)) (a1 : (List Token)) (a2 : Bool) (r : Bool), ref24_Same n a0 a1 a2 = some r → FnC Tryd.prog 15 [(tyL Token.row).enc a0, (tyL Token.row).enc a1, tyB.enc a2] (fun v => v = tyB.enc r)
  | 0, _, _, _, _, h => by cases h
  | n + 1, a0, a1, a2, r, h => by
    exact fnC_run (M := ref24_Same_m n) ⟨tabA_nil_ok, tabD_nil_ok, tabN_ok _, tabF_ok _, noY_ok, noE_ok⟩ Tryd.func15 rfl rfl ⟨(tyL Token.row).nb 0 _, (tyL Token.row).nb 0 _, tyB.nb 0 _, trivial⟩ Tryd.ntmps15 Tryd.results15 (fun σ hs => outR_ok (P := Tryd.prog) (rs := [.tmp 6]) (t := tyB) (σ := σ) (r := r) hs) (((ref24_Same_e n).2 a0 a1 a2).trans h)

noncomputable def law24_contains_n1 : Nrm := ⟨[], [], [zK, zK, zA, zA, zA, zK, zA, zA, zA, zA, zA, zA, zA, zA, zA, zA, zA, zA, zA, zA, zA, zA, zA, zA], [], none⟩
noncomputable def law24_contains_m (n : Nat) : Mach Bool where
  body := (Tryd.f20.body).getD .skip
  P := Tryd.prog
  cl := tabA []
  cd := tabD []
  nrm := tabN [([0, 1, 0, 1], law24_contains_n1)]
  cut := tabF []
  n := n
  out := outR Tryd.prog [.tmp 4] tyB
theorem law24_contains_f (n : Nat) : (law24_contains_m n).P = Tryd.prog ∧ (law24_contains_m n).cl = tabA [] ∧ (law24_contains_m n).cd = tabD [] ∧ (law24_contains_m n).nrm = tabN [([0, 1, 0, 1], law24_contains_n1)] ∧ (law24_contains_m n).cut = tabF [] ∧ (law24_contains_m n).n = n ∧ (law24_contains_m n).out = outR Tryd.prog [.tmp 4] tyB := ⟨rfl, rfl, rfl, rfl, rfl, rfl, rfl⟩
theorem law24_contains_c (n : Nat) : (law24_contains_m n).body = (Tryd.f20.body).getD .skip := rfl
noncomputable def law24_contains_b1 (n : Nat) : { B : (Str → Str → Int → Option Bool) → Str → Str → Int → Option Bool // ∀ m X0, (∀ (v0 : Str) (v1 : Str) (v2 : Int), run (law24_contains_m n) [.lq m [0, 1, 0, 1], .blk 0, .cut [1, 1], .at [1, 1]] ⟨[.str (sb v0), .str (sb v1), .any, .any, .any, .int .i64 v2, .any, .any, .any, .any, .any, .any, .any, .any, .any, .any, .any, .any, .any, .any, .any, .any, .any, .any], [], 0⟩ = X0 v0 v1 v2) → ∀ (v0 : Str) (v1 : Str) (v2 : Int), run (law24_contains_m n) [.at [0, 0, 1, 0, 1], .lp m [0, 1, 0, 1], .blk 0, .cut [1, 1], .at [1, 1]] ⟨[.str (sb v0), .str (sb v1), .any, .any, .any, .int .i64 v2, .any, .any, .any, .any, .any, .any, .any, .any, .any, .any, .any, .any, .any, .any, .any, .any, .any, .any], [], 0⟩ = B X0 v0 v1 v2 } := by
  apply Subtype.mk
  intro m X0 ih v0 v1 v2
  simp (config := { maxSteps := 100000000 }) only [go_sem, Nat.reduceAdd, Nat.reduceSub, Nat.reduceLeDiff, Nat.reduceEqDiff, Nat.reduceBEq, Nat.reduceMul, Nat.reduceLT, Int.reduceLE, Int.reduceLT, Int.reduceToNat, Int.reduceBEq, Int.reduceEq, law24_contains_f, law24_contains_c, Tryd.f20, Option.getD_some, mixed, law24_contains_n1, ih]
  exact rfl
noncomputable def law24_contains_l1 (n : Nat) : Nat → Str → Str → Int → Option Bool
  | 0, _, _, _ => none
  | m + 1, v0, v1, v2 => (law24_contains_b1 n).1 (law24_contains_l1 n m) v0 v1 v2
theorem law24_contains_l1_eq (n : Nat) : ∀ (m : Nat), (∀ (v0 : Str) (v1 : Str) (v2 : Int), run (law24_contains_m n) [.lq m [0, 1, 0, 1], .blk 0, .cut [1, 1], .at [1, 1]] ⟨[.str (sb v0), .str (sb v1), .any, .any, .any, .int .i64 v2, .any, .any, .any, .any, .any, .any, .any, .any, .any, .any, .any, .any, .any, .any, .any, .any, .any, .any], [], 0⟩ = law24_contains_l1 n m v0 v1 v2)
  | 0 => by intros; exact run_lq_zero
  | m + 1 => by
    have ih := law24_contains_l1_eq n m
    intro v0 v1 v2
    rw [run_lq_succ]
    exact (law24_contains_b1 n).2  m _  ih v0 v1 v2
noncomputable def law24_contains_e (n : Nat) : { B : Str → Str → Option Bool // ∀ (a0 : Str) (a1 : Str), run (law24_contains_m n) [.at []] { slots := [tyS.enc a0, tyS.enc a1] ++ List.replicate (24 - [tyS.enc a0, tyS.enc a1].length) .any, heap := [] } = B a0 a1 } := by
  apply Subtype.mk
  intro a0 a1
  simp (config := { maxSteps := 100000000 }) only [go_sem, Nat.reduceAdd, Nat.reduceSub, Nat.reduceLeDiff, Nat.reduceEqDiff, Nat.reduceBEq, Nat.reduceMul, Nat.reduceLT, Int.reduceLE, Int.reduceLT, Int.reduceToNat, Int.reduceBEq, Int.reduceEq, law24_contains_f, law24_contains_c, Tryd.f20, Option.getD_some, mixed, law24_contains_n1, law24_contains_l1_eq n]
  exact rfl
noncomputable def law24_contains : Nat → Str → Str → Option Bool
  | 0, _, _ => none
  | n + 1, a0, a1 => (law24_contains_e n).1 a0 a1
theorem law24_contains_ok : ∀ (n : Nat) (a0 : Str) (a1 : Str) (r : Bool), law24_contains n a0 a1 = some r → FnC Tryd.prog 20 [tyS.enc a0, tyS.enc a1] (fun v => v = tyB.enc r)
  | 0, _, _, _, h => by cases h
  | n + 1, a0, a1, r, h => by
    exact fnC_run (M := law24_contains_m n) ⟨tabA_nil_ok, tabD_nil_ok, tabN_ok _, tabF_ok _, noY_ok, noE_ok⟩ Tryd.func20 rfl rfl ⟨tyS.nb 0 _, tyS.nb 0 _, trivial⟩ Tryd.ntmps20 Tryd.results20 (fun σ hs => outR_ok (P := Tryd.prog) (rs := [.tmp 4]) (t := tyB) (σ := σ) (r := r) hs) (((law24_contains_e n).2 a0 a1).trans h)
end Go.Abs
namespace Go.Abs
open Go.Proofs
set_option maxRecDepth 100000
set_option maxHeartbeats 4000000
set_option linter.unusedSimpArgs false
set_option linter.unusedVariables false
noncomputable def strings_FieldsSeq_1_n1 : Nrm := ⟨[], [], [zK, zT (tyP cS), zA, zK, zK, zA, zA, zA, zA, zA, zA, zA, zA, zA, zA, zA, zA, zA, zA, zA, zA, zA, zA, zA, zA, zA, zA, zA, zA, zA, zA, zA, zA, zA, zA, zA, zA, zA, zA, zA, zA, zA, zA, zA, zA, zA, zA, zA, zA, zA, zA, zA, zA, zA, zA, zA], [oL [zA, zK, zA, zA, zA, zA, zA, zA, zA], oC [zK], oK], none⟩
noncomputable def strings_FieldsSeq_1_os : OL (Unit × (Unit × ((List (Str × Bool)) × Unit))) := (olC (ogL0 lexer_keywords_k0_1_0_1_1 (alZ (alP 1 (alZs 7 alN)))) (olC (ogC (alM 2 alN)) (olC ogM olN)))
noncomputable def strings_FieldsSeq_1_o1 : OL ((Unit × Int) × (Unit × ((List (Str × Bool)) × Unit))) := (olC (ogL lexer_keywords_k0_1_0_1_1 (alZ (alP 1 (alZs 7 alN)))) (olC (ogC (alM 2 alN)) (olC ogM olN)))
noncomputable def strings_FieldsSeq_1_m (n : Nat) : Mach (((Unit × Int) × (Unit × ((List (Str × Bool)) × Unit))) × Unit) where
  body := (Tryd.f49.body).getD .skip
  P := Tryd.prog
  cl := tabA []
  cd := tabD []
  nrm := tabN [([0, 1, 0, 1], strings_FieldsSeq_1_n1)]
  cut := tabF []
  n := n
  out := outS Tryd.prog [] [] [0, 1, 2] 3 strings_FieldsSeq_1_o1 alN
  cy := tabY [(0, entY [.obj 0 1 [], .obj 1 0 []] lexer_keywords_k0_1_0_1_1_r_os (alT tyS alN) lexer_keywords_k0_1_0_1_1_r_o1 (alT tyB alN) (fun (b : (Unit × (Unit × ((List (Str × Bool)) × Unit)))) (a : (Str × Unit)) => (lexer_keywords_k0_1_0_1_1_r n) a.1 b.2.2.1))]
theorem strings_FieldsSeq_1_f (n : Nat) : (strings_FieldsSeq_1_m n).P = Tryd.prog ∧ (strings_FieldsSeq_1_m n).cl = tabA [] ∧ (strings_FieldsSeq_1_m n).cd = tabD [] ∧ (strings_FieldsSeq_1_m n).nrm = tabN [([0, 1, 0, 1], strings_FieldsSeq_1_n1)] ∧ (strings_FieldsSeq_1_m n).cut = tabF [] ∧ (strings_FieldsSeq_1_m n).n = n ∧ (strings_FieldsSeq_1_m n).out = outS Tryd.prog [] [] [0, 1, 2] 3 strings_FieldsSeq_1_o1 alN ∧ (strings_FieldsSeq_1_m n).cy = tabY [(0, entY [.obj 0 1 [], .obj 1 0 []] lexer_keywords_k0_1_0_1_1_r_os (alT tyS alN) lexer_keywords_k0_1_0_1_1_r_o1 (alT tyB alN) (fun (b : (Unit × (Unit × ((List (Str × Bool)) × Unit)))) (a : (Str × Unit)) => (lexer_keywords_k0_1_0_1_1_r n) a.1 b.2.2.1))] := ⟨rfl, rfl, rfl, rfl, rfl, rfl, rfl, rfl⟩
theorem strings_FieldsSeq_1_c (n : Nat) : (strings_FieldsSeq_1_m n).body = (Tryd.f49.body).getD .skip := rfl
noncomputable def strings_FieldsSeq_1_b1 (n : Nat) : { B : (Str → Int → Int → Int → (List (Str × Bool)) → Option (((Unit × Int) × (Unit × ((List (Str × Bool)) × Unit))) × Unit)) → Str → Int → Int → Int → (List (Str × Bool)) → Option (((Unit × Int) × (Unit × ((List (Str × Bool)) × Unit))) × Unit) // ∀ m X0, (∀ (v0 : Str) (v1 : Int) (v2 : Int) (j0 : Int) (r2 : List (Str × Bool)), run (strings_FieldsSeq_1_m n) [.lq m [0, 1, 0, 1], .blk 0, .cut [1, 1], .at [1, 1]] ⟨[.map 0, .pp [.str (sb v0)], .any, .int .i64 v1, .int .i64 v2, .any, .any, .any, .any, .any, .any, .any, .any, .any, .any, .any, .any, .any, .any, .any, .any, .any, .any, .any, .any, .any, .any, .any, .any, .any, .any, .any, .any, .any, .any, .any, .any, .any, .any, .any, .any, .any, .any, .any, .any, .any, .any, .any, .any, .any, .any, .any, .any, .any, .any, .any], [.loop lexer_keywords_k0_1_0_1_1 [.any, .ptr 1 0, .any, .any, .any, .any, .any, .any, .any] (stJ lexer_keywords_k0_1_0_1_1 j0) j0, .cells [.map 2], .map (mp mcB r2)], 3⟩ = X0 v0 v1 v2 j0 r2) → ∀ (v0 : Str) (v1 : Int) (v2 : Int) (j0 : Int) (r2 : List (Str × Bool)), run (strings_FieldsSeq_1_m n) [.at [0, 0, 1, 0, 1], .lp m [0, 1, 0, 1], .blk 0, .cut [1, 1], .at [1, 1]] ⟨[.map 0, .pp [.str (sb v0)], .any, .int .i64 v1, .int .i64 v2, .any, .any, .any, .any, .any, .any, .any, .any, .any, .any, .any, .any, .any, .any, .any, .any, .any, .any, .any, .any, .any, .any, .any, .any, .any, .any, .any, .any, .any, .any, .any, .any, .any, .any, .any, .any, .any, .any, .any, .any, .any, .any, .any, .any, .any, .any, .any, .any, .any, .any, .any], [.loop lexer_keywords_k0_1_0_1_1 [.any, .ptr 1 0, .any, .any, .any, .any, .any, .any, .any] (stJ lexer_keywords_k0_1_0_1_1 j0) j0, .cells [.map 2], .map (mp mcB r2)], 3⟩ = B X0 v0 v1 v2 j0 r2 } := by
  apply Subtype.mk
  intro m X0 ih v0 v1 v2 j0 r2
  simp (config := { maxSteps := 100000000 }) only [go_sem, Nat.reduceAdd, Nat.reduceSub, Nat.reduceLeDiff, Nat.reduceEqDiff, Nat.reduceBEq, Nat.reduceMul, Nat.reduceLT, Int.reduceLE, Int.reduceLT, Int.reduceToNat, Int.reduceBEq, Int.reduceEq, strings_FieldsSeq_1_f, strings_FieldsSeq_1_c, Tryd.f49, Option.getD_some, mixed, strings_FieldsSeq_1_os, strings_FieldsSeq_1_o1, lexer_keywords_k0_1_0_1_1_r_os, lexer_keywords_k0_1_0_1_1_r_o1, lexer_keywords_k0_1_0_1_1_f, strings_FieldsSeq_1_n1, ih]
  exact rfl
noncomputable def strings_FieldsSeq_1_l1 (n : Nat) : Nat → Str → Int → Int → Int → (List (Str × Bool)) → Option (((Unit × Int) × (Unit × ((List (Str × Bool)) × Unit))) × Unit)
  | 0, _, _, _, _, _ => none
  | m + 1, v0, v1, v2, j0, r2 => (strings_FieldsSeq_1_b1 n).1 (strings_FieldsSeq_1_l1 n m) v0 v1 v2 j0 r2
theorem strings_FieldsSeq_1_l1_eq (n : Nat) : ∀ (m : Nat), (∀ (v0 : Str) (v1 : Int) (v2 : Int) (j0 : Int) (r2 : List (Str × Bool)), run (strings_FieldsSeq_1_m n) [.lq m [0, 1, 0, 1], .blk 0, .cut [1, 1], .at [1, 1]] ⟨[.map 0, .pp [.str (sb v0)], .any, .int .i64 v1, .int .i64 v2, .any, .any, .any, .any, .any, .any, .any, .any, .any, .any, .any, .any, .any, .any, .any, .any, .any, .any, .any, .any, .any, .any, .any, .any, .any, .any, .any, .any, .any, .any, .any, .any, .any, .any, .any, .any, .any, .any, .any, .any, .any, .any, .any, .any, .any, .any, .any, .any, .any, .any, .any], [.loop lexer_keywords_k0_1_0_1_1 [.any, .ptr 1 0, .any, .any, .any, .any, .any, .any, .any] (stJ lexer_keywords_k0_1_0_1_1 j0) j0, .cells [.map 2], .map (mp mcB r2)], 3⟩ = strings_FieldsSeq_1_l1 n m v0 v1 v2 j0 r2)
  | 0 => by intros; exact run_lq_zero
  | m + 1 => by
    have ih := strings_FieldsSeq_1_l1_eq n m
    intro v0 v1 v2 j0 r2
    rw [run_lq_succ]
    exact (strings_FieldsSeq_1_b1 n).2  m _  ih v0 v1 v2 j0 r2
noncomputable def strings_FieldsSeq_1_e (n : Nat) : { B : Str → (List (Str × Bool)) → Option (((Unit × Int) × (Unit × ((List (Str × Bool)) × Unit))) × Unit) // ∀ (a0 : Str) (o0 : (List (Str × Bool))), run (strings_FieldsSeq_1_m n) [.at []] { slots := ((alM 0 (alT (tyP cS) alN)).enc (strings_FieldsSeq_1_os.lens ((), (), o0, ())) (a0, ())) ++ List.replicate (56 - ((alM 0 (alT (tyP cS) alN)).enc (strings_FieldsSeq_1_os.lens ((), (), o0, ())) (a0, ())).length) .any, heap := (strings_FieldsSeq_1_os.enc (strings_FieldsSeq_1_os.lens ((), (), o0, ())) ((), (), o0, ())), low := (strings_FieldsSeq_1_os.enc (strings_FieldsSeq_1_os.lens ((), (), o0, ())) ((), (), o0, ())).length } = B a0 o0 } := by
  apply Subtype.mk
  intro a0 o0
  simp (config := { maxSteps := 100000000 }) only [go_sem, Nat.reduceAdd, Nat.reduceSub, Nat.reduceLeDiff, Nat.reduceEqDiff, Nat.reduceBEq, Nat.reduceMul, Nat.reduceLT, Int.reduceLE, Int.reduceLT, Int.reduceToNat, Int.reduceBEq, Int.reduceEq, strings_FieldsSeq_1_f, strings_FieldsSeq_1_c, Tryd.f49, Option.getD_some, mixed, strings_FieldsSeq_1_os, strings_FieldsSeq_1_o1, lexer_keywords_k0_1_0_1_1_r_os, lexer_keywords_k0_1_0_1_1_r_o1, lexer_keywords_k0_1_0_1_1_f, strings_FieldsSeq_1_n1, strings_FieldsSeq_1_l1_eq n]
  exact rfl
noncomputable def strings_FieldsSeq_1 : Nat → Str → (List (Str × Bool)) → Option (((Unit × Int) × (Unit × ((List (Str × Bool)) × Unit))) × Unit)
  | 0, _, _ => none
  | n + 1, a0, o0 => (strings_FieldsSeq_1_e n).1 a0 o0
theorem strings_FieldsSeq_1_ok : ∀ (n : Nat) (a0 : Str) (o0 : (List (Str × Bool))) (r : (((Unit × Int) × (Unit × ((List (Str × Bool)) × Unit))) × Unit)), strings_FieldsSeq_1 n a0 o0 = some r → FnG Tryd.prog 49 ((alM 0 (alT (tyP cS) alN)).enc (strings_FieldsSeq_1_os.lens ((), (), o0, ())) (a0, ())) (strings_FieldsSeq_1_os.enc (strings_FieldsSeq_1_os.lens ((), (), o0, ())) ((), (), o0, ())) (fun o H' => o = .ret (tupOf (alN.enc (strings_FieldsSeq_1_o1.lens r.1) r.2)) ∧ H' = strings_FieldsSeq_1_o1.enc (strings_FieldsSeq_1_o1.lens r.1) r.1)
  | 0, _, _, _, h => by cases h
  | n + 1, a0, o0, r, h => by
    exact fnG_run (M := strings_FieldsSeq_1_m n) ⟨tabA_nil_ok, tabD_nil_ok, tabN_ok _, tabF_ok _, (tabY_cons_ok (fun _ _ _ _ _ h => entY_ok (fun b a r h => (lexer_keywords_k0_1_0_1_1_r_ok n) a.1 b.2.2.1 r h) h) tabY_nil_ok), noE_ok⟩ Tryd.func49 rfl rfl (nbL_le (Nat.le_trans (of_decide_eq_true (by kernel_rfl)) (Nat.le_of_eq (strings_FieldsSeq_1_os.sz _ _).symm)) _ ((alM 0 (alT (tyP cS) alN)).nb _ _)) (fun x hx => objNb_le' (Nat.le_trans (of_decide_eq_true (by kernel_rfl)) (Nat.le_of_eq (strings_FieldsSeq_1_os.sz _ _).symm)) _ (strings_FieldsSeq_1_os.nb _ _ x hx)) Tryd.ntmps49 Tryd.results49 (fun σ hs => outS_ok (P := Tryd.prog) (rs := []) (pos := []) (base := [0, 1, 2]) (low := 3) (os := strings_FieldsSeq_1_o1) (s := alN) (σ := σ) (r := r) (by rfl) hs) (((strings_FieldsSeq_1_e n).2 a0 o0).trans h)

noncomputable def lexer_inWord_m (n : Nat) : Mach Bool where
  body := (Tryd.f31.body).getD .skip
  P := Tryd.prog
  cl := tabA [(28, ent1 (tyI .u8) (tyI .i64) (lexer_class n))]
  cd := tabD []
  nrm := tabN []
  cut := tabF []
  n := n
  out := outR Tryd.prog [.tmp 2] tyB
theorem lexer_inWord_f (n : Nat) : (lexer_inWord_m n).P = Tryd.prog ∧ (lexer_inWord_m n).cl = tabA [(28, ent1 (tyI .u8) (tyI .i64) (lexer_class n))] ∧ (lexer_inWord_m n).cd = tabD [] ∧ (lexer_inWord_m n).nrm = tabN [] ∧ (lexer_inWord_m n).cut = tabF [] ∧ (lexer_inWord_m n).n = n ∧ (lexer_inWord_m n).out = outR Tryd.prog [.tmp 2] tyB := ⟨rfl, rfl, rfl, rfl, rfl, rfl, rfl⟩
theorem lexer_inWord_c (n : Nat) : (lexer_inWord_m n).body = (Tryd.f31.body).getD .skip := rfl
noncomputable def lexer_inWord_e (n : Nat) : { B : Int → Option Bool // ∀ (a0 : Int), run (lexer_inWord_m n) [.at []] { slots := [(tyI .u8).enc a0] ++ List.replicate (15 - [(tyI .u8).enc a0].length) .any, heap := [] } = B a0 } := by
  apply Subtype.mk
  intro a0
  simp (config := { maxSteps := 100000000 }) only [go_sem, Nat.reduceAdd, Nat.reduceSub, Nat.reduceLeDiff, Nat.reduceEqDiff, Nat.reduceBEq, Nat.reduceMul, Nat.reduceLT, Int.reduceLE, Int.reduceLT, Int.reduceToNat, Int.reduceBEq, Int.reduceEq, lexer_inWord_f, lexer_inWord_c, Tryd.f31, Option.getD_some, mixed]
  exact rfl
noncomputable def lexer_inWord : Nat → Int → Option Bool
  | 0, _ => none
  | n + 1, a0 => (lexer_inWord_e n).1 a0
theorem lexer_inWord_ok : ∀ (n : Nat) (a0 : Int) (r : Bool), lexer_inWord n a0 = some r → FnC Tryd.prog 31 [(tyI .u8).enc a0] (fun v => v = tyB.enc r)
  | 0, _, _, h => by cases h
  | n + 1, a0, r, h => by
    exact fnC_run (M := lexer_inWord_m n) ⟨(tabA_cons_ok (ent1_ok (lexer_class_ok n)) tabA_nil_ok), tabD_nil_ok, tabN_ok _, tabF_ok _, noY_ok, noE_ok⟩ Tryd.func31 rfl rfl ⟨(tyI .u8).nb 0 _, trivial⟩ Tryd.ntmps31 Tryd.results31 (fun σ hs => outR_ok (P := Tryd.prog) (rs := [.tmp 2]) (t := tyB) (σ := σ) (r := r) hs) (((lexer_inWord_e n).2 a0).trans h)

noncomputable def lexer_fixed_m (n : Nat) : Mach (List Str) where
  body := (Tryd.f22.body).getD .skip
  P := Tryd.prog
  cl := tabA [(38, ent1 tyS (tyL rowS) (strings_Fields n))]
  cd := tabD []
  nrm := tabN []
  cut := tabF []
  n := n
  out := outR Tryd.prog [.tmp 0] (tyL rowS)
theorem lexer_fixed_f (n : Nat) : (lexer_fixed_m n).P = Tryd.prog ∧ (lexer_fixed_m n).cl = tabA [(38, ent1 tyS (tyL rowS) (strings_Fields n))] ∧ (lexer_fixed_m n).cd = tabD [] ∧ (lexer_fixed_m n).nrm = tabN [] ∧ (lexer_fixed_m n).cut = tabF [] ∧ (lexer_fixed_m n).n = n ∧ (lexer_fixed_m n).out = outR Tryd.prog [.tmp 0] (tyL rowS) := ⟨rfl, rfl, rfl, rfl, rfl, rfl, rfl⟩
theorem lexer_fixed_c (n : Nat) : (lexer_fixed_m n).body = (Tryd.f22.body).getD .skip := rfl
noncomputable def lexer_fixed_e (n : Nat) : { B : Option (List Str) // run (lexer_fixed_m n) [.at []] { slots := ([] : List AV) ++ List.replicate (2 - ([] : List AV).length) .any, heap := [] } = B } := by
  apply Subtype.mk
  simp (config := { maxSteps := 100000000 }) only [go_sem, Nat.reduceAdd, Nat.reduceSub, Nat.reduceLeDiff, Nat.reduceEqDiff, Nat.reduceBEq, Nat.reduceMul, Nat.reduceLT, Int.reduceLE, Int.reduceLT, Int.reduceToNat, Int.reduceBEq, Int.reduceEq, lexer_fixed_f, lexer_fixed_c, Tryd.f22, Option.getD_some, mixed]
  exact rfl
noncomputable def lexer_fixed : Nat → Option (List Str)
  | 0 => none
  | n + 1 => (lexer_fixed_e n).1
theorem lexer_fixed_ok : ∀ (n : Nat) (r : (List Str)), lexer_fixed n = some r → FnC Tryd.prog 22 [] (fun v => v = (tyL rowS).enc r)
  | 0, _, h => by cases h
  | n + 1, r, h => by
    exact fnC_run (M := lexer_fixed_m n) ⟨(tabA_cons_ok (ent1_ok (strings_Fields_ok n)) tabA_nil_ok), tabD_nil_ok, tabN_ok _, tabF_ok _, noY_ok, noE_ok⟩ Tryd.func22 rfl rfl trivial Tryd.ntmps22 Tryd.results22 (fun σ hs => outR_ok (P := Tryd.prog) (rs := [.tmp 0]) (t := (tyL rowS)) (σ := σ) (r := r) hs) (((lexer_fixed_e n).2).trans h)

noncomputable def strings_IndexRune_n1 : Nrm := ⟨[], [], [zA, zA, zA, zA, zA, zA, zA, zA, zA, zA, zA, zA, zA, zA, zA, zA, zA, zA, zA, zA, zA, zA, zA, zA, zA, zA, zA, zA, zA, zA, zA, zA, zA, zA, zA, zA, zA, zA, zA, zA, zA, zA, zA, zA, zA, zA, zA, zA, zA, zA, zA, zA, zA, zA, zA, zA, zA, zA, zA, zA, zA, zA, zA, zA, zA, zA, zA, zA, zA, zA, zA, zA, zA, zA, zA, zA, zA, zA, zA, zA, zA, zA, zA, zA, zA, zA, zA, zA, zA, zA, zA, zA, zA, zA, zA, zA, zA, zA, zA, zA, zA, zA, zA, zA, zA, zA, zA, zA, zA, zA, zA, zA, zA, zA, zA, zA, zA, zA, zA, zA, zA, zA, zA, zA, zA, zA, zA, zA, zA, zA, zA, zA, zA, zA, zA, zA, zA, zA, zA, zA, zA, zA, zA, zA, zA, zA, zA, zA, zA, zA, zA, zA, zA, zA, zA, zA, zA, zA, zA, zA, zA, zA, zA, zA, zA, zA, zA, zA, zA, zA, zA, zA, zA, zA, zA, zK, zA, zA, zA, zA, zA, zA, zA, zA, zA, zA, zA], [oK], none⟩
noncomputable def strings_IndexRune_n2 : Nrm := ⟨[], [], [zK, zA, zA, zA, zA, zA, zA, zK, zK, zK, zA, zA, zK, zA, zA, zA, zA, zA, zA, zA, zA, zA, zA, zA, zA, zA, zA, zA, zA, zA, zA, zA, zA, zA, zA, zA, zA, zA, zA, zA, zA, zA, zA, zA, zA, zA, zA, zA, zA, zA, zA, zA, zA, zA, zA, zA, zA, zA, zA, zA, zA, zA, zA, zA, zA, zA, zA, zA, zA, zA, zA, zA, zA, zA, zA, zA, zA, zA, zA, zA, zA, zA, zA, zA, zA, zA, zA, zA, zA, zA, zA, zA, zA, zA, zA, zA, zA, zA, zA, zA, zA, zA, zA, zA, zA, zA, zA, zA, zA, zA, zA, zA, zA, zA, zA, zA, zA, zA, zA, zA, zA, zA, zA, zA, zA, zA, zA, zA, zA, zA, zA, zA, zA, zA, zA, zA, zA, zA, zA, zA, zA, zA, zA, zA, zA, zA, zA, zA, zA, zA, zA, zA, zA, zA, zA, zA, zA, zA, zA, zA, zA, zA, zA, zA, zA, zA, zA, zA, zA, zA, zA, zA, zA, zA, zA, zA, zA, zA, zA, zA, zA, zA, zA, zA, zA, zA, zA], [], none⟩
noncomputable def strings_IndexRune_n3 : Nrm := ⟨[], [], [zK, zA, zA, zA, zA, zA, zA, zK, zK, zK, zA, zA, zA, zA, zA, zA, zA, zA, zA, zA, zA, zA, zA, zA, zA, zA, zA, zA, zA, zA, zA, zA, zA, zA, zA, zA, zA, zA, zA, zA, zA, zA, zA, zA, zA, zA, zA, zA, zA, zA, zA, zA, zA, zA, zA, zA, zA, zA, zA, zA, zA, zA, zA, zA, zA, zA, zA, zA, zA, zA, zA, zA, zA, zA, zA, zA, zA, zA, zA, zA, zA, zA, zA, zA, zA, zA, zA, zA, zA, zA, zA, zA, zA, zA, zA, zA, zA, zA, zA, zA, zA, zA, zA, zA, zA, zA, zA, zA, zA, zA, zA, zA, zA, zA, zA, zA, zA, zA, zA, zA, zA, zA, zA, zA, zA, zA, zA, zA, zA, zA, zA, zA, zA, zA, zA, zA, zA, zA, zA, zA, zA, zA, zA, zA, zA, zA, zA, zA, zA, zA, zA, zA, zA, zA, zA, zA, zA, zA, zA, zA, zA, zA, zA, zA, zA, zA, zA, zA, zA, zA, zA, zA, zA, zA, zA, zA, zA, zA, zA, zA, zA, zA, zA, zA, zA, zA, zA], [], none⟩
noncomputable def strings_IndexRune_m (n : Nat) : Mach Int where
  body := (Tryd.f53.body).getD .skip
  P := Tryd.prog
  cl := tabA [(62, ent2 tyS (tyI .u8) (tyI .i64) (strings_IndexByte n)), (63, ent1 (tyI .i32) tyB (unicode_utf8_ValidRune n))]
  cd := tabD [(62, entD (ent2 tyS (tyI .u8) (tyI .i64) (strings_IndexByte n)))]
  nrm := tabN [([0, 1, 0, 0, 1, 1, 1, 0, 1], strings_IndexRune_n1), ([0, 1, 0, 1, 0, 0, 1, 0, 0, 0, 1, 1, 1, 1, 0, 1, 1, 1, 1, 1, 1, 0, 1], strings_IndexRune_n2), ([0, 0, 1, 1, 1, 1, 0, 1, 1, 1, 1, 1, 1, 0, 1], strings_IndexRune_n3)]
  cut := tabF []
  n := n
  out := outR Tryd.prog [.tmp 4] (tyI .i64)
  isE := tabI []
theorem strings_IndexRune_f (n : Nat) : (strings_IndexRune_m n).P = Tryd.prog ∧ (strings_IndexRune_m n).cl = tabA [(62, ent2 tyS (tyI .u8) (tyI .i64) (strings_IndexByte n)), (63, ent1 (tyI .i32) tyB (unicode_utf8_ValidRune n))] ∧ (strings_IndexRune_m n).cd = tabD [(62, entD (ent2 tyS (tyI .u8) (tyI .i64) (strings_IndexByte n)))] ∧ (strings_IndexRune_m n).nrm = tabN [([0, 1, 0, 0, 1, 1, 1, 0, 1], strings_IndexRune_n1), ([0, 1, 0, 1, 0, 0, 1, 0, 0, 0, 1, 1, 1, 1, 0, 1, 1, 1, 1, 1, 1, 0, 1], strings_IndexRune_n2), ([0, 0, 1, 1, 1, 1, 0, 1, 1, 1, 1, 1, 1, 0, 1], strings_IndexRune_n3)] ∧ (strings_IndexRune_m n).cut = tabF [] ∧ (strings_IndexRune_m n).n = n ∧ (strings_IndexRune_m n).out = outR Tryd.prog [.tmp 4] (tyI .i64) ∧ (strings_IndexRune_m n).isE = tabI [] := ⟨rfl, rfl, rfl, rfl, rfl, rfl, rfl, rfl⟩
theorem strings_IndexRune_c (n : Nat) : (strings_IndexRune_m n).body = (Tryd.f53.body).getD .skip := rfl
theorem strings_IndexRune_d (n : Nat) : drawP (strings_IndexRune_m n) [0, 0, 0, 0, 1, 0, 0, 0, 1, 1, 1, 1, 0, 1, 1, 1, 1, 1, 1, 0, 1] = true ∧ drawP (strings_IndexRune_m n) [0, 0, 0, 1, 0, 0, 1, 0, 1, 0, 0, 1, 0, 0, 0, 1, 1, 1, 1, 0, 1, 1, 1, 1, 1, 1, 0, 1] = true ∧ drawP (strings_IndexRune_m n) [0, 0, 1, 0, 0, 0, 1, 0, 0, 0, 1, 1, 1, 1, 0, 1, 1, 1, 1, 1, 1, 0, 1] = true := ⟨by kernel_rfl, by kernel_rfl, by kernel_rfl⟩
noncomputable def strings_IndexRune_b1 (n : Nat) : { B : (Str → Nat → Option Int) → Str → Nat → Option Int // ∀ m X0, (∀ (iv0 : Str) (ip0 : Nat), run (strings_IndexRune_m n) [.lq m [0, 1, 0, 0, 1, 1, 1, 0, 1], .blk 9, .cut [1, 0, 1, 1, 1, 0, 1], .at [1, 0, 1, 1, 1, 0, 1], .blk 0] ⟨[.any, .any, .any, .any, .any, .any, .any, .any, .any, .any, .any, .any, .any, .any, .any, .any, .any, .any, .any, .any, .any, .any, .any, .any, .any, .any, .any, .any, .any, .any, .any, .any, .any, .any, .any, .any, .any, .any, .any, .any, .any, .any, .any, .any, .any, .any, .any, .any, .any, .any, .any, .any, .any, .any, .any, .any, .any, .any, .any, .any, .any, .any, .any, .any, .any, .any, .any, .any, .any, .any, .any, .any, .any, .any, .any, .any, .any, .any, .any, .any, .any, .any, .any, .any, .any, .any, .any, .any, .any, .any, .any, .any, .any, .any, .any, .any, .any, .any, .any, .any, .any, .any, .any, .any, .any, .any, .any, .any, .any, .any, .any, .any, .any, .any, .any, .any, .any, .any, .any, .any, .any, .any, .any, .any, .any, .any, .any, .any, .any, .any, .any, .any, .any, .any, .any, .any, .any, .any, .any, .any, .any, .any, .any, .any, .any, .any, .any, .any, .any, .any, .any, .any, .any, .any, .any, .any, .any, .any, .any, .any, .any, .any, .any, .any, .any, .any, .any, .any, .any, .any, .any, .any, .any, .any, .any, .ptr 0 0, .any, .any, .any, .any, .any, .any, .any, .any, .any, .any, .any], [.iter (sb iv0) ip0], 0⟩ = X0 iv0 ip0) → ∀ (iv0 : Str) (ip0 : Nat), run (strings_IndexRune_m n) [.at [0, 0, 1, 0, 0, 1, 1, 1, 0, 1], .lp m [0, 1, 0, 0, 1, 1, 1, 0, 1], .blk 9, .cut [1, 0, 1, 1, 1, 0, 1], .at [1, 0, 1, 1, 1, 0, 1], .blk 0] ⟨[.any, .any, .any, .any, .any, .any, .any, .any, .any, .any, .any, .any, .any, .any, .any, .any, .any, .any, .any, .any, .any, .any, .any, .any, .any, .any, .any, .any, .any, .any, .any, .any, .any, .any, .any, .any, .any, .any, .any, .any, .any, .any, .any, .any, .any, .any, .any, .any, .any, .any, .any, .any, .any, .any, .any, .any, .any, .any, .any, .any, .any, .any, .any, .any, .any, .any, .any, .any, .any, .any, .any, .any, .any, .any, .any, .any, .any, .any, .any, .any, .any, .any, .any, .any, .any, .any, .any, .any, .any, .any, .any, .any, .any, .any, .any, .any, .any, .any, .any, .any, .any, .any, .any, .any, .any, .any, .any, .any, .any, .any, .any, .any, .any, .any, .any, .any, .any, .any, .any, .any, .any, .any, .any, .any, .any, .any, .any, .any, .any, .any, .any, .any, .any, .any, .any, .any, .any, .any, .any, .any, .any, .any, .any, .any, .any, .any, .any, .any, .any, .any, .any, .any, .any, .any, .any, .any, .any, .any, .any, .any, .any, .any, .any, .any, .any, .any, .any, .any, .any, .any, .any, .any, .any, .any, .any, .ptr 0 0, .any, .any, .any, .any, .any, .any, .any, .any, .any, .any, .any], [.iter (sb iv0) ip0], 0⟩ = B X0 iv0 ip0 } := by
  apply Subtype.mk
  intro m X0 ih iv0 ip0
  simp (config := { maxSteps := 100000000 }) only [go_sem, Nat.reduceAdd, Nat.reduceSub, Nat.reduceLeDiff, Nat.reduceEqDiff, Nat.reduceBEq, Nat.reduceMul, Nat.reduceLT, Int.reduceLE, Int.reduceLT, Int.reduceToNat, Int.reduceBEq, Int.reduceEq, strings_IndexRune_f, strings_IndexRune_c, Tryd.f53, Option.getD_some, mixed, strings_IndexRune_d, strings_IndexRune_n1, strings_IndexRune_n2, strings_IndexRune_n3, ih]
  exact rfl
noncomputable def strings_IndexRune_l1 (n : Nat) : Nat → Str → Nat → Option Int
  | 0, _, _ => none
  | m + 1, iv0, ip0 => (strings_IndexRune_b1 n).1 (strings_IndexRune_l1 n m) iv0 ip0
theorem strings_IndexRune_l1_eq (n : Nat) : ∀ (m : Nat), (∀ (iv0 : Str) (ip0 : Nat), run (strings_IndexRune_m n) [.lq m [0, 1, 0, 0, 1, 1, 1, 0, 1], .blk 9, .cut [1, 0, 1, 1, 1, 0, 1], .at [1, 0, 1, 1, 1, 0, 1], .blk 0] ⟨[.any, .any, .any, .any, .any, .any, .any, .any, .any, .any, .any, .any, .any, .any, .any, .any, .any, .any, .any, .any, .any, .any, .any, .any, .any, .any, .any, .any, .any, .any, .any, .any, .any, .any, .any, .any, .any, .any, .any, .any, .any, .any, .any, .any, .any, .any, .any, .any, .any, .any, .any, .any, .any, .any, .any, .any, .any, .any, .any, .any, .any, .any, .any, .any, .any, .any, .any, .any, .any, .any, .any, .any, .any, .any, .any, .any, .any, .any, .any, .any, .any, .any, .any, .any, .any, .any, .any, .any, .any, .any, .any, .any, .any, .any, .any, .any, .any, .any, .any, .any, .any, .any, .any, .any, .any, .any, .any, .any, .any, .any, .any, .any, .any, .any, .any, .any, .any, .any, .any, .any, .any, .any, .any, .any, .any, .any, .any, .any, .any, .any, .any, .any, .any, .any, .any, .any, .any, .any, .any, .any, .any, .any, .any, .any, .any, .any, .any, .any, .any, .any, .any, .any, .any, .any, .any, .any, .any, .any, .any, .any, .any, .any, .any, .any, .any, .any, .any, .any, .any, .any, .any, .any, .any, .any, .any, .ptr 0 0, .any, .any, .any, .any, .any, .any, .any, .any, .any, .any, .any], [.iter (sb iv0) ip0], 0⟩ = strings_IndexRune_l1 n m iv0 ip0)
  | 0 => by intros; exact run_lq_zero
  | m + 1 => by
    have ih := strings_IndexRune_l1_eq n m
    intro iv0 ip0
    rw [run_lq_succ]
    exact (strings_IndexRune_b1 n).2  m _  ih iv0 ip0
noncomputable def strings_IndexRune_b2 (n : Nat) : { B : (Str → Str → Int → Int → Option Int) → (Str → Str → Int → Int → Int → Option Int) → Str → Str → Int → Int → Int → Option Int // ∀ m3 X3 m X0, (∀ (v0 : Str) (v1 : Str) (v2 : Int) (v3 : Int), run (strings_IndexRune_m n) [.lq m3 [0, 0, 1, 1, 1, 1, 0, 1, 1, 1, 1, 1, 1, 0, 1], .blk 1, .cut [1, 1, 1, 1, 1, 0, 1, 1, 1, 1, 1, 1, 0, 1], .at [1, 1, 1, 1, 1, 0, 1, 1, 1, 1, 1, 1, 0, 1], .blk 0] ⟨[.str (sb v0), .any, .any, .any, .any, .any, .any, .str (sb v1), .int .i64 v2, .int .i64 v3, .any, .any, .any, .any, .any, .any, .any, .any, .any, .any, .any, .any, .any, .any, .any, .any, .any, .any, .any, .any, .any, .any, .any, .any, .any, .any, .any, .any, .any, .any, .any, .any, .any, .any, .any, .any, .any, .any, .any, .any, .any, .any, .any, .any, .any, .any, .any, .any, .any, .any, .any, .any, .any, .any, .any, .any, .any, .any, .any, .any, .any, .any, .any, .any, .any, .any, .any, .any, .any, .any, .any, .any, .any, .any, .any, .any, .any, .any, .any, .any, .any, .any, .any, .any, .any, .any, .any, .any, .any, .any, .any, .any, .any, .any, .any, .any, .any, .any, .any, .any, .any, .any, .any, .any, .any, .any, .any, .any, .any, .any, .any, .any, .any, .any, .any, .any, .any, .any, .any, .any, .any, .any, .any, .any, .any, .any, .any, .any, .any, .any, .any, .any, .any, .any, .any, .any, .any, .any, .any, .any, .any, .any, .any, .any, .any, .any, .any, .any, .any, .any, .any, .any, .any, .any, .any, .any, .any, .any, .any, .any, .any, .any, .any, .any, .any, .any, .any, .any, .any, .any, .any, .any, .any, .any, .any, .any, .any], [], 0⟩ = X3 v0 v1 v2 v3) → (∀ (v0 : Str) (v1 : Str) (v2 : Int) (v3 : Int) (v4 : Int), run (strings_IndexRune_m n) [.lq m [0, 1, 0, 1, 0, 0, 1, 0, 0, 0, 1, 1, 1, 1, 0, 1, 1, 1, 1, 1, 1, 0, 1], .blk 3, .cut [1, 1, 0, 0, 1, 0, 0, 0, 1, 1, 1, 1, 0, 1, 1, 1, 1, 1, 1, 0, 1], .at [1, 1, 0, 0, 1, 0, 0, 0, 1, 1, 1, 1, 0, 1, 1, 1, 1, 1, 1, 0, 1], .blk 2, .lp m3 [0, 0, 1, 1, 1, 1, 0, 1, 1, 1, 1, 1, 1, 0, 1], .blk 1, .cut [1, 1, 1, 1, 1, 0, 1, 1, 1, 1, 1, 1, 0, 1], .at [1, 1, 1, 1, 1, 0, 1, 1, 1, 1, 1, 1, 0, 1], .blk 0] ⟨[.str (sb v0), .any, .any, .any, .any, .any, .any, .str (sb v1), .int .i64 v2, .int .i64 v3, .any, .any, .int .i64 v4, .any, .any, .any, .any, .any, .any, .any, .any, .any, .any, .any, .any, .any, .any, .any, .any, .any, .any, .any, .any, .any, .any, .any, .any, .any, .any, .any, .any, .any, .any, .any, .any, .any, .any, .any, .any, .any, .any, .any, .any, .any, .any, .any, .any, .any, .any, .any, .any, .any, .any, .any, .any, .any, .any, .any, .any, .any, .any, .any, .any, .any, .any, .any, .any, .any, .any, .any, .any, .any, .any, .any, .any, .any, .any, .any, .any, .any, .any, .any, .any, .any, .any, .any, .any, .any, .any, .any, .any, .any, .any, .any, .any, .any, .any, .any, .any, .any, .any, .any, .any, .any, .any, .any, .any, .any, .any, .any, .any, .any, .any, .any, .any, .any, .any, .any, .any, .any, .any, .any, .any, .any, .any, .any, .any, .any, .any, .any, .any, .any, .any, .any, .any, .any, .any, .any, .any, .any, .any, .any, .any, .any, .any, .any, .any, .any, .any, .any, .any, .any, .any, .any, .any, .any, .any, .any, .any, .any, .any, .any, .any, .any, .any, .any, .any, .any, .any, .any, .any, .any, .any, .any, .any, .any, .any], [], 0⟩ = X0 v0 v1 v2 v3 v4) → ∀ (v0 : Str) (v1 : Str) (v2 : Int) (v3 : Int) (v4 : Int), run (strings_IndexRune_m n) [.at [0, 0, 1, 0, 1, 0, 0, 1, 0, 0, 0, 1, 1, 1, 1, 0, 1, 1, 1, 1, 1, 1, 0, 1], .lp m [0, 1, 0, 1, 0, 0, 1, 0, 0, 0, 1, 1, 1, 1, 0, 1, 1, 1, 1, 1, 1, 0, 1], .blk 3, .cut [1, 1, 0, 0, 1, 0, 0, 0, 1, 1, 1, 1, 0, 1, 1, 1, 1, 1, 1, 0, 1], .at [1, 1, 0, 0, 1, 0, 0, 0, 1, 1, 1, 1, 0, 1, 1, 1, 1, 1, 1, 0, 1], .blk 2, .lp m3 [0, 0, 1, 1, 1, 1, 0, 1, 1, 1, 1, 1, 1, 0, 1], .blk 1, .cut [1, 1, 1, 1, 1, 0, 1, 1, 1, 1, 1, 1, 0, 1], .at [1, 1, 1, 1, 1, 0, 1, 1, 1, 1, 1, 1, 0, 1], .blk 0] ⟨[.str (sb v0), .any, .any, .any, .any, .any, .any, .str (sb v1), .int .i64 v2, .int .i64 v3, .any, .any, .int .i64 v4, .any, .any, .any, .any, .any, .any, .any, .any, .any, .any, .any, .any, .any, .any, .any, .any, .any, .any, .any, .any, .any, .any, .any, .any, .any, .any, .any, .any, .any, .any, .any, .any, .any, .any, .any, .any, .any, .any, .any, .any, .any, .any, .any, .any, .any, .any, .any, .any, .any, .any, .any, .any, .any, .any, .any, .any, .any, .any, .any, .any, .any, .any, .any, .any, .any, .any, .any, .any, .any, .any, .any, .any, .any, .any, .any, .any, .any, .any, .any, .any, .any, .any, .any, .any, .any, .any, .any, .any, .any, .any, .any, .any, .any, .any, .any, .any, .any, .any, .any, .any, .any, .any, .any, .any, .any, .any, .any, .any, .any, .any, .any, .any, .any, .any, .any, .any, .any, .any, .any, .any, .any, .any, .any, .any, .any, .any, .any, .any, .any, .any, .any, .any, .any, .any, .any, .any, .any, .any, .any, .any, .any, .any, .any, .any, .any, .any, .any, .any, .any, .any, .any, .any, .any, .any, .any, .any, .any, .any, .any, .any, .any, .any, .any, .any, .any, .any, .any, .any, .any, .any, .any, .any, .any, .any], [], 0⟩ = B X3 X0 v0 v1 v2 v3 v4 } := by
  apply Subtype.mk
  intro m3 X3 m X0 h3 ih v0 v1 v2 v3 v4
  simp (config := { maxSteps := 100000000 }) only [go_sem, Nat.reduceAdd, Nat.reduceSub, Nat.reduceLeDiff, Nat.reduceEqDiff, Nat.reduceBEq, Nat.reduceMul, Nat.reduceLT, Int.reduceLE, Int.reduceLT, Int.reduceToNat, Int.reduceBEq, Int.reduceEq, strings_IndexRune_f, strings_IndexRune_c, Tryd.f53, Option.getD_some, mixed, strings_IndexRune_d, strings_IndexRune_n1, strings_IndexRune_n2, strings_IndexRune_n3, strings_IndexRune_l1_eq n, h3, ih]
  exact rfl
noncomputable def strings_IndexRune_l2 (n : Nat) (X3 : Str → Str → Int → Int → Option Int) : Nat → Str → Str → Int → Int → Int → Option Int
  | 0, _, _, _, _, _ => none
  | m + 1, v0, v1, v2, v3, v4 => (strings_IndexRune_b2 n).1 X3 (strings_IndexRune_l2 n X3 m) v0 v1 v2 v3 v4
theorem strings_IndexRune_l2_eq (n : Nat) (m3 : Nat) (X3 : Str → Str → Int → Int → Option Int) (h3 : (∀ (v0 : Str) (v1 : Str) (v2 : Int) (v3 : Int), run (strings_IndexRune_m n) [.lq m3 [0, 0, 1, 1, 1, 1, 0, 1, 1, 1, 1, 1, 1, 0, 1], .blk 1, .cut [1, 1, 1, 1, 1, 0, 1, 1, 1, 1, 1, 1, 0, 1], .at [1, 1, 1, 1, 1, 0, 1, 1, 1, 1, 1, 1, 0, 1], .blk 0] ⟨[.str (sb v0), .any, .any, .any, .any, .any, .any, .str (sb v1), .int .i64 v2, .int .i64 v3, .any, .any, .any, .any, .any, .any, .any, .any, .any, .any, .any, .any, .any, .any, .any, .any, .any, .any, .any, .any, .any, .any, .any, .any, .any, .any, .any, .any, .any, .any, .any, .any, .any, .any, .any, .any, .any, .any, .any, .any, .any, .any, .any, .any, .any, .any, .any, .any, .any, .any, .any, .any, .any, .any, .any, .any, .any, .any, .any, .any, .any, .any, .any, .any, .any, .any, .any, .any, .any, .any, .any, .any, .any, .any, .any, .any, .any, .any, .any, .any, .any, .any, .any, .any, .any, .any, .any, .any, .any, .any, .any, .any, .any, .any, .any, .any, .any, .any, .any, .any, .any, .any, .any, .any, .any, .any, .any, .any, .any, .any, .any, .any, .any, .any, .any, .any, .any, .any, .any, .any, .any, .any, .any, .any, .any, .any, .any, .any, .any, .any, .any, .any, .any, .any, .any, .any, .any, .any, .any, .any, .any, .any, .any, .any, .any, .any, .any, .any, .any, .any, .any, .any, .any, .any, .any, .any, .any, .any, .any, .any, .any, .any, .any, .any, .any, .any, .any, .any, .any, .any, .any, .any, .any, .any, .any, .any, .any], [], 0⟩ = X3 v0 v1 v2 v3)) : ∀ (m : Nat), (∀ (v0 : Str) (v1 : Str) (v2 : Int) (v3 : Int) (v4 : Int), run (strings_IndexRune_m n) [.lq m [0, 1, 0, 1, 0, 0, 1, 0, 0, 0, 1, 1, 1, 1, 0, 1, 1, 1, 1, 1, 1, 0, 1], .blk 3, .cut [1, 1, 0, 0, 1, 0, 0, 0, 1, 1, 1, 1, 0, 1, 1, 1, 1, 1, 1, 0, 1], .at [1, 1, 0, 0, 1, 0, 0, 0, 1, 1, 1, 1, 0, 1, 1, 1, 1, 1, 1, 0, 1], .blk 2, .lp m3 [0, 0, 1, 1, 1, 1, 0, 1, 1, 1, 1, 1, 1, 0, 1], .blk 1, .cut [1, 1, 1, 1, 1, 0, 1, 1, 1, 1, 1, 1, 0, 1], .at [1, 1, 1, 1, 1, 0, 1, 1, 1, 1, 1, 1, 0, 1], .blk 0] ⟨[.str (sb v0), .any, .any, .any, .any, .any, .any, .str (sb v1), .int .i64 v2, .int .i64 v3, .any, .any, .int .i64 v4, .any, .any, .any, .any, .any, .any, .any, .any, .any, .any, .any, .any, .any, .any, .any, .any, .any, .any, .any, .any, .any, .any, .any, .any, .any, .any, .any, .any, .any, .any, .any, .any, .any, .any, .any, .any, .any, .any, .any, .any, .any, .any, .any, .any, .any, .any, .any, .any, .any, .any, .any, .any, .any, .any, .any, .any, .any, .any, .any, .any, .any, .any, .any, .any, .any, .any, .any, .any, .any, .any, .any, .any, .any, .any, .any, .any, .any, .any, .any, .any, .any, .any, .any, .any, .any, .any, .any, .any, .any, .any, .any, .any, .any, .any, .any, .any, .any, .any, .any, .any, .any, .any, .any, .any, .any, .any, .any, .any, .any, .any, .any, .any, .any, .any, .any, .any, .any, .any, .any, .any, .any, .any, .any, .any, .any, .any, .any, .any, .any, .any, .any, .any, .any, .any, .any, .any, .any, .any, .any, .any, .any, .any, .any, .any, .any, .any, .any, .any, .any, .any, .any, .any, .any, .any, .any, .any, .any, .any, .any, .any, .any, .any, .any, .any, .any, .any, .any, .any, .any, .any, .any, .any, .any, .any], [], 0⟩ = strings_IndexRune_l2 n X3 m v0 v1 v2 v3 v4)
  | 0 => by intros; exact run_lq_zero
  | m + 1 => by
    have ih := strings_IndexRune_l2_eq n m3 X3 h3 m
    intro v0 v1 v2 v3 v4
    rw [run_lq_succ]
    exact (strings_IndexRune_b2 n).2 m3 X3 m _ h3 ih v0 v1 v2 v3 v4
noncomputable def strings_IndexRune_b3 (n : Nat) : { B : (Str → Str → Int → Int → Option Int) → Str → Str → Int → Int → Option Int // ∀ m X0, (∀ (v0 : Str) (v1 : Str) (v2 : Int) (v3 : Int), run (strings_IndexRune_m n) [.lq m [0, 0, 1, 1, 1, 1, 0, 1, 1, 1, 1, 1, 1, 0, 1], .blk 1, .cut [1, 1, 1, 1, 1, 0, 1, 1, 1, 1, 1, 1, 0, 1], .at [1, 1, 1, 1, 1, 0, 1, 1, 1, 1, 1, 1, 0, 1], .blk 0] ⟨[.str (sb v0), .any, .any, .any, .any, .any, .any, .str (sb v1), .int .i64 v2, .int .i64 v3, .any, .any, .any, .any, .any, .any, .any, .any, .any, .any, .any, .any, .any, .any, .any, .any, .any, .any, .any, .any, .any, .any, .any, .any, .any, .any, .any, .any, .any, .any, .any, .any, .any, .any, .any, .any, .any, .any, .any, .any, .any, .any, .any, .any, .any, .any, .any, .any, .any, .any, .any, .any, .any, .any, .any, .any, .any, .any, .any, .any, .any, .any, .any, .any, .any, .any, .any, .any, .any, .any, .any, .any, .any, .any, .any, .any, .any, .any, .any, .any, .any, .any, .any, .any, .any, .any, .any, .any, .any, .any, .any, .any, .any, .any, .any, .any, .any, .any, .any, .any, .any, .any, .any, .any, .any, .any, .any, .any, .any, .any, .any, .any, .any, .any, .any, .any, .any, .any, .any, .any, .any, .any, .any, .any, .any, .any, .any, .any, .any, .any, .any, .any, .any, .any, .any, .any, .any, .any, .any, .any, .any, .any, .any, .any, .any, .any, .any, .any, .any, .any, .any, .any, .any, .any, .any, .any, .any, .any, .any, .any, .any, .any, .any, .any, .any, .any, .any, .any, .any, .any, .any, .any, .any, .any, .any, .any, .any], [], 0⟩ = X0 v0 v1 v2 v3) → ∀ (v0 : Str) (v1 : Str) (v2 : Int) (v3 : Int), run (strings_IndexRune_m n) [.at [0, 0, 0, 1, 1, 1, 1, 0, 1, 1, 1, 1, 1, 1, 0, 1], .lp m [0, 0, 1, 1, 1, 1, 0, 1, 1, 1, 1, 1, 1, 0, 1], .blk 1, .cut [1, 1, 1, 1, 1, 0, 1, 1, 1, 1, 1, 1, 0, 1], .at [1, 1, 1, 1, 1, 0, 1, 1, 1, 1, 1, 1, 0, 1], .blk 0] ⟨[.str (sb v0), .any, .any, .any, .any, .any, .any, .str (sb v1), .int .i64 v2, .int .i64 v3, .any, .any, .any, .any, .any, .any, .any, .any, .any, .any, .any, .any, .any, .any, .any, .any, .any, .any, .any, .any, .any, .any, .any, .any, .any, .any, .any, .any, .any, .any, .any, .any, .any, .any, .any, .any, .any, .any, .any, .any, .any, .any, .any, .any, .any, .any, .any, .any, .any, .any, .any, .any, .any, .any, .any, .any, .any, .any, .any, .any, .any, .any, .any, .any, .any, .any, .any, .any, .any, .any, .any, .any, .any, .any, .any, .any, .any, .any, .any, .any, .any, .any, .any, .any, .any, .any, .any, .any, .any, .any, .any, .any, .any, .any, .any, .any, .any, .any, .any, .any, .any, .any, .any, .any, .any, .any, .any, .any, .any, .any, .any, .any, .any, .any, .any, .any, .any, .any, .any, .any, .any, .any, .any, .any, .any, .any, .any, .any, .any, .any, .any, .any, .any, .any, .any, .any, .any, .any, .any, .any, .any, .any, .any, .any, .any, .any, .any, .any, .any, .any, .any, .any, .any, .any, .any, .any, .any, .any, .any, .any, .any, .any, .any, .any, .any, .any, .any, .any, .any, .any, .any, .any, .any, .any, .any, .any, .any], [], 0⟩ = B X0 v0 v1 v2 v3 } := by
  apply Subtype.mk
  intro m X0 ih v0 v1 v2 v3
  simp (config := { maxSteps := 100000000 }) only [go_sem, Nat.reduceAdd, Nat.reduceSub, Nat.reduceLeDiff, Nat.reduceEqDiff, Nat.reduceBEq, Nat.reduceMul, Nat.reduceLT, Int.reduceLE, Int.reduceLT, Int.reduceToNat, Int.reduceBEq, Int.reduceEq, strings_IndexRune_f, strings_IndexRune_c, Tryd.f53, Option.getD_some, mixed, strings_IndexRune_d, strings_IndexRune_n1, strings_IndexRune_n2, strings_IndexRune_n3, strings_IndexRune_l1_eq n, strings_IndexRune_l2_eq n m X0 ih, ih]
  exact rfl
noncomputable def strings_IndexRune_l3 (n : Nat) : Nat → Str → Str → Int → Int → Option Int
  | 0, _, _, _, _ => none
  | m + 1, v0, v1, v2, v3 => (strings_IndexRune_b3 n).1 (strings_IndexRune_l3 n m) v0 v1 v2 v3
theorem strings_IndexRune_l3_eq (n : Nat) : ∀ (m : Nat), (∀ (v0 : Str) (v1 : Str) (v2 : Int) (v3 : Int), run (strings_IndexRune_m n) [.lq m [0, 0, 1, 1, 1, 1, 0, 1, 1, 1, 1, 1, 1, 0, 1], .blk 1, .cut [1, 1, 1, 1, 1, 0, 1, 1, 1, 1, 1, 1, 0, 1], .at [1, 1, 1, 1, 1, 0, 1, 1, 1, 1, 1, 1, 0, 1], .blk 0] ⟨[.str (sb v0), .any, .any, .any, .any, .any, .any, .str (sb v1), .int .i64 v2, .int .i64 v3, .any, .any, .any, .any, .any, .any, .any, .any, .any, .any, .any, .any, .any, .any, .any, .any, .any, .any, .any, .any, .any, .any, .any, .any, .any, .any, .any, .any, .any, .any, .any, .any, .any, .any, .any, .any, .any, .any, .any, .any, .any, .any, .any, .any, .any, .any, .any, .any, .any, .any, .any, .any, .any, .any, .any, .any, .any, .any, .any, .any, .any, .any, .any, .any, .any, .any, .any, .any, .any, .any, .any, .any, .any, .any, .any, .any, .any, .any, .any, .any, .any, .any, .any, .any, .any, .any, .any, .any, .any, .any, .any, .any, .any, .any, .any, .any, .any, .any, .any, .any, .any, .any, .any, .any, .any, .any, .any, .any, .any, .any, .any, .any, .any, .any, .any, .any, .any, .any, .any, .any, .any, .any, .any, .any, .any, .any, .any, .any, .any, .any, .any, .any, .any, .any, .any, .any, .any, .any, .any, .any, .any, .any, .any, .any, .any, .any, .any, .any, .any, .any, .any, .any, .any, .any, .any, .any, .any, .any, .any, .any, .any, .any, .any, .any, .any, .any, .any, .any, .any, .any, .any, .any, .any, .any, .any, .any, .any], [], 0⟩ = strings_IndexRune_l3 n m v0 v1 v2 v3)
  | 0 => by intros; exact run_lq_zero
  | m + 1 => by
    have ih := strings_IndexRune_l3_eq n m
    intro v0 v1 v2 v3
    rw [run_lq_succ]
    exact (strings_IndexRune_b3 n).2  m _  ih v0 v1 v2 v3
noncomputable def strings_IndexRune_e (n : Nat) : { B : Str → Int → Option Int // ∀ (a0 : Str) (a1 : Int), run (strings_IndexRune_m n) [.at []] { slots := [tyS.enc a0, (tyI .i32).enc a1] ++ List.replicate (187 - [tyS.enc a0, (tyI .i32).enc a1].length) .any, heap := [] } = B a0 a1 } := by
  apply Subtype.mk
  intro a0 a1
  simp (config := { maxSteps := 100000000 }) only [go_sem, Nat.reduceAdd, Nat.reduceSub, Nat.reduceLeDiff, Nat.reduceEqDiff, Nat.reduceBEq, Nat.reduceMul, Nat.reduceLT, Int.reduceLE, Int.reduceLT, Int.reduceToNat, Int.reduceBEq, Int.reduceEq, strings_IndexRune_f, strings_IndexRune_c, Tryd.f53, Option.getD_some, mixed, strings_IndexRune_d, strings_IndexRune_n1, strings_IndexRune_n2, strings_IndexRune_n3, strings_IndexRune_l1_eq n, strings_IndexRune_l3_eq n]
  exact rfl
noncomputable def strings_IndexRune : Nat → Str → Int → Option Int
  | 0, _, _ => none
  | n + 1, a0, a1 => (strings_IndexRune_e n).1 a0 a1
theorem strings_IndexRune_ok : ∀ (n : Nat) (a0 : Str) (a1 : Int) (r : Int), strings_IndexRune n a0 a1 = some r → FnC Tryd.prog 53 [tyS.enc a0, (tyI .i32).enc a1] (fun v => v = (tyI .i64).enc r)
  | 0, _, _, _, h => by cases h
  | n + 1, a0, a1, r, h => by
    exact fnC_run (M := strings_IndexRune_m n) ⟨(tabA_cons_ok (ent2_ok (strings_IndexByte_ok n)) (tabA_cons_ok (ent1_ok (unicode_utf8_ValidRune_ok n)) tabA_nil_ok)), (tabD_cons_ok (ent2_okD (strings_IndexByte_ok n)) tabD_nil_ok), tabN_ok _, tabF_ok _, noY_ok, noE_ok⟩ Tryd.func53 rfl rfl ⟨tyS.nb 0 _, (tyI .i32).nb 0 _, trivial⟩ Tryd.ntmps53 Tryd.results53 (fun σ hs => outR_ok (P := Tryd.prog) (rs := [.tmp 4]) (t := (tyI .i64)) (σ := σ) (r := r) hs) (((strings_IndexRune_e n).2 a0 a1).trans h)

noncomputable def strings_HasPrefix_m (n : Nat) : Mach Bool where
  body := (Tryd.f41.body).getD .skip
  P := Tryd.prog
  cl := tabA [(57, ent2 tyS tyS tyB (internal_stringslite_HasPrefix n))]
  cd := tabD []
  nrm := tabN []
  cut := tabF []
  n := n
  out := outR Tryd.prog [.tmp 4] tyB
theorem strings_HasPrefix_f (n : Nat) : (strings_HasPrefix_m n).P = Tryd.prog ∧ (strings_HasPrefix_m n).cl = tabA [(57, ent2 tyS tyS tyB (internal_stringslite_HasPrefix n))] ∧ (strings_HasPrefix_m n).cd = tabD [] ∧ (strings_HasPrefix_m n).nrm = tabN [] ∧ (strings_HasPrefix_m n).cut = tabF [] ∧ (strings_HasPrefix_m n).n = n ∧ (strings_HasPrefix_m n).out = outR Tryd.prog [.tmp 4] tyB := ⟨rfl, rfl, rfl, rfl, rfl, rfl, rfl⟩
theorem strings_HasPrefix_c (n : Nat) : (strings_HasPrefix_m n).body = (Tryd.f41.body).getD .skip := rfl
noncomputable def strings_HasPrefix_e (n : Nat) : { B : Str → Str → Option Bool // ∀ (a0 : Str) (a1 : Str), run (strings_HasPrefix_m n) [.at []] { slots := [tyS.enc a0, tyS.enc a1] ++ List.replicate (8 - [tyS.enc a0, tyS.enc a1].length) .any, heap := [] } = B a0 a1 } := by
  apply Subtype.mk
  intro a0 a1
  simp (config := { maxSteps := 100000000 }) only [go_sem, Nat.reduceAdd, Nat.reduceSub, Nat.reduceLeDiff, Nat.reduceEqDiff, Nat.reduceBEq, Nat.reduceMul, Nat.reduceLT, Int.reduceLE, Int.reduceLT, Int.reduceToNat, Int.reduceBEq, Int.reduceEq, strings_HasPrefix_f, strings_HasPrefix_c, Tryd.f41, Option.getD_some, mixed]
  exact rfl
noncomputable def strings_HasPrefix : Nat → Str → Str → Option Bool
  | 0, _, _ => none
  | n + 1, a0, a1 => (strings_HasPrefix_e n).1 a0 a1
theorem strings_HasPrefix_ok : ∀ (n : Nat) (a0 : Str) (a1 : Str) (r : Bool), strings_HasPrefix n a0 a1 = some r → FnC Tryd.prog 41 [tyS.enc a0, tyS.enc a1] (fun v => v = tyB.enc r)
  | 0, _, _, _, h => by cases h
  | n + 1, a0, a1, r, h => by
    exact fnC_run (M := strings_HasPrefix_m n) ⟨(tabA_cons_ok (ent2_ok (internal_stringslite_HasPrefix_ok n)) tabA_nil_ok), tabD_nil_ok, tabN_ok _, tabF_ok _, noY_ok, noE_ok⟩ Tryd.func41 rfl rfl ⟨tyS.nb 0 _, tyS.nb 0 _, trivial⟩ Tryd.ntmps41 Tryd.results41 (fun σ hs => outR_ok (P := Tryd.prog) (rs := [.tmp 4]) (t := tyB) (σ := σ) (r := r) hs) (((strings_HasPrefix_e n).2 a0 a1).trans h)

noncomputable def ref24_begins_m (n : Nat) : Mach Bool where
  body := (Tryd.f33.body).getD .skip
  P := Tryd.prog
  cl := tabA [(48, ent1 (tyI .u8) tyB (ref24_letter n))]
  cd := tabD []
  nrm := tabN []
  cut := tabF []
  n := n
  out := outR Tryd.prog [.tmp 2] tyB
theorem ref24_begins_f (n : Nat) : (ref24_begins_m n).P = Tryd.prog ∧ (ref24_begins_m n).cl = tabA [(48, ent1 (tyI .u8) tyB (ref24_letter n))] ∧ (ref24_begins_m n).cd = tabD [] ∧ (ref24_begins_m n).nrm = tabN [] ∧ (ref24_begins_m n).cut = tabF [] ∧ (ref24_begins_m n).n = n ∧ (ref24_begins_m n).out = outR Tryd.prog [.tmp 2] tyB := ⟨rfl, rfl, rfl, rfl, rfl, rfl, rfl⟩
theorem ref24_begins_c (n : Nat) : (ref24_begins_m n).body = (Tryd.f33.body).getD .skip := rfl
noncomputable def ref24_begins_e (n : Nat) : { B : Int → Option Bool // ∀ (a0 : Int), run (ref24_begins_m n) [.at []] { slots := [(tyI .u8).enc a0] ++ List.replicate (9 - [(tyI .u8).enc a0].length) .any, heap := [] } = B a0 } := by
  apply Subtype.mk
  intro a0
  simp (config := { maxSteps := 100000000 }) only [go_sem, Nat.reduceAdd, Nat.reduceSub, Nat.reduceLeDiff, Nat.reduceEqDiff, Nat.reduceBEq, Nat.reduceMul, Nat.reduceLT, Int.reduceLE, Int.reduceLT, Int.reduceToNat, Int.reduceBEq, Int.reduceEq, ref24_begins_f, ref24_begins_c, Tryd.f33, Option.getD_some, mixed]
  exact rfl
noncomputable def ref24_begins : Nat → Int → Option Bool
  | 0, _ => none
  | n + 1, a0 => (ref24_begins_e n).1 a0
theorem ref24_begins_ok : ∀ (n : Nat) (a0 : Int) (r : Bool), ref24_begins n a0 = some r → FnC Tryd.prog 33 [(tyI .u8).enc a0] (fun v => v = tyB.enc r)
  | 0, _, _, h => by cases h
  | n + 1, a0, r, h => by
    exact fnC_run (M := ref24_begins_m n) ⟨(tabA_cons_ok (ent1_ok (ref24_letter_ok n)) tabA_nil_ok), tabD_nil_ok, tabN_ok _, tabF_ok _, noY_ok, noE_ok⟩ Tryd.func33 rfl rfl ⟨(tyI .u8).nb 0 _, trivial⟩ Tryd.ntmps33 Tryd.results33 (fun σ hs => outR_ok (P := Tryd.prog) (rs := [.tmp 2]) (t := tyB) (σ := σ) (r := r) hs) (((ref24_begins_e n).2 a0).trans h)
end Go.Abs
namespace Go.Abs
open Go.Proofs
set_option maxRecDepth 100000
set_option maxHeartbeats 4000000
set_option linter.unusedSimpArgs false
set_option linter.unusedVariables false
noncomputable def lexer_keywords_m (n : Nat) : Mach (((List (Str × Bool)) × Unit) × Unit) where
  body := (Tryd.f21.body).getD .skip
  P := Tryd.prog
  cl := tabA [(37, ent1 tyS (tyK1 49 (tyP cS)) (strings_FieldsSeq n)), (49, entX [.arg 0 [], .obj 0 1 [], .obj 1 0 []] strings_FieldsSeq_1_os (alM 0 (alT (tyP cS) alN)) strings_FieldsSeq_1_o1 alN (fun (b : (Unit × (Unit × ((List (Str × Bool)) × Unit)))) (a : (Str × Unit)) => (strings_FieldsSeq_1 n) a.1 b.2.2.1))]
  cd := tabD []
  nrm := tabN []
  cut := tabF []
  n := n
  out := outS Tryd.prog [.tmp 0] [.arg 0 []] [] 0 (olC ogM olN) (alM 0 alN)
  js := tabJ [([0, 1, 0, 1, 1], [])]
theorem lexer_keywords_f (n : Nat) : (lexer_keywords_m n).P = Tryd.prog ∧ (lexer_keywords_m n).cl = tabA [(37, ent1 tyS (tyK1 49 (tyP cS)) (strings_FieldsSeq n)), (49, entX [.arg 0 [], .obj 0 1 [], .obj 1 0 []] strings_FieldsSeq_1_os (alM 0 (alT (tyP cS) alN)) strings_FieldsSeq_1_o1 alN (fun (b : (Unit × (Unit × ((List (Str × Bool)) × Unit)))) (a : (Str × Unit)) => (strings_FieldsSeq_1 n) a.1 b.2.2.1))] ∧ (lexer_keywords_m n).cd = tabD [] ∧ (lexer_keywords_m n).nrm = tabN [] ∧ (lexer_keywords_m n).cut = tabF [] ∧ (lexer_keywords_m n).n = n ∧ (lexer_keywords_m n).out = outS Tryd.prog [.tmp 0] [.arg 0 []] [] 0 (olC ogM olN) (alM 0 alN) ∧ (lexer_keywords_m n).js = tabJ [([0, 1, 0, 1, 1], [])] := ⟨rfl, rfl, rfl, rfl, rfl, rfl, rfl, rfl⟩
theorem lexer_keywords_c (n : Nat) : (lexer_keywords_m n).body = (Tryd.f21.body).getD .skip := rfl
theorem lexer_keywords_k0_ (n : Nat) : lkM (lexer_keywords_m n) [0, 1, 0, 1, 1] = lexer_keywords_k0_1_0_1_1 := rfl
noncomputable def lexer_keywords_e (n : Nat) : { B : Option (((List (Str × Bool)) × Unit) × Unit) // run (lexer_keywords_m n) [.at []] { slots := (alN.enc (olN.lens ()) ()) ++ List.replicate (9 - (alN.enc (olN.lens ()) ()).length) .any, heap := (olN.enc (olN.lens ()) ()), low := (olN.enc (olN.lens ()) ()).length } = B } := by
  apply Subtype.mk
  simp (config := { maxSteps := 100000000 }) only [go_sem, Nat.reduceAdd, Nat.reduceSub, Nat.reduceLeDiff, Nat.reduceEqDiff, Nat.reduceBEq, Nat.reduceMul, Nat.reduceLT, Int.reduceLE, Int.reduceLT, Int.reduceToNat, Int.reduceBEq, Int.reduceEq, lexer_keywords_f, lexer_keywords_c, Tryd.f21, Option.getD_some, mixed, strings_FieldsSeq_1_os, strings_FieldsSeq_1_o1, lexer_keywords_k0_1_0_1_1_f, lexer_keywords_k0_]
  exact rfl
noncomputable def lexer_keywords : Nat → Option (((List (Str × Bool)) × Unit) × Unit)
  | 0 => none
  | n + 1 => (lexer_keywords_e n).1
theorem lexer_keywords_ok : ∀ (n : Nat) (r : (((List (Str × Bool)) × Unit) × Unit)), lexer_keywords n = some r → FnG Tryd.prog 21 (alN.enc (olN.lens ()) ()) (olN.enc (olN.lens ()) ()) (fun o H' => o = .ret (tupOf ((alM 0 alN).enc ((olC ogM olN).lens r.1) r.2)) ∧ H' = (olC ogM olN).enc ((olC ogM olN).lens r.1) r.1)
  | 0, _, h => by cases h
  | n + 1, r, h => by
    exact fnG_run (M := lexer_keywords_m n) ⟨(tabA_cons_ok (ent1_ok (strings_FieldsSeq_ok n)) (tabA_cons_ok (entX_ok (fun b a r h => (strings_FieldsSeq_1_ok n) a.1 b.2.2.1 r h)) tabA_nil_ok)), tabD_nil_ok, tabN_ok _, tabF_ok _, noY_ok, noE_ok⟩ Tryd.func21 rfl rfl (nbL_le (Nat.le_trans (of_decide_eq_true (by kernel_rfl)) (Nat.le_of_eq (olN.sz _ _).symm)) _ (alN.nb _ _)) (fun x hx => objNb_le' (Nat.le_trans (of_decide_eq_true (by kernel_rfl)) (Nat.le_of_eq (olN.sz _ _).symm)) _ (olN.nb _ _ x hx)) Tryd.ntmps21 Tryd.results21 (fun σ hs => outS_ok (P := Tryd.prog) (rs := [.tmp 0]) (pos := [.arg 0 []]) (base := []) (low := 0) (os := (olC ogM olN)) (s := (alM 0 alN)) (σ := σ) (r := r) (by rfl) hs) (((lexer_keywords_e n).2).trans h)

noncomputable def strings_ContainsRune_m (n : Nat) : Mach Bool where
  body := (Tryd.f40.body).getD .skip
  P := Tryd.prog
  cl := tabA [(53, ent2 tyS (tyI .i32) (tyI .i64) (strings_IndexRune n))]
  cd := tabD []
  nrm := tabN []
  cut := tabF []
  n := n
  out := outR Tryd.prog [.tmp 4] tyB
theorem strings_ContainsRune_f (n : Nat) : (strings_ContainsRune_m n).P = Tryd.prog ∧ (strings_ContainsRune_m n).cl = tabA [(53, ent2 tyS (tyI .i32) (tyI .i64) (strings_IndexRune n))] ∧ (strings_ContainsRune_m n).cd = tabD [] ∧ (strings_ContainsRune_m n).nrm = tabN [] ∧ (strings_ContainsRune_m n).cut = tabF [] ∧ (strings_ContainsRune_m n).n = n ∧ (strings_ContainsRune_m n).out = outR Tryd.prog [.tmp 4] tyB := ⟨rfl, rfl, rfl, rfl, rfl, rfl, rfl⟩
theorem strings_ContainsRune_c (n : Nat) : (strings_ContainsRune_m n).body = (Tryd.f40.body).getD .skip := rfl
noncomputable def strings_ContainsRune_e (n : Nat) : { B : Str → Int → Option Bool // ∀ (a0 : Str) (a1 : Int), run (strings_ContainsRune_m n) [.at []] { slots := [tyS.enc a0, (tyI .i32).enc a1] ++ List.replicate (9 - [tyS.enc a0, (tyI .i32).enc a1].length) .any, heap := [] } = B a0 a1 } := by
  apply Subtype.mk
  intro a0 a1
  simp (config := { maxSteps := 100000000 }) only [go_sem, Nat.reduceAdd, Nat.reduceSub, Nat.reduceLeDiff, Nat.reduceEqDiff, Nat.reduceBEq, Nat.reduceMul, Nat.reduceLT, Int.reduceLE, Int.reduceLT, Int.reduceToNat, Int.reduceBEq, Int.reduceEq, strings_ContainsRune_f, strings_ContainsRune_c, Tryd.f40, Option.getD_some, mixed]
  exact rfl
noncomputable def strings_ContainsRune : Nat → Str → Int → Option Bool
  | 0, _, _ => none
  | n + 1, a0, a1 => (strings_ContainsRune_e n).1 a0 a1
theorem strings_ContainsRune_ok : ∀ (n : Nat) (a0 : Str) (a1 : Int) (r : Bool), strings_ContainsRune n a0 a1 = some r → FnC Tryd.prog 40 [tyS.enc a0, (tyI .i32).enc a1] (fun v => v = tyB.enc r)
  | 0, _, _, _, h => by cases h
  | n + 1, a0, a1, r, h => by
    exact fnC_run (M := strings_ContainsRune_m n) ⟨(tabA_cons_ok (ent2_ok (strings_IndexRune_ok n)) tabA_nil_ok), tabD_nil_ok, tabN_ok _, tabF_ok _, noY_ok, noE_ok⟩ Tryd.func40 rfl rfl ⟨tyS.nb 0 _, (tyI .i32).nb 0 _, trivial⟩ Tryd.ntmps40 Tryd.results40 (fun σ hs => outR_ok (P := Tryd.prog) (rs := [.tmp 4]) (t := tyB) (σ := σ) (r := r) hs) (((strings_ContainsRune_e n).2 a0 a1).trans h)

noncomputable def lexer_scanner_word_n1 : Nrm := ⟨[], [], [zK, zA, zA, zA, zA, zK, zA, zA, zA, zA, zA, zA, zA, zA, zA, zA, zA, zA, zA, zA, zA, zA, zA, zA, zA, zA, zA, zA, zA, zA, zA, zA, zA, zA, zA, zA, zA, zA, zA, zA, zA, zA, zA, zA, zA, zA, zA, zA, zA, zA, zA, zA, zA, zA, zA, zA, zA, zA, zA, zA, zA, zA, zA, zA, zA, zA, zA, zA, zA, zA, zA, zA, zA, zA, zA, zA, zA, zA, zA, zA, zA, zA, zA, zA, zA, zA, zA, zA, zA, zA, zA, zA, zA, zA, zA, zA, zA, zA], [oC [zK, zK, zK, zK, zK], oK, oK, oK], none⟩
noncomputable def lexer_scanner_word_n2 : Nrm := ⟨[], [], [zK, zA, zA, zA, zA, zK, zA, zA, zA, zA, zA, zA, zA, zA, zA, zA, zA, zA, zA, zA, zA, zA, zA, zA, zA, zA, zA, zA, zA, zA, zA, zA, zA, zA, zA, zA, zA, zA, zA, zA, zA, zA, zA, zA, zA, zA, zA, zA, zA, zA, zA, zA, zA, zA, zA, zA, zA, zA, zA, zA, zA, zA, zA, zA, zA, zA, zA, zA, zA, zA, zA, zA, zA, zA, zA, zA, zA, zA, zA, zA, zA, zA, zA, zA, zA, zA, zA, zA, zA, zA, zA, zA, zA, zA, zA, zA, zA, zA], [oC [zK, zK, zK, zK, zK], oK, oK, oK], none⟩
noncomputable def lexer_scanner_word_os : OL ((Str × (Int × Unit)) × ((List (Str × Bool)) × ((List (Str × Bool)) × ((List (Str × Bool)) × Unit)))) := (olC (ogC (alT tyS (alT (tyI .i64) (alM 1 (alM 2 (alM 3 alN)))))) (olC ogM (olC ogM (olC ogM olN))))
noncomputable def lexer_scanner_word_o1 : OL ((Str × (Int × Unit)) × ((List (Str × Bool)) × ((List (Str × Bool)) × ((List (Str × Bool)) × Unit)))) := (olC (ogC (alT tyS (alT (tyI .i64) (alM 1 (alM 2 (alM 3 alN)))))) (olC ogM (olC ogM (olC ogM olN))))
noncomputable def lexer_scanner_word_rs : AL (Int × (Int × (Int × Unit))) := (alT (tyI .i64) (alT (tyI .i64) (alT (tyI .i64) alN)))
noncomputable def lexer_scanner_word_m (n : Nat) : Mach (((Str × (Int × Unit)) × ((List (Str × Bool)) × ((List (Str × Bool)) × ((List (Str × Bool)) × Unit)))) × (Int × (Int × (Int × Unit)))) where
  body := (Tryd.f24.body).getD .skip
  P := Tryd.prog
  cl := tabA [(28, ent1 (tyI .u8) (tyI .i64) (lexer_class n)), (31, ent1 (tyI .u8) tyB (lexer_inWord n))]
  cd := tabD []
  nrm := tabN [([0, 0, 0, 0, 0, 0, 1, 1], lexer_scanner_word_n1), ([0, 0, 1, 1], lexer_scanner_word_n2)]
  cut := tabF []
  n := n
  out := outS Tryd.prog [.tmp 2, .tmp 3, .tmp 4] [] [0, 1, 2, 3] 4 lexer_scanner_word_o1 lexer_scanner_word_rs
  isE := tabI []
theorem lexer_scanner_word_f (n : Nat) : (lexer_scanner_word_m n).P = Tryd.prog ∧ (lexer_scanner_word_m n).cl = tabA [(28, ent1 (tyI .u8) (tyI .i64) (lexer_class n)), (31, ent1 (tyI .u8) tyB (lexer_inWord n))] ∧ (lexer_scanner_word_m n).cd = tabD [] ∧ (lexer_scanner_word_m n).nrm = tabN [([0, 0, 0, 0, 0, 0, 1, 1], lexer_scanner_word_n1), ([0, 0, 1, 1], lexer_scanner_word_n2)] ∧ (lexer_scanner_word_m n).cut = tabF [] ∧ (lexer_scanner_word_m n).n = n ∧ (lexer_scanner_word_m n).out = outS Tryd.prog [.tmp 2, .tmp 3, .tmp 4] [] [0, 1, 2, 3] 4 lexer_scanner_word_o1 lexer_scanner_word_rs ∧ (lexer_scanner_word_m n).isE = tabI [] := ⟨rfl, rfl, rfl, rfl, rfl, rfl, rfl, rfl⟩
theorem lexer_scanner_word_c (n : Nat) : (lexer_scanner_word_m n).body = (Tryd.f24.body).getD .skip := rfl
theorem lexer_scanner_word_d (n : Nat) : drawP (lexer_scanner_word_m n) [0, 0, 1, 0, 0, 1, 1, 1, 1] = true ∧ drawP (lexer_scanner_word_m n) [0, 1, 1, 1] = true := ⟨by kernel_rfl, by kernel_rfl⟩
noncomputable def lexer_scanner_word_b1 (n : Nat) : { B : (Int → Str → Int → (List (Str × Bool)) → (List (Str × Bool)) → (List (Str × Bool)) → Option (((Str × (Int × Unit)) × ((List (Str × Bool)) × ((List (Str × Bool)) × ((List (Str × Bool)) × Unit)))) × (Int × (Int × (Int × Unit))))) → (Int → Str → Int → (List (Str × Bool)) → (List (Str × Bool)) → (List (Str × Bool)) → Option (((Str × (Int × Unit)) × ((List (Str × Bool)) × ((List (Str × Bool)) × ((List (Str × Bool)) × Unit)))) × (Int × (Int × (Int × Unit))))) → Int → Str → Int → (List (Str × Bool)) → (List (Str × Bool)) → (List (Str × Bool)) → Option (((Str × (Int × Unit)) × ((List (Str × Bool)) × ((List (Str × Bool)) × ((List (Str × Bool)) × Unit)))) × (Int × (Int × (Int × Unit)))) // ∀ m2 X2 m X0, (∀ (v0 : Int) (v1 : Str) (v2 : Int) (r1 : List (Str × Bool)) (r2 : List (Str × Bool)) (r3 : List (Str × Bool)), run (lexer_scanner_word_m n) [.lq m2 [0, 0, 1, 1], .blk 0, .cut [1, 1, 1], .at [1, 1, 1]] ⟨[.ptr 0 0, .any, .any, .any, .any, .int .i64 v0, .any, .any, .any, .any, .any, .any, .any, .any, .any, .any, .any, .any, .any, .any, .any, .any, .any, .any, .any, .any, .any, .any, .any, .any, .any, .any, .any, .any, .any, .any, .any, .any, .any, .any, .any, .any, .any, .any, .any, .any, .any, .any, .any, .any, .any, .any, .any, .any, .any, .any, .any, .any, .any, .any, .any, .any, .any, .any, .any, .any, .any, .any, .any, .any, .any, .any, .any, .any, .any, .any, .any, .any, .any, .any, .any, .any, .any, .any, .any, .any, .any, .any, .any, .any, .any, .any, .any, .any, .any, .any, .any, .any], [.cells [.str (sb v1), .int .i64 v2, .map 1, .map 2, .map 3], .map (mp mcB r1), .map (mp mcB r2), .map (mp mcB r3)], 4⟩ = X2 v0 v1 v2 r1 r2 r3) → (∀ (v0 : Int) (v1 : Str) (v2 : Int) (r1 : List (Str × Bool)) (r2 : List (Str × Bool)) (r3 : List (Str × Bool)), run (lexer_scanner_word_m n) [.lq m [0, 0, 0, 0, 0, 0, 1, 1], .blk 2, .cut [1, 0, 0, 0, 0, 1, 1], .at [1, 0, 0, 0, 0, 1, 1], .blk 1, .lp m2 [0, 0, 1, 1], .blk 0, .cut [1, 1, 1], .at [1, 1, 1]] ⟨[.ptr 0 0, .any, .any, .any, .any, .int .i64 v0, .any, .any, .any, .any, .any, .any, .any, .any, .any, .any, .any, .any, .any, .any, .any, .any, .any, .any, .any, .any, .any, .any, .any, .any, .any, .any, .any, .any, .any, .any, .any, .any, .any, .any, .any, .any, .any, .any, .any, .any, .any, .any, .any, .any, .any, .any, .any, .any, .any, .any, .any, .any, .any, .any, .any, .any, .any, .any, .any, .any, .any, .any, .any, .any, .any, .any, .any, .any, .any, .any, .any, .any, .any, .any, .any, .any, .any, .any, .any, .any, .any, .any, .any, .any, .any, .any, .any, .any, .any, .any, .any, .any], [.cells [.str (sb v1), .int .i64 v2, .map 1, .map 2, .map 3], .map (mp mcB r1), .map (mp mcB r2), .map (mp mcB r3)], 4⟩ = X0 v0 v1 v2 r1 r2 r3) → ∀ (v0 : Int) (v1 : Str) (v2 : Int) (r1 : List (Str × Bool)) (r2 : List (Str × Bool)) (r3 : List (Str × Bool)), run (lexer_scanner_word_m n) [.at [0, 0, 0, 0, 0, 0, 0, 1, 1], .lp m [0, 0, 0, 0, 0, 0, 1, 1], .blk 2, .cut [1, 0, 0, 0, 0, 1, 1], .at [1, 0, 0, 0, 0, 1, 1], .blk 1, .lp m2 [0, 0, 1, 1], .blk 0, .cut [1, 1, 1], .at [1, 1, 1]] ⟨[.ptr 0 0, .any, .any, .any, .any, .int .i64 v0, .any, .any, .any, .any, .any, .any, .any, .any, .any, .any, .any, .any, .any, .any, .any, .any, .any, .any, .any, .any, .any, .any, .any, .any, .any, .any, .any, .any, .any, .any, .any, .any, .any, .any, .any, .any, .any, .any, .any, .any, .any, .any, .any, .any, .any, .any, .any, .any, .any, .any, .any, .any, .any, .any, .any, .any, .any, .any, .any, .any, .any, .any, .any, .any, .any, .any, .any, .any, .any, .any, .any, .any, .any, .any, .any, .any, .any, .any, .any, .any, .any, .any, .any, .any, .any, .any, .any, .any, .any, .any, .any, .any], [.cells [.str (sb v1), .int .i64 v2, .map 1, .map 2, .map 3], .map (mp mcB r1), .map (mp mcB r2), .map (mp mcB r3)], 4⟩ = B X2 X0 v0 v1 v2 r1 r2 r3 } := by
  apply Subtype.mk
  intro m2 X2 m X0 h2 ih v0 v1 v2 r1 r2 r3
  simp (config := { maxSteps := 100000000 }) only [go_sem, Nat.reduceAdd, Nat.reduceSub, Nat.reduceLeDiff, Nat.reduceEqDiff, Nat.reduceBEq, Nat.reduceMul, Nat.reduceLT, Int.reduceLE, Int.reduceLT, Int.reduceToNat, Int.reduceBEq, Int.reduceEq, lexer_scanner_word_f, lexer_scanner_word_c, Tryd.f24, Option.getD_some, mixed, lexer_scanner_word_os, lexer_scanner_word_o1, lexer_scanner_word_rs, lexer_scanner_word_d, lexer_scanner_word_n1, lexer_scanner_word_n2, h2, ih]
  exact rfl
noncomputable def lexer_scanner_word_l1 (n : Nat) (X2 : Int → Str → Int → (List (Str × Bool)) → (List (Str × Bool)) → (List (Str × Bool)) → Option (((Str × (Int × Unit)) × ((List (Str × Bool)) × ((List (Str × Bool)) × ((List (Str × Bool)) × Unit)))) × (Int × (Int × (Int × Unit))))) : Nat → Int → Str → Int → (List (Str × Bool)) → (List (Str × Bool)) → (List (Str × Bool)) → Option (((Str × (Int × Unit)) × ((List (Str × Bool)) × ((List (Str × Bool)) × ((List (Str × Bool)) × Unit)))) × (Int × (Int × (Int × Unit))))
  | 0, _, _, _, _, _, _ => none
  | m + 1, v0, v1, v2, r1, r2, r3 => (lexer_scanner_word_b1 n).1 X2 (lexer_scanner_word_l1 n X2 m) v0 v1 v2 r1 r2 r3
theorem lexer_scanner_word_l1_eq (n : Nat) (m2 : Nat) (X2 : Int → Str → Int → (List (Str × Bool)) → (List (Str × Bool)) → (List (Str × Bool)) → Option (((Str × (Int × Unit)) × ((List (Str × Bool)) × ((List (Str × Bool)) × ((List (Str × Bool)) × Unit)))) × (Int × (Int × (Int × Unit))))) (h2 : (∀ (v0 : Int) (v1 : Str) (v2 : Int) (r1 : List (Str × Bool)) (r2 : List (Str × Bool)) (r3 : List (Str × Bool)), run (lexer_scanner_word_m n) [.lq m2 [0, 0, 1, 1], .blk 0, .cut [1, 1, 1], .at [1, 1, 1]] ⟨[.ptr 0 0, .any, .any, .any, .any, .int .i64 v0, .any, .any, .any, .any, .any, .any, .any, .any, .any, .any, .any, .any, .any, .any, .any, .any, .any, .any, .any, .any, .any, .any, .any, .any, .any, .any, .any, .any, .any, .any, .any, .any, .any, .any, .any, .any, .any, .any, .any, .any, .any, .any, .any, .any, .any, .any, .any, .any, .any, .any, .any, .any, .any, .any, .any, .any, .any, .any, .any, .any, .any, .any, .any, .any, .any, .any, .any, .any, .any, .any, .any, .any, .any, .any, .any, .any, .any, .any, .any, .any, .any, .any, .any, .any, .any, .any, .any, .any, .any, .any, .any, .any], [.cells [.str (sb v1), .int .i64 v2, .map 1, .map 2, .map 3], .map (mp mcB r1), .map (mp mcB r2), .map (mp mcB r3)], 4⟩ = X2 v0 v1 v2 r1 r2 r3)) : ∀ (m : Nat), (∀ (v0 : Int) (v1 : Str) (v2 : Int) (r1 : List (Str × Bool)) (r2 : List (Str × Bool)) (r3 : List (Str × Bool)), run (lexer_scanner_word_m n) [.lq m [0, 0, 0, 0, 0, 0, 1, 1], .blk 2, .cut [1, 0, 0, 0, 0, 1, 1], .at [1, 0, 0, 0, 0, 1, 1], .blk 1, .lp m2 [0, 0, 1, 1], .blk 0, .cut [1, 1, 1], .at [1, 1, 1]] ⟨[.ptr 0 0, .any, .any, .any, .any, .int .i64 v0, .any, .any, .any, .any, .any, .any, .any, .any, .any, .any, .any, .any, .any, .any, .any, .any, .any, .any, .any, .any, .any, .any, .any, .any, .any, .any, .any, .any, .any, .any, .any, .any, .any, .any, .any, .any, .any, .any, .any, .any, .any, .any, .any, .any, .any, .any, .any, .any, .any, .any, .any, .any, .any, .any, .any, .any, .any, .any, .any, .any, .any, .any, .any, .any, .any, .any, .any, .any, .any, .any, .any, .any, .any, .any, .any, .any, .any, .any, .any, .any, .any, .any, .any, .any, .any, .any, .any, .any, .any, .any, .any, .any], [.cells [.str (sb v1), .int .i64 v2, .map 1, .map 2, .map 3], .map (mp mcB r1), .map (mp mcB r2), .map (mp mcB r3)], 4⟩ = lexer_scanner_word_l1 n X2 m v0 v1 v2 r1 r2 r3)
  | 0 => by intros; exact run_lq_zero
  | m + 1 => by
    have ih := lexer_scanner_word_l1_eq n m2 X2 h2 m
    intro v0 v1 v2 r1 r2 r3
    rw [run_lq_succ]
    exact (lexer_scanner_word_b1 n).2 m2 X2 m _ h2 ih v0 v1 v2 r1 r2 r3
noncomputable def lexer_scanner_word_b2 (n : Nat) : { B : (Int → Str → Int → (List (Str × Bool)) → (List (Str × Bool)) → (List (Str × Bool)) → Option (((Str × (Int × Unit)) × ((List (Str × Bool)) × ((List (Str × Bool)) × ((List (Str × Bool)) × Unit)))) × (Int × (Int × (Int × Unit))))) → Int → Str → Int → (List (Str × Bool)) → (List (Str × Bool)) → (List (Str × Bool)) → Option (((Str × (Int × Unit)) × ((List (Str × Bool)) × ((List (Str × Bool)) × ((List (Str × Bool)) × Unit)))) × (Int × (Int × (Int × Unit)))) // ∀ m X0, (∀ (v0 : Int) (v1 : Str) (v2 : Int) (r1 : List (Str × Bool)) (r2 : List (Str × Bool)) (r3 : List (Str × Bool)), run (lexer_scanner_word_m n) [.lq m [0, 0, 1, 1], .blk 0, .cut [1, 1, 1], .at [1, 1, 1]] ⟨[.ptr 0 0, .any, .any, .any, .any, .int .i64 v0, .any, .any, .any, .any, .any, .any, .any, .any, .any, .any, .any, .any, .any, .any, .any, .any, .any, .any, .any, .any, .any, .any, .any, .any, .any, .any, .any, .any, .any, .any, .any, .any, .any, .any, .any, .any, .any, .any, .any, .any, .any, .any, .any, .any, .any, .any, .any, .any, .any, .any, .any, .any, .any, .any, .any, .any, .any, .any, .any, .any, .any, .any, .any, .any, .any, .any, .any, .any, .any, .any, .any, .any, .any, .any, .any, .any, .any, .any, .any, .any, .any, .any, .any, .any, .any, .any, .any, .any, .any, .any, .any, .any], [.cells [.str (sb v1), .int .i64 v2, .map 1, .map 2, .map 3], .map (mp mcB r1), .map (mp mcB r2), .map (mp mcB r3)], 4⟩ = X0 v0 v1 v2 r1 r2 r3) → ∀ (v0 : Int) (v1 : Str) (v2 : Int) (r1 : List (Str × Bool)) (r2 : List (Str × Bool)) (r3 : List (Str × Bool)), run (lexer_scanner_word_m n) [.at [0, 0, 0, 1, 1], .lp m [0, 0, 1, 1], .blk 0, .cut [1, 1, 1], .at [1, 1, 1]] ⟨[.ptr 0 0, .any, .any, .any, .any, .int .i64 v0, .any, .any, .any, .any, .any, .any, .any, .any, .any, .any, .any, .any, .any, .any, .any, .any, .any, .any, .any, .any, .any, .any, .any, .any, .any, .any, .any, .any, .any, .any, .any, .any, .any, .any, .any, .any, .any, .any, .any, .any, .any, .any, .any, .any, .any, .any, .any, .any, .any, .any, .any, .any, .any, .any, .any, .any, .any, .any, .any, .any, .any, .any, .any, .any, .any, .any, .any, .any, .any, .any, .any, .any, .any, .any, .any, .any, .any, .any, .any, .any, .any, .any, .any, .any, .any, .any, .any, .any, .any, .any, .any, .any], [.cells [.str (sb v1), .int .i64 v2, .map 1, .map 2, .map 3], .map (mp mcB r1), .map (mp mcB r2), .map (mp mcB r3)], 4⟩ = B X0 v0 v1 v2 r1 r2 r3 } := by
  apply Subtype.mk
  intro m X0 ih v0 v1 v2 r1 r2 r3
  simp (config := { maxSteps := 100000000 }) only [go_sem, Nat.reduceAdd, Nat.reduceSub, Nat.reduceLeDiff, Nat.reduceEqDiff, Nat.reduceBEq, Nat.reduceMul, Nat.reduceLT, Int.reduceLE, Int.reduceLT, Int.reduceToNat, Int.reduceBEq, Int.reduceEq, lexer_scanner_word_f, lexer_scanner_word_c, Tryd.f24, Option.getD_some, mixed, lexer_scanner_word_os, lexer_scanner_word_o1, lexer_scanner_word_rs, lexer_scanner_word_d, lexer_scanner_word_n1, lexer_scanner_word_n2, lexer_scanner_word_l1_eq n m X0 ih, ih]
  exact rfl
noncomputable def lexer_scanner_word_l2 (n : Nat) : Nat → Int → Str → Int → (List (Str × Bool)) → (List (Str × Bool)) → (List (Str × Bool)) → Option (((Str × (Int × Unit)) × ((List (Str × Bool)) × ((List (Str × Bool)) × ((List (Str × Bool)) × Unit)))) × (Int × (Int × (Int × Unit))))
  | 0, _, _, _, _, _, _ => none
  | m + 1, v0, v1, v2, r1, r2, r3 => (lexer_scanner_word_b2 n).1 (lexer_scanner_word_l2 n m) v0 v1 v2 r1 r2 r3
theorem lexer_scanner_word_l2_eq (n : Nat) : ∀ (m : Nat), (∀ (v0 : Int) (v1 : Str) (v2 : Int) (r1 : List (Str × Bool)) (r2 : List (Str × Bool)) (r3 : List (Str × Bool)), run (lexer_scanner_word_m n) [.lq m [0, 0, 1, 1], .blk 0, .cut [1, 1, 1], .at [1, 1, 1]] ⟨[.ptr 0 0, .any, .any, .any, .any, .int .i64 v0, .any, .any, .any, .any, .any, .any, .any, .any, .any, .any, .any, .any, .any, .any, .any, .any, .any, .any, .any, .any, .any, .any, .any, .any, .any, .any, .any, .any, .any, .any, .any, .any, .any, .any, .any, .any, .any, .any, .any, .any, .any, .any, .any, .any, .any, .any, .any, .any, .any, .any, .any, .any, .any, .any, .any, .any, .any, .any, .any, .any, .any, .any, .any, .any, .any, .any, .any, .any, .any, .any, .any, .any, .any, .any, .any, .any, .any, .any, .any, .any, .any, .any, .any, .any, .any, .any, .any, .any, .any, .any, .any, .any], [.cells [.str (sb v1), .int .i64 v2, .map 1, .map 2, .map 3], .map (mp mcB r1), .map (mp mcB r2), .map (mp mcB r3)], 4⟩ = lexer_scanner_word_l2 n m v0 v1 v2 r1 r2 r3)
  | 0 => by intros; exact run_lq_zero
  | m + 1 => by
    have ih := lexer_scanner_word_l2_eq n m
    intro v0 v1 v2 r1 r2 r3
    rw [run_lq_succ]
    exact (lexer_scanner_word_b2 n).2  m _  ih v0 v1 v2 r1 r2 r3
noncomputable def lexer_scanner_word_e (n : Nat) : { B : Str → Int → (List (Str × Bool)) → (List (Str × Bool)) → (List (Str × Bool)) → Option (((Str × (Int × Unit)) × ((List (Str × Bool)) × ((List (Str × Bool)) × ((List (Str × Bool)) × Unit)))) × (Int × (Int × (Int × Unit)))) // ∀ (o0 : Str) (o1 : Int) (o2 : (List (Str × Bool))) (o3 : (List (Str × Bool))) (o4 : (List (Str × Bool))), run (lexer_scanner_word_m n) [.at []] { slots := ((alP 0 alN).enc (lexer_scanner_word_os.lens ((o0, o1, ()), o2, o3, o4, ())) ()) ++ List.replicate (98 - ((alP 0 alN).enc (lexer_scanner_word_os.lens ((o0, o1, ()), o2, o3, o4, ())) ()).length) .any, heap := (lexer_scanner_word_os.enc (lexer_scanner_word_os.lens ((o0, o1, ()), o2, o3, o4, ())) ((o0, o1, ()), o2, o3, o4, ())), low := (lexer_scanner_word_os.enc (lexer_scanner_word_os.lens ((o0, o1, ()), o2, o3, o4, ())) ((o0, o1, ()), o2, o3, o4, ())).length } = B o0 o1 o2 o3 o4 } := by
  apply Subtype.mk
  intro o0 o1 o2 o3 o4
  simp (config := { maxSteps := 100000000 }) only [go_sem, Nat.reduceAdd, Nat.reduceSub, Nat.reduceLeDiff, Nat.reduceEqDiff, Nat.reduceBEq, Nat.reduceMul, Nat.reduceLT, Int.reduceLE, Int.reduceLT, Int.reduceToNat, Int.reduceBEq, Int.reduceEq, lexer_scanner_word_f, lexer_scanner_word_c, Tryd.f24, Option.getD_some, mixed, lexer_scanner_word_os, lexer_scanner_word_o1, lexer_scanner_word_rs, lexer_scanner_word_d, lexer_scanner_word_n1, lexer_scanner_word_n2, lexer_scanner_word_l2_eq n]
  exact rfl
noncomputable def lexer_scanner_word : Nat → Str → Int → (List (Str × Bool)) → (List (Str × Bool)) → (List (Str × Bool)) → Option (((Str × (Int × Unit)) × ((List (Str × Bool)) × ((List (Str × Bool)) × ((List (Str × Bool)) × Unit)))) × (Int × (Int × (Int × Unit))))
  | 0, _, _, _, _, _ => none
  | n + 1, o0, o1, o2, o3, o4 => (lexer_scanner_word_e n).1 o0 o1 o2 o3 o4
theorem lexer_scanner_word_ok : ∀ (n : Nat) (o0 : Str) (o1 : Int) (o2 : (List (Str × Bool))) (o3 : (List (Str × Bool))) (o4 : (List (Str × Bool))) (r : (((Str × (Int × Unit)) × ((List (Str × Bool)) × ((List (Str × Bool)) × ((List (Str × Bool)) × Unit)))) × (Int × (Int × (Int × Unit))))), lexer_scanner_word n o0 o1 o2 o3 o4 = some r → FnG Tryd.prog 24 ((alP 0 alN).enc (lexer_scanner_word_os.lens ((o0, o1, ()), o2, o3, o4, ())) ()) (lexer_scanner_word_os.enc (lexer_scanner_word_os.lens ((o0, o1, ()), o2, o3, o4, ())) ((o0, o1, ()), o2, o3, o4, ())) (fun o H' => o = .ret (tupOf (lexer_scanner_word_rs.enc (lexer_scanner_word_o1.lens r.1) r.2)) ∧ H' = lexer_scanner_word_o1.enc (lexer_scanner_word_o1.lens r.1) r.1)
  | 0, _, _, _, _, _, _, h => by cases h
  | n + 1, o0, o1, o2, o3, o4, r, h => by
    exact fnG_run (M := lexer_scanner_word_m n) ⟨(tabA_cons_ok (ent1_ok (lexer_class_ok n)) (tabA_cons_ok (ent1_ok (lexer_inWord_ok n)) tabA_nil_ok)), tabD_nil_ok, tabN_ok _, tabF_ok _, noY_ok, noE_ok⟩ Tryd.func24 rfl rfl (nbL_le (Nat.le_trans (of_decide_eq_true (by kernel_rfl)) (Nat.le_of_eq (lexer_scanner_word_os.sz _ _).symm)) _ ((alP 0 alN).nb _ _)) (fun x hx => objNb_le' (Nat.le_trans (of_decide_eq_true (by kernel_rfl)) (Nat.le_of_eq (lexer_scanner_word_os.sz _ _).symm)) _ (lexer_scanner_word_os.nb _ _ x hx)) Tryd.ntmps24 Tryd.results24 (fun σ hs => outS_ok (P := Tryd.prog) (rs := [.tmp 2, .tmp 3, .tmp 4]) (pos := []) (base := [0, 1, 2, 3]) (low := 4) (os := lexer_scanner_word_o1) (s := lexer_scanner_word_rs) (σ := σ) (r := r) (by rfl) hs) (((lexer_scanner_word_e n).2 o0 o1 o2 o3 o4).trans h)

noncomputable def lexer_scanner_number_n1 : Nrm := ⟨[], [], [zK, zA, zA, zA, zA, zK, zA, zA, zA, zA, zA, zA, zA, zA, zA, zA, zA, zA, zA, zA, zA, zA, zA, zA, zA, zA, zA, zA, zA, zA, zA, zA, zA, zA, zA, zA, zA, zA, zA, zA, zA, zA, zA, zA, zA, zA, zA, zA, zA, zA, zA, zA, zA, zA, zA, zA, zA, zA, zA, zA, zA, zA, zA, zA, zA, zA, zA, zA, zA, zA, zA, zA, zA, zA, zA, zA, zA, zA, zA, zA, zA, zA, zA, zA], [oC [zK, zK, zK, zK, zK], oK, oK, oK], none⟩
noncomputable def lexer_scanner_number_os : OL ((Str × (Int × Unit)) × ((List (Str × Bool)) × ((List (Str × Bool)) × ((List (Str × Bool)) × Unit)))) := (olC (ogC (alT tyS (alT (tyI .i64) (alM 1 (alM 2 (alM 3 alN)))))) (olC ogM (olC ogM (olC ogM olN))))
noncomputable def lexer_scanner_number_o1 : OL ((Str × (Int × Unit)) × ((List (Str × Bool)) × ((List (Str × Bool)) × ((List (Str × Bool)) × Unit)))) := (olC (ogC (alT tyS (alT (tyI .i64) (alM 1 (alM 2 (alM 3 alN)))))) (olC ogM (olC ogM (olC ogM olN))))
noncomputable def lexer_scanner_number_rs : AL (Int × (Int × (Int × Unit))) := (alT (tyI .i64) (alT (tyI .i64) (alT (tyI .i64) alN)))
noncomputable def lexer_scanner_number_m (n : Nat) : Mach (((Str × (Int × Unit)) × ((List (Str × Bool)) × ((List (Str × Bool)) × ((List (Str × Bool)) × Unit)))) × (Int × (Int × (Int × Unit)))) where
  body := (Tryd.f25.body).getD .skip
  P := Tryd.prog
  cl := tabA [(28, ent1 (tyI .u8) (tyI .i64) (lexer_class n)), (31, ent1 (tyI .u8) tyB (lexer_inWord n))]
  cd := tabD []
  nrm := tabN [([0, 0, 1, 1], lexer_scanner_number_n1)]
  cut := tabF []
  n := n
  out := outS Tryd.prog [.tmp 2, .tmp 3, .tmp 4] [] [0, 1, 2, 3] 4 lexer_scanner_number_o1 lexer_scanner_number_rs
  isE := tabI []
theorem lexer_scanner_number_f (n : Nat) : (lexer_scanner_number_m n).P = Tryd.prog ∧ (lexer_scanner_number_m n).cl = tabA [(28, ent1 (tyI .u8) (tyI .i64) (lexer_class n)), (31, ent1 (tyI .u8) tyB (lexer_inWord n))] ∧ (lexer_scanner_number_m n).cd = tabD [] ∧ (lexer_scanner_number_m n).nrm = tabN [([0, 0, 1, 1], lexer_scanner_number_n1)] ∧ (lexer_scanner_number_m n).cut = tabF [] ∧ (lexer_scanner_number_m n).n = n ∧ (lexer_scanner_number_m n).out = outS Tryd.prog [.tmp 2, .tmp 3, .tmp 4] [] [0, 1, 2, 3] 4 lexer_scanner_number_o1 lexer_scanner_number_rs ∧ (lexer_scanner_number_m n).isE = tabI [] := ⟨rfl, rfl, rfl, rfl, rfl, rfl, rfl, rfl⟩
theorem lexer_scanner_number_c (n : Nat) : (lexer_scanner_number_m n).body = (Tryd.f25.body).getD .skip := rfl
theorem lexer_scanner_number_d (n : Nat) : drawP (lexer_scanner_number_m n) [0, 0, 1, 0, 0, 1, 1, 1] = true ∧ drawP (lexer_scanner_number_m n) [0, 0, 1, 1, 1, 0, 0, 1, 1, 1] = true ∧ drawP (lexer_scanner_number_m n) [0, 1, 1, 0, 0, 1, 1, 1] = true := ⟨by kernel_rfl, by kernel_rfl, by kernel_rfl⟩
noncomputable def lexer_scanner_number_b1 (n : Nat) : { B : (Int → Str → Int → (List (Str × Bool)) → (List (Str × Bool)) → (List (Str × Bool)) → Option (((Str × (Int × Unit)) × ((List (Str × Bool)) × ((List (Str × Bool)) × ((List (Str × Bool)) × Unit)))) × (Int × (Int × (Int × Unit))))) → Int → Str → Int → (List (Str × Bool)) → (List (Str × Bool)) → (List (Str × Bool)) → Option (((Str × (Int × Unit)) × ((List (Str × Bool)) × ((List (Str × Bool)) × ((List (Str × Bool)) × Unit)))) × (Int × (Int × (Int × Unit)))) // ∀ m X0, (∀ (v0 : Int) (v1 : Str) (v2 : Int) (r1 : List (Str × Bool)) (r2 : List (Str × Bool)) (r3 : List (Str × Bool)), run (lexer_scanner_number_m n) [.lq m [0, 0, 1, 1], .blk 0, .cut [1, 1, 1], .at [1, 1, 1]] ⟨[.ptr 0 0, .any, .any, .any, .any, .int .i64 v0, .any, .any, .any, .any, .any, .any, .any, .any, .any, .any, .any, .any, .any, .any, .any, .any, .any, .any, .any, .any, .any, .any, .any, .any, .any, .any, .any, .any, .any, .any, .any, .any, .any, .any, .any, .any, .any, .any, .any, .any, .any, .any, .any, .any, .any, .any, .any, .any, .any, .any, .any, .any, .any, .any, .any, .any, .any, .any, .any, .any, .any, .any, .any, .any, .any, .any, .any, .any, .any, .any, .any, .any, .any, .any, .any, .any, .any, .any], [.cells [.str (sb v1), .int .i64 v2, .map 1, .map 2, .map 3], .map (mp mcB r1), .map (mp mcB r2), .map (mp mcB r3)], 4⟩ = X0 v0 v1 v2 r1 r2 r3) → ∀ (v0 : Int) (v1 : Str) (v2 : Int) (r1 : List (Str × Bool)) (r2 : List (Str × Bool)) (r3 : List (Str × Bool)), run (lexer_scanner_number_m n) [.at [0, 0, 0, 1, 1], .lp m [0, 0, 1, 1], .blk 0, .cut [1, 1, 1], .at [1, 1, 1]] ⟨[.ptr 0 0, .any, .any, .any, .any, .int .i64 v0, .any, .any, .any, .any, .any, .any, .any, .any, .any, .any, .any, .any, .any, .any, .any, .any, .any, .any, .any, .any, .any, .any, .any, .any, .any, .any, .any, .any, .any, .any, .any, .any, .any, .any, .any, .any, .any, .any, .any, .any, .any, .any, .any, .any, .any, .any, .any, .any, .any, .any, .any, .any, .any, .any, .any, .any, .any, .any, .any, .any, .any, .any, .any, .any, .any, .any, .any, .any, .any, .any, .any, .any, .any, .any, .any, .any, .any, .any], [.cells [.str (sb v1), .int .i64 v2, .map 1, .map 2, .map 3], .map (mp mcB r1), .map (mp mcB r2), .map (mp mcB r3)], 4⟩ = B X0 v0 v1 v2 r1 r2 r3 } := by
  apply Subtype.mk
  intro m X0 ih v0 v1 v2 r1 r2 r3
  simp (config := { maxSteps := 100000000 }) only [go_sem, Nat.reduceAdd, Nat.reduceSub, Nat.reduceLeDiff, Nat.reduceEqDiff, Nat.reduceBEq, Nat.reduceMul, Nat.reduceLT, Int.reduceLE, Int.reduceLT, Int.reduceToNat, Int.reduceBEq, Int.reduceEq, lexer_scanner_number_f, lexer_scanner_number_c, Tryd.f25, Option.getD_some, mixed, lexer_scanner_number_os, lexer_scanner_number_o1, lexer_scanner_number_rs, lexer_scanner_number_d, lexer_scanner_number_n1, ih]
  exact rfl
noncomputable def lexer_scanner_number_l1 (n : Nat) : Nat → Int → Str → Int → (List (Str × Bool)) → (List (Str × Bool)) → (List (Str × Bool)) → Option (((Str × (Int × Unit)) × ((List (Str × Bool)) × ((List (Str × Bool)) × ((List (Str × Bool)) × Unit)))) × (Int × (Int × (Int × Unit))))
  | 0, _, _, _, _, _, _ => none
  | m + 1, v0, v1, v2, r1, r2, r3 => (lexer_scanner_number_b1 n).1 (lexer_scanner_number_l1 n m) v0 v1 v2 r1 r2 r3
theorem lexer_scanner_number_l1_eq (n : Nat) : ∀ (m : Nat), (∀ (v0 : Int) (v1 : Str) (v2 : Int) (r1 : List (Str × Bool)) (r2 : List (Str × Bool)) (r3 : List (Str × Bool)), run (lexer_scanner_number_m n) [.lq m [0, 0, 1, 1], .blk 0, .cut [1, 1, 1], .at [1, 1, 1]] ⟨[.ptr 0 0, .any, .any, .any, .any, .int .i64 v0, .any, .any, .any, .any, .any, .any, .any, .any, .any, .any, .any, .any, .any, .any, .any, .any, .any, .any, .any, .any, .any, .any, .any, .any, .any, .any, .any, .any, .any, .any, .any, .any, .any, .any, .any, .any, .any, .any, .any, .any, .any, .any, .any, .any, .any, .any, .any, .any, .any, .any, .any, .any, .any, .any, .any, .any, .any, .any, .any, .any, .any, .any, .any, .any, .any, .any, .any, .any, .any, .any, .any, .any, .any, .any, .any, .any, .any, .any], [.cells [.str (sb v1), .int .i64 v2, .map 1, .map 2, .map 3], .map (mp mcB r1), .map (mp mcB r2), .map (mp mcB r3)], 4⟩ = lexer_scanner_number_l1 n m v0 v1 v2 r1 r2 r3)
  | 0 => by intros; exact run_lq_zero
  | m + 1 => by
    have ih := lexer_scanner_number_l1_eq n m
    intro v0 v1 v2 r1 r2 r3
    rw [run_lq_succ]
    exact (lexer_scanner_number_b1 n).2  m _  ih v0 v1 v2 r1 r2 r3
noncomputable def lexer_scanner_number_e (n : Nat) : { B : Str → Int → (List (Str × Bool)) → (List (Str × Bool)) → (List (Str × Bool)) → Option (((Str × (Int × Unit)) × ((List (Str × Bool)) × ((List (Str × Bool)) × ((List (Str × Bool)) × Unit)))) × (Int × (Int × (Int × Unit)))) // ∀ (o0 : Str) (o1 : Int) (o2 : (List (Str × Bool))) (o3 : (List (Str × Bool))) (o4 : (List (Str × Bool))), run (lexer_scanner_number_m n) [.at []] { slots := ((alP 0 alN).enc (lexer_scanner_number_os.lens ((o0, o1, ()), o2, o3, o4, ())) ()) ++ List.replicate (84 - ((alP 0 alN).enc (lexer_scanner_number_os.lens ((o0, o1, ()), o2, o3, o4, ())) ()).length) .any, heap := (lexer_scanner_number_os.enc (lexer_scanner_number_os.lens ((o0, o1, ()), o2, o3, o4, ())) ((o0, o1, ()), o2, o3, o4, ())), low := (lexer_scanner_number_os.enc (lexer_scanner_number_os.lens ((o0, o1, ()), o2, o3, o4, ())) ((o0, o1, ()), o2, o3, o4, ())).length } = B o0 o1 o2 o3 o4 } := by
  apply Subtype.mk
  intro o0 o1 o2 o3 o4
  simp (config := { maxSteps := 100000000 }) only [go_sem, Nat.reduceAdd, Nat.reduceSub, Nat.reduceLeDiff, Nat.reduceEqDiff, Nat.reduceBEq, Nat.reduceMul, Nat.reduceLT, Int.reduceLE, Int.reduceLT, Int.reduceToNat, Int.reduceBEq, Int.reduceEq, lexer_scanner_number_f, lexer_scanner_number_c, Tryd.f25, Option.getD_some, mixed, lexer_scanner_number_os, lexer_scanner_number_o1, lexer_scanner_number_rs, lexer_scanner_number_d, lexer_scanner_number_n1, lexer_scanner_number_l1_eq n]
  exact rfl
noncomputable def lexer_scanner_number : Nat → Str → Int → (List (Str × Bool)) → (List (Str × Bool)) → (List (Str × Bool)) → Option (((Str × (Int × Unit)) × ((List (Str × Bool)) × ((List (Str × Bool)) × ((List (Str × Bool)) × Unit)))) × (Int × (Int × (Int × Unit))))
  | 0, _, _, _, _, _ => none
  | n + 1, o0, o1, o2, o3, o4 => (lexer_scanner_number_e n).1 o0 o1 o2 o3 o4
theorem lexer_scanner_number_ok : ∀ (n : Nat) (o0 : Str) (o1 : Int) (o2 : (List (Str × Bool))) (o3 : (List (Str × Bool))) (o4 : (List (Str × Bool))) (r : (((Str × (Int × Unit)) × ((List (Str × Bool)) × ((List (Str × Bool)) × ((List (Str × Bool)) × Unit)))) × (Int × (Int × (Int × Unit))))), lexer_scanner_number n o0 o1 o2 o3 o4 = some r → FnG Tryd.prog 25 ((alP 0 alN).enc (lexer_scanner_number_os.lens ((o0, o1, ()), o2, o3, o4, ())) ()) (lexer_scanner_number_os.enc (lexer_scanner_number_os.lens ((o0, o1, ()), o2, o3, o4, ())) ((o0, o1, ()), o2, o3, o4, ())) (fun o H' => o = .ret (tupOf (lexer_scanner_number_rs.enc (lexer_scanner_number_o1.lens r.1) r.2)) ∧ H' = lexer_scanner_number_o1.enc (lexer_scanner_number_o1.lens r.1) r.1)
  | 0, _, _, _, _, _, _, h => by cases h
  | n + 1, o0, o1, o2, o3, o4, r, h => by
    exact fnG_run (M := lexer_scanner_number_m n) ⟨(tabA_cons_ok (ent1_ok (lexer_class_ok n)) (tabA_cons_ok (ent1_ok (lexer_inWord_ok n)) tabA_nil_ok)), tabD_nil_ok, tabN_ok _, tabF_ok _, noY_ok, noE_ok⟩ Tryd.func25 rfl rfl (nbL_le (Nat.le_trans (of_decide_eq_true (by kernel_rfl)) (Nat.le_of_eq (lexer_scanner_number_os.sz _ _).symm)) _ ((alP 0 alN).nb _ _)) (fun x hx => objNb_le' (Nat.le_trans (of_decide_eq_true (by kernel_rfl)) (Nat.le_of_eq (lexer_scanner_number_os.sz _ _).symm)) _ (lexer_scanner_number_os.nb _ _ x hx)) Tryd.ntmps25 Tryd.results25 (fun σ hs => outS_ok (P := Tryd.prog) (rs := [.tmp 2, .tmp 3, .tmp 4]) (pos := []) (base := [0, 1, 2, 3]) (low := 4) (os := lexer_scanner_number_o1) (s := lexer_scanner_number_rs) (σ := σ) (r := r) (by rfl) hs) (((lexer_scanner_number_e n).2 o0 o1 o2 o3 o4).trans h)

noncomputable def strings_IndexAny_n1 : Nrm := ⟨[], [], [zA, zK, zA, zA, zA, zA, zA, zA, zA, zA, zA, zA, zA, zA, zA, zA, zA, zA, zA, zA, zA, zA, zA, zA, zA, zA, zA, zA, zA, zA, zA, zA, zA, zA, zA, zA, zA, zA, zA, zA, zA, zA, zA, zA, zA, zK, zA, zA, zA, zA, zA, zA, zA, zA, zA], [oK], none⟩
noncomputable def strings_IndexAny_n2 : Nrm := ⟨[], [], [zK, zA, zA, zA, zA, zA, zK, zA, zK, zA, zA, zA, zA, zA, zA, zA, zA, zA, zA, zA, zA, zA, zA, zA, zA, zA, zA, zA, zA, zA, zA, zA, zA, zA, zA, zA, zA, zA, zA, zA, zA, zA, zA, zA, zA, zA, zA, zA, zA, zA, zA, zA, zA, zA, zA], [oC [zA]], none⟩
noncomputable def strings_IndexAny_m (n : Nat) : Mach Int where
  body := (Tryd.f39.body).getD .skip
  P := Tryd.prog
  cl := tabA [(53, ent2 tyS (tyI .i32) (tyI .i64) (strings_IndexRune n)), (54, ent1 (tyI .i64) tyB (strings_shouldUseASCIISet n))]
  cd := tabD []
  nrm := tabN [([0, 1, 0, 1, 1, 1, 1], strings_IndexAny_n1), ([0, 1, 0, 0, 1, 1, 0, 1, 0, 1, 1, 1], strings_IndexAny_n2)]
  cut := tabF []
  n := n
  out := outR Tryd.prog [.tmp 4] (tyI .i64)
theorem strings_IndexAny_f (n : Nat) : (strings_IndexAny_m n).P = Tryd.prog ∧ (strings_IndexAny_m n).cl = tabA [(53, ent2 tyS (tyI .i32) (tyI .i64) (strings_IndexRune n)), (54, ent1 (tyI .i64) tyB (strings_shouldUseASCIISet n))] ∧ (strings_IndexAny_m n).cd = tabD [] ∧ (strings_IndexAny_m n).nrm = tabN [([0, 1, 0, 1, 1, 1, 1], strings_IndexAny_n1), ([0, 1, 0, 0, 1, 1, 0, 1, 0, 1, 1, 1], strings_IndexAny_n2)] ∧ (strings_IndexAny_m n).cut = tabF [] ∧ (strings_IndexAny_m n).n = n ∧ (strings_IndexAny_m n).out = outR Tryd.prog [.tmp 4] (tyI .i64) := ⟨rfl, rfl, rfl, rfl, rfl, rfl, rfl⟩
theorem strings_IndexAny_c (n : Nat) : (strings_IndexAny_m n).body = (Tryd.f39.body).getD .skip := rfl
noncomputable def strings_IndexAny_b1 (n : Nat) : { B : (Str → Str → Nat → Option Int) → Str → Str → Nat → Option Int // ∀ m X0, (∀ (v0 : Str) (iv0 : Str) (ip0 : Nat), run (strings_IndexAny_m n) [.lq m [0, 1, 0, 1, 1, 1, 1], .blk 2, .cut [1, 1, 1, 1, 1], .at [1, 1, 1, 1, 1]] ⟨[.any, .str (sb v0), .any, .any, .any, .any, .any, .any, .any, .any, .any, .any, .any, .any, .any, .any, .any, .any, .any, .any, .any, .any, .any, .any, .any, .any, .any, .any, .any, .any, .any, .any, .any, .any, .any, .any, .any, .any, .any, .any, .any, .any, .any, .any, .any, .ptr 0 0, .any, .any, .any, .any, .any, .any, .any, .any, .any], [.iter (sb iv0) ip0], 0⟩ = X0 v0 iv0 ip0) → ∀ (v0 : Str) (iv0 : Str) (ip0 : Nat), run (strings_IndexAny_m n) [.at [0, 0, 1, 0, 1, 1, 1, 1], .lp m [0, 1, 0, 1, 1, 1, 1], .blk 2, .cut [1, 1, 1, 1, 1], .at [1, 1, 1, 1, 1]] ⟨[.any, .str (sb v0), .any, .any, .any, .any, .any, .any, .any, .any, .any, .any, .any, .any, .any, .any, .any, .any, .any, .any, .any, .any, .any, .any, .any, .any, .any, .any, .any, .any, .any, .any, .any, .any, .any, .any, .any, .any, .any, .any, .any, .any, .any, .any, .any, .ptr 0 0, .any, .any, .any, .any, .any, .any, .any, .any, .any], [.iter (sb iv0) ip0], 0⟩ = B X0 v0 iv0 ip0 } := by
  apply Subtype.mk
  intro m X0 ih v0 iv0 ip0
  simp (config := { maxSteps := 100000000 }) only [go_sem, Nat.reduceAdd, Nat.reduceSub, Nat.reduceLeDiff, Nat.reduceEqDiff, Nat.reduceBEq, Nat.reduceMul, Nat.reduceLT, Int.reduceLE, Int.reduceLT, Int.reduceToNat, Int.reduceBEq, Int.reduceEq, strings_IndexAny_f, strings_IndexAny_c, Tryd.f39, Option.getD_some, mixed, strings_IndexAny_n1, strings_IndexAny_n2, ih]
  exact rfl
noncomputable def strings_IndexAny_l1 (n : Nat) : Nat → Str → Str → Nat → Option Int
  | 0, _, _, _ => none
  | m + 1, v0, iv0, ip0 => (strings_IndexAny_b1 n).1 (strings_IndexAny_l1 n m) v0 iv0 ip0
theorem strings_IndexAny_l1_eq (n : Nat) : ∀ (m : Nat), (∀ (v0 : Str) (iv0 : Str) (ip0 : Nat), run (strings_IndexAny_m n) [.lq m [0, 1, 0, 1, 1, 1, 1], .blk 2, .cut [1, 1, 1, 1, 1], .at [1, 1, 1, 1, 1]] ⟨[.any, .str (sb v0), .any, .any, .any, .any, .any, .any, .any, .any, .any, .any, .any, .any, .any, .any, .any, .any, .any, .any, .any, .any, .any, .any, .any, .any, .any, .any, .any, .any, .any, .any, .any, .any, .any, .any, .any, .any, .any, .any, .any, .any, .any, .any, .any, .ptr 0 0, .any, .any, .any, .any, .any, .any, .any, .any, .any], [.iter (sb iv0) ip0], 0⟩ = strings_IndexAny_l1 n m v0 iv0 ip0)
  | 0 => by intros; exact run_lq_zero
  | m + 1 => by
    have ih := strings_IndexAny_l1_eq n m
    intro v0 iv0 ip0
    rw [run_lq_succ]
    exact (strings_IndexAny_b1 n).2  m _  ih v0 iv0 ip0
noncomputable def strings_IndexAny_b2 (n : Nat) : { B : (Str → Int → Option Int) → Str → Int → Option Int // ∀ m X0, (∀ (v0 : Str) (v1 : Int), run (strings_IndexAny_m n) [.lq m [0, 1, 0, 0, 1, 1, 0, 1, 0, 1, 1, 1], .blk 0, .cut [1, 0, 1, 1, 0, 1, 0, 1, 1, 1], .at [1, 0, 1, 1, 0, 1, 0, 1, 1, 1], .cut [1, 1, 1, 1], .at [1, 1, 1, 1]] ⟨[.str (sb v0), .any, .any, .any, .any, .any, .ptr 0 0, .any, .int .i64 v1, .any, .any, .any, .any, .any, .any, .any, .any, .any, .any, .any, .any, .any, .any, .any, .any, .any, .any, .any, .any, .any, .any, .any, .any, .any, .any, .any, .any, .any, .any, .any, .any, .any, .any, .any, .any, .any, .any, .any, .any, .any, .any, .any, .any, .any, .any], [.cells [.any]], 0⟩ = X0 v0 v1) → ∀ (v0 : Str) (v1 : Int), run (strings_IndexAny_m n) [.at [0, 0, 1, 0, 0, 1, 1, 0, 1, 0, 1, 1, 1], .lp m [0, 1, 0, 0, 1, 1, 0, 1, 0, 1, 1, 1], .blk 0, .cut [1, 0, 1, 1, 0, 1, 0, 1, 1, 1], .at [1, 0, 1, 1, 0, 1, 0, 1, 1, 1], .cut [1, 1, 1, 1], .at [1, 1, 1, 1]] ⟨[.str (sb v0), .any, .any, .any, .any, .any, .ptr 0 0, .any, .int .i64 v1, .any, .any, .any, .any, .any, .any, .any, .any, .any, .any, .any, .any, .any, .any, .any, .any, .any, .any, .any, .any, .any, .any, .any, .any, .any, .any, .any, .any, .any, .any, .any, .any, .any, .any, .any, .any, .any, .any, .any, .any, .any, .any, .any, .any, .any, .any], [.cells [.any]], 0⟩ = B X0 v0 v1 } := by
  apply Subtype.mk
  intro m X0 ih v0 v1
  simp (config := { maxSteps := 100000000 }) only [go_sem, Nat.reduceAdd, Nat.reduceSub, Nat.reduceLeDiff, Nat.reduceEqDiff, Nat.reduceBEq, Nat.reduceMul, Nat.reduceLT, Int.reduceLE, Int.reduceLT, Int.reduceToNat, Int.reduceBEq, Int.reduceEq, strings_IndexAny_f, strings_IndexAny_c, Tryd.f39, Option.getD_some, mixed, strings_IndexAny_n1, strings_IndexAny_n2, strings_IndexAny_l1_eq n, ih]
  exact rfl
noncomputable def strings_IndexAny_l2 (n : Nat) : Nat → Str → Int → Option Int
  | 0, _, _ => none
  | m + 1, v0, v1 => (strings_IndexAny_b2 n).1 (strings_IndexAny_l2 n m) v0 v1
theorem strings_IndexAny_l2_eq (n : Nat) : ∀ (m : Nat), (∀ (v0 : Str) (v1 : Int), run (strings_IndexAny_m n) [.lq m [0, 1, 0, 0, 1, 1, 0, 1, 0, 1, 1, 1], .blk 0, .cut [1, 0, 1, 1, 0, 1, 0, 1, 1, 1], .at [1, 0, 1, 1, 0, 1, 0, 1, 1, 1], .cut [1, 1, 1, 1], .at [1, 1, 1, 1]] ⟨[.str (sb v0), .any, .any, .any, .any, .any, .ptr 0 0, .any, .int .i64 v1, .any, .any, .any, .any, .any, .any, .any, .any, .any, .any, .any, .any, .any, .any, .any, .any, .any, .any, .any, .any, .any, .any, .any, .any, .any, .any, .any, .any, .any, .any, .any, .any, .any, .any, .any, .any, .any, .any, .any, .any, .any, .any, .any, .any, .any, .any], [.cells [.any]], 0⟩ = strings_IndexAny_l2 n m v0 v1)
  | 0 => by intros; exact run_lq_zero
  | m + 1 => by
    have ih := strings_IndexAny_l2_eq n m
    intro v0 v1
    rw [run_lq_succ]
    exact (strings_IndexAny_b2 n).2  m _  ih v0 v1
noncomputable def strings_IndexAny_e (n : Nat) : { B : Str → Str → Option Int // ∀ (a0 : Str) (a1 : Str), run (strings_IndexAny_m n) [.at []] { slots := [tyS.enc a0, tyS.enc a1] ++ List.replicate (55 - [tyS.enc a0, tyS.enc a1].length) .any, heap := [] } = B a0 a1 } := by
  apply Subtype.mk
  intro a0 a1
  simp (config := { maxSteps := 100000000 }) only [go_sem, Nat.reduceAdd, Nat.reduceSub, Nat.reduceLeDiff, Nat.reduceEqDiff, Nat.reduceBEq, Nat.reduceMul, Nat.reduceLT, Int.reduceLE, Int.reduceLT, Int.reduceToNat, Int.reduceBEq, Int.reduceEq, strings_IndexAny_f, strings_IndexAny_c, Tryd.f39, Option.getD_some, mixed, strings_IndexAny_n1, strings_IndexAny_n2, strings_IndexAny_l1_eq n, strings_IndexAny_l2_eq n]
  exact rfl
noncomputable def strings_IndexAny : Nat → Str → Str → Option Int
  | 0, _, _ => none
  | n + 1, a0, a1 => (strings_IndexAny_e n).1 a0 a1
theorem strings_IndexAny_ok : ∀ (n : Nat) (a0 : Str) (a1 : Str) (r : Int), strings_IndexAny n a0 a1 = some r → FnC Tryd.prog 39 [tyS.enc a0, tyS.enc a1] (fun v => v = (tyI .i64).enc r)
  | 0, _, _, _, h => by cases h
  | n + 1, a0, a1, r, h => by
    exact fnC_run (M := strings_IndexAny_m n) ⟨(tabA_cons_ok (ent2_ok (strings_IndexRune_ok n)) (tabA_cons_ok (ent1_ok (strings_shouldUseASCIISet_ok n)) tabA_nil_ok)), tabD_nil_ok, tabN_ok _, tabF_ok _, noY_ok, noE_ok⟩ Tryd.func39 rfl rfl ⟨tyS.nb 0 _, tyS.nb 0 _, trivial⟩ Tryd.ntmps39 Tryd.results39 (fun σ hs => outR_ok (P := Tryd.prog) (rs := [.tmp 4]) (t := (tyI .i64)) (σ := σ) (r := r) hs) (((strings_IndexAny_e n).2 a0 a1).trans h)

noncomputable def ref24_component_n1 : Nrm := ⟨[], [], [zK, zK, zA, zA, zA, zA, zA, zA, zA, zA, zA, zA, zA, zA, zA, zA, zA, zA, zA, zA, zA, zA, zA, zA, zA, zA, zA, zA, zA, zA], [], none⟩
noncomputable def ref24_component_m (n : Nat) : Mach Int where
  body := (Tryd.f34.body).getD .skip
  P := Tryd.prog
  cl := tabA [(33, ent1 (tyI .u8) tyB (ref24_begins n)), (45, ent1 (tyI .u8) tyB (ref24_digit n))]
  cd := tabD []
  nrm := tabN [([0, 0, 1], ref24_component_n1)]
  cut := tabF []
  n := n
  out := outR Tryd.prog [.tmp 4] (tyI .i64)
theorem ref24_component_f (n : Nat) : (ref24_component_m n).P = Tryd.prog ∧ (ref24_component_m n).cl = tabA [(33, ent1 (tyI .u8) tyB (ref24_begins n)), (45, ent1 (tyI .u8) tyB (ref24_digit n))] ∧ (ref24_component_m n).cd = tabD [] ∧ (ref24_component_m n).nrm = tabN [([0, 0, 1], ref24_component_n1)] ∧ (ref24_component_m n).cut = tabF [] ∧ (ref24_component_m n).n = n ∧ (ref24_component_m n).out = outR Tryd.prog [.tmp 4] (tyI .i64) := ⟨rfl, rfl, rfl, rfl, rfl, rfl, rfl⟩
theorem ref24_component_c (n : Nat) : (ref24_component_m n).body = (Tryd.f34.body).getD .skip := rfl
noncomputable def ref24_component_b1 (n : Nat) : { B : (Str → Int → Option Int) → Str → Int → Option Int // ∀ m X0, (∀ (v0 : Str) (v1 : Int), run (ref24_component_m n) [.lq m [0, 0, 1], .blk 0, .cut [1, 1], .at [1, 1]] ⟨[.str (sb v0), .int .i64 v1, .any, .any, .any, .any, .any, .any, .any, .any, .any, .any, .any, .any, .any, .any, .any, .any, .any, .any, .any, .any, .any, .any, .any, .any, .any, .any, .any, .any], [], 0⟩ = X0 v0 v1) → ∀ (v0 : Str) (v1 : Int), run (ref24_component_m n) [.at [0, 0, 0, 1], .lp m [0, 0, 1], .blk 0, .cut [1, 1], .at [1, 1]] ⟨[.str (sb v0), .int .i64 v1, .any, .any, .any, .any, .any, .any, .any, .any, .any, .any, .any, .any, .any, .any, .any, .any, .any, .any, .any, .any, .any, .any, .any, .any, .any, .any, .any, .any], [], 0⟩ = B X0 v0 v1 } := by
  apply Subtype.mk
  intro m X0 ih v0 v1
  simp (config := { maxSteps := 100000000 }) only [go_sem, Nat.reduceAdd, Nat.reduceSub, Nat.reduceLeDiff, Nat.reduceEqDiff, Nat.reduceBEq, Nat.reduceMul, Nat.reduceLT, Int.reduceLE, Int.reduceLT, Int.reduceToNat, Int.reduceBEq, Int.reduceEq, ref24_component_f, ref24_component_c, Tryd.f34, Option.getD_some, mixed, ref24_component_n1, ih]
  exact rfl
noncomputable def ref24_component_l1 (n : Nat) : Nat → Str → Int → Option Int
  | 0, _, _ => none
  | m + 1, v0, v1 => (ref24_component_b1 n).1 (ref24_component_l1 n m) v0 v1
theorem ref24_component_l1_eq (n : Nat) : ∀ (m : Nat), (∀ (v0 : Str) (v1 : Int), run (ref24_component_m n) [.lq m [0, 0, 1], .blk 0, .cut [1, 1], .at [1, 1]] ⟨[.str (sb v0), .int .i64 v1, .any, .any, .any, .any, .any, .any, .any, .any, .any, .any, .any, .any, .any, .any, .any, .any, .any, .any, .any, .any, .any, .any, .any, .any, .any, .any, .any, .any], [], 0⟩ = ref24_component_l1 n m v0 v1)
  | 0 => by intros; exact run_lq_zero
  | m + 1 => by
    have ih := ref24_component_l1_eq n m
    intro v0 v1
    rw [run_lq_succ]
    exact (ref24_component_b1 n).2  m _  ih v0 v1
noncomputable def ref24_component_e (n : Nat) : { B : Str → Int → Option Int // ∀ (a0 : Str) (a1 : Int), run (ref24_component_m n) [.at []] { slots := [tyS.enc a0, (tyI .i64).enc a1] ++ List.replicate (30 - [tyS.enc a0, (tyI .i64).enc a1].length) .any, heap := [] } = B a0 a1 } := by
  apply Subtype.mk
  intro a0 a1
  simp (config := { maxSteps := 100000000 }) only [go_sem, Nat.reduceAdd, Nat.reduceSub, Nat.reduceLeDiff, Nat.reduceEqDiff, Nat.reduceBEq, Nat.reduceMul, Nat.reduceLT, Int.reduceLE, Int.reduceLT, Int.reduceToNat, Int.reduceBEq, Int.reduceEq, ref24_component_f, ref24_component_c, Tryd.f34, Option.getD_some, mixed, ref24_component_n1, ref24_component_l1_eq n]
  exact rfl
noncomputable def ref24_component : Nat → Str → Int → Option Int
  | 0, _, _ => none
  | n + 1, a0, a1 => (ref24_component_e n).1 a0 a1
theorem ref24_component_ok : ∀ (n : Nat) (a0 : Str) (a1 : Int) (r : Int), ref24_component n a0 a1 = some r → FnC Tryd.prog 34 [tyS.enc a0, (tyI .i64).enc a1] (fun v => v = (tyI .i64).enc r)
  | 0, _, _, _, h => by cases h
  | n + 1, a0, a1, r, h => by
    exact fnC_run (M := ref24_component_m n) ⟨(tabA_cons_ok (ent1_ok (ref24_begins_ok n)) (tabA_cons_ok (ent1_ok (ref24_digit_ok n)) tabA_nil_ok)), tabD_nil_ok, tabN_ok _, tabF_ok _, noY_ok, noE_ok⟩ Tryd.func34 rfl rfl ⟨tyS.nb 0 _, (tyI .i64).nb 0 _, trivial⟩ Tryd.ntmps34 Tryd.results34 (fun σ hs => outR_ok (P := Tryd.prog) (rs := [.tmp 4]) (t := (tyI .i64)) (σ := σ) (r := r) hs) (((ref24_component_e n).2 a0 a1).trans h)
end Go.Abs
