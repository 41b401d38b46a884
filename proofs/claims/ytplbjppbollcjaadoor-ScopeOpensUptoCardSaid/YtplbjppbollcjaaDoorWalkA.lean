/- A part of the proof: what the functions compute. -/
import Derived.Test.YtplbjppbollcjaaDoorDataA
import Derived.Test.YtplbjppbollcjaaDoorExtA
set_option linter.all false
namespace Go.Abs
open Go.Proofs
set_option maxRecDepth 100000
set_option maxHeartbeats 4000000
set_option linter.unusedSimpArgs false
set_option linter.unusedVariables false
noncomputable def law27_short_1_m (n : Nat) : Mach Bool where
  body := (Tryd.f53.body).getD .skip
  P := Tryd.prog
  cl := tabA []
  cd := tabD []
  nrm := tabN []
  cut := tabF []
  n := n
  out := outR Tryd.prog [.tmp 2] tyB
theorem law27_short_1_f (n : Nat) : (law27_short_1_m n).P = Tryd.prog ∧ (law27_short_1_m n).cl = tabA [] ∧ (law27_short_1_m n).cd = tabD [] ∧ (law27_short_1_m n).nrm = tabN [] ∧ (law27_short_1_m n).cut = tabF [] ∧ (law27_short_1_m n).n = n ∧ (law27_short_1_m n).out = outR Tryd.prog [.tmp 2] tyB := ⟨rfl, rfl, rfl, rfl, rfl, rfl, rfl⟩
theorem law27_short_1_c (n : Nat) : (law27_short_1_m n).body = (Tryd.f53.body).getD .skip := rfl
noncomputable def law27_short_1_e (n : Nat) : { B : Str → Option Bool // ∀ (a0 : Str), run (law27_short_1_m n) [.at []] { slots := [tyS.enc a0] ++ List.replicate (6 - [tyS.enc a0].length) .any, heap := [] } = B a0 } := by
  apply Subtype.mk
  intro a0
  simp (config := { maxSteps := 100000000 }) only [go_sem, Nat.reduceAdd, Nat.reduceSub, Nat.reduceLeDiff, Nat.reduceEqDiff, Nat.reduceBEq, Nat.reduceMul, Nat.reduceLT, Int.reduceLE, Int.reduceLT, Int.reduceToNat, Int.reduceBEq, Int.reduceEq, law27_short_1_f, law27_short_1_c, Tryd.f53, Option.getD_some, mixed]
  exact rfl
noncomputable def law27_short_1 : Nat → Str → Option Bool
  | 0, _ => none
  | n + 1, a0 => (law27_short_1_e n).1 a0
theorem law27_short_1_ok : ∀ (n : Nat) (a0 : Str) (r : Bool), law27_short_1 n a0 = some r → FnC Tryd.prog 53 [tyS.enc a0] (fun v => v = tyB.enc r)
  | 0, _, _, h => by cases h
  | n + 1, a0, r, h => by
    exact fnC_run (M := law27_short_1_m n) ⟨tabA_nil_ok, tabD_nil_ok, tabN_ok _, tabF_ok _, noY_ok, noE_ok⟩ Tryd.func53 rfl rfl ⟨tyS.nb 0 _, trivial⟩ Tryd.ntmps53 Tryd.results53 (fun σ hs => outR_ok (P := Tryd.prog) (rs := [.tmp 2]) (t := tyB) (σ := σ) (r := r) hs) (((law27_short_1_e n).2 a0).trans h)

noncomputable def law27_Few_1_m (n : Nat) : Mach Bool where
  body := (Tryd.f34.body).getD .skip
  P := Tryd.prog
  cl := tabA []
  cd := tabD []
  nrm := tabN []
  cut := tabF []
  n := n
  out := outR Tryd.prog [.tmp 2] tyB
theorem law27_Few_1_f (n : Nat) : (law27_Few_1_m n).P = Tryd.prog ∧ (law27_Few_1_m n).cl = tabA [] ∧ (law27_Few_1_m n).cd = tabD [] ∧ (law27_Few_1_m n).nrm = tabN [] ∧ (law27_Few_1_m n).cut = tabF [] ∧ (law27_Few_1_m n).n = n ∧ (law27_Few_1_m n).out = outR Tryd.prog [.tmp 2] tyB := ⟨rfl, rfl, rfl, rfl, rfl, rfl, rfl⟩
theorem law27_Few_1_c (n : Nat) : (law27_Few_1_m n).body = (Tryd.f34.body).getD .skip := rfl
noncomputable def law27_Few_1_e (n : Nat) : { B : Str → Option Bool // ∀ (a0 : Str), run (law27_Few_1_m n) [.at []] { slots := [tyS.enc a0] ++ List.replicate (6 - [tyS.enc a0].length) .any, heap := [] } = B a0 } := by
  apply Subtype.mk
  intro a0
  simp (config := { maxSteps := 100000000 }) only [go_sem, Nat.reduceAdd, Nat.reduceSub, Nat.reduceLeDiff, Nat.reduceEqDiff, Nat.reduceBEq, Nat.reduceMul, Nat.reduceLT, Int.reduceLE, Int.reduceLT, Int.reduceToNat, Int.reduceBEq, Int.reduceEq, law27_Few_1_f, law27_Few_1_c, Tryd.f34, Option.getD_some, mixed]
  exact rfl
noncomputable def law27_Few_1 : Nat → Str → Option Bool
  | 0, _ => none
  | n + 1, a0 => (law27_Few_1_e n).1 a0
theorem law27_Few_1_ok : ∀ (n : Nat) (a0 : Str) (r : Bool), law27_Few_1 n a0 = some r → FnC Tryd.prog 34 [tyS.enc a0] (fun v => v = tyB.enc r)
  | 0, _, _, h => by cases h
  | n + 1, a0, r, h => by
    exact fnC_run (M := law27_Few_1_m n) ⟨tabA_nil_ok, tabD_nil_ok, tabN_ok _, tabF_ok _, noY_ok, noE_ok⟩ Tryd.func34 rfl rfl ⟨tyS.nb 0 _, trivial⟩ Tryd.ntmps34 Tryd.results34 (fun σ hs => outR_ok (P := Tryd.prog) (rs := [.tmp 2]) (t := tyB) (σ := σ) (r := r) hs) (((law27_Few_1_e n).2 a0).trans h)

noncomputable def law27_state_n1 : Nrm := ⟨[], [(1, 0, 23)], [zA, zA, zK, zK, zA, zA, zT (tyL rowS), zK, zK, zA, zA, zA, zA, zA, zA, zA, zA, zA, zA, zA, zA], [oK, oC [zK, zK, zK, zK, zK, zK, zK], oA Decl.row], none⟩
noncomputable def law27_state_m (n : Nat) : Mach State where
  body := (Tryd.f24.body).getD .skip
  P := Tryd.prog
  cl := tabA []
  cd := tabD []
  nrm := tabN [([0, 1, 0, 1, 1], law27_state_n1)]
  cut := tabF []
  n := n
  out := outR Tryd.prog [.cell 2 27] (tyC State.cel)
theorem law27_state_f (n : Nat) : (law27_state_m n).P = Tryd.prog ∧ (law27_state_m n).cl = tabA [] ∧ (law27_state_m n).cd = tabD [] ∧ (law27_state_m n).nrm = tabN [([0, 1, 0, 1, 1], law27_state_n1)] ∧ (law27_state_m n).cut = tabF [] ∧ (law27_state_m n).n = n ∧ (law27_state_m n).out = outR Tryd.prog [.cell 2 27] (tyC State.cel) := ⟨rfl, rfl, rfl, rfl, rfl, rfl, rfl⟩
theorem law27_state_c (n : Nat) : (law27_state_m n).body = (Tryd.f24.body).getD .skip := rfl
noncomputable def law27_state_b1 (n : Nat) : { B : ((List Str) → Int → Int → (List Decl) → Option State) → (List Str) → Int → Int → (List Decl) → Option State // ∀ m X0, (∀ (v0 : List Str) (v1 : Int) (v2 : Int) (r2 : List Decl) (c2 : Nat), c2 = r2.length → run (law27_state_m n) [.lq m [0, 1, 0, 1, 1], .blk 0, .cut [1, 1, 1], .at [1, 1, 1]] ⟨[.any, .any, .ptr 0 0, .ptr 1 0, .any, .any, .lst false 1 (mp scell v0), .int .i64 v1, .int .i64 v2, .any, .any, .any, .any, .any, .any, .any, .any, .any, .any, .any, .any], [.cells [.lst true 0 [], .lst true 0 [], .lst true 0 [], .lst true 0 [], .lst true 0 [], .lst true 0 [], .lst true 0 []], .cells [.acc 2 c2, .lst true 0 [], .lst true 0 [], .lst true 0 [], .lst true 0 [], .lst true 0 [], .lst true 0 []], .acc true 23 (mp Decl.cells r2)], 0⟩ = X0 v0 v1 v2 r2) → ∀ (v0 : List Str) (v1 : Int) (v2 : Int) (r2 : List Decl), run (law27_state_m n) [.at [0, 0, 1, 0, 1, 1], .lp m [0, 1, 0, 1, 1], .blk 0, .cut [1, 1, 1], .at [1, 1, 1]] ⟨[.any, .any, .ptr 0 0, .ptr 1 0, .any, .any, .lst false 1 (mp scell v0), .int .i64 v1, .int .i64 v2, .any, .any, .any, .any, .any, .any, .any, .any, .any, .any, .any, .any], [.cells [.lst true 0 [], .lst true 0 [], .lst true 0 [], .lst true 0 [], .lst true 0 [], .lst true 0 [], .lst true 0 []], .cells [.acc 2 r2.length, .lst true 0 [], .lst true 0 [], .lst true 0 [], .lst true 0 [], .lst true 0 [], .lst true 0 []], .acc true 23 (mp Decl.cells r2)], 0⟩ = B X0 v0 v1 v2 r2 } := by
  apply Subtype.mk
  intro m X0 ih v0 v1 v2 r2
  simp (config := { maxSteps := 100000000 }) only [go_sem, Nat.reduceAdd, Nat.reduceSub, Nat.reduceLeDiff, Nat.reduceEqDiff, Nat.reduceBEq, Nat.reduceMul, Nat.reduceLT, Int.reduceLE, Int.reduceLT, Int.reduceToNat, Int.reduceBEq, Int.reduceEq, law27_state_f, law27_state_c, Tryd.f24, Option.getD_some, mixed, law27_state_n1, ih]
  exact rfl
noncomputable def law27_state_l1 (n : Nat) : Nat → (List Str) → Int → Int → (List Decl) → Option State
  | 0, _, _, _, _ => none
  | m + 1, v0, v1, v2, r2 => (law27_state_b1 n).1 (law27_state_l1 n m) v0 v1 v2 r2
theorem law27_state_l1_eq (n : Nat) : ∀ (m : Nat), (∀ (v0 : List Str) (v1 : Int) (v2 : Int) (r2 : List Decl) (c2 : Nat), c2 = r2.length → run (law27_state_m n) [.lq m [0, 1, 0, 1, 1], .blk 0, .cut [1, 1, 1], .at [1, 1, 1]] ⟨[.any, .any, .ptr 0 0, .ptr 1 0, .any, .any, .lst false 1 (mp scell v0), .int .i64 v1, .int .i64 v2, .any, .any, .any, .any, .any, .any, .any, .any, .any, .any, .any, .any], [.cells [.lst true 0 [], .lst true 0 [], .lst true 0 [], .lst true 0 [], .lst true 0 [], .lst true 0 [], .lst true 0 []], .cells [.acc 2 c2, .lst true 0 [], .lst true 0 [], .lst true 0 [], .lst true 0 [], .lst true 0 [], .lst true 0 []], .acc true 23 (mp Decl.cells r2)], 0⟩ = law27_state_l1 n m v0 v1 v2 r2)
  | 0 => by intros; exact run_lq_zero
  | m + 1 => by
    have ih := law27_state_l1_eq n m
    intro v0 v1 v2 r2 c2 ec2
    subst ec2
    rw [run_lq_succ]
    exact (law27_state_b1 n).2  m _  ih v0 v1 v2 r2
noncomputable def law27_state_e (n : Nat) : { B : (List Str) → Option State // ∀ (a0 : (List Str)), run (law27_state_m n) [.at []] { slots := [(tyL rowS).enc a0] ++ List.replicate (21 - [(tyL rowS).enc a0].length) .any, heap := [] } = B a0 } := by
  apply Subtype.mk
  intro a0
  simp (config := { maxSteps := 100000000 }) only [go_sem, Nat.reduceAdd, Nat.reduceSub, Nat.reduceLeDiff, Nat.reduceEqDiff, Nat.reduceBEq, Nat.reduceMul, Nat.reduceLT, Int.reduceLE, Int.reduceLT, Int.reduceToNat, Int.reduceBEq, Int.reduceEq, law27_state_f, law27_state_c, Tryd.f24, Option.getD_some, mixed, law27_state_n1, law27_state_l1_eq n]
  exact rfl
noncomputable def law27_state : Nat → (List Str) → Option State
  | 0, _ => none
  | n + 1, a0 => (law27_state_e n).1 a0
theorem law27_state_ok : ∀ (n : Nat) (a0 : (List Str)) (r : State), law27_state n a0 = some r → FnC Tryd.prog 24 [(tyL rowS).enc a0] (fun v => v = (tyC State.cel).enc r)
  | 0, _, _, h => by cases h
  | n + 1, a0, r, h => by
    exact fnC_run (M := law27_state_m n) ⟨tabA_nil_ok, tabD_nil_ok, tabN_ok _, tabF_ok _, noY_ok, noE_ok⟩ Tryd.func24 rfl rfl ⟨(tyL rowS).nb 0 _, trivial⟩ Tryd.ntmps24 Tryd.results24 (fun σ hs => outR_ok (P := Tryd.prog) (rs := [.cell 2 27]) (t := (tyC State.cel)) (σ := σ) (r := r) hs) (((law27_state_e n).2 a0).trans h)

noncomputable def law27_awake_1_m (n : Nat) : Mach State where
  body := (Tryd.f35.body).getD .skip
  P := Tryd.prog
  cl := tabA []
  cd := tabD []
  nrm := tabN []
  cut := tabF []
  n := n
  out := outR Tryd.prog [.cell 5 27] (tyC State.cel)
theorem law27_awake_1_f (n : Nat) : (law27_awake_1_m n).P = Tryd.prog ∧ (law27_awake_1_m n).cl = tabA [] ∧ (law27_awake_1_m n).cd = tabD [] ∧ (law27_awake_1_m n).nrm = tabN [] ∧ (law27_awake_1_m n).cut = tabF [] ∧ (law27_awake_1_m n).n = n ∧ (law27_awake_1_m n).out = outR Tryd.prog [.cell 5 27] (tyC State.cel) := ⟨rfl, rfl, rfl, rfl, rfl, rfl, rfl⟩
theorem law27_awake_1_c (n : Nat) : (law27_awake_1_m n).body = (Tryd.f35.body).getD .skip := rfl
noncomputable def law27_awake_1_e (n : Nat) : { B : (List Str) → (List Str) → State → Option State // ∀ (a0 : (List Str)) (a1 : (List Str)) (a2 : State), run (law27_awake_1_m n) [.at []] { slots := [(tyL rowS).enc a0, (tyL rowS).enc a1, (tyP State.cel).enc a2] ++ List.replicate (13 - [(tyL rowS).enc a0, (tyL rowS).enc a1, (tyP State.cel).enc a2].length) .any, heap := [] } = B a0 a1 a2 } := by
  apply Subtype.mk
  intro a0 a1 a2
  simp (config := { maxSteps := 100000000 }) only [go_sem, Nat.reduceAdd, Nat.reduceSub, Nat.reduceLeDiff, Nat.reduceEqDiff, Nat.reduceBEq, Nat.reduceMul, Nat.reduceLT, Int.reduceLE, Int.reduceLT, Int.reduceToNat, Int.reduceBEq, Int.reduceEq, law27_awake_1_f, law27_awake_1_c, Tryd.f35, Option.getD_some, mixed]
  exact rfl
noncomputable def law27_awake_1 : Nat → (List Str) → (List Str) → State → Option State
  | 0, _, _, _ => none
  | n + 1, a0, a1, a2 => (law27_awake_1_e n).1 a0 a1 a2
theorem law27_awake_1_ok : ∀ (n : Nat) (a0 : (List Str)) (a1 : (List Str)) (a2 : State) (r : State), law27_awake_1 n a0 a1 a2 = some r → FnC Tryd.prog 35 [(tyL rowS).enc a0, (tyL rowS).enc a1, (tyP State.cel).enc a2] (fun v => v = (tyC State.cel).enc r)
  | 0, _, _, _, _, h => by cases h
  | n + 1, a0, a1, a2, r, h => by
    exact fnC_run (M := law27_awake_1_m n) ⟨tabA_nil_ok, tabD_nil_ok, tabN_ok _, tabF_ok _, noY_ok, noE_ok⟩ Tryd.func35 rfl rfl ⟨(tyL rowS).nb 0 _, (tyL rowS).nb 0 _, (tyP State.cel).nb 0 _, trivial⟩ Tryd.ntmps35 Tryd.results35 (fun σ hs => outR_ok (P := Tryd.prog) (rs := [.cell 5 27]) (t := (tyC State.cel)) (σ := σ) (r := r) hs) (((law27_awake_1_e n).2 a0 a1 a2).trans h)

noncomputable def term_letter_m (n : Nat) : Mach Bool where
  body := (Tryd.f61.body).getD .skip
  P := Tryd.prog
  cl := tabA []
  cd := tabD []
  nrm := tabN []
  cut := tabF []
  n := n
  out := outR Tryd.prog [.tmp 2] tyB
theorem term_letter_f (n : Nat) : (term_letter_m n).P = Tryd.prog ∧ (term_letter_m n).cl = tabA [] ∧ (term_letter_m n).cd = tabD [] ∧ (term_letter_m n).nrm = tabN [] ∧ (term_letter_m n).cut = tabF [] ∧ (term_letter_m n).n = n ∧ (term_letter_m n).out = outR Tryd.prog [.tmp 2] tyB := ⟨rfl, rfl, rfl, rfl, rfl, rfl, rfl⟩
theorem term_letter_c (n : Nat) : (term_letter_m n).body = (Tryd.f61.body).getD .skip := rfl
noncomputable def term_letter_e (n : Nat) : { B : Int → Option Bool // ∀ (a0 : Int), run (term_letter_m n) [.at []] { slots := [(tyI .u8).enc a0] ++ List.replicate (21 - [(tyI .u8).enc a0].length) .any, heap := [] } = B a0 } := by
  apply Subtype.mk
  intro a0
  simp (config := { maxSteps := 100000000 }) only [go_sem, Nat.reduceAdd, Nat.reduceSub, Nat.reduceLeDiff, Nat.reduceEqDiff, Nat.reduceBEq, Nat.reduceMul, Nat.reduceLT, Int.reduceLE, Int.reduceLT, Int.reduceToNat, Int.reduceBEq, Int.reduceEq, term_letter_f, term_letter_c, Tryd.f61, Option.getD_some, mixed]
  exact rfl
noncomputable def term_letter : Nat → Int → Option Bool
  | 0, _ => none
  | n + 1, a0 => (term_letter_e n).1 a0
theorem term_letter_ok : ∀ (n : Nat) (a0 : Int) (r : Bool), term_letter n a0 = some r → FnC Tryd.prog 61 [(tyI .u8).enc a0] (fun v => v = tyB.enc r)
  | 0, _, _, h => by cases h
  | n + 1, a0, r, h => by
    exact fnC_run (M := term_letter_m n) ⟨tabA_nil_ok, tabD_nil_ok, tabN_ok _, tabF_ok _, noY_ok, noE_ok⟩ Tryd.func61 rfl rfl ⟨(tyI .u8).nb 0 _, trivial⟩ Tryd.ntmps61 Tryd.results61 (fun σ hs => outR_ok (P := Tryd.prog) (rs := [.tmp 2]) (t := tyB) (σ := σ) (r := r) hs) (((term_letter_e n).2 a0).trans h)

noncomputable def scope_enclosing_m (n : Nat) : Mach State where
  body := (Tryd.f37.body).getD .skip
  P := Tryd.prog
  cl := tabA []
  cd := tabD []
  nrm := tabN []
  cut := tabF [([1, 1], [0])]
  n := n
  out := outR Tryd.prog [.tmp 2] (tyK1 62 (tyP State.cel))
theorem scope_enclosing_f (n : Nat) : (scope_enclosing_m n).P = Tryd.prog ∧ (scope_enclosing_m n).cl = tabA [] ∧ (scope_enclosing_m n).cd = tabD [] ∧ (scope_enclosing_m n).nrm = tabN [] ∧ (scope_enclosing_m n).cut = tabF [([1, 1], [0])] ∧ (scope_enclosing_m n).n = n ∧ (scope_enclosing_m n).out = outR Tryd.prog [.tmp 2] (tyK1 62 (tyP State.cel)) := ⟨rfl, rfl, rfl, rfl, rfl, rfl, rfl⟩
theorem scope_enclosing_c (n : Nat) : (scope_enclosing_m n).body = (Tryd.f37.body).getD .skip := rfl
noncomputable def scope_enclosing_e (n : Nat) : { B : State → Option State // ∀ (a0 : State), run (scope_enclosing_m n) [.at []] { slots := [(tyC State.cel).enc a0] ++ List.replicate (4 - [(tyC State.cel).enc a0].length) .any, heap := [] } = B a0 } := by
  apply Subtype.mk
  intro a0
  simp (config := { maxSteps := 100000000 }) only [go_sem, Nat.reduceAdd, Nat.reduceSub, Nat.reduceLeDiff, Nat.reduceEqDiff, Nat.reduceBEq, Nat.reduceMul, Nat.reduceLT, Int.reduceLE, Int.reduceLT, Int.reduceToNat, Int.reduceBEq, Int.reduceEq, scope_enclosing_f, scope_enclosing_c, Tryd.f37, Option.getD_some, mixed]
  exact rfl
noncomputable def scope_enclosing : Nat → State → Option State
  | 0, _ => none
  | n + 1, a0 => (scope_enclosing_e n).1 a0
theorem scope_enclosing_ok : ∀ (n : Nat) (a0 : State) (r : State), scope_enclosing n a0 = some r → FnC Tryd.prog 37 [(tyC State.cel).enc a0] (fun v => v = (tyK1 62 (tyP State.cel)).enc r)
  | 0, _, _, h => by cases h
  | n + 1, a0, r, h => by
    exact fnC_run (M := scope_enclosing_m n) ⟨tabA_nil_ok, tabD_nil_ok, tabN_ok _, tabF_ok _, noY_ok, noE_ok⟩ Tryd.func37 rfl rfl ⟨(tyC State.cel).nb 0 _, trivial⟩ Tryd.ntmps37 Tryd.results37 (fun σ hs => outR_ok (P := Tryd.prog) (rs := [.tmp 2]) (t := (tyK1 62 (tyP State.cel))) (σ := σ) (r := r) hs) (((scope_enclosing_e n).2 a0).trans h)
end Go.Abs
namespace Go.Abs
open Go.Proofs
set_option maxRecDepth 100000
set_option maxHeartbeats 4000000
set_option linter.unusedSimpArgs false
set_option linter.unusedVariables false
noncomputable def scope_path_joined_m (n : Nat) : Mach Str where
  body := (Tryd.f38.body).getD .skip
  P := Tryd.prog
  cl := tabA [(20, ent2 (tyL rowS) tyS tyS (strings_Join n)), (63, entG [] osN (asT (tyL rowS) asN) (osC (oaT true rowS) osN) (rsA 0 (fun (b : ((List Str) × Unit)) => b.1.length) rsN) (fun (b : Unit) a => (slices_Clone_string_h n) a.1))]
  cd := tabD []
  nrm := tabN []
  cut := tabF []
  n := n
  out := outR Tryd.prog [.tmp 4] tyS
theorem scope_path_joined_f (n : Nat) : (scope_path_joined_m n).P = Tryd.prog ∧ (scope_path_joined_m n).cl = tabA [(20, ent2 (tyL rowS) tyS tyS (strings_Join n)), (63, entG [] osN (asT (tyL rowS) asN) (osC (oaT true rowS) osN) (rsA 0 (fun (b : ((List Str) × Unit)) => b.1.length) rsN) (fun (b : Unit) a => (slices_Clone_string_h n) a.1))] ∧ (scope_path_joined_m n).cd = tabD [] ∧ (scope_path_joined_m n).nrm = tabN [] ∧ (scope_path_joined_m n).cut = tabF [] ∧ (scope_path_joined_m n).n = n ∧ (scope_path_joined_m n).out = outR Tryd.prog [.tmp 4] tyS := ⟨rfl, rfl, rfl, rfl, rfl, rfl, rfl⟩
theorem scope_path_joined_c (n : Nat) : (scope_path_joined_m n).body = (Tryd.f38.body).getD .skip := rfl
noncomputable def scope_path_joined_e (n : Nat) : { B : (List Str) → Str → Option Str // ∀ (a0 : (List Str)) (a1 : Str), run (scope_path_joined_m n) [.at []] { slots := [(tyL rowS).enc a0, tyS.enc a1] ++ List.replicate (11 - [(tyL rowS).enc a0, tyS.enc a1].length) .any, heap := [] } = B a0 a1 } := by
  apply Subtype.mk
  intro a0 a1
  simp (config := { maxSteps := 100000000 }) only [go_sem, Nat.reduceAdd, Nat.reduceSub, Nat.reduceLeDiff, Nat.reduceEqDiff, Nat.reduceBEq, Nat.reduceMul, Nat.reduceLT, Int.reduceLE, Int.reduceLT, Int.reduceToNat, Int.reduceBEq, Int.reduceEq, scope_path_joined_f, scope_path_joined_c, Tryd.f38, Option.getD_some, mixed]
  exact rfl
noncomputable def scope_path_joined : Nat → (List Str) → Str → Option Str
  | 0, _, _ => none
  | n + 1, a0, a1 => (scope_path_joined_e n).1 a0 a1
theorem scope_path_joined_ok : ∀ (n : Nat) (a0 : (List Str)) (a1 : Str) (r : Str), scope_path_joined n a0 a1 = some r → FnC Tryd.prog 38 [(tyL rowS).enc a0, tyS.enc a1] (fun v => v = tyS.enc r)
  | 0, _, _, _, h => by cases h
  | n + 1, a0, a1, r, h => by
    exact fnC_run (M := scope_path_joined_m n) ⟨(tabA_cons_ok (ent2_ok (strings_Join_ok n)) (tabA_cons_ok (entG_ok (fun b a r h => (slices_Clone_string_h_ok n) a.1 r h)) tabA_nil_ok)), tabD_nil_ok, tabN_ok _, tabF_ok _, noY_ok, noE_ok⟩ Tryd.func38 rfl rfl ⟨(tyL rowS).nb 0 _, tyS.nb 0 _, trivial⟩ Tryd.ntmps38 Tryd.results38 (fun σ hs => outR_ok (P := Tryd.prog) (rs := [.tmp 4]) (t := tyS) (σ := σ) (r := r) hs) (((scope_path_joined_e n).2 a0 a1).trans h)

noncomputable def signature_Names_n1 : Nrm := ⟨[], [], [zA, zK, zA, zK, zA, zA, zA, zA, zA, zA, zA, zA, zA, zA, zA, zA, zA, zA, zA, zA, zA, zA, zA, zA, zA, zA, zA, zT (tyL Ctor.row), zK, zK, zA, zA, zA, zA, zA, zA, zA, zA, zA, zA, zA, zA, zA, zA, zA, zA, zA, zA, zA, zA, zA, zA, zA, zA, zA, zA, zA, zA, zA, zA, zA], [oT Decl.cel, oA rowS], none⟩
noncomputable def signature_Names_n2 : Nrm := ⟨[(3, 1, true)], [], [zA, zA, zA, zK, zA, zA, zA, zA, zA, zA, zA, zA, zA, zA, zA, zA, zA, zA, zA, zA, zA, zA, zA, zA, zA, zA, zA, zA, zA, zA, zA, zA, zA, zA, zA, zA, zA, zA, zA, zA, zA, zA, zA, zA, zA, zA, zA, zA, zT (tyL Fun.row), zK, zK, zA, zA, zA, zA, zA, zA, zA, zA, zA, zA], [oD, oA rowS], none⟩
noncomputable def signature_Names_m (n : Nat) : Mach (List Str) where
  body := (Tryd.f45.body).getD .skip
  P := Tryd.prog
  cl := tabA []
  cd := tabD []
  nrm := tabN [([0, 1, 0, 1, 0, 1, 1, 1, 0, 1, 0, 1, 1], signature_Names_n1), ([0, 1, 0, 1, 1, 1, 1, 1, 0, 1, 0, 1, 1], signature_Names_n2)]
  cut := tabF []
  n := n
  out := outR Tryd.prog [.tmp 2] (tyL rowS)
theorem signature_Names_f (n : Nat) : (signature_Names_m n).P = Tryd.prog ∧ (signature_Names_m n).cl = tabA [] ∧ (signature_Names_m n).cd = tabD [] ∧ (signature_Names_m n).nrm = tabN [([0, 1, 0, 1, 0, 1, 1, 1, 0, 1, 0, 1, 1], signature_Names_n1), ([0, 1, 0, 1, 1, 1, 1, 1, 0, 1, 0, 1, 1], signature_Names_n2)] ∧ (signature_Names_m n).cut = tabF [] ∧ (signature_Names_m n).n = n ∧ (signature_Names_m n).out = outR Tryd.prog [.tmp 2] (tyL rowS) := ⟨rfl, rfl, rfl, rfl, rfl, rfl, rfl⟩
theorem signature_Names_c (n : Nat) : (signature_Names_m n).body = (Tryd.f45.body).getD .skip := rfl
noncomputable def signature_Names_b1 (n : Nat) : { B : ((List Ctor) → Int → Int → Decl → (List Str) → Option (List Str)) → (List Ctor) → Int → Int → Decl → (List Str) → Option (List Str) // ∀ m X0, (∀ (v0 : List Ctor) (v1 : Int) (v2 : Int) (o0 : Decl) (r1 : List Str) (c1 : Nat), c1 = r1.length → run (signature_Names_m n) [.lq m [0, 1, 0, 1, 0, 1, 1, 1, 0, 1, 0, 1, 1], .blk 1, .cut [1, 1, 0, 1, 1, 1, 0, 1, 0, 1, 1], .at [1, 1, 0, 1, 1, 1, 0, 1, 0, 1, 1], .blk 0, .cut [1, 1, 1], .at [1, 1, 1]] ⟨[.any, .ptr 0 0, .any, .acc 1 c1, .any, .any, .any, .any, .any, .any, .any, .any, .any, .any, .any, .any, .any, .any, .any, .any, .any, .any, .any, .any, .any, .any, .any, .lst false 6 (mp Ctor.cells v0), .int .i64 v1, .int .i64 v2, .any, .any, .any, .any, .any, .any, .any, .any, .any, .any, .any, .any, .any, .any, .any, .any, .any, .any, .any, .any, .any, .any, .any, .any, .any, .any, .any, .any, .any, .any, .any], [.cells (Decl.cells o0), .acc true 1 (mp scell r1)], 0⟩ = X0 v0 v1 v2 o0 r1) → ∀ (v0 : List Ctor) (v1 : Int) (v2 : Int) (o0 : Decl) (r1 : List Str), run (signature_Names_m n) [.at [0, 0, 1, 0, 1, 0, 1, 1, 1, 0, 1, 0, 1, 1], .lp m [0, 1, 0, 1, 0, 1, 1, 1, 0, 1, 0, 1, 1], .blk 1, .cut [1, 1, 0, 1, 1, 1, 0, 1, 0, 1, 1], .at [1, 1, 0, 1, 1, 1, 0, 1, 0, 1, 1], .blk 0, .cut [1, 1, 1], .at [1, 1, 1]] ⟨[.any, .ptr 0 0, .any, .acc 1 r1.length, .any, .any, .any, .any, .any, .any, .any, .any, .any, .any, .any, .any, .any, .any, .any, .any, .any, .any, .any, .any, .any, .any, .any, .lst false 6 (mp Ctor.cells v0), .int .i64 v1, .int .i64 v2, .any, .any, .any, .any, .any, .any, .any, .any, .any, .any, .any, .any, .any, .any, .any, .any, .any, .any, .any, .any, .any, .any, .any, .any, .any, .any, .any, .any, .any, .any, .any], [.cells (Decl.cells o0), .acc true 1 (mp scell r1)], 0⟩ = B X0 v0 v1 v2 o0 r1 } := by
  apply Subtype.mk
  intro m X0 ih v0 v1 v2 o0 r1
  simp (config := { maxSteps := 100000000 }) only [go_sem, Nat.reduceAdd, Nat.reduceSub, Nat.reduceLeDiff, Nat.reduceEqDiff, Nat.reduceBEq, Nat.reduceMul, Nat.reduceLT, Int.reduceLE, Int.reduceLT, Int.reduceToNat, Int.reduceBEq, Int.reduceEq, signature_Names_f, signature_Names_c, Tryd.f45, Option.getD_some, mixed, signature_Names_n1, signature_Names_n2, ih]
  exact rfl
noncomputable def signature_Names_l1 (n : Nat) : Nat → (List Ctor) → Int → Int → Decl → (List Str) → Option (List Str)
  | 0, _, _, _, _, _ => none
  | m + 1, v0, v1, v2, o0, r1 => (signature_Names_b1 n).1 (signature_Names_l1 n m) v0 v1 v2 o0 r1
theorem signature_Names_l1_eq (n : Nat) : ∀ (m : Nat), (∀ (v0 : List Ctor) (v1 : Int) (v2 : Int) (o0 : Decl) (r1 : List Str) (c1 : Nat), c1 = r1.length → run (signature_Names_m n) [.lq m [0, 1, 0, 1, 0, 1, 1, 1, 0, 1, 0, 1, 1], .blk 1, .cut [1, 1, 0, 1, 1, 1, 0, 1, 0, 1, 1], .at [1, 1, 0, 1, 1, 1, 0, 1, 0, 1, 1], .blk 0, .cut [1, 1, 1], .at [1, 1, 1]] ⟨[.any, .ptr 0 0, .any, .acc 1 c1, .any, .any, .any, .any, .any, .any, .any, .any, .any, .any, .any, .any, .any, .any, .any, .any, .any, .any, .any, .any, .any, .any, .any, .lst false 6 (mp Ctor.cells v0), .int .i64 v1, .int .i64 v2, .any, .any, .any, .any, .any, .any, .any, .any, .any, .any, .any, .any, .any, .any, .any, .any, .any, .any, .any, .any, .any, .any, .any, .any, .any, .any, .any, .any, .any, .any, .any], [.cells (Decl.cells o0), .acc true 1 (mp scell r1)], 0⟩ = signature_Names_l1 n m v0 v1 v2 o0 r1)
  | 0 => by intros; exact run_lq_zero
  | m + 1 => by
    have ih := signature_Names_l1_eq n m
    intro v0 v1 v2 o0 r1 c1 ec1
    subst ec1
    rw [run_lq_succ]
    exact (signature_Names_b1 n).2  m _  ih v0 v1 v2 o0 r1
noncomputable def signature_Names_b2 (n : Nat) : { B : ((List Fun) → Int → Int → (List Str) → Option (List Str)) → (List Fun) → Int → Int → (List Str) → Option (List Str) // ∀ m X0, (∀ (v0 : List Fun) (v1 : Int) (v2 : Int) (r1 : List Str) (c1 : Nat), c1 = r1.length → run (signature_Names_m n) [.lq m [0, 1, 0, 1, 1, 1, 1, 1, 0, 1, 0, 1, 1], .blk 3, .blk 0, .cut [1, 1, 1], .at [1, 1, 1]] ⟨[.any, .any, .any, .acc 1 c1, .any, .any, .any, .any, .any, .any, .any, .any, .any, .any, .any, .any, .any, .any, .any, .any, .any, .any, .any, .any, .any, .any, .any, .any, .any, .any, .any, .any, .any, .any, .any, .any, .any, .any, .any, .any, .any, .any, .any, .any, .any, .any, .any, .any, .lst false 15 (mp Fun.cells v0), .int .i64 v1, .int .i64 v2, .any, .any, .any, .any, .any, .any, .any, .any, .any, .any], [.dead, .acc true 1 (mp scell r1)], 0⟩ = X0 v0 v1 v2 r1) → ∀ (v0 : List Fun) (v1 : Int) (v2 : Int) (r1 : List Str), run (signature_Names_m n) [.at [0, 0, 1, 0, 1, 1, 1, 1, 1, 0, 1, 0, 1, 1], .lp m [0, 1, 0, 1, 1, 1, 1, 1, 0, 1, 0, 1, 1], .blk 3, .blk 0, .cut [1, 1, 1], .at [1, 1, 1]] ⟨[.any, .any, .any, .acc 1 r1.length, .any, .any, .any, .any, .any, .any, .any, .any, .any, .any, .any, .any, .any, .any, .any, .any, .any, .any, .any, .any, .any, .any, .any, .any, .any, .any, .any, .any, .any, .any, .any, .any, .any, .any, .any, .any, .any, .any, .any, .any, .any, .any, .any, .any, .lst false 15 (mp Fun.cells v0), .int .i64 v1, .int .i64 v2, .any, .any, .any, .any, .any, .any, .any, .any, .any, .any], [.dead, .acc true 1 (mp scell r1)], 0⟩ = B X0 v0 v1 v2 r1 } := by
  apply Subtype.mk
  intro m X0 ih v0 v1 v2 r1
  simp (config := { maxSteps := 100000000 }) only [go_sem, Nat.reduceAdd, Nat.reduceSub, Nat.reduceLeDiff, Nat.reduceEqDiff, Nat.reduceBEq, Nat.reduceMul, Nat.reduceLT, Int.reduceLE, Int.reduceLT, Int.reduceToNat, Int.reduceBEq, Int.reduceEq, signature_Names_f, signature_Names_c, Tryd.f45, Option.getD_some, mixed, signature_Names_n1, signature_Names_n2, signature_Names_l1_eq n, ih]
  exact rfl
noncomputable def signature_Names_l2 (n : Nat) : Nat → (List Fun) → Int → Int → (List Str) → Option (List Str)
  | 0, _, _, _, _ => none
  | m + 1, v0, v1, v2, r1 => (signature_Names_b2 n).1 (signature_Names_l2 n m) v0 v1 v2 r1
theorem signature_Names_l2_eq (n : Nat) : ∀ (m : Nat), (∀ (v0 : List Fun) (v1 : Int) (v2 : Int) (r1 : List Str) (c1 : Nat), c1 = r1.length → run (signature_Names_m n) [.lq m [0, 1, 0, 1, 1, 1, 1, 1, 0, 1, 0, 1, 1], .blk 3, .blk 0, .cut [1, 1, 1], .at [1, 1, 1]] ⟨[.any, .any, .any, .acc 1 c1, .any, .any, .any, .any, .any, .any, .any, .any, .any, .any, .any, .any, .any, .any, .any, .any, .any, .any, .any, .any, .any, .any, .any, .any, .any, .any, .any, .any, .any, .any, .any, .any, .any, .any, .any, .any, .any, .any, .any, .any, .any, .any, .any, .any, .lst false 15 (mp Fun.cells v0), .int .i64 v1, .int .i64 v2, .any, .any, .any, .any, .any, .any, .any, .any, .any, .any], [.dead, .acc true 1 (mp scell r1)], 0⟩ = signature_Names_l2 n m v0 v1 v2 r1)
  | 0 => by intros; exact run_lq_zero
  | m + 1 => by
    have ih := signature_Names_l2_eq n m
    intro v0 v1 v2 r1 c1 ec1
    subst ec1
    rw [run_lq_succ]
    exact (signature_Names_b2 n).2  m _  ih v0 v1 v2 r1
noncomputable def signature_Names_e (n : Nat) : { B : Decl → Option (List Str) // ∀ (a0 : Decl), run (signature_Names_m n) [.at []] { slots := [(tyC Decl.cel).enc a0] ++ List.replicate (61 - [(tyC Decl.cel).enc a0].length) .any, heap := [] } = B a0 } := by
  apply Subtype.mk
  intro a0
  simp (config := { maxSteps := 100000000 }) only [go_sem, Nat.reduceAdd, Nat.reduceSub, Nat.reduceLeDiff, Nat.reduceEqDiff, Nat.reduceBEq, Nat.reduceMul, Nat.reduceLT, Int.reduceLE, Int.reduceLT, Int.reduceToNat, Int.reduceBEq, Int.reduceEq, signature_Names_f, signature_Names_c, Tryd.f45, Option.getD_some, mixed, signature_Names_n1, signature_Names_n2, signature_Names_l1_eq n, signature_Names_l2_eq n]
  exact rfl
noncomputable def signature_Names : Nat → Decl → Option (List Str)
  | 0, _ => none
  | n + 1, a0 => (signature_Names_e n).1 a0
theorem signature_Names_ok : ∀ (n : Nat) (a0 : Decl) (r : (List Str)), signature_Names n a0 = some r → FnC Tryd.prog 45 [(tyC Decl.cel).enc a0] (fun v => v = (tyL rowS).enc r)
  | 0, _, _, h => by cases h
  | n + 1, a0, r, h => by
    exact fnC_run (M := signature_Names_m n) ⟨tabA_nil_ok, tabD_nil_ok, tabN_ok _, tabF_ok _, noY_ok, noE_ok⟩ Tryd.func45 rfl rfl ⟨(tyC Decl.cel).nb 0 _, trivial⟩ Tryd.ntmps45 Tryd.results45 (fun σ hs => outR_ok (P := Tryd.prog) (rs := [.tmp 2]) (t := (tyL rowS)) (σ := σ) (r := r) hs) (((signature_Names_e n).2 a0).trans h)

noncomputable def slices_Index_string_n1 : Nrm := ⟨[], [], [zT (tyL rowS), zK, zA, zA, zA, zA, zA, zK, zK, zA, zA, zA, zA, zA, zA, zA, zA, zA, zA], [], none⟩
noncomputable def slices_Index_string_m (n : Nat) : Mach Int where
  body := (Tryd.f59.body).getD .skip
  P := Tryd.prog
  cl := tabA []
  cd := tabD []
  nrm := tabN [([0, 1, 0, 1], slices_Index_string_n1)]
  cut := tabF []
  n := n
  out := outR Tryd.prog [.tmp 4] (tyI .i64)
theorem slices_Index_string_f (n : Nat) : (slices_Index_string_m n).P = Tryd.prog ∧ (slices_Index_string_m n).cl = tabA [] ∧ (slices_Index_string_m n).cd = tabD [] ∧ (slices_Index_string_m n).nrm = tabN [([0, 1, 0, 1], slices_Index_string_n1)] ∧ (slices_Index_string_m n).cut = tabF [] ∧ (slices_Index_string_m n).n = n ∧ (slices_Index_string_m n).out = outR Tryd.prog [.tmp 4] (tyI .i64) := ⟨rfl, rfl, rfl, rfl, rfl, rfl, rfl⟩
theorem slices_Index_string_c (n : Nat) : (slices_Index_string_m n).body = (Tryd.f59.body).getD .skip := rfl
noncomputable def slices_Index_string_b1 (n : Nat) : { B : ((List Str) → Str → Int → Int → Option Int) → (List Str) → Str → Int → Int → Option Int // ∀ m X0, (∀ (v0 : List Str) (v1 : Str) (v2 : Int) (v3 : Int), run (slices_Index_string_m n) [.lq m [0, 1, 0, 1], .blk 0, .cut [1, 1], .at [1, 1]] ⟨[.lst false 1 (mp scell v0), .str (sb v1), .any, .any, .any, .any, .any, .int .i64 v2, .int .i64 v3, .any, .any, .any, .any, .any, .any, .any, .any, .any, .any], [], 0⟩ = X0 v0 v1 v2 v3) → ∀ (v0 : List Str) (v1 : Str) (v2 : Int) (v3 : Int), run (slices_Index_string_m n) [.at [0, 0, 1, 0, 1], .lp m [0, 1, 0, 1], .blk 0, .cut [1, 1], .at [1, 1]] ⟨[.lst false 1 (mp scell v0), .str (sb v1), .any, .any, .any, .any, .any, .int .i64 v2, .int .i64 v3, .any, .any, .any, .any, .any, .any, .any, .any, .any, .any], [], 0⟩ = B X0 v0 v1 v2 v3 } := by
  apply Subtype.mk
  intro m X0 ih v0 v1 v2 v3
  simp (config := { maxSteps := 100000000 }) only [go_sem, Nat.reduceAdd, Nat.reduceSub, Nat.reduceLeDiff, Nat.reduceEqDiff, Nat.reduceBEq, Nat.reduceMul, Nat.reduceLT, Int.reduceLE, Int.reduceLT, Int.reduceToNat, Int.reduceBEq, Int.reduceEq, slices_Index_string_f, slices_Index_string_c, Tryd.f59, Option.getD_some, mixed, slices_Index_string_n1, ih]
  exact rfl
noncomputable def slices_Index_string_l1 (n : Nat) : Nat → (List Str) → Str → Int → Int → Option Int
  | 0, _, _, _, _ => none
  | m + 1, v0, v1, v2, v3 => (slices_Index_string_b1 n).1 (slices_Index_string_l1 n m) v0 v1 v2 v3
theorem slices_Index_string_l1_eq (n : Nat) : ∀ (m : Nat), (∀ (v0 : List Str) (v1 : Str) (v2 : Int) (v3 : Int), run (slices_Index_string_m n) [.lq m [0, 1, 0, 1], .blk 0, .cut [1, 1], .at [1, 1]] ⟨[.lst false 1 (mp scell v0), .str (sb v1), .any, .any, .any, .any, .any, .int .i64 v2, .int .i64 v3, .any, .any, .any, .any, .any, .any, .any, .any, .any, .any], [], 0⟩ = slices_Index_string_l1 n m v0 v1 v2 v3)
  | 0 => by intros; exact run_lq_zero
  | m + 1 => by
    have ih := slices_Index_string_l1_eq n m
    intro v0 v1 v2 v3
    rw [run_lq_succ]
    exact (slices_Index_string_b1 n).2  m _  ih v0 v1 v2 v3
noncomputable def slices_Index_string_e (n : Nat) : { B : (List Str) → Str → Option Int // ∀ (a0 : (List Str)) (a1 : Str), run (slices_Index_string_m n) [.at []] { slots := [(tyL rowS).enc a0, tyS.enc a1] ++ List.replicate (19 - [(tyL rowS).enc a0, tyS.enc a1].length) .any, heap := [] } = B a0 a1 } := by
  apply Subtype.mk
  intro a0 a1
  simp (config := { maxSteps := 100000000 }) only [go_sem, Nat.reduceAdd, Nat.reduceSub, Nat.reduceLeDiff, Nat.reduceEqDiff, Nat.reduceBEq, Nat.reduceMul, Nat.reduceLT, Int.reduceLE, Int.reduceLT, Int.reduceToNat, Int.reduceBEq, Int.reduceEq, slices_Index_string_f, slices_Index_string_c, Tryd.f59, Option.getD_some, mixed, slices_Index_string_n1, slices_Index_string_l1_eq n]
  exact rfl
noncomputable def slices_Index_string : Nat → (List Str) → Str → Option Int
  | 0, _, _ => none
  | n + 1, a0, a1 => (slices_Index_string_e n).1 a0 a1
theorem slices_Index_string_ok : ∀ (n : Nat) (a0 : (List Str)) (a1 : Str) (r : Int), slices_Index_string n a0 a1 = some r → FnC Tryd.prog 59 [(tyL rowS).enc a0, tyS.enc a1] (fun v => v = (tyI .i64).enc r)
  | 0, _, _, _, h => by cases h
  | n + 1, a0, a1, r, h => by
    exact fnC_run (M := slices_Index_string_m n) ⟨tabA_nil_ok, tabD_nil_ok, tabN_ok _, tabF_ok _, noY_ok, noE_ok⟩ Tryd.func59 rfl rfl ⟨(tyL rowS).nb 0 _, tyS.nb 0 _, trivial⟩ Tryd.ntmps59 Tryd.results59 (fun σ hs => outR_ok (P := Tryd.prog) (rs := [.tmp 4]) (t := (tyI .i64)) (σ := σ) (r := r) hs) (((slices_Index_string_e n).2 a0 a1).trans h)

noncomputable def ref03_letter_m (n : Nat) : Mach Bool where
  body := (Tryd.f64.body).getD .skip
  P := Tryd.prog
  cl := tabA []
  cd := tabD []
  nrm := tabN []
  cut := tabF []
  n := n
  out := outR Tryd.prog [.tmp 2] tyB
theorem ref03_letter_f (n : Nat) : (ref03_letter_m n).P = Tryd.prog ∧ (ref03_letter_m n).cl = tabA [] ∧ (ref03_letter_m n).cd = tabD [] ∧ (ref03_letter_m n).nrm = tabN [] ∧ (ref03_letter_m n).cut = tabF [] ∧ (ref03_letter_m n).n = n ∧ (ref03_letter_m n).out = outR Tryd.prog [.tmp 2] tyB := ⟨rfl, rfl, rfl, rfl, rfl, rfl, rfl⟩
theorem ref03_letter_c (n : Nat) : (ref03_letter_m n).body = (Tryd.f64.body).getD .skip := rfl
noncomputable def ref03_letter_e (n : Nat) : { B : Int → Option Bool // ∀ (a0 : Int), run (ref03_letter_m n) [.at []] { slots := [(tyI .u8).enc a0] ++ List.replicate (21 - [(tyI .u8).enc a0].length) .any, heap := [] } = B a0 } := by
  apply Subtype.mk
  intro a0
  simp (config := { maxSteps := 100000000 }) only [go_sem, Nat.reduceAdd, Nat.reduceSub, Nat.reduceLeDiff, Nat.reduceEqDiff, Nat.reduceBEq, Nat.reduceMul, Nat.reduceLT, Int.reduceLE, Int.reduceLT, Int.reduceToNat, Int.reduceBEq, Int.reduceEq, ref03_letter_f, ref03_letter_c, Tryd.f64, Option.getD_some, mixed]
  exact rfl
noncomputable def ref03_letter : Nat → Int → Option Bool
  | 0, _ => none
  | n + 1, a0 => (ref03_letter_e n).1 a0
theorem ref03_letter_ok : ∀ (n : Nat) (a0 : Int) (r : Bool), ref03_letter n a0 = some r → FnC Tryd.prog 64 [(tyI .u8).enc a0] (fun v => v = tyB.enc r)
  | 0, _, _, h => by cases h
  | n + 1, a0, r, h => by
    exact fnC_run (M := ref03_letter_m n) ⟨tabA_nil_ok, tabD_nil_ok, tabN_ok _, tabF_ok _, noY_ok, noE_ok⟩ Tryd.func64 rfl rfl ⟨(tyI .u8).nb 0 _, trivial⟩ Tryd.ntmps64 Tryd.results64 (fun σ hs => outR_ok (P := Tryd.prog) (rs := [.tmp 2]) (t := tyB) (σ := σ) (r := r) hs) (((ref03_letter_e n).2 a0).trans h)

noncomputable def ref27_join_n1 : Nrm := ⟨[], [], [zT (tyL rowS), zK, zK, zA, zA, zA, zA, zK, zK, zA, zA, zA, zA, zA, zA, zA, zA, zA, zA, zA, zA, zA, zA, zA], [], none⟩
noncomputable def ref27_join_m (n : Nat) : Mach Str where
  body := (Tryd.f41.body).getD .skip
  P := Tryd.prog
  cl := tabA []
  cd := tabD []
  nrm := tabN [([0, 1, 0, 1, 1], ref27_join_n1)]
  cut := tabF []
  n := n
  out := outR Tryd.prog [.tmp 6] tyS
theorem ref27_join_f (n : Nat) : (ref27_join_m n).P = Tryd.prog ∧ (ref27_join_m n).cl = tabA [] ∧ (ref27_join_m n).cd = tabD [] ∧ (ref27_join_m n).nrm = tabN [([0, 1, 0, 1, 1], ref27_join_n1)] ∧ (ref27_join_m n).cut = tabF [] ∧ (ref27_join_m n).n = n ∧ (ref27_join_m n).out = outR Tryd.prog [.tmp 6] tyS := ⟨rfl, rfl, rfl, rfl, rfl, rfl, rfl⟩
theorem ref27_join_c (n : Nat) : (ref27_join_m n).body = (Tryd.f41.body).getD .skip := rfl
noncomputable def ref27_join_b1 (n : Nat) : { B : ((List Str) → Int → Str → Str → Int → Option Str) → (List Str) → Int → Str → Str → Int → Option Str // ∀ m X0, (∀ (v0 : List Str) (v1 : Int) (v2 : Str) (v3 : Str) (v4 : Int), run (ref27_join_m n) [.lq m [0, 1, 0, 1, 1], .blk 0, .cut [1, 1, 1], .at [1, 1, 1]] ⟨[.lst false 1 (mp scell v0), .int .i64 v1, .str (sb v2), .any, .any, .any, .any, .str (sb v3), .int .i64 v4, .any, .any, .any, .any, .any, .any, .any, .any, .any, .any, .any, .any, .any, .any, .any], [], 0⟩ = X0 v0 v1 v2 v3 v4) → ∀ (v0 : List Str) (v1 : Int) (v2 : Str) (v3 : Str) (v4 : Int), run (ref27_join_m n) [.at [0, 0, 1, 0, 1, 1], .lp m [0, 1, 0, 1, 1], .blk 0, .cut [1, 1, 1], .at [1, 1, 1]] ⟨[.lst false 1 (mp scell v0), .int .i64 v1, .str (sb v2), .any, .any, .any, .any, .str (sb v3), .int .i64 v4, .any, .any, .any, .any, .any, .any, .any, .any, .any, .any, .any, .any, .any, .any, .any], [], 0⟩ = B X0 v0 v1 v2 v3 v4 } := by
  apply Subtype.mk
  intro m X0 ih v0 v1 v2 v3 v4
  simp (config := { maxSteps := 100000000 }) only [go_sem, Nat.reduceAdd, Nat.reduceSub, Nat.reduceLeDiff, Nat.reduceEqDiff, Nat.reduceBEq, Nat.reduceMul, Nat.reduceLT, Int.reduceLE, Int.reduceLT, Int.reduceToNat, Int.reduceBEq, Int.reduceEq, ref27_join_f, ref27_join_c, Tryd.f41, Option.getD_some, mixed, ref27_join_n1, ih]
  exact rfl
noncomputable def ref27_join_l1 (n : Nat) : Nat → (List Str) → Int → Str → Str → Int → Option Str
  | 0, _, _, _, _, _ => none
  | m + 1, v0, v1, v2, v3, v4 => (ref27_join_b1 n).1 (ref27_join_l1 n m) v0 v1 v2 v3 v4
theorem ref27_join_l1_eq (n : Nat) : ∀ (m : Nat), (∀ (v0 : List Str) (v1 : Int) (v2 : Str) (v3 : Str) (v4 : Int), run (ref27_join_m n) [.lq m [0, 1, 0, 1, 1], .blk 0, .cut [1, 1, 1], .at [1, 1, 1]] ⟨[.lst false 1 (mp scell v0), .int .i64 v1, .str (sb v2), .any, .any, .any, .any, .str (sb v3), .int .i64 v4, .any, .any, .any, .any, .any, .any, .any, .any, .any, .any, .any, .any, .any, .any, .any], [], 0⟩ = ref27_join_l1 n m v0 v1 v2 v3 v4)
  | 0 => by intros; exact run_lq_zero
  | m + 1 => by
    have ih := ref27_join_l1_eq n m
    intro v0 v1 v2 v3 v4
    rw [run_lq_succ]
    exact (ref27_join_b1 n).2  m _  ih v0 v1 v2 v3 v4
noncomputable def ref27_join_e (n : Nat) : { B : (List Str) → Int → Str → Option Str // ∀ (a0 : (List Str)) (a1 : Int) (a2 : Str), run (ref27_join_m n) [.at []] { slots := [(tyL rowS).enc a0, (tyI .i64).enc a1, tyS.enc a2] ++ List.replicate (24 - [(tyL rowS).enc a0, (tyI .i64).enc a1, tyS.enc a2].length) .any, heap := [] } = B a0 a1 a2 } := by
  apply Subtype.mk
  intro a0 a1 a2
  simp (config := { maxSteps := 100000000 }) only [go_sem, Nat.reduceAdd, Nat.reduceSub, Nat.reduceLeDiff, Nat.reduceEqDiff, Nat.reduceBEq, Nat.reduceMul, Nat.reduceLT, Int.reduceLE, Int.reduceLT, Int.reduceToNat, Int.reduceBEq, Int.reduceEq, ref27_join_f, ref27_join_c, Tryd.f41, Option.getD_some, mixed, ref27_join_n1, ref27_join_l1_eq n]
  exact rfl
noncomputable def ref27_join : Nat → (List Str) → Int → Str → Option Str
  | 0, _, _, _ => none
  | n + 1, a0, a1, a2 => (ref27_join_e n).1 a0 a1 a2
theorem ref27_join_ok : ∀ (n : Nat) (a0 : (List Str)) (a1 : Int) (a2 : Str) (r : Str), ref27_join n a0 a1 a2 = some r → FnC Tryd.prog 41 [(tyL rowS).enc a0, (tyI .i64).enc a1, tyS.enc a2] (fun v => v = tyS.enc r)
  | 0, _, _, _, _, h => by cases h
  | n + 1, a0, a1, a2, r, h => by
    exact fnC_run (M := ref27_join_m n) ⟨tabA_nil_ok, tabD_nil_ok, tabN_ok _, tabF_ok _, noY_ok, noE_ok⟩ Tryd.func41 rfl rfl ⟨(tyL rowS).nb 0 _, (tyI .i64).nb 0 _, tyS.nb 0 _, trivial⟩ Tryd.ntmps41 Tryd.results41 (fun σ hs => outR_ok (P := Tryd.prog) (rs := [.tmp 6]) (t := tyS) (σ := σ) (r := r) hs) (((ref27_join_e n).2 a0 a1 a2).trans h)

noncomputable def ref07_Names_n1 : Nrm := ⟨[], [], [zA, zK, zA, zK, zK, zA, zA, zA, zA, zA, zA, zA, zA, zA, zA, zA, zA, zA, zA, zA, zA, zA, zA, zA, zA, zA, zA, zA, zA, zA, zA, zA, zA, zA, zA, zA, zA, zA, zA, zA, zA, zA, zA, zA, zA, zA, zA, zA, zA, zA, zA, zA, zA, zA, zA, zA, zA, zA, zA, zA, zA, zA], [oT Decl.cel, oA rowS], none⟩
noncomputable def ref07_Names_n1p : Nrm := ⟨[], [], [zA, zK, zA, zL rowS, zK, zA, zA, zA, zA, zA, zA, zA, zA, zA, zA, zA, zA, zA, zA, zA, zA, zA, zA, zA, zA, zA, zA, zA, zA, zA, zA, zA, zA, zA, zA, zA, zA, zA, zA, zA, zA, zA, zA, zA, zA, zA, zA, zA, zA, zA, zA, zA, zA, zA, zA, zA, zA, zA, zA, zA, zA, zA], [oT Decl.cel], (some 3)⟩
noncomputable def ref07_Names_n2 : Nrm := ⟨[(5, 1, true)], [], [zA, zK, zA, zA, zA, zK, zK, zA, zA, zA, zA, zA, zA, zA, zA, zA, zA, zA, zA, zA, zA, zA, zA, zA, zA, zA, zA, zA, zA, zA, zA, zA, zA, zA, zA, zA, zA, zA, zA, zA, zA, zA, zA, zA, zA, zA, zA, zA, zA, zA, zA, zA, zA, zA, zA, zA, zA, zA, zA, zA, zA, zA], [oT Decl.cel, oA rowS], none⟩
noncomputable def ref07_Names_m (n : Nat) : Mach (List Str) where
  body := (Tryd.f47.body).getD .skip
  P := Tryd.prog
  cl := tabA []
  cd := tabD []
  nrm := tabN [([0, 1, 0, 1, 0, 1, 1, 1, 0, 1, 0, 1], ref07_Names_n1p), ([0, 1, 0, 1, 0, 1, 1, 1, 0, 1, 0, 1], ref07_Names_n1), ([0, 1, 0, 1, 0, 1, 1, 1, 1, 1, 0, 1, 0, 1], ref07_Names_n2)]
  cut := tabF []
  n := n
  out := outR Tryd.prog [.tmp 2] (tyL rowS)
theorem ref07_Names_f (n : Nat) : (ref07_Names_m n).P = Tryd.prog ∧ (ref07_Names_m n).cl = tabA [] ∧ (ref07_Names_m n).cd = tabD [] ∧ (ref07_Names_m n).nrm = tabN [([0, 1, 0, 1, 0, 1, 1, 1, 0, 1, 0, 1], ref07_Names_n1p), ([0, 1, 0, 1, 0, 1, 1, 1, 0, 1, 0, 1], ref07_Names_n1), ([0, 1, 0, 1, 0, 1, 1, 1, 1, 1, 0, 1, 0, 1], ref07_Names_n2)] ∧ (ref07_Names_m n).cut = tabF [] ∧ (ref07_Names_m n).n = n ∧ (ref07_Names_m n).out = outR Tryd.prog [.tmp 2] (tyL rowS) := ⟨rfl, rfl, rfl, rfl, rfl, rfl, rfl⟩
theorem ref07_Names_c (n : Nat) : (ref07_Names_m n).body = (Tryd.f47.body).getD .skip := rfl
noncomputable def ref07_Names_b1 (n : Nat) : { B : (Int → Decl → (List Str) → Option (List Str)) → Int → Decl → (List Str) → Option (List Str) // ∀ m X0, (∀ (v0 : Int) (o0 : Decl) (r1 : List Str) (c1 : Nat), c1 = r1.length → run (ref07_Names_m n) [.lq m [0, 1, 0, 1, 0, 1, 1, 1, 0, 1, 0, 1], .blk 1, .cut [1, 1, 0, 1, 1, 1, 0, 1, 0, 1], .at [1, 1, 0, 1, 1, 1, 0, 1, 0, 1], .blk 0, .cut [1, 1], .at [1, 1]] ⟨[.any, .ptr 0 0, .any, .acc 1 c1, .int .i64 v0, .any, .any, .any, .any, .any, .any, .any, .any, .any, .any, .any, .any, .any, .any, .any, .any, .any, .any, .any, .any, .any, .any, .any, .any, .any, .any, .any, .any, .any, .any, .any, .any, .any, .any, .any, .any, .any, .any, .any, .any, .any, .any, .any, .any, .any, .any, .any, .any, .any, .any, .any, .any, .any, .any, .any, .any, .any], [.cells (Decl.cells o0), .acc true 1 (mp scell r1)], 0⟩ = X0 v0 o0 r1) → ∀ (v0 : Int) (o0 : Decl) (r1 : List Str), run (ref07_Names_m n) [.at [0, 0, 1, 0, 1, 0, 1, 1, 1, 0, 1, 0, 1], .lp m [0, 1, 0, 1, 0, 1, 1, 1, 0, 1, 0, 1], .blk 1, .cut [1, 1, 0, 1, 1, 1, 0, 1, 0, 1], .at [1, 1, 0, 1, 1, 1, 0, 1, 0, 1], .blk 0, .cut [1, 1], .at [1, 1]] ⟨[.any, .ptr 0 0, .any, .acc 1 r1.length, .int .i64 v0, .any, .any, .any, .any, .any, .any, .any, .any, .any, .any, .any, .any, .any, .any, .any, .any, .any, .any, .any, .any, .any, .any, .any, .any, .any, .any, .any, .any, .any, .any, .any, .any, .any, .any, .any, .any, .any, .any, .any, .any, .any, .any, .any, .any, .any, .any, .any, .any, .any, .any, .any, .any, .any, .any, .any, .any, .any], [.cells (Decl.cells o0), .acc true 1 (mp scell r1)], 0⟩ = B X0 v0 o0 r1 } := by
  apply Subtype.mk
  intro m X0 ih v0 o0 r1
  simp (config := { maxSteps := 100000000 }) only [go_sem, Nat.reduceAdd, Nat.reduceSub, Nat.reduceLeDiff, Nat.reduceEqDiff, Nat.reduceBEq, Nat.reduceMul, Nat.reduceLT, Int.reduceLE, Int.reduceLT, Int.reduceToNat, Int.reduceBEq, Int.reduceEq, ref07_Names_f, ref07_Names_c, Tryd.f47, Option.getD_some, mixed, ref07_Names_n1, ref07_Names_n1p, ref07_Names_n2, ih]
  exact rfl
noncomputable def ref07_Names_l1 (n : Nat) : Nat → Int → Decl → (List Str) → Option (List Str)
  | 0, _, _, _ => none
  | m + 1, v0, o0, r1 => (ref07_Names_b1 n).1 (ref07_Names_l1 n m) v0 o0 r1
theorem ref07_Names_l1_eq (n : Nat) : ∀ (m : Nat), (∀ (v0 : Int) (o0 : Decl) (r1 : List Str) (c1 : Nat), c1 = r1.length → run (ref07_Names_m n) [.lq m [0, 1, 0, 1, 0, 1, 1, 1, 0, 1, 0, 1], .blk 1, .cut [1, 1, 0, 1, 1, 1, 0, 1, 0, 1], .at [1, 1, 0, 1, 1, 1, 0, 1, 0, 1], .blk 0, .cut [1, 1], .at [1, 1]] ⟨[.any, .ptr 0 0, .any, .acc 1 c1, .int .i64 v0, .any, .any, .any, .any, .any, .any, .any, .any, .any, .any, .any, .any, .any, .any, .any, .any, .any, .any, .any, .any, .any, .any, .any, .any, .any, .any, .any, .any, .any, .any, .any, .any, .any, .any, .any, .any, .any, .any, .any, .any, .any, .any, .any, .any, .any, .any, .any, .any, .any, .any, .any, .any, .any, .any, .any, .any, .any], [.cells (Decl.cells o0), .acc true 1 (mp scell r1)], 0⟩ = ref07_Names_l1 n m v0 o0 r1)
  | 0 => by intros; exact run_lq_zero
  | m + 1 => by
    have ih := ref07_Names_l1_eq n m
    intro v0 o0 r1 c1 ec1
    subst ec1
    rw [run_lq_succ]
    exact (ref07_Names_b1 n).2  m _  ih v0 o0 r1
noncomputable def ref07_Names_b1p (n : Nat) : { B : Nat → (List Str) → Int → Decl → Option (List Str) // ∀ (m : Nat) (v0 : List Str) (v1 : Int) (o0 : Decl), run (ref07_Names_m n) [.at [0, 0, 1, 0, 1, 0, 1, 1, 1, 0, 1, 0, 1], .lp m [0, 1, 0, 1, 0, 1, 1, 1, 0, 1, 0, 1], .blk 1, .cut [1, 1, 0, 1, 1, 1, 0, 1, 0, 1], .at [1, 1, 0, 1, 1, 1, 0, 1, 0, 1], .blk 0, .cut [1, 1], .at [1, 1]] ⟨[.any, .ptr 0 0, .any, .lst true 1 (mp scell v0), .int .i64 v1, .any, .any, .any, .any, .any, .any, .any, .any, .any, .any, .any, .any, .any, .any, .any, .any, .any, .any, .any, .any, .any, .any, .any, .any, .any, .any, .any, .any, .any, .any, .any, .any, .any, .any, .any, .any, .any, .any, .any, .any, .any, .any, .any, .any, .any, .any, .any, .any, .any, .any, .any, .any, .any, .any, .any, .any, .any], [.cells (Decl.cells o0)], 0⟩ = B m v0 v1 o0 } := by
  apply Subtype.mk
  intro m v0 v1 o0
  simp (config := { maxSteps := 100000000 }) only [go_sem, Nat.reduceAdd, Nat.reduceSub, Nat.reduceLeDiff, Nat.reduceEqDiff, Nat.reduceBEq, Nat.reduceMul, Nat.reduceLT, Int.reduceLE, Int.reduceLT, Int.reduceToNat, Int.reduceBEq, Int.reduceEq, ref07_Names_f, ref07_Names_c, Tryd.f47, Option.getD_some, mixed, ref07_Names_n1, ref07_Names_n1p, ref07_Names_n2, ref07_Names_l1_eq n]
  exact rfl
noncomputable def ref07_Names_p1 (n : Nat) : Nat → (List Str) → Int → Decl → Option (List Str)
  | 0, _, _, _ => none
  | m + 1, v0, v1, o0 => (ref07_Names_b1p n).1 m v0 v1 o0
theorem ref07_Names_p1_eq (n : Nat) : ∀ (m : Nat), (∀ (v0 : List Str) (v1 : Int) (o0 : Decl), run (ref07_Names_m n) [.lq m [0, 1, 0, 1, 0, 1, 1, 1, 0, 1, 0, 1], .blk 1, .cut [1, 1, 0, 1, 1, 1, 0, 1, 0, 1], .at [1, 1, 0, 1, 1, 1, 0, 1, 0, 1], .blk 0, .cut [1, 1], .at [1, 1]] ⟨[.any, .ptr 0 0, .any, .lst true 1 (mp scell v0), .int .i64 v1, .any, .any, .any, .any, .any, .any, .any, .any, .any, .any, .any, .any, .any, .any, .any, .any, .any, .any, .any, .any, .any, .any, .any, .any, .any, .any, .any, .any, .any, .any, .any, .any, .any, .any, .any, .any, .any, .any, .any, .any, .any, .any, .any, .any, .any, .any, .any, .any, .any, .any, .any, .any, .any, .any, .any, .any, .any], [.cells (Decl.cells o0)], 0⟩ = ref07_Names_p1 n m v0 v1 o0)
  | 0 => by intros; exact run_lq_zero
  | m + 1 => by
    intro v0 v1 o0
    rw [run_lq_succ]
    exact (ref07_Names_b1p n).2 m v0 v1 o0
noncomputable def ref07_Names_b2 (n : Nat) : { B : (Int → Decl → (List Str) → Option (List Str)) → Int → Decl → (List Str) → Option (List Str) // ∀ m X0, (∀ (v0 : Int) (o0 : Decl) (r1 : List Str) (c1 : Nat), c1 = r1.length → run (ref07_Names_m n) [.lq m [0, 1, 0, 1, 0, 1, 1, 1, 1, 1, 0, 1, 0, 1], .blk 3, .cut [1, 1, 0, 1, 1, 1, 1, 1, 0, 1, 0, 1], .at [1, 1, 0, 1, 1, 1, 1, 1, 0, 1, 0, 1], .blk 0, .cut [1, 1], .at [1, 1]] ⟨[.any, .ptr 0 0, .any, .any, .any, .acc 1 c1, .int .i64 v0, .any, .any, .any, .any, .any, .any, .any, .any, .any, .any, .any, .any, .any, .any, .any, .any, .any, .any, .any, .any, .any, .any, .any, .any, .any, .any, .any, .any, .any, .any, .any, .any, .any, .any, .any, .any, .any, .any, .any, .any, .any, .any, .any, .any, .any, .any, .any, .any, .any, .any, .any, .any, .any, .any, .any], [.cells (Decl.cells o0), .acc true 1 (mp scell r1)], 0⟩ = X0 v0 o0 r1) → ∀ (v0 : Int) (o0 : Decl) (r1 : List Str), run (ref07_Names_m n) [.at [0, 0, 1, 0, 1, 0, 1, 1, 1, 1, 1, 0, 1, 0, 1], .lp m [0, 1, 0, 1, 0, 1, 1, 1, 1, 1, 0, 1, 0, 1], .blk 3, .cut [1, 1, 0, 1, 1, 1, 1, 1, 0, 1, 0, 1], .at [1, 1, 0, 1, 1, 1, 1, 1, 0, 1, 0, 1], .blk 0, .cut [1, 1], .at [1, 1]] ⟨[.any, .ptr 0 0, .any, .any, .any, .acc 1 r1.length, .int .i64 v0, .any, .any, .any, .any, .any, .any, .any, .any, .any, .any, .any, .any, .any, .any, .any, .any, .any, .any, .any, .any, .any, .any, .any, .any, .any, .any, .any, .any, .any, .any, .any, .any, .any, .any, .any, .any, .any, .any, .any, .any, .any, .any, .any, .any, .any, .any, .any, .any, .any, .any, .any, .any, .any, .any, .any], [.cells (Decl.cells o0), .acc true 1 (mp scell r1)], 0⟩ = B X0 v0 o0 r1 } := by
  apply Subtype.mk
  intro m X0 ih v0 o0 r1
  simp (config := { maxSteps := 100000000 }) only [go_sem, Nat.reduceAdd, Nat.reduceSub, Nat.reduceLeDiff, Nat.reduceEqDiff, Nat.reduceBEq, Nat.reduceMul, Nat.reduceLT, Int.reduceLE, Int.reduceLT, Int.reduceToNat, Int.reduceBEq, Int.reduceEq, ref07_Names_f, ref07_Names_c, Tryd.f47, Option.getD_some, mixed, ref07_Names_n1, ref07_Names_n1p, ref07_Names_n2, ref07_Names_l1_eq n, ref07_Names_p1_eq n, ih]
  exact rfl
noncomputable def ref07_Names_l2 (n : Nat) : Nat → Int → Decl → (List Str) → Option (List Str)
  | 0, _, _, _ => none
  | m + 1, v0, o0, r1 => (ref07_Names_b2 n).1 (ref07_Names_l2 n m) v0 o0 r1
theorem ref07_Names_l2_eq (n : Nat) : ∀ (m : Nat), (∀ (v0 : Int) (o0 : Decl) (r1 : List Str) (c1 : Nat), c1 = r1.length → run (ref07_Names_m n) [.lq m [0, 1, 0, 1, 0, 1, 1, 1, 1, 1, 0, 1, 0, 1], .blk 3, .cut [1, 1, 0, 1, 1, 1, 1, 1, 0, 1, 0, 1], .at [1, 1, 0, 1, 1, 1, 1, 1, 0, 1, 0, 1], .blk 0, .cut [1, 1], .at [1, 1]] ⟨[.any, .ptr 0 0, .any, .any, .any, .acc 1 c1, .int .i64 v0, .any, .any, .any, .any, .any, .any, .any, .any, .any, .any, .any, .any, .any, .any, .any, .any, .any, .any, .any, .any, .any, .any, .any, .any, .any, .any, .any, .any, .any, .any, .any, .any, .any, .any, .any, .any, .any, .any, .any, .any, .any, .any, .any, .any, .any, .any, .any, .any, .any, .any, .any, .any, .any, .any, .any], [.cells (Decl.cells o0), .acc true 1 (mp scell r1)], 0⟩ = ref07_Names_l2 n m v0 o0 r1)
  | 0 => by intros; exact run_lq_zero
  | m + 1 => by
    have ih := ref07_Names_l2_eq n m
    intro v0 o0 r1 c1 ec1
    subst ec1
    rw [run_lq_succ]
    exact (ref07_Names_b2 n).2  m _  ih v0 o0 r1
noncomputable def ref07_Names_e (n : Nat) : { B : Decl → Option (List Str) // ∀ (a0 : Decl), run (ref07_Names_m n) [.at []] { slots := [(tyC Decl.cel).enc a0] ++ List.replicate (62 - [(tyC Decl.cel).enc a0].length) .any, heap := [] } = B a0 } := by
  apply Subtype.mk
  intro a0
  simp (config := { maxSteps := 100000000 }) only [go_sem, Nat.reduceAdd, Nat.reduceSub, Nat.reduceLeDiff, Nat.reduceEqDiff, Nat.reduceBEq, Nat.reduceMul, Nat.reduceLT, Int.reduceLE, Int.reduceLT, Int.reduceToNat, Int.reduceBEq, Int.reduceEq, ref07_Names_f, ref07_Names_c, Tryd.f47, Option.getD_some, mixed, ref07_Names_n1, ref07_Names_n1p, ref07_Names_n2, ref07_Names_l1_eq n, ref07_Names_p1_eq n, ref07_Names_l2_eq n]
  exact rfl
noncomputable def ref07_Names : Nat → Decl → Option (List Str)
  | 0, _ => none
  | n + 1, a0 => (ref07_Names_e n).1 a0
theorem ref07_Names_ok : ∀ (n : Nat) (a0 : Decl) (r : (List Str)), ref07_Names n a0 = some r → FnC Tryd.prog 47 [(tyC Decl.cel).enc a0] (fun v => v = (tyL rowS).enc r)
  | 0, _, _, h => by cases h
  | n + 1, a0, r, h => by
    exact fnC_run (M := ref07_Names_m n) ⟨tabA_nil_ok, tabD_nil_ok, tabN_ok _, tabF_ok _, noY_ok, noE_ok⟩ Tryd.func47 rfl rfl ⟨(tyC Decl.cel).nb 0 _, trivial⟩ Tryd.ntmps47 Tryd.results47 (fun σ hs => outR_ok (P := Tryd.prog) (rs := [.tmp 2]) (t := (tyL rowS)) (σ := σ) (r := r) hs) (((ref07_Names_e n).2 a0).trans h)
end Go.Abs
namespace Go.Abs
open Go.Proofs
set_option maxRecDepth 100000
set_option maxHeartbeats 4000000
set_option linter.unusedSimpArgs false
set_option linter.unusedVariables false
noncomputable def ref07_Has_n1 : Nrm := ⟨[], [], [zT (tyL rowS), zK, zA, zA, zA, zK, zA, zA, zA, zA, zA, zA, zA, zA, zA, zA, zA, zA], [], none⟩
noncomputable def ref07_Has_m (n : Nat) : Mach Bool where
  body := (Tryd.f46.body).getD .skip
  P := Tryd.prog
  cl := tabA []
  cd := tabD []
  nrm := tabN [([0, 1, 0, 1], ref07_Has_n1)]
  cut := tabF []
  n := n
  out := outR Tryd.prog [.tmp 4] tyB
theorem ref07_Has_f (n : Nat) : (ref07_Has_m n).P = Tryd.prog ∧ (ref07_Has_m n).cl = tabA [] ∧ (ref07_Has_m n).cd = tabD [] ∧ (ref07_Has_m n).nrm = tabN [([0, 1, 0, 1], ref07_Has_n1)] ∧ (ref07_Has_m n).cut = tabF [] ∧ (ref07_Has_m n).n = n ∧ (ref07_Has_m n).out = outR Tryd.prog [.tmp 4] tyB := ⟨rfl, rfl, rfl, rfl, rfl, rfl, rfl⟩
theorem ref07_Has_c (n : Nat) : (ref07_Has_m n).body = (Tryd.f46.body).getD .skip := rfl
noncomputable def ref07_Has_b1 (n : Nat) : { B : ((List Str) → Str → Int → Option Bool) → (List Str) → Str → Int → Option Bool // ∀ m X0, (∀ (v0 : List Str) (v1 : Str) (v2 : Int), run (ref07_Has_m n) [.lq m [0, 1, 0, 1], .blk 0, .cut [1, 1], .at [1, 1]] ⟨[.lst false 1 (mp scell v0), .str (sb v1), .any, .any, .any, .int .i64 v2, .any, .any, .any, .any, .any, .any, .any, .any, .any, .any, .any, .any], [], 0⟩ = X0 v0 v1 v2) → ∀ (v0 : List Str) (v1 : Str) (v2 : Int), run (ref07_Has_m n) [.at [0, 0, 1, 0, 1], .lp m [0, 1, 0, 1], .blk 0, .cut [1, 1], .at [1, 1]] ⟨[.lst false 1 (mp scell v0), .str (sb v1), .any, .any, .any, .int .i64 v2, .any, .any, .any, .any, .any, .any, .any, .any, .any, .any, .any, .any], [], 0⟩ = B X0 v0 v1 v2 } := by
  apply Subtype.mk
  intro m X0 ih v0 v1 v2
  simp (config := { maxSteps := 100000000 }) only [go_sem, Nat.reduceAdd, Nat.reduceSub, Nat.reduceLeDiff, Nat.reduceEqDiff, Nat.reduceBEq, Nat.reduceMul, Nat.reduceLT, Int.reduceLE, Int.reduceLT, Int.reduceToNat, Int.reduceBEq, Int.reduceEq, ref07_Has_f, ref07_Has_c, Tryd.f46, Option.getD_some, mixed, ref07_Has_n1, ih]
  exact rfl
noncomputable def ref07_Has_l1 (n : Nat) : Nat → (List Str) → Str → Int → Option Bool
  | 0, _, _, _ => none
  | m + 1, v0, v1, v2 => (ref07_Has_b1 n).1 (ref07_Has_l1 n m) v0 v1 v2
theorem ref07_Has_l1_eq (n : Nat) : ∀ (m : Nat), (∀ (v0 : List Str) (v1 : Str) (v2 : Int), run (ref07_Has_m n) [.lq m [0, 1, 0, 1], .blk 0, .cut [1, 1], .at [1, 1]] ⟨[.lst false 1 (mp scell v0), .str (sb v1), .any, .any, .any, .int .i64 v2, .any, .any, .any, .any, .any, .any, .any, .any, .any, .any, .any, .any], [], 0⟩ = ref07_Has_l1 n m v0 v1 v2)
  | 0 => by intros; exact run_lq_zero
  | m + 1 => by
    have ih := ref07_Has_l1_eq n m
    intro v0 v1 v2
    rw [run_lq_succ]
    exact (ref07_Has_b1 n).2  m _  ih v0 v1 v2
noncomputable def ref07_Has_e (n : Nat) : { B : (List Str) → Str → Option Bool // ∀ (a0 : (List Str)) (a1 : Str), run (ref07_Has_m n) [.at []] { slots := [(tyL rowS).enc a0, tyS.enc a1] ++ List.replicate (18 - [(tyL rowS).enc a0, tyS.enc a1].length) .any, heap := [] } = B a0 a1 } := by
  apply Subtype.mk
  intro a0 a1
  simp (config := { maxSteps := 100000000 }) only [go_sem, Nat.reduceAdd, Nat.reduceSub, Nat.reduceLeDiff, Nat.reduceEqDiff, Nat.reduceBEq, Nat.reduceMul, Nat.reduceLT, Int.reduceLE, Int.reduceLT, Int.reduceToNat, Int.reduceBEq, Int.reduceEq, ref07_Has_f, ref07_Has_c, Tryd.f46, Option.getD_some, mixed, ref07_Has_n1, ref07_Has_l1_eq n]
  exact rfl
noncomputable def ref07_Has : Nat → (List Str) → Str → Option Bool
  | 0, _, _ => none
  | n + 1, a0, a1 => (ref07_Has_e n).1 a0 a1
theorem ref07_Has_ok : ∀ (n : Nat) (a0 : (List Str)) (a1 : Str) (r : Bool), ref07_Has n a0 a1 = some r → FnC Tryd.prog 46 [(tyL rowS).enc a0, tyS.enc a1] (fun v => v = tyB.enc r)
  | 0, _, _, _, h => by cases h
  | n + 1, a0, a1, r, h => by
    exact fnC_run (M := ref07_Has_m n) ⟨tabA_nil_ok, tabD_nil_ok, tabN_ok _, tabF_ok _, noY_ok, noE_ok⟩ Tryd.func46 rfl rfl ⟨(tyL rowS).nb 0 _, tyS.nb 0 _, trivial⟩ Tryd.ntmps46 Tryd.results46 (fun σ hs => outR_ok (P := Tryd.prog) (rs := [.tmp 4]) (t := tyB) (σ := σ) (r := r) hs) (((ref07_Has_e n).2 a0 a1).trans h)

noncomputable def internal_stringslite_HasSuffix_m (n : Nat) : Mach Bool where
  body := (Tryd.f52.body).getD .skip
  P := Tryd.prog
  cl := tabA []
  cd := tabD []
  nrm := tabN []
  cut := tabF []
  n := n
  out := outR Tryd.prog [.tmp 4] tyB
theorem internal_stringslite_HasSuffix_f (n : Nat) : (internal_stringslite_HasSuffix_m n).P = Tryd.prog ∧ (internal_stringslite_HasSuffix_m n).cl = tabA [] ∧ (internal_stringslite_HasSuffix_m n).cd = tabD [] ∧ (internal_stringslite_HasSuffix_m n).nrm = tabN [] ∧ (internal_stringslite_HasSuffix_m n).cut = tabF [] ∧ (internal_stringslite_HasSuffix_m n).n = n ∧ (internal_stringslite_HasSuffix_m n).out = outR Tryd.prog [.tmp 4] tyB := ⟨rfl, rfl, rfl, rfl, rfl, rfl, rfl⟩
theorem internal_stringslite_HasSuffix_c (n : Nat) : (internal_stringslite_HasSuffix_m n).body = (Tryd.f52.body).getD .skip := rfl
noncomputable def internal_stringslite_HasSuffix_e (n : Nat) : { B : Str → Str → Option Bool // ∀ (a0 : Str) (a1 : Str), run (internal_stringslite_HasSuffix_m n) [.at []] { slots := [tyS.enc a0, tyS.enc a1] ++ List.replicate (21 - [tyS.enc a0, tyS.enc a1].length) .any, heap := [] } = B a0 a1 } := by
  apply Subtype.mk
  intro a0 a1
  simp (config := { maxSteps := 100000000 }) only [go_sem, Nat.reduceAdd, Nat.reduceSub, Nat.reduceLeDiff, Nat.reduceEqDiff, Nat.reduceBEq, Nat.reduceMul, Nat.reduceLT, Int.reduceLE, Int.reduceLT, Int.reduceToNat, Int.reduceBEq, Int.reduceEq, internal_stringslite_HasSuffix_f, internal_stringslite_HasSuffix_c, Tryd.f52, Option.getD_some, mixed]
  exact rfl
noncomputable def internal_stringslite_HasSuffix : Nat → Str → Str → Option Bool
  | 0, _, _ => none
  | n + 1, a0, a1 => (internal_stringslite_HasSuffix_e n).1 a0 a1
theorem internal_stringslite_HasSuffix_ok : ∀ (n : Nat) (a0 : Str) (a1 : Str) (r : Bool), internal_stringslite_HasSuffix n a0 a1 = some r → FnC Tryd.prog 52 [tyS.enc a0, tyS.enc a1] (fun v => v = tyB.enc r)
  | 0, _, _, _, h => by cases h
  | n + 1, a0, a1, r, h => by
    exact fnC_run (M := internal_stringslite_HasSuffix_m n) ⟨tabA_nil_ok, tabD_nil_ok, tabN_ok _, tabF_ok _, noY_ok, noE_ok⟩ Tryd.func52 rfl rfl ⟨tyS.nb 0 _, tyS.nb 0 _, trivial⟩ Tryd.ntmps52 Tryd.results52 (fun σ hs => outR_ok (P := Tryd.prog) (rs := [.tmp 4]) (t := tyB) (σ := σ) (r := r) hs) (((internal_stringslite_HasSuffix_e n).2 a0 a1).trans h)

noncomputable def internal_stringslite_HasPrefix_m (n : Nat) : Mach Bool where
  body := (Tryd.f71.body).getD .skip
  P := Tryd.prog
  cl := tabA []
  cd := tabD []
  nrm := tabN []
  cut := tabF []
  n := n
  out := outR Tryd.prog [.tmp 4] tyB
theorem internal_stringslite_HasPrefix_f (n : Nat) : (internal_stringslite_HasPrefix_m n).P = Tryd.prog ∧ (internal_stringslite_HasPrefix_m n).cl = tabA [] ∧ (internal_stringslite_HasPrefix_m n).cd = tabD [] ∧ (internal_stringslite_HasPrefix_m n).nrm = tabN [] ∧ (internal_stringslite_HasPrefix_m n).cut = tabF [] ∧ (internal_stringslite_HasPrefix_m n).n = n ∧ (internal_stringslite_HasPrefix_m n).out = outR Tryd.prog [.tmp 4] tyB := ⟨rfl, rfl, rfl, rfl, rfl, rfl, rfl⟩
theorem internal_stringslite_HasPrefix_c (n : Nat) : (internal_stringslite_HasPrefix_m n).body = (Tryd.f71.body).getD .skip := rfl
noncomputable def internal_stringslite_HasPrefix_e (n : Nat) : { B : Str → Str → Option Bool // ∀ (a0 : Str) (a1 : Str), run (internal_stringslite_HasPrefix_m n) [.at []] { slots := [tyS.enc a0, tyS.enc a1] ++ List.replicate (18 - [tyS.enc a0, tyS.enc a1].length) .any, heap := [] } = B a0 a1 } := by
  apply Subtype.mk
  intro a0 a1
  simp (config := { maxSteps := 100000000 }) only [go_sem, Nat.reduceAdd, Nat.reduceSub, Nat.reduceLeDiff, Nat.reduceEqDiff, Nat.reduceBEq, Nat.reduceMul, Nat.reduceLT, Int.reduceLE, Int.reduceLT, Int.reduceToNat, Int.reduceBEq, Int.reduceEq, internal_stringslite_HasPrefix_f, internal_stringslite_HasPrefix_c, Tryd.f71, Option.getD_some, mixed]
  exact rfl
noncomputable def internal_stringslite_HasPrefix : Nat → Str → Str → Option Bool
  | 0, _, _ => none
  | n + 1, a0, a1 => (internal_stringslite_HasPrefix_e n).1 a0 a1
theorem internal_stringslite_HasPrefix_ok : ∀ (n : Nat) (a0 : Str) (a1 : Str) (r : Bool), internal_stringslite_HasPrefix n a0 a1 = some r → FnC Tryd.prog 71 [tyS.enc a0, tyS.enc a1] (fun v => v = tyB.enc r)
  | 0, _, _, _, h => by cases h
  | n + 1, a0, a1, r, h => by
    exact fnC_run (M := internal_stringslite_HasPrefix_m n) ⟨tabA_nil_ok, tabD_nil_ok, tabN_ok _, tabF_ok _, noY_ok, noE_ok⟩ Tryd.func71 rfl rfl ⟨tyS.nb 0 _, tyS.nb 0 _, trivial⟩ Tryd.ntmps71 Tryd.results71 (fun σ hs => outR_ok (P := Tryd.prog) (rs := [.tmp 4]) (t := tyB) (σ := σ) (r := r) hs) (((internal_stringslite_HasPrefix_e n).2 a0 a1).trans h)

noncomputable def ref07_SameNames_n1 : Nrm := ⟨[], [], [zT (tyL rowS), zT (tyL rowS), zA, zA, zA, zK, zA, zA, zA, zA, zA, zA, zA, zA, zA, zA, zA, zA, zA, zA, zA, zA, zA, zA, zA, zA], [], none⟩
noncomputable def ref07_SameNames_m (n : Nat) : Mach Bool where
  body := (Tryd.f57.body).getD .skip
  P := Tryd.prog
  cl := tabA []
  cd := tabD []
  nrm := tabN [([0, 1, 0, 1, 1], ref07_SameNames_n1)]
  cut := tabF []
  n := n
  out := outR Tryd.prog [.tmp 4] tyB
  isE := tabI []
theorem ref07_SameNames_f (n : Nat) : (ref07_SameNames_m n).P = Tryd.prog ∧ (ref07_SameNames_m n).cl = tabA [] ∧ (ref07_SameNames_m n).cd = tabD [] ∧ (ref07_SameNames_m n).nrm = tabN [([0, 1, 0, 1, 1], ref07_SameNames_n1)] ∧ (ref07_SameNames_m n).cut = tabF [] ∧ (ref07_SameNames_m n).n = n ∧ (ref07_SameNames_m n).out = outR Tryd.prog [.tmp 4] tyB ∧ (ref07_SameNames_m n).isE = tabI [] := ⟨rfl, rfl, rfl, rfl, rfl, rfl, rfl, rfl⟩
theorem ref07_SameNames_c (n : Nat) : (ref07_SameNames_m n).body = (Tryd.f57.body).getD .skip := rfl
theorem ref07_SameNames_d (n : Nat) : drawP (ref07_SameNames_m n) [0, 0, 0, 1, 0, 0, 1, 0, 1, 1] = true := by kernel_rfl
noncomputable def ref07_SameNames_b1 (n : Nat) : { B : ((List Str) → (List Str) → Int → Option Bool) → (List Str) → (List Str) → Int → Option Bool // ∀ m X0, (∀ (v0 : List Str) (v1 : List Str) (v2 : Int), run (ref07_SameNames_m n) [.lq m [0, 1, 0, 1, 1], .blk 0, .cut [1, 1, 1], .at [1, 1, 1]] ⟨[.lst false 1 (mp scell v0), .lst false 1 (mp scell v1), .any, .any, .any, .int .i64 v2, .any, .any, .any, .any, .any, .any, .any, .any, .any, .any, .any, .any, .any, .any, .any, .any, .any, .any, .any, .any], [], 0⟩ = X0 v0 v1 v2) → ∀ (v0 : List Str) (v1 : List Str) (v2 : Int), run (ref07_SameNames_m n) [.at [0, 0, 1, 0, 1, 1], .lp m [0, 1, 0, 1, 1], .blk 0, .cut [1, 1, 1], .at [1, 1, 1]] ⟨[.lst false 1 (mp scell v0), .lst false 1 (mp scell v1), .any, .any, .any, .int .i64 v2, .any, .any, .any, .any, .any, .any, .any, .any, .any, .any, .any, .any, .any, .any, .any, .any, .any, .any, .any, .any], [], 0⟩ = B X0 v0 v1 v2 } := by
  apply Subtype.mk
  intro m X0 ih v0 v1 v2
  simp (config := { maxSteps := 100000000 }) only [go_sem, Nat.reduceAdd, Nat.reduceSub, Nat.reduceLeDiff, Nat.reduceEqDiff, Nat.reduceBEq, Nat.reduceMul, Nat.reduceLT, Int.reduceLE, Int.reduceLT, Int.reduceToNat, Int.reduceBEq, Int.reduceEq, ref07_SameNames_f, ref07_SameNames_c, Tryd.f57, Option.getD_some, mixed, ref07_SameNames_d, ref07_SameNames_n1, ih]
  exact rfl
noncomputable def ref07_SameNames_l1 (n : Nat) : Nat → (List Str) → (List Str) → Int → Option Bool
  | 0, _, _, _ => none
  | m + 1, v0, v1, v2 => (ref07_SameNames_b1 n).1 (ref07_SameNames_l1 n m) v0 v1 v2
theorem ref07_SameNames_l1_eq (n : Nat) : ∀ (m : Nat), (∀ (v0 : List Str) (v1 : List Str) (v2 : Int), run (ref07_SameNames_m n) [.lq m [0, 1, 0, 1, 1], .blk 0, .cut [1, 1, 1], .at [1, 1, 1]] ⟨[.lst false 1 (mp scell v0), .lst false 1 (mp scell v1), .any, .any, .any, .int .i64 v2, .any, .any, .any, .any, .any, .any, .any, .any, .any, .any, .any, .any, .any, .any, .any, .any, .any, .any, .any, .any], [], 0⟩ = ref07_SameNames_l1 n m v0 v1 v2)
  | 0 => by intros; exact run_lq_zero
  | m + 1 => by
    have ih := ref07_SameNames_l1_eq n m
    intro v0 v1 v2
    rw [run_lq_succ]
    exact (ref07_SameNames_b1 n).2  m _  ih v0 v1 v2
noncomputable def ref07_SameNames_e (n : Nat) : { B : (List Str) → (List Str) → Option Bool // ∀ (a0 : (List Str)) (a1 : (List Str)), run (ref07_SameNames_m n) [.at []] { slots := [(tyL rowS).enc a0, (tyL rowS).enc a1] ++ List.replicate (26 - [(tyL rowS).enc a0, (tyL rowS).enc a1].length) .any, heap := [] } = B a0 a1 } := by
  apply Subtype.mk
  intro a0 a1
  simp (config := { maxSteps := 100000000 }) only [go_sem, Nat.reduceAdd, Nat.reduceSub, Nat.reduceLeDiff, Nat.reduceEqDiff, Nat.reduceBEq, Nat.reduceMul, Nat.reduceLT, Int.reduceLE, Int.reduceLT, Int.reduceToNat, Int.reduceBEq, Int.reduceEq, ref07_SameNames_f, ref07_SameNames_c, Tryd.f57, Option.getD_some, mixed, ref07_SameNames_d, ref07_SameNames_n1, ref07_SameNames_l1_eq n]
  exact rfl
noncomputable def ref07_SameNames : Nat → (List Str) → (List Str) → Option Bool
  | 0, _, _ => none
  | n + 1, a0, a1 => (ref07_SameNames_e n).1 a0 a1
theorem ref07_SameNames_ok : ∀ (n : Nat) (a0 : (List Str)) (a1 : (List Str)) (r : Bool), ref07_SameNames n a0 a1 = some r → FnC Tryd.prog 57 [(tyL rowS).enc a0, (tyL rowS).enc a1] (fun v => v = tyB.enc r)
  | 0, _, _, _, h => by cases h
  | n + 1, a0, a1, r, h => by
    exact fnC_run (M := ref07_SameNames_m n) ⟨tabA_nil_ok, tabD_nil_ok, tabN_ok _, tabF_ok _, noY_ok, noE_ok⟩ Tryd.func57 rfl rfl ⟨(tyL rowS).nb 0 _, (tyL rowS).nb 0 _, trivial⟩ Tryd.ntmps57 Tryd.results57 (fun σ hs => outR_ok (P := Tryd.prog) (rs := [.tmp 4]) (t := tyB) (σ := σ) (r := r) hs) (((ref07_SameNames_e n).2 a0 a1).trans h)

noncomputable def scope_End_m (n : Nat) : Mach (State × Int) where
  body := (Tryd.f29.body).getD .skip
  P := Tryd.prog
  cl := tabA [(21, entG [] osN (asT (tyL rowS) asN) (osC (oaT true rowS) osN) (rsA 0 (fun (b : ((List Str) × Unit)) => b.1.length) rsN) (fun (b : Unit) a => (slices_Clone_string_2_h n) a.1))]
  cd := tabD []
  nrm := tabN []
  cut := tabF []
  n := n
  out := outR Tryd.prog [.cell 4 27, .tmp 5] (ty2 (tyC State.cel) (tyI .i64))
theorem scope_End_f (n : Nat) : (scope_End_m n).P = Tryd.prog ∧ (scope_End_m n).cl = tabA [(21, entG [] osN (asT (tyL rowS) asN) (osC (oaT true rowS) osN) (rsA 0 (fun (b : ((List Str) × Unit)) => b.1.length) rsN) (fun (b : Unit) a => (slices_Clone_string_2_h n) a.1))] ∧ (scope_End_m n).cd = tabD [] ∧ (scope_End_m n).nrm = tabN [] ∧ (scope_End_m n).cut = tabF [] ∧ (scope_End_m n).n = n ∧ (scope_End_m n).out = outR Tryd.prog [.cell 4 27, .tmp 5] (ty2 (tyC State.cel) (tyI .i64)) := ⟨rfl, rfl, rfl, rfl, rfl, rfl, rfl⟩
theorem scope_End_c (n : Nat) : (scope_End_m n).body = (Tryd.f29.body).getD .skip := rfl
noncomputable def scope_End_e (n : Nat) : { B : State → Str → Option (State × Int) // ∀ (a0 : State) (a1 : Str), run (scope_End_m n) [.at []] { slots := [(tyC State.cel).enc a0, tyS.enc a1] ++ List.replicate (31 - [(tyC State.cel).enc a0, tyS.enc a1].length) .any, heap := [] } = B a0 a1 } := by
  apply Subtype.mk
  intro a0 a1
  simp (config := { maxSteps := 100000000 }) only [go_sem, Nat.reduceAdd, Nat.reduceSub, Nat.reduceLeDiff, Nat.reduceEqDiff, Nat.reduceBEq, Nat.reduceMul, Nat.reduceLT, Int.reduceLE, Int.reduceLT, Int.reduceToNat, Int.reduceBEq, Int.reduceEq, scope_End_f, scope_End_c, Tryd.f29, Option.getD_some, mixed]
  exact rfl
noncomputable def scope_End : Nat → State → Str → Option (State × Int)
  | 0, _, _ => none
  | n + 1, a0, a1 => (scope_End_e n).1 a0 a1
theorem scope_End_ok : ∀ (n : Nat) (a0 : State) (a1 : Str) (r : (State × Int)), scope_End n a0 a1 = some r → FnC Tryd.prog 29 [(tyC State.cel).enc a0, tyS.enc a1] (fun v => v = (ty2 (tyC State.cel) (tyI .i64)).enc r)
  | 0, _, _, _, h => by cases h
  | n + 1, a0, a1, r, h => by
    exact fnC_run (M := scope_End_m n) ⟨(tabA_cons_ok (entG_ok (fun b a r h => (slices_Clone_string_2_h_ok n) a.1 r h)) tabA_nil_ok), tabD_nil_ok, tabN_ok _, tabF_ok _, noY_ok, noE_ok⟩ Tryd.func29 rfl rfl ⟨(tyC State.cel).nb 0 _, tyS.nb 0 _, trivial⟩ Tryd.ntmps29 Tryd.results29 (fun σ hs => outR_ok (P := Tryd.prog) (rs := [.cell 4 27, .tmp 5]) (t := (ty2 (tyC State.cel) (tyI .i64))) (σ := σ) (r := r) hs) (((scope_End_e n).2 a0 a1).trans h)

noncomputable def ref27_End_m (n : Nat) : Mach (State × Int) where
  body := (Tryd.f30.body).getD .skip
  P := Tryd.prog
  cl := tabA []
  cd := tabD []
  nrm := tabN []
  cut := tabF []
  n := n
  out := outR Tryd.prog [.cell 4 27, .tmp 5] (ty2 (tyC State.cel) (tyI .i64))
theorem ref27_End_f (n : Nat) : (ref27_End_m n).P = Tryd.prog ∧ (ref27_End_m n).cl = tabA [] ∧ (ref27_End_m n).cd = tabD [] ∧ (ref27_End_m n).nrm = tabN [] ∧ (ref27_End_m n).cut = tabF [] ∧ (ref27_End_m n).n = n ∧ (ref27_End_m n).out = outR Tryd.prog [.cell 4 27, .tmp 5] (ty2 (tyC State.cel) (tyI .i64)) := ⟨rfl, rfl, rfl, rfl, rfl, rfl, rfl⟩
theorem ref27_End_c (n : Nat) : (ref27_End_m n).body = (Tryd.f30.body).getD .skip := rfl
noncomputable def ref27_End_e (n : Nat) : { B : State → Str → Option (State × Int) // ∀ (a0 : State) (a1 : Str), run (ref27_End_m n) [.at []] { slots := [(tyC State.cel).enc a0, tyS.enc a1] ++ List.replicate (32 - [(tyC State.cel).enc a0, tyS.enc a1].length) .any, heap := [] } = B a0 a1 } := by
  apply Subtype.mk
  intro a0 a1
  simp (config := { maxSteps := 100000000 }) only [go_sem, Nat.reduceAdd, Nat.reduceSub, Nat.reduceLeDiff, Nat.reduceEqDiff, Nat.reduceBEq, Nat.reduceMul, Nat.reduceLT, Int.reduceLE, Int.reduceLT, Int.reduceToNat, Int.reduceBEq, Int.reduceEq, ref27_End_f, ref27_End_c, Tryd.f30, Option.getD_some, mixed]
  exact rfl
noncomputable def ref27_End : Nat → State → Str → Option (State × Int)
  | 0, _, _ => none
  | n + 1, a0, a1 => (ref27_End_e n).1 a0 a1
theorem ref27_End_ok : ∀ (n : Nat) (a0 : State) (a1 : Str) (r : (State × Int)), ref27_End n a0 a1 = some r → FnC Tryd.prog 30 [(tyC State.cel).enc a0, tyS.enc a1] (fun v => v = (ty2 (tyC State.cel) (tyI .i64)).enc r)
  | 0, _, _, _, h => by cases h
  | n + 1, a0, a1, r, h => by
    exact fnC_run (M := ref27_End_m n) ⟨tabA_nil_ok, tabD_nil_ok, tabN_ok _, tabF_ok _, noY_ok, noE_ok⟩ Tryd.func30 rfl rfl ⟨(tyC State.cel).nb 0 _, tyS.nb 0 _, trivial⟩ Tryd.ntmps30 Tryd.results30 (fun σ hs => outR_ok (P := Tryd.prog) (rs := [.cell 4 27, .tmp 5]) (t := (ty2 (tyC State.cel) (tyI .i64))) (σ := σ) (r := r) hs) (((ref27_End_e n).2 a0 a1).trans h)
end Go.Abs
namespace Go.Abs
open Go.Proofs
set_option maxRecDepth 100000
set_option maxHeartbeats 4000000
set_option linter.unusedSimpArgs false
set_option linter.unusedVariables false
noncomputable def slices_IndexFunc_string_law27_short_1_n1 : Nrm := ⟨[], [], [zT (tyL rowS), zT (tyF 53), zA, zA, zA, zA, zA, zK, zK, zA, zA, zA, zA, zA, zA, zA, zA, zA, zA], [], none⟩
noncomputable def slices_IndexFunc_string_law27_short_1_m (n : Nat) : Mach Int where
  body := (Tryd.f60.body).getD .skip
  P := Tryd.prog
  cl := tabA [(53, ent1 tyS tyB (law27_short_1 n))]
  cd := tabD []
  nrm := tabN [([0, 1, 0, 1], slices_IndexFunc_string_law27_short_1_n1)]
  cut := tabF []
  n := n
  out := outR Tryd.prog [.tmp 4] (tyI .i64)
theorem slices_IndexFunc_string_law27_short_1_f (n : Nat) : (slices_IndexFunc_string_law27_short_1_m n).P = Tryd.prog ∧ (slices_IndexFunc_string_law27_short_1_m n).cl = tabA [(53, ent1 tyS tyB (law27_short_1 n))] ∧ (slices_IndexFunc_string_law27_short_1_m n).cd = tabD [] ∧ (slices_IndexFunc_string_law27_short_1_m n).nrm = tabN [([0, 1, 0, 1], slices_IndexFunc_string_law27_short_1_n1)] ∧ (slices_IndexFunc_string_law27_short_1_m n).cut = tabF [] ∧ (slices_IndexFunc_string_law27_short_1_m n).n = n ∧ (slices_IndexFunc_string_law27_short_1_m n).out = outR Tryd.prog [.tmp 4] (tyI .i64) := ⟨rfl, rfl, rfl, rfl, rfl, rfl, rfl⟩
theorem slices_IndexFunc_string_law27_short_1_c (n : Nat) : (slices_IndexFunc_string_law27_short_1_m n).body = (Tryd.f60.body).getD .skip := rfl
noncomputable def slices_IndexFunc_string_law27_short_1_b1 (n : Nat) : { B : ((List Str) → Int → Int → Option Int) → (List Str) → Int → Int → Option Int // ∀ m X0, (∀ (v0 : List Str) (v1 : Int) (v2 : Int), run (slices_IndexFunc_string_law27_short_1_m n) [.lq m [0, 1, 0, 1], .blk 0, .cut [1, 1], .at [1, 1]] ⟨[.lst false 1 (mp scell v0), .func (.func 53) [] [], .any, .any, .any, .any, .any, .int .i64 v1, .int .i64 v2, .any, .any, .any, .any, .any, .any, .any, .any, .any, .any], [], 0⟩ = X0 v0 v1 v2) → ∀ (v0 : List Str) (v1 : Int) (v2 : Int), run (slices_IndexFunc_string_law27_short_1_m n) [.at [0, 0, 1, 0, 1], .lp m [0, 1, 0, 1], .blk 0, .cut [1, 1], .at [1, 1]] ⟨[.lst false 1 (mp scell v0), .func (.func 53) [] [], .any, .any, .any, .any, .any, .int .i64 v1, .int .i64 v2, .any, .any, .any, .any, .any, .any, .any, .any, .any, .any], [], 0⟩ = B X0 v0 v1 v2 } := by
  apply Subtype.mk
  intro m X0 ih v0 v1 v2
  simp (config := { maxSteps := 100000000 }) only [go_sem, Nat.reduceAdd, Nat.reduceSub, Nat.reduceLeDiff, Nat.reduceEqDiff, Nat.reduceBEq, Nat.reduceMul, Nat.reduceLT, Int.reduceLE, Int.reduceLT, Int.reduceToNat, Int.reduceBEq, Int.reduceEq, slices_IndexFunc_string_law27_short_1_f, slices_IndexFunc_string_law27_short_1_c, Tryd.f60, Option.getD_some, mixed, slices_IndexFunc_string_law27_short_1_n1, ih]
  exact rfl
noncomputable def slices_IndexFunc_string_law27_short_1_l1 (n : Nat) : Nat → (List Str) → Int → Int → Option Int
  | 0, _, _, _ => none
  | m + 1, v0, v1, v2 => (slices_IndexFunc_string_law27_short_1_b1 n).1 (slices_IndexFunc_string_law27_short_1_l1 n m) v0 v1 v2
theorem slices_IndexFunc_string_law27_short_1_l1_eq (n : Nat) : ∀ (m : Nat), (∀ (v0 : List Str) (v1 : Int) (v2 : Int), run (slices_IndexFunc_string_law27_short_1_m n) [.lq m [0, 1, 0, 1], .blk 0, .cut [1, 1], .at [1, 1]] ⟨[.lst false 1 (mp scell v0), .func (.func 53) [] [], .any, .any, .any, .any, .any, .int .i64 v1, .int .i64 v2, .any, .any, .any, .any, .any, .any, .any, .any, .any, .any], [], 0⟩ = slices_IndexFunc_string_law27_short_1_l1 n m v0 v1 v2)
  | 0 => by intros; exact run_lq_zero
  | m + 1 => by
    have ih := slices_IndexFunc_string_law27_short_1_l1_eq n m
    intro v0 v1 v2
    rw [run_lq_succ]
    exact (slices_IndexFunc_string_law27_short_1_b1 n).2  m _  ih v0 v1 v2
noncomputable def slices_IndexFunc_string_law27_short_1_e (n : Nat) : { B : (List Str) → Unit → Option Int // ∀ (a0 : (List Str)) (a1 : Unit), run (slices_IndexFunc_string_law27_short_1_m n) [.at []] { slots := [(tyL rowS).enc a0, (tyF 53).enc a1] ++ List.replicate (19 - [(tyL rowS).enc a0, (tyF 53).enc a1].length) .any, heap := [] } = B a0 a1 } := by
  apply Subtype.mk
  intro a0 a1
  simp (config := { maxSteps := 100000000 }) only [go_sem, Nat.reduceAdd, Nat.reduceSub, Nat.reduceLeDiff, Nat.reduceEqDiff, Nat.reduceBEq, Nat.reduceMul, Nat.reduceLT, Int.reduceLE, Int.reduceLT, Int.reduceToNat, Int.reduceBEq, Int.reduceEq, slices_IndexFunc_string_law27_short_1_f, slices_IndexFunc_string_law27_short_1_c, Tryd.f60, Option.getD_some, mixed, slices_IndexFunc_string_law27_short_1_n1, slices_IndexFunc_string_law27_short_1_l1_eq n]
  exact rfl
noncomputable def slices_IndexFunc_string_law27_short_1 : Nat → (List Str) → Unit → Option Int
  | 0, _, _ => none
  | n + 1, a0, a1 => (slices_IndexFunc_string_law27_short_1_e n).1 a0 a1
theorem slices_IndexFunc_string_law27_short_1_ok : ∀ (n : Nat) (a0 : (List Str)) (a1 : Unit) (r : Int), slices_IndexFunc_string_law27_short_1 n a0 a1 = some r → FnC Tryd.prog 60 [(tyL rowS).enc a0, (tyF 53).enc a1] (fun v => v = (tyI .i64).enc r)
  | 0, _, _, _, h => by cases h
  | n + 1, a0, a1, r, h => by
    exact fnC_run (M := slices_IndexFunc_string_law27_short_1_m n) ⟨(tabA_cons_ok (ent1_ok (law27_short_1_ok n)) tabA_nil_ok), tabD_nil_ok, tabN_ok _, tabF_ok _, noY_ok, noE_ok⟩ Tryd.func60 rfl rfl ⟨(tyL rowS).nb 0 _, (tyF 53).nb 0 _, trivial⟩ Tryd.ntmps60 Tryd.results60 (fun σ hs => outR_ok (P := Tryd.prog) (rs := [.tmp 4]) (t := (tyI .i64)) (σ := σ) (r := r) hs) (((slices_IndexFunc_string_law27_short_1_e n).2 a0 a1).trans h)

noncomputable def slices_IndexFunc_string_law27_Few_1_n1 : Nrm := ⟨[], [], [zT (tyL rowS), zT (tyF 34), zA, zA, zA, zA, zA, zK, zK, zA, zA, zA, zA, zA, zA, zA, zA, zA, zA], [], none⟩
noncomputable def slices_IndexFunc_string_law27_Few_1_m (n : Nat) : Mach Int where
  body := (Tryd.f60.body).getD .skip
  P := Tryd.prog
  cl := tabA [(34, ent1 tyS tyB (law27_Few_1 n))]
  cd := tabD []
  nrm := tabN [([0, 1, 0, 1], slices_IndexFunc_string_law27_Few_1_n1)]
  cut := tabF []
  n := n
  out := outR Tryd.prog [.tmp 4] (tyI .i64)
theorem slices_IndexFunc_string_law27_Few_1_f (n : Nat) : (slices_IndexFunc_string_law27_Few_1_m n).P = Tryd.prog ∧ (slices_IndexFunc_string_law27_Few_1_m n).cl = tabA [(34, ent1 tyS tyB (law27_Few_1 n))] ∧ (slices_IndexFunc_string_law27_Few_1_m n).cd = tabD [] ∧ (slices_IndexFunc_string_law27_Few_1_m n).nrm = tabN [([0, 1, 0, 1], slices_IndexFunc_string_law27_Few_1_n1)] ∧ (slices_IndexFunc_string_law27_Few_1_m n).cut = tabF [] ∧ (slices_IndexFunc_string_law27_Few_1_m n).n = n ∧ (slices_IndexFunc_string_law27_Few_1_m n).out = outR Tryd.prog [.tmp 4] (tyI .i64) := ⟨rfl, rfl, rfl, rfl, rfl, rfl, rfl⟩
theorem slices_IndexFunc_string_law27_Few_1_c (n : Nat) : (slices_IndexFunc_string_law27_Few_1_m n).body = (Tryd.f60.body).getD .skip := rfl
noncomputable def slices_IndexFunc_string_law27_Few_1_b1 (n : Nat) : { B : ((List Str) → Int → Int → Option Int) → (List Str) → Int → Int → Option Int // ∀ m X0, (∀ (v0 : List Str) (v1 : Int) (v2 : Int), run (slices_IndexFunc_string_law27_Few_1_m n) [.lq m [0, 1, 0, 1], .blk 0, .cut [1, 1], .at [1, 1]] ⟨[.lst false 1 (mp scell v0), .func (.func 34) [] [], .any, .any, .any, .any, .any, .int .i64 v1, .int .i64 v2, .any, .any, .any, .any, .any, .any, .any, .any, .any, .any], [], 0⟩ = X0 v0 v1 v2) → ∀ (v0 : List Str) (v1 : Int) (v2 : Int), run (slices_IndexFunc_string_law27_Few_1_m n) [.at [0, 0, 1, 0, 1], .lp m [0, 1, 0, 1], .blk 0, .cut [1, 1], .at [1, 1]] ⟨[.lst false 1 (mp scell v0), .func (.func 34) [] [], .any, .any, .any, .any, .any, .int .i64 v1, .int .i64 v2, .any, .any, .any, .any, .any, .any, .any, .any, .any, .any], [], 0⟩ = B X0 v0 v1 v2 } := by
  apply Subtype.mk
  intro m X0 ih v0 v1 v2
  simp (config := { maxSteps := 100000000 }) only [go_sem, Nat.reduceAdd, Nat.reduceSub, Nat.reduceLeDiff, Nat.reduceEqDiff, Nat.reduceBEq, Nat.reduceMul, Nat.reduceLT, Int.reduceLE, Int.reduceLT, Int.reduceToNat, Int.reduceBEq, Int.reduceEq, slices_IndexFunc_string_law27_Few_1_f, slices_IndexFunc_string_law27_Few_1_c, Tryd.f60, Option.getD_some, mixed, slices_IndexFunc_string_law27_Few_1_n1, ih]
  exact rfl
noncomputable def slices_IndexFunc_string_law27_Few_1_l1 (n : Nat) : Nat → (List Str) → Int → Int → Option Int
  | 0, _, _, _ => none
  | m + 1, v0, v1, v2 => (slices_IndexFunc_string_law27_Few_1_b1 n).1 (slices_IndexFunc_string_law27_Few_1_l1 n m) v0 v1 v2
theorem slices_IndexFunc_string_law27_Few_1_l1_eq (n : Nat) : ∀ (m : Nat), (∀ (v0 : List Str) (v1 : Int) (v2 : Int), run (slices_IndexFunc_string_law27_Few_1_m n) [.lq m [0, 1, 0, 1], .blk 0, .cut [1, 1], .at [1, 1]] ⟨[.lst false 1 (mp scell v0), .func (.func 34) [] [], .any, .any, .any, .any, .any, .int .i64 v1, .int .i64 v2, .any, .any, .any, .any, .any, .any, .any, .any, .any, .any], [], 0⟩ = slices_IndexFunc_string_law27_Few_1_l1 n m v0 v1 v2)
  | 0 => by intros; exact run_lq_zero
  | m + 1 => by
    have ih := slices_IndexFunc_string_law27_Few_1_l1_eq n m
    intro v0 v1 v2
    rw [run_lq_succ]
    exact (slices_IndexFunc_string_law27_Few_1_b1 n).2  m _  ih v0 v1 v2
noncomputable def slices_IndexFunc_string_law27_Few_1_e (n : Nat) : { B : (List Str) → Unit → Option Int // ∀ (a0 : (List Str)) (a1 : Unit), run (slices_IndexFunc_string_law27_Few_1_m n) [.at []] { slots := [(tyL rowS).enc a0, (tyF 34).enc a1] ++ List.replicate (19 - [(tyL rowS).enc a0, (tyF 34).enc a1].length) .any, heap := [] } = B a0 a1 } := by
  apply Subtype.mk
  intro a0 a1
  simp (config := { maxSteps := 100000000 }) only [go_sem, Nat.reduceAdd, Nat.reduceSub, Nat.reduceLeDiff, Nat.reduceEqDiff, Nat.reduceBEq, Nat.reduceMul, Nat.reduceLT, Int.reduceLE, Int.reduceLT, Int.reduceToNat, Int.reduceBEq, Int.reduceEq, slices_IndexFunc_string_law27_Few_1_f, slices_IndexFunc_string_law27_Few_1_c, Tryd.f60, Option.getD_some, mixed, slices_IndexFunc_string_law27_Few_1_n1, slices_IndexFunc_string_law27_Few_1_l1_eq n]
  exact rfl
noncomputable def slices_IndexFunc_string_law27_Few_1 : Nat → (List Str) → Unit → Option Int
  | 0, _, _ => none
  | n + 1, a0, a1 => (slices_IndexFunc_string_law27_Few_1_e n).1 a0 a1
theorem slices_IndexFunc_string_law27_Few_1_ok : ∀ (n : Nat) (a0 : (List Str)) (a1 : Unit) (r : Int), slices_IndexFunc_string_law27_Few_1 n a0 a1 = some r → FnC Tryd.prog 60 [(tyL rowS).enc a0, (tyF 34).enc a1] (fun v => v = (tyI .i64).enc r)
  | 0, _, _, _, h => by cases h
  | n + 1, a0, a1, r, h => by
    exact fnC_run (M := slices_IndexFunc_string_law27_Few_1_m n) ⟨(tabA_cons_ok (ent1_ok (law27_Few_1_ok n)) tabA_nil_ok), tabD_nil_ok, tabN_ok _, tabF_ok _, noY_ok, noE_ok⟩ Tryd.func60 rfl rfl ⟨(tyL rowS).nb 0 _, (tyF 34).nb 0 _, trivial⟩ Tryd.ntmps60 Tryd.results60 (fun σ hs => outR_ok (P := Tryd.prog) (rs := [.tmp 4]) (t := (tyI .i64)) (σ := σ) (r := r) hs) (((slices_IndexFunc_string_law27_Few_1_e n).2 a0 a1).trans h)

noncomputable def term_Name_n1 : Nrm := ⟨[], [], [zK, zA, zA, zK, zA, zA, zA, zK, zK, zA, zA, zA, zA, zA, zA, zA, zA, zA, zA, zA, zA, zA, zA, zA, zA, zA, zA, zA, zA, zA, zA, zA, zA, zA, zA, zA, zA, zA, zA], [], none⟩
noncomputable def term_Name_m (n : Nat) : Mach Bool where
  body := (Tryd.f36.body).getD .skip
  P := Tryd.prog
  cl := tabA [(61, ent1 (tyI .u8) tyB (term_letter n))]
  cd := tabD []
  nrm := tabN [([0, 1, 0, 1, 1], term_Name_n1)]
  cut := tabF []
  n := n
  out := outR Tryd.prog [.tmp 2] tyB
theorem term_Name_f (n : Nat) : (term_Name_m n).P = Tryd.prog ∧ (term_Name_m n).cl = tabA [(61, ent1 (tyI .u8) tyB (term_letter n))] ∧ (term_Name_m n).cd = tabD [] ∧ (term_Name_m n).nrm = tabN [([0, 1, 0, 1, 1], term_Name_n1)] ∧ (term_Name_m n).cut = tabF [] ∧ (term_Name_m n).n = n ∧ (term_Name_m n).out = outR Tryd.prog [.tmp 2] tyB := ⟨rfl, rfl, rfl, rfl, rfl, rfl, rfl⟩
theorem term_Name_c (n : Nat) : (term_Name_m n).body = (Tryd.f36.body).getD .skip := rfl
noncomputable def term_Name_b1 (n : Nat) : { B : (Str → Bool → Int → Int → Option Bool) → Str → Bool → Int → Int → Option Bool // ∀ m X0, (∀ (v0 : Str) (v1 : Bool) (v2 : Int) (v3 : Int), run (term_Name_m n) [.lq m [0, 1, 0, 1, 1], .blk 0, .cut [1, 1, 1], .at [1, 1, 1]] ⟨[.str (sb v0), .any, .any, .bool v1, .any, .any, .any, .int .i64 v2, .int .i64 v3, .any, .any, .any, .any, .any, .any, .any, .any, .any, .any, .any, .any, .any, .any, .any, .any, .any, .any, .any, .any, .any, .any, .any, .any, .any, .any, .any, .any, .any, .any], [], 0⟩ = X0 v0 v1 v2 v3) → ∀ (v0 : Str) (v1 : Bool) (v2 : Int) (v3 : Int), run (term_Name_m n) [.at [0, 0, 1, 0, 1, 1], .lp m [0, 1, 0, 1, 1], .blk 0, .cut [1, 1, 1], .at [1, 1, 1]] ⟨[.str (sb v0), .any, .any, .bool v1, .any, .any, .any, .int .i64 v2, .int .i64 v3, .any, .any, .any, .any, .any, .any, .any, .any, .any, .any, .any, .any, .any, .any, .any, .any, .any, .any, .any, .any, .any, .any, .any, .any, .any, .any, .any, .any, .any, .any], [], 0⟩ = B X0 v0 v1 v2 v3 } := by
  apply Subtype.mk
  intro m X0 ih v0 v1 v2 v3
  simp (config := { maxSteps := 100000000 }) only [go_sem, Nat.reduceAdd, Nat.reduceSub, Nat.reduceLeDiff, Nat.reduceEqDiff, Nat.reduceBEq, Nat.reduceMul, Nat.reduceLT, Int.reduceLE, Int.reduceLT, Int.reduceToNat, Int.reduceBEq, Int.reduceEq, term_Name_f, term_Name_c, Tryd.f36, Option.getD_some, mixed, term_Name_n1, ih]
  exact rfl
noncomputable def term_Name_l1 (n : Nat) : Nat → Str → Bool → Int → Int → Option Bool
  | 0, _, _, _, _ => none
  | m + 1, v0, v1, v2, v3 => (term_Name_b1 n).1 (term_Name_l1 n m) v0 v1 v2 v3
theorem term_Name_l1_eq (n : Nat) : ∀ (m : Nat), (∀ (v0 : Str) (v1 : Bool) (v2 : Int) (v3 : Int), run (term_Name_m n) [.lq m [0, 1, 0, 1, 1], .blk 0, .cut [1, 1, 1], .at [1, 1, 1]] ⟨[.str (sb v0), .any, .any, .bool v1, .any, .any, .any, .int .i64 v2, .int .i64 v3, .any, .any, .any, .any, .any, .any, .any, .any, .any, .any, .any, .any, .any, .any, .any, .any, .any, .any, .any, .any, .any, .any, .any, .any, .any, .any, .any, .any, .any, .any], [], 0⟩ = term_Name_l1 n m v0 v1 v2 v3)
  | 0 => by intros; exact run_lq_zero
  | m + 1 => by
    have ih := term_Name_l1_eq n m
    intro v0 v1 v2 v3
    rw [run_lq_succ]
    exact (term_Name_b1 n).2  m _  ih v0 v1 v2 v3
noncomputable def term_Name_e (n : Nat) : { B : Str → Option Bool // ∀ (a0 : Str), run (term_Name_m n) [.at []] { slots := [tyS.enc a0] ++ List.replicate (39 - [tyS.enc a0].length) .any, heap := [] } = B a0 } := by
  apply Subtype.mk
  intro a0
  simp (config := { maxSteps := 100000000 }) only [go_sem, Nat.reduceAdd, Nat.reduceSub, Nat.reduceLeDiff, Nat.reduceEqDiff, Nat.reduceBEq, Nat.reduceMul, Nat.reduceLT, Int.reduceLE, Int.reduceLT, Int.reduceToNat, Int.reduceBEq, Int.reduceEq, term_Name_f, term_Name_c, Tryd.f36, Option.getD_some, mixed, term_Name_n1, term_Name_l1_eq n]
  exact rfl
noncomputable def term_Name : Nat → Str → Option Bool
  | 0, _ => none
  | n + 1, a0 => (term_Name_e n).1 a0
theorem term_Name_ok : ∀ (n : Nat) (a0 : Str) (r : Bool), term_Name n a0 = some r → FnC Tryd.prog 36 [tyS.enc a0] (fun v => v = tyB.enc r)
  | 0, _, _, h => by cases h
  | n + 1, a0, r, h => by
    exact fnC_run (M := term_Name_m n) ⟨(tabA_cons_ok (ent1_ok (term_letter_ok n)) tabA_nil_ok), tabD_nil_ok, tabN_ok _, tabF_ok _, noY_ok, noE_ok⟩ Tryd.func36 rfl rfl ⟨tyS.nb 0 _, trivial⟩ Tryd.ntmps36 Tryd.results36 (fun σ hs => outR_ok (P := Tryd.prog) (rs := [.tmp 2]) (t := tyB) (σ := σ) (r := r) hs) (((term_Name_e n).2 a0).trans h)

noncomputable def slices_Contains_string_m (n : Nat) : Mach Bool where
  body := (Tryd.f32.body).getD .skip
  P := Tryd.prog
  cl := tabA [(59, ent2 (tyL rowS) tyS (tyI .i64) (slices_Index_string n))]
  cd := tabD []
  nrm := tabN []
  cut := tabF []
  n := n
  out := outR Tryd.prog [.tmp 4] tyB
theorem slices_Contains_string_f (n : Nat) : (slices_Contains_string_m n).P = Tryd.prog ∧ (slices_Contains_string_m n).cl = tabA [(59, ent2 (tyL rowS) tyS (tyI .i64) (slices_Index_string n))] ∧ (slices_Contains_string_m n).cd = tabD [] ∧ (slices_Contains_string_m n).nrm = tabN [] ∧ (slices_Contains_string_m n).cut = tabF [] ∧ (slices_Contains_string_m n).n = n ∧ (slices_Contains_string_m n).out = outR Tryd.prog [.tmp 4] tyB := ⟨rfl, rfl, rfl, rfl, rfl, rfl, rfl⟩
theorem slices_Contains_string_c (n : Nat) : (slices_Contains_string_m n).body = (Tryd.f32.body).getD .skip := rfl
noncomputable def slices_Contains_string_e (n : Nat) : { B : (List Str) → Str → Option Bool // ∀ (a0 : (List Str)) (a1 : Str), run (slices_Contains_string_m n) [.at []] { slots := [(tyL rowS).enc a0, tyS.enc a1] ++ List.replicate (9 - [(tyL rowS).enc a0, tyS.enc a1].length) .any, heap := [] } = B a0 a1 } := by
  apply Subtype.mk
  intro a0 a1
  simp (config := { maxSteps := 100000000 }) only [go_sem, Nat.reduceAdd, Nat.reduceSub, Nat.reduceLeDiff, Nat.reduceEqDiff, Nat.reduceBEq, Nat.reduceMul, Nat.reduceLT, Int.reduceLE, Int.reduceLT, Int.reduceToNat, Int.reduceBEq, Int.reduceEq, slices_Contains_string_f, slices_Contains_string_c, Tryd.f32, Option.getD_some, mixed]
  exact rfl
noncomputable def slices_Contains_string : Nat → (List Str) → Str → Option Bool
  | 0, _, _ => none
  | n + 1, a0, a1 => (slices_Contains_string_e n).1 a0 a1
theorem slices_Contains_string_ok : ∀ (n : Nat) (a0 : (List Str)) (a1 : Str) (r : Bool), slices_Contains_string n a0 a1 = some r → FnC Tryd.prog 32 [(tyL rowS).enc a0, tyS.enc a1] (fun v => v = tyB.enc r)
  | 0, _, _, _, h => by cases h
  | n + 1, a0, a1, r, h => by
    exact fnC_run (M := slices_Contains_string_m n) ⟨(tabA_cons_ok (ent2_ok (slices_Index_string_ok n)) tabA_nil_ok), tabD_nil_ok, tabN_ok _, tabF_ok _, noY_ok, noE_ok⟩ Tryd.func32 rfl rfl ⟨(tyL rowS).nb 0 _, tyS.nb 0 _, trivial⟩ Tryd.ntmps32 Tryd.results32 (fun σ hs => outR_ok (P := Tryd.prog) (rs := [.tmp 4]) (t := tyB) (σ := σ) (r := r) hs) (((slices_Contains_string_e n).2 a0 a1).trans h)

noncomputable def scope_Qualify_m (n : Nat) : Mach Str where
  body := (Tryd.f17.body).getD .skip
  P := Tryd.prog
  cl := tabA [(38, ent2 (tyL rowS) tyS tyS (scope_path_joined n))]
  cd := tabD []
  nrm := tabN []
  cut := tabF []
  n := n
  out := outR Tryd.prog [.tmp 4] tyS
theorem scope_Qualify_f (n : Nat) : (scope_Qualify_m n).P = Tryd.prog ∧ (scope_Qualify_m n).cl = tabA [(38, ent2 (tyL rowS) tyS tyS (scope_path_joined n))] ∧ (scope_Qualify_m n).cd = tabD [] ∧ (scope_Qualify_m n).nrm = tabN [] ∧ (scope_Qualify_m n).cut = tabF [] ∧ (scope_Qualify_m n).n = n ∧ (scope_Qualify_m n).out = outR Tryd.prog [.tmp 4] tyS := ⟨rfl, rfl, rfl, rfl, rfl, rfl, rfl⟩
theorem scope_Qualify_c (n : Nat) : (scope_Qualify_m n).body = (Tryd.f17.body).getD .skip := rfl
noncomputable def scope_Qualify_e (n : Nat) : { B : State → Str → Option Str // ∀ (a0 : State) (a1 : Str), run (scope_Qualify_m n) [.at []] { slots := [(tyC State.cel).enc a0, tyS.enc a1] ++ List.replicate (9 - [(tyC State.cel).enc a0, tyS.enc a1].length) .any, heap := [] } = B a0 a1 } := by
  apply Subtype.mk
  intro a0 a1
  simp (config := { maxSteps := 100000000 }) only [go_sem, Nat.reduceAdd, Nat.reduceSub, Nat.reduceLeDiff, Nat.reduceEqDiff, Nat.reduceBEq, Nat.reduceMul, Nat.reduceLT, Int.reduceLE, Int.reduceLT, Int.reduceToNat, Int.reduceBEq, Int.reduceEq, scope_Qualify_f, scope_Qualify_c, Tryd.f17, Option.getD_some, mixed]
  exact rfl
noncomputable def scope_Qualify : Nat → State → Str → Option Str
  | 0, _, _ => none
  | n + 1, a0, a1 => (scope_Qualify_e n).1 a0 a1
theorem scope_Qualify_ok : ∀ (n : Nat) (a0 : State) (a1 : Str) (r : Str), scope_Qualify n a0 a1 = some r → FnC Tryd.prog 17 [(tyC State.cel).enc a0, tyS.enc a1] (fun v => v = tyS.enc r)
  | 0, _, _, _, h => by cases h
  | n + 1, a0, a1, r, h => by
    exact fnC_run (M := scope_Qualify_m n) ⟨(tabA_cons_ok (ent2_ok (scope_path_joined_ok n)) tabA_nil_ok), tabD_nil_ok, tabN_ok _, tabF_ok _, noY_ok, noE_ok⟩ Tryd.func17 rfl rfl ⟨(tyC State.cel).nb 0 _, tyS.nb 0 _, trivial⟩ Tryd.ntmps17 Tryd.results17 (fun σ hs => outR_ok (P := Tryd.prog) (rs := [.tmp 4]) (t := tyS) (σ := σ) (r := r) hs) (((scope_Qualify_e n).2 a0 a1).trans h)

noncomputable def ref03_Name_n1 : Nrm := ⟨[], [], [zK, zA, zA, zK, zK, zA, zA, zA, zA, zA, zA, zA, zA, zA, zA, zA, zA, zA, zA, zA, zA, zA, zA, zA, zA, zA, zA, zA, zA, zA, zA, zA, zA, zA, zA, zA, zA, zA, zA, zA, zA, zA, zA, zA, zA], [], none⟩
noncomputable def ref03_Name_m (n : Nat) : Mach Bool where
  body := (Tryd.f40.body).getD .skip
  P := Tryd.prog
  cl := tabA [(64, ent1 (tyI .u8) tyB (ref03_letter n))]
  cd := tabD []
  nrm := tabN [([0, 1, 0, 1, 1, 1], ref03_Name_n1)]
  cut := tabF []
  n := n
  out := outR Tryd.prog [.tmp 2] tyB
theorem ref03_Name_f (n : Nat) : (ref03_Name_m n).P = Tryd.prog ∧ (ref03_Name_m n).cl = tabA [(64, ent1 (tyI .u8) tyB (ref03_letter n))] ∧ (ref03_Name_m n).cd = tabD [] ∧ (ref03_Name_m n).nrm = tabN [([0, 1, 0, 1, 1, 1], ref03_Name_n1)] ∧ (ref03_Name_m n).cut = tabF [] ∧ (ref03_Name_m n).n = n ∧ (ref03_Name_m n).out = outR Tryd.prog [.tmp 2] tyB := ⟨rfl, rfl, rfl, rfl, rfl, rfl, rfl⟩
theorem ref03_Name_c (n : Nat) : (ref03_Name_m n).body = (Tryd.f40.body).getD .skip := rfl
noncomputable def ref03_Name_b1 (n : Nat) : { B : (Str → Bool → Int → Option Bool) → Str → Bool → Int → Option Bool // ∀ m X0, (∀ (v0 : Str) (v1 : Bool) (v2 : Int), run (ref03_Name_m n) [.lq m [0, 1, 0, 1, 1, 1], .blk 0, .cut [1, 1, 1, 1], .at [1, 1, 1, 1]] ⟨[.str (sb v0), .any, .any, .bool v1, .int .i64 v2, .any, .any, .any, .any, .any, .any, .any, .any, .any, .any, .any, .any, .any, .any, .any, .any, .any, .any, .any, .any, .any, .any, .any, .any, .any, .any, .any, .any, .any, .any, .any, .any, .any, .any, .any, .any, .any, .any, .any, .any], [], 0⟩ = X0 v0 v1 v2) → ∀ (v0 : Str) (v1 : Bool) (v2 : Int), run (ref03_Name_m n) [.at [0, 0, 1, 0, 1, 1, 1], .lp m [0, 1, 0, 1, 1, 1], .blk 0, .cut [1, 1, 1, 1], .at [1, 1, 1, 1]] ⟨[.str (sb v0), .any, .any, .bool v1, .int .i64 v2, .any, .any, .any, .any, .any, .any, .any, .any, .any, .any, .any, .any, .any, .any, .any, .any, .any, .any, .any, .any, .any, .any, .any, .any, .any, .any, .any, .any, .any, .any, .any, .any, .any, .any, .any, .any, .any, .any, .any, .any], [], 0⟩ = B X0 v0 v1 v2 } := by
  apply Subtype.mk
  intro m X0 ih v0 v1 v2
  simp (config := { maxSteps := 100000000 }) only [go_sem, Nat.reduceAdd, Nat.reduceSub, Nat.reduceLeDiff, Nat.reduceEqDiff, Nat.reduceBEq, Nat.reduceMul, Nat.reduceLT, Int.reduceLE, Int.reduceLT, Int.reduceToNat, Int.reduceBEq, Int.reduceEq, ref03_Name_f, ref03_Name_c, Tryd.f40, Option.getD_some, mixed, ref03_Name_n1, ih]
  exact rfl
noncomputable def ref03_Name_l1 (n : Nat) : Nat → Str → Bool → Int → Option Bool
  | 0, _, _, _ => none
  | m + 1, v0, v1, v2 => (ref03_Name_b1 n).1 (ref03_Name_l1 n m) v0 v1 v2
theorem ref03_Name_l1_eq (n : Nat) : ∀ (m : Nat), (∀ (v0 : Str) (v1 : Bool) (v2 : Int), run (ref03_Name_m n) [.lq m [0, 1, 0, 1, 1, 1], .blk 0, .cut [1, 1, 1, 1], .at [1, 1, 1, 1]] ⟨[.str (sb v0), .any, .any, .bool v1, .int .i64 v2, .any, .any, .any, .any, .any, .any, .any, .any, .any, .any, .any, .any, .any, .any, .any, .any, .any, .any, .any, .any, .any, .any, .any, .any, .any, .any, .any, .any, .any, .any, .any, .any, .any, .any, .any, .any, .any, .any, .any, .any], [], 0⟩ = ref03_Name_l1 n m v0 v1 v2)
  | 0 => by intros; exact run_lq_zero
  | m + 1 => by
    have ih := ref03_Name_l1_eq n m
    intro v0 v1 v2
    rw [run_lq_succ]
    exact (ref03_Name_b1 n).2  m _  ih v0 v1 v2
noncomputable def ref03_Name_e (n : Nat) : { B : Str → Option Bool // ∀ (a0 : Str), run (ref03_Name_m n) [.at []] { slots := [tyS.enc a0] ++ List.replicate (45 - [tyS.enc a0].length) .any, heap := [] } = B a0 } := by
  apply Subtype.mk
  intro a0
  simp (config := { maxSteps := 100000000 }) only [go_sem, Nat.reduceAdd, Nat.reduceSub, Nat.reduceLeDiff, Nat.reduceEqDiff, Nat.reduceBEq, Nat.reduceMul, Nat.reduceLT, Int.reduceLE, Int.reduceLT, Int.reduceToNat, Int.reduceBEq, Int.reduceEq, ref03_Name_f, ref03_Name_c, Tryd.f40, Option.getD_some, mixed, ref03_Name_n1, ref03_Name_l1_eq n]
  exact rfl
noncomputable def ref03_Name : Nat → Str → Option Bool
  | 0, _ => none
  | n + 1, a0 => (ref03_Name_e n).1 a0
theorem ref03_Name_ok : ∀ (n : Nat) (a0 : Str) (r : Bool), ref03_Name n a0 = some r → FnC Tryd.prog 40 [tyS.enc a0] (fun v => v = tyB.enc r)
  | 0, _, _, h => by cases h
  | n + 1, a0, r, h => by
    exact fnC_run (M := ref03_Name_m n) ⟨(tabA_cons_ok (ent1_ok (ref03_letter_ok n)) tabA_nil_ok), tabD_nil_ok, tabN_ok _, tabF_ok _, noY_ok, noE_ok⟩ Tryd.func40 rfl rfl ⟨tyS.nb 0 _, trivial⟩ Tryd.ntmps40 Tryd.results40 (fun σ hs => outR_ok (P := Tryd.prog) (rs := [.tmp 2]) (t := tyB) (σ := σ) (r := r) hs) (((ref03_Name_e n).2 a0).trans h)
end Go.Abs
namespace Go.Abs
open Go.Proofs
set_option maxRecDepth 100000
set_option maxHeartbeats 4000000
set_option linter.unusedSimpArgs false
set_option linter.unusedVariables false
noncomputable def ref27_Declared_n1 : Nrm := ⟨[], [], [zA, zK, zK, zA, zA, zK, zA, zA, zA, zA, zA, zA, zA, zA, zA, zA, zA, zA, zA, zA, zA], [oT State.cel], none⟩
noncomputable def ref27_Declared_m (n : Nat) : Mach Bool where
  body := (Tryd.f16.body).getD .skip
  P := Tryd.prog
  cl := tabA [(46, ent2 (tyL rowS) tyS tyB (ref07_Has n)), (47, ent1 (tyC Decl.cel) (tyL rowS) (ref07_Names n))]
  cd := tabD []
  nrm := tabN [([0, 1, 0, 1], ref27_Declared_n1)]
  cut := tabF []
  n := n
  out := outR Tryd.prog [.tmp 4] tyB
theorem ref27_Declared_f (n : Nat) : (ref27_Declared_m n).P = Tryd.prog ∧ (ref27_Declared_m n).cl = tabA [(46, ent2 (tyL rowS) tyS tyB (ref07_Has n)), (47, ent1 (tyC Decl.cel) (tyL rowS) (ref07_Names n))] ∧ (ref27_Declared_m n).cd = tabD [] ∧ (ref27_Declared_m n).nrm = tabN [([0, 1, 0, 1], ref27_Declared_n1)] ∧ (ref27_Declared_m n).cut = tabF [] ∧ (ref27_Declared_m n).n = n ∧ (ref27_Declared_m n).out = outR Tryd.prog [.tmp 4] tyB := ⟨rfl, rfl, rfl, rfl, rfl, rfl, rfl⟩
theorem ref27_Declared_c (n : Nat) : (ref27_Declared_m n).body = (Tryd.f16.body).getD .skip := rfl
noncomputable def ref27_Declared_b1 (n : Nat) : { B : (Str → Int → State → Option Bool) → Str → Int → State → Option Bool // ∀ m X0, (∀ (v0 : Str) (v1 : Int) (o0 : State), run (ref27_Declared_m n) [.lq m [0, 1, 0, 1], .blk 0, .cut [1, 1], .at [1, 1]] ⟨[.any, .str (sb v0), .ptr 0 0, .any, .any, .int .i64 v1, .any, .any, .any, .any, .any, .any, .any, .any, .any, .any, .any, .any, .any, .any, .any], [.cells (State.cells o0)], 0⟩ = X0 v0 v1 o0) → ∀ (v0 : Str) (v1 : Int) (o0 : State), run (ref27_Declared_m n) [.at [0, 0, 1, 0, 1], .lp m [0, 1, 0, 1], .blk 0, .cut [1, 1], .at [1, 1]] ⟨[.any, .str (sb v0), .ptr 0 0, .any, .any, .int .i64 v1, .any, .any, .any, .any, .any, .any, .any, .any, .any, .any, .any, .any, .any, .any, .any], [.cells (State.cells o0)], 0⟩ = B X0 v0 v1 o0 } := by
  apply Subtype.mk
  intro m X0 ih v0 v1 o0
  simp (config := { maxSteps := 100000000 }) only [go_sem, Nat.reduceAdd, Nat.reduceSub, Nat.reduceLeDiff, Nat.reduceEqDiff, Nat.reduceBEq, Nat.reduceMul, Nat.reduceLT, Int.reduceLE, Int.reduceLT, Int.reduceToNat, Int.reduceBEq, Int.reduceEq, ref27_Declared_f, ref27_Declared_c, Tryd.f16, Option.getD_some, mixed, ref27_Declared_n1, ih]
  exact rfl
noncomputable def ref27_Declared_l1 (n : Nat) : Nat → Str → Int → State → Option Bool
  | 0, _, _, _ => none
  | m + 1, v0, v1, o0 => (ref27_Declared_b1 n).1 (ref27_Declared_l1 n m) v0 v1 o0
theorem ref27_Declared_l1_eq (n : Nat) : ∀ (m : Nat), (∀ (v0 : Str) (v1 : Int) (o0 : State), run (ref27_Declared_m n) [.lq m [0, 1, 0, 1], .blk 0, .cut [1, 1], .at [1, 1]] ⟨[.any, .str (sb v0), .ptr 0 0, .any, .any, .int .i64 v1, .any, .any, .any, .any, .any, .any, .any, .any, .any, .any, .any, .any, .any, .any, .any], [.cells (State.cells o0)], 0⟩ = ref27_Declared_l1 n m v0 v1 o0)
  | 0 => by intros; exact run_lq_zero
  | m + 1 => by
    have ih := ref27_Declared_l1_eq n m
    intro v0 v1 o0
    rw [run_lq_succ]
    exact (ref27_Declared_b1 n).2  m _  ih v0 v1 o0
noncomputable def ref27_Declared_e (n : Nat) : { B : State → Str → Option Bool // ∀ (a0 : State) (a1 : Str), run (ref27_Declared_m n) [.at []] { slots := [(tyC State.cel).enc a0, tyS.enc a1] ++ List.replicate (21 - [(tyC State.cel).enc a0, tyS.enc a1].length) .any, heap := [] } = B a0 a1 } := by
  apply Subtype.mk
  intro a0 a1
  simp (config := { maxSteps := 100000000 }) only [go_sem, Nat.reduceAdd, Nat.reduceSub, Nat.reduceLeDiff, Nat.reduceEqDiff, Nat.reduceBEq, Nat.reduceMul, Nat.reduceLT, Int.reduceLE, Int.reduceLT, Int.reduceToNat, Int.reduceBEq, Int.reduceEq, ref27_Declared_f, ref27_Declared_c, Tryd.f16, Option.getD_some, mixed, ref27_Declared_n1, ref27_Declared_l1_eq n]
  exact rfl
noncomputable def ref27_Declared : Nat → State → Str → Option Bool
  | 0, _, _ => none
  | n + 1, a0, a1 => (ref27_Declared_e n).1 a0 a1
theorem ref27_Declared_ok : ∀ (n : Nat) (a0 : State) (a1 : Str) (r : Bool), ref27_Declared n a0 a1 = some r → FnC Tryd.prog 16 [(tyC State.cel).enc a0, tyS.enc a1] (fun v => v = tyB.enc r)
  | 0, _, _, _, h => by cases h
  | n + 1, a0, a1, r, h => by
    exact fnC_run (M := ref27_Declared_m n) ⟨(tabA_cons_ok (ent2_ok (ref07_Has_ok n)) (tabA_cons_ok (ent1_ok (ref07_Names_ok n)) tabA_nil_ok)), tabD_nil_ok, tabN_ok _, tabF_ok _, noY_ok, noE_ok⟩ Tryd.func16 rfl rfl ⟨(tyC State.cel).nb 0 _, tyS.nb 0 _, trivial⟩ Tryd.ntmps16 Tryd.results16 (fun σ hs => outR_ok (P := Tryd.prog) (rs := [.tmp 4]) (t := tyB) (σ := σ) (r := r) hs) (((ref27_Declared_e n).2 a0 a1).trans h)

noncomputable def ref27_Qualify_m (n : Nat) : Mach Str where
  body := (Tryd.f18.body).getD .skip
  P := Tryd.prog
  cl := tabA [(41, ent3 (tyL rowS) (tyI .i64) tyS tyS (ref27_join n))]
  cd := tabD []
  nrm := tabN []
  cut := tabF []
  n := n
  out := outR Tryd.prog [.tmp 4] tyS
theorem ref27_Qualify_f (n : Nat) : (ref27_Qualify_m n).P = Tryd.prog ∧ (ref27_Qualify_m n).cl = tabA [(41, ent3 (tyL rowS) (tyI .i64) tyS tyS (ref27_join n))] ∧ (ref27_Qualify_m n).cd = tabD [] ∧ (ref27_Qualify_m n).nrm = tabN [] ∧ (ref27_Qualify_m n).cut = tabF [] ∧ (ref27_Qualify_m n).n = n ∧ (ref27_Qualify_m n).out = outR Tryd.prog [.tmp 4] tyS := ⟨rfl, rfl, rfl, rfl, rfl, rfl, rfl⟩
theorem ref27_Qualify_c (n : Nat) : (ref27_Qualify_m n).body = (Tryd.f18.body).getD .skip := rfl
noncomputable def ref27_Qualify_e (n : Nat) : { B : State → Str → Option Str // ∀ (a0 : State) (a1 : Str), run (ref27_Qualify_m n) [.at []] { slots := [(tyC State.cel).enc a0, tyS.enc a1] ++ List.replicate (12 - [(tyC State.cel).enc a0, tyS.enc a1].length) .any, heap := [] } = B a0 a1 } := by
  apply Subtype.mk
  intro a0 a1
  simp (config := { maxSteps := 100000000 }) only [go_sem, Nat.reduceAdd, Nat.reduceSub, Nat.reduceLeDiff, Nat.reduceEqDiff, Nat.reduceBEq, Nat.reduceMul, Nat.reduceLT, Int.reduceLE, Int.reduceLT, Int.reduceToNat, Int.reduceBEq, Int.reduceEq, ref27_Qualify_f, ref27_Qualify_c, Tryd.f18, Option.getD_some, mixed]
  exact rfl
noncomputable def ref27_Qualify : Nat → State → Str → Option Str
  | 0, _, _ => none
  | n + 1, a0, a1 => (ref27_Qualify_e n).1 a0 a1
theorem ref27_Qualify_ok : ∀ (n : Nat) (a0 : State) (a1 : Str) (r : Str), ref27_Qualify n a0 a1 = some r → FnC Tryd.prog 18 [(tyC State.cel).enc a0, tyS.enc a1] (fun v => v = tyS.enc r)
  | 0, _, _, _, h => by cases h
  | n + 1, a0, a1, r, h => by
    exact fnC_run (M := ref27_Qualify_m n) ⟨(tabA_cons_ok (ent3_ok (ref27_join_ok n)) tabA_nil_ok), tabD_nil_ok, tabN_ok _, tabF_ok _, noY_ok, noE_ok⟩ Tryd.func18 rfl rfl ⟨(tyC State.cel).nb 0 _, tyS.nb 0 _, trivial⟩ Tryd.ntmps18 Tryd.results18 (fun σ hs => outR_ok (P := Tryd.prog) (rs := [.tmp 4]) (t := tyS) (σ := σ) (r := r) hs) (((ref27_Qualify_e n).2 a0 a1).trans h)

noncomputable def strings_HasSuffix_m (n : Nat) : Mach Bool where
  body := (Tryd.f22.body).getD .skip
  P := Tryd.prog
  cl := tabA [(52, ent2 tyS tyS tyB (internal_stringslite_HasSuffix n))]
  cd := tabD []
  nrm := tabN []
  cut := tabF []
  n := n
  out := outR Tryd.prog [.tmp 4] tyB
theorem strings_HasSuffix_f (n : Nat) : (strings_HasSuffix_m n).P = Tryd.prog ∧ (strings_HasSuffix_m n).cl = tabA [(52, ent2 tyS tyS tyB (internal_stringslite_HasSuffix n))] ∧ (strings_HasSuffix_m n).cd = tabD [] ∧ (strings_HasSuffix_m n).nrm = tabN [] ∧ (strings_HasSuffix_m n).cut = tabF [] ∧ (strings_HasSuffix_m n).n = n ∧ (strings_HasSuffix_m n).out = outR Tryd.prog [.tmp 4] tyB := ⟨rfl, rfl, rfl, rfl, rfl, rfl, rfl⟩
theorem strings_HasSuffix_c (n : Nat) : (strings_HasSuffix_m n).body = (Tryd.f22.body).getD .skip := rfl
noncomputable def strings_HasSuffix_e (n : Nat) : { B : Str → Str → Option Bool // ∀ (a0 : Str) (a1 : Str), run (strings_HasSuffix_m n) [.at []] { slots := [tyS.enc a0, tyS.enc a1] ++ List.replicate (8 - [tyS.enc a0, tyS.enc a1].length) .any, heap := [] } = B a0 a1 } := by
  apply Subtype.mk
  intro a0 a1
  simp (config := { maxSteps := 100000000 }) only [go_sem, Nat.reduceAdd, Nat.reduceSub, Nat.reduceLeDiff, Nat.reduceEqDiff, Nat.reduceBEq, Nat.reduceMul, Nat.reduceLT, Int.reduceLE, Int.reduceLT, Int.reduceToNat, Int.reduceBEq, Int.reduceEq, strings_HasSuffix_f, strings_HasSuffix_c, Tryd.f22, Option.getD_some, mixed]
  exact rfl
noncomputable def strings_HasSuffix : Nat → Str → Str → Option Bool
  | 0, _, _ => none
  | n + 1, a0, a1 => (strings_HasSuffix_e n).1 a0 a1
theorem strings_HasSuffix_ok : ∀ (n : Nat) (a0 : Str) (a1 : Str) (r : Bool), strings_HasSuffix n a0 a1 = some r → FnC Tryd.prog 22 [tyS.enc a0, tyS.enc a1] (fun v => v = tyB.enc r)
  | 0, _, _, _, h => by cases h
  | n + 1, a0, a1, r, h => by
    exact fnC_run (M := strings_HasSuffix_m n) ⟨(tabA_cons_ok (ent2_ok (internal_stringslite_HasSuffix_ok n)) tabA_nil_ok), tabD_nil_ok, tabN_ok _, tabF_ok _, noY_ok, noE_ok⟩ Tryd.func22 rfl rfl ⟨tyS.nb 0 _, tyS.nb 0 _, trivial⟩ Tryd.ntmps22 Tryd.results22 (fun σ hs => outR_ok (P := Tryd.prog) (rs := [.tmp 4]) (t := tyB) (σ := σ) (r := r) hs) (((strings_HasSuffix_e n).2 a0 a1).trans h)

noncomputable def strings_HasPrefix_m (n : Nat) : Mach Bool where
  body := (Tryd.f55.body).getD .skip
  P := Tryd.prog
  cl := tabA [(71, ent2 tyS tyS tyB (internal_stringslite_HasPrefix n))]
  cd := tabD []
  nrm := tabN []
  cut := tabF []
  n := n
  out := outR Tryd.prog [.tmp 4] tyB
theorem strings_HasPrefix_f (n : Nat) : (strings_HasPrefix_m n).P = Tryd.prog ∧ (strings_HasPrefix_m n).cl = tabA [(71, ent2 tyS tyS tyB (internal_stringslite_HasPrefix n))] ∧ (strings_HasPrefix_m n).cd = tabD [] ∧ (strings_HasPrefix_m n).nrm = tabN [] ∧ (strings_HasPrefix_m n).cut = tabF [] ∧ (strings_HasPrefix_m n).n = n ∧ (strings_HasPrefix_m n).out = outR Tryd.prog [.tmp 4] tyB := ⟨rfl, rfl, rfl, rfl, rfl, rfl, rfl⟩
theorem strings_HasPrefix_c (n : Nat) : (strings_HasPrefix_m n).body = (Tryd.f55.body).getD .skip := rfl
noncomputable def strings_HasPrefix_e (n : Nat) : { B : Str → Str → Option Bool // ∀ (a0 : Str) (a1 : Str), run (strings_HasPrefix_m n) [.at []] { slots := [tyS.enc a0, tyS.enc a1] ++ List.replicate (8 - [tyS.enc a0, tyS.enc a1].length) .any, heap := [] } = B a0 a1 } := by
  apply Subtype.mk
  intro a0 a1
  simp (config := { maxSteps := 100000000 }) only [go_sem, Nat.reduceAdd, Nat.reduceSub, Nat.reduceLeDiff, Nat.reduceEqDiff, Nat.reduceBEq, Nat.reduceMul, Nat.reduceLT, Int.reduceLE, Int.reduceLT, Int.reduceToNat, Int.reduceBEq, Int.reduceEq, strings_HasPrefix_f, strings_HasPrefix_c, Tryd.f55, Option.getD_some, mixed]
  exact rfl
noncomputable def strings_HasPrefix : Nat → Str → Str → Option Bool
  | 0, _, _ => none
  | n + 1, a0, a1 => (strings_HasPrefix_e n).1 a0 a1
theorem strings_HasPrefix_ok : ∀ (n : Nat) (a0 : Str) (a1 : Str) (r : Bool), strings_HasPrefix n a0 a1 = some r → FnC Tryd.prog 55 [tyS.enc a0, tyS.enc a1] (fun v => v = tyB.enc r)
  | 0, _, _, _, h => by cases h
  | n + 1, a0, a1, r, h => by
    exact fnC_run (M := strings_HasPrefix_m n) ⟨(tabA_cons_ok (ent2_ok (internal_stringslite_HasPrefix_ok n)) tabA_nil_ok), tabD_nil_ok, tabN_ok _, tabF_ok _, noY_ok, noE_ok⟩ Tryd.func55 rfl rfl ⟨tyS.nb 0 _, tyS.nb 0 _, trivial⟩ Tryd.ntmps55 Tryd.results55 (fun σ hs => outR_ok (P := Tryd.prog) (rs := [.tmp 4]) (t := tyB) (σ := σ) (r := r) hs) (((strings_HasPrefix_e n).2 a0 a1).trans h)

noncomputable def ref27_Same_m (n : Nat) : Mach Bool where
  body := (Tryd.f28.body).getD .skip
  P := Tryd.prog
  cl := tabA [(57, ent2 (tyL rowS) (tyL rowS) tyB (ref07_SameNames n))]
  cd := tabD []
  nrm := tabN []
  cut := tabF []
  n := n
  out := outR Tryd.prog [.tmp 4] tyB
theorem ref27_Same_f (n : Nat) : (ref27_Same_m n).P = Tryd.prog ∧ (ref27_Same_m n).cl = tabA [(57, ent2 (tyL rowS) (tyL rowS) tyB (ref07_SameNames n))] ∧ (ref27_Same_m n).cd = tabD [] ∧ (ref27_Same_m n).nrm = tabN [] ∧ (ref27_Same_m n).cut = tabF [] ∧ (ref27_Same_m n).n = n ∧ (ref27_Same_m n).out = outR Tryd.prog [.tmp 4] tyB := ⟨rfl, rfl, rfl, rfl, rfl, rfl, rfl⟩
theorem ref27_Same_c (n : Nat) : (ref27_Same_m n).body = (Tryd.f28.body).getD .skip := rfl
noncomputable def ref27_Same_e (n : Nat) : { B : State → State → Option Bool // ∀ (a0 : State) (a1 : State), run (ref27_Same_m n) [.at []] { slots := [(tyC State.cel).enc a0, (tyC State.cel).enc a1] ++ List.replicate (60 - [(tyC State.cel).enc a0, (tyC State.cel).enc a1].length) .any, heap := [] } = B a0 a1 } := by
  apply Subtype.mk
  intro a0 a1
  simp (config := { maxSteps := 100000000 }) only [go_sem, Nat.reduceAdd, Nat.reduceSub, Nat.reduceLeDiff, Nat.reduceEqDiff, Nat.reduceBEq, Nat.reduceMul, Nat.reduceLT, Int.reduceLE, Int.reduceLT, Int.reduceToNat, Int.reduceBEq, Int.reduceEq, ref27_Same_f, ref27_Same_c, Tryd.f28, Option.getD_some, mixed]
  exact rfl
noncomputable def ref27_Same : Nat → State → State → Option Bool
  | 0, _, _ => none
  | n + 1, a0, a1 => (ref27_Same_e n).1 a0 a1
theorem ref27_Same_ok : ∀ (n : Nat) (a0 : State) (a1 : State) (r : Bool), ref27_Same n a0 a1 = some r → FnC Tryd.prog 28 [(tyC State.cel).enc a0, (tyC State.cel).enc a1] (fun v => v = tyB.enc r)
  | 0, _, _, _, h => by cases h
  | n + 1, a0, a1, r, h => by
    exact fnC_run (M := ref27_Same_m n) ⟨(tabA_cons_ok (ent2_ok (ref07_SameNames_ok n)) tabA_nil_ok), tabD_nil_ok, tabN_ok _, tabF_ok _, noY_ok, noE_ok⟩ Tryd.func28 rfl rfl ⟨(tyC State.cel).nb 0 _, (tyC State.cel).nb 0 _, trivial⟩ Tryd.ntmps28 Tryd.results28 (fun σ hs => outR_ok (P := Tryd.prog) (rs := [.tmp 4]) (t := tyB) (σ := σ) (r := r) hs) (((ref27_Same_e n).2 a0 a1).trans h)

noncomputable def ref27_inside_n1 : Nrm := ⟨[], [], [zA, zK, zK, zA, zA, zK, zT (tyL rowS), zK, zA, zA, zA, zA, zA, zA, zA, zA, zA, zA, zA, zA, zA, zA, zA, zA, zA, zA, zA, zA, zA, zA, zA, zA, zA, zA, zA, zA, zA, zA, zA, zA, zA, zA, zA, zA, zA, zA, zA, zA], [oT State.cel], none⟩
noncomputable def ref27_inside_n2 : Nrm := ⟨[], [], [zA, zK, zK, zA, zA, zK, zA, zA, zA, zA, zA, zA, zA, zA, zA, zA, zA, zA, zA, zA, zA, zA, zA, zA, zA, zA, zA, zA, zA, zA, zA, zA, zA, zA, zA, zA, zA, zA, zA, zA, zA, zA, zA, zA, zA, zA, zA, zA], [oT State.cel], none⟩
noncomputable def ref27_inside_m (n : Nat) : Mach Bool where
  body := (Tryd.f58.body).getD .skip
  P := Tryd.prog
  cl := tabA [(47, ent1 (tyC Decl.cel) (tyL rowS) (ref07_Names n))]
  cd := tabD []
  nrm := tabN [([0, 1, 1, 0, 0, 1, 0, 0, 1, 0, 1], ref27_inside_n1), ([0, 1, 0, 1], ref27_inside_n2)]
  cut := tabF []
  n := n
  out := outR Tryd.prog [.tmp 4] tyB
theorem ref27_inside_f (n : Nat) : (ref27_inside_m n).P = Tryd.prog ∧ (ref27_inside_m n).cl = tabA [(47, ent1 (tyC Decl.cel) (tyL rowS) (ref07_Names n))] ∧ (ref27_inside_m n).cd = tabD [] ∧ (ref27_inside_m n).nrm = tabN [([0, 1, 1, 0, 0, 1, 0, 0, 1, 0, 1], ref27_inside_n1), ([0, 1, 0, 1], ref27_inside_n2)] ∧ (ref27_inside_m n).cut = tabF [] ∧ (ref27_inside_m n).n = n ∧ (ref27_inside_m n).out = outR Tryd.prog [.tmp 4] tyB := ⟨rfl, rfl, rfl, rfl, rfl, rfl, rfl⟩
theorem ref27_inside_c (n : Nat) : (ref27_inside_m n).body = (Tryd.f58.body).getD .skip := rfl
noncomputable def ref27_inside_b1 (n : Nat) : { B : (Str → Int → State → Option Bool) → (Str → Int → (List Str) → Int → State → Option Bool) → Str → Int → (List Str) → Int → State → Option Bool // ∀ m2 X2 m X0, (∀ (v0 : Str) (v1 : Int) (o0 : State), run (ref27_inside_m n) [.lq m2 [0, 1, 0, 1], .blk 0, .cut [1, 1], .at [1, 1]] ⟨[.any, .str (sb v0), .ptr 0 0, .any, .any, .int .i64 v1, .any, .any, .any, .any, .any, .any, .any, .any, .any, .any, .any, .any, .any, .any, .any, .any, .any, .any, .any, .any, .any, .any, .any, .any, .any, .any, .any, .any, .any, .any, .any, .any, .any, .any, .any, .any, .any, .any, .any, .any, .any, .any], [.cells (State.cells o0)], 0⟩ = X2 v0 v1 o0) → (∀ (v0 : Str) (v1 : Int) (v2 : List Str) (v3 : Int) (o0 : State), run (ref27_inside_m n) [.lq m [0, 1, 1, 0, 0, 1, 0, 0, 1, 0, 1], .blk 2, .blk 1, .cut [1, 1, 0, 0, 1, 0, 1], .at [1, 1, 0, 0, 1, 0, 1], .lp m2 [0, 1, 0, 1], .blk 0, .cut [1, 1], .at [1, 1]] ⟨[.any, .str (sb v0), .ptr 0 0, .any, .any, .int .i64 v1, .lst false 1 (mp scell v2), .int .i64 v3, .any, .any, .any, .any, .any, .any, .any, .any, .any, .any, .any, .any, .any, .any, .any, .any, .any, .any, .any, .any, .any, .any, .any, .any, .any, .any, .any, .any, .any, .any, .any, .any, .any, .any, .any, .any, .any, .any, .any, .any], [.cells (State.cells o0)], 0⟩ = X0 v0 v1 v2 v3 o0) → ∀ (v0 : Str) (v1 : Int) (v2 : List Str) (v3 : Int) (o0 : State), run (ref27_inside_m n) [.at [0, 0, 1, 1, 0, 0, 1, 0, 0, 1, 0, 1], .lp m [0, 1, 1, 0, 0, 1, 0, 0, 1, 0, 1], .blk 2, .blk 1, .cut [1, 1, 0, 0, 1, 0, 1], .at [1, 1, 0, 0, 1, 0, 1], .lp m2 [0, 1, 0, 1], .blk 0, .cut [1, 1], .at [1, 1]] ⟨[.any, .str (sb v0), .ptr 0 0, .any, .any, .int .i64 v1, .lst false 1 (mp scell v2), .int .i64 v3, .any, .any, .any, .any, .any, .any, .any, .any, .any, .any, .any, .any, .any, .any, .any, .any, .any, .any, .any, .any, .any, .any, .any, .any, .any, .any, .any, .any, .any, .any, .any, .any, .any, .any, .any, .any, .any, .any, .any, .any], [.cells (State.cells o0)], 0⟩ = B X2 X0 v0 v1 v2 v3 o0 } := by
  apply Subtype.mk
  intro m2 X2 m X0 h2 ih v0 v1 v2 v3 o0
  simp (config := { maxSteps := 100000000 }) only [go_sem, Nat.reduceAdd, Nat.reduceSub, Nat.reduceLeDiff, Nat.reduceEqDiff, Nat.reduceBEq, Nat.reduceMul, Nat.reduceLT, Int.reduceLE, Int.reduceLT, Int.reduceToNat, Int.reduceBEq, Int.reduceEq, ref27_inside_f, ref27_inside_c, Tryd.f58, Option.getD_some, mixed, ref27_inside_n1, ref27_inside_n2, h2, ih]
  exact rfl
noncomputable def ref27_inside_l1 (n : Nat) (X2 : Str → Int → State → Option Bool) : Nat → Str → Int → (List Str) → Int → State → Option Bool
  | 0, _, _, _, _, _ => none
  | m + 1, v0, v1, v2, v3, o0 => (ref27_inside_b1 n).1 X2 (ref27_inside_l1 n X2 m) v0 v1 v2 v3 o0
theorem ref27_inside_l1_eq (n : Nat) (m2 : Nat) (X2 : Str → Int → State → Option Bool) (h2 : (∀ (v0 : Str) (v1 : Int) (o0 : State), run (ref27_inside_m n) [.lq m2 [0, 1, 0, 1], .blk 0, .cut [1, 1], .at [1, 1]] ⟨[.any, .str (sb v0), .ptr 0 0, .any, .any, .int .i64 v1, .any, .any, .any, .any, .any, .any, .any, .any, .any, .any, .any, .any, .any, .any, .any, .any, .any, .any, .any, .any, .any, .any, .any, .any, .any, .any, .any, .any, .any, .any, .any, .any, .any, .any, .any, .any, .any, .any, .any, .any, .any, .any], [.cells (State.cells o0)], 0⟩ = X2 v0 v1 o0)) : ∀ (m : Nat), (∀ (v0 : Str) (v1 : Int) (v2 : List Str) (v3 : Int) (o0 : State), run (ref27_inside_m n) [.lq m [0, 1, 1, 0, 0, 1, 0, 0, 1, 0, 1], .blk 2, .blk 1, .cut [1, 1, 0, 0, 1, 0, 1], .at [1, 1, 0, 0, 1, 0, 1], .lp m2 [0, 1, 0, 1], .blk 0, .cut [1, 1], .at [1, 1]] ⟨[.any, .str (sb v0), .ptr 0 0, .any, .any, .int .i64 v1, .lst false 1 (mp scell v2), .int .i64 v3, .any, .any, .any, .any, .any, .any, .any, .any, .any, .any, .any, .any, .any, .any, .any, .any, .any, .any, .any, .any, .any, .any, .any, .any, .any, .any, .any, .any, .any, .any, .any, .any, .any, .any, .any, .any, .any, .any, .any, .any], [.cells (State.cells o0)], 0⟩ = ref27_inside_l1 n X2 m v0 v1 v2 v3 o0)
  | 0 => by intros; exact run_lq_zero
  | m + 1 => by
    have ih := ref27_inside_l1_eq n m2 X2 h2 m
    intro v0 v1 v2 v3 o0
    rw [run_lq_succ]
    exact (ref27_inside_b1 n).2 m2 X2 m _ h2 ih v0 v1 v2 v3 o0
noncomputable def ref27_inside_b2 (n : Nat) : { B : (Str → Int → State → Option Bool) → Str → Int → State → Option Bool // ∀ m X0, (∀ (v0 : Str) (v1 : Int) (o0 : State), run (ref27_inside_m n) [.lq m [0, 1, 0, 1], .blk 0, .cut [1, 1], .at [1, 1]] ⟨[.any, .str (sb v0), .ptr 0 0, .any, .any, .int .i64 v1, .any, .any, .any, .any, .any, .any, .any, .any, .any, .any, .any, .any, .any, .any, .any, .any, .any, .any, .any, .any, .any, .any, .any, .any, .any, .any, .any, .any, .any, .any, .any, .any, .any, .any, .any, .any, .any, .any, .any, .any, .any, .any], [.cells (State.cells o0)], 0⟩ = X0 v0 v1 o0) → ∀ (v0 : Str) (v1 : Int) (o0 : State), run (ref27_inside_m n) [.at [0, 0, 1, 0, 1], .lp m [0, 1, 0, 1], .blk 0, .cut [1, 1], .at [1, 1]] ⟨[.any, .str (sb v0), .ptr 0 0, .any, .any, .int .i64 v1, .any, .any, .any, .any, .any, .any, .any, .any, .any, .any, .any, .any, .any, .any, .any, .any, .any, .any, .any, .any, .any, .any, .any, .any, .any, .any, .any, .any, .any, .any, .any, .any, .any, .any, .any, .any, .any, .any, .any, .any, .any, .any], [.cells (State.cells o0)], 0⟩ = B X0 v0 v1 o0 } := by
  apply Subtype.mk
  intro m X0 ih v0 v1 o0
  simp (config := { maxSteps := 100000000 }) only [go_sem, Nat.reduceAdd, Nat.reduceSub, Nat.reduceLeDiff, Nat.reduceEqDiff, Nat.reduceBEq, Nat.reduceMul, Nat.reduceLT, Int.reduceLE, Int.reduceLT, Int.reduceToNat, Int.reduceBEq, Int.reduceEq, ref27_inside_f, ref27_inside_c, Tryd.f58, Option.getD_some, mixed, ref27_inside_n1, ref27_inside_n2, ref27_inside_l1_eq n m X0 ih, ih]
  exact rfl
noncomputable def ref27_inside_l2 (n : Nat) : Nat → Str → Int → State → Option Bool
  | 0, _, _, _ => none
  | m + 1, v0, v1, o0 => (ref27_inside_b2 n).1 (ref27_inside_l2 n m) v0 v1 o0
theorem ref27_inside_l2_eq (n : Nat) : ∀ (m : Nat), (∀ (v0 : Str) (v1 : Int) (o0 : State), run (ref27_inside_m n) [.lq m [0, 1, 0, 1], .blk 0, .cut [1, 1], .at [1, 1]] ⟨[.any, .str (sb v0), .ptr 0 0, .any, .any, .int .i64 v1, .any, .any, .any, .any, .any, .any, .any, .any, .any, .any, .any, .any, .any, .any, .any, .any, .any, .any, .any, .any, .any, .any, .any, .any, .any, .any, .any, .any, .any, .any, .any, .any, .any, .any, .any, .any, .any, .any, .any, .any, .any, .any], [.cells (State.cells o0)], 0⟩ = ref27_inside_l2 n m v0 v1 o0)
  | 0 => by intros; exact run_lq_zero
  | m + 1 => by
    have ih := ref27_inside_l2_eq n m
    intro v0 v1 o0
    rw [run_lq_succ]
    exact (ref27_inside_b2 n).2  m _  ih v0 v1 o0
noncomputable def ref27_inside_e (n : Nat) : { B : State → Str → Option Bool // ∀ (a0 : State) (a1 : Str), run (ref27_inside_m n) [.at []] { slots := [(tyC State.cel).enc a0, tyS.enc a1] ++ List.replicate (48 - [(tyC State.cel).enc a0, tyS.enc a1].length) .any, heap := [] } = B a0 a1 } := by
  apply Subtype.mk
  intro a0 a1
  simp (config := { maxSteps := 100000000 }) only [go_sem, Nat.reduceAdd, Nat.reduceSub, Nat.reduceLeDiff, Nat.reduceEqDiff, Nat.reduceBEq, Nat.reduceMul, Nat.reduceLT, Int.reduceLE, Int.reduceLT, Int.reduceToNat, Int.reduceBEq, Int.reduceEq, ref27_inside_f, ref27_inside_c, Tryd.f58, Option.getD_some, mixed, ref27_inside_n1, ref27_inside_n2, ref27_inside_l2_eq n]
  exact rfl
noncomputable def ref27_inside : Nat → State → Str → Option Bool
  | 0, _, _ => none
  | n + 1, a0, a1 => (ref27_inside_e n).1 a0 a1
theorem ref27_inside_ok : ∀ (n : Nat) (a0 : State) (a1 : Str) (r : Bool), ref27_inside n a0 a1 = some r → FnC Tryd.prog 58 [(tyC State.cel).enc a0, tyS.enc a1] (fun v => v = tyB.enc r)
  | 0, _, _, _, h => by cases h
  | n + 1, a0, a1, r, h => by
    exact fnC_run (M := ref27_inside_m n) ⟨(tabA_cons_ok (ent1_ok (ref07_Names_ok n)) tabA_nil_ok), tabD_nil_ok, tabN_ok _, tabF_ok _, noY_ok, noE_ok⟩ Tryd.func58 rfl rfl ⟨(tyC State.cel).nb 0 _, tyS.nb 0 _, trivial⟩ Tryd.ntmps58 Tryd.results58 (fun σ hs => outR_ok (P := Tryd.prog) (rs := [.tmp 4]) (t := tyB) (σ := σ) (r := r) hs) (((ref27_inside_e n).2 a0 a1).trans h)
end Go.Abs
namespace Go.Abs
open Go.Proofs
set_option maxRecDepth 100000
set_option maxHeartbeats 4000000
set_option linter.unusedSimpArgs false
set_option linter.unusedVariables false
noncomputable def slices_ContainsFunc_string_law27_short_1_m (n : Nat) : Mach Bool where
  body := (Tryd.f33.body).getD .skip
  P := Tryd.prog
  cl := tabA [(60, ent2 (tyL rowS) (tyF 53) (tyI .i64) (slices_IndexFunc_string_law27_short_1 n))]
  cd := tabD []
  nrm := tabN []
  cut := tabF []
  n := n
  out := outR Tryd.prog [.tmp 4] tyB
theorem slices_ContainsFunc_string_law27_short_1_f (n : Nat) : (slices_ContainsFunc_string_law27_short_1_m n).P = Tryd.prog ∧ (slices_ContainsFunc_string_law27_short_1_m n).cl = tabA [(60, ent2 (tyL rowS) (tyF 53) (tyI .i64) (slices_IndexFunc_string_law27_short_1 n))] ∧ (slices_ContainsFunc_string_law27_short_1_m n).cd = tabD [] ∧ (slices_ContainsFunc_string_law27_short_1_m n).nrm = tabN [] ∧ (slices_ContainsFunc_string_law27_short_1_m n).cut = tabF [] ∧ (slices_ContainsFunc_string_law27_short_1_m n).n = n ∧ (slices_ContainsFunc_string_law27_short_1_m n).out = outR Tryd.prog [.tmp 4] tyB := ⟨rfl, rfl, rfl, rfl, rfl, rfl, rfl⟩
theorem slices_ContainsFunc_string_law27_short_1_c (n : Nat) : (slices_ContainsFunc_string_law27_short_1_m n).body = (Tryd.f33.body).getD .skip := rfl
noncomputable def slices_ContainsFunc_string_law27_short_1_e (n : Nat) : { B : (List Str) → Unit → Option Bool // ∀ (a0 : (List Str)) (a1 : Unit), run (slices_ContainsFunc_string_law27_short_1_m n) [.at []] { slots := [(tyL rowS).enc a0, (tyF 53).enc a1] ++ List.replicate (9 - [(tyL rowS).enc a0, (tyF 53).enc a1].length) .any, heap := [] } = B a0 a1 } := by
  apply Subtype.mk
  intro a0 a1
  simp (config := { maxSteps := 100000000 }) only [go_sem, Nat.reduceAdd, Nat.reduceSub, Nat.reduceLeDiff, Nat.reduceEqDiff, Nat.reduceBEq, Nat.reduceMul, Nat.reduceLT, Int.reduceLE, Int.reduceLT, Int.reduceToNat, Int.reduceBEq, Int.reduceEq, slices_ContainsFunc_string_law27_short_1_f, slices_ContainsFunc_string_law27_short_1_c, Tryd.f33, Option.getD_some, mixed]
  exact rfl
noncomputable def slices_ContainsFunc_string_law27_short_1 : Nat → (List Str) → Unit → Option Bool
  | 0, _, _ => none
  | n + 1, a0, a1 => (slices_ContainsFunc_string_law27_short_1_e n).1 a0 a1
theorem slices_ContainsFunc_string_law27_short_1_ok : ∀ (n : Nat) (a0 : (List Str)) (a1 : Unit) (r : Bool), slices_ContainsFunc_string_law27_short_1 n a0 a1 = some r → FnC Tryd.prog 33 [(tyL rowS).enc a0, (tyF 53).enc a1] (fun v => v = tyB.enc r)
  | 0, _, _, _, h => by cases h
  | n + 1, a0, a1, r, h => by
    exact fnC_run (M := slices_ContainsFunc_string_law27_short_1_m n) ⟨(tabA_cons_ok (ent2_ok (slices_IndexFunc_string_law27_short_1_ok n)) tabA_nil_ok), tabD_nil_ok, tabN_ok _, tabF_ok _, noY_ok, noE_ok⟩ Tryd.func33 rfl rfl ⟨(tyL rowS).nb 0 _, (tyF 53).nb 0 _, trivial⟩ Tryd.ntmps33 Tryd.results33 (fun σ hs => outR_ok (P := Tryd.prog) (rs := [.tmp 4]) (t := tyB) (σ := σ) (r := r) hs) (((slices_ContainsFunc_string_law27_short_1_e n).2 a0 a1).trans h)

noncomputable def slices_ContainsFunc_string_law27_Few_1_m (n : Nat) : Mach Bool where
  body := (Tryd.f33.body).getD .skip
  P := Tryd.prog
  cl := tabA [(60, ent2 (tyL rowS) (tyF 34) (tyI .i64) (slices_IndexFunc_string_law27_Few_1 n))]
  cd := tabD []
  nrm := tabN []
  cut := tabF []
  n := n
  out := outR Tryd.prog [.tmp 4] tyB
theorem slices_ContainsFunc_string_law27_Few_1_f (n : Nat) : (slices_ContainsFunc_string_law27_Few_1_m n).P = Tryd.prog ∧ (slices_ContainsFunc_string_law27_Few_1_m n).cl = tabA [(60, ent2 (tyL rowS) (tyF 34) (tyI .i64) (slices_IndexFunc_string_law27_Few_1 n))] ∧ (slices_ContainsFunc_string_law27_Few_1_m n).cd = tabD [] ∧ (slices_ContainsFunc_string_law27_Few_1_m n).nrm = tabN [] ∧ (slices_ContainsFunc_string_law27_Few_1_m n).cut = tabF [] ∧ (slices_ContainsFunc_string_law27_Few_1_m n).n = n ∧ (slices_ContainsFunc_string_law27_Few_1_m n).out = outR Tryd.prog [.tmp 4] tyB := ⟨rfl, rfl, rfl, rfl, rfl, rfl, rfl⟩
theorem slices_ContainsFunc_string_law27_Few_1_c (n : Nat) : (slices_ContainsFunc_string_law27_Few_1_m n).body = (Tryd.f33.body).getD .skip := rfl
noncomputable def slices_ContainsFunc_string_law27_Few_1_e (n : Nat) : { B : (List Str) → Unit → Option Bool // ∀ (a0 : (List Str)) (a1 : Unit), run (slices_ContainsFunc_string_law27_Few_1_m n) [.at []] { slots := [(tyL rowS).enc a0, (tyF 34).enc a1] ++ List.replicate (9 - [(tyL rowS).enc a0, (tyF 34).enc a1].length) .any, heap := [] } = B a0 a1 } := by
  apply Subtype.mk
  intro a0 a1
  simp (config := { maxSteps := 100000000 }) only [go_sem, Nat.reduceAdd, Nat.reduceSub, Nat.reduceLeDiff, Nat.reduceEqDiff, Nat.reduceBEq, Nat.reduceMul, Nat.reduceLT, Int.reduceLE, Int.reduceLT, Int.reduceToNat, Int.reduceBEq, Int.reduceEq, slices_ContainsFunc_string_law27_Few_1_f, slices_ContainsFunc_string_law27_Few_1_c, Tryd.f33, Option.getD_some, mixed]
  exact rfl
noncomputable def slices_ContainsFunc_string_law27_Few_1 : Nat → (List Str) → Unit → Option Bool
  | 0, _, _ => none
  | n + 1, a0, a1 => (slices_ContainsFunc_string_law27_Few_1_e n).1 a0 a1
theorem slices_ContainsFunc_string_law27_Few_1_ok : ∀ (n : Nat) (a0 : (List Str)) (a1 : Unit) (r : Bool), slices_ContainsFunc_string_law27_Few_1 n a0 a1 = some r → FnC Tryd.prog 33 [(tyL rowS).enc a0, (tyF 34).enc a1] (fun v => v = tyB.enc r)
  | 0, _, _, _, h => by cases h
  | n + 1, a0, a1, r, h => by
    exact fnC_run (M := slices_ContainsFunc_string_law27_Few_1_m n) ⟨(tabA_cons_ok (ent2_ok (slices_IndexFunc_string_law27_Few_1_ok n)) tabA_nil_ok), tabD_nil_ok, tabN_ok _, tabF_ok _, noY_ok, noE_ok⟩ Tryd.func33 rfl rfl ⟨(tyL rowS).nb 0 _, (tyF 34).nb 0 _, trivial⟩ Tryd.ntmps33 Tryd.results33 (fun σ hs => outR_ok (P := Tryd.prog) (rs := [.tmp 4]) (t := tyB) (σ := σ) (r := r) hs) (((slices_ContainsFunc_string_law27_Few_1_e n).2 a0 a1).trans h)

noncomputable def scope_Declared_1_m (n : Nat) : Mach ((Str × Unit) × (Bool × Unit)) where
  body := (Tryd.f44.body).getD .skip
  P := Tryd.prog
  cl := tabA []
  cd := tabD [(32, entD (ent2 (tyL rowS) tyS tyB (slices_Contains_string n))), (45, entD (ent1 (tyC Decl.cel) (tyL rowS) (signature_Names n)))]
  nrm := tabN []
  cut := tabF []
  n := n
  out := outG Tryd.prog [.tmp 3] (osC (ocT cS) osN) (rsT tyB rsN) 1
  isE := tabI []
theorem scope_Declared_1_f (n : Nat) : (scope_Declared_1_m n).P = Tryd.prog ∧ (scope_Declared_1_m n).cl = tabA [] ∧ (scope_Declared_1_m n).cd = tabD [(32, entD (ent2 (tyL rowS) tyS tyB (slices_Contains_string n))), (45, entD (ent1 (tyC Decl.cel) (tyL rowS) (signature_Names n)))] ∧ (scope_Declared_1_m n).nrm = tabN [] ∧ (scope_Declared_1_m n).cut = tabF [] ∧ (scope_Declared_1_m n).n = n ∧ (scope_Declared_1_m n).out = outG Tryd.prog [.tmp 3] (osC (ocT cS) osN) (rsT tyB rsN) 1 ∧ (scope_Declared_1_m n).isE = tabI [] := ⟨rfl, rfl, rfl, rfl, rfl, rfl, rfl, rfl⟩
theorem scope_Declared_1_c (n : Nat) : (scope_Declared_1_m n).body = (Tryd.f44.body).getD .skip := rfl
theorem scope_Declared_1_d (n : Nat) : drawP (scope_Declared_1_m n) [0, 1] = true := by kernel_rfl
noncomputable def scope_Declared_1_e (n : Nat) : { B : Decl → Str → Option ((Str × Unit) × (Bool × Unit)) // ∀ (a0 : Decl) (a1 : Str), run (scope_Declared_1_m n) [.at []] { slots := ((asT (tyC Decl.cel) (asP 0 asN)).enc (a1, ()) (a0, ())) ++ List.replicate (8 - ((asT (tyC Decl.cel) (asP 0 asN)).enc (a1, ()) (a0, ())).length) .any, heap := ((osC (ocT cS) osN).enc (a1, ())), low := ((osC (ocT cS) osN).enc (a1, ())).length } = B a0 a1 } := by
  apply Subtype.mk
  intro a0 a1
  simp (config := { maxSteps := 100000000 }) only [go_sem, Nat.reduceAdd, Nat.reduceSub, Nat.reduceLeDiff, Nat.reduceEqDiff, Nat.reduceBEq, Nat.reduceMul, Nat.reduceLT, Int.reduceLE, Int.reduceLT, Int.reduceToNat, Int.reduceBEq, Int.reduceEq, scope_Declared_1_f, scope_Declared_1_c, Tryd.f44, Option.getD_some, mixed, scope_Declared_1_d]
  exact rfl
noncomputable def scope_Declared_1 : Nat → Decl → Str → Option ((Str × Unit) × (Bool × Unit))
  | 0, _, _ => none
  | n + 1, a0, a1 => (scope_Declared_1_e n).1 a0 a1
theorem scope_Declared_1_ok : ∀ (n : Nat) (a0 : Decl) (a1 : Str) (r : ((Str × Unit) × (Bool × Unit))), scope_Declared_1 n a0 a1 = some r → FnG Tryd.prog 44 ((asT (tyC Decl.cel) (asP 0 asN)).enc (a1, ()) (a0, ())) ((osC (ocT cS) osN).enc (a1, ())) (fun o H' => o = .ret (tupOf ((rsT tyB rsN).enc r.1 r.2)) ∧ H' = (osC (ocT cS) osN).enc r.1)
  | 0, _, _, _, h => by cases h
  | n + 1, a0, a1, r, h => by
    exact fnG_run (M := scope_Declared_1_m n) ⟨tabA_nil_ok, (tabD_cons_ok (ent2_okD (slices_Contains_string_ok n)) (tabD_cons_ok (ent1_okD (signature_Names_ok n)) tabD_nil_ok)), tabN_ok _, tabF_ok _, noY_ok, noE_ok⟩ Tryd.func44 rfl rfl (by simp only [go_sem, Nat.reduceAdd, Nat.reduceSub, Nat.reduceLeDiff, Nat.reduceEqDiff, Nat.reduceBEq, Nat.reduceMul, Nat.reduceLT, Int.reduceLE, Int.reduceLT, Int.reduceToNat, Int.reduceBEq, Int.reduceEq]) ((osC (ocT cS) osN).nb _ _) Tryd.ntmps44 Tryd.results44 (fun σ hs => outG_ok hs) (((scope_Declared_1_e n).2 a0 a1).trans h)

noncomputable def ref27_Resolve_n1 : Nrm := ⟨[], [], [zA, zK, zK, zA, zA, zA, zA, zA, zK, zK, zA, zA, zA, zA, zA, zA, zA, zA, zA, zA, zA, zA, zA, zA, zA, zA, zA, zA, zA, zA, zA, zA, zA, zA, zA, zA, zA, zA, zA, zA, zA, zA, zA, zA, zA, zA, zA, zA, zA, zA, zA, zA, zA, zA, zA, zA, zA, zA, zA, zA, zA, zA, zA, zA], [oT State.cel], none⟩
noncomputable def ref27_Resolve_n2 : Nrm := ⟨[], [], [zA, zK, zK, zA, zA, zA, zK, zA, zA, zA, zA, zA, zA, zA, zA, zA, zA, zA, zA, zA, zA, zA, zA, zA, zA, zA, zA, zA, zA, zA, zA, zA, zA, zA, zA, zA, zA, zA, zA, zA, zA, zA, zA, zA, zA, zA, zA, zA, zA, zA, zA, zA, zA, zA, zA, zA, zA, zA, zA, zA, zA, zA, zA, zA], [oT State.cel], none⟩
noncomputable def ref27_Resolve_m (n : Nat) : Mach (Str × Int) where
  body := (Tryd.f12.body).getD .skip
  P := Tryd.prog
  cl := tabA [(16, ent2 (tyC State.cel) tyS tyB (ref27_Declared n)), (40, ent1 tyS tyB (ref03_Name n)), (41, ent3 (tyL rowS) (tyI .i64) tyS tyS (ref27_join n))]
  cd := tabD []
  nrm := tabN [([0, 1, 0, 1, 1, 1, 1], ref27_Resolve_n1), ([0, 1, 0, 1, 1], ref27_Resolve_n2)]
  cut := tabF []
  n := n
  out := outR Tryd.prog [.tmp 4, .tmp 5] (ty2 tyS (tyI .i64))
theorem ref27_Resolve_f (n : Nat) : (ref27_Resolve_m n).P = Tryd.prog ∧ (ref27_Resolve_m n).cl = tabA [(16, ent2 (tyC State.cel) tyS tyB (ref27_Declared n)), (40, ent1 tyS tyB (ref03_Name n)), (41, ent3 (tyL rowS) (tyI .i64) tyS tyS (ref27_join n))] ∧ (ref27_Resolve_m n).cd = tabD [] ∧ (ref27_Resolve_m n).nrm = tabN [([0, 1, 0, 1, 1, 1, 1], ref27_Resolve_n1), ([0, 1, 0, 1, 1], ref27_Resolve_n2)] ∧ (ref27_Resolve_m n).cut = tabF [] ∧ (ref27_Resolve_m n).n = n ∧ (ref27_Resolve_m n).out = outR Tryd.prog [.tmp 4, .tmp 5] (ty2 tyS (tyI .i64)) := ⟨rfl, rfl, rfl, rfl, rfl, rfl, rfl⟩
theorem ref27_Resolve_c (n : Nat) : (ref27_Resolve_m n).body = (Tryd.f12.body).getD .skip := rfl
noncomputable def ref27_Resolve_b1 (n : Nat) : { B : (Str → Str → Int → State → Option (Str × Int)) → Str → Str → Int → State → Option (Str × Int) // ∀ m X0, (∀ (v0 : Str) (v1 : Str) (v2 : Int) (o0 : State), run (ref27_Resolve_m n) [.lq m [0, 1, 0, 1, 1, 1, 1], .blk 2, .cut [1, 1, 1, 1, 1], .at [1, 1, 1, 1, 1]] ⟨[.any, .str (sb v0), .ptr 0 0, .any, .any, .any, .any, .any, .str (sb v1), .int .i64 v2, .any, .any, .any, .any, .any, .any, .any, .any, .any, .any, .any, .any, .any, .any, .any, .any, .any, .any, .any, .any, .any, .any, .any, .any, .any, .any, .any, .any, .any, .any, .any, .any, .any, .any, .any, .any, .any, .any, .any, .any, .any, .any, .any, .any, .any, .any, .any, .any, .any, .any, .any, .any, .any, .any], [.cells (State.cells o0)], 0⟩ = X0 v0 v1 v2 o0) → ∀ (v0 : Str) (v1 : Str) (v2 : Int) (o0 : State), run (ref27_Resolve_m n) [.at [0, 0, 1, 0, 1, 1, 1, 1], .lp m [0, 1, 0, 1, 1, 1, 1], .blk 2, .cut [1, 1, 1, 1, 1], .at [1, 1, 1, 1, 1]] ⟨[.any, .str (sb v0), .ptr 0 0, .any, .any, .any, .any, .any, .str (sb v1), .int .i64 v2, .any, .any, .any, .any, .any, .any, .any, .any, .any, .any, .any, .any, .any, .any, .any, .any, .any, .any, .any, .any, .any, .any, .any, .any, .any, .any, .any, .any, .any, .any, .any, .any, .any, .any, .any, .any, .any, .any, .any, .any, .any, .any, .any, .any, .any, .any, .any, .any, .any, .any, .any, .any, .any, .any], [.cells (State.cells o0)], 0⟩ = B X0 v0 v1 v2 o0 } := by
  apply Subtype.mk
  intro m X0 ih v0 v1 v2 o0
  simp (config := { maxSteps := 100000000 }) only [go_sem, Nat.reduceAdd, Nat.reduceSub, Nat.reduceLeDiff, Nat.reduceEqDiff, Nat.reduceBEq, Nat.reduceMul, Nat.reduceLT, Int.reduceLE, Int.reduceLT, Int.reduceToNat, Int.reduceBEq, Int.reduceEq, ref27_Resolve_f, ref27_Resolve_c, Tryd.f12, Option.getD_some, mixed, ref27_Resolve_n1, ref27_Resolve_n2, ih]
  exact rfl
noncomputable def ref27_Resolve_l1 (n : Nat) : Nat → Str → Str → Int → State → Option (Str × Int)
  | 0, _, _, _, _ => none
  | m + 1, v0, v1, v2, o0 => (ref27_Resolve_b1 n).1 (ref27_Resolve_l1 n m) v0 v1 v2 o0
theorem ref27_Resolve_l1_eq (n : Nat) : ∀ (m : Nat), (∀ (v0 : Str) (v1 : Str) (v2 : Int) (o0 : State), run (ref27_Resolve_m n) [.lq m [0, 1, 0, 1, 1, 1, 1], .blk 2, .cut [1, 1, 1, 1, 1], .at [1, 1, 1, 1, 1]] ⟨[.any, .str (sb v0), .ptr 0 0, .any, .any, .any, .any, .any, .str (sb v1), .int .i64 v2, .any, .any, .any, .any, .any, .any, .any, .any, .any, .any, .any, .any, .any, .any, .any, .any, .any, .any, .any, .any, .any, .any, .any, .any, .any, .any, .any, .any, .any, .any, .any, .any, .any, .any, .any, .any, .any, .any, .any, .any, .any, .any, .any, .any, .any, .any, .any, .any, .any, .any, .any, .any, .any, .any], [.cells (State.cells o0)], 0⟩ = ref27_Resolve_l1 n m v0 v1 v2 o0)
  | 0 => by intros; exact run_lq_zero
  | m + 1 => by
    have ih := ref27_Resolve_l1_eq n m
    intro v0 v1 v2 o0
    rw [run_lq_succ]
    exact (ref27_Resolve_b1 n).2  m _  ih v0 v1 v2 o0
noncomputable def ref27_Resolve_b2 (n : Nat) : { B : (Str → Int → State → Option (Str × Int)) → Str → Int → State → Option (Str × Int) // ∀ m X0, (∀ (v0 : Str) (v1 : Int) (o0 : State), run (ref27_Resolve_m n) [.lq m [0, 1, 0, 1, 1], .blk 0, .cut [1, 1, 1], .at [1, 1, 1]] ⟨[.any, .str (sb v0), .ptr 0 0, .any, .any, .any, .int .i64 v1, .any, .any, .any, .any, .any, .any, .any, .any, .any, .any, .any, .any, .any, .any, .any, .any, .any, .any, .any, .any, .any, .any, .any, .any, .any, .any, .any, .any, .any, .any, .any, .any, .any, .any, .any, .any, .any, .any, .any, .any, .any, .any, .any, .any, .any, .any, .any, .any, .any, .any, .any, .any, .any, .any, .any, .any, .any], [.cells (State.cells o0)], 0⟩ = X0 v0 v1 o0) → ∀ (v0 : Str) (v1 : Int) (o0 : State), run (ref27_Resolve_m n) [.at [0, 0, 1, 0, 1, 1], .lp m [0, 1, 0, 1, 1], .blk 0, .cut [1, 1, 1], .at [1, 1, 1]] ⟨[.any, .str (sb v0), .ptr 0 0, .any, .any, .any, .int .i64 v1, .any, .any, .any, .any, .any, .any, .any, .any, .any, .any, .any, .any, .any, .any, .any, .any, .any, .any, .any, .any, .any, .any, .any, .any, .any, .any, .any, .any, .any, .any, .any, .any, .any, .any, .any, .any, .any, .any, .any, .any, .any, .any, .any, .any, .any, .any, .any, .any, .any, .any, .any, .any, .any, .any, .any, .any, .any], [.cells (State.cells o0)], 0⟩ = B X0 v0 v1 o0 } := by
  apply Subtype.mk
  intro m X0 ih v0 v1 o0
  simp (config := { maxSteps := 100000000 }) only [go_sem, Nat.reduceAdd, Nat.reduceSub, Nat.reduceLeDiff, Nat.reduceEqDiff, Nat.reduceBEq, Nat.reduceMul, Nat.reduceLT, Int.reduceLE, Int.reduceLT, Int.reduceToNat, Int.reduceBEq, Int.reduceEq, ref27_Resolve_f, ref27_Resolve_c, Tryd.f12, Option.getD_some, mixed, ref27_Resolve_n1, ref27_Resolve_n2, ref27_Resolve_l1_eq n, ih]
  exact rfl
noncomputable def ref27_Resolve_l2 (n : Nat) : Nat → Str → Int → State → Option (Str × Int)
  | 0, _, _, _ => none
  | m + 1, v0, v1, o0 => (ref27_Resolve_b2 n).1 (ref27_Resolve_l2 n m) v0 v1 o0
theorem ref27_Resolve_l2_eq (n : Nat) : ∀ (m : Nat), (∀ (v0 : Str) (v1 : Int) (o0 : State), run (ref27_Resolve_m n) [.lq m [0, 1, 0, 1, 1], .blk 0, .cut [1, 1, 1], .at [1, 1, 1]] ⟨[.any, .str (sb v0), .ptr 0 0, .any, .any, .any, .int .i64 v1, .any, .any, .any, .any, .any, .any, .any, .any, .any, .any, .any, .any, .any, .any, .any, .any, .any, .any, .any, .any, .any, .any, .any, .any, .any, .any, .any, .any, .any, .any, .any, .any, .any, .any, .any, .any, .any, .any, .any, .any, .any, .any, .any, .any, .any, .any, .any, .any, .any, .any, .any, .any, .any, .any, .any, .any, .any], [.cells (State.cells o0)], 0⟩ = ref27_Resolve_l2 n m v0 v1 o0)
  | 0 => by intros; exact run_lq_zero
  | m + 1 => by
    have ih := ref27_Resolve_l2_eq n m
    intro v0 v1 o0
    rw [run_lq_succ]
    exact (ref27_Resolve_b2 n).2  m _  ih v0 v1 o0
noncomputable def ref27_Resolve_e (n : Nat) : { B : State → Str → Option (Str × Int) // ∀ (a0 : State) (a1 : Str), run (ref27_Resolve_m n) [.at []] { slots := [(tyC State.cel).enc a0, tyS.enc a1] ++ List.replicate (64 - [(tyC State.cel).enc a0, tyS.enc a1].length) .any, heap := [] } = B a0 a1 } := by
  apply Subtype.mk
  intro a0 a1
  simp (config := { maxSteps := 100000000 }) only [go_sem, Nat.reduceAdd, Nat.reduceSub, Nat.reduceLeDiff, Nat.reduceEqDiff, Nat.reduceBEq, Nat.reduceMul, Nat.reduceLT, Int.reduceLE, Int.reduceLT, Int.reduceToNat, Int.reduceBEq, Int.reduceEq, ref27_Resolve_f, ref27_Resolve_c, Tryd.f12, Option.getD_some, mixed, ref27_Resolve_n1, ref27_Resolve_n2, ref27_Resolve_l1_eq n, ref27_Resolve_l2_eq n]
  exact rfl
noncomputable def ref27_Resolve : Nat → State → Str → Option (Str × Int)
  | 0, _, _ => none
  | n + 1, a0, a1 => (ref27_Resolve_e n).1 a0 a1
theorem ref27_Resolve_ok : ∀ (n : Nat) (a0 : State) (a1 : Str) (r : (Str × Int)), ref27_Resolve n a0 a1 = some r → FnC Tryd.prog 12 [(tyC State.cel).enc a0, tyS.enc a1] (fun v => v = (ty2 tyS (tyI .i64)).enc r)
  | 0, _, _, _, h => by cases h
  | n + 1, a0, a1, r, h => by
    exact fnC_run (M := ref27_Resolve_m n) ⟨(tabA_cons_ok (ent2_ok (ref27_Declared_ok n)) (tabA_cons_ok (ent1_ok (ref03_Name_ok n)) (tabA_cons_ok (ent3_ok (ref27_join_ok n)) tabA_nil_ok))), tabD_nil_ok, tabN_ok _, tabF_ok _, noY_ok, noE_ok⟩ Tryd.func12 rfl rfl ⟨(tyC State.cel).nb 0 _, tyS.nb 0 _, trivial⟩ Tryd.ntmps12 Tryd.results12 (fun σ hs => outR_ok (P := Tryd.prog) (rs := [.tmp 4, .tmp 5]) (t := (ty2 tyS (tyI .i64))) (σ := σ) (r := r) hs) (((ref27_Resolve_e n).2 a0 a1).trans h)

noncomputable def scope_Open_1_m (n : Nat) : Mach Bool where
  body := (Tryd.f54.body).getD .skip
  P := Tryd.prog
  cl := tabA [(55, ent2 tyS tyS tyB (strings_HasPrefix n))]
  cd := tabD []
  nrm := tabN []
  cut := tabF []
  n := n
  out := outR Tryd.prog [.tmp 3] tyB
theorem scope_Open_1_f (n : Nat) : (scope_Open_1_m n).P = Tryd.prog ∧ (scope_Open_1_m n).cl = tabA [(55, ent2 tyS tyS tyB (strings_HasPrefix n))] ∧ (scope_Open_1_m n).cd = tabD [] ∧ (scope_Open_1_m n).nrm = tabN [] ∧ (scope_Open_1_m n).cut = tabF [] ∧ (scope_Open_1_m n).n = n ∧ (scope_Open_1_m n).out = outR Tryd.prog [.tmp 3] tyB := ⟨rfl, rfl, rfl, rfl, rfl, rfl, rfl⟩
theorem scope_Open_1_c (n : Nat) : (scope_Open_1_m n).body = (Tryd.f54.body).getD .skip := rfl
noncomputable def scope_Open_1_e (n : Nat) : { B : Str → Str → Option Bool // ∀ (a0 : Str) (a1 : Str), run (scope_Open_1_m n) [.at []] { slots := [tyS.enc a0, (tyP cS).enc a1] ++ List.replicate (8 - [tyS.enc a0, (tyP cS).enc a1].length) .any, heap := [] } = B a0 a1 } := by
  apply Subtype.mk
  intro a0 a1
  simp (config := { maxSteps := 100000000 }) only [go_sem, Nat.reduceAdd, Nat.reduceSub, Nat.reduceLeDiff, Nat.reduceEqDiff, Nat.reduceBEq, Nat.reduceMul, Nat.reduceLT, Int.reduceLE, Int.reduceLT, Int.reduceToNat, Int.reduceBEq, Int.reduceEq, scope_Open_1_f, scope_Open_1_c, Tryd.f54, Option.getD_some, mixed]
  exact rfl
noncomputable def scope_Open_1 : Nat → Str → Str → Option Bool
  | 0, _, _ => none
  | n + 1, a0, a1 => (scope_Open_1_e n).1 a0 a1
theorem scope_Open_1_ok : ∀ (n : Nat) (a0 : Str) (a1 : Str) (r : Bool), scope_Open_1 n a0 a1 = some r → FnC Tryd.prog 54 [tyS.enc a0, (tyP cS).enc a1] (fun v => v = tyB.enc r)
  | 0, _, _, _, h => by cases h
  | n + 1, a0, a1, r, h => by
    exact fnC_run (M := scope_Open_1_m n) ⟨(tabA_cons_ok (ent2_ok (strings_HasPrefix_ok n)) tabA_nil_ok), tabD_nil_ok, tabN_ok _, tabF_ok _, noY_ok, noE_ok⟩ Tryd.func54 rfl rfl ⟨tyS.nb 0 _, (tyP cS).nb 0 _, trivial⟩ Tryd.ntmps54 Tryd.results54 (fun σ hs => outR_ok (P := Tryd.prog) (rs := [.tmp 3]) (t := tyB) (σ := σ) (r := r) hs) (((scope_Open_1_e n).2 a0 a1).trans h)

noncomputable def scope_Namespace_m (n : Nat) : Mach (State × Int) where
  body := (Tryd.f26.body).getD .skip
  P := Tryd.prog
  cl := tabA [(17, ent2 (tyC State.cel) tyS tyS (scope_Qualify n)), (21, entG [] osN (asT (tyL rowS) asN) (osC (oaT true rowS) osN) (rsA 0 (fun (b : ((List Str) × Unit)) => b.1.length) rsN) (fun (b : Unit) a => (slices_Clone_string_2_h n) a.1)), (36, ent1 tyS tyB (term_Name n))]
  cd := tabD []
  nrm := tabN []
  cut := tabF []
  n := n
  out := outR Tryd.prog [.cell 4 27, .tmp 5] (ty2 (tyC State.cel) (tyI .i64))
theorem scope_Namespace_f (n : Nat) : (scope_Namespace_m n).P = Tryd.prog ∧ (scope_Namespace_m n).cl = tabA [(17, ent2 (tyC State.cel) tyS tyS (scope_Qualify n)), (21, entG [] osN (asT (tyL rowS) asN) (osC (oaT true rowS) osN) (rsA 0 (fun (b : ((List Str) × Unit)) => b.1.length) rsN) (fun (b : Unit) a => (slices_Clone_string_2_h n) a.1)), (36, ent1 tyS tyB (term_Name n))] ∧ (scope_Namespace_m n).cd = tabD [] ∧ (scope_Namespace_m n).nrm = tabN [] ∧ (scope_Namespace_m n).cut = tabF [] ∧ (scope_Namespace_m n).n = n ∧ (scope_Namespace_m n).out = outR Tryd.prog [.cell 4 27, .tmp 5] (ty2 (tyC State.cel) (tyI .i64)) := ⟨rfl, rfl, rfl, rfl, rfl, rfl, rfl⟩
theorem scope_Namespace_c (n : Nat) : (scope_Namespace_m n).body = (Tryd.f26.body).getD .skip := rfl
noncomputable def scope_Namespace_e (n : Nat) : { B : State → Str → Option (State × Int) // ∀ (a0 : State) (a1 : Str), run (scope_Namespace_m n) [.at []] { slots := [(tyC State.cel).enc a0, tyS.enc a1] ++ List.replicate (32 - [(tyC State.cel).enc a0, tyS.enc a1].length) .any, heap := [] } = B a0 a1 } := by
  apply Subtype.mk
  intro a0 a1
  simp (config := { maxSteps := 100000000 }) only [go_sem, Nat.reduceAdd, Nat.reduceSub, Nat.reduceLeDiff, Nat.reduceEqDiff, Nat.reduceBEq, Nat.reduceMul, Nat.reduceLT, Int.reduceLE, Int.reduceLT, Int.reduceToNat, Int.reduceBEq, Int.reduceEq, scope_Namespace_f, scope_Namespace_c, Tryd.f26, Option.getD_some, mixed]
  exact rfl
noncomputable def scope_Namespace : Nat → State → Str → Option (State × Int)
  | 0, _, _ => none
  | n + 1, a0, a1 => (scope_Namespace_e n).1 a0 a1
theorem scope_Namespace_ok : ∀ (n : Nat) (a0 : State) (a1 : Str) (r : (State × Int)), scope_Namespace n a0 a1 = some r → FnC Tryd.prog 26 [(tyC State.cel).enc a0, tyS.enc a1] (fun v => v = (ty2 (tyC State.cel) (tyI .i64)).enc r)
  | 0, _, _, _, h => by cases h
  | n + 1, a0, a1, r, h => by
    exact fnC_run (M := scope_Namespace_m n) ⟨(tabA_cons_ok (ent2_ok (scope_Qualify_ok n)) (tabA_cons_ok (entG_ok (fun b a r h => (slices_Clone_string_2_h_ok n) a.1 r h)) (tabA_cons_ok (ent1_ok (term_Name_ok n)) tabA_nil_ok))), tabD_nil_ok, tabN_ok _, tabF_ok _, noY_ok, noE_ok⟩ Tryd.func26 rfl rfl ⟨(tyC State.cel).nb 0 _, tyS.nb 0 _, trivial⟩ Tryd.ntmps26 Tryd.results26 (fun σ hs => outR_ok (P := Tryd.prog) (rs := [.cell 4 27, .tmp 5]) (t := (ty2 (tyC State.cel) (tyI .i64))) (σ := σ) (r := r) hs) (((scope_Namespace_e n).2 a0 a1).trans h)
end Go.Abs
namespace Go.Abs
open Go.Proofs
set_option maxRecDepth 100000
set_option maxHeartbeats 4000000
set_option linter.unusedSimpArgs false
set_option linter.unusedVariables false
noncomputable def ref27_Namespace_m (n : Nat) : Mach (State × Int) where
  body := (Tryd.f27.body).getD .skip
  P := Tryd.prog
  cl := tabA [(18, ent2 (tyC State.cel) tyS tyS (ref27_Qualify n)), (40, ent1 tyS tyB (ref03_Name n))]
  cd := tabD []
  nrm := tabN []
  cut := tabF []
  n := n
  out := outR Tryd.prog [.cell 4 27, .tmp 5] (ty2 (tyC State.cel) (tyI .i64))
theorem ref27_Namespace_f (n : Nat) : (ref27_Namespace_m n).P = Tryd.prog ∧ (ref27_Namespace_m n).cl = tabA [(18, ent2 (tyC State.cel) tyS tyS (ref27_Qualify n)), (40, ent1 tyS tyB (ref03_Name n))] ∧ (ref27_Namespace_m n).cd = tabD [] ∧ (ref27_Namespace_m n).nrm = tabN [] ∧ (ref27_Namespace_m n).cut = tabF [] ∧ (ref27_Namespace_m n).n = n ∧ (ref27_Namespace_m n).out = outR Tryd.prog [.cell 4 27, .tmp 5] (ty2 (tyC State.cel) (tyI .i64)) := ⟨rfl, rfl, rfl, rfl, rfl, rfl, rfl⟩
theorem ref27_Namespace_c (n : Nat) : (ref27_Namespace_m n).body = (Tryd.f27.body).getD .skip := rfl
noncomputable def ref27_Namespace_e (n : Nat) : { B : State → Str → Option (State × Int) // ∀ (a0 : State) (a1 : Str), run (ref27_Namespace_m n) [.at []] { slots := [(tyC State.cel).enc a0, tyS.enc a1] ++ List.replicate (32 - [(tyC State.cel).enc a0, tyS.enc a1].length) .any, heap := [] } = B a0 a1 } := by
  apply Subtype.mk
  intro a0 a1
  simp (config := { maxSteps := 100000000 }) only [go_sem, Nat.reduceAdd, Nat.reduceSub, Nat.reduceLeDiff, Nat.reduceEqDiff, Nat.reduceBEq, Nat.reduceMul, Nat.reduceLT, Int.reduceLE, Int.reduceLT, Int.reduceToNat, Int.reduceBEq, Int.reduceEq, ref27_Namespace_f, ref27_Namespace_c, Tryd.f27, Option.getD_some, mixed]
  exact rfl
noncomputable def ref27_Namespace : Nat → State → Str → Option (State × Int)
  | 0, _, _ => none
  | n + 1, a0, a1 => (ref27_Namespace_e n).1 a0 a1
theorem ref27_Namespace_ok : ∀ (n : Nat) (a0 : State) (a1 : Str) (r : (State × Int)), ref27_Namespace n a0 a1 = some r → FnC Tryd.prog 27 [(tyC State.cel).enc a0, tyS.enc a1] (fun v => v = (ty2 (tyC State.cel) (tyI .i64)).enc r)
  | 0, _, _, _, h => by cases h
  | n + 1, a0, a1, r, h => by
    exact fnC_run (M := ref27_Namespace_m n) ⟨(tabA_cons_ok (ent2_ok (ref27_Qualify_ok n)) (tabA_cons_ok (ent1_ok (ref03_Name_ok n)) tabA_nil_ok)), tabD_nil_ok, tabN_ok _, tabF_ok _, noY_ok, noE_ok⟩ Tryd.func27 rfl rfl ⟨(tyC State.cel).nb 0 _, tyS.nb 0 _, trivial⟩ Tryd.ntmps27 Tryd.results27 (fun σ hs => outR_ok (P := Tryd.prog) (rs := [.cell 4 27, .tmp 5]) (t := (ty2 (tyC State.cel) (tyI .i64))) (σ := σ) (r := r) hs) (((ref27_Namespace_e n).2 a0 a1).trans h)

noncomputable def ref27_Open_m (n : Nat) : Mach (State × Int) where
  body := (Tryd.f31.body).getD .skip
  P := Tryd.prog
  cl := tabA [(40, ent1 tyS tyB (ref03_Name n)), (46, ent2 (tyL rowS) tyS tyB (ref07_Has n)), (58, ent2 (tyC State.cel) tyS tyB (ref27_inside n))]
  cd := tabD []
  nrm := tabN []
  cut := tabF []
  n := n
  out := outR Tryd.prog [.cell 4 27, .tmp 5] (ty2 (tyC State.cel) (tyI .i64))
theorem ref27_Open_f (n : Nat) : (ref27_Open_m n).P = Tryd.prog ∧ (ref27_Open_m n).cl = tabA [(40, ent1 tyS tyB (ref03_Name n)), (46, ent2 (tyL rowS) tyS tyB (ref07_Has n)), (58, ent2 (tyC State.cel) tyS tyB (ref27_inside n))] ∧ (ref27_Open_m n).cd = tabD [] ∧ (ref27_Open_m n).nrm = tabN [] ∧ (ref27_Open_m n).cut = tabF [] ∧ (ref27_Open_m n).n = n ∧ (ref27_Open_m n).out = outR Tryd.prog [.cell 4 27, .tmp 5] (ty2 (tyC State.cel) (tyI .i64)) := ⟨rfl, rfl, rfl, rfl, rfl, rfl, rfl⟩
theorem ref27_Open_c (n : Nat) : (ref27_Open_m n).body = (Tryd.f31.body).getD .skip := rfl
noncomputable def ref27_Open_e (n : Nat) : { B : State → Str → Option (State × Int) // ∀ (a0 : State) (a1 : Str), run (ref27_Open_m n) [.at []] { slots := [(tyC State.cel).enc a0, tyS.enc a1] ++ List.replicate (36 - [(tyC State.cel).enc a0, tyS.enc a1].length) .any, heap := [] } = B a0 a1 } := by
  apply Subtype.mk
  intro a0 a1
  simp (config := { maxSteps := 100000000 }) only [go_sem, Nat.reduceAdd, Nat.reduceSub, Nat.reduceLeDiff, Nat.reduceEqDiff, Nat.reduceBEq, Nat.reduceMul, Nat.reduceLT, Int.reduceLE, Int.reduceLT, Int.reduceToNat, Int.reduceBEq, Int.reduceEq, ref27_Open_f, ref27_Open_c, Tryd.f31, Option.getD_some, mixed]
  exact rfl
noncomputable def ref27_Open : Nat → State → Str → Option (State × Int)
  | 0, _, _ => none
  | n + 1, a0, a1 => (ref27_Open_e n).1 a0 a1
theorem ref27_Open_ok : ∀ (n : Nat) (a0 : State) (a1 : Str) (r : (State × Int)), ref27_Open n a0 a1 = some r → FnC Tryd.prog 31 [(tyC State.cel).enc a0, tyS.enc a1] (fun v => v = (ty2 (tyC State.cel) (tyI .i64)).enc r)
  | 0, _, _, _, h => by cases h
  | n + 1, a0, a1, r, h => by
    exact fnC_run (M := ref27_Open_m n) ⟨(tabA_cons_ok (ent1_ok (ref03_Name_ok n)) (tabA_cons_ok (ent2_ok (ref07_Has_ok n)) (tabA_cons_ok (ent2_ok (ref27_inside_ok n)) tabA_nil_ok))), tabD_nil_ok, tabN_ok _, tabF_ok _, noY_ok, noE_ok⟩ Tryd.func31 rfl rfl ⟨(tyC State.cel).nb 0 _, tyS.nb 0 _, trivial⟩ Tryd.ntmps31 Tryd.results31 (fun σ hs => outR_ok (P := Tryd.prog) (rs := [.cell 4 27, .tmp 5]) (t := (ty2 (tyC State.cel) (tyI .i64))) (σ := σ) (r := r) hs) (((ref27_Open_e n).2 a0 a1).trans h)
end Go.Abs
namespace Go.Abs
open Go.Proofs
set_option maxRecDepth 100000
set_option maxHeartbeats 4000000
set_option linter.unusedSimpArgs false
set_option linter.unusedVariables false
noncomputable def law27_short_m (n : Nat) : Mach Bool where
  body := (Tryd.f23.body).getD .skip
  P := Tryd.prog
  cl := tabA [(33, ent2 (tyL rowS) (tyF 53) tyB (slices_ContainsFunc_string_law27_short_1 n))]
  cd := tabD []
  nrm := tabN []
  cut := tabF []
  n := n
  out := outR Tryd.prog [.tmp 2] tyB
theorem law27_short_f (n : Nat) : (law27_short_m n).P = Tryd.prog ∧ (law27_short_m n).cl = tabA [(33, ent2 (tyL rowS) (tyF 53) tyB (slices_ContainsFunc_string_law27_short_1 n))] ∧ (law27_short_m n).cd = tabD [] ∧ (law27_short_m n).nrm = tabN [] ∧ (law27_short_m n).cut = tabF [] ∧ (law27_short_m n).n = n ∧ (law27_short_m n).out = outR Tryd.prog [.tmp 2] tyB := ⟨rfl, rfl, rfl, rfl, rfl, rfl, rfl⟩
theorem law27_short_c (n : Nat) : (law27_short_m n).body = (Tryd.f23.body).getD .skip := rfl
noncomputable def law27_short_e (n : Nat) : { B : (List Str) → Option Bool // ∀ (a0 : (List Str)), run (law27_short_m n) [.at []] { slots := [(tyL rowS).enc a0] ++ List.replicate (11 - [(tyL rowS).enc a0].length) .any, heap := [] } = B a0 } := by
  apply Subtype.mk
  intro a0
  simp (config := { maxSteps := 100000000 }) only [go_sem, Nat.reduceAdd, Nat.reduceSub, Nat.reduceLeDiff, Nat.reduceEqDiff, Nat.reduceBEq, Nat.reduceMul, Nat.reduceLT, Int.reduceLE, Int.reduceLT, Int.reduceToNat, Int.reduceBEq, Int.reduceEq, law27_short_f, law27_short_c, Tryd.f23, Option.getD_some, mixed]
  exact rfl
noncomputable def law27_short : Nat → (List Str) → Option Bool
  | 0, _ => none
  | n + 1, a0 => (law27_short_e n).1 a0
theorem law27_short_ok : ∀ (n : Nat) (a0 : (List Str)) (r : Bool), law27_short n a0 = some r → FnC Tryd.prog 23 [(tyL rowS).enc a0] (fun v => v = tyB.enc r)
  | 0, _, _, h => by cases h
  | n + 1, a0, r, h => by
    exact fnC_run (M := law27_short_m n) ⟨(tabA_cons_ok (ent2_ok (slices_ContainsFunc_string_law27_short_1_ok n)) tabA_nil_ok), tabD_nil_ok, tabN_ok _, tabF_ok _, noY_ok, noE_ok⟩ Tryd.func23 rfl rfl ⟨(tyL rowS).nb 0 _, trivial⟩ Tryd.ntmps23 Tryd.results23 (fun σ hs => outR_ok (P := Tryd.prog) (rs := [.tmp 2]) (t := tyB) (σ := σ) (r := r) hs) (((law27_short_e n).2 a0).trans h)

noncomputable def slices_IndexFunc_Decl_scope_Declared_1_n1 : Nrm := ⟨[], [], [zT (tyL Decl.row), zK, zA, zA, zA, zA, zA, zK, zK, zA, zA, zA, zA, zA, zA, zA, zA, zA, zA], [oC [zK]], none⟩
noncomputable def slices_IndexFunc_Decl_scope_Declared_1_as : AL ((List Decl) × (Unit × Unit)) := (alT (tyL Decl.row) (alF 44 (vlP 0 vlN) alN))
noncomputable def slices_IndexFunc_Decl_scope_Declared_1_m (n : Nat) : Mach (((Str × Unit) × Unit) × (Int × Unit)) where
  body := (Tryd.f65.body).getD .skip
  P := Tryd.prog
  cl := tabA [(44, entG [1] (osC (ocT cS) osN) (asT (tyC Decl.cel) (asP 0 asN)) (osC (ocT cS) osN) (rsT tyB rsN) (fun (b : (Str × Unit)) a => (scope_Declared_1 n) a.1 b.1))]
  cd := tabD []
  nrm := tabN [([0, 1, 0, 1], slices_IndexFunc_Decl_scope_Declared_1_n1)]
  cut := tabF []
  n := n
  out := outS Tryd.prog [.tmp 4] [] [0] 1 (olC (ogC (alC cS 1 alN)) olN) (alT (tyI .i64) alN)
theorem slices_IndexFunc_Decl_scope_Declared_1_f (n : Nat) : (slices_IndexFunc_Decl_scope_Declared_1_m n).P = Tryd.prog ∧ (slices_IndexFunc_Decl_scope_Declared_1_m n).cl = tabA [(44, entG [1] (osC (ocT cS) osN) (asT (tyC Decl.cel) (asP 0 asN)) (osC (ocT cS) osN) (rsT tyB rsN) (fun (b : (Str × Unit)) a => (scope_Declared_1 n) a.1 b.1))] ∧ (slices_IndexFunc_Decl_scope_Declared_1_m n).cd = tabD [] ∧ (slices_IndexFunc_Decl_scope_Declared_1_m n).nrm = tabN [([0, 1, 0, 1], slices_IndexFunc_Decl_scope_Declared_1_n1)] ∧ (slices_IndexFunc_Decl_scope_Declared_1_m n).cut = tabF [] ∧ (slices_IndexFunc_Decl_scope_Declared_1_m n).n = n ∧ (slices_IndexFunc_Decl_scope_Declared_1_m n).out = outS Tryd.prog [.tmp 4] [] [0] 1 (olC (ogC (alC cS 1 alN)) olN) (alT (tyI .i64) alN) := ⟨rfl, rfl, rfl, rfl, rfl, rfl, rfl⟩
theorem slices_IndexFunc_Decl_scope_Declared_1_c (n : Nat) : (slices_IndexFunc_Decl_scope_Declared_1_m n).body = (Tryd.f65.body).getD .skip := rfl
noncomputable def slices_IndexFunc_Decl_scope_Declared_1_b1 (n : Nat) : { B : ((List Decl) → Int → Int → Str → Option (((Str × Unit) × Unit) × (Int × Unit))) → (List Decl) → Int → Int → Str → Option (((Str × Unit) × Unit) × (Int × Unit)) // ∀ m X0, (∀ (v0 : List Decl) (v1 : Int) (v2 : Int) (v3 : Str), run (slices_IndexFunc_Decl_scope_Declared_1_m n) [.lq m [0, 1, 0, 1], .blk 0, .cut [1, 1], .at [1, 1]] ⟨[.lst false 23 (mp Decl.cells v0), .func (.func 44) [] [.ptr 0 0], .any, .any, .any, .any, .any, .int .i64 v1, .int .i64 v2, .any, .any, .any, .any, .any, .any, .any, .any, .any, .any], [.cells [.str (sb v3)]], 1⟩ = X0 v0 v1 v2 v3) → ∀ (v0 : List Decl) (v1 : Int) (v2 : Int) (v3 : Str), run (slices_IndexFunc_Decl_scope_Declared_1_m n) [.at [0, 0, 1, 0, 1], .lp m [0, 1, 0, 1], .blk 0, .cut [1, 1], .at [1, 1]] ⟨[.lst false 23 (mp Decl.cells v0), .func (.func 44) [] [.ptr 0 0], .any, .any, .any, .any, .any, .int .i64 v1, .int .i64 v2, .any, .any, .any, .any, .any, .any, .any, .any, .any, .any], [.cells [.str (sb v3)]], 1⟩ = B X0 v0 v1 v2 v3 } := by
  apply Subtype.mk
  intro m X0 ih v0 v1 v2 v3
  simp (config := { maxSteps := 100000000 }) only [go_sem, Nat.reduceAdd, Nat.reduceSub, Nat.reduceLeDiff, Nat.reduceEqDiff, Nat.reduceBEq, Nat.reduceMul, Nat.reduceLT, Int.reduceLE, Int.reduceLT, Int.reduceToNat, Int.reduceBEq, Int.reduceEq, slices_IndexFunc_Decl_scope_Declared_1_f, slices_IndexFunc_Decl_scope_Declared_1_c, Tryd.f65, Option.getD_some, mixed, slices_IndexFunc_Decl_scope_Declared_1_as, slices_IndexFunc_Decl_scope_Declared_1_n1, ih]
  exact rfl
noncomputable def slices_IndexFunc_Decl_scope_Declared_1_l1 (n : Nat) : Nat → (List Decl) → Int → Int → Str → Option (((Str × Unit) × Unit) × (Int × Unit))
  | 0, _, _, _, _ => none
  | m + 1, v0, v1, v2, v3 => (slices_IndexFunc_Decl_scope_Declared_1_b1 n).1 (slices_IndexFunc_Decl_scope_Declared_1_l1 n m) v0 v1 v2 v3
theorem slices_IndexFunc_Decl_scope_Declared_1_l1_eq (n : Nat) : ∀ (m : Nat), (∀ (v0 : List Decl) (v1 : Int) (v2 : Int) (v3 : Str), run (slices_IndexFunc_Decl_scope_Declared_1_m n) [.lq m [0, 1, 0, 1], .blk 0, .cut [1, 1], .at [1, 1]] ⟨[.lst false 23 (mp Decl.cells v0), .func (.func 44) [] [.ptr 0 0], .any, .any, .any, .any, .any, .int .i64 v1, .int .i64 v2, .any, .any, .any, .any, .any, .any, .any, .any, .any, .any], [.cells [.str (sb v3)]], 1⟩ = slices_IndexFunc_Decl_scope_Declared_1_l1 n m v0 v1 v2 v3)
  | 0 => by intros; exact run_lq_zero
  | m + 1 => by
    have ih := slices_IndexFunc_Decl_scope_Declared_1_l1_eq n m
    intro v0 v1 v2 v3
    rw [run_lq_succ]
    exact (slices_IndexFunc_Decl_scope_Declared_1_b1 n).2  m _  ih v0 v1 v2 v3
noncomputable def slices_IndexFunc_Decl_scope_Declared_1_e (n : Nat) : { B : (List Decl) → Str → Option (((Str × Unit) × Unit) × (Int × Unit)) // ∀ (a0 : (List Decl)) (o0 : Str), run (slices_IndexFunc_Decl_scope_Declared_1_m n) [.at []] { slots := (slices_IndexFunc_Decl_scope_Declared_1_as.enc ((olC (ogC (alC cS 1 alN)) olN).lens ((o0, ()), ())) (a0, (), ())) ++ List.replicate (19 - (slices_IndexFunc_Decl_scope_Declared_1_as.enc ((olC (ogC (alC cS 1 alN)) olN).lens ((o0, ()), ())) (a0, (), ())).length) .any, heap := ((olC (ogC (alC cS 1 alN)) olN).enc ((olC (ogC (alC cS 1 alN)) olN).lens ((o0, ()), ())) ((o0, ()), ())), low := ((olC (ogC (alC cS 1 alN)) olN).enc ((olC (ogC (alC cS 1 alN)) olN).lens ((o0, ()), ())) ((o0, ()), ())).length } = B a0 o0 } := by
  apply Subtype.mk
  intro a0 o0
  simp (config := { maxSteps := 100000000 }) only [go_sem, Nat.reduceAdd, Nat.reduceSub, Nat.reduceLeDiff, Nat.reduceEqDiff, Nat.reduceBEq, Nat.reduceMul, Nat.reduceLT, Int.reduceLE, Int.reduceLT, Int.reduceToNat, Int.reduceBEq, Int.reduceEq, slices_IndexFunc_Decl_scope_Declared_1_f, slices_IndexFunc_Decl_scope_Declared_1_c, Tryd.f65, Option.getD_some, mixed, slices_IndexFunc_Decl_scope_Declared_1_as, slices_IndexFunc_Decl_scope_Declared_1_n1, slices_IndexFunc_Decl_scope_Declared_1_l1_eq n]
  exact rfl
noncomputable def slices_IndexFunc_Decl_scope_Declared_1 : Nat → (List Decl) → Str → Option (((Str × Unit) × Unit) × (Int × Unit))
  | 0, _, _ => none
  | n + 1, a0, o0 => (slices_IndexFunc_Decl_scope_Declared_1_e n).1 a0 o0
theorem slices_IndexFunc_Decl_scope_Declared_1_ok : ∀ (n : Nat) (a0 : (List Decl)) (o0 : Str) (r : (((Str × Unit) × Unit) × (Int × Unit))), slices_IndexFunc_Decl_scope_Declared_1 n a0 o0 = some r → FnG Tryd.prog 65 (slices_IndexFunc_Decl_scope_Declared_1_as.enc ((olC (ogC (alC cS 1 alN)) olN).lens ((o0, ()), ())) (a0, (), ())) ((olC (ogC (alC cS 1 alN)) olN).enc ((olC (ogC (alC cS 1 alN)) olN).lens ((o0, ()), ())) ((o0, ()), ())) (fun o H' => o = .ret (tupOf ((alT (tyI .i64) alN).enc ((olC (ogC (alC cS 1 alN)) olN).lens r.1) r.2)) ∧ H' = (olC (ogC (alC cS 1 alN)) olN).enc ((olC (ogC (alC cS 1 alN)) olN).lens r.1) r.1)
  | 0, _, _, _, h => by cases h
  | n + 1, a0, o0, r, h => by
    exact fnG_run (M := slices_IndexFunc_Decl_scope_Declared_1_m n) ⟨(tabA_cons_ok (entG_ok (fun b a r h => (scope_Declared_1_ok n) a.1 b.1 r h)) tabA_nil_ok), tabD_nil_ok, tabN_ok _, tabF_ok _, noY_ok, noE_ok⟩ Tryd.func65 rfl rfl (nbL_le (Nat.le_trans (of_decide_eq_true (by kernel_rfl)) (Nat.le_of_eq ((olC (ogC (alC cS 1 alN)) olN).sz _ _).symm)) _ (slices_IndexFunc_Decl_scope_Declared_1_as.nb _ _)) (fun x hx => objNb_le' (Nat.le_trans (of_decide_eq_true (by kernel_rfl)) (Nat.le_of_eq ((olC (ogC (alC cS 1 alN)) olN).sz _ _).symm)) _ ((olC (ogC (alC cS 1 alN)) olN).nb _ _ x hx)) Tryd.ntmps65 Tryd.results65 (fun σ hs => outS_ok (P := Tryd.prog) (rs := [.tmp 4]) (pos := []) (base := [0]) (low := 1) (os := (olC (ogC (alC cS 1 alN)) olN)) (s := (alT (tyI .i64) alN)) (σ := σ) (r := r) (by rfl) hs) (((slices_IndexFunc_Decl_scope_Declared_1_e n).2 a0 o0).trans h)

noncomputable def ref27_Shortest_n1 : Nrm := ⟨[], [], [zA, zK, zK, zA, zA, zA, zK, zA, zA, zA, zA, zA, zA, zA, zA, zA, zA, zA, zA, zA, zA, zA, zA, zA, zA, zA, zA, zA, zA, zA, zA, zA, zA, zA, zA, zA, zA, zA, zA, zA, zA, zA, zA, zA, zA, zA, zA], [oT State.cel], none⟩
noncomputable def ref27_Shortest_m (n : Nat) : Mach (Str × Int) where
  body := (Tryd.f14.body).getD .skip
  P := Tryd.prog
  cl := tabA [(16, ent2 (tyC State.cel) tyS tyB (ref27_Declared n))]
  cd := tabD [(12, entD (ent2 (tyC State.cel) tyS (ty2 tyS (tyI .i64)) (ref27_Resolve n)))]
  nrm := tabN [([0, 1, 0, 1, 1], ref27_Shortest_n1)]
  cut := tabF []
  n := n
  out := outR Tryd.prog [.tmp 4, .tmp 5] (ty2 tyS (tyI .i64))
  isE := tabI []
theorem ref27_Shortest_f (n : Nat) : (ref27_Shortest_m n).P = Tryd.prog ∧ (ref27_Shortest_m n).cl = tabA [(16, ent2 (tyC State.cel) tyS tyB (ref27_Declared n))] ∧ (ref27_Shortest_m n).cd = tabD [(12, entD (ent2 (tyC State.cel) tyS (ty2 tyS (tyI .i64)) (ref27_Resolve n)))] ∧ (ref27_Shortest_m n).nrm = tabN [([0, 1, 0, 1, 1], ref27_Shortest_n1)] ∧ (ref27_Shortest_m n).cut = tabF [] ∧ (ref27_Shortest_m n).n = n ∧ (ref27_Shortest_m n).out = outR Tryd.prog [.tmp 4, .tmp 5] (ty2 tyS (tyI .i64)) ∧ (ref27_Shortest_m n).isE = tabI [] := ⟨rfl, rfl, rfl, rfl, rfl, rfl, rfl, rfl⟩
theorem ref27_Shortest_c (n : Nat) : (ref27_Shortest_m n).body = (Tryd.f14.body).getD .skip := rfl
theorem ref27_Shortest_d (n : Nat) : drawP (ref27_Shortest_m n) [0, 1, 0, 0, 1, 0, 0, 1, 0, 1, 1] = true := by kernel_rfl
noncomputable def ref27_Shortest_b1 (n : Nat) : { B : (Str → Int → State → Option (Str × Int)) → Str → Int → State → Option (Str × Int) // ∀ m X0, (∀ (v0 : Str) (v1 : Int) (o0 : State), run (ref27_Shortest_m n) [.lq m [0, 1, 0, 1, 1], .blk 0, .cut [1, 1, 1], .at [1, 1, 1]] ⟨[.any, .str (sb v0), .ptr 0 0, .any, .any, .any, .int .i64 v1, .any, .any, .any, .any, .any, .any, .any, .any, .any, .any, .any, .any, .any, .any, .any, .any, .any, .any, .any, .any, .any, .any, .any, .any, .any, .any, .any, .any, .any, .any, .any, .any, .any, .any, .any, .any, .any, .any, .any, .any], [.cells (State.cells o0)], 0⟩ = X0 v0 v1 o0) → ∀ (v0 : Str) (v1 : Int) (o0 : State), run (ref27_Shortest_m n) [.at [0, 0, 1, 0, 1, 1], .lp m [0, 1, 0, 1, 1], .blk 0, .cut [1, 1, 1], .at [1, 1, 1]] ⟨[.any, .str (sb v0), .ptr 0 0, .any, .any, .any, .int .i64 v1, .any, .any, .any, .any, .any, .any, .any, .any, .any, .any, .any, .any, .any, .any, .any, .any, .any, .any, .any, .any, .any, .any, .any, .any, .any, .any, .any, .any, .any, .any, .any, .any, .any, .any, .any, .any, .any, .any, .any, .any], [.cells (State.cells o0)], 0⟩ = B X0 v0 v1 o0 } := by
  apply Subtype.mk
  intro m X0 ih v0 v1 o0
  simp (config := { maxSteps := 100000000 }) only [go_sem, Nat.reduceAdd, Nat.reduceSub, Nat.reduceLeDiff, Nat.reduceEqDiff, Nat.reduceBEq, Nat.reduceMul, Nat.reduceLT, Int.reduceLE, Int.reduceLT, Int.reduceToNat, Int.reduceBEq, Int.reduceEq, ref27_Shortest_f, ref27_Shortest_c, Tryd.f14, Option.getD_some, mixed, ref27_Shortest_d, ref27_Shortest_n1, ih]
  exact rfl
noncomputable def ref27_Shortest_l1 (n : Nat) : Nat → Str → Int → State → Option (Str × Int)
  | 0, _, _, _ => none
  | m + 1, v0, v1, o0 => (ref27_Shortest_b1 n).1 (ref27_Shortest_l1 n m) v0 v1 o0
theorem ref27_Shortest_l1_eq (n : Nat) : ∀ (m : Nat), (∀ (v0 : Str) (v1 : Int) (o0 : State), run (ref27_Shortest_m n) [.lq m [0, 1, 0, 1, 1], .blk 0, .cut [1, 1, 1], .at [1, 1, 1]] ⟨[.any, .str (sb v0), .ptr 0 0, .any, .any, .any, .int .i64 v1, .any, .any, .any, .any, .any, .any, .any, .any, .any, .any, .any, .any, .any, .any, .any, .any, .any, .any, .any, .any, .any, .any, .any, .any, .any, .any, .any, .any, .any, .any, .any, .any, .any, .any, .any, .any, .any, .any, .any, .any], [.cells (State.cells o0)], 0⟩ = ref27_Shortest_l1 n m v0 v1 o0)
  | 0 => by intros; exact run_lq_zero
  | m + 1 => by
    have ih := ref27_Shortest_l1_eq n m
    intro v0 v1 o0
    rw [run_lq_succ]
    exact (ref27_Shortest_b1 n).2  m _  ih v0 v1 o0
noncomputable def ref27_Shortest_e (n : Nat) : { B : State → Str → Option (Str × Int) // ∀ (a0 : State) (a1 : Str), run (ref27_Shortest_m n) [.at []] { slots := [(tyC State.cel).enc a0, tyS.enc a1] ++ List.replicate (47 - [(tyC State.cel).enc a0, tyS.enc a1].length) .any, heap := [] } = B a0 a1 } := by
  apply Subtype.mk
  intro a0 a1
  simp (config := { maxSteps := 100000000 }) only [go_sem, Nat.reduceAdd, Nat.reduceSub, Nat.reduceLeDiff, Nat.reduceEqDiff, Nat.reduceBEq, Nat.reduceMul, Nat.reduceLT, Int.reduceLE, Int.reduceLT, Int.reduceToNat, Int.reduceBEq, Int.reduceEq, ref27_Shortest_f, ref27_Shortest_c, Tryd.f14, Option.getD_some, mixed, ref27_Shortest_d, ref27_Shortest_n1, ref27_Shortest_l1_eq n]
  exact rfl
noncomputable def ref27_Shortest : Nat → State → Str → Option (Str × Int)
  | 0, _, _ => none
  | n + 1, a0, a1 => (ref27_Shortest_e n).1 a0 a1
theorem ref27_Shortest_ok : ∀ (n : Nat) (a0 : State) (a1 : Str) (r : (Str × Int)), ref27_Shortest n a0 a1 = some r → FnC Tryd.prog 14 [(tyC State.cel).enc a0, tyS.enc a1] (fun v => v = (ty2 tyS (tyI .i64)).enc r)
  | 0, _, _, _, h => by cases h
  | n + 1, a0, a1, r, h => by
    exact fnC_run (M := ref27_Shortest_m n) ⟨(tabA_cons_ok (ent2_ok (ref27_Declared_ok n)) tabA_nil_ok), (tabD_cons_ok (ent2_okD (ref27_Resolve_ok n)) tabD_nil_ok), tabN_ok _, tabF_ok _, noY_ok, noE_ok⟩ Tryd.func14 rfl rfl ⟨(tyC State.cel).nb 0 _, tyS.nb 0 _, trivial⟩ Tryd.ntmps14 Tryd.results14 (fun σ hs => outR_ok (P := Tryd.prog) (rs := [.tmp 4, .tmp 5]) (t := (ty2 tyS (tyI .i64))) (σ := σ) (r := r) hs) (((ref27_Shortest_e n).2 a0 a1).trans h)

noncomputable def slices_IndexFunc_string_scope_Open_1_n1 : Nrm := ⟨[], [], [zT (tyL rowS), zT (tyK1 54 (tyP cS)), zA, zA, zA, zA, zA, zK, zK, zA, zA, zA, zA, zA, zA, zA, zA, zA, zA], [], none⟩
noncomputable def slices_IndexFunc_string_scope_Open_1_m (n : Nat) : Mach Int where
  body := (Tryd.f60.body).getD .skip
  P := Tryd.prog
  cl := tabA [(54, ent2 tyS (tyP cS) tyB (scope_Open_1 n))]
  cd := tabD []
  nrm := tabN [([0, 1, 0, 1], slices_IndexFunc_string_scope_Open_1_n1)]
  cut := tabF []
  n := n
  out := outR Tryd.prog [.tmp 4] (tyI .i64)
theorem slices_IndexFunc_string_scope_Open_1_f (n : Nat) : (slices_IndexFunc_string_scope_Open_1_m n).P = Tryd.prog ∧ (slices_IndexFunc_string_scope_Open_1_m n).cl = tabA [(54, ent2 tyS (tyP cS) tyB (scope_Open_1 n))] ∧ (slices_IndexFunc_string_scope_Open_1_m n).cd = tabD [] ∧ (slices_IndexFunc_string_scope_Open_1_m n).nrm = tabN [([0, 1, 0, 1], slices_IndexFunc_string_scope_Open_1_n1)] ∧ (slices_IndexFunc_string_scope_Open_1_m n).cut = tabF [] ∧ (slices_IndexFunc_string_scope_Open_1_m n).n = n ∧ (slices_IndexFunc_string_scope_Open_1_m n).out = outR Tryd.prog [.tmp 4] (tyI .i64) := ⟨rfl, rfl, rfl, rfl, rfl, rfl, rfl⟩
theorem slices_IndexFunc_string_scope_Open_1_c (n : Nat) : (slices_IndexFunc_string_scope_Open_1_m n).body = (Tryd.f60.body).getD .skip := rfl
noncomputable def slices_IndexFunc_string_scope_Open_1_b1 (n : Nat) : { B : ((List Str) → Str → Int → Int → Option Int) → (List Str) → Str → Int → Int → Option Int // ∀ m X0, (∀ (v0 : List Str) (v1 : Str) (v2 : Int) (v3 : Int), run (slices_IndexFunc_string_scope_Open_1_m n) [.lq m [0, 1, 0, 1], .blk 0, .cut [1, 1], .at [1, 1]] ⟨[.lst false 1 (mp scell v0), .func (.func 54) [] [.pp [.str (sb v1)]], .any, .any, .any, .any, .any, .int .i64 v2, .int .i64 v3, .any, .any, .any, .any, .any, .any, .any, .any, .any, .any], [], 0⟩ = X0 v0 v1 v2 v3) → ∀ (v0 : List Str) (v1 : Str) (v2 : Int) (v3 : Int), run (slices_IndexFunc_string_scope_Open_1_m n) [.at [0, 0, 1, 0, 1], .lp m [0, 1, 0, 1], .blk 0, .cut [1, 1], .at [1, 1]] ⟨[.lst false 1 (mp scell v0), .func (.func 54) [] [.pp [.str (sb v1)]], .any, .any, .any, .any, .any, .int .i64 v2, .int .i64 v3, .any, .any, .any, .any, .any, .any, .any, .any, .any, .any], [], 0⟩ = B X0 v0 v1 v2 v3 } := by
  apply Subtype.mk
  intro m X0 ih v0 v1 v2 v3
  simp (config := { maxSteps := 100000000 }) only [go_sem, Nat.reduceAdd, Nat.reduceSub, Nat.reduceLeDiff, Nat.reduceEqDiff, Nat.reduceBEq, Nat.reduceMul, Nat.reduceLT, Int.reduceLE, Int.reduceLT, Int.reduceToNat, Int.reduceBEq, Int.reduceEq, slices_IndexFunc_string_scope_Open_1_f, slices_IndexFunc_string_scope_Open_1_c, Tryd.f60, Option.getD_some, mixed, slices_IndexFunc_string_scope_Open_1_n1, ih]
  exact rfl
noncomputable def slices_IndexFunc_string_scope_Open_1_l1 (n : Nat) : Nat → (List Str) → Str → Int → Int → Option Int
  | 0, _, _, _, _ => none
  | m + 1, v0, v1, v2, v3 => (slices_IndexFunc_string_scope_Open_1_b1 n).1 (slices_IndexFunc_string_scope_Open_1_l1 n m) v0 v1 v2 v3
theorem slices_IndexFunc_string_scope_Open_1_l1_eq (n : Nat) : ∀ (m : Nat), (∀ (v0 : List Str) (v1 : Str) (v2 : Int) (v3 : Int), run (slices_IndexFunc_string_scope_Open_1_m n) [.lq m [0, 1, 0, 1], .blk 0, .cut [1, 1], .at [1, 1]] ⟨[.lst false 1 (mp scell v0), .func (.func 54) [] [.pp [.str (sb v1)]], .any, .any, .any, .any, .any, .int .i64 v2, .int .i64 v3, .any, .any, .any, .any, .any, .any, .any, .any, .any, .any], [], 0⟩ = slices_IndexFunc_string_scope_Open_1_l1 n m v0 v1 v2 v3)
  | 0 => by intros; exact run_lq_zero
  | m + 1 => by
    have ih := slices_IndexFunc_string_scope_Open_1_l1_eq n m
    intro v0 v1 v2 v3
    rw [run_lq_succ]
    exact (slices_IndexFunc_string_scope_Open_1_b1 n).2  m _  ih v0 v1 v2 v3
noncomputable def slices_IndexFunc_string_scope_Open_1_e (n : Nat) : { B : (List Str) → Str → Option Int // ∀ (a0 : (List Str)) (a1 : Str), run (slices_IndexFunc_string_scope_Open_1_m n) [.at []] { slots := [(tyL rowS).enc a0, (tyK1 54 (tyP cS)).enc a1] ++ List.replicate (19 - [(tyL rowS).enc a0, (tyK1 54 (tyP cS)).enc a1].length) .any, heap := [] } = B a0 a1 } := by
  apply Subtype.mk
  intro a0 a1
  simp (config := { maxSteps := 100000000 }) only [go_sem, Nat.reduceAdd, Nat.reduceSub, Nat.reduceLeDiff, Nat.reduceEqDiff, Nat.reduceBEq, Nat.reduceMul, Nat.reduceLT, Int.reduceLE, Int.reduceLT, Int.reduceToNat, Int.reduceBEq, Int.reduceEq, slices_IndexFunc_string_scope_Open_1_f, slices_IndexFunc_string_scope_Open_1_c, Tryd.f60, Option.getD_some, mixed, slices_IndexFunc_string_scope_Open_1_n1, slices_IndexFunc_string_scope_Open_1_l1_eq n]
  exact rfl
noncomputable def slices_IndexFunc_string_scope_Open_1 : Nat → (List Str) → Str → Option Int
  | 0, _, _ => none
  | n + 1, a0, a1 => (slices_IndexFunc_string_scope_Open_1_e n).1 a0 a1
theorem slices_IndexFunc_string_scope_Open_1_ok : ∀ (n : Nat) (a0 : (List Str)) (a1 : Str) (r : Int), slices_IndexFunc_string_scope_Open_1 n a0 a1 = some r → FnC Tryd.prog 60 [(tyL rowS).enc a0, (tyK1 54 (tyP cS)).enc a1] (fun v => v = (tyI .i64).enc r)
  | 0, _, _, _, h => by cases h
  | n + 1, a0, a1, r, h => by
    exact fnC_run (M := slices_IndexFunc_string_scope_Open_1_m n) ⟨(tabA_cons_ok (ent2_ok (scope_Open_1_ok n)) tabA_nil_ok), tabD_nil_ok, tabN_ok _, tabF_ok _, noY_ok, noE_ok⟩ Tryd.func60 rfl rfl ⟨(tyL rowS).nb 0 _, (tyK1 54 (tyP cS)).nb 0 _, trivial⟩ Tryd.ntmps60 Tryd.results60 (fun σ hs => outR_ok (P := Tryd.prog) (rs := [.tmp 4]) (t := (tyI .i64)) (σ := σ) (r := r) hs) (((slices_IndexFunc_string_scope_Open_1_e n).2 a0 a1).trans h)
end Go.Abs
