/- A part of the proof: what the functions compute. -/
import Derived.Test.YtecpjooedpkedaaDoorDataA
import Derived.Test.YtecpjooedpkedaaDoorExtA
import Derived.Test.YtecpjooedpkedaaDoorWalkA
set_option linter.all false
namespace Go.Abs
open Go.Proofs
set_option maxRecDepth 100000
set_option maxHeartbeats 4000000
set_option linter.unusedSimpArgs false
set_option linter.unusedVariables false
noncomputable def lexer_Keyword_m (n : Nat) : Mach Bool where
  body := (Tryd.f16.body).getD .skip
  P := Tryd.prog
  cl := tabA [(21, entX [] olN alN (olC ogM olN) (alM 0 alN) (fun (b : Unit) (a : Unit) => (lexer_keywords n) ))]
  cd := tabD []
  nrm := tabN []
  cut := tabF []
  n := n
  out := outR Tryd.prog [.tmp 2] tyB
theorem lexer_Keyword_f (n : Nat) : (lexer_Keyword_m n).P = Tryd.prog ∧ (lexer_Keyword_m n).cl = tabA [(21, entX [] olN alN (olC ogM olN) (alM 0 alN) (fun (b : Unit) (a : Unit) => (lexer_keywords n) ))] ∧ (lexer_Keyword_m n).cd = tabD [] ∧ (lexer_Keyword_m n).nrm = tabN [] ∧ (lexer_Keyword_m n).cut = tabF [] ∧ (lexer_Keyword_m n).n = n ∧ (lexer_Keyword_m n).out = outR Tryd.prog [.tmp 2] tyB := ⟨rfl, rfl, rfl, rfl, rfl, rfl, rfl⟩
theorem lexer_Keyword_c (n : Nat) : (lexer_Keyword_m n).body = (Tryd.f16.body).getD .skip := rfl
noncomputable def lexer_Keyword_e (n : Nat) : { B : Str → Option Bool // ∀ (a0 : Str), run (lexer_Keyword_m n) [.at []] { slots := [tyS.enc a0] ++ List.replicate (6 - [tyS.enc a0].length) .any, heap := [] } = B a0 } := by
  apply Subtype.mk
  intro a0
  simp (config := { maxSteps := 100000000 }) only [go_sem, Nat.reduceAdd, Nat.reduceSub, Nat.reduceLeDiff, Nat.reduceEqDiff, Nat.reduceBEq, Nat.reduceMul, Nat.reduceLT, Int.reduceLE, Int.reduceLT, Int.reduceToNat, Int.reduceBEq, Int.reduceEq, lexer_Keyword_f, lexer_Keyword_c, Tryd.f16, Option.getD_some, mixed]
  exact rfl
noncomputable def lexer_Keyword : Nat → Str → Option Bool
  | 0, _ => none
  | n + 1, a0 => (lexer_Keyword_e n).1 a0
theorem lexer_Keyword_ok : ∀ (n : Nat) (a0 : Str) (r : Bool), lexer_Keyword n a0 = some r → FnC Tryd.prog 16 [tyS.enc a0] (fun v => v = tyB.enc r)
  | 0, _, _, h => by cases h
  | n + 1, a0, r, h => by
    exact fnC_run (M := lexer_Keyword_m n) ⟨(tabA_cons_ok (entX_ok (fun b a r h => (lexer_keywords_ok n)  r h)) tabA_nil_ok), tabD_nil_ok, tabN_ok _, tabF_ok _, noY_ok, noE_ok⟩ Tryd.func16 rfl rfl ⟨tyS.nb 0 _, trivial⟩ Tryd.ntmps16 Tryd.results16 (fun σ hs => outR_ok (P := Tryd.prog) (rs := [.tmp 2]) (t := tyB) (σ := σ) (r := r) hs) (((lexer_Keyword_e n).2 a0).trans h)

noncomputable def lexer_scanner_skip_n1 : Nrm := ⟨[], [], [zK, zA, zA, zA, zA, zA, zA, zA, zA, zA, zA, zA, zA, zA, zA, zA, zA, zA, zA, zA, zA, zA, zA, zA, zA, zA, zA, zA, zA, zA, zA, zA, zA, zA, zA, zA, zA, zA, zA, zA, zA, zA, zA, zA, zA, zA, zA, zA, zA, zA, zA, zA, zA, zA, zA], [oC [zK, zK, zK, zK, zK], oK, oK, oK], none⟩
noncomputable def lexer_scanner_skip_os : OL ((Str × (Int × Unit)) × ((List (Str × Bool)) × ((List (Str × Bool)) × ((List (Str × Bool)) × Unit)))) := (olC (ogC (alT tyS (alT (tyI .i64) (alM 1 (alM 2 (alM 3 alN)))))) (olC ogM (olC ogM (olC ogM olN))))
noncomputable def lexer_scanner_skip_o1 : OL ((Str × (Int × Unit)) × ((List (Str × Bool)) × ((List (Str × Bool)) × ((List (Str × Bool)) × Unit)))) := (olC (ogC (alT tyS (alT (tyI .i64) (alM 1 (alM 2 (alM 3 alN)))))) (olC ogM (olC ogM (olC ogM olN))))
noncomputable def lexer_scanner_skip_m (n : Nat) : Mach (((Str × (Int × Unit)) × ((List (Str × Bool)) × ((List (Str × Bool)) × ((List (Str × Bool)) × Unit)))) × Unit) where
  body := (Tryd.f27.body).getD .skip
  P := Tryd.prog
  cl := tabA [(40, ent2 tyS (tyI .i32) tyB (strings_ContainsRune n)), (41, ent2 tyS tyS tyB (strings_HasPrefix n)), (42, ent2 tyS tyS (ty3 tyS tyS tyB) (strings_Cut n))]
  cd := tabD []
  nrm := tabN [([0], lexer_scanner_skip_n1)]
  cut := tabF []
  n := n
  out := outS Tryd.prog [] [] [0, 1, 2, 3] 4 lexer_scanner_skip_o1 alN
  isE := tabI []
theorem lexer_scanner_skip_f (n : Nat) : (lexer_scanner_skip_m n).P = Tryd.prog ∧ (lexer_scanner_skip_m n).cl = tabA [(40, ent2 tyS (tyI .i32) tyB (strings_ContainsRune n)), (41, ent2 tyS tyS tyB (strings_HasPrefix n)), (42, ent2 tyS tyS (ty3 tyS tyS tyB) (strings_Cut n))] ∧ (lexer_scanner_skip_m n).cd = tabD [] ∧ (lexer_scanner_skip_m n).nrm = tabN [([0], lexer_scanner_skip_n1)] ∧ (lexer_scanner_skip_m n).cut = tabF [] ∧ (lexer_scanner_skip_m n).n = n ∧ (lexer_scanner_skip_m n).out = outS Tryd.prog [] [] [0, 1, 2, 3] 4 lexer_scanner_skip_o1 alN ∧ (lexer_scanner_skip_m n).isE = tabI [] := ⟨rfl, rfl, rfl, rfl, rfl, rfl, rfl, rfl⟩
theorem lexer_scanner_skip_c (n : Nat) : (lexer_scanner_skip_m n).body = (Tryd.f27.body).getD .skip := rfl
theorem lexer_scanner_skip_d (n : Nat) : drawP (lexer_scanner_skip_m n) [0, 0, 0, 0] = true ∧ drawP (lexer_scanner_skip_m n) [0, 0, 1, 0, 0] = true := ⟨by kernel_rfl, by kernel_rfl⟩
noncomputable def lexer_scanner_skip_b1 (n : Nat) : { B : (Str → Int → (List (Str × Bool)) → (List (Str × Bool)) → (List (Str × Bool)) → Option (((Str × (Int × Unit)) × ((List (Str × Bool)) × ((List (Str × Bool)) × ((List (Str × Bool)) × Unit)))) × Unit)) → Str → Int → (List (Str × Bool)) → (List (Str × Bool)) → (List (Str × Bool)) → Option (((Str × (Int × Unit)) × ((List (Str × Bool)) × ((List (Str × Bool)) × ((List (Str × Bool)) × Unit)))) × Unit) // ∀ m X0, (∀ (v0 : Str) (v1 : Int) (r1 : List (Str × Bool)) (r2 : List (Str × Bool)) (r3 : List (Str × Bool)), run (lexer_scanner_skip_m n) [.lq m [0], .blk 0] ⟨[.ptr 0 0, .any, .any, .any, .any, .any, .any, .any, .any, .any, .any, .any, .any, .any, .any, .any, .any, .any, .any, .any, .any, .any, .any, .any, .any, .any, .any, .any, .any, .any, .any, .any, .any, .any, .any, .any, .any, .any, .any, .any, .any, .any, .any, .any, .any, .any, .any, .any, .any, .any, .any, .any, .any, .any, .any], [.cells [.str (sb v0), .int .i64 v1, .map 1, .map 2, .map 3], .map (mp mcB r1), .map (mp mcB r2), .map (mp mcB r3)], 4⟩ = X0 v0 v1 r1 r2 r3) → ∀ (v0 : Str) (v1 : Int) (r1 : List (Str × Bool)) (r2 : List (Str × Bool)) (r3 : List (Str × Bool)), run (lexer_scanner_skip_m n) [.at [0, 0], .lp m [0], .blk 0] ⟨[.ptr 0 0, .any, .any, .any, .any, .any, .any, .any, .any, .any, .any, .any, .any, .any, .any, .any, .any, .any, .any, .any, .any, .any, .any, .any, .any, .any, .any, .any, .any, .any, .any, .any, .any, .any, .any, .any, .any, .any, .any, .any, .any, .any, .any, .any, .any, .any, .any, .any, .any, .any, .any, .any, .any, .any, .any], [.cells [.str (sb v0), .int .i64 v1, .map 1, .map 2, .map 3], .map (mp mcB r1), .map (mp mcB r2), .map (mp mcB r3)], 4⟩ = B X0 v0 v1 r1 r2 r3 } := by
  apply Subtype.mk
  intro m X0 ih v0 v1 r1 r2 r3
  simp (config := { maxSteps := 100000000 }) only [go_sem, Nat.reduceAdd, Nat.reduceSub, Nat.reduceLeDiff, Nat.reduceEqDiff, Nat.reduceBEq, Nat.reduceMul, Nat.reduceLT, Int.reduceLE, Int.reduceLT, Int.reduceToNat, Int.reduceBEq, Int.reduceEq, lexer_scanner_skip_f, lexer_scanner_skip_c, Tryd.f27, Option.getD_some, mixed, lexer_scanner_skip_os, lexer_scanner_skip_o1, lexer_scanner_skip_d, lexer_scanner_skip_n1, ih]
  exact rfl
noncomputable def lexer_scanner_skip_l1 (n : Nat) : Nat → Str → Int → (List (Str × Bool)) → (List (Str × Bool)) → (List (Str × Bool)) → Option (((Str × (Int × Unit)) × ((List (Str × Bool)) × ((List (Str × Bool)) × ((List (Str × Bool)) × Unit)))) × Unit)
  | 0, _, _, _, _, _ => none
  | m + 1, v0, v1, r1, r2, r3 => (lexer_scanner_skip_b1 n).1 (lexer_scanner_skip_l1 n m) v0 v1 r1 r2 r3
theorem lexer_scanner_skip_l1_eq (n : Nat) : ∀ (m : Nat), (∀ (v0 : Str) (v1 : Int) (r1 : List (Str × Bool)) (r2 : List (Str × Bool)) (r3 : List (Str × Bool)), run (lexer_scanner_skip_m n) [.lq m [0], .blk 0] ⟨[.ptr 0 0, .any, .any, .any, .any, .any, .any, .any, .any, .any, .any, .any, .any, .any, .any, .any, .any, .any, .any, .any, .any, .any, .any, .any, .any, .any, .any, .any, .any, .any, .any, .any, .any, .any, .any, .any, .any, .any, .any, .any, .any, .any, .any, .any, .any, .any, .any, .any, .any, .any, .any, .any, .any, .any, .any], [.cells [.str (sb v0), .int .i64 v1, .map 1, .map 2, .map 3], .map (mp mcB r1), .map (mp mcB r2), .map (mp mcB r3)], 4⟩ = lexer_scanner_skip_l1 n m v0 v1 r1 r2 r3)
  | 0 => by intros; exact run_lq_zero
  | m + 1 => by
    have ih := lexer_scanner_skip_l1_eq n m
    intro v0 v1 r1 r2 r3
    rw [run_lq_succ]
    exact (lexer_scanner_skip_b1 n).2  m _  ih v0 v1 r1 r2 r3
noncomputable def lexer_scanner_skip_e (n : Nat) : { B : Str → Int → (List (Str × Bool)) → (List (Str × Bool)) → (List (Str × Bool)) → Option (((Str × (Int × Unit)) × ((List (Str × Bool)) × ((List (Str × Bool)) × ((List (Str × Bool)) × Unit)))) × Unit) // ∀ (o0 : Str) (o1 : Int) (o2 : (List (Str × Bool))) (o3 : (List (Str × Bool))) (o4 : (List (Str × Bool))), run (lexer_scanner_skip_m n) [.at []] { slots := ((alP 0 alN).enc (lexer_scanner_skip_os.lens ((o0, o1, ()), o2, o3, o4, ())) ()) ++ List.replicate (55 - ((alP 0 alN).enc (lexer_scanner_skip_os.lens ((o0, o1, ()), o2, o3, o4, ())) ()).length) .any, heap := (lexer_scanner_skip_os.enc (lexer_scanner_skip_os.lens ((o0, o1, ()), o2, o3, o4, ())) ((o0, o1, ()), o2, o3, o4, ())), low := (lexer_scanner_skip_os.enc (lexer_scanner_skip_os.lens ((o0, o1, ()), o2, o3, o4, ())) ((o0, o1, ()), o2, o3, o4, ())).length } = B o0 o1 o2 o3 o4 } := by
  apply Subtype.mk
  intro o0 o1 o2 o3 o4
  simp (config := { maxSteps := 100000000 }) only [go_sem, Nat.reduceAdd, Nat.reduceSub, Nat.reduceLeDiff, Nat.reduceEqDiff, Nat.reduceBEq, Nat.reduceMul, Nat.reduceLT, Int.reduceLE, Int.reduceLT, Int.reduceToNat, Int.reduceBEq, Int.reduceEq, lexer_scanner_skip_f, lexer_scanner_skip_c, Tryd.f27, Option.getD_some, mixed, lexer_scanner_skip_os, lexer_scanner_skip_o1, lexer_scanner_skip_d, lexer_scanner_skip_n1, lexer_scanner_skip_l1_eq n]
  exact rfl
noncomputable def lexer_scanner_skip : Nat → Str → Int → (List (Str × Bool)) → (List (Str × Bool)) → (List (Str × Bool)) → Option (((Str × (Int × Unit)) × ((List (Str × Bool)) × ((List (Str × Bool)) × ((List (Str × Bool)) × Unit)))) × Unit)
  | 0, _, _, _, _, _ => none
  | n + 1, o0, o1, o2, o3, o4 => (lexer_scanner_skip_e n).1 o0 o1 o2 o3 o4
theorem lexer_scanner_skip_ok : ∀ (n : Nat) (o0 : Str) (o1 : Int) (o2 : (List (Str × Bool))) (o3 : (List (Str × Bool))) (o4 : (List (Str × Bool))) (r : (((Str × (Int × Unit)) × ((List (Str × Bool)) × ((List (Str × Bool)) × ((List (Str × Bool)) × Unit)))) × Unit)), lexer_scanner_skip n o0 o1 o2 o3 o4 = some r → FnG Tryd.prog 27 ((alP 0 alN).enc (lexer_scanner_skip_os.lens ((o0, o1, ()), o2, o3, o4, ())) ()) (lexer_scanner_skip_os.enc (lexer_scanner_skip_os.lens ((o0, o1, ()), o2, o3, o4, ())) ((o0, o1, ()), o2, o3, o4, ())) (fun o H' => o = .ret (tupOf (alN.enc (lexer_scanner_skip_o1.lens r.1) r.2)) ∧ H' = lexer_scanner_skip_o1.enc (lexer_scanner_skip_o1.lens r.1) r.1)
  | 0, _, _, _, _, _, _, h => by cases h
  | n + 1, o0, o1, o2, o3, o4, r, h => by
    exact fnG_run (M := lexer_scanner_skip_m n) ⟨(tabA_cons_ok (ent2_ok (strings_ContainsRune_ok n)) (tabA_cons_ok (ent2_ok (strings_HasPrefix_ok n)) (tabA_cons_ok (ent2_ok (strings_Cut_ok n)) tabA_nil_ok))), tabD_nil_ok, tabN_ok _, tabF_ok _, noY_ok, noE_ok⟩ Tryd.func27 rfl rfl (nbL_le (Nat.le_trans (of_decide_eq_true (by kernel_rfl)) (Nat.le_of_eq (lexer_scanner_skip_os.sz _ _).symm)) _ ((alP 0 alN).nb _ _)) (fun x hx => objNb_le' (Nat.le_trans (of_decide_eq_true (by kernel_rfl)) (Nat.le_of_eq (lexer_scanner_skip_os.sz _ _).symm)) _ (lexer_scanner_skip_os.nb _ _ x hx)) Tryd.ntmps27 Tryd.results27 (fun σ hs => outS_ok (P := Tryd.prog) (rs := []) (pos := []) (base := [0, 1, 2, 3]) (low := 4) (os := lexer_scanner_skip_o1) (s := alN) (σ := σ) (r := r) (by rfl) hs) (((lexer_scanner_skip_e n).2 o0 o1 o2 o3 o4).trans h)

noncomputable def lexer_scanner_quoted_os : OL ((Str × (Int × Unit)) × ((List (Str × Bool)) × ((List (Str × Bool)) × ((List (Str × Bool)) × Unit)))) := (olC (ogC (alT tyS (alT (tyI .i64) (alM 1 (alM 2 (alM 3 alN)))))) (olC ogM (olC ogM (olC ogM olN))))
noncomputable def lexer_scanner_quoted_o1 : OL ((Str × (Int × Unit)) × ((List (Str × Bool)) × ((List (Str × Bool)) × ((List (Str × Bool)) × Unit)))) := (olC (ogC (alT tyS (alT (tyI .i64) (alM 1 (alM 2 (alM 3 alN)))))) (olC ogM (olC ogM (olC ogM olN))))
noncomputable def lexer_scanner_quoted_rs : AL (Int × (Int × (Int × Unit))) := (alT (tyI .i64) (alT (tyI .i64) (alT (tyI .i64) alN)))
noncomputable def lexer_scanner_quoted_m (n : Nat) : Mach (((Str × (Int × Unit)) × ((List (Str × Bool)) × ((List (Str × Bool)) × ((List (Str × Bool)) × Unit)))) × (Int × (Int × (Int × Unit)))) where
  body := (Tryd.f26.body).getD .skip
  P := Tryd.prog
  cl := tabA []
  cd := tabD [(39, entD (entAlt (ent2 tyS tyS (tyI .i64) (strings_IndexAnyL n)) (ent2 tyS tyS (tyI .i64) (strings_IndexAny n))))]
  nrm := tabN []
  cut := tabF []
  n := n
  out := outS Tryd.prog [.tmp 2, .tmp 3, .tmp 4] [] [0, 1, 2, 3] 4 lexer_scanner_quoted_o1 lexer_scanner_quoted_rs
  isE := tabI []
theorem lexer_scanner_quoted_f (n : Nat) : (lexer_scanner_quoted_m n).P = Tryd.prog ∧ (lexer_scanner_quoted_m n).cl = tabA [] ∧ (lexer_scanner_quoted_m n).cd = tabD [(39, entD (entAlt (ent2 tyS tyS (tyI .i64) (strings_IndexAnyL n)) (ent2 tyS tyS (tyI .i64) (strings_IndexAny n))))] ∧ (lexer_scanner_quoted_m n).nrm = tabN [] ∧ (lexer_scanner_quoted_m n).cut = tabF [] ∧ (lexer_scanner_quoted_m n).n = n ∧ (lexer_scanner_quoted_m n).out = outS Tryd.prog [.tmp 2, .tmp 3, .tmp 4] [] [0, 1, 2, 3] 4 lexer_scanner_quoted_o1 lexer_scanner_quoted_rs ∧ (lexer_scanner_quoted_m n).isE = tabI [] := ⟨rfl, rfl, rfl, rfl, rfl, rfl, rfl, rfl⟩
theorem lexer_scanner_quoted_c (n : Nat) : (lexer_scanner_quoted_m n).body = (Tryd.f26.body).getD .skip := rfl
theorem lexer_scanner_quoted_d (n : Nat) : drawP (lexer_scanner_quoted_m n) [0, 0, 1, 0, 1, 1] = true ∧ drawP (lexer_scanner_quoted_m n) [0, 0, 1, 1] = true ∧ drawP (lexer_scanner_quoted_m n) [0, 1] = true ∧ drawP (lexer_scanner_quoted_m n) [0, 1, 1, 1] = true := ⟨by kernel_rfl, by kernel_rfl, by kernel_rfl, by kernel_rfl⟩
noncomputable def lexer_scanner_quoted_e (n : Nat) : { B : Str → Int → (List (Str × Bool)) → (List (Str × Bool)) → (List (Str × Bool)) → Option (((Str × (Int × Unit)) × ((List (Str × Bool)) × ((List (Str × Bool)) × ((List (Str × Bool)) × Unit)))) × (Int × (Int × (Int × Unit)))) // ∀ (o0 : Str) (o1 : Int) (o2 : (List (Str × Bool))) (o3 : (List (Str × Bool))) (o4 : (List (Str × Bool))), run (lexer_scanner_quoted_m n) [.at []] { slots := ((alP 0 alN).enc (lexer_scanner_quoted_os.lens ((o0, o1, ()), o2, o3, o4, ())) ()) ++ List.replicate (45 - ((alP 0 alN).enc (lexer_scanner_quoted_os.lens ((o0, o1, ()), o2, o3, o4, ())) ()).length) .any, heap := (lexer_scanner_quoted_os.enc (lexer_scanner_quoted_os.lens ((o0, o1, ()), o2, o3, o4, ())) ((o0, o1, ()), o2, o3, o4, ())), low := (lexer_scanner_quoted_os.enc (lexer_scanner_quoted_os.lens ((o0, o1, ()), o2, o3, o4, ())) ((o0, o1, ()), o2, o3, o4, ())).length } = B o0 o1 o2 o3 o4 } := by
  apply Subtype.mk
  intro o0 o1 o2 o3 o4
  simp (config := { maxSteps := 100000000 }) only [go_sem, Nat.reduceAdd, Nat.reduceSub, Nat.reduceLeDiff, Nat.reduceEqDiff, Nat.reduceBEq, Nat.reduceMul, Nat.reduceLT, Int.reduceLE, Int.reduceLT, Int.reduceToNat, Int.reduceBEq, Int.reduceEq, lexer_scanner_quoted_f, lexer_scanner_quoted_c, Tryd.f26, Option.getD_some, mixed, lexer_scanner_quoted_os, lexer_scanner_quoted_o1, lexer_scanner_quoted_rs, lexer_scanner_quoted_d]
  exact rfl
noncomputable def lexer_scanner_quoted : Nat → Str → Int → (List (Str × Bool)) → (List (Str × Bool)) → (List (Str × Bool)) → Option (((Str × (Int × Unit)) × ((List (Str × Bool)) × ((List (Str × Bool)) × ((List (Str × Bool)) × Unit)))) × (Int × (Int × (Int × Unit))))
  | 0, _, _, _, _, _ => none
  | n + 1, o0, o1, o2, o3, o4 => (lexer_scanner_quoted_e n).1 o0 o1 o2 o3 o4
theorem lexer_scanner_quoted_ok : ∀ (n : Nat) (o0 : Str) (o1 : Int) (o2 : (List (Str × Bool))) (o3 : (List (Str × Bool))) (o4 : (List (Str × Bool))) (r : (((Str × (Int × Unit)) × ((List (Str × Bool)) × ((List (Str × Bool)) × ((List (Str × Bool)) × Unit)))) × (Int × (Int × (Int × Unit))))), lexer_scanner_quoted n o0 o1 o2 o3 o4 = some r → FnG Tryd.prog 26 ((alP 0 alN).enc (lexer_scanner_quoted_os.lens ((o0, o1, ()), o2, o3, o4, ())) ()) (lexer_scanner_quoted_os.enc (lexer_scanner_quoted_os.lens ((o0, o1, ()), o2, o3, o4, ())) ((o0, o1, ()), o2, o3, o4, ())) (fun o H' => o = .ret (tupOf (lexer_scanner_quoted_rs.enc (lexer_scanner_quoted_o1.lens r.1) r.2)) ∧ H' = lexer_scanner_quoted_o1.enc (lexer_scanner_quoted_o1.lens r.1) r.1)
  | 0, _, _, _, _, _, _, h => by cases h
  | n + 1, o0, o1, o2, o3, o4, r, h => by
    exact fnG_run (M := lexer_scanner_quoted_m n) ⟨tabA_nil_ok, (tabD_cons_ok (entAlt_okD (ent2_okD (strings_IndexAnyL_ok n)) (ent2_okD (strings_IndexAny_ok n))) tabD_nil_ok), tabN_ok _, tabF_ok _, noY_ok, noE_ok⟩ Tryd.func26 rfl rfl (nbL_le (Nat.le_trans (of_decide_eq_true (by kernel_rfl)) (Nat.le_of_eq (lexer_scanner_quoted_os.sz _ _).symm)) _ ((alP 0 alN).nb _ _)) (fun x hx => objNb_le' (Nat.le_trans (of_decide_eq_true (by kernel_rfl)) (Nat.le_of_eq (lexer_scanner_quoted_os.sz _ _).symm)) _ (lexer_scanner_quoted_os.nb _ _ x hx)) Tryd.ntmps26 Tryd.results26 (fun σ hs => outS_ok (P := Tryd.prog) (rs := [.tmp 2, .tmp 3, .tmp 4]) (pos := []) (base := [0, 1, 2, 3]) (low := 4) (os := lexer_scanner_quoted_o1) (s := lexer_scanner_quoted_rs) (σ := σ) (r := r) (by rfl) hs) (((lexer_scanner_quoted_e n).2 o0 o1 o2 o3 o4).trans h)

noncomputable def ref24_Symbol_n1 : Nrm := ⟨[], [], [zK, zA, zA, zA, zT (tyL rowS), zK, zA, zA, zA, zA, zA, zA, zA, zA, zA, zA, zA, zA, zA, zA, zA, zA, zA, zA, zA, zA, zA, zA, zA, zA, zA, zA, zA, zA, zA, zA, zA, zA, zA, zA, zA, zA, zA, zA, zA, zA, zA, zA, zA, zA, zA, zA, zA, zA, zA, zA, zA, zA, zA, zA, zA, zA, zA, zA, zA, zA, zA, zA, zA, zA, zA, zA, zA], [], none⟩
noncomputable def ref24_Symbol_n2 : Nrm := ⟨[], [], [zK, zA, zA, zK, zA, zA, zA, zA, zA, zA, zA, zA, zA, zA, zA, zA, zA, zA, zA, zA, zA, zA, zA, zA, zA, zA, zA, zA, zA, zA, zA, zA, zA, zA, zA, zA, zA, zA, zA, zA, zA, zA, zA, zA, zA, zA, zA, zA, zA, zA, zA, zA, zA, zA, zA, zA, zA, zA, zA, zA, zA, zA, zA, zA, zA, zA, zA, zA, zA, zA, zA, zA, zA], [], none⟩
noncomputable def ref24_Symbol_m (n : Nat) : Mach Bool where
  body := (Tryd.f19.body).getD .skip
  P := Tryd.prog
  cl := tabA [(17, ent1 tyS tyB (ref24_Keyword n)), (33, ent1 (tyI .u8) tyB (ref24_begins n)), (34, ent2 tyS (tyI .i64) (tyI .i64) (ref24_component n)), (35, ent1 (tyI .u8) tyB (ref24_sign n)), (36, ent0  (tyLt rowS) (ref24_fixed n))]
  cd := tabD []
  nrm := tabN [([0, 1, 0, 1, 1, 1, 1, 1], ref24_Symbol_n1), ([0, 1, 0, 1, 1, 1], ref24_Symbol_n2)]
  cut := tabF []
  n := n
  out := outR Tryd.prog [.tmp 2] tyB
theorem ref24_Symbol_f (n : Nat) : (ref24_Symbol_m n).P = Tryd.prog ∧ (ref24_Symbol_m n).cl = tabA [(17, ent1 tyS tyB (ref24_Keyword n)), (33, ent1 (tyI .u8) tyB (ref24_begins n)), (34, ent2 tyS (tyI .i64) (tyI .i64) (ref24_component n)), (35, ent1 (tyI .u8) tyB (ref24_sign n)), (36, ent0  (tyLt rowS) (ref24_fixed n))] ∧ (ref24_Symbol_m n).cd = tabD [] ∧ (ref24_Symbol_m n).nrm = tabN [([0, 1, 0, 1, 1, 1, 1, 1], ref24_Symbol_n1), ([0, 1, 0, 1, 1, 1], ref24_Symbol_n2)] ∧ (ref24_Symbol_m n).cut = tabF [] ∧ (ref24_Symbol_m n).n = n ∧ (ref24_Symbol_m n).out = outR Tryd.prog [.tmp 2] tyB := ⟨rfl, rfl, rfl, rfl, rfl, rfl, rfl⟩
theorem ref24_Symbol_c (n : Nat) : (ref24_Symbol_m n).body = (Tryd.f19.body).getD .skip := rfl
noncomputable def ref24_Symbol_b1 (n : Nat) : { B : (Str → (List Str) → Int → Option Bool) → Str → (List Str) → Int → Option Bool // ∀ m X0, (∀ (v0 : Str) (v1 : List Str) (v2 : Int), run (ref24_Symbol_m n) [.lq m [0, 1, 0, 1, 1, 1, 1, 1], .blk 2, .cut [1, 1, 1, 1, 1, 1], .at [1, 1, 1, 1, 1, 1]] ⟨[.str (sb v0), .any, .any, .any, .lst false 1 (mp scell v1), .int .i64 v2, .any, .any, .any, .any, .any, .any, .any, .any, .any, .any, .any, .any, .any, .any, .any, .any, .any, .any, .any, .any, .any, .any, .any, .any, .any, .any, .any, .any, .any, .any, .any, .any, .any, .any, .any, .any, .any, .any, .any, .any, .any, .any, .any, .any, .any, .any, .any, .any, .any, .any, .any, .any, .any, .any, .any, .any, .any, .any, .any, .any, .any, .any, .any, .any, .any, .any, .any], [], 0⟩ = X0 v0 v1 v2) → ∀ (v0 : Str) (v1 : List Str) (v2 : Int), run (ref24_Symbol_m n) [.at [0, 0, 1, 0, 1, 1, 1, 1, 1], .lp m [0, 1, 0, 1, 1, 1, 1, 1], .blk 2, .cut [1, 1, 1, 1, 1, 1], .at [1, 1, 1, 1, 1, 1]] ⟨[.str (sb v0), .any, .any, .any, .lst false 1 (mp scell v1), .int .i64 v2, .any, .any, .any, .any, .any, .any, .any, .any, .any, .any, .any, .any, .any, .any, .any, .any, .any, .any, .any, .any, .any, .any, .any, .any, .any, .any, .any, .any, .any, .any, .any, .any, .any, .any, .any, .any, .any, .any, .any, .any, .any, .any, .any, .any, .any, .any, .any, .any, .any, .any, .any, .any, .any, .any, .any, .any, .any, .any, .any, .any, .any, .any, .any, .any, .any, .any, .any], [], 0⟩ = B X0 v0 v1 v2 } := by
  apply Subtype.mk
  intro m X0 ih v0 v1 v2
  simp (config := { maxSteps := 100000000 }) only [go_sem, Nat.reduceAdd, Nat.reduceSub, Nat.reduceLeDiff, Nat.reduceEqDiff, Nat.reduceBEq, Nat.reduceMul, Nat.reduceLT, Int.reduceLE, Int.reduceLT, Int.reduceToNat, Int.reduceBEq, Int.reduceEq, ref24_Symbol_f, ref24_Symbol_c, Tryd.f19, Option.getD_some, mixed, ref24_Symbol_n1, ref24_Symbol_n2, ih]
  exact rfl
noncomputable def ref24_Symbol_l1 (n : Nat) : Nat → Str → (List Str) → Int → Option Bool
  | 0, _, _, _ => none
  | m + 1, v0, v1, v2 => (ref24_Symbol_b1 n).1 (ref24_Symbol_l1 n m) v0 v1 v2
theorem ref24_Symbol_l1_eq (n : Nat) : ∀ (m : Nat), (∀ (v0 : Str) (v1 : List Str) (v2 : Int), run (ref24_Symbol_m n) [.lq m [0, 1, 0, 1, 1, 1, 1, 1], .blk 2, .cut [1, 1, 1, 1, 1, 1], .at [1, 1, 1, 1, 1, 1]] ⟨[.str (sb v0), .any, .any, .any, .lst false 1 (mp scell v1), .int .i64 v2, .any, .any, .any, .any, .any, .any, .any, .any, .any, .any, .any, .any, .any, .any, .any, .any, .any, .any, .any, .any, .any, .any, .any, .any, .any, .any, .any, .any, .any, .any, .any, .any, .any, .any, .any, .any, .any, .any, .any, .any, .any, .any, .any, .any, .any, .any, .any, .any, .any, .any, .any, .any, .any, .any, .any, .any, .any, .any, .any, .any, .any, .any, .any, .any, .any, .any, .any], [], 0⟩ = ref24_Symbol_l1 n m v0 v1 v2)
  | 0 => by intros; exact run_lq_zero
  | m + 1 => by
    have ih := ref24_Symbol_l1_eq n m
    intro v0 v1 v2
    rw [run_lq_succ]
    exact (ref24_Symbol_b1 n).2  m _  ih v0 v1 v2
noncomputable def ref24_Symbol_b2 (n : Nat) : { B : (Str → Int → Option Bool) → Str → Int → Option Bool // ∀ m X0, (∀ (v0 : Str) (v1 : Int), run (ref24_Symbol_m n) [.lq m [0, 1, 0, 1, 1, 1], .blk 0, .cut [1, 1, 1, 1], .at [1, 1, 1, 1]] ⟨[.str (sb v0), .any, .any, .int .i64 v1, .any, .any, .any, .any, .any, .any, .any, .any, .any, .any, .any, .any, .any, .any, .any, .any, .any, .any, .any, .any, .any, .any, .any, .any, .any, .any, .any, .any, .any, .any, .any, .any, .any, .any, .any, .any, .any, .any, .any, .any, .any, .any, .any, .any, .any, .any, .any, .any, .any, .any, .any, .any, .any, .any, .any, .any, .any, .any, .any, .any, .any, .any, .any, .any, .any, .any, .any, .any, .any], [], 0⟩ = X0 v0 v1) → ∀ (v0 : Str) (v1 : Int), run (ref24_Symbol_m n) [.at [0, 0, 1, 0, 1, 1, 1], .lp m [0, 1, 0, 1, 1, 1], .blk 0, .cut [1, 1, 1, 1], .at [1, 1, 1, 1]] ⟨[.str (sb v0), .any, .any, .int .i64 v1, .any, .any, .any, .any, .any, .any, .any, .any, .any, .any, .any, .any, .any, .any, .any, .any, .any, .any, .any, .any, .any, .any, .any, .any, .any, .any, .any, .any, .any, .any, .any, .any, .any, .any, .any, .any, .any, .any, .any, .any, .any, .any, .any, .any, .any, .any, .any, .any, .any, .any, .any, .any, .any, .any, .any, .any, .any, .any, .any, .any, .any, .any, .any, .any, .any, .any, .any, .any, .any], [], 0⟩ = B X0 v0 v1 } := by
  apply Subtype.mk
  intro m X0 ih v0 v1
  simp (config := { maxSteps := 100000000 }) only [go_sem, Nat.reduceAdd, Nat.reduceSub, Nat.reduceLeDiff, Nat.reduceEqDiff, Nat.reduceBEq, Nat.reduceMul, Nat.reduceLT, Int.reduceLE, Int.reduceLT, Int.reduceToNat, Int.reduceBEq, Int.reduceEq, ref24_Symbol_f, ref24_Symbol_c, Tryd.f19, Option.getD_some, mixed, ref24_Symbol_n1, ref24_Symbol_n2, ref24_Symbol_l1_eq n, ih]
  exact rfl
noncomputable def ref24_Symbol_l2 (n : Nat) : Nat → Str → Int → Option Bool
  | 0, _, _ => none
  | m + 1, v0, v1 => (ref24_Symbol_b2 n).1 (ref24_Symbol_l2 n m) v0 v1
theorem ref24_Symbol_l2_eq (n : Nat) : ∀ (m : Nat), (∀ (v0 : Str) (v1 : Int), run (ref24_Symbol_m n) [.lq m [0, 1, 0, 1, 1, 1], .blk 0, .cut [1, 1, 1, 1], .at [1, 1, 1, 1]] ⟨[.str (sb v0), .any, .any, .int .i64 v1, .any, .any, .any, .any, .any, .any, .any, .any, .any, .any, .any, .any, .any, .any, .any, .any, .any, .any, .any, .any, .any, .any, .any, .any, .any, .any, .any, .any, .any, .any, .any, .any, .any, .any, .any, .any, .any, .any, .any, .any, .any, .any, .any, .any, .any, .any, .any, .any, .any, .any, .any, .any, .any, .any, .any, .any, .any, .any, .any, .any, .any, .any, .any, .any, .any, .any, .any, .any, .any], [], 0⟩ = ref24_Symbol_l2 n m v0 v1)
  | 0 => by intros; exact run_lq_zero
  | m + 1 => by
    have ih := ref24_Symbol_l2_eq n m
    intro v0 v1
    rw [run_lq_succ]
    exact (ref24_Symbol_b2 n).2  m _  ih v0 v1
noncomputable def ref24_Symbol_e (n : Nat) : { B : Str → Option Bool // ∀ (a0 : Str), run (ref24_Symbol_m n) [.at []] { slots := [tyS.enc a0] ++ List.replicate (73 - [tyS.enc a0].length) .any, heap := [] } = B a0 } := by
  apply Subtype.mk
  intro a0
  simp (config := { maxSteps := 100000000 }) only [go_sem, Nat.reduceAdd, Nat.reduceSub, Nat.reduceLeDiff, Nat.reduceEqDiff, Nat.reduceBEq, Nat.reduceMul, Nat.reduceLT, Int.reduceLE, Int.reduceLT, Int.reduceToNat, Int.reduceBEq, Int.reduceEq, ref24_Symbol_f, ref24_Symbol_c, Tryd.f19, Option.getD_some, mixed, ref24_Symbol_n1, ref24_Symbol_n2, ref24_Symbol_l1_eq n, ref24_Symbol_l2_eq n]
  exact rfl
noncomputable def ref24_Symbol : Nat → Str → Option Bool
  | 0, _ => none
  | n + 1, a0 => (ref24_Symbol_e n).1 a0
theorem ref24_Symbol_ok : ∀ (n : Nat) (a0 : Str) (r : Bool), ref24_Symbol n a0 = some r → FnC Tryd.prog 19 [tyS.enc a0] (fun v => v = tyB.enc r)
  | 0, _, _, h => by cases h
  | n + 1, a0, r, h => by
    exact fnC_run (M := ref24_Symbol_m n) ⟨(tabA_cons_ok (ent1_ok (ref24_Keyword_ok n)) (tabA_cons_ok (ent1_ok (ref24_begins_ok n)) (tabA_cons_ok (ent2_ok (ref24_component_ok n)) (tabA_cons_ok (ent1_ok (ref24_sign_ok n)) (tabA_cons_ok (ent0_ok (ref24_fixed_ok n)) tabA_nil_ok))))), tabD_nil_ok, tabN_ok _, tabF_ok _, noY_ok, noE_ok⟩ Tryd.func19 rfl rfl ⟨tyS.nb 0 _, trivial⟩ Tryd.ntmps19 Tryd.results19 (fun σ hs => outR_ok (P := Tryd.prog) (rs := [.tmp 2]) (t := tyB) (σ := σ) (r := r) hs) (((ref24_Symbol_e n).2 a0).trans h)

noncomputable def ref24_name_n1 : Nrm := ⟨[], [], [zK, zK, zA, zA, zA, zA, zA, zA, zA, zA, zA, zA, zA, zA, zA, zA, zA, zA, zA, zA, zA, zA, zA, zA, zA, zA, zA, zA, zA, zA, zA], [], none⟩
noncomputable def ref24_name_m (n : Nat) : Mach Int where
  body := (Tryd.f43.body).getD .skip
  P := Tryd.prog
  cl := tabA [(33, ent1 (tyI .u8) tyB (ref24_begins n)), (34, ent2 tyS (tyI .i64) (tyI .i64) (ref24_component n))]
  cd := tabD []
  nrm := tabN [([0, 0, 1, 1], ref24_name_n1)]
  cut := tabF []
  n := n
  out := outR Tryd.prog [.tmp 4] (tyI .i64)
theorem ref24_name_f (n : Nat) : (ref24_name_m n).P = Tryd.prog ∧ (ref24_name_m n).cl = tabA [(33, ent1 (tyI .u8) tyB (ref24_begins n)), (34, ent2 tyS (tyI .i64) (tyI .i64) (ref24_component n))] ∧ (ref24_name_m n).cd = tabD [] ∧ (ref24_name_m n).nrm = tabN [([0, 0, 1, 1], ref24_name_n1)] ∧ (ref24_name_m n).cut = tabF [] ∧ (ref24_name_m n).n = n ∧ (ref24_name_m n).out = outR Tryd.prog [.tmp 4] (tyI .i64) := ⟨rfl, rfl, rfl, rfl, rfl, rfl, rfl⟩
theorem ref24_name_c (n : Nat) : (ref24_name_m n).body = (Tryd.f43.body).getD .skip := rfl
noncomputable def ref24_name_b1 (n : Nat) : { B : (Str → Int → Option Int) → Str → Int → Option Int // ∀ m X0, (∀ (v0 : Str) (v1 : Int), run (ref24_name_m n) [.lq m [0, 0, 1, 1], .blk 0, .cut [1, 1, 1], .at [1, 1, 1]] ⟨[.str (sb v0), .int .i64 v1, .any, .any, .any, .any, .any, .any, .any, .any, .any, .any, .any, .any, .any, .any, .any, .any, .any, .any, .any, .any, .any, .any, .any, .any, .any, .any, .any, .any, .any], [], 0⟩ = X0 v0 v1) → ∀ (v0 : Str) (v1 : Int), run (ref24_name_m n) [.at [0, 0, 0, 1, 1], .lp m [0, 0, 1, 1], .blk 0, .cut [1, 1, 1], .at [1, 1, 1]] ⟨[.str (sb v0), .int .i64 v1, .any, .any, .any, .any, .any, .any, .any, .any, .any, .any, .any, .any, .any, .any, .any, .any, .any, .any, .any, .any, .any, .any, .any, .any, .any, .any, .any, .any, .any], [], 0⟩ = B X0 v0 v1 } := by
  apply Subtype.mk
  intro m X0 ih v0 v1
  simp (config := { maxSteps := 100000000 }) only [go_sem, Nat.reduceAdd, Nat.reduceSub, Nat.reduceLeDiff, Nat.reduceEqDiff, Nat.reduceBEq, Nat.reduceMul, Nat.reduceLT, Int.reduceLE, Int.reduceLT, Int.reduceToNat, Int.reduceBEq, Int.reduceEq, ref24_name_f, ref24_name_c, Tryd.f43, Option.getD_some, mixed, ref24_name_n1, ih]
  exact rfl
noncomputable def ref24_name_l1 (n : Nat) : Nat → Str → Int → Option Int
  | 0, _, _ => none
  | m + 1, v0, v1 => (ref24_name_b1 n).1 (ref24_name_l1 n m) v0 v1
theorem ref24_name_l1_eq (n : Nat) : ∀ (m : Nat), (∀ (v0 : Str) (v1 : Int), run (ref24_name_m n) [.lq m [0, 0, 1, 1], .blk 0, .cut [1, 1, 1], .at [1, 1, 1]] ⟨[.str (sb v0), .int .i64 v1, .any, .any, .any, .any, .any, .any, .any, .any, .any, .any, .any, .any, .any, .any, .any, .any, .any, .any, .any, .any, .any, .any, .any, .any, .any, .any, .any, .any, .any], [], 0⟩ = ref24_name_l1 n m v0 v1)
  | 0 => by intros; exact run_lq_zero
  | m + 1 => by
    have ih := ref24_name_l1_eq n m
    intro v0 v1
    rw [run_lq_succ]
    exact (ref24_name_b1 n).2  m _  ih v0 v1
noncomputable def ref24_name_e (n : Nat) : { B : Str → Int → Option Int // ∀ (a0 : Str) (a1 : Int), run (ref24_name_m n) [.at []] { slots := [tyS.enc a0, (tyI .i64).enc a1] ++ List.replicate (31 - [tyS.enc a0, (tyI .i64).enc a1].length) .any, heap := [] } = B a0 a1 } := by
  apply Subtype.mk
  intro a0 a1
  simp (config := { maxSteps := 100000000 }) only [go_sem, Nat.reduceAdd, Nat.reduceSub, Nat.reduceLeDiff, Nat.reduceEqDiff, Nat.reduceBEq, Nat.reduceMul, Nat.reduceLT, Int.reduceLE, Int.reduceLT, Int.reduceToNat, Int.reduceBEq, Int.reduceEq, ref24_name_f, ref24_name_c, Tryd.f43, Option.getD_some, mixed, ref24_name_n1, ref24_name_l1_eq n]
  exact rfl
noncomputable def ref24_name : Nat → Str → Int → Option Int
  | 0, _, _ => none
  | n + 1, a0, a1 => (ref24_name_e n).1 a0 a1
theorem ref24_name_ok : ∀ (n : Nat) (a0 : Str) (a1 : Int) (r : Int), ref24_name n a0 a1 = some r → FnC Tryd.prog 43 [tyS.enc a0, (tyI .i64).enc a1] (fun v => v = (tyI .i64).enc r)
  | 0, _, _, _, h => by cases h
  | n + 1, a0, a1, r, h => by
    exact fnC_run (M := ref24_name_m n) ⟨(tabA_cons_ok (ent1_ok (ref24_begins_ok n)) (tabA_cons_ok (ent2_ok (ref24_component_ok n)) tabA_nil_ok)), tabD_nil_ok, tabN_ok _, tabF_ok _, noY_ok, noE_ok⟩ Tryd.func43 rfl rfl ⟨tyS.nb 0 _, (tyI .i64).nb 0 _, trivial⟩ Tryd.ntmps43 Tryd.results43 (fun σ hs => outR_ok (P := Tryd.prog) (rs := [.tmp 4]) (t := (tyI .i64)) (σ := σ) (r := r) hs) (((ref24_name_e n).2 a0 a1).trans h)
end Go.Abs
namespace Go.Abs
open Go.Proofs
set_option maxRecDepth 100000
set_option maxHeartbeats 4000000
set_option linter.unusedSimpArgs false
set_option linter.unusedVariables false
noncomputable def lexer_Symbol_n1 : Nrm := ⟨[], [], [zK, zA, zA, zA, zA, zA, zA, zA, zA, zA, zA, zA, zA, zA, zA, zA, zA, zA, zA, zA, zA, zA, zA, zA, zA, zA, zA, zA, zA, zA, zA, zA, zA, zA, zA, zA, zA, zA, zA, zA, zA, zA, zA, zA, zA, zA, zA, zA, zA, zA, zA, zT (tyL rowS), zK, zK, zA, zA, zA, zA, zA, zA, zA, zA, zA], [], none⟩
noncomputable def lexer_Symbol_n2 : Nrm := ⟨[], [], [zK, zA, zA, zA, zA, zA, zA, zA, zA, zA, zA, zA, zA, zA, zA, zA, zA, zA, zA, zA, zA, zA, zA, zA, zA, zA, zA, zA, zA, zA, zA, zA, zK, zK, zA, zA, zA, zA, zA, zA, zA, zA, zA, zA, zA, zA, zA, zA, zA, zA, zA, zA, zA, zA, zA, zA, zA, zA, zA, zA, zA, zA, zA], [], none⟩
noncomputable def lexer_Symbol_n3 : Nrm := ⟨[], [], [zK, zA, zA, zA, zA, zA, zA, zA, zA, zA, zA, zA, zA, zA, zK, zK, zA, zA, zA, zA, zA, zA, zA, zA, zA, zA, zA, zA, zA, zA, zA, zA, zA, zA, zA, zA, zA, zA, zA, zA, zA, zA, zA, zA, zA, zA, zA, zA, zA, zA, zA, zA, zA, zA, zA, zA, zA, zA, zA, zA, zA, zA, zA], [], none⟩
noncomputable def lexer_Symbol_m (n : Nat) : Mach Bool where
  body := (Tryd.f18.body).getD .skip
  P := Tryd.prog
  cl := tabA [(16, ent1 tyS tyB (lexer_Keyword n)), (22, ent0  (tyL rowS) (lexer_fixed n)), (28, ent1 (tyI .u8) (tyI .i64) (lexer_class n)), (31, ent1 (tyI .u8) tyB (lexer_inWord n)), (32, ent2 tyS tyS tyB (strings_Contains n))]
  cd := tabD []
  nrm := tabN [([0, 1, 0, 1, 1, 1, 1, 1], lexer_Symbol_n1), ([0, 1, 0, 1, 1, 1], lexer_Symbol_n2), ([0, 1, 0, 0, 1, 0, 1, 1], lexer_Symbol_n3)]
  cut := tabF []
  n := n
  out := outR Tryd.prog [.tmp 2] tyB
theorem lexer_Symbol_f (n : Nat) : (lexer_Symbol_m n).P = Tryd.prog ∧ (lexer_Symbol_m n).cl = tabA [(16, ent1 tyS tyB (lexer_Keyword n)), (22, ent0  (tyL rowS) (lexer_fixed n)), (28, ent1 (tyI .u8) (tyI .i64) (lexer_class n)), (31, ent1 (tyI .u8) tyB (lexer_inWord n)), (32, ent2 tyS tyS tyB (strings_Contains n))] ∧ (lexer_Symbol_m n).cd = tabD [] ∧ (lexer_Symbol_m n).nrm = tabN [([0, 1, 0, 1, 1, 1, 1, 1], lexer_Symbol_n1), ([0, 1, 0, 1, 1, 1], lexer_Symbol_n2), ([0, 1, 0, 0, 1, 0, 1, 1], lexer_Symbol_n3)] ∧ (lexer_Symbol_m n).cut = tabF [] ∧ (lexer_Symbol_m n).n = n ∧ (lexer_Symbol_m n).out = outR Tryd.prog [.tmp 2] tyB := ⟨rfl, rfl, rfl, rfl, rfl, rfl, rfl⟩
theorem lexer_Symbol_c (n : Nat) : (lexer_Symbol_m n).body = (Tryd.f18.body).getD .skip := rfl
noncomputable def lexer_Symbol_b1 (n : Nat) : { B : (Str → (List Str) → Int → Int → Option Bool) → Str → (List Str) → Int → Int → Option Bool // ∀ m X0, (∀ (v0 : Str) (v1 : List Str) (v2 : Int) (v3 : Int), run (lexer_Symbol_m n) [.lq m [0, 1, 0, 1, 1, 1, 1, 1], .blk 4, .cut [1, 1, 1, 1, 1, 1], .at [1, 1, 1, 1, 1, 1]] ⟨[.str (sb v0), .any, .any, .any, .any, .any, .any, .any, .any, .any, .any, .any, .any, .any, .any, .any, .any, .any, .any, .any, .any, .any, .any, .any, .any, .any, .any, .any, .any, .any, .any, .any, .any, .any, .any, .any, .any, .any, .any, .any, .any, .any, .any, .any, .any, .any, .any, .any, .any, .any, .any, .lst false 1 (mp scell v1), .int .i64 v2, .int .i64 v3, .any, .any, .any, .any, .any, .any, .any, .any, .any], [], 0⟩ = X0 v0 v1 v2 v3) → ∀ (v0 : Str) (v1 : List Str) (v2 : Int) (v3 : Int), run (lexer_Symbol_m n) [.at [0, 0, 1, 0, 1, 1, 1, 1, 1], .lp m [0, 1, 0, 1, 1, 1, 1, 1], .blk 4, .cut [1, 1, 1, 1, 1, 1], .at [1, 1, 1, 1, 1, 1]] ⟨[.str (sb v0), .any, .any, .any, .any, .any, .any, .any, .any, .any, .any, .any, .any, .any, .any, .any, .any, .any, .any, .any, .any, .any, .any, .any, .any, .any, .any, .any, .any, .any, .any, .any, .any, .any, .any, .any, .any, .any, .any, .any, .any, .any, .any, .any, .any, .any, .any, .any, .any, .any, .any, .lst false 1 (mp scell v1), .int .i64 v2, .int .i64 v3, .any, .any, .any, .any, .any, .any, .any, .any, .any], [], 0⟩ = B X0 v0 v1 v2 v3 } := by
  apply Subtype.mk
  intro m X0 ih v0 v1 v2 v3
  simp (config := { maxSteps := 100000000 }) only [go_sem, Nat.reduceAdd, Nat.reduceSub, Nat.reduceLeDiff, Nat.reduceEqDiff, Nat.reduceBEq, Nat.reduceMul, Nat.reduceLT, Int.reduceLE, Int.reduceLT, Int.reduceToNat, Int.reduceBEq, Int.reduceEq, lexer_Symbol_f, lexer_Symbol_c, Tryd.f18, Option.getD_some, mixed, lexer_Symbol_n1, lexer_Symbol_n2, lexer_Symbol_n3, ih]
  exact rfl
noncomputable def lexer_Symbol_l1 (n : Nat) : Nat → Str → (List Str) → Int → Int → Option Bool
  | 0, _, _, _, _ => none
  | m + 1, v0, v1, v2, v3 => (lexer_Symbol_b1 n).1 (lexer_Symbol_l1 n m) v0 v1 v2 v3
theorem lexer_Symbol_l1_eq (n : Nat) : ∀ (m : Nat), (∀ (v0 : Str) (v1 : List Str) (v2 : Int) (v3 : Int), run (lexer_Symbol_m n) [.lq m [0, 1, 0, 1, 1, 1, 1, 1], .blk 4, .cut [1, 1, 1, 1, 1, 1], .at [1, 1, 1, 1, 1, 1]] ⟨[.str (sb v0), .any, .any, .any, .any, .any, .any, .any, .any, .any, .any, .any, .any, .any, .any, .any, .any, .any, .any, .any, .any, .any, .any, .any, .any, .any, .any, .any, .any, .any, .any, .any, .any, .any, .any, .any, .any, .any, .any, .any, .any, .any, .any, .any, .any, .any, .any, .any, .any, .any, .any, .lst false 1 (mp scell v1), .int .i64 v2, .int .i64 v3, .any, .any, .any, .any, .any, .any, .any, .any, .any], [], 0⟩ = lexer_Symbol_l1 n m v0 v1 v2 v3)
  | 0 => by intros; exact run_lq_zero
  | m + 1 => by
    have ih := lexer_Symbol_l1_eq n m
    intro v0 v1 v2 v3
    rw [run_lq_succ]
    exact (lexer_Symbol_b1 n).2  m _  ih v0 v1 v2 v3
noncomputable def lexer_Symbol_b2 (n : Nat) : { B : (Str → Int → Int → Option Bool) → Str → Int → Int → Option Bool // ∀ m X0, (∀ (v0 : Str) (v1 : Int) (v2 : Int), run (lexer_Symbol_m n) [.lq m [0, 1, 0, 1, 1, 1], .blk 2, .cut [1, 1, 1, 1], .at [1, 1, 1, 1]] ⟨[.str (sb v0), .any, .any, .any, .any, .any, .any, .any, .any, .any, .any, .any, .any, .any, .any, .any, .any, .any, .any, .any, .any, .any, .any, .any, .any, .any, .any, .any, .any, .any, .any, .any, .int .i64 v1, .int .i64 v2, .any, .any, .any, .any, .any, .any, .any, .any, .any, .any, .any, .any, .any, .any, .any, .any, .any, .any, .any, .any, .any, .any, .any, .any, .any, .any, .any, .any, .any], [], 0⟩ = X0 v0 v1 v2) → ∀ (v0 : Str) (v1 : Int) (v2 : Int), run (lexer_Symbol_m n) [.at [0, 0, 1, 0, 1, 1, 1], .lp m [0, 1, 0, 1, 1, 1], .blk 2, .cut [1, 1, 1, 1], .at [1, 1, 1, 1]] ⟨[.str (sb v0), .any, .any, .any, .any, .any, .any, .any, .any, .any, .any, .any, .any, .any, .any, .any, .any, .any, .any, .any, .any, .any, .any, .any, .any, .any, .any, .any, .any, .any, .any, .any, .int .i64 v1, .int .i64 v2, .any, .any, .any, .any, .any, .any, .any, .any, .any, .any, .any, .any, .any, .any, .any, .any, .any, .any, .any, .any, .any, .any, .any, .any, .any, .any, .any, .any, .any], [], 0⟩ = B X0 v0 v1 v2 } := by
  apply Subtype.mk
  intro m X0 ih v0 v1 v2
  simp (config := { maxSteps := 100000000 }) only [go_sem, Nat.reduceAdd, Nat.reduceSub, Nat.reduceLeDiff, Nat.reduceEqDiff, Nat.reduceBEq, Nat.reduceMul, Nat.reduceLT, Int.reduceLE, Int.reduceLT, Int.reduceToNat, Int.reduceBEq, Int.reduceEq, lexer_Symbol_f, lexer_Symbol_c, Tryd.f18, Option.getD_some, mixed, lexer_Symbol_n1, lexer_Symbol_n2, lexer_Symbol_n3, lexer_Symbol_l1_eq n, ih]
  exact rfl
noncomputable def lexer_Symbol_l2 (n : Nat) : Nat → Str → Int → Int → Option Bool
  | 0, _, _, _ => none
  | m + 1, v0, v1, v2 => (lexer_Symbol_b2 n).1 (lexer_Symbol_l2 n m) v0 v1 v2
theorem lexer_Symbol_l2_eq (n : Nat) : ∀ (m : Nat), (∀ (v0 : Str) (v1 : Int) (v2 : Int), run (lexer_Symbol_m n) [.lq m [0, 1, 0, 1, 1, 1], .blk 2, .cut [1, 1, 1, 1], .at [1, 1, 1, 1]] ⟨[.str (sb v0), .any, .any, .any, .any, .any, .any, .any, .any, .any, .any, .any, .any, .any, .any, .any, .any, .any, .any, .any, .any, .any, .any, .any, .any, .any, .any, .any, .any, .any, .any, .any, .int .i64 v1, .int .i64 v2, .any, .any, .any, .any, .any, .any, .any, .any, .any, .any, .any, .any, .any, .any, .any, .any, .any, .any, .any, .any, .any, .any, .any, .any, .any, .any, .any, .any, .any], [], 0⟩ = lexer_Symbol_l2 n m v0 v1 v2)
  | 0 => by intros; exact run_lq_zero
  | m + 1 => by
    have ih := lexer_Symbol_l2_eq n m
    intro v0 v1 v2
    rw [run_lq_succ]
    exact (lexer_Symbol_b2 n).2  m _  ih v0 v1 v2
noncomputable def lexer_Symbol_b3 (n : Nat) : { B : (Str → Int → Int → Option Bool) → Str → Int → Int → Option Bool // ∀ m X0, (∀ (v0 : Str) (v1 : Int) (v2 : Int), run (lexer_Symbol_m n) [.lq m [0, 1, 0, 0, 1, 0, 1, 1], .blk 0, .cut [1, 0, 1, 0, 1, 1], .at [1, 0, 1, 0, 1, 1], .cut [1, 1, 1], .at [1, 1, 1]] ⟨[.str (sb v0), .any, .any, .any, .any, .any, .any, .any, .any, .any, .any, .any, .any, .any, .int .i64 v1, .int .i64 v2, .any, .any, .any, .any, .any, .any, .any, .any, .any, .any, .any, .any, .any, .any, .any, .any, .any, .any, .any, .any, .any, .any, .any, .any, .any, .any, .any, .any, .any, .any, .any, .any, .any, .any, .any, .any, .any, .any, .any, .any, .any, .any, .any, .any, .any, .any, .any], [], 0⟩ = X0 v0 v1 v2) → ∀ (v0 : Str) (v1 : Int) (v2 : Int), run (lexer_Symbol_m n) [.at [0, 0, 1, 0, 0, 1, 0, 1, 1], .lp m [0, 1, 0, 0, 1, 0, 1, 1], .blk 0, .cut [1, 0, 1, 0, 1, 1], .at [1, 0, 1, 0, 1, 1], .cut [1, 1, 1], .at [1, 1, 1]] ⟨[.str (sb v0), .any, .any, .any, .any, .any, .any, .any, .any, .any, .any, .any, .any, .any, .int .i64 v1, .int .i64 v2, .any, .any, .any, .any, .any, .any, .any, .any, .any, .any, .any, .any, .any, .any, .any, .any, .any, .any, .any, .any, .any, .any, .any, .any, .any, .any, .any, .any, .any, .any, .any, .any, .any, .any, .any, .any, .any, .any, .any, .any, .any, .any, .any, .any, .any, .any, .any], [], 0⟩ = B X0 v0 v1 v2 } := by
  apply Subtype.mk
  intro m X0 ih v0 v1 v2
  simp (config := { maxSteps := 100000000 }) only [go_sem, Nat.reduceAdd, Nat.reduceSub, Nat.reduceLeDiff, Nat.reduceEqDiff, Nat.reduceBEq, Nat.reduceMul, Nat.reduceLT, Int.reduceLE, Int.reduceLT, Int.reduceToNat, Int.reduceBEq, Int.reduceEq, lexer_Symbol_f, lexer_Symbol_c, Tryd.f18, Option.getD_some, mixed, lexer_Symbol_n1, lexer_Symbol_n2, lexer_Symbol_n3, lexer_Symbol_l1_eq n, lexer_Symbol_l2_eq n, ih]
  exact rfl
noncomputable def lexer_Symbol_l3 (n : Nat) : Nat → Str → Int → Int → Option Bool
  | 0, _, _, _ => none
  | m + 1, v0, v1, v2 => (lexer_Symbol_b3 n).1 (lexer_Symbol_l3 n m) v0 v1 v2
theorem lexer_Symbol_l3_eq (n : Nat) : ∀ (m : Nat), (∀ (v0 : Str) (v1 : Int) (v2 : Int), run (lexer_Symbol_m n) [.lq m [0, 1, 0, 0, 1, 0, 1, 1], .blk 0, .cut [1, 0, 1, 0, 1, 1], .at [1, 0, 1, 0, 1, 1], .cut [1, 1, 1], .at [1, 1, 1]] ⟨[.str (sb v0), .any, .any, .any, .any, .any, .any, .any, .any, .any, .any, .any, .any, .any, .int .i64 v1, .int .i64 v2, .any, .any, .any, .any, .any, .any, .any, .any, .any, .any, .any, .any, .any, .any, .any, .any, .any, .any, .any, .any, .any, .any, .any, .any, .any, .any, .any, .any, .any, .any, .any, .any, .any, .any, .any, .any, .any, .any, .any, .any, .any, .any, .any, .any, .any, .any, .any], [], 0⟩ = lexer_Symbol_l3 n m v0 v1 v2)
  | 0 => by intros; exact run_lq_zero
  | m + 1 => by
    have ih := lexer_Symbol_l3_eq n m
    intro v0 v1 v2
    rw [run_lq_succ]
    exact (lexer_Symbol_b3 n).2  m _  ih v0 v1 v2
noncomputable def lexer_Symbol_e (n : Nat) : { B : Str → Option Bool // ∀ (a0 : Str), run (lexer_Symbol_m n) [.at []] { slots := [tyS.enc a0] ++ List.replicate (63 - [tyS.enc a0].length) .any, heap := [] } = B a0 } := by
  apply Subtype.mk
  intro a0
  simp (config := { maxSteps := 100000000 }) only [go_sem, Nat.reduceAdd, Nat.reduceSub, Nat.reduceLeDiff, Nat.reduceEqDiff, Nat.reduceBEq, Nat.reduceMul, Nat.reduceLT, Int.reduceLE, Int.reduceLT, Int.reduceToNat, Int.reduceBEq, Int.reduceEq, lexer_Symbol_f, lexer_Symbol_c, Tryd.f18, Option.getD_some, mixed, lexer_Symbol_n1, lexer_Symbol_n2, lexer_Symbol_n3, lexer_Symbol_l1_eq n, lexer_Symbol_l2_eq n, lexer_Symbol_l3_eq n]
  exact rfl
noncomputable def lexer_Symbol : Nat → Str → Option Bool
  | 0, _ => none
  | n + 1, a0 => (lexer_Symbol_e n).1 a0
theorem lexer_Symbol_ok : ∀ (n : Nat) (a0 : Str) (r : Bool), lexer_Symbol n a0 = some r → FnC Tryd.prog 18 [tyS.enc a0] (fun v => v = tyB.enc r)
  | 0, _, _, h => by cases h
  | n + 1, a0, r, h => by
    exact fnC_run (M := lexer_Symbol_m n) ⟨(tabA_cons_ok (ent1_ok (lexer_Keyword_ok n)) (tabA_cons_ok (ent0_ok (lexer_fixed_ok n)) (tabA_cons_ok (ent1_ok (lexer_class_ok n)) (tabA_cons_ok (ent1_ok (lexer_inWord_ok n)) (tabA_cons_ok (ent2_ok (strings_Contains_ok n)) tabA_nil_ok))))), tabD_nil_ok, tabN_ok _, tabF_ok _, noY_ok, noE_ok⟩ Tryd.func18 rfl rfl ⟨tyS.nb 0 _, trivial⟩ Tryd.ntmps18 Tryd.results18 (fun σ hs => outR_ok (P := Tryd.prog) (rs := [.tmp 2]) (t := tyB) (σ := σ) (r := r) hs) (((lexer_Symbol_e n).2 a0).trans h)

noncomputable def ref24_one_n1 : Nrm := ⟨[], [], [zK, zK, zA, zA, zA, zA, zA, zA, zA, zK, zA, zA, zK, zA, zA, zA, zA, zA, zA, zA, zA, zA, zA, zA, zA, zA, zA, zA, zA, zA, zA, zA, zA, zA, zA, zA, zA, zA, zA, zA, zA, zA, zA, zA, zA, zA, zA, zA, zA, zA, zA, zA, zA, zA, zA, zA, zA, zA, zA, zA, zA, zA, zA, zA, zA, zA, zA, zA, zA, zA, zA, zA, zA, zA, zA, zA, zA, zA, zA, zA, zA, zA, zA, zA, zA, zA, zA, zA, zA, zA, zA, zA, zA, zA, zA, zA, zA, zA, zA, zA, zA, zA, zA, zA, zA, zA, zA, zA, zA, zA, zA, zA, zA, zA, zA, zA, zA, zA, zA, zA, zA, zA, zA, zA, zA, zA, zA, zA, zA, zA, zA, zA, zA, zA, zA, zA, zA, zA, zA, zA, zA, zA, zA, zA, zA, zA, zA], [], none⟩
noncomputable def ref24_one_n2 : Nrm := ⟨[], [], [zK, zK, zA, zA, zA, zA, zA, zA, zA, zA, zA, zA, zA, zK, zA, zA, zA, zA, zA, zA, zA, zA, zA, zA, zA, zA, zA, zA, zA, zA, zA, zA, zA, zA, zA, zA, zA, zA, zA, zA, zA, zA, zA, zA, zA, zA, zA, zA, zA, zA, zA, zA, zA, zA, zA, zA, zA, zA, zA, zA, zA, zA, zA, zA, zA, zA, zA, zA, zA, zA, zA, zA, zA, zA, zA, zA, zA, zA, zA, zA, zA, zA, zA, zA, zA, zA, zA, zA, zA, zA, zA, zA, zA, zA, zA, zA, zA, zA, zA, zA, zA, zA, zA, zA, zA, zA, zA, zA, zA, zA, zA, zA, zA, zA, zA, zA, zA, zA, zA, zA, zA, zA, zA, zA, zA, zA, zA, zA, zA, zA, zA, zA, zA, zA, zA, zA, zA, zA, zA, zA, zA, zA, zA, zA, zA, zA, zA], [], none⟩
noncomputable def ref24_one_m (n : Nat) : Mach (Int × Int × Int) where
  body := (Tryd.f30.body).getD .skip
  P := Tryd.prog
  cl := tabA [(17, ent1 tyS tyB (ref24_Keyword n)), (33, ent1 (tyI .u8) tyB (ref24_begins n)), (36, ent0  (tyLt rowS) (ref24_fixed n)), (43, ent2 tyS (tyI .i64) (tyI .i64) (ref24_name n)), (44, ent2 (tyL rowS) tyS tyB (ref24_has n)), (45, ent1 (tyI .u8) tyB (ref24_digit n)), (46, ent3 tyS (tyI .i64) (tyL rowS) (tyI .i64) (ref24_longest n))]
  cd := tabD []
  nrm := tabN [([0, 0, 1, 0, 1, 1, 1, 0, 0, 1, 1], ref24_one_n1), ([0, 0, 1, 0, 1, 1, 1, 1, 1, 0, 0, 1, 1], ref24_one_n2)]
  cut := tabF []
  n := n
  out := outR Tryd.prog [.tmp 6, .tmp 7, .tmp 8] (ty3 (tyI .i64) (tyI .i64) (tyI .i64))
theorem ref24_one_f (n : Nat) : (ref24_one_m n).P = Tryd.prog ∧ (ref24_one_m n).cl = tabA [(17, ent1 tyS tyB (ref24_Keyword n)), (33, ent1 (tyI .u8) tyB (ref24_begins n)), (36, ent0  (tyLt rowS) (ref24_fixed n)), (43, ent2 tyS (tyI .i64) (tyI .i64) (ref24_name n)), (44, ent2 (tyL rowS) tyS tyB (ref24_has n)), (45, ent1 (tyI .u8) tyB (ref24_digit n)), (46, ent3 tyS (tyI .i64) (tyL rowS) (tyI .i64) (ref24_longest n))] ∧ (ref24_one_m n).cd = tabD [] ∧ (ref24_one_m n).nrm = tabN [([0, 0, 1, 0, 1, 1, 1, 0, 0, 1, 1], ref24_one_n1), ([0, 0, 1, 0, 1, 1, 1, 1, 1, 0, 0, 1, 1], ref24_one_n2)] ∧ (ref24_one_m n).cut = tabF [] ∧ (ref24_one_m n).n = n ∧ (ref24_one_m n).out = outR Tryd.prog [.tmp 6, .tmp 7, .tmp 8] (ty3 (tyI .i64) (tyI .i64) (tyI .i64)) := ⟨rfl, rfl, rfl, rfl, rfl, rfl, rfl⟩
theorem ref24_one_c (n : Nat) : (ref24_one_m n).body = (Tryd.f30.body).getD .skip := rfl
noncomputable def ref24_one_b1 (n : Nat) : { B : (Str → Int → Int → Int → Option (Int × Int × Int)) → Str → Int → Int → Int → Option (Int × Int × Int) // ∀ m X0, (∀ (v0 : Str) (v1 : Int) (v2 : Int) (v3 : Int), run (ref24_one_m n) [.lq m [0, 0, 1, 0, 1, 1, 1, 0, 0, 1, 1], .blk 2, .cut [1, 1, 0, 1, 1, 1, 0, 0, 1, 1], .at [1, 1, 0, 1, 1, 1, 0, 0, 1, 1], .blk 0, .cut [1, 1, 1], .at [1, 1, 1]] ⟨[.str (sb v0), .int .i64 v1, .any, .any, .any, .any, .any, .any, .any, .int .u8 v2, .any, .any, .int .i64 v3, .any, .any, .any, .any, .any, .any, .any, .any, .any, .any, .any, .any, .any, .any, .any, .any, .any, .any, .any, .any, .any, .any, .any, .any, .any, .any, .any, .any, .any, .any, .any, .any, .any, .any, .any, .any, .any, .any, .any, .any, .any, .any, .any, .any, .any, .any, .any, .any, .any, .any, .any, .any, .any, .any, .any, .any, .any, .any, .any, .any, .any, .any, .any, .any, .any, .any, .any, .any, .any, .any, .any, .any, .any, .any, .any, .any, .any, .any, .any, .any, .any, .any, .any, .any, .any, .any, .any, .any, .any, .any, .any, .any, .any, .any, .any, .any, .any, .any, .any, .any, .any, .any, .any, .any, .any, .any, .any, .any, .any, .any, .any, .any, .any, .any, .any, .any, .any, .any, .any, .any, .any, .any, .any, .any, .any, .any, .any, .any, .any, .any, .any, .any, .any, .any], [], 0⟩ = X0 v0 v1 v2 v3) → ∀ (v0 : Str) (v1 : Int) (v2 : Int) (v3 : Int), run (ref24_one_m n) [.at [0, 0, 0, 1, 0, 1, 1, 1, 0, 0, 1, 1], .lp m [0, 0, 1, 0, 1, 1, 1, 0, 0, 1, 1], .blk 2, .cut [1, 1, 0, 1, 1, 1, 0, 0, 1, 1], .at [1, 1, 0, 1, 1, 1, 0, 0, 1, 1], .blk 0, .cut [1, 1, 1], .at [1, 1, 1]] ⟨[.str (sb v0), .int .i64 v1, .any, .any, .any, .any, .any, .any, .any, .int .u8 v2, .any, .any, .int .i64 v3, .any, .any, .any, .any, .any, .any, .any, .any, .any, .any, .any, .any, .any, .any, .any, .any, .any, .any, .any, .any, .any, .any, .any, .any, .any, .any, .any, .any, .any, .any, .any, .any, .any, .any, .any, .any, .any, .any, .any, .any, .any, .any, .any, .any, .any, .any, .any, .any, .any, .any, .any, .any, .any, .any, .any, .any, .any, .any, .any, .any, .any, .any, .any, .any, .any, .any, .any, .any, .any, .any, .any, .any, .any, .any, .any, .any, .any, .any, .any, .any, .any, .any, .any, .any, .any, .any, .any, .any, .any, .any, .any, .any, .any, .any, .any, .any, .any, .any, .any, .any, .any, .any, .any, .any, .any, .any, .any, .any, .any, .any, .any, .any, .any, .any, .any, .any, .any, .any, .any, .any, .any, .any, .any, .any, .any, .any, .any, .any, .any, .any, .any, .any, .any, .any], [], 0⟩ = B X0 v0 v1 v2 v3 } := by
  apply Subtype.mk
  intro m X0 ih v0 v1 v2 v3
  simp (config := { maxSteps := 100000000 }) only [go_sem, Nat.reduceAdd, Nat.reduceSub, Nat.reduceLeDiff, Nat.reduceEqDiff, Nat.reduceBEq, Nat.reduceMul, Nat.reduceLT, Int.reduceLE, Int.reduceLT, Int.reduceToNat, Int.reduceBEq, Int.reduceEq, ref24_one_f, ref24_one_c, Tryd.f30, Option.getD_some, mixed, ref24_one_n1, ref24_one_n2, ih]
  exact rfl
noncomputable def ref24_one_l1 (n : Nat) : Nat → Str → Int → Int → Int → Option (Int × Int × Int)
  | 0, _, _, _, _ => none
  | m + 1, v0, v1, v2, v3 => (ref24_one_b1 n).1 (ref24_one_l1 n m) v0 v1 v2 v3
theorem ref24_one_l1_eq (n : Nat) : ∀ (m : Nat), (∀ (v0 : Str) (v1 : Int) (v2 : Int) (v3 : Int), run (ref24_one_m n) [.lq m [0, 0, 1, 0, 1, 1, 1, 0, 0, 1, 1], .blk 2, .cut [1, 1, 0, 1, 1, 1, 0, 0, 1, 1], .at [1, 1, 0, 1, 1, 1, 0, 0, 1, 1], .blk 0, .cut [1, 1, 1], .at [1, 1, 1]] ⟨[.str (sb v0), .int .i64 v1, .any, .any, .any, .any, .any, .any, .any, .int .u8 v2, .any, .any, .int .i64 v3, .any, .any, .any, .any, .any, .any, .any, .any, .any, .any, .any, .any, .any, .any, .any, .any, .any, .any, .any, .any, .any, .any, .any, .any, .any, .any, .any, .any, .any, .any, .any, .any, .any, .any, .any, .any, .any, .any, .any, .any, .any, .any, .any, .any, .any, .any, .any, .any, .any, .any, .any, .any, .any, .any, .any, .any, .any, .any, .any, .any, .any, .any, .any, .any, .any, .any, .any, .any, .any, .any, .any, .any, .any, .any, .any, .any, .any, .any, .any, .any, .any, .any, .any, .any, .any, .any, .any, .any, .any, .any, .any, .any, .any, .any, .any, .any, .any, .any, .any, .any, .any, .any, .any, .any, .any, .any, .any, .any, .any, .any, .any, .any, .any, .any, .any, .any, .any, .any, .any, .any, .any, .any, .any, .any, .any, .any, .any, .any, .any, .any, .any, .any, .any, .any], [], 0⟩ = ref24_one_l1 n m v0 v1 v2 v3)
  | 0 => by intros; exact run_lq_zero
  | m + 1 => by
    have ih := ref24_one_l1_eq n m
    intro v0 v1 v2 v3
    rw [run_lq_succ]
    exact (ref24_one_b1 n).2  m _  ih v0 v1 v2 v3
noncomputable def ref24_one_b2 (n : Nat) : { B : (Str → Int → Int → Option (Int × Int × Int)) → Str → Int → Int → Option (Int × Int × Int) // ∀ m X0, (∀ (v0 : Str) (v1 : Int) (v2 : Int), run (ref24_one_m n) [.lq m [0, 0, 1, 0, 1, 1, 1, 1, 1, 0, 0, 1, 1], .blk 5, .cut [1, 1, 0, 1, 1, 1, 1, 1, 0, 0, 1, 1], .at [1, 1, 0, 1, 1, 1, 1, 1, 0, 0, 1, 1], .blk 0, .cut [1, 1, 1], .at [1, 1, 1]] ⟨[.str (sb v0), .int .i64 v1, .any, .any, .any, .any, .any, .any, .any, .any, .any, .any, .any, .int .i64 v2, .any, .any, .any, .any, .any, .any, .any, .any, .any, .any, .any, .any, .any, .any, .any, .any, .any, .any, .any, .any, .any, .any, .any, .any, .any, .any, .any, .any, .any, .any, .any, .any, .any, .any, .any, .any, .any, .any, .any, .any, .any, .any, .any, .any, .any, .any, .any, .any, .any, .any, .any, .any, .any, .any, .any, .any, .any, .any, .any, .any, .any, .any, .any, .any, .any, .any, .any, .any, .any, .any, .any, .any, .any, .any, .any, .any, .any, .any, .any, .any, .any, .any, .any, .any, .any, .any, .any, .any, .any, .any, .any, .any, .any, .any, .any, .any, .any, .any, .any, .any, .any, .any, .any, .any, .any, .any, .any, .any, .any, .any, .any, .any, .any, .any, .any, .any, .any, .any, .any, .any, .any, .any, .any, .any, .any, .any, .any, .any, .any, .any, .any, .any, .any], [], 0⟩ = X0 v0 v1 v2) → ∀ (v0 : Str) (v1 : Int) (v2 : Int), run (ref24_one_m n) [.at [0, 0, 0, 1, 0, 1, 1, 1, 1, 1, 0, 0, 1, 1], .lp m [0, 0, 1, 0, 1, 1, 1, 1, 1, 0, 0, 1, 1], .blk 5, .cut [1, 1, 0, 1, 1, 1, 1, 1, 0, 0, 1, 1], .at [1, 1, 0, 1, 1, 1, 1, 1, 0, 0, 1, 1], .blk 0, .cut [1, 1, 1], .at [1, 1, 1]] ⟨[.str (sb v0), .int .i64 v1, .any, .any, .any, .any, .any, .any, .any, .any, .any, .any, .any, .int .i64 v2, .any, .any, .any, .any, .any, .any, .any, .any, .any, .any, .any, .any, .any, .any, .any, .any, .any, .any, .any, .any, .any, .any, .any, .any, .any, .any, .any, .any, .any, .any, .any, .any, .any, .any, .any, .any, .any, .any, .any, .any, .any, .any, .any, .any, .any, .any, .any, .any, .any, .any, .any, .any, .any, .any, .any, .any, .any, .any, .any, .any, .any, .any, .any, .any, .any, .any, .any, .any, .any, .any, .any, .any, .any, .any, .any, .any, .any, .any, .any, .any, .any, .any, .any, .any, .any, .any, .any, .any, .any, .any, .any, .any, .any, .any, .any, .any, .any, .any, .any, .any, .any, .any, .any, .any, .any, .any, .any, .any, .any, .any, .any, .any, .any, .any, .any, .any, .any, .any, .any, .any, .any, .any, .any, .any, .any, .any, .any, .any, .any, .any, .any, .any, .any], [], 0⟩ = B X0 v0 v1 v2 } := by
  apply Subtype.mk
  intro m X0 ih v0 v1 v2
  simp (config := { maxSteps := 100000000 }) only [go_sem, Nat.reduceAdd, Nat.reduceSub, Nat.reduceLeDiff, Nat.reduceEqDiff, Nat.reduceBEq, Nat.reduceMul, Nat.reduceLT, Int.reduceLE, Int.reduceLT, Int.reduceToNat, Int.reduceBEq, Int.reduceEq, ref24_one_f, ref24_one_c, Tryd.f30, Option.getD_some, mixed, ref24_one_n1, ref24_one_n2, ref24_one_l1_eq n, ih]
  exact rfl
noncomputable def ref24_one_l2 (n : Nat) : Nat → Str → Int → Int → Option (Int × Int × Int)
  | 0, _, _, _ => none
  | m + 1, v0, v1, v2 => (ref24_one_b2 n).1 (ref24_one_l2 n m) v0 v1 v2
theorem ref24_one_l2_eq (n : Nat) : ∀ (m : Nat), (∀ (v0 : Str) (v1 : Int) (v2 : Int), run (ref24_one_m n) [.lq m [0, 0, 1, 0, 1, 1, 1, 1, 1, 0, 0, 1, 1], .blk 5, .cut [1, 1, 0, 1, 1, 1, 1, 1, 0, 0, 1, 1], .at [1, 1, 0, 1, 1, 1, 1, 1, 0, 0, 1, 1], .blk 0, .cut [1, 1, 1], .at [1, 1, 1]] ⟨[.str (sb v0), .int .i64 v1, .any, .any, .any, .any, .any, .any, .any, .any, .any, .any, .any, .int .i64 v2, .any, .any, .any, .any, .any, .any, .any, .any, .any, .any, .any, .any, .any, .any, .any, .any, .any, .any, .any, .any, .any, .any, .any, .any, .any, .any, .any, .any, .any, .any, .any, .any, .any, .any, .any, .any, .any, .any, .any, .any, .any, .any, .any, .any, .any, .any, .any, .any, .any, .any, .any, .any, .any, .any, .any, .any, .any, .any, .any, .any, .any, .any, .any, .any, .any, .any, .any, .any, .any, .any, .any, .any, .any, .any, .any, .any, .any, .any, .any, .any, .any, .any, .any, .any, .any, .any, .any, .any, .any, .any, .any, .any, .any, .any, .any, .any, .any, .any, .any, .any, .any, .any, .any, .any, .any, .any, .any, .any, .any, .any, .any, .any, .any, .any, .any, .any, .any, .any, .any, .any, .any, .any, .any, .any, .any, .any, .any, .any, .any, .any, .any, .any, .any], [], 0⟩ = ref24_one_l2 n m v0 v1 v2)
  | 0 => by intros; exact run_lq_zero
  | m + 1 => by
    have ih := ref24_one_l2_eq n m
    intro v0 v1 v2
    rw [run_lq_succ]
    exact (ref24_one_b2 n).2  m _  ih v0 v1 v2
noncomputable def ref24_one_e (n : Nat) : { B : Str → Int → (List Str) → Option (Int × Int × Int) // ∀ (a0 : Str) (a1 : Int) (a2 : (List Str)), run (ref24_one_m n) [.at []] { slots := [tyS.enc a0, (tyI .i64).enc a1, (tyL rowS).enc a2] ++ List.replicate (147 - [tyS.enc a0, (tyI .i64).enc a1, (tyL rowS).enc a2].length) .any, heap := [] } = B a0 a1 a2 } := by
  apply Subtype.mk
  intro a0 a1 a2
  simp (config := { maxSteps := 100000000 }) only [go_sem, Nat.reduceAdd, Nat.reduceSub, Nat.reduceLeDiff, Nat.reduceEqDiff, Nat.reduceBEq, Nat.reduceMul, Nat.reduceLT, Int.reduceLE, Int.reduceLT, Int.reduceToNat, Int.reduceBEq, Int.reduceEq, ref24_one_f, ref24_one_c, Tryd.f30, Option.getD_some, mixed, ref24_one_n1, ref24_one_n2, ref24_one_l1_eq n, ref24_one_l2_eq n]
  exact rfl
noncomputable def ref24_one : Nat → Str → Int → (List Str) → Option (Int × Int × Int)
  | 0, _, _, _ => none
  | n + 1, a0, a1, a2 => (ref24_one_e n).1 a0 a1 a2
theorem ref24_one_ok : ∀ (n : Nat) (a0 : Str) (a1 : Int) (a2 : (List Str)) (r : (Int × Int × Int)), ref24_one n a0 a1 a2 = some r → FnC Tryd.prog 30 [tyS.enc a0, (tyI .i64).enc a1, (tyL rowS).enc a2] (fun v => v = (ty3 (tyI .i64) (tyI .i64) (tyI .i64)).enc r)
  | 0, _, _, _, _, h => by cases h
  | n + 1, a0, a1, a2, r, h => by
    exact fnC_run (M := ref24_one_m n) ⟨(tabA_cons_ok (ent1_ok (ref24_Keyword_ok n)) (tabA_cons_ok (ent1_ok (ref24_begins_ok n)) (tabA_cons_ok (ent0_ok (ref24_fixed_ok n)) (tabA_cons_ok (ent2_ok (ref24_name_ok n)) (tabA_cons_ok (ent2_ok (ref24_has_ok n)) (tabA_cons_ok (ent1_ok (ref24_digit_ok n)) (tabA_cons_ok (ent3_ok (ref24_longest_ok n)) tabA_nil_ok))))))), tabD_nil_ok, tabN_ok _, tabF_ok _, noY_ok, noE_ok⟩ Tryd.func30 rfl rfl ⟨tyS.nb 0 _, (tyI .i64).nb 0 _, (tyL rowS).nb 0 _, trivial⟩ Tryd.ntmps30 Tryd.results30 (fun σ hs => outR_ok (P := Tryd.prog) (rs := [.tmp 6, .tmp 7, .tmp 8]) (t := (ty3 (tyI .i64) (tyI .i64) (tyI .i64))) (σ := σ) (r := r) hs) (((ref24_one_e n).2 a0 a1 a2).trans h)
end Go.Abs
namespace Go.Abs
open Go.Proofs
set_option maxRecDepth 100000
set_option maxHeartbeats 4000000
set_option linter.unusedSimpArgs false
set_option linter.unusedVariables false
noncomputable def lexer_Scan_n1 : Nrm := ⟨[(15, 3, true)], [], [zK, zA, zA, zA, zA, zA, zA, zK, zA, zA, zA, zA, zA, zA, zK, zK, zA, zA, zA, zA, zA, zA, zA, zA, zA, zA, zA, zA, zA, zA, zA, zA, zA, zA, zA, zA, zA, zA, zA, zA, zA, zA, zA, zA, zA, zA, zA, zA, zA, zA, zA, zA, zA, zA, zA, zA, zA, zA, zA, zA, zA, zA, zA, zA, zA, zA, zA, zA, zA, zA, zA, zA, zA, zA, zA, zA, zA, zA, zA, zA, zA, zA, zA, zA, zA, zA, zA, zA, zA, zA, zA, zA, zA, zA, zA, zA, zA, zA, zA, zA, zA, zA, zA, zA, zA, zA, zA, zA, zA, zA, zA, zA, zA, zA, zA, zA, zA, zA, zA, zA, zA, zA, zA, zA, zA, zA, zA, zA], [oK, oK, oK, oC [zK, zK, zK, zK, zK], oC [zK, zK, zK, zK], oA Token.row], none⟩
noncomputable def lexer_Scan_n2 : Nrm := ⟨[], [], [zK, zA, zA, zA, zA, zA, zA, zK, zA, zA, zA, zA, zA, zA, zA, zA, zA, zA, zA, zA, zA, zA, zA, zA, zA, zA, zA, zA, zA, zA, zA, zA, zA, zA, zA, zA, zA, zA, zA, zA, zA, zA, zT (tyL rowSS), zK, zK, zA, zA, zA, zT (tyL rowS), zK, zK, zA, zA, zA, zA, zA, zA, zA, zA, zA, zA, zA, zA, zA, zA, zA, zA, zA, zA, zA, zA, zA, zA, zA, zA, zA, zA, zA, zA, zA, zA, zA, zA, zA, zA, zA, zA, zA, zA, zA, zA, zA, zA, zA, zA, zA, zA, zA, zA, zA, zA, zA, zA, zA, zA, zA, zA, zA, zA, zA, zA, zA, zA, zA, zA, zA, zA, zA, zA, zA, zA, zA, zA, zA, zA, zA, zA, zA], [oK, oK, oK, oC [zK, zK, zK, zK, zK]], none⟩
noncomputable def lexer_Scan_n3 : Nrm := ⟨[], [], [zK, zA, zA, zA, zA, zA, zA, zK, zA, zA, zA, zA, zA, zA, zA, zA, zA, zA, zA, zA, zA, zA, zA, zA, zA, zA, zA, zA, zA, zA, zA, zA, zA, zA, zA, zA, zA, zA, zA, zA, zA, zA, zT (tyL rowSS), zK, zK, zA, zA, zA, zA, zA, zA, zA, zA, zA, zA, zA, zA, zA, zA, zA, zA, zA, zA, zA, zA, zA, zA, zA, zA, zA, zA, zA, zA, zA, zA, zA, zA, zA, zA, zA, zA, zA, zA, zA, zA, zA, zA, zA, zA, zA, zA, zA, zA, zA, zA, zA, zA, zA, zA, zA, zA, zA, zA, zA, zA, zA, zA, zA, zA, zA, zA, zA, zA, zA, zA, zA, zA, zA, zA, zA, zA, zA, zA, zA, zA, zA, zA, zA], [oK, oK, oK, oC [zK, zK, zK, zK, zK]], none⟩
noncomputable def lexer_Scan_n4 : Nrm := ⟨[], [], [zK, zT (tyL rowS), zA, zA, zA, zA, zA, zK, zA, zA, zA, zA, zA, zA, zA, zA, zA, zA, zA, zA, zA, zA, zA, zA, zA, zT (tyL rowS), zK, zK, zA, zA, zA, zA, zA, zA, zA, zA, zA, zA, zA, zA, zA, zA, zA, zA, zA, zA, zA, zA, zA, zA, zA, zA, zA, zA, zA, zA, zA, zA, zA, zA, zA, zA, zA, zA, zA, zA, zA, zA, zA, zA, zA, zA, zA, zA, zA, zA, zA, zA, zA, zA, zA, zA, zA, zA, zA, zA, zA, zA, zA, zA, zA, zA, zA, zA, zA, zA, zA, zA, zA, zA, zA, zA, zA, zA, zA, zA, zA, zA, zA, zA, zA, zA, zA, zA, zA, zA, zA, zA, zA, zA, zA, zA, zA, zA, zA, zA, zA, zA], [oK, oK, oK, oC [zK, zK, zK, zK, zK]], none⟩
noncomputable def lexer_Scan_m (n : Nat) : Mach ((List Token) × Int × Int) where
  body := (Tryd.f13.body).getD .skip
  P := Tryd.prog
  cl := tabA [(18, ent1 tyS tyB (lexer_Symbol n)), (21, entX [] olN alN (olC ogM olN) (alM 0 alN) (fun (b : Unit) (a : Unit) => (lexer_keywords n) )), (22, ent0  (tyL rowS) (lexer_fixed n)), (23, entX [.arg 0 [], .obj 0 2 [], .obj 0 3 [], .obj 0 4 []] lexer_scanner_symbol_os (alP 0 alN) lexer_scanner_symbol_o1 lexer_scanner_symbol_rs (fun (b : ((Str × (Int × Unit)) × ((List (Str × Bool)) × ((List (Str × Bool)) × ((List (Str × Bool)) × Unit))))) (a : Unit) => (lexer_scanner_symbol n) b.1.1 b.1.2.1 b.2.1 b.2.2.1 b.2.2.2.1)), (24, entX [.arg 0 [], .obj 0 2 [], .obj 0 3 [], .obj 0 4 []] lexer_scanner_word_os (alP 0 alN) lexer_scanner_word_o1 lexer_scanner_word_rs (fun (b : ((Str × (Int × Unit)) × ((List (Str × Bool)) × ((List (Str × Bool)) × ((List (Str × Bool)) × Unit))))) (a : Unit) => (lexer_scanner_word n) b.1.1 b.1.2.1 b.2.1 b.2.2.1 b.2.2.2.1)), (25, entX [.arg 0 [], .obj 0 2 [], .obj 0 3 [], .obj 0 4 []] lexer_scanner_number_os (alP 0 alN) lexer_scanner_number_o1 lexer_scanner_number_rs (fun (b : ((Str × (Int × Unit)) × ((List (Str × Bool)) × ((List (Str × Bool)) × ((List (Str × Bool)) × Unit))))) (a : Unit) => (lexer_scanner_number n) b.1.1 b.1.2.1 b.2.1 b.2.2.1 b.2.2.2.1)), (26, entX [.arg 0 [], .obj 0 2 [], .obj 0 3 [], .obj 0 4 []] lexer_scanner_quoted_os (alP 0 alN) lexer_scanner_quoted_o1 lexer_scanner_quoted_rs (fun (b : ((Str × (Int × Unit)) × ((List (Str × Bool)) × ((List (Str × Bool)) × ((List (Str × Bool)) × Unit))))) (a : Unit) => (lexer_scanner_quoted n) b.1.1 b.1.2.1 b.2.1 b.2.2.1 b.2.2.2.1)), (27, entX [.arg 0 [], .obj 0 2 [], .obj 0 3 [], .obj 0 4 []] lexer_scanner_skip_os (alP 0 alN) lexer_scanner_skip_o1 alN (fun (b : ((Str × (Int × Unit)) × ((List (Str × Bool)) × ((List (Str × Bool)) × ((List (Str × Bool)) × Unit))))) (a : Unit) => (lexer_scanner_skip n) b.1.1 b.1.2.1 b.2.1 b.2.2.1 b.2.2.2.1)), (28, ent1 (tyI .u8) (tyI .i64) (lexer_class n))]
  cd := tabD []
  nrm := tabN [([0, 1, 0, 1, 1, 1, 1, 1, 1, 1], lexer_Scan_n1), ([0, 1, 1, 0, 0, 1, 1, 0, 0, 1, 0, 1, 1, 1], lexer_Scan_n2), ([0, 1, 0, 1, 1, 1], lexer_Scan_n3), ([0, 1, 0, 1, 1], lexer_Scan_n4)]
  cut := tabF []
  n := n
  out := outR Tryd.prog [.tmp 4, .tmp 5, .tmp 6] (ty3 (tyL Token.row) (tyI .i64) (tyI .i64))
  isE := tabI []
theorem lexer_Scan_f (n : Nat) : (lexer_Scan_m n).P = Tryd.prog ∧ (lexer_Scan_m n).cl = tabA [(18, ent1 tyS tyB (lexer_Symbol n)), (21, entX [] olN alN (olC ogM olN) (alM 0 alN) (fun (b : Unit) (a : Unit) => (lexer_keywords n) )), (22, ent0  (tyL rowS) (lexer_fixed n)), (23, entX [.arg 0 [], .obj 0 2 [], .obj 0 3 [], .obj 0 4 []] lexer_scanner_symbol_os (alP 0 alN) lexer_scanner_symbol_o1 lexer_scanner_symbol_rs (fun (b : ((Str × (Int × Unit)) × ((List (Str × Bool)) × ((List (Str × Bool)) × ((List (Str × Bool)) × Unit))))) (a : Unit) => (lexer_scanner_symbol n) b.1.1 b.1.2.1 b.2.1 b.2.2.1 b.2.2.2.1)), (24, entX [.arg 0 [], .obj 0 2 [], .obj 0 3 [], .obj 0 4 []] lexer_scanner_word_os (alP 0 alN) lexer_scanner_word_o1 lexer_scanner_word_rs (fun (b : ((Str × (Int × Unit)) × ((List (Str × Bool)) × ((List (Str × Bool)) × ((List (Str × Bool)) × Unit))))) (a : Unit) => (lexer_scanner_word n) b.1.1 b.1.2.1 b.2.1 b.2.2.1 b.2.2.2.1)), (25, entX [.arg 0 [], .obj 0 2 [], .obj 0 3 [], .obj 0 4 []] lexer_scanner_number_os (alP 0 alN) lexer_scanner_number_o1 lexer_scanner_number_rs (fun (b : ((Str × (Int × Unit)) × ((List (Str × Bool)) × ((List (Str × Bool)) × ((List (Str × Bool)) × Unit))))) (a : Unit) => (lexer_scanner_number n) b.1.1 b.1.2.1 b.2.1 b.2.2.1 b.2.2.2.1)), (26, entX [.arg 0 [], .obj 0 2 [], .obj 0 3 [], .obj 0 4 []] lexer_scanner_quoted_os (alP 0 alN) lexer_scanner_quoted_o1 lexer_scanner_quoted_rs (fun (b : ((Str × (Int × Unit)) × ((List (Str × Bool)) × ((List (Str × Bool)) × ((List (Str × Bool)) × Unit))))) (a : Unit) => (lexer_scanner_quoted n) b.1.1 b.1.2.1 b.2.1 b.2.2.1 b.2.2.2.1)), (27, entX [.arg 0 [], .obj 0 2 [], .obj 0 3 [], .obj 0 4 []] lexer_scanner_skip_os (alP 0 alN) lexer_scanner_skip_o1 alN (fun (b : ((Str × (Int × Unit)) × ((List (Str × Bool)) × ((List (Str × Bool)) × ((List (Str × Bool)) × Unit))))) (a : Unit) => (lexer_scanner_skip n) b.1.1 b.1.2.1 b.2.1 b.2.2.1 b.2.2.2.1)), (28, ent1 (tyI .u8) (tyI .i64) (lexer_class n))] ∧ (lexer_Scan_m n).cd = tabD [] ∧ (lexer_Scan_m n).nrm = tabN [([0, 1, 0, 1, 1, 1, 1, 1, 1, 1], lexer_Scan_n1), ([0, 1, 1, 0, 0, 1, 1, 0, 0, 1, 0, 1, 1, 1], lexer_Scan_n2), ([0, 1, 0, 1, 1, 1], lexer_Scan_n3), ([0, 1, 0, 1, 1], lexer_Scan_n4)] ∧ (lexer_Scan_m n).cut = tabF [] ∧ (lexer_Scan_m n).n = n ∧ (lexer_Scan_m n).out = outR Tryd.prog [.tmp 4, .tmp 5, .tmp 6] (ty3 (tyL Token.row) (tyI .i64) (tyI .i64)) ∧ (lexer_Scan_m n).isE = tabI [] := ⟨rfl, rfl, rfl, rfl, rfl, rfl, rfl, rfl⟩
theorem lexer_Scan_c (n : Nat) : (lexer_Scan_m n).body = (Tryd.f13.body).getD .skip := rfl
theorem lexer_Scan_d (n : Nat) : drawP (lexer_Scan_m n) [0, 1, 1, 0, 0, 1, 0, 0, 1, 0, 1, 1, 1, 1, 1, 1, 1] = true := by kernel_rfl
theorem lexer_Scan_o (n : Nat) : ordP (lexer_Scan_m n) [0, 1, 1, 0, 0, 1, 0, 0, 1, 0, 1, 1, 1, 1, 1, 1, 1] 6 15 = true ∧ ordP (lexer_Scan_m n) [0, 1, 1, 0, 0, 1, 0, 0, 1, 0, 1, 1, 1, 1, 1, 1, 1] 8 15 = true ∧ ordP (lexer_Scan_m n) [0, 1, 1, 0, 0, 1, 0, 0, 1, 0, 1, 1, 1, 1, 1, 1, 1] 12 15 = true := ⟨by kernel_rfl, by kernel_rfl, by kernel_rfl⟩
noncomputable def lexer_Scan_b1 (n : Nat) : { B : (Str → (List (Str × Bool)) → (List (Str × Bool)) → (List (Str × Bool)) → Str → Int → (List Token) → Option ((List Token) × Int × Int)) → Str → (List (Str × Bool)) → (List (Str × Bool)) → (List (Str × Bool)) → Str → Int → (List Token) → Option ((List Token) × Int × Int) // ∀ m X0, (∀ (v0 : Str) (r0 : List (Str × Bool)) (r1 : List (Str × Bool)) (r2 : List (Str × Bool)) (v4 : Str) (v5 : Int) (r5 : List Token) (c5 : Nat), c5 = r5.length → run (lexer_Scan_m n) [.lq m [0, 1, 0, 1, 1, 1, 1, 1, 1, 1], .blk 6, .cut [1, 1, 1, 1, 1, 1, 1, 1], .at [1, 1, 1, 1, 1, 1, 1, 1]] ⟨[.str (sb v0), .any, .any, .any, .any, .any, .any, .ptr 3 0, .any, .any, .any, .any, .any, .any, .ptr 4 0, .acc 5 c5, .any, .any, .any, .any, .any, .any, .any, .any, .any, .any, .any, .any, .any, .any, .any, .any, .any, .any, .any, .any, .any, .any, .any, .any, .any, .any, .any, .any, .any, .any, .any, .any, .any, .any, .any, .any, .any, .any, .any, .any, .any, .any, .any, .any, .any, .any, .any, .any, .any, .any, .any, .any, .any, .any, .any, .any, .any, .any, .any, .any, .any, .any, .any, .any, .any, .any, .any, .any, .any, .any, .any, .any, .any, .any, .any, .any, .any, .any, .any, .any, .any, .any, .any, .any, .any, .any, .any, .any, .any, .any, .any, .any, .any, .any, .any, .any, .any, .any, .any, .any, .any, .any, .any, .any, .any, .any, .any, .any, .any, .any, .any, .any], [.map (mp mcB r0), .map (mp mcB r1), .map (mp mcB r2), .cells [.str (sb v4), .int .i64 v5, .map 0, .map 1, .map 2], .cells [.func (.func 23) [.ptr 3 0] [], .func (.func 24) [.ptr 3 0] [], .func (.func 25) [.ptr 3 0] [], .func (.func 26) [.ptr 3 0] []], .acc true 3 (mp Token.cells r5)], 0⟩ = X0 v0 r0 r1 r2 v4 v5 r5) → ∀ (v0 : Str) (r0 : List (Str × Bool)) (r1 : List (Str × Bool)) (r2 : List (Str × Bool)) (v4 : Str) (v5 : Int) (r5 : List Token), run (lexer_Scan_m n) [.at [0, 0, 1, 0, 1, 1, 1, 1, 1, 1, 1], .lp m [0, 1, 0, 1, 1, 1, 1, 1, 1, 1], .blk 6, .cut [1, 1, 1, 1, 1, 1, 1, 1], .at [1, 1, 1, 1, 1, 1, 1, 1]] ⟨[.str (sb v0), .any, .any, .any, .any, .any, .any, .ptr 3 0, .any, .any, .any, .any, .any, .any, .ptr 4 0, .acc 5 r5.length, .any, .any, .any, .any, .any, .any, .any, .any, .any, .any, .any, .any, .any, .any, .any, .any, .any, .any, .any, .any, .any, .any, .any, .any, .any, .any, .any, .any, .any, .any, .any, .any, .any, .any, .any, .any, .any, .any, .any, .any, .any, .any, .any, .any, .any, .any, .any, .any, .any, .any, .any, .any, .any, .any, .any, .any, .any, .any, .any, .any, .any, .any, .any, .any, .any, .any, .any, .any, .any, .any, .any, .any, .any, .any, .any, .any, .any, .any, .any, .any, .any, .any, .any, .any, .any, .any, .any, .any, .any, .any, .any, .any, .any, .any, .any, .any, .any, .any, .any, .any, .any, .any, .any, .any, .any, .any, .any, .any, .any, .any, .any, .any], [.map (mp mcB r0), .map (mp mcB r1), .map (mp mcB r2), .cells [.str (sb v4), .int .i64 v5, .map 0, .map 1, .map 2], .cells [.func (.func 23) [.ptr 3 0] [], .func (.func 24) [.ptr 3 0] [], .func (.func 25) [.ptr 3 0] [], .func (.func 26) [.ptr 3 0] []], .acc true 3 (mp Token.cells r5)], 0⟩ = B X0 v0 r0 r1 r2 v4 v5 r5 } := by
  apply Subtype.mk
  intro m X0 ih v0 r0 r1 r2 v4 v5 r5
  simp (config := { maxSteps := 100000000 }) only [go_sem, Nat.reduceAdd, Nat.reduceSub, Nat.reduceLeDiff, Nat.reduceEqDiff, Nat.reduceBEq, Nat.reduceMul, Nat.reduceLT, Int.reduceLE, Int.reduceLT, Int.reduceToNat, Int.reduceBEq, Int.reduceEq, lexer_Scan_f, lexer_Scan_c, Tryd.f13, Option.getD_some, mixed, lexer_scanner_skip_os, lexer_scanner_skip_o1, lexer_scanner_symbol_os, lexer_scanner_symbol_o1, lexer_scanner_symbol_rs, lexer_scanner_word_os, lexer_scanner_word_o1, lexer_scanner_word_rs, lexer_scanner_number_os, lexer_scanner_number_o1, lexer_scanner_number_rs, lexer_scanner_quoted_os, lexer_scanner_quoted_o1, lexer_scanner_quoted_rs, lexer_Scan_d, lexer_Scan_o, lexer_Scan_n1, lexer_Scan_n2, lexer_Scan_n3, lexer_Scan_n4, ih]
  exact rfl
noncomputable def lexer_Scan_l1 (n : Nat) : Nat → Str → (List (Str × Bool)) → (List (Str × Bool)) → (List (Str × Bool)) → Str → Int → (List Token) → Option ((List Token) × Int × Int)
  | 0, _, _, _, _, _, _, _ => none
  | m + 1, v0, r0, r1, r2, v4, v5, r5 => (lexer_Scan_b1 n).1 (lexer_Scan_l1 n m) v0 r0 r1 r2 v4 v5 r5
theorem lexer_Scan_l1_eq (n : Nat) : ∀ (m : Nat), (∀ (v0 : Str) (r0 : List (Str × Bool)) (r1 : List (Str × Bool)) (r2 : List (Str × Bool)) (v4 : Str) (v5 : Int) (r5 : List Token) (c5 : Nat), c5 = r5.length → run (lexer_Scan_m n) [.lq m [0, 1, 0, 1, 1, 1, 1, 1, 1, 1], .blk 6, .cut [1, 1, 1, 1, 1, 1, 1, 1], .at [1, 1, 1, 1, 1, 1, 1, 1]] ⟨[.str (sb v0), .any, .any, .any, .any, .any, .any, .ptr 3 0, .any, .any, .any, .any, .any, .any, .ptr 4 0, .acc 5 c5, .any, .any, .any, .any, .any, .any, .any, .any, .any, .any, .any, .any, .any, .any, .any, .any, .any, .any, .any, .any, .any, .any, .any, .any, .any, .any, .any, .any, .any, .any, .any, .any, .any, .any, .any, .any, .any, .any, .any, .any, .any, .any, .any, .any, .any, .any, .any, .any, .any, .any, .any, .any, .any, .any, .any, .any, .any, .any, .any, .any, .any, .any, .any, .any, .any, .any, .any, .any, .any, .any, .any, .any, .any, .any, .any, .any, .any, .any, .any, .any, .any, .any, .any, .any, .any, .any, .any, .any, .any, .any, .any, .any, .any, .any, .any, .any, .any, .any, .any, .any, .any, .any, .any, .any, .any, .any, .any, .any, .any, .any, .any, .any], [.map (mp mcB r0), .map (mp mcB r1), .map (mp mcB r2), .cells [.str (sb v4), .int .i64 v5, .map 0, .map 1, .map 2], .cells [.func (.func 23) [.ptr 3 0] [], .func (.func 24) [.ptr 3 0] [], .func (.func 25) [.ptr 3 0] [], .func (.func 26) [.ptr 3 0] []], .acc true 3 (mp Token.cells r5)], 0⟩ = lexer_Scan_l1 n m v0 r0 r1 r2 v4 v5 r5)
  | 0 => by intros; exact run_lq_zero
  | m + 1 => by
    have ih := lexer_Scan_l1_eq n m
    intro v0 r0 r1 r2 v4 v5 r5 c5 ec5
    subst ec5
    rw [run_lq_succ]
    exact (lexer_Scan_b1 n).2  m _  ih v0 r0 r1 r2 v4 v5 r5
noncomputable def lexer_Scan_b2 (n : Nat) : { B : (Str → (List (List Str)) → Int → Int → (List (Str × Bool)) → (List (Str × Bool)) → (List (Str × Bool)) → Str → Option ((List Token) × Int × Int)) → (Str → (List (List Str)) → Int → Int → (List Str) → Int → Int → (List (Str × Bool)) → (List (Str × Bool)) → (List (Str × Bool)) → Str → Option ((List Token) × Int × Int)) → Str → (List (List Str)) → Int → Int → (List Str) → Int → Int → (List (Str × Bool)) → (List (Str × Bool)) → (List (Str × Bool)) → Str → Option ((List Token) × Int × Int) // ∀ m3 X3 m X0, (∀ (v0 : Str) (v1 : List (List Str)) (v2 : Int) (v3 : Int) (r0 : List (Str × Bool)) (r1 : List (Str × Bool)) (r2 : List (Str × Bool)) (v7 : Str), run (lexer_Scan_m n) [.lq m3 [0, 1, 0, 1, 1, 1], .blk 2, .cut [1, 1, 1, 1], .at [1, 1, 1, 1]] ⟨[.str (sb v0), .any, .any, .any, .any, .any, .any, .ptr 3 0, .any, .any, .any, .any, .any, .any, .any, .any, .any, .any, .any, .any, .any, .any, .any, .any, .any, .any, .any, .any, .any, .any, .any, .any, .any, .any, .any, .any, .any, .any, .any, .any, .any, .any, .lst false 1 (mp sscell v1), .int .i64 v2, .int .i64 v3, .any, .any, .any, .any, .any, .any, .any, .any, .any, .any, .any, .any, .any, .any, .any, .any, .any, .any, .any, .any, .any, .any, .any, .any, .any, .any, .any, .any, .any, .any, .any, .any, .any, .any, .any, .any, .any, .any, .any, .any, .any, .any, .any, .any, .any, .any, .any, .any, .any, .any, .any, .any, .any, .any, .any, .any, .any, .any, .any, .any, .any, .any, .any, .any, .any, .any, .any, .any, .any, .any, .any, .any, .any, .any, .any, .any, .any, .any, .any, .any, .any, .any, .any], [.map (mp mcB r0), .map (mp mcB r1), .map (mp mcB r2), .cells [.str (sb v7), .int .i64 0, .map 0, .map 1, .map 2]], 0⟩ = X3 v0 v1 v2 v3 r0 r1 r2 v7) → (∀ (v0 : Str) (v1 : List (List Str)) (v2 : Int) (v3 : Int) (v4 : List Str) (v5 : Int) (v6 : Int) (r0 : List (Str × Bool)) (r1 : List (Str × Bool)) (r2 : List (Str × Bool)) (v10 : Str), run (lexer_Scan_m n) [.lq m [0, 1, 1, 0, 0, 1, 1, 0, 0, 1, 0, 1, 1, 1], .blk 4, .blk 3, .cut [1, 1, 1, 0, 0, 1, 0, 1, 1, 1], .at [1, 1, 1, 0, 0, 1, 0, 1, 1, 1], .lp m3 [0, 1, 0, 1, 1, 1], .blk 2, .cut [1, 1, 1, 1], .at [1, 1, 1, 1]] ⟨[.str (sb v0), .any, .any, .any, .any, .any, .any, .ptr 3 0, .any, .any, .any, .any, .any, .any, .any, .any, .any, .any, .any, .any, .any, .any, .any, .any, .any, .any, .any, .any, .any, .any, .any, .any, .any, .any, .any, .any, .any, .any, .any, .any, .any, .any, .lst false 1 (mp sscell v1), .int .i64 v2, .int .i64 v3, .any, .any, .any, .lst false 1 (mp scell v4), .int .i64 v5, .int .i64 v6, .any, .any, .any, .any, .any, .any, .any, .any, .any, .any, .any, .any, .any, .any, .any, .any, .any, .any, .any, .any, .any, .any, .any, .any, .any, .any, .any, .any, .any, .any, .any, .any, .any, .any, .any, .any, .any, .any, .any, .any, .any, .any, .any, .any, .any, .any, .any, .any, .any, .any, .any, .any, .any, .any, .any, .any, .any, .any, .any, .any, .any, .any, .any, .any, .any, .any, .any, .any, .any, .any, .any, .any, .any, .any, .any, .any, .any], [.map (mp mcB r0), .map (mp mcB r1), .map (mp mcB r2), .cells [.str (sb v10), .int .i64 0, .map 0, .map 1, .map 2]], 0⟩ = X0 v0 v1 v2 v3 v4 v5 v6 r0 r1 r2 v10) → ∀ (v0 : Str) (v1 : List (List Str)) (v2 : Int) (v3 : Int) (v4 : List Str) (v5 : Int) (v6 : Int) (r0 : List (Str × Bool)) (r1 : List (Str × Bool)) (r2 : List (Str × Bool)) (v10 : Str), run (lexer_Scan_m n) [.at [0, 0, 1, 1, 0, 0, 1, 1, 0, 0, 1, 0, 1, 1, 1], .lp m [0, 1, 1, 0, 0, 1, 1, 0, 0, 1, 0, 1, 1, 1], .blk 4, .blk 3, .cut [1, 1, 1, 0, 0, 1, 0, 1, 1, 1], .at [1, 1, 1, 0, 0, 1, 0, 1, 1, 1], .lp m3 [0, 1, 0, 1, 1, 1], .blk 2, .cut [1, 1, 1, 1], .at [1, 1, 1, 1]] ⟨[.str (sb v0), .any, .any, .any, .any, .any, .any, .ptr 3 0, .any, .any, .any, .any, .any, .any, .any, .any, .any, .any, .any, .any, .any, .any, .any, .any, .any, .any, .any, .any, .any, .any, .any, .any, .any, .any, .any, .any, .any, .any, .any, .any, .any, .any, .lst false 1 (mp sscell v1), .int .i64 v2, .int .i64 v3, .any, .any, .any, .lst false 1 (mp scell v4), .int .i64 v5, .int .i64 v6, .any, .any, .any, .any, .any, .any, .any, .any, .any, .any, .any, .any, .any, .any, .any, .any, .any, .any, .any, .any, .any, .any, .any, .any, .any, .any, .any, .any, .any, .any, .any, .any, .any, .any, .any, .any, .any, .any, .any, .any, .any, .any, .any, .any, .any, .any, .any, .any, .any, .any, .any, .any, .any, .any, .any, .any, .any, .any, .any, .any, .any, .any, .any, .any, .any, .any, .any, .any, .any, .any, .any, .any, .any, .any, .any, .any, .any], [.map (mp mcB r0), .map (mp mcB r1), .map (mp mcB r2), .cells [.str (sb v10), .int .i64 0, .map 0, .map 1, .map 2]], 0⟩ = B X3 X0 v0 v1 v2 v3 v4 v5 v6 r0 r1 r2 v10 } := by
  apply Subtype.mk
  intro m3 X3 m X0 h3 ih v0 v1 v2 v3 v4 v5 v6 r0 r1 r2 v10
  simp (config := { maxSteps := 100000000 }) only [go_sem, Nat.reduceAdd, Nat.reduceSub, Nat.reduceLeDiff, Nat.reduceEqDiff, Nat.reduceBEq, Nat.reduceMul, Nat.reduceLT, Int.reduceLE, Int.reduceLT, Int.reduceToNat, Int.reduceBEq, Int.reduceEq, lexer_Scan_f, lexer_Scan_c, Tryd.f13, Option.getD_some, mixed, lexer_scanner_skip_os, lexer_scanner_skip_o1, lexer_scanner_symbol_os, lexer_scanner_symbol_o1, lexer_scanner_symbol_rs, lexer_scanner_word_os, lexer_scanner_word_o1, lexer_scanner_word_rs, lexer_scanner_number_os, lexer_scanner_number_o1, lexer_scanner_number_rs, lexer_scanner_quoted_os, lexer_scanner_quoted_o1, lexer_scanner_quoted_rs, lexer_Scan_d, lexer_Scan_o, lexer_Scan_n1, lexer_Scan_n2, lexer_Scan_n3, lexer_Scan_n4, lexer_Scan_l1_eq n, h3, ih]
  exact rfl
noncomputable def lexer_Scan_l2 (n : Nat) (X3 : Str → (List (List Str)) → Int → Int → (List (Str × Bool)) → (List (Str × Bool)) → (List (Str × Bool)) → Str → Option ((List Token) × Int × Int)) : Nat → Str → (List (List Str)) → Int → Int → (List Str) → Int → Int → (List (Str × Bool)) → (List (Str × Bool)) → (List (Str × Bool)) → Str → Option ((List Token) × Int × Int)
  | 0, _, _, _, _, _, _, _, _, _, _, _ => none
  | m + 1, v0, v1, v2, v3, v4, v5, v6, r0, r1, r2, v10 => (lexer_Scan_b2 n).1 X3 (lexer_Scan_l2 n X3 m) v0 v1 v2 v3 v4 v5 v6 r0 r1 r2 v10
theorem lexer_Scan_l2_eq (n : Nat) (m3 : Nat) (X3 : Str → (List (List Str)) → Int → Int → (List (Str × Bool)) → (List (Str × Bool)) → (List (Str × Bool)) → Str → Option ((List Token) × Int × Int)) (h3 : (∀ (v0 : Str) (v1 : List (List Str)) (v2 : Int) (v3 : Int) (r0 : List (Str × Bool)) (r1 : List (Str × Bool)) (r2 : List (Str × Bool)) (v7 : Str), run (lexer_Scan_m n) [.lq m3 [0, 1, 0, 1, 1, 1], .blk 2, .cut [1, 1, 1, 1], .at [1, 1, 1, 1]] ⟨[.str (sb v0), .any, .any, .any, .any, .any, .any, .ptr 3 0, .any, .any, .any, .any, .any, .any, .any, .any, .any, .any, .any, .any, .any, .any, .any, .any, .any, .any, .any, .any, .any, .any, .any, .any, .any, .any, .any, .any, .any, .any, .any, .any, .any, .any, .lst false 1 (mp sscell v1), .int .i64 v2, .int .i64 v3, .any, .any, .any, .any, .any, .any, .any, .any, .any, .any, .any, .any, .any, .any, .any, .any, .any, .any, .any, .any, .any, .any, .any, .any, .any, .any, .any, .any, .any, .any, .any, .any, .any, .any, .any, .any, .any, .any, .any, .any, .any, .any, .any, .any, .any, .any, .any, .any, .any, .any, .any, .any, .any, .any, .any, .any, .any, .any, .any, .any, .any, .any, .any, .any, .any, .any, .any, .any, .any, .any, .any, .any, .any, .any, .any, .any, .any, .any, .any, .any, .any, .any, .any], [.map (mp mcB r0), .map (mp mcB r1), .map (mp mcB r2), .cells [.str (sb v7), .int .i64 0, .map 0, .map 1, .map 2]], 0⟩ = X3 v0 v1 v2 v3 r0 r1 r2 v7)) : ∀ (m : Nat), (∀ (v0 : Str) (v1 : List (List Str)) (v2 : Int) (v3 : Int) (v4 : List Str) (v5 : Int) (v6 : Int) (r0 : List (Str × Bool)) (r1 : List (Str × Bool)) (r2 : List (Str × Bool)) (v10 : Str), run (lexer_Scan_m n) [.lq m [0, 1, 1, 0, 0, 1, 1, 0, 0, 1, 0, 1, 1, 1], .blk 4, .blk 3, .cut [1, 1, 1, 0, 0, 1, 0, 1, 1, 1], .at [1, 1, 1, 0, 0, 1, 0, 1, 1, 1], .lp m3 [0, 1, 0, 1, 1, 1], .blk 2, .cut [1, 1, 1, 1], .at [1, 1, 1, 1]] ⟨[.str (sb v0), .any, .any, .any, .any, .any, .any, .ptr 3 0, .any, .any, .any, .any, .any, .any, .any, .any, .any, .any, .any, .any, .any, .any, .any, .any, .any, .any, .any, .any, .any, .any, .any, .any, .any, .any, .any, .any, .any, .any, .any, .any, .any, .any, .lst false 1 (mp sscell v1), .int .i64 v2, .int .i64 v3, .any, .any, .any, .lst false 1 (mp scell v4), .int .i64 v5, .int .i64 v6, .any, .any, .any, .any, .any, .any, .any, .any, .any, .any, .any, .any, .any, .any, .any, .any, .any, .any, .any, .any, .any, .any, .any, .any, .any, .any, .any, .any, .any, .any, .any, .any, .any, .any, .any, .any, .any, .any, .any, .any, .any, .any, .any, .any, .any, .any, .any, .any, .any, .any, .any, .any, .any, .any, .any, .any, .any, .any, .any, .any, .any, .any, .any, .any, .any, .any, .any, .any, .any, .any, .any, .any, .any, .any, .any, .any, .any], [.map (mp mcB r0), .map (mp mcB r1), .map (mp mcB r2), .cells [.str (sb v10), .int .i64 0, .map 0, .map 1, .map 2]], 0⟩ = lexer_Scan_l2 n X3 m v0 v1 v2 v3 v4 v5 v6 r0 r1 r2 v10)
  | 0 => by intros; exact run_lq_zero
  | m + 1 => by
    have ih := lexer_Scan_l2_eq n m3 X3 h3 m
    intro v0 v1 v2 v3 v4 v5 v6 r0 r1 r2 v10
    rw [run_lq_succ]
    exact (lexer_Scan_b2 n).2 m3 X3 m _ h3 ih v0 v1 v2 v3 v4 v5 v6 r0 r1 r2 v10
noncomputable def lexer_Scan_b3 (n : Nat) : { B : (Str → (List (List Str)) → Int → Int → (List (Str × Bool)) → (List (Str × Bool)) → (List (Str × Bool)) → Str → Option ((List Token) × Int × Int)) → Str → (List (List Str)) → Int → Int → (List (Str × Bool)) → (List (Str × Bool)) → (List (Str × Bool)) → Str → Option ((List Token) × Int × Int) // ∀ m X0, (∀ (v0 : Str) (v1 : List (List Str)) (v2 : Int) (v3 : Int) (r0 : List (Str × Bool)) (r1 : List (Str × Bool)) (r2 : List (Str × Bool)) (v7 : Str), run (lexer_Scan_m n) [.lq m [0, 1, 0, 1, 1, 1], .blk 2, .cut [1, 1, 1, 1], .at [1, 1, 1, 1]] ⟨[.str (sb v0), .any, .any, .any, .any, .any, .any, .ptr 3 0, .any, .any, .any, .any, .any, .any, .any, .any, .any, .any, .any, .any, .any, .any, .any, .any, .any, .any, .any, .any, .any, .any, .any, .any, .any, .any, .any, .any, .any, .any, .any, .any, .any, .any, .lst false 1 (mp sscell v1), .int .i64 v2, .int .i64 v3, .any, .any, .any, .any, .any, .any, .any, .any, .any, .any, .any, .any, .any, .any, .any, .any, .any, .any, .any, .any, .any, .any, .any, .any, .any, .any, .any, .any, .any, .any, .any, .any, .any, .any, .any, .any, .any, .any, .any, .any, .any, .any, .any, .any, .any, .any, .any, .any, .any, .any, .any, .any, .any, .any, .any, .any, .any, .any, .any, .any, .any, .any, .any, .any, .any, .any, .any, .any, .any, .any, .any, .any, .any, .any, .any, .any, .any, .any, .any, .any, .any, .any, .any], [.map (mp mcB r0), .map (mp mcB r1), .map (mp mcB r2), .cells [.str (sb v7), .int .i64 0, .map 0, .map 1, .map 2]], 0⟩ = X0 v0 v1 v2 v3 r0 r1 r2 v7) → ∀ (v0 : Str) (v1 : List (List Str)) (v2 : Int) (v3 : Int) (r0 : List (Str × Bool)) (r1 : List (Str × Bool)) (r2 : List (Str × Bool)) (v7 : Str), run (lexer_Scan_m n) [.at [0, 0, 1, 0, 1, 1, 1], .lp m [0, 1, 0, 1, 1, 1], .blk 2, .cut [1, 1, 1, 1], .at [1, 1, 1, 1]] ⟨[.str (sb v0), .any, .any, .any, .any, .any, .any, .ptr 3 0, .any, .any, .any, .any, .any, .any, .any, .any, .any, .any, .any, .any, .any, .any, .any, .any, .any, .any, .any, .any, .any, .any, .any, .any, .any, .any, .any, .any, .any, .any, .any, .any, .any, .any, .lst false 1 (mp sscell v1), .int .i64 v2, .int .i64 v3, .any, .any, .any, .any, .any, .any, .any, .any, .any, .any, .any, .any, .any, .any, .any, .any, .any, .any, .any, .any, .any, .any, .any, .any, .any, .any, .any, .any, .any, .any, .any, .any, .any, .any, .any, .any, .any, .any, .any, .any, .any, .any, .any, .any, .any, .any, .any, .any, .any, .any, .any, .any, .any, .any, .any, .any, .any, .any, .any, .any, .any, .any, .any, .any, .any, .any, .any, .any, .any, .any, .any, .any, .any, .any, .any, .any, .any, .any, .any, .any, .any, .any, .any], [.map (mp mcB r0), .map (mp mcB r1), .map (mp mcB r2), .cells [.str (sb v7), .int .i64 0, .map 0, .map 1, .map 2]], 0⟩ = B X0 v0 v1 v2 v3 r0 r1 r2 v7 } := by
  apply Subtype.mk
  intro m X0 ih v0 v1 v2 v3 r0 r1 r2 v7
  simp (config := { maxSteps := 100000000 }) only [go_sem, Nat.reduceAdd, Nat.reduceSub, Nat.reduceLeDiff, Nat.reduceEqDiff, Nat.reduceBEq, Nat.reduceMul, Nat.reduceLT, Int.reduceLE, Int.reduceLT, Int.reduceToNat, Int.reduceBEq, Int.reduceEq, lexer_Scan_f, lexer_Scan_c, Tryd.f13, Option.getD_some, mixed, lexer_scanner_skip_os, lexer_scanner_skip_o1, lexer_scanner_symbol_os, lexer_scanner_symbol_o1, lexer_scanner_symbol_rs, lexer_scanner_word_os, lexer_scanner_word_o1, lexer_scanner_word_rs, lexer_scanner_number_os, lexer_scanner_number_o1, lexer_scanner_number_rs, lexer_scanner_quoted_os, lexer_scanner_quoted_o1, lexer_scanner_quoted_rs, lexer_Scan_d, lexer_Scan_o, lexer_Scan_n1, lexer_Scan_n2, lexer_Scan_n3, lexer_Scan_n4, lexer_Scan_l1_eq n, lexer_Scan_l2_eq n m X0 ih, ih]
  exact rfl
noncomputable def lexer_Scan_l3 (n : Nat) : Nat → Str → (List (List Str)) → Int → Int → (List (Str × Bool)) → (List (Str × Bool)) → (List (Str × Bool)) → Str → Option ((List Token) × Int × Int)
  | 0, _, _, _, _, _, _, _, _ => none
  | m + 1, v0, v1, v2, v3, r0, r1, r2, v7 => (lexer_Scan_b3 n).1 (lexer_Scan_l3 n m) v0 v1 v2 v3 r0 r1 r2 v7
theorem lexer_Scan_l3_eq (n : Nat) : ∀ (m : Nat), (∀ (v0 : Str) (v1 : List (List Str)) (v2 : Int) (v3 : Int) (r0 : List (Str × Bool)) (r1 : List (Str × Bool)) (r2 : List (Str × Bool)) (v7 : Str), run (lexer_Scan_m n) [.lq m [0, 1, 0, 1, 1, 1], .blk 2, .cut [1, 1, 1, 1], .at [1, 1, 1, 1]] ⟨[.str (sb v0), .any, .any, .any, .any, .any, .any, .ptr 3 0, .any, .any, .any, .any, .any, .any, .any, .any, .any, .any, .any, .any, .any, .any, .any, .any, .any, .any, .any, .any, .any, .any, .any, .any, .any, .any, .any, .any, .any, .any, .any, .any, .any, .any, .lst false 1 (mp sscell v1), .int .i64 v2, .int .i64 v3, .any, .any, .any, .any, .any, .any, .any, .any, .any, .any, .any, .any, .any, .any, .any, .any, .any, .any, .any, .any, .any, .any, .any, .any, .any, .any, .any, .any, .any, .any, .any, .any, .any, .any, .any, .any, .any, .any, .any, .any, .any, .any, .any, .any, .any, .any, .any, .any, .any, .any, .any, .any, .any, .any, .any, .any, .any, .any, .any, .any, .any, .any, .any, .any, .any, .any, .any, .any, .any, .any, .any, .any, .any, .any, .any, .any, .any, .any, .any, .any, .any, .any, .any], [.map (mp mcB r0), .map (mp mcB r1), .map (mp mcB r2), .cells [.str (sb v7), .int .i64 0, .map 0, .map 1, .map 2]], 0⟩ = lexer_Scan_l3 n m v0 v1 v2 v3 r0 r1 r2 v7)
  | 0 => by intros; exact run_lq_zero
  | m + 1 => by
    have ih := lexer_Scan_l3_eq n m
    intro v0 v1 v2 v3 r0 r1 r2 v7
    rw [run_lq_succ]
    exact (lexer_Scan_b3 n).2  m _  ih v0 v1 v2 v3 r0 r1 r2 v7
noncomputable def lexer_Scan_b4 (n : Nat) : { B : (Str → (List Str) → (List Str) → Int → Int → (List (Str × Bool)) → (List (Str × Bool)) → (List (Str × Bool)) → Str → Option ((List Token) × Int × Int)) → Str → (List Str) → (List Str) → Int → Int → (List (Str × Bool)) → (List (Str × Bool)) → (List (Str × Bool)) → Str → Option ((List Token) × Int × Int) // ∀ m X0, (∀ (v0 : Str) (v1 : List Str) (v2 : List Str) (v3 : Int) (v4 : Int) (r0 : List (Str × Bool)) (r1 : List (Str × Bool)) (r2 : List (Str × Bool)) (v8 : Str), run (lexer_Scan_m n) [.lq m [0, 1, 0, 1, 1], .blk 0, .cut [1, 1, 1], .at [1, 1, 1]] ⟨[.str (sb v0), .lst false 1 (mp scell v1), .any, .any, .any, .any, .any, .ptr 3 0, .any, .any, .any, .any, .any, .any, .any, .any, .any, .any, .any, .any, .any, .any, .any, .any, .any, .lst false 1 (mp scell v2), .int .i64 v3, .int .i64 v4, .any, .any, .any, .any, .any, .any, .any, .any, .any, .any, .any, .any, .any, .any, .any, .any, .any, .any, .any, .any, .any, .any, .any, .any, .any, .any, .any, .any, .any, .any, .any, .any, .any, .any, .any, .any, .any, .any, .any, .any, .any, .any, .any, .any, .any, .any, .any, .any, .any, .any, .any, .any, .any, .any, .any, .any, .any, .any, .any, .any, .any, .any, .any, .any, .any, .any, .any, .any, .any, .any, .any, .any, .any, .any, .any, .any, .any, .any, .any, .any, .any, .any, .any, .any, .any, .any, .any, .any, .any, .any, .any, .any, .any, .any, .any, .any, .any, .any, .any, .any], [.map (mp mcB r0), .map (mp mcB r1), .map (mp mcB r2), .cells [.str (sb v8), .int .i64 0, .map 0, .map 1, .map 2]], 0⟩ = X0 v0 v1 v2 v3 v4 r0 r1 r2 v8) → ∀ (v0 : Str) (v1 : List Str) (v2 : List Str) (v3 : Int) (v4 : Int) (r0 : List (Str × Bool)) (r1 : List (Str × Bool)) (r2 : List (Str × Bool)) (v8 : Str), run (lexer_Scan_m n) [.at [0, 0, 1, 0, 1, 1], .lp m [0, 1, 0, 1, 1], .blk 0, .cut [1, 1, 1], .at [1, 1, 1]] ⟨[.str (sb v0), .lst false 1 (mp scell v1), .any, .any, .any, .any, .any, .ptr 3 0, .any, .any, .any, .any, .any, .any, .any, .any, .any, .any, .any, .any, .any, .any, .any, .any, .any, .lst false 1 (mp scell v2), .int .i64 v3, .int .i64 v4, .any, .any, .any, .any, .any, .any, .any, .any, .any, .any, .any, .any, .any, .any, .any, .any, .any, .any, .any, .any, .any, .any, .any, .any, .any, .any, .any, .any, .any, .any, .any, .any, .any, .any, .any, .any, .any, .any, .any, .any, .any, .any, .any, .any, .any, .any, .any, .any, .any, .any, .any, .any, .any, .any, .any, .any, .any, .any, .any, .any, .any, .any, .any, .any, .any, .any, .any, .any, .any, .any, .any, .any, .any, .any, .any, .any, .any, .any, .any, .any, .any, .any, .any, .any, .any, .any, .any, .any, .any, .any, .any, .any, .any, .any, .any, .any, .any, .any, .any, .any], [.map (mp mcB r0), .map (mp mcB r1), .map (mp mcB r2), .cells [.str (sb v8), .int .i64 0, .map 0, .map 1, .map 2]], 0⟩ = B X0 v0 v1 v2 v3 v4 r0 r1 r2 v8 } := by
  apply Subtype.mk
  intro m X0 ih v0 v1 v2 v3 v4 r0 r1 r2 v8
  simp (config := { maxSteps := 100000000 }) only [go_sem, Nat.reduceAdd, Nat.reduceSub, Nat.reduceLeDiff, Nat.reduceEqDiff, Nat.reduceBEq, Nat.reduceMul, Nat.reduceLT, Int.reduceLE, Int.reduceLT, Int.reduceToNat, Int.reduceBEq, Int.reduceEq, lexer_Scan_f, lexer_Scan_c, Tryd.f13, Option.getD_some, mixed, lexer_scanner_skip_os, lexer_scanner_skip_o1, lexer_scanner_symbol_os, lexer_scanner_symbol_o1, lexer_scanner_symbol_rs, lexer_scanner_word_os, lexer_scanner_word_o1, lexer_scanner_word_rs, lexer_scanner_number_os, lexer_scanner_number_o1, lexer_scanner_number_rs, lexer_scanner_quoted_os, lexer_scanner_quoted_o1, lexer_scanner_quoted_rs, lexer_Scan_d, lexer_Scan_o, lexer_Scan_n1, lexer_Scan_n2, lexer_Scan_n3, lexer_Scan_n4, lexer_Scan_l1_eq n, lexer_Scan_l3_eq n, ih]
  exact rfl
noncomputable def lexer_Scan_l4 (n : Nat) : Nat → Str → (List Str) → (List Str) → Int → Int → (List (Str × Bool)) → (List (Str × Bool)) → (List (Str × Bool)) → Str → Option ((List Token) × Int × Int)
  | 0, _, _, _, _, _, _, _, _, _ => none
  | m + 1, v0, v1, v2, v3, v4, r0, r1, r2, v8 => (lexer_Scan_b4 n).1 (lexer_Scan_l4 n m) v0 v1 v2 v3 v4 r0 r1 r2 v8
theorem lexer_Scan_l4_eq (n : Nat) : ∀ (m : Nat), (∀ (v0 : Str) (v1 : List Str) (v2 : List Str) (v3 : Int) (v4 : Int) (r0 : List (Str × Bool)) (r1 : List (Str × Bool)) (r2 : List (Str × Bool)) (v8 : Str), run (lexer_Scan_m n) [.lq m [0, 1, 0, 1, 1], .blk 0, .cut [1, 1, 1], .at [1, 1, 1]] ⟨[.str (sb v0), .lst false 1 (mp scell v1), .any, .any, .any, .any, .any, .ptr 3 0, .any, .any, .any, .any, .any, .any, .any, .any, .any, .any, .any, .any, .any, .any, .any, .any, .any, .lst false 1 (mp scell v2), .int .i64 v3, .int .i64 v4, .any, .any, .any, .any, .any, .any, .any, .any, .any, .any, .any, .any, .any, .any, .any, .any, .any, .any, .any, .any, .any, .any, .any, .any, .any, .any, .any, .any, .any, .any, .any, .any, .any, .any, .any, .any, .any, .any, .any, .any, .any, .any, .any, .any, .any, .any, .any, .any, .any, .any, .any, .any, .any, .any, .any, .any, .any, .any, .any, .any, .any, .any, .any, .any, .any, .any, .any, .any, .any, .any, .any, .any, .any, .any, .any, .any, .any, .any, .any, .any, .any, .any, .any, .any, .any, .any, .any, .any, .any, .any, .any, .any, .any, .any, .any, .any, .any, .any, .any, .any], [.map (mp mcB r0), .map (mp mcB r1), .map (mp mcB r2), .cells [.str (sb v8), .int .i64 0, .map 0, .map 1, .map 2]], 0⟩ = lexer_Scan_l4 n m v0 v1 v2 v3 v4 r0 r1 r2 v8)
  | 0 => by intros; exact run_lq_zero
  | m + 1 => by
    have ih := lexer_Scan_l4_eq n m
    intro v0 v1 v2 v3 v4 r0 r1 r2 v8
    rw [run_lq_succ]
    exact (lexer_Scan_b4 n).2  m _  ih v0 v1 v2 v3 v4 r0 r1 r2 v8
noncomputable def lexer_Scan_e (n : Nat) : { B : Str → (List Str) → Option ((List Token) × Int × Int) // ∀ (a0 : Str) (a1 : (List Str)), run (lexer_Scan_m n) [.at []] { slots := [tyS.enc a0, (tyL rowS).enc a1] ++ List.replicate (128 - [tyS.enc a0, (tyL rowS).enc a1].length) .any, heap := [] } = B a0 a1 } := by
  apply Subtype.mk
  intro a0 a1
  simp (config := { maxSteps := 100000000 }) only [go_sem, Nat.reduceAdd, Nat.reduceSub, Nat.reduceLeDiff, Nat.reduceEqDiff, Nat.reduceBEq, Nat.reduceMul, Nat.reduceLT, Int.reduceLE, Int.reduceLT, Int.reduceToNat, Int.reduceBEq, Int.reduceEq, lexer_Scan_f, lexer_Scan_c, Tryd.f13, Option.getD_some, mixed, lexer_scanner_skip_os, lexer_scanner_skip_o1, lexer_scanner_symbol_os, lexer_scanner_symbol_o1, lexer_scanner_symbol_rs, lexer_scanner_word_os, lexer_scanner_word_o1, lexer_scanner_word_rs, lexer_scanner_number_os, lexer_scanner_number_o1, lexer_scanner_number_rs, lexer_scanner_quoted_os, lexer_scanner_quoted_o1, lexer_scanner_quoted_rs, lexer_Scan_d, lexer_Scan_o, lexer_Scan_n1, lexer_Scan_n2, lexer_Scan_n3, lexer_Scan_n4, lexer_Scan_l1_eq n, lexer_Scan_l3_eq n, lexer_Scan_l4_eq n]
  exact rfl
noncomputable def lexer_Scan : Nat → Str → (List Str) → Option ((List Token) × Int × Int)
  | 0, _, _ => none
  | n + 1, a0, a1 => (lexer_Scan_e n).1 a0 a1
theorem lexer_Scan_ok : ∀ (n : Nat) (a0 : Str) (a1 : (List Str)) (r : ((List Token) × Int × Int)), lexer_Scan n a0 a1 = some r → FnC Tryd.prog 13 [tyS.enc a0, (tyL rowS).enc a1] (fun v => v = (ty3 (tyL Token.row) (tyI .i64) (tyI .i64)).enc r)
  | 0, _, _, _, h => by cases h
  | n + 1, a0, a1, r, h => by
    exact fnC_run (M := lexer_Scan_m n) ⟨(tabA_cons_ok (ent1_ok (lexer_Symbol_ok n)) (tabA_cons_ok (entX_ok (fun b a r h => (lexer_keywords_ok n)  r h)) (tabA_cons_ok (ent0_ok (lexer_fixed_ok n)) (tabA_cons_ok (entX_ok (fun b a r h => (lexer_scanner_symbol_ok n) b.1.1 b.1.2.1 b.2.1 b.2.2.1 b.2.2.2.1 r h)) (tabA_cons_ok (entX_ok (fun b a r h => (lexer_scanner_word_ok n) b.1.1 b.1.2.1 b.2.1 b.2.2.1 b.2.2.2.1 r h)) (tabA_cons_ok (entX_ok (fun b a r h => (lexer_scanner_number_ok n) b.1.1 b.1.2.1 b.2.1 b.2.2.1 b.2.2.2.1 r h)) (tabA_cons_ok (entX_ok (fun b a r h => (lexer_scanner_quoted_ok n) b.1.1 b.1.2.1 b.2.1 b.2.2.1 b.2.2.2.1 r h)) (tabA_cons_ok (entX_ok (fun b a r h => (lexer_scanner_skip_ok n) b.1.1 b.1.2.1 b.2.1 b.2.2.1 b.2.2.2.1 r h)) (tabA_cons_ok (ent1_ok (lexer_class_ok n)) tabA_nil_ok))))))))), tabD_nil_ok, tabN_ok _, tabF_ok _, noY_ok, noE_ok⟩ Tryd.func13 rfl rfl ⟨tyS.nb 0 _, (tyL rowS).nb 0 _, trivial⟩ Tryd.ntmps13 Tryd.results13 (fun σ hs => outR_ok (P := Tryd.prog) (rs := [.tmp 4, .tmp 5, .tmp 6]) (t := (ty3 (tyL Token.row) (tyI .i64) (tyI .i64))) (σ := σ) (r := r) hs) (((lexer_Scan_e n).2 a0 a1).trans h)

noncomputable def ref24_Scan_n1 : Nrm := ⟨[(8, 3, true)], [], [zK, zT (tyL rowS), zA, zA, zA, zA, zA, zA, zK, zK, zA, zA, zA, zA, zA, zA, zA, zA, zA, zA, zA, zA, zA, zA, zA, zA, zA, zA, zA, zA, zA, zA, zA, zA, zA, zA, zA, zA, zA, zA, zA, zA, zA, zA, zA, zA, zA, zA, zA, zA, zA, zA, zA, zA, zA, zA, zA, zA, zA, zA, zA, zA, zA, zA, zA, zA], [oA Token.row], none⟩
noncomputable def ref24_Scan_n2 : Nrm := ⟨[], [], [zK, zT (tyL rowS), zA, zA, zA, zA, zA, zK, zA, zA, zA, zA, zA, zA, zA, zA, zA, zA, zA, zA, zA, zA, zA, zA, zA, zA, zA, zA, zA, zA, zA, zA, zA, zA, zA, zA, zA, zA, zA, zA, zA, zA, zA, zA, zA, zA, zA, zA, zA, zA, zA, zA, zA, zA, zA, zA, zA, zA, zA, zA, zA, zA, zA, zA, zA, zA], [], none⟩
noncomputable def ref24_Scan_m (n : Nat) : Mach ((List Token) × Int × Int) where
  body := (Tryd.f14.body).getD .skip
  P := Tryd.prog
  cl := tabA [(19, ent1 tyS tyB (ref24_Symbol n)), (29, ent2 tyS (tyI .i64) (tyI .i64) (ref24_skip n)), (30, ent3 tyS (tyI .i64) (tyL rowS) (ty3 (tyI .i64) (tyI .i64) (tyI .i64)) (ref24_one n))]
  cd := tabD []
  nrm := tabN [([0, 1, 0, 1, 1, 1, 1], ref24_Scan_n1), ([0, 1, 0, 1], ref24_Scan_n2)]
  cut := tabF []
  n := n
  out := outR Tryd.prog [.tmp 4, .tmp 5, .tmp 6] (ty3 (tyL Token.row) (tyI .i64) (tyI .i64))
theorem ref24_Scan_f (n : Nat) : (ref24_Scan_m n).P = Tryd.prog ∧ (ref24_Scan_m n).cl = tabA [(19, ent1 tyS tyB (ref24_Symbol n)), (29, ent2 tyS (tyI .i64) (tyI .i64) (ref24_skip n)), (30, ent3 tyS (tyI .i64) (tyL rowS) (ty3 (tyI .i64) (tyI .i64) (tyI .i64)) (ref24_one n))] ∧ (ref24_Scan_m n).cd = tabD [] ∧ (ref24_Scan_m n).nrm = tabN [([0, 1, 0, 1, 1, 1, 1], ref24_Scan_n1), ([0, 1, 0, 1], ref24_Scan_n2)] ∧ (ref24_Scan_m n).cut = tabF [] ∧ (ref24_Scan_m n).n = n ∧ (ref24_Scan_m n).out = outR Tryd.prog [.tmp 4, .tmp 5, .tmp 6] (ty3 (tyL Token.row) (tyI .i64) (tyI .i64)) := ⟨rfl, rfl, rfl, rfl, rfl, rfl, rfl⟩
theorem ref24_Scan_c (n : Nat) : (ref24_Scan_m n).body = (Tryd.f14.body).getD .skip := rfl
noncomputable def ref24_Scan_b1 (n : Nat) : { B : (Str → (List Str) → Int → (List Token) → Option ((List Token) × Int × Int)) → Str → (List Str) → Int → (List Token) → Option ((List Token) × Int × Int) // ∀ m X0, (∀ (v0 : Str) (v1 : List Str) (v2 : Int) (r0 : List Token) (c0 : Nat), c0 = r0.length → run (ref24_Scan_m n) [.lq m [0, 1, 0, 1, 1, 1, 1], .blk 2, .cut [1, 1, 1, 1, 1], .at [1, 1, 1, 1, 1]] ⟨[.str (sb v0), .lst false 1 (mp scell v1), .any, .any, .any, .any, .any, .any, .acc 0 c0, .int .i64 v2, .any, .any, .any, .any, .any, .any, .any, .any, .any, .any, .any, .any, .any, .any, .any, .any, .any, .any, .any, .any, .any, .any, .any, .any, .any, .any, .any, .any, .any, .any, .any, .any, .any, .any, .any, .any, .any, .any, .any, .any, .any, .any, .any, .any, .any, .any, .any, .any, .any, .any, .any, .any, .any, .any, .any, .any], [.acc true 3 (mp Token.cells r0)], 0⟩ = X0 v0 v1 v2 r0) → ∀ (v0 : Str) (v1 : List Str) (v2 : Int) (r0 : List Token), run (ref24_Scan_m n) [.at [0, 0, 1, 0, 1, 1, 1, 1], .lp m [0, 1, 0, 1, 1, 1, 1], .blk 2, .cut [1, 1, 1, 1, 1], .at [1, 1, 1, 1, 1]] ⟨[.str (sb v0), .lst false 1 (mp scell v1), .any, .any, .any, .any, .any, .any, .acc 0 r0.length, .int .i64 v2, .any, .any, .any, .any, .any, .any, .any, .any, .any, .any, .any, .any, .any, .any, .any, .any, .any, .any, .any, .any, .any, .any, .any, .any, .any, .any, .any, .any, .any, .any, .any, .any, .any, .any, .any, .any, .any, .any, .any, .any, .any, .any, .any, .any, .any, .any, .any, .any, .any, .any, .any, .any, .any, .any, .any, .any], [.acc true 3 (mp Token.cells r0)], 0⟩ = B X0 v0 v1 v2 r0 } := by
  apply Subtype.mk
  intro m X0 ih v0 v1 v2 r0
  simp (config := { maxSteps := 100000000 }) only [go_sem, Nat.reduceAdd, Nat.reduceSub, Nat.reduceLeDiff, Nat.reduceEqDiff, Nat.reduceBEq, Nat.reduceMul, Nat.reduceLT, Int.reduceLE, Int.reduceLT, Int.reduceToNat, Int.reduceBEq, Int.reduceEq, ref24_Scan_f, ref24_Scan_c, Tryd.f14, Option.getD_some, mixed, ref24_Scan_n1, ref24_Scan_n2, ih]
  exact rfl
noncomputable def ref24_Scan_l1 (n : Nat) : Nat → Str → (List Str) → Int → (List Token) → Option ((List Token) × Int × Int)
  | 0, _, _, _, _ => none
  | m + 1, v0, v1, v2, r0 => (ref24_Scan_b1 n).1 (ref24_Scan_l1 n m) v0 v1 v2 r0
theorem ref24_Scan_l1_eq (n : Nat) : ∀ (m : Nat), (∀ (v0 : Str) (v1 : List Str) (v2 : Int) (r0 : List Token) (c0 : Nat), c0 = r0.length → run (ref24_Scan_m n) [.lq m [0, 1, 0, 1, 1, 1, 1], .blk 2, .cut [1, 1, 1, 1, 1], .at [1, 1, 1, 1, 1]] ⟨[.str (sb v0), .lst false 1 (mp scell v1), .any, .any, .any, .any, .any, .any, .acc 0 c0, .int .i64 v2, .any, .any, .any, .any, .any, .any, .any, .any, .any, .any, .any, .any, .any, .any, .any, .any, .any, .any, .any, .any, .any, .any, .any, .any, .any, .any, .any, .any, .any, .any, .any, .any, .any, .any, .any, .any, .any, .any, .any, .any, .any, .any, .any, .any, .any, .any, .any, .any, .any, .any, .any, .any, .any, .any, .any, .any], [.acc true 3 (mp Token.cells r0)], 0⟩ = ref24_Scan_l1 n m v0 v1 v2 r0)
  | 0 => by intros; exact run_lq_zero
  | m + 1 => by
    have ih := ref24_Scan_l1_eq n m
    intro v0 v1 v2 r0 c0 ec0
    subst ec0
    rw [run_lq_succ]
    exact (ref24_Scan_b1 n).2  m _  ih v0 v1 v2 r0
noncomputable def ref24_Scan_b2 (n : Nat) : { B : (Str → (List Str) → Int → Option ((List Token) × Int × Int)) → Str → (List Str) → Int → Option ((List Token) × Int × Int) // ∀ m X0, (∀ (v0 : Str) (v1 : List Str) (v2 : Int), run (ref24_Scan_m n) [.lq m [0, 1, 0, 1], .blk 0, .cut [1, 1], .at [1, 1]] ⟨[.str (sb v0), .lst false 1 (mp scell v1), .any, .any, .any, .any, .any, .int .i64 v2, .any, .any, .any, .any, .any, .any, .any, .any, .any, .any, .any, .any, .any, .any, .any, .any, .any, .any, .any, .any, .any, .any, .any, .any, .any, .any, .any, .any, .any, .any, .any, .any, .any, .any, .any, .any, .any, .any, .any, .any, .any, .any, .any, .any, .any, .any, .any, .any, .any, .any, .any, .any, .any, .any, .any, .any, .any, .any], [], 0⟩ = X0 v0 v1 v2) → ∀ (v0 : Str) (v1 : List Str) (v2 : Int), run (ref24_Scan_m n) [.at [0, 0, 1, 0, 1], .lp m [0, 1, 0, 1], .blk 0, .cut [1, 1], .at [1, 1]] ⟨[.str (sb v0), .lst false 1 (mp scell v1), .any, .any, .any, .any, .any, .int .i64 v2, .any, .any, .any, .any, .any, .any, .any, .any, .any, .any, .any, .any, .any, .any, .any, .any, .any, .any, .any, .any, .any, .any, .any, .any, .any, .any, .any, .any, .any, .any, .any, .any, .any, .any, .any, .any, .any, .any, .any, .any, .any, .any, .any, .any, .any, .any, .any, .any, .any, .any, .any, .any, .any, .any, .any, .any, .any, .any], [], 0⟩ = B X0 v0 v1 v2 } := by
  apply Subtype.mk
  intro m X0 ih v0 v1 v2
  simp (config := { maxSteps := 100000000 }) only [go_sem, Nat.reduceAdd, Nat.reduceSub, Nat.reduceLeDiff, Nat.reduceEqDiff, Nat.reduceBEq, Nat.reduceMul, Nat.reduceLT, Int.reduceLE, Int.reduceLT, Int.reduceToNat, Int.reduceBEq, Int.reduceEq, ref24_Scan_f, ref24_Scan_c, Tryd.f14, Option.getD_some, mixed, ref24_Scan_n1, ref24_Scan_n2, ref24_Scan_l1_eq n, ih]
  exact rfl
noncomputable def ref24_Scan_l2 (n : Nat) : Nat → Str → (List Str) → Int → Option ((List Token) × Int × Int)
  | 0, _, _, _ => none
  | m + 1, v0, v1, v2 => (ref24_Scan_b2 n).1 (ref24_Scan_l2 n m) v0 v1 v2
theorem ref24_Scan_l2_eq (n : Nat) : ∀ (m : Nat), (∀ (v0 : Str) (v1 : List Str) (v2 : Int), run (ref24_Scan_m n) [.lq m [0, 1, 0, 1], .blk 0, .cut [1, 1], .at [1, 1]] ⟨[.str (sb v0), .lst false 1 (mp scell v1), .any, .any, .any, .any, .any, .int .i64 v2, .any, .any, .any, .any, .any, .any, .any, .any, .any, .any, .any, .any, .any, .any, .any, .any, .any, .any, .any, .any, .any, .any, .any, .any, .any, .any, .any, .any, .any, .any, .any, .any, .any, .any, .any, .any, .any, .any, .any, .any, .any, .any, .any, .any, .any, .any, .any, .any, .any, .any, .any, .any, .any, .any, .any, .any, .any, .any], [], 0⟩ = ref24_Scan_l2 n m v0 v1 v2)
  | 0 => by intros; exact run_lq_zero
  | m + 1 => by
    have ih := ref24_Scan_l2_eq n m
    intro v0 v1 v2
    rw [run_lq_succ]
    exact (ref24_Scan_b2 n).2  m _  ih v0 v1 v2
noncomputable def ref24_Scan_e (n : Nat) : { B : Str → (List Str) → Option ((List Token) × Int × Int) // ∀ (a0 : Str) (a1 : (List Str)), run (ref24_Scan_m n) [.at []] { slots := [tyS.enc a0, (tyL rowS).enc a1] ++ List.replicate (66 - [tyS.enc a0, (tyL rowS).enc a1].length) .any, heap := [] } = B a0 a1 } := by
  apply Subtype.mk
  intro a0 a1
  simp (config := { maxSteps := 100000000 }) only [go_sem, Nat.reduceAdd, Nat.reduceSub, Nat.reduceLeDiff, Nat.reduceEqDiff, Nat.reduceBEq, Nat.reduceMul, Nat.reduceLT, Int.reduceLE, Int.reduceLT, Int.reduceToNat, Int.reduceBEq, Int.reduceEq, ref24_Scan_f, ref24_Scan_c, Tryd.f14, Option.getD_some, mixed, ref24_Scan_n1, ref24_Scan_n2, ref24_Scan_l1_eq n, ref24_Scan_l2_eq n]
  exact rfl
noncomputable def ref24_Scan : Nat → Str → (List Str) → Option ((List Token) × Int × Int)
  | 0, _, _ => none
  | n + 1, a0, a1 => (ref24_Scan_e n).1 a0 a1
theorem ref24_Scan_ok : ∀ (n : Nat) (a0 : Str) (a1 : (List Str)) (r : ((List Token) × Int × Int)), ref24_Scan n a0 a1 = some r → FnC Tryd.prog 14 [tyS.enc a0, (tyL rowS).enc a1] (fun v => v = (ty3 (tyL Token.row) (tyI .i64) (tyI .i64)).enc r)
  | 0, _, _, _, h => by cases h
  | n + 1, a0, a1, r, h => by
    exact fnC_run (M := ref24_Scan_m n) ⟨(tabA_cons_ok (ent1_ok (ref24_Symbol_ok n)) (tabA_cons_ok (ent2_ok (ref24_skip_ok n)) (tabA_cons_ok (ent3_ok (ref24_one_ok n)) tabA_nil_ok))), tabD_nil_ok, tabN_ok _, tabF_ok _, noY_ok, noE_ok⟩ Tryd.func14 rfl rfl ⟨tyS.nb 0 _, (tyL rowS).nb 0 _, trivial⟩ Tryd.ntmps14 Tryd.results14 (fun σ hs => outR_ok (P := Tryd.prog) (rs := [.tmp 4, .tmp 5, .tmp 6]) (t := (ty3 (tyL Token.row) (tyI .i64) (tyI .i64))) (σ := σ) (r := r) hs) (((ref24_Scan_e n).2 a0 a1).trans h)
end Go.Abs
namespace Go.Abs
open Go.Proofs
set_option maxRecDepth 100000
set_option maxHeartbeats 4000000
set_option linter.unusedSimpArgs false
set_option linter.unusedVariables false
noncomputable def law24_awake_n1 : Nrm := ⟨[], [], [zA, zT (tyL Token.row), zA, zA, zT (tyL rowS), zK, zA, zA, zA, zA, zA, zA, zA, zA, zA, zA, zA, zA, zA, zA, zA, zA, zA, zA, zA, zA, zA, zA, zA, zA, zA, zA, zA, zA, zA, zA, zA, zA, zA, zA, zA, zA, zA, zA, zA, zA, zA, zA, zA, zA, zA, zA, zA, zA, zA, zA, zA, zA, zA, zA, zA, zA, zA, zA, zA, zA, zA, zA, zA, zA, zA, zA, zA, zA, zA, zA, zA, zA, zA, zA, zA, zA, zA, zA, zA, zA, zA, zA, zA, zA, zA, zA, zA], [], none⟩
noncomputable def law24_awake_m (n : Nat) : Mach Bool where
  body := (Tryd.f12.body).getD .skip
  P := Tryd.prog
  cl := tabA [(13, ent2 tyS (tyL rowS) (ty3 (tyL Token.row) (tyI .i64) (tyI .i64)) (lexer_Scan n))]
  cd := tabD []
  nrm := tabN [([0, 1, 0, 1, 1, 1, 1], law24_awake_n1)]
  cut := tabF []
  n := n
  out := outR Tryd.prog [.tmp 0] tyB
  isE := tabI []
theorem law24_awake_f (n : Nat) : (law24_awake_m n).P = Tryd.prog ∧ (law24_awake_m n).cl = tabA [(13, ent2 tyS (tyL rowS) (ty3 (tyL Token.row) (tyI .i64) (tyI .i64)) (lexer_Scan n))] ∧ (law24_awake_m n).cd = tabD [] ∧ (law24_awake_m n).nrm = tabN [([0, 1, 0, 1, 1, 1, 1], law24_awake_n1)] ∧ (law24_awake_m n).cut = tabF [] ∧ (law24_awake_m n).n = n ∧ (law24_awake_m n).out = outR Tryd.prog [.tmp 0] tyB ∧ (law24_awake_m n).isE = tabI [] := ⟨rfl, rfl, rfl, rfl, rfl, rfl, rfl, rfl⟩
theorem law24_awake_c (n : Nat) : (law24_awake_m n).body = (Tryd.f12.body).getD .skip := rfl
theorem law24_awake_d (n : Nat) : drawP (law24_awake_m n) [0, 0, 0, 1, 0, 0, 1, 0, 1, 1, 1, 1] = true := by kernel_rfl
noncomputable def law24_awake_b1 (n : Nat) : { B : ((List Token) → (List Str) → Int → Option Bool) → (List Token) → (List Str) → Int → Option Bool // ∀ m X0, (∀ (v0 : List Token) (v1 : List Str) (v2 : Int), run (law24_awake_m n) [.lq m [0, 1, 0, 1, 1, 1, 1], .blk 0, .cut [1, 1, 1, 1, 1], .at [1, 1, 1, 1, 1]] ⟨[.any, .lst false 3 (mp Token.cells v0), .any, .any, .lst false 1 (mp scell v1), .int .i64 v2, .any, .any, .any, .any, .any, .any, .any, .any, .any, .any, .any, .any, .any, .any, .any, .any, .any, .any, .any, .any, .any, .any, .any, .any, .any, .any, .any, .any, .any, .any, .any, .any, .any, .any, .any, .any, .any, .any, .any, .any, .any, .any, .any, .any, .any, .any, .any, .any, .any, .any, .any, .any, .any, .any, .any, .any, .any, .any, .any, .any, .any, .any, .any, .any, .any, .any, .any, .any, .any, .any, .any, .any, .any, .any, .any, .any, .any, .any, .any, .any, .any, .any, .any, .any, .any, .any, .any], [], 0⟩ = X0 v0 v1 v2) → ∀ (v0 : List Token) (v1 : List Str) (v2 : Int), run (law24_awake_m n) [.at [0, 0, 1, 0, 1, 1, 1, 1], .lp m [0, 1, 0, 1, 1, 1, 1], .blk 0, .cut [1, 1, 1, 1, 1], .at [1, 1, 1, 1, 1]] ⟨[.any, .lst false 3 (mp Token.cells v0), .any, .any, .lst false 1 (mp scell v1), .int .i64 v2, .any, .any, .any, .any, .any, .any, .any, .any, .any, .any, .any, .any, .any, .any, .any, .any, .any, .any, .any, .any, .any, .any, .any, .any, .any, .any, .any, .any, .any, .any, .any, .any, .any, .any, .any, .any, .any, .any, .any, .any, .any, .any, .any, .any, .any, .any, .any, .any, .any, .any, .any, .any, .any, .any, .any, .any, .any, .any, .any, .any, .any, .any, .any, .any, .any, .any, .any, .any, .any, .any, .any, .any, .any, .any, .any, .any, .any, .any, .any, .any, .any, .any, .any, .any, .any, .any, .any], [], 0⟩ = B X0 v0 v1 v2 } := by
  apply Subtype.mk
  intro m X0 ih v0 v1 v2
  simp (config := { maxSteps := 100000000 }) only [go_sem, Nat.reduceAdd, Nat.reduceSub, Nat.reduceLeDiff, Nat.reduceEqDiff, Nat.reduceBEq, Nat.reduceMul, Nat.reduceLT, Int.reduceLE, Int.reduceLT, Int.reduceToNat, Int.reduceBEq, Int.reduceEq, law24_awake_f, law24_awake_c, Tryd.f12, Option.getD_some, mixed, law24_awake_d, law24_awake_n1, ih]
  exact rfl
noncomputable def law24_awake_l1 (n : Nat) : Nat → (List Token) → (List Str) → Int → Option Bool
  | 0, _, _, _ => none
  | m + 1, v0, v1, v2 => (law24_awake_b1 n).1 (law24_awake_l1 n m) v0 v1 v2
theorem law24_awake_l1_eq (n : Nat) : ∀ (m : Nat), (∀ (v0 : List Token) (v1 : List Str) (v2 : Int), run (law24_awake_m n) [.lq m [0, 1, 0, 1, 1, 1, 1], .blk 0, .cut [1, 1, 1, 1, 1], .at [1, 1, 1, 1, 1]] ⟨[.any, .lst false 3 (mp Token.cells v0), .any, .any, .lst false 1 (mp scell v1), .int .i64 v2, .any, .any, .any, .any, .any, .any, .any, .any, .any, .any, .any, .any, .any, .any, .any, .any, .any, .any, .any, .any, .any, .any, .any, .any, .any, .any, .any, .any, .any, .any, .any, .any, .any, .any, .any, .any, .any, .any, .any, .any, .any, .any, .any, .any, .any, .any, .any, .any, .any, .any, .any, .any, .any, .any, .any, .any, .any, .any, .any, .any, .any, .any, .any, .any, .any, .any, .any, .any, .any, .any, .any, .any, .any, .any, .any, .any, .any, .any, .any, .any, .any, .any, .any, .any, .any, .any, .any], [], 0⟩ = law24_awake_l1 n m v0 v1 v2)
  | 0 => by intros; exact run_lq_zero
  | m + 1 => by
    have ih := law24_awake_l1_eq n m
    intro v0 v1 v2
    rw [run_lq_succ]
    exact (law24_awake_b1 n).2  m _  ih v0 v1 v2
noncomputable def law24_awake_e (n : Nat) : { B : Option Bool // run (law24_awake_m n) [.at []] { slots := ([] : List AV) ++ List.replicate (93 - ([] : List AV).length) .any, heap := [] } = B } := by
  apply Subtype.mk
  simp (config := { maxSteps := 100000000 }) only [go_sem, Nat.reduceAdd, Nat.reduceSub, Nat.reduceLeDiff, Nat.reduceEqDiff, Nat.reduceBEq, Nat.reduceMul, Nat.reduceLT, Int.reduceLE, Int.reduceLT, Int.reduceToNat, Int.reduceBEq, Int.reduceEq, law24_awake_f, law24_awake_c, Tryd.f12, Option.getD_some, mixed, law24_awake_d, law24_awake_n1, law24_awake_l1_eq n]
  exact rfl
noncomputable def law24_awake : Nat → Option Bool
  | 0 => none
  | n + 1 => (law24_awake_e n).1
theorem law24_awake_ok : ∀ (n : Nat) (r : Bool), law24_awake n = some r → FnC Tryd.prog 12 [] (fun v => v = tyB.enc r)
  | 0, _, h => by cases h
  | n + 1, r, h => by
    exact fnC_run (M := law24_awake_m n) ⟨(tabA_cons_ok (ent2_ok (lexer_Scan_ok n)) tabA_nil_ok), tabD_nil_ok, tabN_ok _, tabF_ok _, noY_ok, noE_ok⟩ Tryd.func12 rfl rfl trivial Tryd.ntmps12 Tryd.results12 (fun σ hs => outR_ok (P := Tryd.prog) (rs := [.tmp 0]) (t := tyB) (σ := σ) (r := r) hs) (((law24_awake_e n).2).trans h)
end Go.Abs
namespace Go.Abs
open Go.Proofs
set_option maxRecDepth 100000
set_option maxHeartbeats 4000000
set_option linter.unusedSimpArgs false
set_option linter.unusedVariables false
noncomputable def law24_LexerScans_m (n : Nat) : Mach Bool where
  body := (Tryd.f3.body).getD .skip
  P := Tryd.prog
  cl := tabA [(11, ent1 (tyL rowS) tyB (law24_few n)), (12, ent0  tyB (law24_awake n)), (13, ent2 tyS (tyL rowS) (ty3 (tyL Token.row) (tyI .i64) (tyI .i64)) (lexer_Scan n)), (14, ent2 tyS (tyL rowS) (ty3 (tyL Token.row) (tyI .i64) (tyI .i64)) (ref24_Scan n)), (15, ent3 (tyL Token.row) (tyL Token.row) tyB tyB (ref24_Same n))]
  cd := tabD []
  nrm := tabN []
  cut := tabF []
  n := n
  out := outR Tryd.prog [.tmp 4] tyB
theorem law24_LexerScans_f (n : Nat) : (law24_LexerScans_m n).P = Tryd.prog ∧ (law24_LexerScans_m n).cl = tabA [(11, ent1 (tyL rowS) tyB (law24_few n)), (12, ent0  tyB (law24_awake n)), (13, ent2 tyS (tyL rowS) (ty3 (tyL Token.row) (tyI .i64) (tyI .i64)) (lexer_Scan n)), (14, ent2 tyS (tyL rowS) (ty3 (tyL Token.row) (tyI .i64) (tyI .i64)) (ref24_Scan n)), (15, ent3 (tyL Token.row) (tyL Token.row) tyB tyB (ref24_Same n))] ∧ (law24_LexerScans_m n).cd = tabD [] ∧ (law24_LexerScans_m n).nrm = tabN [] ∧ (law24_LexerScans_m n).cut = tabF [] ∧ (law24_LexerScans_m n).n = n ∧ (law24_LexerScans_m n).out = outR Tryd.prog [.tmp 4] tyB := ⟨rfl, rfl, rfl, rfl, rfl, rfl, rfl⟩
theorem law24_LexerScans_c (n : Nat) : (law24_LexerScans_m n).body = (Tryd.f3.body).getD .skip := rfl
noncomputable def law24_LexerScans_e (n : Nat) : { B : Str → (List Str) → Option Bool // ∀ (a0 : Str) (a1 : (List Str)), run (law24_LexerScans_m n) [.at []] { slots := [tyS.enc a0, (tyL rowS).enc a1] ++ List.replicate (50 - [tyS.enc a0, (tyL rowS).enc a1].length) .any, heap := [] } = B a0 a1 } := by
  apply Subtype.mk
  intro a0 a1
  simp (config := { maxSteps := 100000000 }) only [go_sem, Nat.reduceAdd, Nat.reduceSub, Nat.reduceLeDiff, Nat.reduceEqDiff, Nat.reduceBEq, Nat.reduceMul, Nat.reduceLT, Int.reduceLE, Int.reduceLT, Int.reduceToNat, Int.reduceBEq, Int.reduceEq, law24_LexerScans_f, law24_LexerScans_c, Tryd.f3, Option.getD_some, mixed]
  exact rfl
noncomputable def law24_LexerScans : Nat → Str → (List Str) → Option Bool
  | 0, _, _ => none
  | n + 1, a0, a1 => (law24_LexerScans_e n).1 a0 a1
theorem law24_LexerScans_ok : ∀ (n : Nat) (a0 : Str) (a1 : (List Str)) (r : Bool), law24_LexerScans n a0 a1 = some r → FnC Tryd.prog 3 [tyS.enc a0, (tyL rowS).enc a1] (fun v => v = tyB.enc r)
  | 0, _, _, _, h => by cases h
  | n + 1, a0, a1, r, h => by
    exact fnC_run (M := law24_LexerScans_m n) ⟨(tabA_cons_ok (ent1_ok (law24_few_ok n)) (tabA_cons_ok (ent0_ok (law24_awake_ok n)) (tabA_cons_ok (ent2_ok (lexer_Scan_ok n)) (tabA_cons_ok (ent2_ok (ref24_Scan_ok n)) (tabA_cons_ok (ent3_ok (ref24_Same_ok n)) tabA_nil_ok))))), tabD_nil_ok, tabN_ok _, tabF_ok _, noY_ok, noE_ok⟩ Tryd.func3 rfl rfl ⟨tyS.nb 0 _, (tyL rowS).nb 0 _, trivial⟩ Tryd.ntmps3 Tryd.results3 (fun σ hs => outR_ok (P := Tryd.prog) (rs := [.tmp 4]) (t := tyB) (σ := σ) (r := r) hs) (((law24_LexerScans_e n).2 a0 a1).trans h)

noncomputable def law24_LexerWords_m (n : Nat) : Mach Bool where
  body := (Tryd.f4.body).getD .skip
  P := Tryd.prog
  cl := tabA [(12, ent0  tyB (law24_awake n)), (16, ent1 tyS tyB (lexer_Keyword n)), (17, ent1 tyS tyB (ref24_Keyword n)), (18, ent1 tyS tyB (lexer_Symbol n)), (19, ent1 tyS tyB (ref24_Symbol n))]
  cd := tabD []
  nrm := tabN []
  cut := tabF []
  n := n
  out := outR Tryd.prog [.tmp 2] tyB
theorem law24_LexerWords_f (n : Nat) : (law24_LexerWords_m n).P = Tryd.prog ∧ (law24_LexerWords_m n).cl = tabA [(12, ent0  tyB (law24_awake n)), (16, ent1 tyS tyB (lexer_Keyword n)), (17, ent1 tyS tyB (ref24_Keyword n)), (18, ent1 tyS tyB (lexer_Symbol n)), (19, ent1 tyS tyB (ref24_Symbol n))] ∧ (law24_LexerWords_m n).cd = tabD [] ∧ (law24_LexerWords_m n).nrm = tabN [] ∧ (law24_LexerWords_m n).cut = tabF [] ∧ (law24_LexerWords_m n).n = n ∧ (law24_LexerWords_m n).out = outR Tryd.prog [.tmp 2] tyB := ⟨rfl, rfl, rfl, rfl, rfl, rfl, rfl⟩
theorem law24_LexerWords_c (n : Nat) : (law24_LexerWords_m n).body = (Tryd.f4.body).getD .skip := rfl
noncomputable def law24_LexerWords_e (n : Nat) : { B : Str → Option Bool // ∀ (a0 : Str), run (law24_LexerWords_m n) [.at []] { slots := [tyS.enc a0] ++ List.replicate (22 - [tyS.enc a0].length) .any, heap := [] } = B a0 } := by
  apply Subtype.mk
  intro a0
  simp (config := { maxSteps := 100000000 }) only [go_sem, Nat.reduceAdd, Nat.reduceSub, Nat.reduceLeDiff, Nat.reduceEqDiff, Nat.reduceBEq, Nat.reduceMul, Nat.reduceLT, Int.reduceLE, Int.reduceLT, Int.reduceToNat, Int.reduceBEq, Int.reduceEq, law24_LexerWords_f, law24_LexerWords_c, Tryd.f4, Option.getD_some, mixed]
  exact rfl
noncomputable def law24_LexerWords : Nat → Str → Option Bool
  | 0, _ => none
  | n + 1, a0 => (law24_LexerWords_e n).1 a0
theorem law24_LexerWords_ok : ∀ (n : Nat) (a0 : Str) (r : Bool), law24_LexerWords n a0 = some r → FnC Tryd.prog 4 [tyS.enc a0] (fun v => v = tyB.enc r)
  | 0, _, _, h => by cases h
  | n + 1, a0, r, h => by
    exact fnC_run (M := law24_LexerWords_m n) ⟨(tabA_cons_ok (ent0_ok (law24_awake_ok n)) (tabA_cons_ok (ent1_ok (lexer_Keyword_ok n)) (tabA_cons_ok (ent1_ok (ref24_Keyword_ok n)) (tabA_cons_ok (ent1_ok (lexer_Symbol_ok n)) (tabA_cons_ok (ent1_ok (ref24_Symbol_ok n)) tabA_nil_ok))))), tabD_nil_ok, tabN_ok _, tabF_ok _, noY_ok, noE_ok⟩ Tryd.func4 rfl rfl ⟨tyS.nb 0 _, trivial⟩ Tryd.ntmps4 Tryd.results4 (fun σ hs => outR_ok (P := Tryd.prog) (rs := [.tmp 2]) (t := tyB) (σ := σ) (r := r) hs) (((law24_LexerWords_e n).2 a0).trans h)

noncomputable def law24_LexerCovers_n1 : Nrm := ⟨[], [], [zK, zA, zA, zA, zA, zT (tyL Token.row), zA, zA, zK, zK, zK, zK, zA, zA, zA, zA, zA, zA, zA, zA, zA, zA, zA, zA, zA, zA, zA, zA, zA, zA, zA, zA, zA, zA, zA, zA, zA, zA, zA, zA, zA, zA, zA, zA, zA, zA, zA, zA, zA, zA, zA, zA, zA, zA, zA, zA, zA, zA, zA, zA, zA, zA, zA, zA, zA, zA, zA, zA, zA, zA, zA, zA, zA, zA, zA, zA, zA, zA, zA, zA, zA, zA, zA, zA, zA, zA, zA, zA, zA, zA, zA, zA, zA, zA, zA, zA, zA, zA, zA, zA, zA, zA, zA, zA, zA, zA, zA, zA, zA, zA, zA, zA, zA, zA, zA, zA, zA, zA, zA, zA, zA, zA, zA, zA, zA, zA, zA, zA, zA, zA, zA, zA, zA, zA, zA, zA, zA, zA, zA, zA, zA, zA, zA, zA, zA, zA, zA, zA, zA, zA, zA, zA, zA, zA, zA, zA, zA, zA, zA, zA, zA, zA, zA, zA, zA, zA, zA, zA, zA, zA], [oT Token.cel], none⟩
noncomputable def law24_LexerCovers_n2 : Nrm := ⟨[], [], [zK, zA, zA, zA, zA, zT (tyL Token.row), zA, zA, zK, zK, zK, zA, zA, zA, zA, zA, zA, zA, zA, zA, zA, zA, zA, zA, zA, zA, zA, zA, zA, zA, zA, zA, zA, zA, zA, zA, zA, zA, zA, zA, zA, zA, zA, zA, zA, zA, zA, zA, zA, zA, zA, zA, zA, zA, zA, zA, zA, zA, zA, zA, zA, zA, zA, zA, zA, zA, zA, zA, zA, zA, zA, zA, zA, zA, zA, zA, zA, zA, zA, zA, zA, zA, zA, zA, zA, zA, zA, zA, zA, zA, zA, zA, zA, zA, zA, zA, zA, zA, zA, zA, zA, zA, zA, zA, zA, zA, zA, zA, zA, zA, zA, zA, zA, zA, zA, zA, zA, zA, zA, zA, zA, zA, zA, zA, zA, zA, zA, zA, zA, zA, zA, zA, zA, zA, zA, zA, zA, zA, zA, zA, zA, zA, zA, zA, zA, zA, zA, zA, zA, zA, zA, zA, zA, zA, zA, zA, zA, zA, zA, zA, zA, zA, zA, zA, zA, zA, zA, zA, zA, zA], [], none⟩
noncomputable def law24_LexerCovers_m (n : Nat) : Mach Bool where
  body := (Tryd.f5.body).getD .skip
  P := Tryd.prog
  cl := tabA [(11, ent1 (tyL rowS) tyB (law24_few n)), (12, ent0  tyB (law24_awake n)), (13, ent2 tyS (tyL rowS) (ty3 (tyL Token.row) (tyI .i64) (tyI .i64)) (lexer_Scan n))]
  cd := tabD []
  nrm := tabN [([0, 0, 1, 1, 1, 0, 0, 1, 0, 0, 1, 0, 1, 1, 1, 1, 1], law24_LexerCovers_n1), ([0, 1, 0, 1, 1, 1, 1, 1], law24_LexerCovers_n2)]
  cut := tabF []
  n := n
  out := outR Tryd.prog [.tmp 4] tyB
  isE := tabI []
theorem law24_LexerCovers_f (n : Nat) : (law24_LexerCovers_m n).P = Tryd.prog ∧ (law24_LexerCovers_m n).cl = tabA [(11, ent1 (tyL rowS) tyB (law24_few n)), (12, ent0  tyB (law24_awake n)), (13, ent2 tyS (tyL rowS) (ty3 (tyL Token.row) (tyI .i64) (tyI .i64)) (lexer_Scan n))] ∧ (law24_LexerCovers_m n).cd = tabD [] ∧ (law24_LexerCovers_m n).nrm = tabN [([0, 0, 1, 1, 1, 0, 0, 1, 0, 0, 1, 0, 1, 1, 1, 1, 1], law24_LexerCovers_n1), ([0, 1, 0, 1, 1, 1, 1, 1], law24_LexerCovers_n2)] ∧ (law24_LexerCovers_m n).cut = tabF [] ∧ (law24_LexerCovers_m n).n = n ∧ (law24_LexerCovers_m n).out = outR Tryd.prog [.tmp 4] tyB ∧ (law24_LexerCovers_m n).isE = tabI [] := ⟨rfl, rfl, rfl, rfl, rfl, rfl, rfl, rfl⟩
theorem law24_LexerCovers_c (n : Nat) : (law24_LexerCovers_m n).body = (Tryd.f5.body).getD .skip := rfl
theorem law24_LexerCovers_d (n : Nat) : drawP (law24_LexerCovers_m n) [0, 0, 1, 0, 0, 1, 0, 0, 1, 0, 1, 1, 1, 1, 1] = true := by kernel_rfl
noncomputable def law24_LexerCovers_b1 (n : Nat) : { B : (Str → (List Token) → Int → Bool → Int → Option Bool) → (Str → (List Token) → Int → Bool → Int → Token → Option Bool) → Str → (List Token) → Int → Bool → Int → Token → Option Bool // ∀ m2 X2 m X0, (∀ (v0 : Str) (v1 : List Token) (v2 : Int) (v3 : Bool) (v4 : Int), run (law24_LexerCovers_m n) [.lq m2 [0, 1, 0, 1, 1, 1, 1, 1], .blk 0, .cut [1, 1, 1, 1, 1, 1], .at [1, 1, 1, 1, 1, 1]] ⟨[.str (sb v0), .any, .any, .any, .any, .lst false 3 (mp Token.cells v1), .any, .any, .int .i64 v2, .bool v3, .int .i64 v4, .any, .any, .any, .any, .any, .any, .any, .any, .any, .any, .any, .any, .any, .any, .any, .any, .any, .any, .any, .any, .any, .any, .any, .any, .any, .any, .any, .any, .any, .any, .any, .any, .any, .any, .any, .any, .any, .any, .any, .any, .any, .any, .any, .any, .any, .any, .any, .any, .any, .any, .any, .any, .any, .any, .any, .any, .any, .any, .any, .any, .any, .any, .any, .any, .any, .any, .any, .any, .any, .any, .any, .any, .any, .any, .any, .any, .any, .any, .any, .any, .any, .any, .any, .any, .any, .any, .any, .any, .any, .any, .any, .any, .any, .any, .any, .any, .any, .any, .any, .any, .any, .any, .any, .any, .any, .any, .any, .any, .any, .any, .any, .any, .any, .any, .any, .any, .any, .any, .any, .any, .any, .any, .any, .any, .any, .any, .any, .any, .any, .any, .any, .any, .any, .any, .any, .any, .any, .any, .any, .any, .any, .any, .any, .any, .any, .any, .any, .any, .any, .any, .any, .any, .any, .any, .any, .any, .any, .any, .any], [], 0⟩ = X2 v0 v1 v2 v3 v4) → (∀ (v0 : Str) (v1 : List Token) (v2 : Int) (v3 : Bool) (v4 : Int) (o0 : Token), run (law24_LexerCovers_m n) [.lq m [0, 0, 1, 1, 1, 0, 0, 1, 0, 0, 1, 0, 1, 1, 1, 1, 1], .blk 2, .cut [1, 1, 1, 1, 0, 0, 1, 0, 0, 1, 0, 1, 1, 1, 1, 1], .at [1, 1, 1, 1, 0, 0, 1, 0, 0, 1, 0, 1, 1, 1, 1, 1], .blk 1, .cut [1, 1, 0, 0, 1, 0, 1, 1, 1, 1, 1], .at [1, 1, 0, 0, 1, 0, 1, 1, 1, 1, 1], .lp m2 [0, 1, 0, 1, 1, 1, 1, 1], .blk 0, .cut [1, 1, 1, 1, 1, 1], .at [1, 1, 1, 1, 1, 1]] ⟨[.str (sb v0), .any, .any, .any, .any, .lst false 3 (mp Token.cells v1), .any, .any, .int .i64 v2, .bool v3, .int .i64 v4, .ptr 0 0, .any, .any, .any, .any, .any, .any, .any, .any, .any, .any, .any, .any, .any, .any, .any, .any, .any, .any, .any, .any, .any, .any, .any, .any, .any, .any, .any, .any, .any, .any, .any, .any, .any, .any, .any, .any, .any, .any, .any, .any, .any, .any, .any, .any, .any, .any, .any, .any, .any, .any, .any, .any, .any, .any, .any, .any, .any, .any, .any, .any, .any, .any, .any, .any, .any, .any, .any, .any, .any, .any, .any, .any, .any, .any, .any, .any, .any, .any, .any, .any, .any, .any, .any, .any, .any, .any, .any, .any, .any, .any, .any, .any, .any, .any, .any, .any, .any, .any, .any, .any, .any, .any, .any, .any, .any, .any, .any, .any, .any, .any, .any, .any, .any, .any, .any, .any, .any, .any, .any, .any, .any, .any, .any, .any, .any, .any, .any, .any, .any, .any, .any, .any, .any, .any, .any, .any, .any, .any, .any, .any, .any, .any, .any, .any, .any, .any, .any, .any, .any, .any, .any, .any, .any, .any, .any, .any, .any, .any], [.cells (Token.cells o0)], 0⟩ = X0 v0 v1 v2 v3 v4 o0) → ∀ (v0 : Str) (v1 : List Token) (v2 : Int) (v3 : Bool) (v4 : Int) (o0 : Token), run (law24_LexerCovers_m n) [.at [0, 0, 0, 1, 1, 1, 0, 0, 1, 0, 0, 1, 0, 1, 1, 1, 1, 1], .lp m [0, 0, 1, 1, 1, 0, 0, 1, 0, 0, 1, 0, 1, 1, 1, 1, 1], .blk 2, .cut [1, 1, 1, 1, 0, 0, 1, 0, 0, 1, 0, 1, 1, 1, 1, 1], .at [1, 1, 1, 1, 0, 0, 1, 0, 0, 1, 0, 1, 1, 1, 1, 1], .blk 1, .cut [1, 1, 0, 0, 1, 0, 1, 1, 1, 1, 1], .at [1, 1, 0, 0, 1, 0, 1, 1, 1, 1, 1], .lp m2 [0, 1, 0, 1, 1, 1, 1, 1], .blk 0, .cut [1, 1, 1, 1, 1, 1], .at [1, 1, 1, 1, 1, 1]] ⟨[.str (sb v0), .any, .any, .any, .any, .lst false 3 (mp Token.cells v1), .any, .any, .int .i64 v2, .bool v3, .int .i64 v4, .ptr 0 0, .any, .any, .any, .any, .any, .any, .any, .any, .any, .any, .any, .any, .any, .any, .any, .any, .any, .any, .any, .any, .any, .any, .any, .any, .any, .any, .any, .any, .any, .any, .any, .any, .any, .any, .any, .any, .any, .any, .any, .any, .any, .any, .any, .any, .any, .any, .any, .any, .any, .any, .any, .any, .any, .any, .any, .any, .any, .any, .any, .any, .any, .any, .any, .any, .any, .any, .any, .any, .any, .any, .any, .any, .any, .any, .any, .any, .any, .any, .any, .any, .any, .any, .any, .any, .any, .any, .any, .any, .any, .any, .any, .any, .any, .any, .any, .any, .any, .any, .any, .any, .any, .any, .any, .any, .any, .any, .any, .any, .any, .any, .any, .any, .any, .any, .any, .any, .any, .any, .any, .any, .any, .any, .any, .any, .any, .any, .any, .any, .any, .any, .any, .any, .any, .any, .any, .any, .any, .any, .any, .any, .any, .any, .any, .any, .any, .any, .any, .any, .any, .any, .any, .any, .any, .any, .any, .any, .any, .any], [.cells (Token.cells o0)], 0⟩ = B X2 X0 v0 v1 v2 v3 v4 o0 } := by
  apply Subtype.mk
  intro m2 X2 m X0 h2 ih v0 v1 v2 v3 v4 o0
  simp (config := { maxSteps := 100000000 }) only [go_sem, Nat.reduceAdd, Nat.reduceSub, Nat.reduceLeDiff, Nat.reduceEqDiff, Nat.reduceBEq, Nat.reduceMul, Nat.reduceLT, Int.reduceLE, Int.reduceLT, Int.reduceToNat, Int.reduceBEq, Int.reduceEq, law24_LexerCovers_f, law24_LexerCovers_c, Tryd.f5, Option.getD_some, mixed, law24_LexerCovers_d, law24_LexerCovers_n1, law24_LexerCovers_n2, h2, ih]
  exact rfl
noncomputable def law24_LexerCovers_l1 (n : Nat) (X2 : Str → (List Token) → Int → Bool → Int → Option Bool) : Nat → Str → (List Token) → Int → Bool → Int → Token → Option Bool
  | 0, _, _, _, _, _, _ => none
  | m + 1, v0, v1, v2, v3, v4, o0 => (law24_LexerCovers_b1 n).1 X2 (law24_LexerCovers_l1 n X2 m) v0 v1 v2 v3 v4 o0
theorem law24_LexerCovers_l1_eq (n : Nat) (m2 : Nat) (X2 : Str → (List Token) → Int → Bool → Int → Option Bool) (h2 : (∀ (v0 : Str) (v1 : List Token) (v2 : Int) (v3 : Bool) (v4 : Int), run (law24_LexerCovers_m n) [.lq m2 [0, 1, 0, 1, 1, 1, 1, 1], .blk 0, .cut [1, 1, 1, 1, 1, 1], .at [1, 1, 1, 1, 1, 1]] ⟨[.str (sb v0), .any, .any, .any, .any, .lst false 3 (mp Token.cells v1), .any, .any, .int .i64 v2, .bool v3, .int .i64 v4, .any, .any, .any, .any, .any, .any, .any, .any, .any, .any, .any, .any, .any, .any, .any, .any, .any, .any, .any, .any, .any, .any, .any, .any, .any, .any, .any, .any, .any, .any, .any, .any, .any, .any, .any, .any, .any, .any, .any, .any, .any, .any, .any, .any, .any, .any, .any, .any, .any, .any, .any, .any, .any, .any, .any, .any, .any, .any, .any, .any, .any, .any, .any, .any, .any, .any, .any, .any, .any, .any, .any, .any, .any, .any, .any, .any, .any, .any, .any, .any, .any, .any, .any, .any, .any, .any, .any, .any, .any, .any, .any, .any, .any, .any, .any, .any, .any, .any, .any, .any, .any, .any, .any, .any, .any, .any, .any, .any, .any, .any, .any, .any, .any, .any, .any, .any, .any, .any, .any, .any, .any, .any, .any, .any, .any, .any, .any, .any, .any, .any, .any, .any, .any, .any, .any, .any, .any, .any, .any, .any, .any, .any, .any, .any, .any, .any, .any, .any, .any, .any, .any, .any, .any, .any, .any, .any, .any, .any, .any], [], 0⟩ = X2 v0 v1 v2 v3 v4)) : ∀ (m : Nat), (∀ (v0 : Str) (v1 : List Token) (v2 : Int) (v3 : Bool) (v4 : Int) (o0 : Token), run (law24_LexerCovers_m n) [.lq m [0, 0, 1, 1, 1, 0, 0, 1, 0, 0, 1, 0, 1, 1, 1, 1, 1], .blk 2, .cut [1, 1, 1, 1, 0, 0, 1, 0, 0, 1, 0, 1, 1, 1, 1, 1], .at [1, 1, 1, 1, 0, 0, 1, 0, 0, 1, 0, 1, 1, 1, 1, 1], .blk 1, .cut [1, 1, 0, 0, 1, 0, 1, 1, 1, 1, 1], .at [1, 1, 0, 0, 1, 0, 1, 1, 1, 1, 1], .lp m2 [0, 1, 0, 1, 1, 1, 1, 1], .blk 0, .cut [1, 1, 1, 1, 1, 1], .at [1, 1, 1, 1, 1, 1]] ⟨[.str (sb v0), .any, .any, .any, .any, .lst false 3 (mp Token.cells v1), .any, .any, .int .i64 v2, .bool v3, .int .i64 v4, .ptr 0 0, .any, .any, .any, .any, .any, .any, .any, .any, .any, .any, .any, .any, .any, .any, .any, .any, .any, .any, .any, .any, .any, .any, .any, .any, .any, .any, .any, .any, .any, .any, .any, .any, .any, .any, .any, .any, .any, .any, .any, .any, .any, .any, .any, .any, .any, .any, .any, .any, .any, .any, .any, .any, .any, .any, .any, .any, .any, .any, .any, .any, .any, .any, .any, .any, .any, .any, .any, .any, .any, .any, .any, .any, .any, .any, .any, .any, .any, .any, .any, .any, .any, .any, .any, .any, .any, .any, .any, .any, .any, .any, .any, .any, .any, .any, .any, .any, .any, .any, .any, .any, .any, .any, .any, .any, .any, .any, .any, .any, .any, .any, .any, .any, .any, .any, .any, .any, .any, .any, .any, .any, .any, .any, .any, .any, .any, .any, .any, .any, .any, .any, .any, .any, .any, .any, .any, .any, .any, .any, .any, .any, .any, .any, .any, .any, .any, .any, .any, .any, .any, .any, .any, .any, .any, .any, .any, .any, .any, .any], [.cells (Token.cells o0)], 0⟩ = law24_LexerCovers_l1 n X2 m v0 v1 v2 v3 v4 o0)
  | 0 => by intros; exact run_lq_zero
  | m + 1 => by
    have ih := law24_LexerCovers_l1_eq n m2 X2 h2 m
    intro v0 v1 v2 v3 v4 o0
    rw [run_lq_succ]
    exact (law24_LexerCovers_b1 n).2 m2 X2 m _ h2 ih v0 v1 v2 v3 v4 o0
noncomputable def law24_LexerCovers_b2 (n : Nat) : { B : (Str → (List Token) → Int → Bool → Int → Option Bool) → Str → (List Token) → Int → Bool → Int → Option Bool // ∀ m X0, (∀ (v0 : Str) (v1 : List Token) (v2 : Int) (v3 : Bool) (v4 : Int), run (law24_LexerCovers_m n) [.lq m [0, 1, 0, 1, 1, 1, 1, 1], .blk 0, .cut [1, 1, 1, 1, 1, 1], .at [1, 1, 1, 1, 1, 1]] ⟨[.str (sb v0), .any, .any, .any, .any, .lst false 3 (mp Token.cells v1), .any, .any, .int .i64 v2, .bool v3, .int .i64 v4, .any, .any, .any, .any, .any, .any, .any, .any, .any, .any, .any, .any, .any, .any, .any, .any, .any, .any, .any, .any, .any, .any, .any, .any, .any, .any, .any, .any, .any, .any, .any, .any, .any, .any, .any, .any, .any, .any, .any, .any, .any, .any, .any, .any, .any, .any, .any, .any, .any, .any, .any, .any, .any, .any, .any, .any, .any, .any, .any, .any, .any, .any, .any, .any, .any, .any, .any, .any, .any, .any, .any, .any, .any, .any, .any, .any, .any, .any, .any, .any, .any, .any, .any, .any, .any, .any, .any, .any, .any, .any, .any, .any, .any, .any, .any, .any, .any, .any, .any, .any, .any, .any, .any, .any, .any, .any, .any, .any, .any, .any, .any, .any, .any, .any, .any, .any, .any, .any, .any, .any, .any, .any, .any, .any, .any, .any, .any, .any, .any, .any, .any, .any, .any, .any, .any, .any, .any, .any, .any, .any, .any, .any, .any, .any, .any, .any, .any, .any, .any, .any, .any, .any, .any, .any, .any, .any, .any, .any, .any], [], 0⟩ = X0 v0 v1 v2 v3 v4) → ∀ (v0 : Str) (v1 : List Token) (v2 : Int) (v3 : Bool) (v4 : Int), run (law24_LexerCovers_m n) [.at [0, 0, 1, 0, 1, 1, 1, 1, 1], .lp m [0, 1, 0, 1, 1, 1, 1, 1], .blk 0, .cut [1, 1, 1, 1, 1, 1], .at [1, 1, 1, 1, 1, 1]] ⟨[.str (sb v0), .any, .any, .any, .any, .lst false 3 (mp Token.cells v1), .any, .any, .int .i64 v2, .bool v3, .int .i64 v4, .any, .any, .any, .any, .any, .any, .any, .any, .any, .any, .any, .any, .any, .any, .any, .any, .any, .any, .any, .any, .any, .any, .any, .any, .any, .any, .any, .any, .any, .any, .any, .any, .any, .any, .any, .any, .any, .any, .any, .any, .any, .any, .any, .any, .any, .any, .any, .any, .any, .any, .any, .any, .any, .any, .any, .any, .any, .any, .any, .any, .any, .any, .any, .any, .any, .any, .any, .any, .any, .any, .any, .any, .any, .any, .any, .any, .any, .any, .any, .any, .any, .any, .any, .any, .any, .any, .any, .any, .any, .any, .any, .any, .any, .any, .any, .any, .any, .any, .any, .any, .any, .any, .any, .any, .any, .any, .any, .any, .any, .any, .any, .any, .any, .any, .any, .any, .any, .any, .any, .any, .any, .any, .any, .any, .any, .any, .any, .any, .any, .any, .any, .any, .any, .any, .any, .any, .any, .any, .any, .any, .any, .any, .any, .any, .any, .any, .any, .any, .any, .any, .any, .any, .any, .any, .any, .any, .any, .any, .any], [], 0⟩ = B X0 v0 v1 v2 v3 v4 } := by
  apply Subtype.mk
  intro m X0 ih v0 v1 v2 v3 v4
  simp (config := { maxSteps := 100000000 }) only [go_sem, Nat.reduceAdd, Nat.reduceSub, Nat.reduceLeDiff, Nat.reduceEqDiff, Nat.reduceBEq, Nat.reduceMul, Nat.reduceLT, Int.reduceLE, Int.reduceLT, Int.reduceToNat, Int.reduceBEq, Int.reduceEq, law24_LexerCovers_f, law24_LexerCovers_c, Tryd.f5, Option.getD_some, mixed, law24_LexerCovers_d, law24_LexerCovers_n1, law24_LexerCovers_n2, law24_LexerCovers_l1_eq n m X0 ih, ih]
  exact rfl
noncomputable def law24_LexerCovers_l2 (n : Nat) : Nat → Str → (List Token) → Int → Bool → Int → Option Bool
  | 0, _, _, _, _, _ => none
  | m + 1, v0, v1, v2, v3, v4 => (law24_LexerCovers_b2 n).1 (law24_LexerCovers_l2 n m) v0 v1 v2 v3 v4
theorem law24_LexerCovers_l2_eq (n : Nat) : ∀ (m : Nat), (∀ (v0 : Str) (v1 : List Token) (v2 : Int) (v3 : Bool) (v4 : Int), run (law24_LexerCovers_m n) [.lq m [0, 1, 0, 1, 1, 1, 1, 1], .blk 0, .cut [1, 1, 1, 1, 1, 1], .at [1, 1, 1, 1, 1, 1]] ⟨[.str (sb v0), .any, .any, .any, .any, .lst false 3 (mp Token.cells v1), .any, .any, .int .i64 v2, .bool v3, .int .i64 v4, .any, .any, .any, .any, .any, .any, .any, .any, .any, .any, .any, .any, .any, .any, .any, .any, .any, .any, .any, .any, .any, .any, .any, .any, .any, .any, .any, .any, .any, .any, .any, .any, .any, .any, .any, .any, .any, .any, .any, .any, .any, .any, .any, .any, .any, .any, .any, .any, .any, .any, .any, .any, .any, .any, .any, .any, .any, .any, .any, .any, .any, .any, .any, .any, .any, .any, .any, .any, .any, .any, .any, .any, .any, .any, .any, .any, .any, .any, .any, .any, .any, .any, .any, .any, .any, .any, .any, .any, .any, .any, .any, .any, .any, .any, .any, .any, .any, .any, .any, .any, .any, .any, .any, .any, .any, .any, .any, .any, .any, .any, .any, .any, .any, .any, .any, .any, .any, .any, .any, .any, .any, .any, .any, .any, .any, .any, .any, .any, .any, .any, .any, .any, .any, .any, .any, .any, .any, .any, .any, .any, .any, .any, .any, .any, .any, .any, .any, .any, .any, .any, .any, .any, .any, .any, .any, .any, .any, .any, .any], [], 0⟩ = law24_LexerCovers_l2 n m v0 v1 v2 v3 v4)
  | 0 => by intros; exact run_lq_zero
  | m + 1 => by
    have ih := law24_LexerCovers_l2_eq n m
    intro v0 v1 v2 v3 v4
    rw [run_lq_succ]
    exact (law24_LexerCovers_b2 n).2  m _  ih v0 v1 v2 v3 v4
noncomputable def law24_LexerCovers_e (n : Nat) : { B : Str → (List Str) → Option Bool // ∀ (a0 : Str) (a1 : (List Str)), run (law24_LexerCovers_m n) [.at []] { slots := [tyS.enc a0, (tyL rowS).enc a1] ++ List.replicate (170 - [tyS.enc a0, (tyL rowS).enc a1].length) .any, heap := [] } = B a0 a1 } := by
  apply Subtype.mk
  intro a0 a1
  simp (config := { maxSteps := 100000000 }) only [go_sem, Nat.reduceAdd, Nat.reduceSub, Nat.reduceLeDiff, Nat.reduceEqDiff, Nat.reduceBEq, Nat.reduceMul, Nat.reduceLT, Int.reduceLE, Int.reduceLT, Int.reduceToNat, Int.reduceBEq, Int.reduceEq, law24_LexerCovers_f, law24_LexerCovers_c, Tryd.f5, Option.getD_some, mixed, law24_LexerCovers_d, law24_LexerCovers_n1, law24_LexerCovers_n2, law24_LexerCovers_l2_eq n]
  exact rfl
noncomputable def law24_LexerCovers : Nat → Str → (List Str) → Option Bool
  | 0, _, _ => none
  | n + 1, a0, a1 => (law24_LexerCovers_e n).1 a0 a1
theorem law24_LexerCovers_ok : ∀ (n : Nat) (a0 : Str) (a1 : (List Str)) (r : Bool), law24_LexerCovers n a0 a1 = some r → FnC Tryd.prog 5 [tyS.enc a0, (tyL rowS).enc a1] (fun v => v = tyB.enc r)
  | 0, _, _, _, h => by cases h
  | n + 1, a0, a1, r, h => by
    exact fnC_run (M := law24_LexerCovers_m n) ⟨(tabA_cons_ok (ent1_ok (law24_few_ok n)) (tabA_cons_ok (ent0_ok (law24_awake_ok n)) (tabA_cons_ok (ent2_ok (lexer_Scan_ok n)) tabA_nil_ok))), tabD_nil_ok, tabN_ok _, tabF_ok _, noY_ok, noE_ok⟩ Tryd.func5 rfl rfl ⟨tyS.nb 0 _, (tyL rowS).nb 0 _, trivial⟩ Tryd.ntmps5 Tryd.results5 (fun σ hs => outR_ok (P := Tryd.prog) (rs := [.tmp 4]) (t := tyB) (σ := σ) (r := r) hs) (((law24_LexerCovers_e n).2 a0 a1).trans h)

noncomputable def law24_LexerBack_n1 : Nrm := ⟨[], [], [zA, zT (tyL rowS), zA, zA, zA, zT (tyL Token.row), zA, zA, zK, zK, zA, zA, zA, zA, zA, zA, zA, zA, zA, zA, zA, zA, zA, zA, zA, zA, zA, zA, zA, zA, zA, zA, zA, zA, zA, zA, zA, zA, zA, zA, zA, zA, zA, zA, zA, zA, zA, zA, zA, zA, zA, zA, zA, zA, zA, zA, zA, zA, zA, zA, zA, zA, zA, zA, zA, zA], [], none⟩
noncomputable def law24_LexerBack_m (n : Nat) : Mach Bool where
  body := (Tryd.f6.body).getD .skip
  P := Tryd.prog
  cl := tabA [(11, ent1 (tyL rowS) tyB (law24_few n)), (12, ent0  tyB (law24_awake n)), (13, ent2 tyS (tyL rowS) (ty3 (tyL Token.row) (tyI .i64) (tyI .i64)) (lexer_Scan n)), (15, ent3 (tyL Token.row) (tyL Token.row) tyB tyB (ref24_Same n))]
  cd := tabD []
  nrm := tabN [([0, 1, 0, 1, 1, 1, 1, 1], law24_LexerBack_n1)]
  cut := tabF []
  n := n
  out := outR Tryd.prog [.tmp 4] tyB
theorem law24_LexerBack_f (n : Nat) : (law24_LexerBack_m n).P = Tryd.prog ∧ (law24_LexerBack_m n).cl = tabA [(11, ent1 (tyL rowS) tyB (law24_few n)), (12, ent0  tyB (law24_awake n)), (13, ent2 tyS (tyL rowS) (ty3 (tyL Token.row) (tyI .i64) (tyI .i64)) (lexer_Scan n)), (15, ent3 (tyL Token.row) (tyL Token.row) tyB tyB (ref24_Same n))] ∧ (law24_LexerBack_m n).cd = tabD [] ∧ (law24_LexerBack_m n).nrm = tabN [([0, 1, 0, 1, 1, 1, 1, 1], law24_LexerBack_n1)] ∧ (law24_LexerBack_m n).cut = tabF [] ∧ (law24_LexerBack_m n).n = n ∧ (law24_LexerBack_m n).out = outR Tryd.prog [.tmp 4] tyB := ⟨rfl, rfl, rfl, rfl, rfl, rfl, rfl⟩
theorem law24_LexerBack_c (n : Nat) : (law24_LexerBack_m n).body = (Tryd.f6.body).getD .skip := rfl
noncomputable def law24_LexerBack_b1 (n : Nat) : { B : ((List Str) → (List Token) → Str → Int → Option Bool) → (List Str) → (List Token) → Str → Int → Option Bool // ∀ m X0, (∀ (v0 : List Str) (v1 : List Token) (v2 : Str) (v3 : Int), run (law24_LexerBack_m n) [.lq m [0, 1, 0, 1, 1, 1, 1, 1], .blk 0, .cut [1, 1, 1, 1, 1, 1], .at [1, 1, 1, 1, 1, 1]] ⟨[.any, .lst false 1 (mp scell v0), .any, .any, .any, .lst false 3 (mp Token.cells v1), .any, .any, .str (sb v2), .int .i64 v3, .any, .any, .any, .any, .any, .any, .any, .any, .any, .any, .any, .any, .any, .any, .any, .any, .any, .any, .any, .any, .any, .any, .any, .any, .any, .any, .any, .any, .any, .any, .any, .any, .any, .any, .any, .any, .any, .any, .any, .any, .any, .any, .any, .any, .any, .any, .any, .any, .any, .any, .any, .any, .any, .any, .any, .any], [], 0⟩ = X0 v0 v1 v2 v3) → ∀ (v0 : List Str) (v1 : List Token) (v2 : Str) (v3 : Int), run (law24_LexerBack_m n) [.at [0, 0, 1, 0, 1, 1, 1, 1, 1], .lp m [0, 1, 0, 1, 1, 1, 1, 1], .blk 0, .cut [1, 1, 1, 1, 1, 1], .at [1, 1, 1, 1, 1, 1]] ⟨[.any, .lst false 1 (mp scell v0), .any, .any, .any, .lst false 3 (mp Token.cells v1), .any, .any, .str (sb v2), .int .i64 v3, .any, .any, .any, .any, .any, .any, .any, .any, .any, .any, .any, .any, .any, .any, .any, .any, .any, .any, .any, .any, .any, .any, .any, .any, .any, .any, .any, .any, .any, .any, .any, .any, .any, .any, .any, .any, .any, .any, .any, .any, .any, .any, .any, .any, .any, .any, .any, .any, .any, .any, .any, .any, .any, .any, .any, .any], [], 0⟩ = B X0 v0 v1 v2 v3 } := by
  apply Subtype.mk
  intro m X0 ih v0 v1 v2 v3
  simp (config := { maxSteps := 100000000 }) only [go_sem, Nat.reduceAdd, Nat.reduceSub, Nat.reduceLeDiff, Nat.reduceEqDiff, Nat.reduceBEq, Nat.reduceMul, Nat.reduceLT, Int.reduceLE, Int.reduceLT, Int.reduceToNat, Int.reduceBEq, Int.reduceEq, law24_LexerBack_f, law24_LexerBack_c, Tryd.f6, Option.getD_some, mixed, law24_LexerBack_n1, ih]
  exact rfl
noncomputable def law24_LexerBack_l1 (n : Nat) : Nat → (List Str) → (List Token) → Str → Int → Option Bool
  | 0, _, _, _, _ => none
  | m + 1, v0, v1, v2, v3 => (law24_LexerBack_b1 n).1 (law24_LexerBack_l1 n m) v0 v1 v2 v3
theorem law24_LexerBack_l1_eq (n : Nat) : ∀ (m : Nat), (∀ (v0 : List Str) (v1 : List Token) (v2 : Str) (v3 : Int), run (law24_LexerBack_m n) [.lq m [0, 1, 0, 1, 1, 1, 1, 1], .blk 0, .cut [1, 1, 1, 1, 1, 1], .at [1, 1, 1, 1, 1, 1]] ⟨[.any, .lst false 1 (mp scell v0), .any, .any, .any, .lst false 3 (mp Token.cells v1), .any, .any, .str (sb v2), .int .i64 v3, .any, .any, .any, .any, .any, .any, .any, .any, .any, .any, .any, .any, .any, .any, .any, .any, .any, .any, .any, .any, .any, .any, .any, .any, .any, .any, .any, .any, .any, .any, .any, .any, .any, .any, .any, .any, .any, .any, .any, .any, .any, .any, .any, .any, .any, .any, .any, .any, .any, .any, .any, .any, .any, .any, .any, .any], [], 0⟩ = law24_LexerBack_l1 n m v0 v1 v2 v3)
  | 0 => by intros; exact run_lq_zero
  | m + 1 => by
    have ih := law24_LexerBack_l1_eq n m
    intro v0 v1 v2 v3
    rw [run_lq_succ]
    exact (law24_LexerBack_b1 n).2  m _  ih v0 v1 v2 v3
noncomputable def law24_LexerBack_e (n : Nat) : { B : Str → (List Str) → Option Bool // ∀ (a0 : Str) (a1 : (List Str)), run (law24_LexerBack_m n) [.at []] { slots := [tyS.enc a0, (tyL rowS).enc a1] ++ List.replicate (66 - [tyS.enc a0, (tyL rowS).enc a1].length) .any, heap := [] } = B a0 a1 } := by
  apply Subtype.mk
  intro a0 a1
  simp (config := { maxSteps := 100000000 }) only [go_sem, Nat.reduceAdd, Nat.reduceSub, Nat.reduceLeDiff, Nat.reduceEqDiff, Nat.reduceBEq, Nat.reduceMul, Nat.reduceLT, Int.reduceLE, Int.reduceLT, Int.reduceToNat, Int.reduceBEq, Int.reduceEq, law24_LexerBack_f, law24_LexerBack_c, Tryd.f6, Option.getD_some, mixed, law24_LexerBack_n1, law24_LexerBack_l1_eq n]
  exact rfl
noncomputable def law24_LexerBack : Nat → Str → (List Str) → Option Bool
  | 0, _, _ => none
  | n + 1, a0, a1 => (law24_LexerBack_e n).1 a0 a1
theorem law24_LexerBack_ok : ∀ (n : Nat) (a0 : Str) (a1 : (List Str)) (r : Bool), law24_LexerBack n a0 a1 = some r → FnC Tryd.prog 6 [tyS.enc a0, (tyL rowS).enc a1] (fun v => v = tyB.enc r)
  | 0, _, _, _, h => by cases h
  | n + 1, a0, a1, r, h => by
    exact fnC_run (M := law24_LexerBack_m n) ⟨(tabA_cons_ok (ent1_ok (law24_few_ok n)) (tabA_cons_ok (ent0_ok (law24_awake_ok n)) (tabA_cons_ok (ent2_ok (lexer_Scan_ok n)) (tabA_cons_ok (ent3_ok (ref24_Same_ok n)) tabA_nil_ok)))), tabD_nil_ok, tabN_ok _, tabF_ok _, noY_ok, noE_ok⟩ Tryd.func6 rfl rfl ⟨tyS.nb 0 _, (tyL rowS).nb 0 _, trivial⟩ Tryd.ntmps6 Tryd.results6 (fun σ hs => outR_ok (P := Tryd.prog) (rs := [.tmp 4]) (t := tyB) (σ := σ) (r := r) hs) (((law24_LexerBack_e n).2 a0 a1).trans h)

noncomputable def law24_LexerSpaces_m (n : Nat) : Mach Bool where
  body := (Tryd.f7.body).getD .skip
  P := Tryd.prog
  cl := tabA [(12, ent0  tyB (law24_awake n)), (13, ent2 tyS (tyL rowS) (ty3 (tyL Token.row) (tyI .i64) (tyI .i64)) (lexer_Scan n)), (15, ent3 (tyL Token.row) (tyL Token.row) tyB tyB (ref24_Same n))]
  cd := tabD [(13, entD (ent2 tyS (tyL rowS) (ty3 (tyL Token.row) (tyI .i64) (tyI .i64)) (lexer_Scan n)))]
  nrm := tabN []
  cut := tabF []
  n := n
  out := outR Tryd.prog [.tmp 6] tyB
  isE := tabI []
theorem law24_LexerSpaces_f (n : Nat) : (law24_LexerSpaces_m n).P = Tryd.prog ∧ (law24_LexerSpaces_m n).cl = tabA [(12, ent0  tyB (law24_awake n)), (13, ent2 tyS (tyL rowS) (ty3 (tyL Token.row) (tyI .i64) (tyI .i64)) (lexer_Scan n)), (15, ent3 (tyL Token.row) (tyL Token.row) tyB tyB (ref24_Same n))] ∧ (law24_LexerSpaces_m n).cd = tabD [(13, entD (ent2 tyS (tyL rowS) (ty3 (tyL Token.row) (tyI .i64) (tyI .i64)) (lexer_Scan n)))] ∧ (law24_LexerSpaces_m n).nrm = tabN [] ∧ (law24_LexerSpaces_m n).cut = tabF [] ∧ (law24_LexerSpaces_m n).n = n ∧ (law24_LexerSpaces_m n).out = outR Tryd.prog [.tmp 6] tyB ∧ (law24_LexerSpaces_m n).isE = tabI [] := ⟨rfl, rfl, rfl, rfl, rfl, rfl, rfl, rfl⟩
theorem law24_LexerSpaces_c (n : Nat) : (law24_LexerSpaces_m n).body = (Tryd.f7.body).getD .skip := rfl
theorem law24_LexerSpaces_d (n : Nat) : drawP (law24_LexerSpaces_m n) [0, 1, 1, 1, 1, 1, 1, 1, 1] = true := by kernel_rfl
noncomputable def law24_LexerSpaces_e (n : Nat) : { B : Str → Int → Int → Option Bool // ∀ (a0 : Str) (a1 : Int) (a2 : Int), run (law24_LexerSpaces_m n) [.at []] { slots := [tyS.enc a0, (tyI .u8).enc a1, (tyI .u8).enc a2] ++ List.replicate (90 - [tyS.enc a0, (tyI .u8).enc a1, (tyI .u8).enc a2].length) .any, heap := [] } = B a0 a1 a2 } := by
  apply Subtype.mk
  intro a0 a1 a2
  simp (config := { maxSteps := 100000000 }) only [go_sem, Nat.reduceAdd, Nat.reduceSub, Nat.reduceLeDiff, Nat.reduceEqDiff, Nat.reduceBEq, Nat.reduceMul, Nat.reduceLT, Int.reduceLE, Int.reduceLT, Int.reduceToNat, Int.reduceBEq, Int.reduceEq, law24_LexerSpaces_f, law24_LexerSpaces_c, Tryd.f7, Option.getD_some, mixed, law24_LexerSpaces_d, idxA_s5]
  exact rfl
noncomputable def law24_LexerSpaces : Nat → Str → Int → Int → Option Bool
  | 0, _, _, _ => none
  | n + 1, a0, a1, a2 => (law24_LexerSpaces_e n).1 a0 a1 a2
theorem law24_LexerSpaces_ok : ∀ (n : Nat) (a0 : Str) (a1 : Int) (a2 : Int) (r : Bool), law24_LexerSpaces n a0 a1 a2 = some r → FnC Tryd.prog 7 [tyS.enc a0, (tyI .u8).enc a1, (tyI .u8).enc a2] (fun v => v = tyB.enc r)
  | 0, _, _, _, _, h => by cases h
  | n + 1, a0, a1, a2, r, h => by
    exact fnC_run (M := law24_LexerSpaces_m n) ⟨(tabA_cons_ok (ent0_ok (law24_awake_ok n)) (tabA_cons_ok (ent2_ok (lexer_Scan_ok n)) (tabA_cons_ok (ent3_ok (ref24_Same_ok n)) tabA_nil_ok))), (tabD_cons_ok (ent2_okD (lexer_Scan_ok n)) tabD_nil_ok), tabN_ok _, tabF_ok _, noY_ok, noE_ok⟩ Tryd.func7 rfl rfl ⟨tyS.nb 0 _, (tyI .u8).nb 0 _, (tyI .u8).nb 0 _, trivial⟩ Tryd.ntmps7 Tryd.results7 (fun σ hs => outR_ok (P := Tryd.prog) (rs := [.tmp 6]) (t := tyB) (σ := σ) (r := r) hs) (((law24_LexerSpaces_e n).2 a0 a1 a2).trans h)

noncomputable def law24_LexerOthers_m (n : Nat) : Mach Bool where
  body := (Tryd.f8.body).getD .skip
  P := Tryd.prog
  cl := tabA [(11, ent1 (tyL rowS) tyB (law24_few n)), (12, ent0  tyB (law24_awake n)), (13, ent2 tyS (tyL rowS) (ty3 (tyL Token.row) (tyI .i64) (tyI .i64)) (lexer_Scan n)), (15, ent3 (tyL Token.row) (tyL Token.row) tyB tyB (ref24_Same n)), (18, ent1 tyS tyB (lexer_Symbol n)), (20, ent2 tyS tyS tyB (law24_contains n))]
  cd := tabD []
  nrm := tabN []
  cut := tabF []
  n := n
  out := outR Tryd.prog [.tmp 6] tyB
theorem law24_LexerOthers_f (n : Nat) : (law24_LexerOthers_m n).P = Tryd.prog ∧ (law24_LexerOthers_m n).cl = tabA [(11, ent1 (tyL rowS) tyB (law24_few n)), (12, ent0  tyB (law24_awake n)), (13, ent2 tyS (tyL rowS) (ty3 (tyL Token.row) (tyI .i64) (tyI .i64)) (lexer_Scan n)), (15, ent3 (tyL Token.row) (tyL Token.row) tyB tyB (ref24_Same n)), (18, ent1 tyS tyB (lexer_Symbol n)), (20, ent2 tyS tyS tyB (law24_contains n))] ∧ (law24_LexerOthers_m n).cd = tabD [] ∧ (law24_LexerOthers_m n).nrm = tabN [] ∧ (law24_LexerOthers_m n).cut = tabF [] ∧ (law24_LexerOthers_m n).n = n ∧ (law24_LexerOthers_m n).out = outR Tryd.prog [.tmp 6] tyB := ⟨rfl, rfl, rfl, rfl, rfl, rfl, rfl⟩
theorem law24_LexerOthers_c (n : Nat) : (law24_LexerOthers_m n).body = (Tryd.f8.body).getD .skip := rfl
noncomputable def law24_LexerOthers_e (n : Nat) : { B : Str → (List Str) → Str → Option Bool // ∀ (a0 : Str) (a1 : (List Str)) (a2 : Str), run (law24_LexerOthers_m n) [.at []] { slots := [tyS.enc a0, (tyL rowS).enc a1, tyS.enc a2] ++ List.replicate (70 - [tyS.enc a0, (tyL rowS).enc a1, tyS.enc a2].length) .any, heap := [] } = B a0 a1 a2 } := by
  apply Subtype.mk
  intro a0 a1 a2
  simp (config := { maxSteps := 100000000 }) only [go_sem, Nat.reduceAdd, Nat.reduceSub, Nat.reduceLeDiff, Nat.reduceEqDiff, Nat.reduceBEq, Nat.reduceMul, Nat.reduceLT, Int.reduceLE, Int.reduceLT, Int.reduceToNat, Int.reduceBEq, Int.reduceEq, law24_LexerOthers_f, law24_LexerOthers_c, Tryd.f8, Option.getD_some, mixed]
  exact rfl
noncomputable def law24_LexerOthers : Nat → Str → (List Str) → Str → Option Bool
  | 0, _, _, _ => none
  | n + 1, a0, a1, a2 => (law24_LexerOthers_e n).1 a0 a1 a2
theorem law24_LexerOthers_ok : ∀ (n : Nat) (a0 : Str) (a1 : (List Str)) (a2 : Str) (r : Bool), law24_LexerOthers n a0 a1 a2 = some r → FnC Tryd.prog 8 [tyS.enc a0, (tyL rowS).enc a1, tyS.enc a2] (fun v => v = tyB.enc r)
  | 0, _, _, _, _, h => by cases h
  | n + 1, a0, a1, a2, r, h => by
    exact fnC_run (M := law24_LexerOthers_m n) ⟨(tabA_cons_ok (ent1_ok (law24_few_ok n)) (tabA_cons_ok (ent0_ok (law24_awake_ok n)) (tabA_cons_ok (ent2_ok (lexer_Scan_ok n)) (tabA_cons_ok (ent3_ok (ref24_Same_ok n)) (tabA_cons_ok (ent1_ok (lexer_Symbol_ok n)) (tabA_cons_ok (ent2_ok (law24_contains_ok n)) tabA_nil_ok)))))), tabD_nil_ok, tabN_ok _, tabF_ok _, noY_ok, noE_ok⟩ Tryd.func8 rfl rfl ⟨tyS.nb 0 _, (tyL rowS).nb 0 _, tyS.nb 0 _, trivial⟩ Tryd.ntmps8 Tryd.results8 (fun σ hs => outR_ok (P := Tryd.prog) (rs := [.tmp 6]) (t := tyB) (σ := σ) (r := r) hs) (((law24_LexerOthers_e n).2 a0 a1 a2).trans h)
end Go.Abs
namespace Go.Abs
open Go.Proofs
set_option maxRecDepth 100000
set_option maxHeartbeats 4000000
set_option linter.unusedSimpArgs false
set_option linter.unusedVariables false
noncomputable def law24_LexerNames_n1 : Nrm := ⟨[], [], [zA, zA, zK, zA, zA, zA, zA, zA, zA, zA, zA, zA, zA, zK, zK, zA, zA, zA, zA, zA, zA, zA, zA, zA, zA, zA, zA, zA, zA, zA, zA, zA, zA, zA, zA, zA, zA, zA, zA, zA, zA, zA, zA, zA, zA, zA, zA, zA, zA, zA, zA, zA, zA, zA, zA, zA, zA, zA, zA, zA, zA, zA, zA, zA, zA, zA, zA, zA, zA, zA, zA, zA, zA, zA, zA, zA, zA, zA, zA, zA, zA, zA, zA, zA, zA, zA, zA, zA, zA, zA, zA, zA, zA, zA, zA, zA, zA, zA, zA, zA, zA, zA, zA, zA, zA, zA, zA, zA, zA, zA, zA, zA, zA, zA, zA, zA, zA, zA, zA, zA, zA, zA, zA, zA, zA, zA, zA, zA, zA, zA, zA, zA, zA, zA, zA, zA, zA, zA, zA, zA, zA, zA], [], none⟩
noncomputable def law24_LexerNames_n2 : Nrm := ⟨[], [], [zK, zK, zK, zA, zA, zA, zA, zK, zK, zK, zA, zA, zA, zA, zA, zA, zA, zA, zA, zA, zA, zA, zA, zA, zA, zA, zA, zA, zA, zA, zA, zA, zA, zA, zA, zA, zA, zA, zA, zA, zA, zA, zA, zA, zA, zA, zA, zA, zA, zA, zA, zA, zA, zA, zA, zA, zA, zA, zA, zA, zA, zA, zA, zA, zA, zA, zA, zA, zA, zA, zA, zA, zA, zA, zA, zA, zA, zA, zA, zA, zA, zA, zA, zA, zA, zA, zA, zA, zA, zA, zA, zA, zA, zA, zA, zA, zA, zA, zA, zA, zA, zA, zA, zA, zA, zA, zA, zA, zA, zA, zA, zA, zA, zA, zA, zA, zA, zA, zA, zA, zA, zA, zA, zA, zA, zA, zA, zA, zA, zA, zA, zA, zA, zA, zA, zA, zA, zA, zA, zA, zA, zA], [], none⟩
noncomputable def law24_LexerNames_m (n : Nat) : Mach Bool where
  body := (Tryd.f9.body).getD .skip
  P := Tryd.prog
  cl := tabA [(12, ent0  tyB (law24_awake n)), (13, ent2 tyS (tyL rowS) (ty3 (tyL Token.row) (tyI .i64) (tyI .i64)) (lexer_Scan n)), (16, ent1 tyS tyB (lexer_Keyword n))]
  cd := tabD []
  nrm := tabN [([0, 1, 0, 1, 1, 1, 1, 1, 1, 1, 1], law24_LexerNames_n1), ([0, 1, 0, 1, 1, 1], law24_LexerNames_n2)]
  cut := tabF []
  n := n
  out := outR Tryd.prog [.tmp 6] tyB
theorem law24_LexerNames_f (n : Nat) : (law24_LexerNames_m n).P = Tryd.prog ∧ (law24_LexerNames_m n).cl = tabA [(12, ent0  tyB (law24_awake n)), (13, ent2 tyS (tyL rowS) (ty3 (tyL Token.row) (tyI .i64) (tyI .i64)) (lexer_Scan n)), (16, ent1 tyS tyB (lexer_Keyword n))] ∧ (law24_LexerNames_m n).cd = tabD [] ∧ (law24_LexerNames_m n).nrm = tabN [([0, 1, 0, 1, 1, 1, 1, 1, 1, 1, 1], law24_LexerNames_n1), ([0, 1, 0, 1, 1, 1], law24_LexerNames_n2)] ∧ (law24_LexerNames_m n).cut = tabF [] ∧ (law24_LexerNames_m n).n = n ∧ (law24_LexerNames_m n).out = outR Tryd.prog [.tmp 6] tyB := ⟨rfl, rfl, rfl, rfl, rfl, rfl, rfl⟩
theorem law24_LexerNames_c (n : Nat) : (law24_LexerNames_m n).body = (Tryd.f9.body).getD .skip := rfl
noncomputable def law24_LexerNames_b1 (n : Nat) : { B : (Int → Str → Int → Option Bool) → Int → Str → Int → Option Bool // ∀ m X0, (∀ (v0 : Int) (v1 : Str) (v2 : Int), run (law24_LexerNames_m n) [.lq m [0, 1, 0, 1, 1, 1, 1, 1, 1, 1, 1], .blk 2, .cut [1, 1, 1, 1, 1, 1, 1, 1, 1], .at [1, 1, 1, 1, 1, 1, 1, 1, 1]] ⟨[.any, .any, .int .u8 v0, .any, .any, .any, .any, .any, .any, .any, .any, .any, .any, .str (sb v1), .int .i64 v2, .any, .any, .any, .any, .any, .any, .any, .any, .any, .any, .any, .any, .any, .any, .any, .any, .any, .any, .any, .any, .any, .any, .any, .any, .any, .any, .any, .any, .any, .any, .any, .any, .any, .any, .any, .any, .any, .any, .any, .any, .any, .any, .any, .any, .any, .any, .any, .any, .any, .any, .any, .any, .any, .any, .any, .any, .any, .any, .any, .any, .any, .any, .any, .any, .any, .any, .any, .any, .any, .any, .any, .any, .any, .any, .any, .any, .any, .any, .any, .any, .any, .any, .any, .any, .any, .any, .any, .any, .any, .any, .any, .any, .any, .any, .any, .any, .any, .any, .any, .any, .any, .any, .any, .any, .any, .any, .any, .any, .any, .any, .any, .any, .any, .any, .any, .any, .any, .any, .any, .any, .any, .any, .any, .any, .any, .any, .any], [], 0⟩ = X0 v0 v1 v2) → ∀ (v0 : Int) (v1 : Str) (v2 : Int), run (law24_LexerNames_m n) [.at [0, 0, 1, 0, 1, 1, 1, 1, 1, 1, 1, 1], .lp m [0, 1, 0, 1, 1, 1, 1, 1, 1, 1, 1], .blk 2, .cut [1, 1, 1, 1, 1, 1, 1, 1, 1], .at [1, 1, 1, 1, 1, 1, 1, 1, 1]] ⟨[.any, .any, .int .u8 v0, .any, .any, .any, .any, .any, .any, .any, .any, .any, .any, .str (sb v1), .int .i64 v2, .any, .any, .any, .any, .any, .any, .any, .any, .any, .any, .any, .any, .any, .any, .any, .any, .any, .any, .any, .any, .any, .any, .any, .any, .any, .any, .any, .any, .any, .any, .any, .any, .any, .any, .any, .any, .any, .any, .any, .any, .any, .any, .any, .any, .any, .any, .any, .any, .any, .any, .any, .any, .any, .any, .any, .any, .any, .any, .any, .any, .any, .any, .any, .any, .any, .any, .any, .any, .any, .any, .any, .any, .any, .any, .any, .any, .any, .any, .any, .any, .any, .any, .any, .any, .any, .any, .any, .any, .any, .any, .any, .any, .any, .any, .any, .any, .any, .any, .any, .any, .any, .any, .any, .any, .any, .any, .any, .any, .any, .any, .any, .any, .any, .any, .any, .any, .any, .any, .any, .any, .any, .any, .any, .any, .any, .any, .any], [], 0⟩ = B X0 v0 v1 v2 } := by
  apply Subtype.mk
  intro m X0 ih v0 v1 v2
  simp (config := { maxSteps := 100000000 }) only [go_sem, Nat.reduceAdd, Nat.reduceSub, Nat.reduceLeDiff, Nat.reduceEqDiff, Nat.reduceBEq, Nat.reduceMul, Nat.reduceLT, Int.reduceLE, Int.reduceLT, Int.reduceToNat, Int.reduceBEq, Int.reduceEq, law24_LexerNames_f, law24_LexerNames_c, Tryd.f9, Option.getD_some, mixed, law24_LexerNames_n1, law24_LexerNames_n2, ih]
  exact rfl
noncomputable def law24_LexerNames_l1 (n : Nat) : Nat → Int → Str → Int → Option Bool
  | 0, _, _, _ => none
  | m + 1, v0, v1, v2 => (law24_LexerNames_b1 n).1 (law24_LexerNames_l1 n m) v0 v1 v2
theorem law24_LexerNames_l1_eq (n : Nat) : ∀ (m : Nat), (∀ (v0 : Int) (v1 : Str) (v2 : Int), run (law24_LexerNames_m n) [.lq m [0, 1, 0, 1, 1, 1, 1, 1, 1, 1, 1], .blk 2, .cut [1, 1, 1, 1, 1, 1, 1, 1, 1], .at [1, 1, 1, 1, 1, 1, 1, 1, 1]] ⟨[.any, .any, .int .u8 v0, .any, .any, .any, .any, .any, .any, .any, .any, .any, .any, .str (sb v1), .int .i64 v2, .any, .any, .any, .any, .any, .any, .any, .any, .any, .any, .any, .any, .any, .any, .any, .any, .any, .any, .any, .any, .any, .any, .any, .any, .any, .any, .any, .any, .any, .any, .any, .any, .any, .any, .any, .any, .any, .any, .any, .any, .any, .any, .any, .any, .any, .any, .any, .any, .any, .any, .any, .any, .any, .any, .any, .any, .any, .any, .any, .any, .any, .any, .any, .any, .any, .any, .any, .any, .any, .any, .any, .any, .any, .any, .any, .any, .any, .any, .any, .any, .any, .any, .any, .any, .any, .any, .any, .any, .any, .any, .any, .any, .any, .any, .any, .any, .any, .any, .any, .any, .any, .any, .any, .any, .any, .any, .any, .any, .any, .any, .any, .any, .any, .any, .any, .any, .any, .any, .any, .any, .any, .any, .any, .any, .any, .any, .any], [], 0⟩ = law24_LexerNames_l1 n m v0 v1 v2)
  | 0 => by intros; exact run_lq_zero
  | m + 1 => by
    have ih := law24_LexerNames_l1_eq n m
    intro v0 v1 v2
    rw [run_lq_succ]
    exact (law24_LexerNames_b1 n).2  m _  ih v0 v1 v2
noncomputable def law24_LexerNames_b2 (n : Nat) : { B : (Int → Int → Int → Str → Str → Int → Option Bool) → Int → Int → Int → Str → Str → Int → Option Bool // ∀ m X0, (∀ (v0 : Int) (v1 : Int) (v2 : Int) (v3 : Str) (v4 : Str) (v5 : Int), run (law24_LexerNames_m n) [.lq m [0, 1, 0, 1, 1, 1], .blk 0, .cut [1, 1, 1, 1], .at [1, 1, 1, 1]] ⟨[.int .u8 v0, .int .u8 v1, .int .u8 v2, .any, .any, .any, .any, .str (sb v3), .str (sb v4), .int .i64 v5, .any, .any, .any, .any, .any, .any, .any, .any, .any, .any, .any, .any, .any, .any, .any, .any, .any, .any, .any, .any, .any, .any, .any, .any, .any, .any, .any, .any, .any, .any, .any, .any, .any, .any, .any, .any, .any, .any, .any, .any, .any, .any, .any, .any, .any, .any, .any, .any, .any, .any, .any, .any, .any, .any, .any, .any, .any, .any, .any, .any, .any, .any, .any, .any, .any, .any, .any, .any, .any, .any, .any, .any, .any, .any, .any, .any, .any, .any, .any, .any, .any, .any, .any, .any, .any, .any, .any, .any, .any, .any, .any, .any, .any, .any, .any, .any, .any, .any, .any, .any, .any, .any, .any, .any, .any, .any, .any, .any, .any, .any, .any, .any, .any, .any, .any, .any, .any, .any, .any, .any, .any, .any, .any, .any, .any, .any, .any, .any, .any, .any, .any, .any], [], 0⟩ = X0 v0 v1 v2 v3 v4 v5) → ∀ (v0 : Int) (v1 : Int) (v2 : Int) (v3 : Str) (v4 : Str) (v5 : Int), run (law24_LexerNames_m n) [.at [0, 0, 1, 0, 1, 1, 1], .lp m [0, 1, 0, 1, 1, 1], .blk 0, .cut [1, 1, 1, 1], .at [1, 1, 1, 1]] ⟨[.int .u8 v0, .int .u8 v1, .int .u8 v2, .any, .any, .any, .any, .str (sb v3), .str (sb v4), .int .i64 v5, .any, .any, .any, .any, .any, .any, .any, .any, .any, .any, .any, .any, .any, .any, .any, .any, .any, .any, .any, .any, .any, .any, .any, .any, .any, .any, .any, .any, .any, .any, .any, .any, .any, .any, .any, .any, .any, .any, .any, .any, .any, .any, .any, .any, .any, .any, .any, .any, .any, .any, .any, .any, .any, .any, .any, .any, .any, .any, .any, .any, .any, .any, .any, .any, .any, .any, .any, .any, .any, .any, .any, .any, .any, .any, .any, .any, .any, .any, .any, .any, .any, .any, .any, .any, .any, .any, .any, .any, .any, .any, .any, .any, .any, .any, .any, .any, .any, .any, .any, .any, .any, .any, .any, .any, .any, .any, .any, .any, .any, .any, .any, .any, .any, .any, .any, .any, .any, .any, .any, .any, .any, .any, .any, .any, .any, .any, .any, .any, .any, .any, .any, .any], [], 0⟩ = B X0 v0 v1 v2 v3 v4 v5 } := by
  apply Subtype.mk
  intro m X0 ih v0 v1 v2 v3 v4 v5
  simp (config := { maxSteps := 100000000 }) only [go_sem, Nat.reduceAdd, Nat.reduceSub, Nat.reduceLeDiff, Nat.reduceEqDiff, Nat.reduceBEq, Nat.reduceMul, Nat.reduceLT, Int.reduceLE, Int.reduceLT, Int.reduceToNat, Int.reduceBEq, Int.reduceEq, law24_LexerNames_f, law24_LexerNames_c, Tryd.f9, Option.getD_some, mixed, law24_LexerNames_n1, law24_LexerNames_n2, law24_LexerNames_l1_eq n, ih]
  exact rfl
noncomputable def law24_LexerNames_l2 (n : Nat) : Nat → Int → Int → Int → Str → Str → Int → Option Bool
  | 0, _, _, _, _, _, _ => none
  | m + 1, v0, v1, v2, v3, v4, v5 => (law24_LexerNames_b2 n).1 (law24_LexerNames_l2 n m) v0 v1 v2 v3 v4 v5
theorem law24_LexerNames_l2_eq (n : Nat) : ∀ (m : Nat), (∀ (v0 : Int) (v1 : Int) (v2 : Int) (v3 : Str) (v4 : Str) (v5 : Int), run (law24_LexerNames_m n) [.lq m [0, 1, 0, 1, 1, 1], .blk 0, .cut [1, 1, 1, 1], .at [1, 1, 1, 1]] ⟨[.int .u8 v0, .int .u8 v1, .int .u8 v2, .any, .any, .any, .any, .str (sb v3), .str (sb v4), .int .i64 v5, .any, .any, .any, .any, .any, .any, .any, .any, .any, .any, .any, .any, .any, .any, .any, .any, .any, .any, .any, .any, .any, .any, .any, .any, .any, .any, .any, .any, .any, .any, .any, .any, .any, .any, .any, .any, .any, .any, .any, .any, .any, .any, .any, .any, .any, .any, .any, .any, .any, .any, .any, .any, .any, .any, .any, .any, .any, .any, .any, .any, .any, .any, .any, .any, .any, .any, .any, .any, .any, .any, .any, .any, .any, .any, .any, .any, .any, .any, .any, .any, .any, .any, .any, .any, .any, .any, .any, .any, .any, .any, .any, .any, .any, .any, .any, .any, .any, .any, .any, .any, .any, .any, .any, .any, .any, .any, .any, .any, .any, .any, .any, .any, .any, .any, .any, .any, .any, .any, .any, .any, .any, .any, .any, .any, .any, .any, .any, .any, .any, .any, .any, .any], [], 0⟩ = law24_LexerNames_l2 n m v0 v1 v2 v3 v4 v5)
  | 0 => by intros; exact run_lq_zero
  | m + 1 => by
    have ih := law24_LexerNames_l2_eq n m
    intro v0 v1 v2 v3 v4 v5
    rw [run_lq_succ]
    exact (law24_LexerNames_b2 n).2  m _  ih v0 v1 v2 v3 v4 v5
noncomputable def law24_LexerNames_e (n : Nat) : { B : Int → Int → Int → Option Bool // ∀ (a0 : Int) (a1 : Int) (a2 : Int), run (law24_LexerNames_m n) [.at []] { slots := [(tyI .u8).enc a0, (tyI .u8).enc a1, (tyI .u8).enc a2] ++ List.replicate (142 - [(tyI .u8).enc a0, (tyI .u8).enc a1, (tyI .u8).enc a2].length) .any, heap := [] } = B a0 a1 a2 } := by
  apply Subtype.mk
  intro a0 a1 a2
  simp (config := { maxSteps := 100000000 }) only [go_sem, Nat.reduceAdd, Nat.reduceSub, Nat.reduceLeDiff, Nat.reduceEqDiff, Nat.reduceBEq, Nat.reduceMul, Nat.reduceLT, Int.reduceLE, Int.reduceLT, Int.reduceToNat, Int.reduceBEq, Int.reduceEq, law24_LexerNames_f, law24_LexerNames_c, Tryd.f9, Option.getD_some, mixed, law24_LexerNames_n1, law24_LexerNames_n2, law24_LexerNames_l1_eq n, law24_LexerNames_l2_eq n]
  exact rfl
noncomputable def law24_LexerNames : Nat → Int → Int → Int → Option Bool
  | 0, _, _, _ => none
  | n + 1, a0, a1, a2 => (law24_LexerNames_e n).1 a0 a1 a2
theorem law24_LexerNames_ok : ∀ (n : Nat) (a0 : Int) (a1 : Int) (a2 : Int) (r : Bool), law24_LexerNames n a0 a1 a2 = some r → FnC Tryd.prog 9 [(tyI .u8).enc a0, (tyI .u8).enc a1, (tyI .u8).enc a2] (fun v => v = tyB.enc r)
  | 0, _, _, _, _, h => by cases h
  | n + 1, a0, a1, a2, r, h => by
    exact fnC_run (M := law24_LexerNames_m n) ⟨(tabA_cons_ok (ent0_ok (law24_awake_ok n)) (tabA_cons_ok (ent2_ok (lexer_Scan_ok n)) (tabA_cons_ok (ent1_ok (lexer_Keyword_ok n)) tabA_nil_ok))), tabD_nil_ok, tabN_ok _, tabF_ok _, noY_ok, noE_ok⟩ Tryd.func9 rfl rfl ⟨(tyI .u8).nb 0 _, (tyI .u8).nb 0 _, (tyI .u8).nb 0 _, trivial⟩ Tryd.ntmps9 Tryd.results9 (fun σ hs => outR_ok (P := Tryd.prog) (rs := [.tmp 6]) (t := tyB) (σ := σ) (r := r) hs) (((law24_LexerNames_e n).2 a0 a1 a2).trans h)

noncomputable def law24_LexerPrefixes_m (n : Nat) : Mach Bool where
  body := (Tryd.f10.body).getD .skip
  P := Tryd.prog
  cl := tabA [(12, ent0  tyB (law24_awake n)), (13, ent2 tyS (tyL rowS) (ty3 (tyL Token.row) (tyI .i64) (tyI .i64)) (lexer_Scan n))]
  cd := tabD []
  nrm := tabN []
  cut := tabF []
  n := n
  out := outR Tryd.prog [.tmp 4] tyB
theorem law24_LexerPrefixes_f (n : Nat) : (law24_LexerPrefixes_m n).P = Tryd.prog ∧ (law24_LexerPrefixes_m n).cl = tabA [(12, ent0  tyB (law24_awake n)), (13, ent2 tyS (tyL rowS) (ty3 (tyL Token.row) (tyI .i64) (tyI .i64)) (lexer_Scan n))] ∧ (law24_LexerPrefixes_m n).cd = tabD [] ∧ (law24_LexerPrefixes_m n).nrm = tabN [] ∧ (law24_LexerPrefixes_m n).cut = tabF [] ∧ (law24_LexerPrefixes_m n).n = n ∧ (law24_LexerPrefixes_m n).out = outR Tryd.prog [.tmp 4] tyB := ⟨rfl, rfl, rfl, rfl, rfl, rfl, rfl⟩
theorem law24_LexerPrefixes_c (n : Nat) : (law24_LexerPrefixes_m n).body = (Tryd.f10.body).getD .skip := rfl
noncomputable def law24_LexerPrefixes_e (n : Nat) : { B : Str → Str → Option Bool // ∀ (a0 : Str) (a1 : Str), run (law24_LexerPrefixes_m n) [.at []] { slots := [tyS.enc a0, tyS.enc a1] ++ List.replicate (59 - [tyS.enc a0, tyS.enc a1].length) .any, heap := [] } = B a0 a1 } := by
  apply Subtype.mk
  intro a0 a1
  simp (config := { maxSteps := 100000000 }) only [go_sem, Nat.reduceAdd, Nat.reduceSub, Nat.reduceLeDiff, Nat.reduceEqDiff, Nat.reduceBEq, Nat.reduceMul, Nat.reduceLT, Int.reduceLE, Int.reduceLT, Int.reduceToNat, Int.reduceBEq, Int.reduceEq, law24_LexerPrefixes_f, law24_LexerPrefixes_c, Tryd.f10, Option.getD_some, mixed]
  exact rfl
noncomputable def law24_LexerPrefixes : Nat → Str → Str → Option Bool
  | 0, _, _ => none
  | n + 1, a0, a1 => (law24_LexerPrefixes_e n).1 a0 a1
theorem law24_LexerPrefixes_ok : ∀ (n : Nat) (a0 : Str) (a1 : Str) (r : Bool), law24_LexerPrefixes n a0 a1 = some r → FnC Tryd.prog 10 [tyS.enc a0, tyS.enc a1] (fun v => v = tyB.enc r)
  | 0, _, _, _, h => by cases h
  | n + 1, a0, a1, r, h => by
    exact fnC_run (M := law24_LexerPrefixes_m n) ⟨(tabA_cons_ok (ent0_ok (law24_awake_ok n)) (tabA_cons_ok (ent2_ok (lexer_Scan_ok n)) tabA_nil_ok)), tabD_nil_ok, tabN_ok _, tabF_ok _, noY_ok, noE_ok⟩ Tryd.func10 rfl rfl ⟨tyS.nb 0 _, tyS.nb 0 _, trivial⟩ Tryd.ntmps10 Tryd.results10 (fun σ hs => outR_ok (P := Tryd.prog) (rs := [.tmp 4]) (t := tyB) (σ := σ) (r := r) hs) (((law24_LexerPrefixes_e n).2 a0 a1).trans h)
end Go.Abs
