/- A part of the proof: what the functions compute. -/
import Derived.Test.YtocalpbkeegkbaaDataA
set_option linter.all false
open Nat renaming reduceAdd → q00, reduceSub → q01, reduceLeDiff → q02, reduceEqDiff → q03, reduceBEq → q04, reduceMul → q05, reduceLT → q06
open Int renaming reduceLE → q10, reduceLT → q11, reduceToNat → q12, reduceBEq → q13, reduceEq → q14
namespace Go.Abs
open Go.Proofs
set_option maxRecDepth 100000
set_option maxHeartbeats 4000000
set_option linter.unusedSimpArgs false
set_option linter.unusedVariables false
noncomputable def ref05_bind_n1 : Nrm := ⟨[], [], (zK :: zK :: zA :: zA :: zA :: zK :: zK :: zK :: zA16 []), [oA Term.row, oT Term.cel, oK], none, none⟩
noncomputable def ref05_bind_as : AL (Int × (Term × Unit)) := (alT (tyI .i64) (alA 0 (alT (tyC Term.cel) alN)))
attribute [go_sem] ref05_bind_as
noncomputable def ref05_bind_t (F : Int → Term → (List Term) → Option (((List Term) × Unit) × (Term × Unit))) := entX [.arg 1 []] (olC (ogA false Term.row) olN) ref05_bind_as (olC (ogA false Term.row) olN) (alT (tyC Term.cel) alN) (fun (b : ((List Term) × Unit)) (a : (Int × (Term × Unit))) => F a.1 a.2.1 b.1)
attribute [go_sem] ref05_bind_t
@[reducible] noncomputable def ref05_bind_m (n : Nat) : Mach (((List Term) × Unit) × (Term × Unit)) := mkA Try.prog Try.f27 n (outS Try.prog [.cell 6 25] [] [0] 1 (olC (ogA false Term.row) olN) (alT (tyC Term.cel) alN)) (nrm := tabN [([0, 1, 0, 1], ref05_bind_n1)]) (isC := tabI []) (isE := tabI [])
theorem ref05_bind_d (n : Nat) : drawP (ref05_bind_m n) [0, 0, 1, 0, 0, 1, 0, 1] = true := by kernel_rfl
theorem ref05_bind_o (n : Nat) : ordP (ref05_bind_m n) [0, 0, 1, 0, 0, 1, 0, 1] 3 8 = true ∧ ordP (ref05_bind_m n) [0, 0, 1, 0, 0, 1, 0, 1] 4 8 = true ∧ ordP (ref05_bind_m n) [0, 0, 1, 0, 0, 1, 0, 1] 5 8 = true := ⟨by kernel_rfl, by kernel_rfl, by kernel_rfl⟩
attribute [go_sem] ref05_bind_d ref05_bind_o ref05_bind_n1
noncomputable abbrev ref05_bind_s1 (v0 : Int) (v1 : Int) (r0 : List Term) (o1 : Term) (c0 : Nat) : AState := ⟨(.int .i64 v0 :: .acc 0 c0 :: .any :: .any :: .any :: .ptr 1 0 :: .ptr 2 0 :: .int .i64 v1 :: ay16 []), [.acc false 5 (mp Term.cells r0), .cells (Term.cells o1), .cells [.int .i64 0, .int .i64 0, .str (sb []), .lst true 0 [], .lst true 0 []]], 1, []⟩
abbrev ref05_bind_t1 := Int → Int → (List Term) → Term → Option (((List Term) × Unit) × (Term × Unit))
abbrev ref05_bind_g1 (n : Nat) (K : List Kt) (Z : ref05_bind_t1) : Prop := ∀ (v0 : Int) (v1 : Int) (r0 : List Term) (o1 : Term) (c0 : Nat), c0 = r0.length → run (ref05_bind_m n) K (ref05_bind_s1 v0 v1 r0 o1 c0) = Z v0 v1 r0 o1
attribute [go_sem] ref05_bind_s1
noncomputable def ref05_bind_b1 (n : Nat) : { B : ref05_bind_t1 → ref05_bind_t1 // ∀ m X0, ref05_bind_g1 n (.lq m [0, 1, 0, 1] :: [.blk 0, .cut [1, 1], .at [1, 1]]) X0 → ∀ (v0 : Int) (v1 : Int) (r0 : List Term) (o1 : Term), run (ref05_bind_m n) (.at [0, 0, 1, 0, 1] :: .lp m [0, 1, 0, 1] :: [.blk 0, .cut [1, 1], .at [1, 1]]) (ref05_bind_s1 v0 v1 r0 o1 (r0.length)) = B X0 v0 v1 r0 o1 } := by
  apply Subtype.mk
  intro m X0 ih v0 v1 r0 o1
  simp (maxSteps := 100000000) only [go_sem, q00, q01, q02, q03, q04, q05, q06, q10, q11, q12, q13, q14, Try.f27, Option.getD_some, mixed, ih]
  exact rfl
noncomputable def ref05_bind_l1 (n : Nat) : Nat → ref05_bind_t1 := lpF ((ref05_bind_b1 n).1)
theorem ref05_bind_l1_s {n : Nat} {m : Nat} : ref05_bind_l1 n (m + 1) = (ref05_bind_b1 n).1 (ref05_bind_l1 n m) := rfl
theorem ref05_bind_l1_eq (n : Nat) (m : Nat) : ref05_bind_g1 n (.lq m [0, 1, 0, 1] :: [.blk 0, .cut [1, 1], .at [1, 1]]) (ref05_bind_l1 n m) :=
  lpF_eq (G := fun m Z => ref05_bind_g1 n (.lq m [0, 1, 0, 1] :: [.blk 0, .cut [1, 1], .at [1, 1]]) Z) (fun _ _ _ _ _ _ => run_lq_zero) (fun m _ ih => by
    intro v0 v1 r0 o1 c0 ec0
    subst ec0
    rw [run_lq_succ]
    exact (ref05_bind_b1 n).2 _ _ ih v0 v1 r0 o1) m
noncomputable def ref05_bind_e (n : Nat) : { B : Int → Term → (List Term) → Option (((List Term) × Unit) × (Term × Unit)) // ∀ (a0 : Int) (a1 : Term) (o0 : (List Term)), run (ref05_bind_m n) [.at []] (iniX ref05_bind_as (olC (ogA false Term.row) olN) (o0, ()) (a0, a1, ()) 24) = B a0 a1 o0 } := by
  apply Subtype.mk
  intro a0 a1 o0
  simp (maxSteps := 100000000) only [go_sem, q00, q01, q02, q03, q04, q05, q06, q10, q11, q12, q13, q14, Try.f27, Option.getD_some, mixed, ref05_bind_l1_eq n]
  exact rfl
noncomputable def ref05_bind := fu fun n => (ref05_bind_e n).1
theorem ref05_bind_ok : ∀ (n : Nat) (a0 : Int) (a1 : Term) (o0 : (List Term)) (r : (((List Term) × Unit) × (Term × Unit))), ref05_bind n a0 a1 o0 = some r → SG Try.prog 27 ref05_bind_as (olC (ogA false Term.row) olN) (o0, ()) (a0, a1, ()) (olC (ogA false Term.row) olN) (alT (tyC Term.cel) alN) r
  | 0, _, _, _, _, h => by cases h
  | n + 1, a0, a1, o0, r, h => by
    exact okG (((ref05_bind_e n).2 a0 a1 o0).trans h) (gd tabA_nil_ok tabD_nil_ok) Try.func27 Try.ntmps27 Try.results27

noncomputable def ref03_Size_n1 : Nrm := ⟨[], [], (zA :: zK :: zA :: zK :: zK :: zA16 []), [oT Term.cel], none, none⟩
@[reducible] noncomputable def ref03_Size_m (X : Term → Option Int) (n : Nat) : Mach Int := mkA Try.prog Try.f42 n (outR Try.prog [.tmp 2] (tyI .i64)) (cl := tabA [(42, ent1 (tyC Term.cel) (tyI .i64) X)]) (nrm := tabN [([0, 1, 0, 1, 1], ref03_Size_n1)])
attribute [go_sem] ref03_Size_n1
noncomputable abbrev ref03_Size_s1 (v0 : Int) (v1 : Int) (o0 : Term) : AState := ⟨(.any :: .ptr 0 0 :: .any :: .int .i64 v0 :: .int .i64 v1 :: ay16 []), [.cells (Term.cells o0)], 0, []⟩
abbrev ref03_Size_t1 := Int → Int → Term → Option Int
abbrev ref03_Size_g1 (X : Term → Option Int) (n : Nat) (K : List Kt) (Z : ref03_Size_t1) : Prop := ∀ (v0 : Int) (v1 : Int) (o0 : Term), run (ref03_Size_m X n) K (ref03_Size_s1 v0 v1 o0) = Z v0 v1 o0
attribute [go_sem] ref03_Size_s1
noncomputable def ref03_Size_b1 (X : Term → Option Int) (n : Nat) : { B : ref03_Size_t1 → ref03_Size_t1 // ∀ m X0, ref03_Size_g1 X n (.lq m [0, 1, 0, 1, 1] :: [.blk 0, .cut [1, 1, 1], .at [1, 1, 1]]) X0 → ref03_Size_g1 X n (.at [0, 0, 1, 0, 1, 1] :: .lp m [0, 1, 0, 1, 1] :: [.blk 0, .cut [1, 1, 1], .at [1, 1, 1]]) (B X0) } := by
  apply Subtype.mk
  intro m X0 ih v0 v1 o0
  simp (maxSteps := 100000000) only [go_sem, q00, q01, q02, q03, q04, q05, q06, q10, q11, q12, q13, q14, Try.f42, Option.getD_some, mixed, ih]
  exact rfl
noncomputable def ref03_Size_l1 (X : Term → Option Int) (n : Nat) : Nat → ref03_Size_t1 := lpF ((ref03_Size_b1 X n).1)
theorem ref03_Size_l1_s (X : Term → Option Int) {n : Nat} {m : Nat} : ref03_Size_l1 X n (m + 1) = (ref03_Size_b1 X n).1 (ref03_Size_l1 X n m) := rfl
theorem ref03_Size_l1_eq (X : Term → Option Int) (n : Nat) (m : Nat) : ref03_Size_g1 X n (.lq m [0, 1, 0, 1, 1] :: [.blk 0, .cut [1, 1, 1], .at [1, 1, 1]]) (ref03_Size_l1 X n m) :=
  lpF_eq (G := fun m Z => ref03_Size_g1 X n (.lq m [0, 1, 0, 1, 1] :: [.blk 0, .cut [1, 1, 1], .at [1, 1, 1]]) Z) (fun _ _ _ => run_lq_zero) (fun m _ ih v0 v1 o0 => run_lq_succ.trans ((ref03_Size_b1 X n).2 _ _ ih v0 v1 o0)) m
noncomputable def ref03_Size_e (X : Term → Option Int) (n : Nat) : { B : Term → Option Int // ∀ (a0 : Term), run (ref03_Size_m X n) [.at []] (ini [(tyC Term.cel).enc a0] 21) = B a0 } := by
  apply Subtype.mk
  intro a0
  simp (maxSteps := 100000000) only [go_sem, q00, q01, q02, q03, q04, q05, q06, q10, q11, q12, q13, q14, Try.f42, Option.getD_some, mixed, ref03_Size_l1_eq X n]
  exact rfl
noncomputable def ref03_Size : Nat → Term → Option Int
  | 0, _ => none
  | n + 1, a0 => (ref03_Size_e (ref03_Size n) n).1 a0
theorem ref03_Size_ok : ∀ (n : Nat) (a0 : Term) (r : Int), ref03_Size n a0 = some r → FnC Try.prog 42 [(tyC Term.cel).enc a0] (fun v => v = (tyI .i64).enc r)
  | 0, _, _, h => by cases h
  | n + 1, a0, r, h => by
    have ih_ref03_Size := ref03_Size_ok n
    exact okC (((ref03_Size_e (ref03_Size n) n).2 a0).trans h) (gd (tabA_cons_ok (ent1_ok (ih_ref03_Size)) tabA_nil_ok) tabD_nil_ok) Try.func42 ⟨(tyC Term.cel).nb 0 _, trivial⟩ Try.ntmps42 Try.results42

noncomputable def ref03_Depth_n1 : Nrm := ⟨[], [], (zA :: zK :: zA :: zK :: zK :: zA16 (zA :: [])), [oT Term.cel], none, none⟩
@[reducible] noncomputable def ref03_Depth_m (X : Term → Option Int) (n : Nat) : Mach Int := mkA Try.prog Try.f43 n (outR Try.prog [.tmp 2] (tyI .i64)) (cl := tabA [(43, ent1 (tyC Term.cel) (tyI .i64) X)]) (nrm := tabN [([0, 1, 0, 1, 1], ref03_Depth_n1)])
attribute [go_sem] ref03_Depth_n1
noncomputable abbrev ref03_Depth_s1 (v0 : Int) (v1 : Int) (o0 : Term) : AState := ⟨(.any :: .ptr 0 0 :: .any :: .int .i64 v0 :: .int .i64 v1 :: ay16 (.any :: [])), [.cells (Term.cells o0)], 0, []⟩
abbrev ref03_Depth_t1 := Int → Int → Term → Option Int
abbrev ref03_Depth_g1 (X : Term → Option Int) (n : Nat) (K : List Kt) (Z : ref03_Depth_t1) : Prop := ∀ (v0 : Int) (v1 : Int) (o0 : Term), run (ref03_Depth_m X n) K (ref03_Depth_s1 v0 v1 o0) = Z v0 v1 o0
attribute [go_sem] ref03_Depth_s1
noncomputable def ref03_Depth_b1 (X : Term → Option Int) (n : Nat) : { B : ref03_Depth_t1 → ref03_Depth_t1 // ∀ m X0, ref03_Depth_g1 X n (.lq m [0, 1, 0, 1, 1] :: [.blk 0, .cut [1, 1, 1], .at [1, 1, 1]]) X0 → ref03_Depth_g1 X n (.at [0, 0, 1, 0, 1, 1] :: .lp m [0, 1, 0, 1, 1] :: [.blk 0, .cut [1, 1, 1], .at [1, 1, 1]]) (B X0) } := by
  apply Subtype.mk
  intro m X0 ih v0 v1 o0
  simp (maxSteps := 100000000) only [go_sem, q00, q01, q02, q03, q04, q05, q06, q10, q11, q12, q13, q14, Try.f43, Option.getD_some, mixed, ih]
  exact rfl
noncomputable def ref03_Depth_l1 (X : Term → Option Int) (n : Nat) : Nat → ref03_Depth_t1 := lpF ((ref03_Depth_b1 X n).1)
theorem ref03_Depth_l1_s (X : Term → Option Int) {n : Nat} {m : Nat} : ref03_Depth_l1 X n (m + 1) = (ref03_Depth_b1 X n).1 (ref03_Depth_l1 X n m) := rfl
theorem ref03_Depth_l1_eq (X : Term → Option Int) (n : Nat) (m : Nat) : ref03_Depth_g1 X n (.lq m [0, 1, 0, 1, 1] :: [.blk 0, .cut [1, 1, 1], .at [1, 1, 1]]) (ref03_Depth_l1 X n m) :=
  lpF_eq (G := fun m Z => ref03_Depth_g1 X n (.lq m [0, 1, 0, 1, 1] :: [.blk 0, .cut [1, 1, 1], .at [1, 1, 1]]) Z) (fun _ _ _ => run_lq_zero) (fun m _ ih v0 v1 o0 => run_lq_succ.trans ((ref03_Depth_b1 X n).2 _ _ ih v0 v1 o0)) m
noncomputable def ref03_Depth_e (X : Term → Option Int) (n : Nat) : { B : Term → Option Int // ∀ (a0 : Term), run (ref03_Depth_m X n) [.at []] (ini [(tyC Term.cel).enc a0] 22) = B a0 } := by
  apply Subtype.mk
  intro a0
  simp (maxSteps := 100000000) only [go_sem, q00, q01, q02, q03, q04, q05, q06, q10, q11, q12, q13, q14, Try.f43, Option.getD_some, mixed, ref03_Depth_l1_eq X n]
  exact rfl
noncomputable def ref03_Depth : Nat → Term → Option Int
  | 0, _ => none
  | n + 1, a0 => (ref03_Depth_e (ref03_Depth n) n).1 a0
theorem ref03_Depth_ok : ∀ (n : Nat) (a0 : Term) (r : Int), ref03_Depth n a0 = some r → FnC Try.prog 43 [(tyC Term.cel).enc a0] (fun v => v = (tyI .i64).enc r)
  | 0, _, _, h => by cases h
  | n + 1, a0, r, h => by
    have ih_ref03_Depth := ref03_Depth_ok n
    exact okC (((ref03_Depth_e (ref03_Depth n) n).2 a0).trans h) (gd (tabA_cons_ok (ent1_ok (ih_ref03_Depth)) tabA_nil_ok) tabD_nil_ok) Try.func43 ⟨(tyC Term.cel).nb 0 _, trivial⟩ Try.ntmps43 Try.results43

@[reducible] noncomputable def ref03_Kids_m (n : Nat) : Mach Int := mkA Try.prog Try.f62 n (outR Try.prog [.tmp 2] (tyI .i64))
noncomputable def ref03_Kids_e (n : Nat) : { B : Int → Option Int // ∀ (a0 : Int), run (ref03_Kids_m n) [.at []] (ini [(tyI .i64).enc a0] 15) = B a0 } := by
  apply Subtype.mk
  intro a0
  simp (maxSteps := 100000000) only [go_sem, q00, q01, q02, q03, q04, q05, q06, q10, q11, q12, q13, q14, Try.f62, Option.getD_some, mixed]
  exact rfl
noncomputable def ref03_Kids := fu fun n => (ref03_Kids_e n).1
theorem ref03_Kids_ok : ∀ (n : Nat) (a0 : Int) (r : Int), ref03_Kids n a0 = some r → FnC Try.prog 62 [(tyI .i64).enc a0] (fun v => v = (tyI .i64).enc r)
  | 0, _, _, h => by cases h
  | n + 1, a0, r, h => by
    exact okC (((ref03_Kids_e n).2 a0).trans h) (gd tabA_nil_ok tabD_nil_ok) Try.func62 ⟨(tyI .i64).nb 0 _, trivial⟩ Try.ntmps62 Try.results62

@[reducible] noncomputable def ref03_letter_m (n : Nat) : Mach Bool := mkA Try.prog Try.f31 n (outR Try.prog [.tmp 2] tyB)
noncomputable def ref03_letter_e (n : Nat) : { B : Int → Option Bool // ∀ (a0 : Int), run (ref03_letter_m n) [.at []] (ini [(tyI .u8).enc a0] 21) = B a0 } := by
  apply Subtype.mk
  intro a0
  simp (maxSteps := 100000000) only [go_sem, q00, q01, q02, q03, q04, q05, q06, q10, q11, q12, q13, q14, Try.f31, Option.getD_some, mixed]
  exact rfl
noncomputable def ref03_letter := fu fun n => (ref03_letter_e n).1
theorem ref03_letter_ok : ∀ (n : Nat) (a0 : Int) (r : Bool), ref03_letter n a0 = some r → FnC Try.prog 31 [(tyI .u8).enc a0] (fun v => v = tyB.enc r)
  | 0, _, _, h => by cases h
  | n + 1, a0, r, h => by
    exact okC (((ref03_letter_e n).2 a0).trans h) (gd tabA_nil_ok tabD_nil_ok) Try.func31 ⟨(tyI .u8).nb 0 _, trivial⟩ Try.ntmps31 Try.results31

noncomputable def ref01_Valid_n1 : Nrm := ⟨[], [], (zA :: zK :: zA :: zK :: zA16 (zA16 (zA16 (zA4 (zA4 (zA4 (zA :: zA :: zA :: []))))))), [oT Level.cel], none, none⟩
@[reducible] noncomputable def ref01_Valid_m (n : Nat) : Mach Bool := mkA Try.prog Try.f63 n (outR Try.prog [.tmp 2] tyB) (nrm := tabN [([0, 1, 0, 1, 1], ref01_Valid_n1)]) (isC := tabI []) (isE := tabI [])
theorem ref01_Valid_d (n : Nat) : drawP (ref01_Valid_m n) [0, 0, 1, 1, 0, 0, 1, 0, 0, 1, 0, 1, 1] = true := by kernel_rfl
attribute [go_sem] ref01_Valid_d ref01_Valid_n1
noncomputable abbrev ref01_Valid_s1 (v0 : Int) (o0 : Level) : AState := ⟨(.any :: .ptr 0 0 :: .any :: .int .i64 v0 :: ay16 (ay16 (ay16 (ay4 (ay4 (ay4 (.any :: .any :: .any :: []))))))), [.cells (Level.cells o0)], 0, []⟩
abbrev ref01_Valid_t1 := Int → Level → Option Bool
abbrev ref01_Valid_g1 (n : Nat) (K : List Kt) (Z : ref01_Valid_t1) : Prop := ∀ (v0 : Int) (o0 : Level), run (ref01_Valid_m n) K (ref01_Valid_s1 v0 o0) = Z v0 o0
attribute [go_sem] ref01_Valid_s1
noncomputable def ref01_Valid_b1 (n : Nat) : { B : ref01_Valid_t1 → ref01_Valid_t1 // ∀ m X0, ref01_Valid_g1 n (.lq m [0, 1, 0, 1, 1] :: [.blk 0, .cut [1, 1, 1], .at [1, 1, 1]]) X0 → ref01_Valid_g1 n (.at [0, 0, 1, 0, 1, 1] :: .lp m [0, 1, 0, 1, 1] :: [.blk 0, .cut [1, 1, 1], .at [1, 1, 1]]) (B X0) } := by
  apply Subtype.mk
  intro m X0 ih v0 o0
  simp (maxSteps := 100000000) only [go_sem, q00, q01, q02, q03, q04, q05, q06, q10, q11, q12, q13, q14, Try.f63, Option.getD_some, mixed, ih]
  exact rfl
noncomputable def ref01_Valid_l1 (n : Nat) : Nat → ref01_Valid_t1 := lpF ((ref01_Valid_b1 n).1)
theorem ref01_Valid_l1_s {n : Nat} {m : Nat} : ref01_Valid_l1 n (m + 1) = (ref01_Valid_b1 n).1 (ref01_Valid_l1 n m) := rfl
theorem ref01_Valid_l1_eq (n : Nat) (m : Nat) : ref01_Valid_g1 n (.lq m [0, 1, 0, 1, 1] :: [.blk 0, .cut [1, 1, 1], .at [1, 1, 1]]) (ref01_Valid_l1 n m) :=
  lpF_eq (G := fun m Z => ref01_Valid_g1 n (.lq m [0, 1, 0, 1, 1] :: [.blk 0, .cut [1, 1, 1], .at [1, 1, 1]]) Z) (fun _ _ => run_lq_zero) (fun m _ ih v0 o0 => run_lq_succ.trans ((ref01_Valid_b1 n).2 _ _ ih v0 o0)) m
noncomputable def ref01_Valid_e (n : Nat) : { B : Level → Option Bool // ∀ (a0 : Level), run (ref01_Valid_m n) [.at []] (ini [(tyC Level.cel).enc a0] 67) = B a0 } := by
  apply Subtype.mk
  intro a0
  simp (maxSteps := 100000000) only [go_sem, q00, q01, q02, q03, q04, q05, q06, q10, q11, q12, q13, q14, Try.f63, Option.getD_some, mixed, ref01_Valid_l1_eq n]
  exact rfl
noncomputable def ref01_Valid := fu fun n => (ref01_Valid_e n).1
theorem ref01_Valid_ok : ∀ (n : Nat) (a0 : Level) (r : Bool), ref01_Valid n a0 = some r → FnC Try.prog 63 [(tyC Level.cel).enc a0] (fun v => v = tyB.enc r)
  | 0, _, _, h => by cases h
  | n + 1, a0, r, h => by
    exact okC (((ref01_Valid_e n).2 a0).trans h) (gd tabA_nil_ok tabD_nil_ok) Try.func63 ⟨(tyC Level.cel).nb 0 _, trivial⟩ Try.ntmps63 Try.results63
end Go.Abs
namespace Go.Abs
open Go.Proofs
set_option maxRecDepth 100000
set_option maxHeartbeats 4000000
set_option linter.unusedSimpArgs false
set_option linter.unusedVariables false
@[reducible] noncomputable def ref03_Below_m (n : Nat) : Mach Int := mkA Try.prog Try.f56 n (outR Try.prog [.tmp 4] (tyI .i64))
noncomputable def ref03_Below_e (n : Nat) : { B : Int → Int → Option Int // ∀ (a0 : Int) (a1 : Int), run (ref03_Below_m n) [.at []] (ini [(tyI .i64).enc a0, (tyI .i64).enc a1] 27) = B a0 a1 } := by
  apply Subtype.mk
  intro a0 a1
  simp (maxSteps := 100000000) only [go_sem, q00, q01, q02, q03, q04, q05, q06, q10, q11, q12, q13, q14, Try.f56, Option.getD_some, mixed]
  exact rfl
noncomputable def ref03_Below := fu fun n => (ref03_Below_e n).1
theorem ref03_Below_ok : ∀ (n : Nat) (a0 : Int) (a1 : Int) (r : Int), ref03_Below n a0 a1 = some r → FnC Try.prog 56 [(tyI .i64).enc a0, (tyI .i64).enc a1] (fun v => v = (tyI .i64).enc r)
  | 0, _, _, _, h => by cases h
  | n + 1, a0, a1, r, h => by
    exact okC (((ref03_Below_e n).2 a0 a1).trans h) (gd tabA_nil_ok tabD_nil_ok) Try.func56 ⟨(tyI .i64).nb 0 _, (tyI .i64).nb 0 _, trivial⟩ Try.ntmps56 Try.results56

@[reducible] noncomputable def law13_constant_m (n : Nat) : Mach Term := mkA Try.prog Try.f14 n (outR Try.prog [.cell 2 25] (tyC Term.cel))
noncomputable def law13_constant_e (n : Nat) : { B : Str → Option Term // ∀ (a0 : Str), run (law13_constant_m n) [.at []] (ini [tyS.enc a0] 5) = B a0 } := by
  apply Subtype.mk
  intro a0
  simp (maxSteps := 100000000) only [go_sem, q00, q01, q02, q03, q04, q05, q06, q10, q11, q12, q13, q14, Try.f14, Option.getD_some, mixed]
  exact rfl
noncomputable def law13_constant := fu fun n => (law13_constant_e n).1
theorem law13_constant_ok : ∀ (n : Nat) (a0 : Str) (r : Term), law13_constant n a0 = some r → FnC Try.prog 14 [tyS.enc a0] (fun v => v = (tyC Term.cel).enc r)
  | 0, _, _, h => by cases h
  | n + 1, a0, r, h => by
    exact okC (((law13_constant_e n).2 a0).trans h) (gd tabA_nil_ok tabD_nil_ok) Try.func14 ⟨tyS.nb 0 _, trivial⟩ Try.ntmps14 Try.results14

@[reducible] noncomputable def law13_arrow_m (n : Nat) : Mach Term := mkA Try.prog Try.f8 n (outR Try.prog [.cell 4 25] (tyC Term.cel))
noncomputable def law13_arrow_e (n : Nat) : { B : Term → Term → Option Term // ∀ (a0 : Term) (a1 : Term), run (law13_arrow_m n) [.at []] (ini [(tyC Term.cel).enc a0, (tyC Term.cel).enc a1] 9) = B a0 a1 } := by
  apply Subtype.mk
  intro a0 a1
  simp (maxSteps := 100000000) only [go_sem, q00, q01, q02, q03, q04, q05, q06, q10, q11, q12, q13, q14, Try.f8, Option.getD_some, mixed]
  exact rfl
noncomputable def law13_arrow := fu fun n => (law13_arrow_e n).1
theorem law13_arrow_ok : ∀ (n : Nat) (a0 : Term) (a1 : Term) (r : Term), law13_arrow n a0 a1 = some r → FnC Try.prog 8 [(tyC Term.cel).enc a0, (tyC Term.cel).enc a1] (fun v => v = (tyC Term.cel).enc r)
  | 0, _, _, _, h => by cases h
  | n + 1, a0, a1, r, h => by
    exact okC (((law13_arrow_e n).2 a0 a1).trans h) (gd tabA_nil_ok tabD_nil_ok) Try.func8 ⟨(tyC Term.cel).nb 0 _, (tyC Term.cel).nb 0 _, trivial⟩ Try.ntmps8 Try.results8

@[reducible] noncomputable def law13_one_m (n : Nat) : Mach Decl := mkA Try.prog Try.f15 n (outR Try.prog [.cell 2 31] (tyC Decl.cel))
noncomputable def law13_one_e (n : Nat) : { B : Term → Option Decl // ∀ (a0 : Term), run (law13_one_m n) [.at []] (ini [(tyC Term.cel).enc a0] 10) = B a0 } := by
  apply Subtype.mk
  intro a0
  simp (maxSteps := 100000000) only [go_sem, q00, q01, q02, q03, q04, q05, q06, q10, q11, q12, q13, q14, Try.f15, Option.getD_some, mixed]
  exact rfl
noncomputable def law13_one := fu fun n => (law13_one_e n).1
theorem law13_one_ok : ∀ (n : Nat) (a0 : Term) (r : Decl), law13_one n a0 = some r → FnC Try.prog 15 [(tyC Term.cel).enc a0] (fun v => v = (tyC Decl.cel).enc r)
  | 0, _, _, h => by cases h
  | n + 1, a0, r, h => by
    exact okC (((law13_one_e n).2 a0).trans h) (gd tabA_nil_ok tabD_nil_ok) Try.func15 ⟨(tyC Term.cel).nb 0 _, trivial⟩ Try.ntmps15 Try.results15

noncomputable def telescope_All_n1 : Nrm := ⟨[(4, 5, true)], [], (zA :: zK :: zA :: zK :: zK :: zA16 (zA4 (zA :: zA :: []))), [oT Term.cel, oK, oA Term.row], none, none⟩
@[reducible] noncomputable def telescope_All_m (n : Nat) : Mach ((List Term) × Term) := mkA Try.prog Try.f33 n (outR Try.prog [.tmp 2, .cell 3 25] (ty2 (tyL Term.row) (tyC Term.cel))) (nrm := tabN [([0, 0, 1, 1], telescope_All_n1)]) (isC := tabI []) (isE := tabI [])
theorem telescope_All_d (n : Nat) : drawP (telescope_All_m n) [0, 1, 1, 1] = true := by kernel_rfl
theorem telescope_All_o (n : Nat) : ordP (telescope_All_m n) [0, 1, 1, 1] 1 3 = true := by kernel_rfl
attribute [go_sem] telescope_All_d telescope_All_o telescope_All_n1
noncomputable abbrev telescope_All_s1 (o0 : Term) (r2 : List Term) (c2 : Nat) : AState := ⟨(.any :: .ptr 0 0 :: .any :: .ptr 1 0 :: .acc 2 c2 :: ay16 (ay4 (.any :: .any :: []))), [.cells (Term.cells o0), .cells [.int .i64 0, .int .i64 0, .str (sb []), .lst true 0 [], .lst true 0 []], .acc true 5 (mp Term.cells r2)], 0, []⟩
abbrev telescope_All_t1 := Term → (List Term) → Option ((List Term) × Term)
abbrev telescope_All_g1 (n : Nat) (K : List Kt) (Z : telescope_All_t1) : Prop := ∀ (o0 : Term) (r2 : List Term) (c2 : Nat), c2 = r2.length → run (telescope_All_m n) K (telescope_All_s1 o0 r2 c2) = Z o0 r2
attribute [go_sem] telescope_All_s1
noncomputable def telescope_All_b1 (n : Nat) : { B : telescope_All_t1 → telescope_All_t1 // ∀ m X0, telescope_All_g1 n (.lq m [0, 0, 1, 1] :: [.blk 0, .cut [1, 1, 1], .at [1, 1, 1]]) X0 → ∀ (o0 : Term) (r2 : List Term), run (telescope_All_m n) (.at [0, 0, 0, 1, 1] :: .lp m [0, 0, 1, 1] :: [.blk 0, .cut [1, 1, 1], .at [1, 1, 1]]) (telescope_All_s1 o0 r2 (r2.length)) = B X0 o0 r2 } := by
  apply Subtype.mk
  intro m X0 ih o0 r2
  simp (maxSteps := 100000000) only [go_sem, q00, q01, q02, q03, q04, q05, q06, q10, q11, q12, q13, q14, Try.f33, Option.getD_some, mixed, ih]
  exact rfl
noncomputable def telescope_All_l1 (n : Nat) : Nat → telescope_All_t1 := lpF ((telescope_All_b1 n).1)
theorem telescope_All_l1_s {n : Nat} {m : Nat} : telescope_All_l1 n (m + 1) = (telescope_All_b1 n).1 (telescope_All_l1 n m) := rfl
theorem telescope_All_l1_eq (n : Nat) (m : Nat) : telescope_All_g1 n (.lq m [0, 0, 1, 1] :: [.blk 0, .cut [1, 1, 1], .at [1, 1, 1]]) (telescope_All_l1 n m) :=
  lpF_eq (G := fun m Z => telescope_All_g1 n (.lq m [0, 0, 1, 1] :: [.blk 0, .cut [1, 1, 1], .at [1, 1, 1]]) Z) (fun _ _ _ _ => run_lq_zero) (fun m _ ih => by
    intro o0 r2 c2 ec2
    subst ec2
    rw [run_lq_succ]
    exact (telescope_All_b1 n).2 _ _ ih o0 r2) m
noncomputable def telescope_All_e (n : Nat) : { B : Term → Option ((List Term) × Term) // ∀ (a0 : Term), run (telescope_All_m n) [.at []] (ini [(tyC Term.cel).enc a0] 27) = B a0 } := by
  apply Subtype.mk
  intro a0
  simp (maxSteps := 100000000) only [go_sem, q00, q01, q02, q03, q04, q05, q06, q10, q11, q12, q13, q14, Try.f33, Option.getD_some, mixed, telescope_All_l1_eq n]
  exact rfl
noncomputable def telescope_All := fu fun n => (telescope_All_e n).1
theorem telescope_All_ok : ∀ (n : Nat) (a0 : Term) (r : ((List Term) × Term)), telescope_All n a0 = some r → FnC Try.prog 33 [(tyC Term.cel).enc a0] (fun v => v = (ty2 (tyL Term.row) (tyC Term.cel)).enc r)
  | 0, _, _, h => by cases h
  | n + 1, a0, r, h => by
    exact okC (((telescope_All_e n).2 a0).trans h) (gd tabA_nil_ok tabD_nil_ok) Try.func33 ⟨(tyC Term.cel).nb 0 _, trivial⟩ Try.ntmps33 Try.results33

noncomputable def slices_Reverse_Term_n1 : Nrm := ⟨[], [], (zK :: zA :: zK :: zK :: zA16 (zA4 (zA4 []))), [oA Term.row], none, none⟩
@[reducible] noncomputable def slices_Reverse_Term_m (n : Nat) : Mach (((List Term) × Unit) × Unit) := mkA Try.prog Try.f45 n (outG Try.prog [] (osC (oaT false Term.row) osN) rsN 1) (nrm := tabN [([0, 1], slices_Reverse_Term_n1)]) (isC := tabI []) (isE := tabI [])
theorem slices_Reverse_Term_d (n : Nat) : drawP (slices_Reverse_Term_m n) [0, 0, 1, 0, 0, 1] = true := by kernel_rfl
theorem slices_Reverse_Term_o (n : Nat) : ordP (slices_Reverse_Term_m n) [0, 0, 1, 0, 0, 1] 6 13 = true ∧ ordP (slices_Reverse_Term_m n) [0, 0, 1, 0, 0, 1] 7 13 = true ∧ ordP (slices_Reverse_Term_m n) [0, 0, 1, 0, 0, 1] 10 13 = true ∧ ordP (slices_Reverse_Term_m n) [0, 0, 1, 0, 0, 1] 11 13 = true ∧ ordP (slices_Reverse_Term_m n) [0, 0, 1, 0, 0, 1] 12 13 = true ∧ ordP (slices_Reverse_Term_m n) [0, 0, 1, 0, 0, 1] 13 14 = true ∧ ordP (slices_Reverse_Term_m n) [0, 0, 1, 0, 0, 1] 6 15 = true ∧ ordP (slices_Reverse_Term_m n) [0, 0, 1, 0, 0, 1] 7 15 = true ∧ ordP (slices_Reverse_Term_m n) [0, 0, 1, 0, 0, 1] 10 15 = true ∧ ordP (slices_Reverse_Term_m n) [0, 0, 1, 0, 0, 1] 11 15 = true ∧ ordP (slices_Reverse_Term_m n) [0, 0, 1, 0, 0, 1] 12 15 = true ∧ ordP (slices_Reverse_Term_m n) [0, 0, 1, 0, 0, 1] 13 15 = true ∧ ordP (slices_Reverse_Term_m n) [0, 0, 1, 0, 0, 1] 14 15 = true := ⟨by kernel_rfl, by kernel_rfl, by kernel_rfl, by kernel_rfl, by kernel_rfl, by kernel_rfl, by kernel_rfl, by kernel_rfl, by kernel_rfl, by kernel_rfl, by kernel_rfl, by kernel_rfl, by kernel_rfl⟩
attribute [go_sem] slices_Reverse_Term_d slices_Reverse_Term_o slices_Reverse_Term_n1
noncomputable abbrev slices_Reverse_Term_s1 (v0 : Int) (v1 : Int) (r0 : List Term) (c0 : Nat) : AState := ⟨(.acc 0 c0 :: .any :: .int .i64 v0 :: .int .i64 v1 :: ay16 (ay4 (ay4 []))), [.acc false 5 (mp Term.cells r0)], 1, []⟩
abbrev slices_Reverse_Term_t1 := Int → Int → (List Term) → Option (((List Term) × Unit) × Unit)
abbrev slices_Reverse_Term_g1 (n : Nat) (K : List Kt) (Z : slices_Reverse_Term_t1) : Prop := ∀ (v0 : Int) (v1 : Int) (r0 : List Term) (c0 : Nat), c0 = r0.length → run (slices_Reverse_Term_m n) K (slices_Reverse_Term_s1 v0 v1 r0 c0) = Z v0 v1 r0
attribute [go_sem] slices_Reverse_Term_s1
noncomputable def slices_Reverse_Term_b1 (n : Nat) : { B : slices_Reverse_Term_t1 → slices_Reverse_Term_t1 // ∀ m X0, slices_Reverse_Term_g1 n (.lq m [0, 1] :: [.blk 0]) X0 → ∀ (v0 : Int) (v1 : Int) (r0 : List Term), run (slices_Reverse_Term_m n) (.at [0, 0, 1] :: .lp m [0, 1] :: [.blk 0]) (slices_Reverse_Term_s1 v0 v1 r0 (r0.length)) = B X0 v0 v1 r0 } := by
  apply Subtype.mk
  intro m X0 ih v0 v1 r0
  simp (maxSteps := 100000000) only [go_sem, q00, q01, q02, q03, q04, q05, q06, q10, q11, q12, q13, q14, Try.f45, Option.getD_some, mixed, ih]
  exact rfl
noncomputable def slices_Reverse_Term_l1 (n : Nat) : Nat → slices_Reverse_Term_t1 := lpF ((slices_Reverse_Term_b1 n).1)
theorem slices_Reverse_Term_l1_s {n : Nat} {m : Nat} : slices_Reverse_Term_l1 n (m + 1) = (slices_Reverse_Term_b1 n).1 (slices_Reverse_Term_l1 n m) := rfl
theorem slices_Reverse_Term_l1_eq (n : Nat) (m : Nat) : slices_Reverse_Term_g1 n (.lq m [0, 1] :: [.blk 0]) (slices_Reverse_Term_l1 n m) :=
  lpF_eq (G := fun m Z => slices_Reverse_Term_g1 n (.lq m [0, 1] :: [.blk 0]) Z) (fun _ _ _ _ _ => run_lq_zero) (fun m _ ih => by
    intro v0 v1 r0 c0 ec0
    subst ec0
    rw [run_lq_succ]
    exact (slices_Reverse_Term_b1 n).2 _ _ ih v0 v1 r0) m
noncomputable def slices_Reverse_Term_e (n : Nat) : { B : (List Term) → Option (((List Term) × Unit) × Unit) // ∀ (a0 : (List Term)), run (slices_Reverse_Term_m n) [.at []] (ini ((asA 0 (fun (b : ((List Term) × Unit)) => b.1.length) asN).enc (a0, ()) ()) 28 ((osC (oaT false Term.row) osN).enc (a0, ()))) = B a0 } := by
  apply Subtype.mk
  intro a0
  simp (maxSteps := 100000000) only [go_sem, q00, q01, q02, q03, q04, q05, q06, q10, q11, q12, q13, q14, Try.f45, Option.getD_some, mixed, slices_Reverse_Term_l1_eq n]
  exact rfl
noncomputable def slices_Reverse_Term := fu fun n => (slices_Reverse_Term_e n).1
theorem slices_Reverse_Term_ok : ∀ (n : Nat) (a0 : (List Term)) (r : (((List Term) × Unit) × Unit)), slices_Reverse_Term n a0 = some r → FnG Try.prog 45 ((asA 0 (fun (b : ((List Term) × Unit)) => b.1.length) asN).enc (a0, ()) ()) ((osC (oaT false Term.row) osN).enc (a0, ())) (fun o H' => o = .ret (tupOf (rsN.enc r.1 r.2)) ∧ H' = (osC (oaT false Term.row) osN).enc r.1)
  | 0, _, _, h => by cases h
  | n + 1, a0, r, h => by
    exact fnG_run (M := slices_Reverse_Term_m n) ⟨tabA_nil_ok, tabD_nil_ok, tabN_ok _, tabF_ok _, noY_ok, noE_ok, noP_ok, noC_ok⟩ Try.func45 rfl rfl (by simp only [go_sem, q00, q01, q02, q03, q04, q05, q06, q10, q11, q12, q13, q14]) ((osC (oaT false Term.row) osN).nb _ _) Try.ntmps45 Try.results45 (fun σ hs => outG_ok hs) (((slices_Reverse_Term_e n).2 a0).trans h)
end Go.Abs
namespace Go.Abs
open Go.Proofs
set_option maxRecDepth 100000
set_option maxHeartbeats 4000000
set_option linter.unusedSimpArgs false
set_option linter.unusedVariables false
noncomputable def slices_Equal_LevelVar_n1 : Nrm := ⟨[], [], (zT (tyL Zs2.row) :: zT (tyL Zs2.row) :: zA4 (zA4 (zA :: zA :: zK :: zK :: zA4 (zA4 (zA4 []))))), [], none, none⟩
@[reducible] noncomputable def slices_Equal_LevelVar_m (n : Nat) : Mach Bool := mkA Try.prog Try.f64 n (outR Try.prog [.tmp 4] tyB) (nrm := tabN [([0, 1, 0, 1, 1], slices_Equal_LevelVar_n1)]) (isC := tabI []) (isE := tabI [])
theorem slices_Equal_LevelVar_d (n : Nat) : drawP (slices_Equal_LevelVar_m n) [0, 1, 0, 0, 1, 1, 0, 0, 1, 0, 1, 1] = true := by kernel_rfl
attribute [go_sem] slices_Equal_LevelVar_d slices_Equal_LevelVar_n1
noncomputable abbrev slices_Equal_LevelVar_s1 (v0 : List Zs2) (v1 : List Zs2) (v2 : Int) (v3 : Int) : AState := ⟨(.lst false 2 (mp Zs2.cells v0) :: .lst false 2 (mp Zs2.cells v1) :: ay4 (ay4 (.any :: .any :: .int .i64 v2 :: .int .i64 v3 :: ay4 (ay4 (ay4 []))))), [], 0, []⟩
abbrev slices_Equal_LevelVar_t1 := (List Zs2) → (List Zs2) → Int → Int → Option Bool
abbrev slices_Equal_LevelVar_g1 (n : Nat) (K : List Kt) (Z : slices_Equal_LevelVar_t1) : Prop := ∀ (v0 : List Zs2) (v1 : List Zs2) (v2 : Int) (v3 : Int), run (slices_Equal_LevelVar_m n) K (slices_Equal_LevelVar_s1 v0 v1 v2 v3) = Z v0 v1 v2 v3
attribute [go_sem] slices_Equal_LevelVar_s1
noncomputable def slices_Equal_LevelVar_b1 (n : Nat) : { B : slices_Equal_LevelVar_t1 → slices_Equal_LevelVar_t1 // ∀ m X0, slices_Equal_LevelVar_g1 n (.lq m [0, 1, 0, 1, 1] :: [.blk 0, .cut [1, 1, 1], .at [1, 1, 1]]) X0 → slices_Equal_LevelVar_g1 n (.at [0, 0, 1, 0, 1, 1] :: .lp m [0, 1, 0, 1, 1] :: [.blk 0, .cut [1, 1, 1], .at [1, 1, 1]]) (B X0) } := by
  apply Subtype.mk
  intro m X0 ih v0 v1 v2 v3
  simp (maxSteps := 100000000) only [go_sem, q00, q01, q02, q03, q04, q05, q06, q10, q11, q12, q13, q14, Try.f64, Option.getD_some, mixed, ih]
  exact rfl
noncomputable def slices_Equal_LevelVar_l1 (n : Nat) : Nat → slices_Equal_LevelVar_t1 := lpF ((slices_Equal_LevelVar_b1 n).1)
theorem slices_Equal_LevelVar_l1_s {n : Nat} {m : Nat} : slices_Equal_LevelVar_l1 n (m + 1) = (slices_Equal_LevelVar_b1 n).1 (slices_Equal_LevelVar_l1 n m) := rfl
theorem slices_Equal_LevelVar_l1_eq (n : Nat) (m : Nat) : slices_Equal_LevelVar_g1 n (.lq m [0, 1, 0, 1, 1] :: [.blk 0, .cut [1, 1, 1], .at [1, 1, 1]]) (slices_Equal_LevelVar_l1 n m) :=
  lpF_eq (G := fun m Z => slices_Equal_LevelVar_g1 n (.lq m [0, 1, 0, 1, 1] :: [.blk 0, .cut [1, 1, 1], .at [1, 1, 1]]) Z) (fun _ _ _ _ => run_lq_zero) (fun m _ ih v0 v1 v2 v3 => run_lq_succ.trans ((slices_Equal_LevelVar_b1 n).2 _ _ ih v0 v1 v2 v3)) m
noncomputable def slices_Equal_LevelVar_e (n : Nat) : { B : (List Zs2) → (List Zs2) → Option Bool // ∀ (a0 : (List Zs2)) (a1 : (List Zs2)), run (slices_Equal_LevelVar_m n) [.at []] (ini [(tyL Zs2.row).enc a0, (tyL Zs2.row).enc a1] 26) = B a0 a1 } := by
  apply Subtype.mk
  intro a0 a1
  simp (maxSteps := 100000000) only [go_sem, q00, q01, q02, q03, q04, q05, q06, q10, q11, q12, q13, q14, Try.f64, Option.getD_some, mixed, slices_Equal_LevelVar_l1_eq n]
  exact rfl
noncomputable def slices_Equal_LevelVar := fu fun n => (slices_Equal_LevelVar_e n).1
theorem slices_Equal_LevelVar_ok : ∀ (n : Nat) (a0 : (List Zs2)) (a1 : (List Zs2)) (r : Bool), slices_Equal_LevelVar n a0 a1 = some r → FnC Try.prog 64 [(tyL Zs2.row).enc a0, (tyL Zs2.row).enc a1] (fun v => v = tyB.enc r)
  | 0, _, _, _, h => by cases h
  | n + 1, a0, a1, r, h => by
    exact okC (((slices_Equal_LevelVar_e n).2 a0 a1).trans h) (gd tabA_nil_ok tabD_nil_ok) Try.func64 ⟨(tyL Zs2.row).nb 0 _, (tyL Zs2.row).nb 0 _, trivial⟩ Try.ntmps64 Try.results64

noncomputable def telescope_Vars_n1 : Nrm := ⟨[], [], (zK :: zK :: zA :: zA :: zA :: zK :: zA4 (zA4 (zA4 (zA :: zA :: zK :: zK :: zA4 (zA4 (zA4 (zA :: zA :: []))))))), [oA Term.row], none, none⟩
@[reducible] noncomputable def telescope_Vars_m (n : Nat) : Mach (List Term) := mkA Try.prog Try.f60 n (outR Try.prog [.tmp 4] (tyL Term.row)) (nrm := tabN [([0, 1, 0, 1, 1, 1], telescope_Vars_n1)])
attribute [go_sem] telescope_Vars_n1
noncomputable abbrev telescope_Vars_s1 (v0 : Int) (v1 : Int) (v2 : Int) (v3 : Int) (r0 : List Term) (c0 : Nat) : AState := ⟨(.int .i64 v0 :: .int .i64 v1 :: .any :: .any :: .any :: .acc 0 c0 :: ay4 (ay4 (ay4 (.any :: .any :: .int .i64 v2 :: .int .i64 v3 :: ay4 (ay4 (ay4 (.any :: .any :: []))))))), [.acc false 5 (mp Term.cells r0)], 0, []⟩
abbrev telescope_Vars_t1 := Int → Int → Int → Int → (List Term) → Option (List Term)
abbrev telescope_Vars_g1 (n : Nat) (K : List Kt) (Z : telescope_Vars_t1) : Prop := ∀ (v0 : Int) (v1 : Int) (v2 : Int) (v3 : Int) (r0 : List Term) (c0 : Nat), c0 = r0.length → run (telescope_Vars_m n) K (telescope_Vars_s1 v0 v1 v2 v3 r0 c0) = Z v0 v1 v2 v3 r0
attribute [go_sem] telescope_Vars_s1
noncomputable def telescope_Vars_b1 (n : Nat) : { B : telescope_Vars_t1 → telescope_Vars_t1 // ∀ m X0, telescope_Vars_g1 n (.lq m [0, 1, 0, 1, 1, 1] :: [.blk 0, .cut [1, 1, 1, 1], .at [1, 1, 1, 1]]) X0 → ∀ (v0 : Int) (v1 : Int) (v2 : Int) (v3 : Int) (r0 : List Term), run (telescope_Vars_m n) (.at [0, 0, 1, 0, 1, 1, 1] :: .lp m [0, 1, 0, 1, 1, 1] :: [.blk 0, .cut [1, 1, 1, 1], .at [1, 1, 1, 1]]) (telescope_Vars_s1 v0 v1 v2 v3 r0 (r0.length)) = B X0 v0 v1 v2 v3 r0 } := by
  apply Subtype.mk
  intro m X0 ih v0 v1 v2 v3 r0
  simp (maxSteps := 100000000) only [go_sem, q00, q01, q02, q03, q04, q05, q06, q10, q11, q12, q13, q14, Try.f60, Option.getD_some, mixed, ih]
  exact rfl
noncomputable def telescope_Vars_l1 (n : Nat) : Nat → telescope_Vars_t1 := lpF ((telescope_Vars_b1 n).1)
theorem telescope_Vars_l1_s {n : Nat} {m : Nat} : telescope_Vars_l1 n (m + 1) = (telescope_Vars_b1 n).1 (telescope_Vars_l1 n m) := rfl
theorem telescope_Vars_l1_eq (n : Nat) (m : Nat) : telescope_Vars_g1 n (.lq m [0, 1, 0, 1, 1, 1] :: [.blk 0, .cut [1, 1, 1, 1], .at [1, 1, 1, 1]]) (telescope_Vars_l1 n m) :=
  lpF_eq (G := fun m Z => telescope_Vars_g1 n (.lq m [0, 1, 0, 1, 1, 1] :: [.blk 0, .cut [1, 1, 1, 1], .at [1, 1, 1, 1]]) Z) (fun _ _ _ _ _ _ _ => run_lq_zero) (fun m _ ih => by
    intro v0 v1 v2 v3 r0 c0 ec0
    subst ec0
    rw [run_lq_succ]
    exact (telescope_Vars_b1 n).2 _ _ ih v0 v1 v2 v3 r0) m
noncomputable def telescope_Vars_e (n : Nat) : { B : Int → Int → Option (List Term) // ∀ (a0 : Int) (a1 : Int), run (telescope_Vars_m n) [.at []] (ini [(tyI .i64).enc a0, (tyI .i64).enc a1] 36) = B a0 a1 } := by
  apply Subtype.mk
  intro a0 a1
  simp (maxSteps := 100000000) only [go_sem, q00, q01, q02, q03, q04, q05, q06, q10, q11, q12, q13, q14, Try.f60, Option.getD_some, mixed, telescope_Vars_l1_eq n]
  exact rfl
noncomputable def telescope_Vars := fu fun n => (telescope_Vars_e n).1
theorem telescope_Vars_ok : ∀ (n : Nat) (a0 : Int) (a1 : Int) (r : (List Term)), telescope_Vars n a0 a1 = some r → FnC Try.prog 60 [(tyI .i64).enc a0, (tyI .i64).enc a1] (fun v => v = (tyL Term.row).enc r)
  | 0, _, _, _, h => by cases h
  | n + 1, a0, a1, r, h => by
    exact okC (((telescope_Vars_e n).2 a0 a1).trans h) (gd tabA_nil_ok tabD_nil_ok) Try.func60 ⟨(tyI .i64).nb 0 _, (tyI .i64).nb 0 _, trivial⟩ Try.ntmps60 Try.results60

noncomputable def family_itself_n1 : Nrm := ⟨[], [(1, 3, 2)], (zA4 (zK :: zK :: zA :: zA :: zA :: zK :: zK :: zA4 (zA4 (zA4 (zA :: []))))), [oK, oC [zK, zK, zK, zK, zK], oA Level.row], none, none⟩
@[reducible] noncomputable def family_itself_m (n : Nat) : Mach Term := mkA Try.prog Try.f34 n (outR Try.prog [.cell 4 25] (tyC Term.cel)) (nrm := tabN [([0, 1, 0, 1, 1], family_itself_n1)])
attribute [go_sem] family_itself_n1
noncomputable abbrev family_itself_s1 (v0 : Int) (v1 : Int) (v2 : Int) (v3 : Str) (r2 : List Level) (c2 : Nat) : AState := ⟨(ay4 (.ptr 0 0 :: .ptr 1 0 :: .any :: .any :: .any :: .int .i64 v0 :: .int .i64 v1 :: ay4 (ay4 (ay4 (.any :: []))))), [.cells [.int .i64 0, .int .i64 0, .str (sb []), .lst true 0 [], .lst true 0 []], .cells [.int .i64 v2, .int .i64 0, .str (sb v3), .acc 2 c2, .lst true 0 []], .acc true 2 (mp Level.cells r2)], 0, []⟩
abbrev family_itself_t1 := Int → Int → Int → Str → (List Level) → Option Term
abbrev family_itself_g1 (n : Nat) (K : List Kt) (Z : family_itself_t1) : Prop := ∀ (v0 : Int) (v1 : Int) (v2 : Int) (v3 : Str) (r2 : List Level) (c2 : Nat), c2 = r2.length → run (family_itself_m n) K (family_itself_s1 v0 v1 v2 v3 r2 c2) = Z v0 v1 v2 v3 r2
attribute [go_sem] family_itself_s1
noncomputable def family_itself_b1 (n : Nat) : { B : family_itself_t1 → family_itself_t1 // ∀ m X0, family_itself_g1 n (.lq m [0, 1, 0, 1, 1] :: [.blk 0, .cut [1, 1, 1], .at [1, 1, 1]]) X0 → ∀ (v0 : Int) (v1 : Int) (v2 : Int) (v3 : Str) (r2 : List Level), run (family_itself_m n) (.at [0, 0, 1, 0, 1, 1] :: .lp m [0, 1, 0, 1, 1] :: [.blk 0, .cut [1, 1, 1], .at [1, 1, 1]]) (family_itself_s1 v0 v1 v2 v3 r2 (r2.length)) = B X0 v0 v1 v2 v3 r2 } := by
  apply Subtype.mk
  intro m X0 ih v0 v1 v2 v3 r2
  simp (maxSteps := 100000000) only [go_sem, q00, q01, q02, q03, q04, q05, q06, q10, q11, q12, q13, q14, Try.f34, Option.getD_some, mixed, ih]
  exact rfl
noncomputable def family_itself_l1 (n : Nat) : Nat → family_itself_t1 := lpF ((family_itself_b1 n).1)
theorem family_itself_l1_s {n : Nat} {m : Nat} : family_itself_l1 n (m + 1) = (family_itself_b1 n).1 (family_itself_l1 n m) := rfl
theorem family_itself_l1_eq (n : Nat) (m : Nat) : family_itself_g1 n (.lq m [0, 1, 0, 1, 1] :: [.blk 0, .cut [1, 1, 1], .at [1, 1, 1]]) (family_itself_l1 n m) :=
  lpF_eq (G := fun m Z => family_itself_g1 n (.lq m [0, 1, 0, 1, 1] :: [.blk 0, .cut [1, 1, 1], .at [1, 1, 1]]) Z) (fun _ _ _ _ _ _ _ => run_lq_zero) (fun m _ ih => by
    intro v0 v1 v2 v3 r2 c2 ec2
    subst ec2
    rw [run_lq_succ]
    exact (family_itself_b1 n).2 _ _ ih v0 v1 v2 v3 r2) m
noncomputable def family_itself_e (n : Nat) : { B : Str → Int → Option Term // ∀ (a0 : Str) (a1 : Int), run (family_itself_m n) [.at []] (ini [tyS.enc a0, (tyI .i64).enc a1] 24) = B a0 a1 } := by
  apply Subtype.mk
  intro a0 a1
  simp (maxSteps := 100000000) only [go_sem, q00, q01, q02, q03, q04, q05, q06, q10, q11, q12, q13, q14, Try.f34, Option.getD_some, mixed, family_itself_l1_eq n]
  exact rfl
noncomputable def family_itself := fu fun n => (family_itself_e n).1
theorem family_itself_ok : ∀ (n : Nat) (a0 : Str) (a1 : Int) (r : Term), family_itself n a0 a1 = some r → FnC Try.prog 34 [tyS.enc a0, (tyI .i64).enc a1] (fun v => v = (tyC Term.cel).enc r)
  | 0, _, _, _, h => by cases h
  | n + 1, a0, a1, r, h => by
    exact okC (((family_itself_e n).2 a0 a1).trans h) (gd tabA_nil_ok tabD_nil_ok) Try.func34 ⟨tyS.nb 0 _, (tyI .i64).nb 0 _, trivial⟩ Try.ntmps34 Try.results34

@[reducible] noncomputable def positivity_Check_1_m (n : Nat) : Mach ((Int × Unit) × (Bool × Unit)) := mkA Try.prog Try.f19 n (outG Try.prog [.tmp 3] (osC (ocT (cI .i64)) osN) (rsT tyB rsN) 1)
noncomputable def positivity_Check_1_e (n : Nat) : { B : Zs5 → Int → Option ((Int × Unit) × (Bool × Unit)) // ∀ (a0 : Zs5) (a1 : Int), run (positivity_Check_1_m n) [.at []] (ini ((asT (tyC Zs5.cel) (asP 0 asN)).enc (a1, ()) (a0, ())) 8 ((osC (ocT (cI .i64)) osN).enc (a1, ()))) = B a0 a1 } := by
  apply Subtype.mk
  intro a0 a1
  simp (maxSteps := 100000000) only [go_sem, q00, q01, q02, q03, q04, q05, q06, q10, q11, q12, q13, q14, Try.f19, Option.getD_some, mixed]
  exact rfl
noncomputable def positivity_Check_1 := fu fun n => (positivity_Check_1_e n).1
theorem positivity_Check_1_ok : ∀ (n : Nat) (a0 : Zs5) (a1 : Int) (r : ((Int × Unit) × (Bool × Unit))), positivity_Check_1 n a0 a1 = some r → FnG Try.prog 19 ((asT (tyC Zs5.cel) (asP 0 asN)).enc (a1, ()) (a0, ())) ((osC (ocT (cI .i64)) osN).enc (a1, ())) (fun o H' => o = .ret (tupOf ((rsT tyB rsN).enc r.1 r.2)) ∧ H' = (osC (ocT (cI .i64)) osN).enc r.1)
  | 0, _, _, _, h => by cases h
  | n + 1, a0, a1, r, h => by
    exact fnG_run (M := positivity_Check_1_m n) ⟨tabA_nil_ok, tabD_nil_ok, tabN_ok _, tabF_ok _, noY_ok, noE_ok, noP_ok, noC_ok⟩ Try.func19 rfl rfl (by simp only [go_sem, q00, q01, q02, q03, q04, q05, q06, q10, q11, q12, q13, q14]) ((osC (ocT (cI .i64)) osN).nb _ _) Try.ntmps19 Try.results19 (fun σ hs => outG_ok hs) (((positivity_Check_1_e n).2 a0 a1).trans h)

noncomputable def slices_ContainsFunc_Term_positivity_occurs_1_as : AL ((List Term) × ((Str × Unit) × Unit)) := (alT (tyL Term.row) (alF 37 (vlT (tyP cS) (vlP 0 vlN)) alN))
noncomputable def slices_ContainsFunc_Term_positivity_occurs_1_os : OL (((Str × Unit) × Unit) × Unit) := (olC (ogC (alF 37 (vlT (tyP cS) (vlP 0 vlN)) alN)) olN)
noncomputable def slices_ContainsFunc_Term_positivity_occurs_1_o1 : OL (((Str × Unit) × Unit) × Unit) := (olC (ogC (alF 37 (vlT (tyP cS) (vlP 0 vlN)) alN)) olN)
attribute [go_sem] slices_ContainsFunc_Term_positivity_occurs_1_as slices_ContainsFunc_Term_positivity_occurs_1_os slices_ContainsFunc_Term_positivity_occurs_1_o1
noncomputable def slices_ContainsFunc_Term_positivity_occurs_1_t (F : (List Term) → Str → Str → Option ((((Str × Unit) × Unit) × Unit) × (Bool × Unit))) := entX [.arg 1 [1]] slices_ContainsFunc_Term_positivity_occurs_1_os slices_ContainsFunc_Term_positivity_occurs_1_as slices_ContainsFunc_Term_positivity_occurs_1_o1 (alT tyB alN) (fun (b : (((Str × Unit) × Unit) × Unit)) (a : ((List Term) × ((Str × Unit) × Unit))) => F a.1 a.2.1.1 b.1.1.1)
attribute [go_sem] slices_ContainsFunc_Term_positivity_occurs_1_t
noncomputable def slices_IndexFunc_Term_positivity_occurs_1_as : AL ((List Term) × ((Str × Unit) × Unit)) := (alT (tyL Term.row) (alF 37 (vlT (tyP cS) (vlP 0 vlN)) alN))
noncomputable def slices_IndexFunc_Term_positivity_occurs_1_os : OL (((Str × Unit) × Unit) × Unit) := (olC (ogC (alF 37 (vlT (tyP cS) (vlP 0 vlN)) alN)) olN)
noncomputable def slices_IndexFunc_Term_positivity_occurs_1_o1 : OL (((Str × Unit) × Unit) × Unit) := (olC (ogC (alF 37 (vlT (tyP cS) (vlP 0 vlN)) alN)) olN)
attribute [go_sem] slices_IndexFunc_Term_positivity_occurs_1_as slices_IndexFunc_Term_positivity_occurs_1_os slices_IndexFunc_Term_positivity_occurs_1_o1
noncomputable def slices_IndexFunc_Term_positivity_occurs_1_t (F : (List Term) → Str → Str → Option ((((Str × Unit) × Unit) × Unit) × (Int × Unit))) := entX [.arg 1 [1]] slices_IndexFunc_Term_positivity_occurs_1_os slices_IndexFunc_Term_positivity_occurs_1_as slices_IndexFunc_Term_positivity_occurs_1_o1 (alT (tyI .i64) alN) (fun (b : (((Str × Unit) × Unit) × Unit)) (a : ((List Term) × ((Str × Unit) × Unit))) => F a.1 a.2.1.1 b.1.1.1)
attribute [go_sem] slices_IndexFunc_Term_positivity_occurs_1_t
noncomputable def positivity_occurs_1_as : AL (Term × (Str × Unit)) := (alT (tyC Term.cel) (alT (tyP cS) (alP 0 alN)))
noncomputable def positivity_occurs_1_os : OL (((Str × Unit) × Unit) × Unit) := (olC (ogC (alF 37 (vlT (tyP cS) (vlP 0 vlN)) alN)) olN)
noncomputable def positivity_occurs_1_o1 : OL (((Str × Unit) × Unit) × Unit) := (olC (ogC (alF 37 (vlT (tyP cS) (vlP 0 vlN)) alN)) olN)
attribute [go_sem] positivity_occurs_1_as positivity_occurs_1_os positivity_occurs_1_o1
noncomputable def positivity_occurs_1_t (F : Term → Str → Str → Option ((((Str × Unit) × Unit) × Unit) × (Bool × Unit))) := entX [.arg 2 []] positivity_occurs_1_os positivity_occurs_1_as positivity_occurs_1_o1 (alT tyB alN) (fun (b : (((Str × Unit) × Unit) × Unit)) (a : (Term × (Str × Unit))) => F a.1 a.2.1 b.1.1.1)
attribute [go_sem] positivity_occurs_1_t
@[reducible] noncomputable def slices_ContainsFunc_Term_positivity_occurs_1_m (X_slices_ContainsFunc_Term_positivity_occurs_1 : (List Term) → Str → Str → Option ((((Str × Unit) × Unit) × Unit) × (Bool × Unit))) (X_slices_IndexFunc_Term_positivity_occurs_1 : (List Term) → Str → Str → Option ((((Str × Unit) × Unit) × Unit) × (Int × Unit))) (X_positivity_occurs_1 : Term → Str → Str → Option ((((Str × Unit) × Unit) × Unit) × (Bool × Unit))) (n : Nat) : Mach ((((Str × Unit) × Unit) × Unit) × (Bool × Unit)) := mkA Try.prog Try.f38 n (outS Try.prog [.tmp 4] [] [0] 1 slices_ContainsFunc_Term_positivity_occurs_1_o1 (alT tyB alN)) (cl := tabA [(50, slices_IndexFunc_Term_positivity_occurs_1_t X_slices_IndexFunc_Term_positivity_occurs_1)])
noncomputable def slices_ContainsFunc_Term_positivity_occurs_1_e (X_slices_ContainsFunc_Term_positivity_occurs_1 : (List Term) → Str → Str → Option ((((Str × Unit) × Unit) × Unit) × (Bool × Unit))) (X_slices_IndexFunc_Term_positivity_occurs_1 : (List Term) → Str → Str → Option ((((Str × Unit) × Unit) × Unit) × (Int × Unit))) (X_positivity_occurs_1 : Term → Str → Str → Option ((((Str × Unit) × Unit) × Unit) × (Bool × Unit))) (n : Nat) : { B : (List Term) → Str → Str → Option ((((Str × Unit) × Unit) × Unit) × (Bool × Unit)) // ∀ (a0 : (List Term)) (a1 : Str) (o0 : Str), run (slices_ContainsFunc_Term_positivity_occurs_1_m X_slices_ContainsFunc_Term_positivity_occurs_1 X_slices_IndexFunc_Term_positivity_occurs_1 X_positivity_occurs_1 n) [.at []] (iniX slices_ContainsFunc_Term_positivity_occurs_1_as slices_ContainsFunc_Term_positivity_occurs_1_os (((o0, ()), ()), ()) (a0, (a1, ()), ()) 9) = B a0 a1 o0 } := by
  apply Subtype.mk
  intro a0 a1 o0
  simp (maxSteps := 100000000) only [go_sem, q00, q01, q02, q03, q04, q05, q06, q10, q11, q12, q13, q14, Try.f38, Option.getD_some, mixed]
  exact rfl
noncomputable def slices_IndexFunc_Term_positivity_occurs_1_n1 : Nrm := ⟨[], [], (zT (tyL Term.row) :: zK :: zA4 (zA :: zK :: zK :: zA4 (zA4 (zA :: zA :: [])))), [oC [zK]], none, none⟩
@[reducible] noncomputable def slices_IndexFunc_Term_positivity_occurs_1_m (X_slices_ContainsFunc_Term_positivity_occurs_1 : (List Term) → Str → Str → Option ((((Str × Unit) × Unit) × Unit) × (Bool × Unit))) (X_slices_IndexFunc_Term_positivity_occurs_1 : (List Term) → Str → Str → Option ((((Str × Unit) × Unit) × Unit) × (Int × Unit))) (X_positivity_occurs_1 : Term → Str → Str → Option ((((Str × Unit) × Unit) × Unit) × (Bool × Unit))) (n : Nat) : Mach ((((Str × Unit) × Unit) × Unit) × (Int × Unit)) := mkA Try.prog Try.f50 n (outS Try.prog [.tmp 4] [] [0] 1 slices_IndexFunc_Term_positivity_occurs_1_o1 (alT (tyI .i64) alN)) (cl := tabA [(37, positivity_occurs_1_t X_positivity_occurs_1)]) (nrm := tabN [([0, 1, 0, 1], slices_IndexFunc_Term_positivity_occurs_1_n1)])
attribute [go_sem] slices_IndexFunc_Term_positivity_occurs_1_n1
noncomputable abbrev slices_IndexFunc_Term_positivity_occurs_1_s1 (v0 : List Term) (v1 : Str) (v2 : Int) (v3 : Int) (v4 : Str) : AState := ⟨(.lst false 5 (mp Term.cells v0) :: .func (.func 37) [] [.pp [.str (sb v1)], .ptr 0 0] :: ay4 (.any :: .int .i64 v2 :: .int .i64 v3 :: ay4 (ay4 (.any :: .any :: [])))), [.cells [.func (.func 37) [] [.pp [.str (sb v4)], .ptr 0 0]]], 1, []⟩
abbrev slices_IndexFunc_Term_positivity_occurs_1_t1 := (List Term) → Str → Int → Int → Str → Option ((((Str × Unit) × Unit) × Unit) × (Int × Unit))
abbrev slices_IndexFunc_Term_positivity_occurs_1_g1 (X_slices_ContainsFunc_Term_positivity_occurs_1 : (List Term) → Str → Str → Option ((((Str × Unit) × Unit) × Unit) × (Bool × Unit))) (X_slices_IndexFunc_Term_positivity_occurs_1 : (List Term) → Str → Str → Option ((((Str × Unit) × Unit) × Unit) × (Int × Unit))) (X_positivity_occurs_1 : Term → Str → Str → Option ((((Str × Unit) × Unit) × Unit) × (Bool × Unit))) (n : Nat) (K : List Kt) (Z : slices_IndexFunc_Term_positivity_occurs_1_t1) : Prop := ∀ (v0 : List Term) (v1 : Str) (v2 : Int) (v3 : Int) (v4 : Str), run (slices_IndexFunc_Term_positivity_occurs_1_m X_slices_ContainsFunc_Term_positivity_occurs_1 X_slices_IndexFunc_Term_positivity_occurs_1 X_positivity_occurs_1 n) K (slices_IndexFunc_Term_positivity_occurs_1_s1 v0 v1 v2 v3 v4) = Z v0 v1 v2 v3 v4
attribute [go_sem] slices_IndexFunc_Term_positivity_occurs_1_s1
noncomputable def slices_IndexFunc_Term_positivity_occurs_1_b1 (X_slices_ContainsFunc_Term_positivity_occurs_1 : (List Term) → Str → Str → Option ((((Str × Unit) × Unit) × Unit) × (Bool × Unit))) (X_slices_IndexFunc_Term_positivity_occurs_1 : (List Term) → Str → Str → Option ((((Str × Unit) × Unit) × Unit) × (Int × Unit))) (X_positivity_occurs_1 : Term → Str → Str → Option ((((Str × Unit) × Unit) × Unit) × (Bool × Unit))) (n : Nat) : { B : slices_IndexFunc_Term_positivity_occurs_1_t1 → slices_IndexFunc_Term_positivity_occurs_1_t1 // ∀ m X0, slices_IndexFunc_Term_positivity_occurs_1_g1 X_slices_ContainsFunc_Term_positivity_occurs_1 X_slices_IndexFunc_Term_positivity_occurs_1 X_positivity_occurs_1 n (.lq m [0, 1, 0, 1] :: [.blk 0, .cut [1, 1], .at [1, 1]]) X0 → slices_IndexFunc_Term_positivity_occurs_1_g1 X_slices_ContainsFunc_Term_positivity_occurs_1 X_slices_IndexFunc_Term_positivity_occurs_1 X_positivity_occurs_1 n (.at [0, 0, 1, 0, 1] :: .lp m [0, 1, 0, 1] :: [.blk 0, .cut [1, 1], .at [1, 1]]) (B X0) } := by
  apply Subtype.mk
  intro m X0 ih v0 v1 v2 v3 v4
  simp (maxSteps := 100000000) only [go_sem, q00, q01, q02, q03, q04, q05, q06, q10, q11, q12, q13, q14, Try.f50, Option.getD_some, mixed, ih]
  exact rfl
noncomputable def slices_IndexFunc_Term_positivity_occurs_1_l1 (X_slices_ContainsFunc_Term_positivity_occurs_1 : (List Term) → Str → Str → Option ((((Str × Unit) × Unit) × Unit) × (Bool × Unit))) (X_slices_IndexFunc_Term_positivity_occurs_1 : (List Term) → Str → Str → Option ((((Str × Unit) × Unit) × Unit) × (Int × Unit))) (X_positivity_occurs_1 : Term → Str → Str → Option ((((Str × Unit) × Unit) × Unit) × (Bool × Unit))) (n : Nat) : Nat → slices_IndexFunc_Term_positivity_occurs_1_t1 := lpF ((slices_IndexFunc_Term_positivity_occurs_1_b1 X_slices_ContainsFunc_Term_positivity_occurs_1 X_slices_IndexFunc_Term_positivity_occurs_1 X_positivity_occurs_1 n).1)
theorem slices_IndexFunc_Term_positivity_occurs_1_l1_s (X_slices_ContainsFunc_Term_positivity_occurs_1 : (List Term) → Str → Str → Option ((((Str × Unit) × Unit) × Unit) × (Bool × Unit))) (X_slices_IndexFunc_Term_positivity_occurs_1 : (List Term) → Str → Str → Option ((((Str × Unit) × Unit) × Unit) × (Int × Unit))) (X_positivity_occurs_1 : Term → Str → Str → Option ((((Str × Unit) × Unit) × Unit) × (Bool × Unit))) {n : Nat} {m : Nat} : slices_IndexFunc_Term_positivity_occurs_1_l1 X_slices_ContainsFunc_Term_positivity_occurs_1 X_slices_IndexFunc_Term_positivity_occurs_1 X_positivity_occurs_1 n (m + 1) = (slices_IndexFunc_Term_positivity_occurs_1_b1 X_slices_ContainsFunc_Term_positivity_occurs_1 X_slices_IndexFunc_Term_positivity_occurs_1 X_positivity_occurs_1 n).1 (slices_IndexFunc_Term_positivity_occurs_1_l1 X_slices_ContainsFunc_Term_positivity_occurs_1 X_slices_IndexFunc_Term_positivity_occurs_1 X_positivity_occurs_1 n m) := rfl
theorem slices_IndexFunc_Term_positivity_occurs_1_l1_eq (X_slices_ContainsFunc_Term_positivity_occurs_1 : (List Term) → Str → Str → Option ((((Str × Unit) × Unit) × Unit) × (Bool × Unit))) (X_slices_IndexFunc_Term_positivity_occurs_1 : (List Term) → Str → Str → Option ((((Str × Unit) × Unit) × Unit) × (Int × Unit))) (X_positivity_occurs_1 : Term → Str → Str → Option ((((Str × Unit) × Unit) × Unit) × (Bool × Unit))) (n : Nat) (m : Nat) : slices_IndexFunc_Term_positivity_occurs_1_g1 X_slices_ContainsFunc_Term_positivity_occurs_1 X_slices_IndexFunc_Term_positivity_occurs_1 X_positivity_occurs_1 n (.lq m [0, 1, 0, 1] :: [.blk 0, .cut [1, 1], .at [1, 1]]) (slices_IndexFunc_Term_positivity_occurs_1_l1 X_slices_ContainsFunc_Term_positivity_occurs_1 X_slices_IndexFunc_Term_positivity_occurs_1 X_positivity_occurs_1 n m) :=
  lpF_eq (G := fun m Z => slices_IndexFunc_Term_positivity_occurs_1_g1 X_slices_ContainsFunc_Term_positivity_occurs_1 X_slices_IndexFunc_Term_positivity_occurs_1 X_positivity_occurs_1 n (.lq m [0, 1, 0, 1] :: [.blk 0, .cut [1, 1], .at [1, 1]]) Z) (fun _ _ _ _ _ => run_lq_zero) (fun m _ ih v0 v1 v2 v3 v4 => run_lq_succ.trans ((slices_IndexFunc_Term_positivity_occurs_1_b1 X_slices_ContainsFunc_Term_positivity_occurs_1 X_slices_IndexFunc_Term_positivity_occurs_1 X_positivity_occurs_1 n).2 _ _ ih v0 v1 v2 v3 v4)) m
noncomputable def slices_IndexFunc_Term_positivity_occurs_1_e (X_slices_ContainsFunc_Term_positivity_occurs_1 : (List Term) → Str → Str → Option ((((Str × Unit) × Unit) × Unit) × (Bool × Unit))) (X_slices_IndexFunc_Term_positivity_occurs_1 : (List Term) → Str → Str → Option ((((Str × Unit) × Unit) × Unit) × (Int × Unit))) (X_positivity_occurs_1 : Term → Str → Str → Option ((((Str × Unit) × Unit) × Unit) × (Bool × Unit))) (n : Nat) : { B : (List Term) → Str → Str → Option ((((Str × Unit) × Unit) × Unit) × (Int × Unit)) // ∀ (a0 : (List Term)) (a1 : Str) (o0 : Str), run (slices_IndexFunc_Term_positivity_occurs_1_m X_slices_ContainsFunc_Term_positivity_occurs_1 X_slices_IndexFunc_Term_positivity_occurs_1 X_positivity_occurs_1 n) [.at []] (iniX slices_IndexFunc_Term_positivity_occurs_1_as slices_IndexFunc_Term_positivity_occurs_1_os (((o0, ()), ()), ()) (a0, (a1, ()), ()) 19) = B a0 a1 o0 } := by
  apply Subtype.mk
  intro a0 a1 o0
  simp (maxSteps := 100000000) only [go_sem, q00, q01, q02, q03, q04, q05, q06, q10, q11, q12, q13, q14, Try.f50, Option.getD_some, mixed, slices_IndexFunc_Term_positivity_occurs_1_l1_eq X_slices_ContainsFunc_Term_positivity_occurs_1 X_slices_IndexFunc_Term_positivity_occurs_1 X_positivity_occurs_1 n]
  exact rfl
@[reducible] noncomputable def positivity_occurs_1_m (X_slices_ContainsFunc_Term_positivity_occurs_1 : (List Term) → Str → Str → Option ((((Str × Unit) × Unit) × Unit) × (Bool × Unit))) (X_slices_IndexFunc_Term_positivity_occurs_1 : (List Term) → Str → Str → Option ((((Str × Unit) × Unit) × Unit) × (Int × Unit))) (X_positivity_occurs_1 : Term → Str → Str → Option ((((Str × Unit) × Unit) × Unit) × (Bool × Unit))) (n : Nat) : Mach ((((Str × Unit) × Unit) × Unit) × (Bool × Unit)) := mkA Try.prog Try.f37 n (outS Try.prog [.tmp 4] [] [0] 1 positivity_occurs_1_o1 (alT tyB alN)) (cl := tabA [(38, slices_ContainsFunc_Term_positivity_occurs_1_t X_slices_ContainsFunc_Term_positivity_occurs_1)])
noncomputable def positivity_occurs_1_e (X_slices_ContainsFunc_Term_positivity_occurs_1 : (List Term) → Str → Str → Option ((((Str × Unit) × Unit) × Unit) × (Bool × Unit))) (X_slices_IndexFunc_Term_positivity_occurs_1 : (List Term) → Str → Str → Option ((((Str × Unit) × Unit) × Unit) × (Int × Unit))) (X_positivity_occurs_1 : Term → Str → Str → Option ((((Str × Unit) × Unit) × Unit) × (Bool × Unit))) (n : Nat) : { B : Term → Str → Str → Option ((((Str × Unit) × Unit) × Unit) × (Bool × Unit)) // ∀ (a0 : Term) (a1 : Str) (o0 : Str), run (positivity_occurs_1_m X_slices_ContainsFunc_Term_positivity_occurs_1 X_slices_IndexFunc_Term_positivity_occurs_1 X_positivity_occurs_1 n) [.at []] (iniX positivity_occurs_1_as positivity_occurs_1_os (((o0, ()), ()), ()) (a0, a1, ()) 20) = B a0 a1 o0 } := by
  apply Subtype.mk
  intro a0 a1 o0
  simp (maxSteps := 100000000) only [go_sem, q00, q01, q02, q03, q04, q05, q06, q10, q11, q12, q13, q14, Try.f37, Option.getD_some, mixed]
  exact rfl
mutual
noncomputable def slices_ContainsFunc_Term_positivity_occurs_1 : Nat → (List Term) → Str → Str → Option ((((Str × Unit) × Unit) × Unit) × (Bool × Unit))
  | 0, _, _, _ => none
  | n + 1, a0, a1, o0 => (slices_ContainsFunc_Term_positivity_occurs_1_e (slices_ContainsFunc_Term_positivity_occurs_1 n) (slices_IndexFunc_Term_positivity_occurs_1 n) (positivity_occurs_1 n) n).1 a0 a1 o0
noncomputable def slices_IndexFunc_Term_positivity_occurs_1 : Nat → (List Term) → Str → Str → Option ((((Str × Unit) × Unit) × Unit) × (Int × Unit))
  | 0, _, _, _ => none
  | n + 1, a0, a1, o0 => (slices_IndexFunc_Term_positivity_occurs_1_e (slices_ContainsFunc_Term_positivity_occurs_1 n) (slices_IndexFunc_Term_positivity_occurs_1 n) (positivity_occurs_1 n) n).1 a0 a1 o0
noncomputable def positivity_occurs_1 : Nat → Term → Str → Str → Option ((((Str × Unit) × Unit) × Unit) × (Bool × Unit))
  | 0, _, _, _ => none
  | n + 1, a0, a1, o0 => (positivity_occurs_1_e (slices_ContainsFunc_Term_positivity_occurs_1 n) (slices_IndexFunc_Term_positivity_occurs_1 n) (positivity_occurs_1 n) n).1 a0 a1 o0
end
mutual
theorem slices_ContainsFunc_Term_positivity_occurs_1_ok : ∀ (n : Nat) (a0 : (List Term)) (a1 : Str) (o0 : Str) (r : ((((Str × Unit) × Unit) × Unit) × (Bool × Unit))), slices_ContainsFunc_Term_positivity_occurs_1 n a0 a1 o0 = some r → SG Try.prog 38 slices_ContainsFunc_Term_positivity_occurs_1_as slices_ContainsFunc_Term_positivity_occurs_1_os (((o0, ()), ()), ()) (a0, (a1, ()), ()) slices_ContainsFunc_Term_positivity_occurs_1_o1 (alT tyB alN) r
  | 0, _, _, _, _, h => by simp only [slices_ContainsFunc_Term_positivity_occurs_1] at h; cases h
  | n + 1, a0, a1, o0, r, h => by
    simp only [slices_ContainsFunc_Term_positivity_occurs_1] at h
    have ih_slices_ContainsFunc_Term_positivity_occurs_1 := slices_ContainsFunc_Term_positivity_occurs_1_ok n
    have ih_slices_IndexFunc_Term_positivity_occurs_1 := slices_IndexFunc_Term_positivity_occurs_1_ok n
    have ih_positivity_occurs_1 := positivity_occurs_1_ok n
    exact okG (((slices_ContainsFunc_Term_positivity_occurs_1_e (slices_ContainsFunc_Term_positivity_occurs_1 n) (slices_IndexFunc_Term_positivity_occurs_1 n) (positivity_occurs_1 n) n).2 a0 a1 o0).trans h) (gd (tabA_cons_ok (entX_ok (fun b a r h => (ih_slices_IndexFunc_Term_positivity_occurs_1) a.1 a.2.1.1 b.1.1.1 r h)) tabA_nil_ok) tabD_nil_ok) Try.func38 Try.ntmps38 Try.results38
theorem slices_IndexFunc_Term_positivity_occurs_1_ok : ∀ (n : Nat) (a0 : (List Term)) (a1 : Str) (o0 : Str) (r : ((((Str × Unit) × Unit) × Unit) × (Int × Unit))), slices_IndexFunc_Term_positivity_occurs_1 n a0 a1 o0 = some r → SG Try.prog 50 slices_IndexFunc_Term_positivity_occurs_1_as slices_IndexFunc_Term_positivity_occurs_1_os (((o0, ()), ()), ()) (a0, (a1, ()), ()) slices_IndexFunc_Term_positivity_occurs_1_o1 (alT (tyI .i64) alN) r
  | 0, _, _, _, _, h => by simp only [slices_IndexFunc_Term_positivity_occurs_1] at h; cases h
  | n + 1, a0, a1, o0, r, h => by
    simp only [slices_IndexFunc_Term_positivity_occurs_1] at h
    have ih_slices_ContainsFunc_Term_positivity_occurs_1 := slices_ContainsFunc_Term_positivity_occurs_1_ok n
    have ih_slices_IndexFunc_Term_positivity_occurs_1 := slices_IndexFunc_Term_positivity_occurs_1_ok n
    have ih_positivity_occurs_1 := positivity_occurs_1_ok n
    exact okG (((slices_IndexFunc_Term_positivity_occurs_1_e (slices_ContainsFunc_Term_positivity_occurs_1 n) (slices_IndexFunc_Term_positivity_occurs_1 n) (positivity_occurs_1 n) n).2 a0 a1 o0).trans h) (gd (tabA_cons_ok (entX_ok (fun b a r h => (ih_positivity_occurs_1) a.1 a.2.1 b.1.1.1 r h)) tabA_nil_ok) tabD_nil_ok) Try.func50 Try.ntmps50 Try.results50
theorem positivity_occurs_1_ok : ∀ (n : Nat) (a0 : Term) (a1 : Str) (o0 : Str) (r : ((((Str × Unit) × Unit) × Unit) × (Bool × Unit))), positivity_occurs_1 n a0 a1 o0 = some r → SG Try.prog 37 positivity_occurs_1_as positivity_occurs_1_os (((o0, ()), ()), ()) (a0, a1, ()) positivity_occurs_1_o1 (alT tyB alN) r
  | 0, _, _, _, _, h => by simp only [positivity_occurs_1] at h; cases h
  | n + 1, a0, a1, o0, r, h => by
    simp only [positivity_occurs_1] at h
    have ih_slices_ContainsFunc_Term_positivity_occurs_1 := slices_ContainsFunc_Term_positivity_occurs_1_ok n
    have ih_slices_IndexFunc_Term_positivity_occurs_1 := slices_IndexFunc_Term_positivity_occurs_1_ok n
    have ih_positivity_occurs_1 := positivity_occurs_1_ok n
    exact okG (((positivity_occurs_1_e (slices_ContainsFunc_Term_positivity_occurs_1 n) (slices_IndexFunc_Term_positivity_occurs_1 n) (positivity_occurs_1 n) n).2 a0 a1 o0).trans h) (gd (tabA_cons_ok (entX_ok (fun b a r h => (ih_slices_ContainsFunc_Term_positivity_occurs_1) a.1 a.2.1.1 b.1.1.1 r h)) tabA_nil_ok) tabD_nil_ok) Try.func37 Try.ntmps37 Try.results37
end

noncomputable def ref05_All_n1 : Nrm := ⟨[(4, 5, true)], [], (zA :: zK :: zA :: zK :: zK :: zA16 (zA4 (zA :: zA :: []))), [oT Term.cel, oK, oA Term.row], none, none⟩
@[reducible] noncomputable def ref05_All_m (n : Nat) : Mach ((List Term) × Term) := mkA Try.prog Try.f21 n (outR Try.prog [.tmp 2, .cell 3 25] (ty2 (tyL Term.row) (tyC Term.cel))) (nrm := tabN [([0, 0, 1, 1], ref05_All_n1)]) (isC := tabI []) (isE := tabI [])
theorem ref05_All_d (n : Nat) : drawP (ref05_All_m n) [0, 1, 1, 1] = true := by kernel_rfl
theorem ref05_All_o (n : Nat) : ordP (ref05_All_m n) [0, 1, 1, 1] 1 3 = true := by kernel_rfl
attribute [go_sem] ref05_All_d ref05_All_o ref05_All_n1
noncomputable abbrev ref05_All_s1 (o0 : Term) (r2 : List Term) (c2 : Nat) : AState := ⟨(.any :: .ptr 0 0 :: .any :: .ptr 1 0 :: .acc 2 c2 :: ay16 (ay4 (.any :: .any :: []))), [.cells (Term.cells o0), .cells [.int .i64 0, .int .i64 0, .str (sb []), .lst true 0 [], .lst true 0 []], .acc true 5 (mp Term.cells r2)], 0, []⟩
abbrev ref05_All_t1 := Term → (List Term) → Option ((List Term) × Term)
abbrev ref05_All_g1 (n : Nat) (K : List Kt) (Z : ref05_All_t1) : Prop := ∀ (o0 : Term) (r2 : List Term) (c2 : Nat), c2 = r2.length → run (ref05_All_m n) K (ref05_All_s1 o0 r2 c2) = Z o0 r2
attribute [go_sem] ref05_All_s1
noncomputable def ref05_All_b1 (n : Nat) : { B : ref05_All_t1 → ref05_All_t1 // ∀ m X0, ref05_All_g1 n (.lq m [0, 0, 1, 1] :: [.blk 0, .cut [1, 1, 1], .at [1, 1, 1]]) X0 → ∀ (o0 : Term) (r2 : List Term), run (ref05_All_m n) (.at [0, 0, 0, 1, 1] :: .lp m [0, 0, 1, 1] :: [.blk 0, .cut [1, 1, 1], .at [1, 1, 1]]) (ref05_All_s1 o0 r2 (r2.length)) = B X0 o0 r2 } := by
  apply Subtype.mk
  intro m X0 ih o0 r2
  simp (maxSteps := 100000000) only [go_sem, q00, q01, q02, q03, q04, q05, q06, q10, q11, q12, q13, q14, Try.f21, Option.getD_some, mixed, ih]
  exact rfl
noncomputable def ref05_All_l1 (n : Nat) : Nat → ref05_All_t1 := lpF ((ref05_All_b1 n).1)
theorem ref05_All_l1_s {n : Nat} {m : Nat} : ref05_All_l1 n (m + 1) = (ref05_All_b1 n).1 (ref05_All_l1 n m) := rfl
theorem ref05_All_l1_eq (n : Nat) (m : Nat) : ref05_All_g1 n (.lq m [0, 0, 1, 1] :: [.blk 0, .cut [1, 1, 1], .at [1, 1, 1]]) (ref05_All_l1 n m) :=
  lpF_eq (G := fun m Z => ref05_All_g1 n (.lq m [0, 0, 1, 1] :: [.blk 0, .cut [1, 1, 1], .at [1, 1, 1]]) Z) (fun _ _ _ _ => run_lq_zero) (fun m _ ih => by
    intro o0 r2 c2 ec2
    subst ec2
    rw [run_lq_succ]
    exact (ref05_All_b1 n).2 _ _ ih o0 r2) m
noncomputable def ref05_All_e (n : Nat) : { B : Term → Option ((List Term) × Term) // ∀ (a0 : Term), run (ref05_All_m n) [.at []] (ini [(tyC Term.cel).enc a0] 27) = B a0 } := by
  apply Subtype.mk
  intro a0
  simp (maxSteps := 100000000) only [go_sem, q00, q01, q02, q03, q04, q05, q06, q10, q11, q12, q13, q14, Try.f21, Option.getD_some, mixed, ref05_All_l1_eq n]
  exact rfl
noncomputable def ref05_All := fu fun n => (ref05_All_e n).1
theorem ref05_All_ok : ∀ (n : Nat) (a0 : Term) (r : ((List Term) × Term)), ref05_All n a0 = some r → FnC Try.prog 21 [(tyC Term.cel).enc a0] (fun v => v = (ty2 (tyL Term.row) (tyC Term.cel)).enc r)
  | 0, _, _, h => by cases h
  | n + 1, a0, r, h => by
    exact okC (((ref05_All_e n).2 a0).trans h) (gd tabA_nil_ok tabD_nil_ok) Try.func21 ⟨(tyC Term.cel).nb 0 _, trivial⟩ Try.ntmps21 Try.results21
end Go.Abs
namespace Go.Abs
open Go.Proofs
set_option maxRecDepth 100000
set_option maxHeartbeats 4000000
set_option linter.unusedSimpArgs false
set_option linter.unusedVariables false
@[reducible] noncomputable def ref12_sort_m (n : Nat) : Mach Bool := mkA Try.prog Try.f22 n (outR Try.prog [.tmp 2] tyB)
noncomputable def ref12_sort_e (n : Nat) : { B : Term → Option Bool // ∀ (a0 : Term), run (ref12_sort_m n) [.at []] (ini [(tyC Term.cel).enc a0] 11) = B a0 } := by
  apply Subtype.mk
  intro a0
  simp (maxSteps := 100000000) only [go_sem, q00, q01, q02, q03, q04, q05, q06, q10, q11, q12, q13, q14, Try.f22, Option.getD_some, mixed]
  exact rfl
noncomputable def ref12_sort := fu fun n => (ref12_sort_e n).1
theorem ref12_sort_ok : ∀ (n : Nat) (a0 : Term) (r : Bool), ref12_sort n a0 = some r → FnC Try.prog 22 [(tyC Term.cel).enc a0] (fun v => v = tyB.enc r)
  | 0, _, _, h => by cases h
  | n + 1, a0, r, h => by
    exact okC (((ref12_sort_e n).2 a0).trans h) (gd tabA_nil_ok tabD_nil_ok) Try.func22 ⟨(tyC Term.cel).nb 0 _, trivial⟩ Try.ntmps22 Try.results22

@[reducible] noncomputable def ref01_Var_m (n : Nat) : Mach (Level × Int) := mkA Try.prog Try.f53 n (outR Try.prog [.cell 4 81, .tmp 5] (ty2 (tyC Level.cel) (tyI .i64)))
noncomputable def ref01_Var_e (n : Nat) : { B : Int → Int → Option (Level × Int) // ∀ (a0 : Int) (a1 : Int), run (ref01_Var_m n) [.at []] (ini [(tyI .i64).enc a0, (tyI .i64).enc a1] 25) = B a0 a1 } := by
  apply Subtype.mk
  intro a0 a1
  simp (maxSteps := 100000000) only [go_sem, q00, q01, q02, q03, q04, q05, q06, q10, q11, q12, q13, q14, Try.f53, Option.getD_some, mixed]
  exact rfl
noncomputable def ref01_Var := fu fun n => (ref01_Var_e n).1
theorem ref01_Var_ok : ∀ (n : Nat) (a0 : Int) (a1 : Int) (r : (Level × Int)), ref01_Var n a0 a1 = some r → FnC Try.prog 53 [(tyI .i64).enc a0, (tyI .i64).enc a1] (fun v => v = (ty2 (tyC Level.cel) (tyI .i64)).enc r)
  | 0, _, _, _, h => by cases h
  | n + 1, a0, a1, r, h => by
    exact okC (((ref01_Var_e n).2 a0 a1).trans h) (gd tabA_nil_ok tabD_nil_ok) Try.func53 ⟨(tyI .i64).nb 0 _, (tyI .i64).nb 0 _, trivial⟩ Try.ntmps53 Try.results53

@[reducible] noncomputable def ref05_Spine_h_m (X : Term → Option (((List Term) × Unit) × (Term × Unit))) (n : Nat) : Mach (((List Term) × Unit) × (Term × Unit)) := mkA Try.prog Try.f52 n (outH Try.prog [.cell 2 25, .tmp 3] 1 Term.row (rsT (tyC Term.cel) (rsA 0 (fun (b : ((List Term) × Unit)) => b.1.length) rsN))) (cl := tabA [(52, entG [] osN (asT (tyC Term.cel) asN) (osC (oaT true Term.row) osN) (rsT (tyC Term.cel) (rsA 0 (fun (b : ((List Term) × Unit)) => b.1.length) rsN)) (fun (b : Unit) a => X a.1))]) (isC := tabI []) (isE := tabI [])
theorem ref05_Spine_h_d (X : Term → Option (((List Term) × Unit) × (Term × Unit))) (n : Nat) : drawP (ref05_Spine_h_m X n) [0, 1, 1, 1] = true := by kernel_rfl
theorem ref05_Spine_h_o (X : Term → Option (((List Term) × Unit) × (Term × Unit))) (n : Nat) : ordP (ref05_Spine_h_m X n) [0, 1, 1, 1] 3 7 = true ∧ ordP (ref05_Spine_h_m X n) [0, 1, 1, 1] 4 7 = true ∧ ordP (ref05_Spine_h_m X n) [0, 1, 1, 1] 5 7 = true ∧ ordP (ref05_Spine_h_m X n) [0, 1, 1, 1] 0 8 = true ∧ ordP (ref05_Spine_h_m X n) [0, 1, 1, 1] 3 8 = true ∧ ordP (ref05_Spine_h_m X n) [0, 1, 1, 1] 4 8 = true ∧ ordP (ref05_Spine_h_m X n) [0, 1, 1, 1] 5 8 = true ∧ ordP (ref05_Spine_h_m X n) [0, 1, 1, 1] 7 8 = true := ⟨by kernel_rfl, by kernel_rfl, by kernel_rfl, by kernel_rfl, by kernel_rfl, by kernel_rfl, by kernel_rfl, by kernel_rfl⟩
attribute [go_sem] ref05_Spine_h_d ref05_Spine_h_o
noncomputable def ref05_Spine_h_e (X : Term → Option (((List Term) × Unit) × (Term × Unit))) (n : Nat) : { B : Term → Option (((List Term) × Unit) × (Term × Unit)) // ∀ (a0 : Term), run (ref05_Spine_h_m X n) [.at []] (ini (((asT (tyC Term.cel) asN) : ASpec Unit _).enc () (a0, ())) 32 (osN.enc ())) = B a0 } := by
  apply Subtype.mk
  intro a0
  simp (maxSteps := 100000000) only [go_sem, q00, q01, q02, q03, q04, q05, q06, q10, q11, q12, q13, q14, Try.f52, Option.getD_some, mixed]
  exact rfl
noncomputable def ref05_Spine_h : Nat → Term → Option (((List Term) × Unit) × (Term × Unit))
  | 0, _ => none
  | n + 1, a0 => (ref05_Spine_h_e (ref05_Spine_h n) n).1 a0
theorem ref05_Spine_h_ok : ∀ (n : Nat) (a0 : Term) (r : (((List Term) × Unit) × (Term × Unit))), ref05_Spine_h n a0 = some r → FnG Try.prog 52 (((asT (tyC Term.cel) asN) : ASpec Unit _).enc () (a0, ())) (osN.enc ()) (fun o H' => o = .ret (tupOf ((rsT (tyC Term.cel) (rsA 0 (fun (b : ((List Term) × Unit)) => b.1.length) rsN)).enc r.1 r.2)) ∧ H' = (osC (oaT true Term.row) osN).enc r.1)
  | 0, _, _, h => by cases h
  | n + 1, a0, r, h => by
    have ih_ref05_Spine_h := ref05_Spine_h_ok n
    exact fnG_run (M := ref05_Spine_h_m (ref05_Spine_h n) n) ⟨(tabA_cons_ok (entG_ok (fun b a r h => (ih_ref05_Spine_h) a.1 r h)) tabA_nil_ok), tabD_nil_ok, tabN_ok _, tabF_ok _, noY_ok, noE_ok, noP_ok, noC_ok⟩ Try.func52 rfl rfl (by simp only [go_sem, q00, q01, q02, q03, q04, q05, q06, q10, q11, q12, q13, q14]) (osN.nb _ _) Try.ntmps52 Try.results52 (fun σ hs => outH_ok hs) (((ref05_Spine_h_e (ref05_Spine_h n) n).2 a0).trans h)

noncomputable def ref01_Same_n1 : Nrm := ⟨[], [], (zA :: zA :: zK :: zK :: zA :: zK :: zA16 (zA16 [])), [oT Level.cel, oT Level.cel], none, none⟩
@[reducible] noncomputable def ref01_Same_m (n : Nat) : Mach Bool := mkA Try.prog Try.f65 n (outR Try.prog [.tmp 4] tyB) (nrm := tabN [([0, 1, 0, 1, 1], ref01_Same_n1)]) (isC := tabI []) (isE := tabI [])
theorem ref01_Same_d (n : Nat) : drawP (ref01_Same_m n) [0, 0, 0, 1, 0, 0, 1, 0, 1, 1] = true := by kernel_rfl
attribute [go_sem] ref01_Same_d ref01_Same_n1
noncomputable abbrev ref01_Same_s1 (v0 : Int) (o0 : Level) (o1 : Level) : AState := ⟨(.any :: .any :: .ptr 0 0 :: .ptr 1 0 :: .any :: .int .i64 v0 :: ay16 (ay16 [])), [.cells (Level.cells o0), .cells (Level.cells o1)], 0, []⟩
abbrev ref01_Same_t1 := Int → Level → Level → Option Bool
abbrev ref01_Same_g1 (n : Nat) (K : List Kt) (Z : ref01_Same_t1) : Prop := ∀ (v0 : Int) (o0 : Level) (o1 : Level), run (ref01_Same_m n) K (ref01_Same_s1 v0 o0 o1) = Z v0 o0 o1
attribute [go_sem] ref01_Same_s1
noncomputable def ref01_Same_b1 (n : Nat) : { B : ref01_Same_t1 → ref01_Same_t1 // ∀ m X0, ref01_Same_g1 n (.lq m [0, 1, 0, 1, 1] :: [.blk 0, .cut [1, 1, 1], .at [1, 1, 1]]) X0 → ref01_Same_g1 n (.at [0, 0, 1, 0, 1, 1] :: .lp m [0, 1, 0, 1, 1] :: [.blk 0, .cut [1, 1, 1], .at [1, 1, 1]]) (B X0) } := by
  apply Subtype.mk
  intro m X0 ih v0 o0 o1
  simp (maxSteps := 100000000) only [go_sem, q00, q01, q02, q03, q04, q05, q06, q10, q11, q12, q13, q14, Try.f65, Option.getD_some, mixed, ih]
  exact rfl
noncomputable def ref01_Same_l1 (n : Nat) : Nat → ref01_Same_t1 := lpF ((ref01_Same_b1 n).1)
theorem ref01_Same_l1_s {n : Nat} {m : Nat} : ref01_Same_l1 n (m + 1) = (ref01_Same_b1 n).1 (ref01_Same_l1 n m) := rfl
theorem ref01_Same_l1_eq (n : Nat) (m : Nat) : ref01_Same_g1 n (.lq m [0, 1, 0, 1, 1] :: [.blk 0, .cut [1, 1, 1], .at [1, 1, 1]]) (ref01_Same_l1 n m) :=
  lpF_eq (G := fun m Z => ref01_Same_g1 n (.lq m [0, 1, 0, 1, 1] :: [.blk 0, .cut [1, 1, 1], .at [1, 1, 1]]) Z) (fun _ _ _ => run_lq_zero) (fun m _ ih v0 o0 o1 => run_lq_succ.trans ((ref01_Same_b1 n).2 _ _ ih v0 o0 o1)) m
noncomputable def ref01_Same_e (n : Nat) : { B : Level → Level → Option Bool // ∀ (a0 : Level) (a1 : Level), run (ref01_Same_m n) [.at []] (ini [(tyC Level.cel).enc a0, (tyC Level.cel).enc a1] 38) = B a0 a1 } := by
  apply Subtype.mk
  intro a0 a1
  simp (maxSteps := 100000000) only [go_sem, q00, q01, q02, q03, q04, q05, q06, q10, q11, q12, q13, q14, Try.f65, Option.getD_some, mixed, ref01_Same_l1_eq n]
  exact rfl
noncomputable def ref01_Same := fu fun n => (ref01_Same_e n).1
theorem ref01_Same_ok : ∀ (n : Nat) (a0 : Level) (a1 : Level) (r : Bool), ref01_Same n a0 a1 = some r → FnC Try.prog 65 [(tyC Level.cel).enc a0, (tyC Level.cel).enc a1] (fun v => v = tyB.enc r)
  | 0, _, _, _, h => by cases h
  | n + 1, a0, a1, r, h => by
    exact okC (((ref01_Same_e n).2 a0 a1).trans h) (gd tabA_nil_ok tabD_nil_ok) Try.func65 ⟨(tyC Level.cel).nb 0 _, (tyC Level.cel).nb 0 _, trivial⟩ Try.ntmps65 Try.results65

noncomputable def ref05_Vars_n1 : Nrm := ⟨[(5, 5, true)], [], (zA :: zK :: zA :: zA :: zA :: zK :: zK :: zA16 (zA4 (zA4 []))), [oA Term.row], none, none⟩
@[reducible] noncomputable def ref05_Vars_m (n : Nat) : Mach (List Term) := mkA Try.prog Try.f26 n (outR Try.prog [.tmp 4] (tyL Term.row)) (nrm := tabN [([0, 1, 0, 1, 1, 1], ref05_Vars_n1)])
attribute [go_sem] ref05_Vars_n1
noncomputable abbrev ref05_Vars_s1 (v0 : Int) (v1 : Int) (r0 : List Term) (c0 : Nat) : AState := ⟨(.any :: .int .i64 v0 :: .any :: .any :: .any :: .acc 0 c0 :: .int .i64 v1 :: ay16 (ay4 (ay4 []))), [.acc true 5 (mp Term.cells r0)], 0, []⟩
abbrev ref05_Vars_t1 := Int → Int → (List Term) → Option (List Term)
abbrev ref05_Vars_g1 (n : Nat) (K : List Kt) (Z : ref05_Vars_t1) : Prop := ∀ (v0 : Int) (v1 : Int) (r0 : List Term) (c0 : Nat), c0 = r0.length → run (ref05_Vars_m n) K (ref05_Vars_s1 v0 v1 r0 c0) = Z v0 v1 r0
attribute [go_sem] ref05_Vars_s1
noncomputable def ref05_Vars_b1 (n : Nat) : { B : ref05_Vars_t1 → ref05_Vars_t1 // ∀ m X0, ref05_Vars_g1 n (.lq m [0, 1, 0, 1, 1, 1] :: [.blk 0, .cut [1, 1, 1, 1], .at [1, 1, 1, 1]]) X0 → ∀ (v0 : Int) (v1 : Int) (r0 : List Term), run (ref05_Vars_m n) (.at [0, 0, 1, 0, 1, 1, 1] :: .lp m [0, 1, 0, 1, 1, 1] :: [.blk 0, .cut [1, 1, 1, 1], .at [1, 1, 1, 1]]) (ref05_Vars_s1 v0 v1 r0 (r0.length)) = B X0 v0 v1 r0 } := by
  apply Subtype.mk
  intro m X0 ih v0 v1 r0
  simp (maxSteps := 100000000) only [go_sem, q00, q01, q02, q03, q04, q05, q06, q10, q11, q12, q13, q14, Try.f26, Option.getD_some, mixed, ih]
  exact rfl
noncomputable def ref05_Vars_l1 (n : Nat) : Nat → ref05_Vars_t1 := lpF ((ref05_Vars_b1 n).1)
theorem ref05_Vars_l1_s {n : Nat} {m : Nat} : ref05_Vars_l1 n (m + 1) = (ref05_Vars_b1 n).1 (ref05_Vars_l1 n m) := rfl
theorem ref05_Vars_l1_eq (n : Nat) (m : Nat) : ref05_Vars_g1 n (.lq m [0, 1, 0, 1, 1, 1] :: [.blk 0, .cut [1, 1, 1, 1], .at [1, 1, 1, 1]]) (ref05_Vars_l1 n m) :=
  lpF_eq (G := fun m Z => ref05_Vars_g1 n (.lq m [0, 1, 0, 1, 1, 1] :: [.blk 0, .cut [1, 1, 1, 1], .at [1, 1, 1, 1]]) Z) (fun _ _ _ _ _ => run_lq_zero) (fun m _ ih => by
    intro v0 v1 r0 c0 ec0
    subst ec0
    rw [run_lq_succ]
    exact (ref05_Vars_b1 n).2 _ _ ih v0 v1 r0) m
noncomputable def ref05_Vars_e (n : Nat) : { B : Int → Int → Option (List Term) // ∀ (a0 : Int) (a1 : Int), run (ref05_Vars_m n) [.at []] (ini [(tyI .i64).enc a0, (tyI .i64).enc a1] 31) = B a0 a1 } := by
  apply Subtype.mk
  intro a0 a1
  simp (maxSteps := 100000000) only [go_sem, q00, q01, q02, q03, q04, q05, q06, q10, q11, q12, q13, q14, Try.f26, Option.getD_some, mixed, ref05_Vars_l1_eq n]
  exact rfl
noncomputable def ref05_Vars := fu fun n => (ref05_Vars_e n).1
theorem ref05_Vars_ok : ∀ (n : Nat) (a0 : Int) (a1 : Int) (r : (List Term)), ref05_Vars n a0 a1 = some r → FnC Try.prog 26 [(tyI .i64).enc a0, (tyI .i64).enc a1] (fun v => v = (tyL Term.row).enc r)
  | 0, _, _, _, h => by cases h
  | n + 1, a0, a1, r, h => by
    exact okC (((ref05_Vars_e n).2 a0 a1).trans h) (gd tabA_nil_ok tabD_nil_ok) Try.func26 ⟨(tyI .i64).nb 0 _, (tyI .i64).nb 0 _, trivial⟩ Try.ntmps26 Try.results26

noncomputable def ref05_Apply_n1 : Nrm := ⟨[], [], (zA :: zT (tyL Term.row) :: zK :: zA :: zK :: zK :: zA4 (zA4 (zA4 (zA :: zA :: [])))), [oT Term.cel, oK], none, none⟩
@[reducible] noncomputable def ref05_Apply_m (n : Nat) : Mach Term := mkA Try.prog Try.f24 n (outR Try.prog [.cell 4 25] (tyC Term.cel)) (nrm := tabN [([0, 1, 0, 1], ref05_Apply_n1)]) (isC := tabI []) (isE := tabI [])
theorem ref05_Apply_d (n : Nat) : drawP (ref05_Apply_m n) [0, 0, 1, 0, 0, 1, 0, 1] = true := by kernel_rfl
theorem ref05_Apply_o (n : Nat) : ordP (ref05_Apply_m n) [0, 0, 1, 0, 0, 1, 0, 1] 0 7 = true ∧ ordP (ref05_Apply_m n) [0, 0, 1, 0, 0, 1, 0, 1] 3 7 = true ∧ ordP (ref05_Apply_m n) [0, 0, 1, 0, 0, 1, 0, 1] 4 7 = true := ⟨by kernel_rfl, by kernel_rfl, by kernel_rfl⟩
attribute [go_sem] ref05_Apply_d ref05_Apply_o ref05_Apply_n1
noncomputable abbrev ref05_Apply_s1 (v0 : List Term) (v1 : Int) (o0 : Term) : AState := ⟨(.any :: .lst false 5 (mp Term.cells v0) :: .ptr 0 0 :: .any :: .ptr 1 0 :: .int .i64 v1 :: ay4 (ay4 (ay4 (.any :: .any :: [])))), [.cells (Term.cells o0), .cells [.int .i64 0, .int .i64 0, .str (sb []), .lst true 0 [], .lst true 0 []]], 0, []⟩
abbrev ref05_Apply_t1 := (List Term) → Int → Term → Option Term
abbrev ref05_Apply_g1 (n : Nat) (K : List Kt) (Z : ref05_Apply_t1) : Prop := ∀ (v0 : List Term) (v1 : Int) (o0 : Term), run (ref05_Apply_m n) K (ref05_Apply_s1 v0 v1 o0) = Z v0 v1 o0
attribute [go_sem] ref05_Apply_s1
noncomputable def ref05_Apply_b1 (n : Nat) : { B : ref05_Apply_t1 → ref05_Apply_t1 // ∀ m X0, ref05_Apply_g1 n (.lq m [0, 1, 0, 1] :: [.blk 0, .cut [1, 1], .at [1, 1]]) X0 → ref05_Apply_g1 n (.at [0, 0, 1, 0, 1] :: .lp m [0, 1, 0, 1] :: [.blk 0, .cut [1, 1], .at [1, 1]]) (B X0) } := by
  apply Subtype.mk
  intro m X0 ih v0 v1 o0
  simp (maxSteps := 100000000) only [go_sem, q00, q01, q02, q03, q04, q05, q06, q10, q11, q12, q13, q14, Try.f24, Option.getD_some, mixed, ih]
  exact rfl
noncomputable def ref05_Apply_l1 (n : Nat) : Nat → ref05_Apply_t1 := lpF ((ref05_Apply_b1 n).1)
theorem ref05_Apply_l1_s {n : Nat} {m : Nat} : ref05_Apply_l1 n (m + 1) = (ref05_Apply_b1 n).1 (ref05_Apply_l1 n m) := rfl
theorem ref05_Apply_l1_eq (n : Nat) (m : Nat) : ref05_Apply_g1 n (.lq m [0, 1, 0, 1] :: [.blk 0, .cut [1, 1], .at [1, 1]]) (ref05_Apply_l1 n m) :=
  lpF_eq (G := fun m Z => ref05_Apply_g1 n (.lq m [0, 1, 0, 1] :: [.blk 0, .cut [1, 1], .at [1, 1]]) Z) (fun _ _ _ => run_lq_zero) (fun m _ ih v0 v1 o0 => run_lq_succ.trans ((ref05_Apply_b1 n).2 _ _ ih v0 v1 o0)) m
noncomputable def ref05_Apply_e (n : Nat) : { B : Term → (List Term) → Option Term // ∀ (a0 : Term) (a1 : (List Term)), run (ref05_Apply_m n) [.at []] (ini [(tyC Term.cel).enc a0, (tyL Term.row).enc a1] 20) = B a0 a1 } := by
  apply Subtype.mk
  intro a0 a1
  simp (maxSteps := 100000000) only [go_sem, q00, q01, q02, q03, q04, q05, q06, q10, q11, q12, q13, q14, Try.f24, Option.getD_some, mixed, ref05_Apply_l1_eq n]
  exact rfl
noncomputable def ref05_Apply := fu fun n => (ref05_Apply_e n).1
theorem ref05_Apply_ok : ∀ (n : Nat) (a0 : Term) (a1 : (List Term)) (r : Term), ref05_Apply n a0 a1 = some r → FnC Try.prog 24 [(tyC Term.cel).enc a0, (tyL Term.row).enc a1] (fun v => v = (tyC Term.cel).enc r)
  | 0, _, _, _, h => by cases h
  | n + 1, a0, a1, r, h => by
    exact okC (((ref05_Apply_e n).2 a0 a1).trans h) (gd tabA_nil_ok tabD_nil_ok) Try.func24 ⟨(tyC Term.cel).nb 0 _, (tyL Term.row).nb 0 _, trivial⟩ Try.ntmps24 Try.results24
end Go.Abs
namespace Go.Abs
open Go.Proofs
set_option maxRecDepth 100000
set_option maxHeartbeats 4000000
set_option linter.unusedSimpArgs false
set_option linter.unusedVariables false
noncomputable def ref05_bind_i2_n1 : Nrm := ⟨[], [], (zK :: zT (tyL Term.row) :: zA :: zA :: zA :: zK :: zK :: zK :: zA16 []), [oT Term.cel, oK], none, none⟩
@[reducible] noncomputable def ref05_bind_i2_m (n : Nat) : Mach Term := mkA Try.prog Try.f27 n (outR Try.prog [.cell 6 25] (tyC Term.cel)) (nrm := tabN [([0, 1, 0, 1], ref05_bind_i2_n1)]) (isC := tabI []) (isE := tabI [])
theorem ref05_bind_i2_d (n : Nat) : drawP (ref05_bind_i2_m n) [0, 0, 1, 0, 0, 1, 0, 1] = true := by kernel_rfl
theorem ref05_bind_i2_o (n : Nat) : ordP (ref05_bind_i2_m n) [0, 0, 1, 0, 0, 1, 0, 1] 3 8 = true ∧ ordP (ref05_bind_i2_m n) [0, 0, 1, 0, 0, 1, 0, 1] 4 8 = true ∧ ordP (ref05_bind_i2_m n) [0, 0, 1, 0, 0, 1, 0, 1] 5 8 = true := ⟨by kernel_rfl, by kernel_rfl, by kernel_rfl⟩
attribute [go_sem] ref05_bind_i2_d ref05_bind_i2_o ref05_bind_i2_n1
noncomputable abbrev ref05_bind_i2_s1 (v0 : Int) (v1 : List Term) (v2 : Int) (o0 : Term) : AState := ⟨(.int .i64 v0 :: .lst false 5 (mp Term.cells v1) :: .any :: .any :: .any :: .ptr 0 0 :: .ptr 1 0 :: .int .i64 v2 :: ay16 []), [.cells (Term.cells o0), .cells [.int .i64 0, .int .i64 0, .str (sb []), .lst true 0 [], .lst true 0 []]], 0, []⟩
abbrev ref05_bind_i2_t1 := Int → (List Term) → Int → Term → Option Term
abbrev ref05_bind_i2_g1 (n : Nat) (K : List Kt) (Z : ref05_bind_i2_t1) : Prop := ∀ (v0 : Int) (v1 : List Term) (v2 : Int) (o0 : Term), run (ref05_bind_i2_m n) K (ref05_bind_i2_s1 v0 v1 v2 o0) = Z v0 v1 v2 o0
attribute [go_sem] ref05_bind_i2_s1
noncomputable def ref05_bind_i2_b1 (n : Nat) : { B : ref05_bind_i2_t1 → ref05_bind_i2_t1 // ∀ m X0, ref05_bind_i2_g1 n (.lq m [0, 1, 0, 1] :: [.blk 0, .cut [1, 1], .at [1, 1]]) X0 → ref05_bind_i2_g1 n (.at [0, 0, 1, 0, 1] :: .lp m [0, 1, 0, 1] :: [.blk 0, .cut [1, 1], .at [1, 1]]) (B X0) } := by
  apply Subtype.mk
  intro m X0 ih v0 v1 v2 o0
  simp (maxSteps := 100000000) only [go_sem, q00, q01, q02, q03, q04, q05, q06, q10, q11, q12, q13, q14, Try.f27, Option.getD_some, mixed, ih]
  exact rfl
noncomputable def ref05_bind_i2_l1 (n : Nat) : Nat → ref05_bind_i2_t1 := lpF ((ref05_bind_i2_b1 n).1)
theorem ref05_bind_i2_l1_s {n : Nat} {m : Nat} : ref05_bind_i2_l1 n (m + 1) = (ref05_bind_i2_b1 n).1 (ref05_bind_i2_l1 n m) := rfl
theorem ref05_bind_i2_l1_eq (n : Nat) (m : Nat) : ref05_bind_i2_g1 n (.lq m [0, 1, 0, 1] :: [.blk 0, .cut [1, 1], .at [1, 1]]) (ref05_bind_i2_l1 n m) :=
  lpF_eq (G := fun m Z => ref05_bind_i2_g1 n (.lq m [0, 1, 0, 1] :: [.blk 0, .cut [1, 1], .at [1, 1]]) Z) (fun _ _ _ _ => run_lq_zero) (fun m _ ih v0 v1 v2 o0 => run_lq_succ.trans ((ref05_bind_i2_b1 n).2 _ _ ih v0 v1 v2 o0)) m
noncomputable def ref05_bind_i2_e (n : Nat) : { B : Int → (List Term) → Term → Option Term // ∀ (a0 : Int) (a1 : (List Term)) (a2 : Term), run (ref05_bind_i2_m n) [.at []] (ini [(tyI .i64).enc a0, (tyL Term.row).enc a1, (tyC Term.cel).enc a2] 24) = B a0 a1 a2 } := by
  apply Subtype.mk
  intro a0 a1 a2
  simp (maxSteps := 100000000) only [go_sem, q00, q01, q02, q03, q04, q05, q06, q10, q11, q12, q13, q14, Try.f27, Option.getD_some, mixed, ref05_bind_i2_l1_eq n]
  exact rfl
noncomputable def ref05_bind_i2 := fu fun n => (ref05_bind_i2_e n).1
theorem ref05_bind_i2_ok : ∀ (n : Nat) (a0 : Int) (a1 : (List Term)) (a2 : Term) (r : Term), ref05_bind_i2 n a0 a1 a2 = some r → FnC Try.prog 27 [(tyI .i64).enc a0, (tyL Term.row).enc a1, (tyC Term.cel).enc a2] (fun v => v = (tyC Term.cel).enc r)
  | 0, _, _, _, _, h => by cases h
  | n + 1, a0, a1, a2, r, h => by
    exact okC (((ref05_bind_i2_e n).2 a0 a1 a2).trans h) (gd tabA_nil_ok tabD_nil_ok) Try.func27 ⟨(tyI .i64).nb 0 _, (tyL Term.row).nb 0 _, (tyC Term.cel).nb 0 _, trivial⟩ Try.ntmps27 Try.results27
end Go.Abs
namespace Go.Abs
open Go.Proofs
set_option maxRecDepth 100000
set_option maxHeartbeats 4000000
set_option linter.unusedSimpArgs false
set_option linter.unusedVariables false
noncomputable def ref05_Pis_t (F : Term → (List Term) → Option (((List Term) × Unit) × (Term × Unit))) := entX [.arg 0 []] (olC (ogA false Term.row) olN) (alA 0 (alT (tyC Term.cel) alN)) (olC (ogA false Term.row) olN) (alT (tyC Term.cel) alN) (fun (b : ((List Term) × Unit)) (a : (Term × Unit)) => F a.1 b.1)
attribute [go_sem] ref05_Pis_t
@[reducible] noncomputable def ref05_Pis_m (n : Nat) : Mach (((List Term) × Unit) × (Term × Unit)) := mkA Try.prog Try.f10 n (outS Try.prog [.cell 4 25] [] [0] 1 (olC (ogA false Term.row) olN) (alT (tyC Term.cel) alN)) (cl := tabA [(27, ref05_bind_t (ref05_bind n))])
noncomputable def ref05_Pis_e (n : Nat) : { B : Term → (List Term) → Option (((List Term) × Unit) × (Term × Unit)) // ∀ (a0 : Term) (o0 : (List Term)), run (ref05_Pis_m n) [.at []] (iniX (alA 0 (alT (tyC Term.cel) alN)) (olC (ogA false Term.row) olN) (o0, ()) (a0, ()) 8) = B a0 o0 } := by
  apply Subtype.mk
  intro a0 o0
  simp (maxSteps := 100000000) only [go_sem, q00, q01, q02, q03, q04, q05, q06, q10, q11, q12, q13, q14, Try.f10, Option.getD_some, mixed]
  exact rfl
noncomputable def ref05_Pis := fu fun n => (ref05_Pis_e n).1
theorem ref05_Pis_ok : ∀ (n : Nat) (a0 : Term) (o0 : (List Term)) (r : (((List Term) × Unit) × (Term × Unit))), ref05_Pis n a0 o0 = some r → SG Try.prog 10 (alA 0 (alT (tyC Term.cel) alN)) (olC (ogA false Term.row) olN) (o0, ()) (a0, ()) (olC (ogA false Term.row) olN) (alT (tyC Term.cel) alN) r
  | 0, _, _, _, h => by cases h
  | n + 1, a0, o0, r, h => by
    exact okG (((ref05_Pis_e n).2 a0 o0).trans h) (gd (tabA_cons_ok (entX_ok (fun b a r h => (ref05_bind_ok n) a.1 a.2.1 b.1 r h)) tabA_nil_ok) tabD_nil_ok) Try.func10 Try.ntmps10 Try.results10

@[reducible] noncomputable def law07_small_m (n : Nat) : Mach Bool := mkA Try.prog Try.f28 n (outR Try.prog [.tmp 2] tyB) (cl := tabA [(42, ent1 (tyC Term.cel) (tyI .i64) (ref03_Size n)), (43, ent1 (tyC Term.cel) (tyI .i64) (ref03_Depth n))])
noncomputable def law07_small_e (n : Nat) : { B : Term → Option Bool // ∀ (a0 : Term), run (law07_small_m n) [.at []] (ini [(tyC Term.cel).enc a0] 11) = B a0 } := by
  apply Subtype.mk
  intro a0
  simp (maxSteps := 100000000) only [go_sem, q00, q01, q02, q03, q04, q05, q06, q10, q11, q12, q13, q14, Try.f28, Option.getD_some, mixed]
  exact rfl
noncomputable def law07_small := fu fun n => (law07_small_e n).1
theorem law07_small_ok : ∀ (n : Nat) (a0 : Term) (r : Bool), law07_small n a0 = some r → FnC Try.prog 28 [(tyC Term.cel).enc a0] (fun v => v = tyB.enc r)
  | 0, _, _, h => by cases h
  | n + 1, a0, r, h => by
    exact okC (((law07_small_e n).2 a0).trans h) (gd (tabA_cons_ok (ent1_ok (ref03_Size_ok n)) (tabA_cons_ok (ent1_ok (ref03_Depth_ok n)) tabA_nil_ok)) tabD_nil_ok) Try.func28 ⟨(tyC Term.cel).nb 0 _, trivial⟩ Try.ntmps28 Try.results28

@[reducible] noncomputable def ref03_form_m (n : Nat) : Mach Bool := mkA Try.prog Try.f54 n (outR Try.prog [.tmp 2] tyB) (cd := tabD [(62, entD (ent1 (tyI .i64) (tyI .i64) (ref03_Kids n)))]) (isC := tabI []) (isE := tabI [])
theorem ref03_form_d (n : Nat) : drawP (ref03_form_m n) [0, 0, 1] = true := by kernel_rfl
attribute [go_sem] ref03_form_d
noncomputable def ref03_form_e (n : Nat) : { B : Term → Option Bool // ∀ (a0 : Term), run (ref03_form_m n) [.at []] (ini [(tyC Term.cel).enc a0] 57) = B a0 } := by
  apply Subtype.mk
  intro a0
  simp (maxSteps := 100000000) only [go_sem, q00, q01, q02, q03, q04, q05, q06, q10, q11, q12, q13, q14, Try.f54, Option.getD_some, mixed]
  exact rfl
noncomputable def ref03_form := fu fun n => (ref03_form_e n).1
theorem ref03_form_ok : ∀ (n : Nat) (a0 : Term) (r : Bool), ref03_form n a0 = some r → FnC Try.prog 54 [(tyC Term.cel).enc a0] (fun v => v = tyB.enc r)
  | 0, _, _, h => by cases h
  | n + 1, a0, r, h => by
    exact okC (((ref03_form_e n).2 a0).trans h) (gd tabA_nil_ok (tabD_cons_ok (ent1_okD (ref03_Kids_ok n)) tabD_nil_ok)) Try.func54 ⟨(tyC Term.cel).nb 0 _, trivial⟩ Try.ntmps54 Try.results54

noncomputable def ref03_Name_n1 : Nrm := ⟨[], [], (zK :: zA :: zA :: zK :: zK :: zA16 (zA16 (zA4 (zA4 [])))), [], none, none⟩
@[reducible] noncomputable def ref03_Name_m (n : Nat) : Mach Bool := mkA Try.prog Try.f13 n (outR Try.prog [.tmp 2] tyB) (cl := tabA [(31, ent1 (tyI .u8) tyB (ref03_letter n))]) (nrm := tabN [([0, 1, 0, 1, 1, 1], ref03_Name_n1)])
attribute [go_sem] ref03_Name_n1
noncomputable abbrev ref03_Name_s1 (v0 : Str) (v1 : Bool) (v2 : Int) : AState := ⟨(.str (sb v0) :: .any :: .any :: .bool v1 :: .int .i64 v2 :: ay16 (ay16 (ay4 (ay4 [])))), [], 0, []⟩
abbrev ref03_Name_t1 := Str → Bool → Int → Option Bool
abbrev ref03_Name_g1 (n : Nat) (K : List Kt) (Z : ref03_Name_t1) : Prop := ∀ (v0 : Str) (v1 : Bool) (v2 : Int), run (ref03_Name_m n) K (ref03_Name_s1 v0 v1 v2) = Z v0 v1 v2
attribute [go_sem] ref03_Name_s1
noncomputable def ref03_Name_b1 (n : Nat) : { B : ref03_Name_t1 → ref03_Name_t1 // ∀ m X0, ref03_Name_g1 n (.lq m [0, 1, 0, 1, 1, 1] :: [.blk 0, .cut [1, 1, 1, 1], .at [1, 1, 1, 1]]) X0 → ref03_Name_g1 n (.at [0, 0, 1, 0, 1, 1, 1] :: .lp m [0, 1, 0, 1, 1, 1] :: [.blk 0, .cut [1, 1, 1, 1], .at [1, 1, 1, 1]]) (B X0) } := by
  apply Subtype.mk
  intro m X0 ih v0 v1 v2
  simp (maxSteps := 100000000) only [go_sem, q00, q01, q02, q03, q04, q05, q06, q10, q11, q12, q13, q14, Try.f13, Option.getD_some, mixed, ih]
  exact rfl
noncomputable def ref03_Name_l1 (n : Nat) : Nat → ref03_Name_t1 := lpF ((ref03_Name_b1 n).1)
theorem ref03_Name_l1_s {n : Nat} {m : Nat} : ref03_Name_l1 n (m + 1) = (ref03_Name_b1 n).1 (ref03_Name_l1 n m) := rfl
theorem ref03_Name_l1_eq (n : Nat) (m : Nat) : ref03_Name_g1 n (.lq m [0, 1, 0, 1, 1, 1] :: [.blk 0, .cut [1, 1, 1, 1], .at [1, 1, 1, 1]]) (ref03_Name_l1 n m) :=
  lpF_eq (G := fun m Z => ref03_Name_g1 n (.lq m [0, 1, 0, 1, 1, 1] :: [.blk 0, .cut [1, 1, 1, 1], .at [1, 1, 1, 1]]) Z) (fun _ _ _ => run_lq_zero) (fun m _ ih v0 v1 v2 => run_lq_succ.trans ((ref03_Name_b1 n).2 _ _ ih v0 v1 v2)) m
noncomputable def ref03_Name_e (n : Nat) : { B : Str → Option Bool // ∀ (a0 : Str), run (ref03_Name_m n) [.at []] (ini [tyS.enc a0] 45) = B a0 } := by
  apply Subtype.mk
  intro a0
  simp (maxSteps := 100000000) only [go_sem, q00, q01, q02, q03, q04, q05, q06, q10, q11, q12, q13, q14, Try.f13, Option.getD_some, mixed, ref03_Name_l1_eq n]
  exact rfl
noncomputable def ref03_Name := fu fun n => (ref03_Name_e n).1
theorem ref03_Name_ok : ∀ (n : Nat) (a0 : Str) (r : Bool), ref03_Name n a0 = some r → FnC Try.prog 13 [tyS.enc a0] (fun v => v = tyB.enc r)
  | 0, _, _, h => by cases h
  | n + 1, a0, r, h => by
    exact okC (((ref03_Name_e n).2 a0).trans h) (gd (tabA_cons_ok (ent1_ok (ref03_letter_ok n)) tabA_nil_ok) tabD_nil_ok) Try.func13 ⟨tyS.nb 0 _, trivial⟩ Try.ntmps13 Try.results13

noncomputable def ref03_level_n1 : Nrm := ⟨[], [], (zA :: zA :: zK :: zK :: zA4 (zK :: zA16 (zA16 (zA16 (zA4 []))))), [oT Level.cel], none, none⟩
noncomputable def ref03_level_n2 : Nrm := ⟨[], [], (zA :: zK :: zK :: zK :: zA :: zA :: zA :: zK :: zA16 (zA16 (zA16 (zA4 (zA :: []))))), [oT Level.cel], none, none⟩
@[reducible] noncomputable def ref03_level_m (n : Nat) : Mach Int := mkA Try.prog Try.f55 n (outR Try.prog [.tmp 6] (tyI .i64)) (cl := tabA [(63, ent1 (tyC Level.cel) tyB (ref01_Valid n))]) (nrm := tabN [([0, 1, 0, 1, 1, 1], ref03_level_n1), ([0, 1, 0, 1, 1], ref03_level_n2)])
attribute [go_sem] ref03_level_n1 ref03_level_n2
noncomputable abbrev ref03_level_s1 (v0 : Int) (v1 : Int) (o0 : Level) : AState := ⟨(.any :: .any :: .int .i64 v0 :: .ptr 0 0 :: ay4 (.int .i64 v1 :: ay16 (ay16 (ay16 (ay4 []))))), [.cells (Level.cells o0)], 0, []⟩
abbrev ref03_level_t1 := Int → Int → Level → Option Int
abbrev ref03_level_g1 (n : Nat) (K : List Kt) (Z : ref03_level_t1) : Prop := ∀ (v0 : Int) (v1 : Int) (o0 : Level), run (ref03_level_m n) K (ref03_level_s1 v0 v1 o0) = Z v0 v1 o0
noncomputable abbrev ref03_level_s2 (v0 : Int) (v1 : Int) (v2 : Int) (o0 : Level) : AState := ⟨(.any :: .int .i64 v0 :: .int .i64 v1 :: .ptr 0 0 :: .any :: .any :: .any :: .int .i64 v2 :: ay16 (ay16 (ay16 (ay4 (.any :: []))))), [.cells (Level.cells o0)], 0, []⟩
abbrev ref03_level_t2 := Int → Int → Int → Level → Option Int
abbrev ref03_level_g2 (n : Nat) (K : List Kt) (Z : ref03_level_t2) : Prop := ∀ (v0 : Int) (v1 : Int) (v2 : Int) (o0 : Level), run (ref03_level_m n) K (ref03_level_s2 v0 v1 v2 o0) = Z v0 v1 v2 o0
attribute [go_sem] ref03_level_s1 ref03_level_s2
noncomputable def ref03_level_b1 (n : Nat) : { B : ref03_level_t1 → ref03_level_t1 // ∀ m X0, ref03_level_g1 n (.lq m [0, 1, 0, 1, 1, 1] :: [.blk 2, .cut [1, 1, 1, 1], .at [1, 1, 1, 1]]) X0 → ref03_level_g1 n (.at [0, 0, 1, 0, 1, 1, 1] :: .lp m [0, 1, 0, 1, 1, 1] :: [.blk 2, .cut [1, 1, 1, 1], .at [1, 1, 1, 1]]) (B X0) } := by
  apply Subtype.mk
  intro m X0 ih v0 v1 o0
  simp (maxSteps := 100000000) only [go_sem, q00, q01, q02, q03, q04, q05, q06, q10, q11, q12, q13, q14, Try.f55, Option.getD_some, mixed, ih]
  exact rfl
noncomputable def ref03_level_l1 (n : Nat) : Nat → ref03_level_t1 := lpF ((ref03_level_b1 n).1)
theorem ref03_level_l1_s {n : Nat} {m : Nat} : ref03_level_l1 n (m + 1) = (ref03_level_b1 n).1 (ref03_level_l1 n m) := rfl
theorem ref03_level_l1_eq (n : Nat) (m : Nat) : ref03_level_g1 n (.lq m [0, 1, 0, 1, 1, 1] :: [.blk 2, .cut [1, 1, 1, 1], .at [1, 1, 1, 1]]) (ref03_level_l1 n m) :=
  lpF_eq (G := fun m Z => ref03_level_g1 n (.lq m [0, 1, 0, 1, 1, 1] :: [.blk 2, .cut [1, 1, 1, 1], .at [1, 1, 1, 1]]) Z) (fun _ _ _ => run_lq_zero) (fun m _ ih v0 v1 o0 => run_lq_succ.trans ((ref03_level_b1 n).2 _ _ ih v0 v1 o0)) m
noncomputable def ref03_level_b2 (n : Nat) : { B : ref03_level_t2 → ref03_level_t2 // ∀ m X0, ref03_level_g2 n (.lq m [0, 1, 0, 1, 1] :: [.blk 0, .cut [1, 1, 1], .at [1, 1, 1]]) X0 → ref03_level_g2 n (.at [0, 0, 1, 0, 1, 1] :: .lp m [0, 1, 0, 1, 1] :: [.blk 0, .cut [1, 1, 1], .at [1, 1, 1]]) (B X0) } := by
  apply Subtype.mk
  intro m X0 ih v0 v1 v2 o0
  simp (maxSteps := 100000000) only [go_sem, q00, q01, q02, q03, q04, q05, q06, q10, q11, q12, q13, q14, Try.f55, Option.getD_some, mixed, ref03_level_l1_eq n, ih]
  exact rfl
noncomputable def ref03_level_l2 (n : Nat) : Nat → ref03_level_t2 := lpF ((ref03_level_b2 n).1)
theorem ref03_level_l2_s {n : Nat} {m : Nat} : ref03_level_l2 n (m + 1) = (ref03_level_b2 n).1 (ref03_level_l2 n m) := rfl
theorem ref03_level_l2_eq (n : Nat) (m : Nat) : ref03_level_g2 n (.lq m [0, 1, 0, 1, 1] :: [.blk 0, .cut [1, 1, 1], .at [1, 1, 1]]) (ref03_level_l2 n m) :=
  lpF_eq (G := fun m Z => ref03_level_g2 n (.lq m [0, 1, 0, 1, 1] :: [.blk 0, .cut [1, 1, 1], .at [1, 1, 1]]) Z) (fun _ _ _ _ => run_lq_zero) (fun m _ ih v0 v1 v2 o0 => run_lq_succ.trans ((ref03_level_b2 n).2 _ _ ih v0 v1 v2 o0)) m
noncomputable def ref03_level_e (n : Nat) : { B : Level → Int → Int → Option Int // ∀ (a0 : Level) (a1 : Int) (a2 : Int), run (ref03_level_m n) [.at []] (ini [(tyC Level.cel).enc a0, (tyI .i64).enc a1, (tyI .i64).enc a2] 61) = B a0 a1 a2 } := by
  apply Subtype.mk
  intro a0 a1 a2
  simp (maxSteps := 100000000) only [go_sem, q00, q01, q02, q03, q04, q05, q06, q10, q11, q12, q13, q14, Try.f55, Option.getD_some, mixed, ref03_level_l1_eq n, ref03_level_l2_eq n]
  exact rfl
noncomputable def ref03_level := fu fun n => (ref03_level_e n).1
theorem ref03_level_ok : ∀ (n : Nat) (a0 : Level) (a1 : Int) (a2 : Int) (r : Int), ref03_level n a0 a1 a2 = some r → FnC Try.prog 55 [(tyC Level.cel).enc a0, (tyI .i64).enc a1, (tyI .i64).enc a2] (fun v => v = (tyI .i64).enc r)
  | 0, _, _, _, _, h => by cases h
  | n + 1, a0, a1, a2, r, h => by
    exact okC (((ref03_level_e n).2 a0 a1 a2).trans h) (gd (tabA_cons_ok (ent1_ok (ref01_Valid_ok n)) tabA_nil_ok) tabD_nil_ok) Try.func55 ⟨(tyC Level.cel).nb 0 _, (tyI .i64).nb 0 _, (tyI .i64).nb 0 _, trivial⟩ Try.ntmps55 Try.results55

noncomputable def telescope_Spine_n1 : Nrm := ⟨[(4, 5, false)], [], (zA :: zK :: zK :: zA :: zK :: zA16 (zA4 (zA4 []))), [oT Term.cel, oK, oA Term.row], none, none⟩
@[reducible] noncomputable def telescope_Spine_m (n : Nat) : Mach (Term × (List Term)) := mkA Try.prog Try.f32 n (outR Try.prog [.cell 2 25, .tmp 3] (ty2 (tyC Term.cel) (tyL Term.row))) (cl := tabA [(45, entGh 0 false 5 (entG [0] (osC (oaT false Term.row) osN) (asA 0 (fun (b : ((List Term) × Unit)) => b.1.length) asN) (osC (oaT false Term.row) osN) rsN (fun (b : ((List Term) × Unit)) a => (slices_Reverse_Term n) b.1)))]) (nrm := tabN [([0, 0, 1, 1], telescope_Spine_n1)])
attribute [go_sem] telescope_Spine_n1
noncomputable abbrev telescope_Spine_s1 (o0 : Term) (r2 : List Term) (c2 : Nat) : AState := ⟨(.any :: .ptr 0 0 :: .ptr 1 0 :: .any :: .acc 2 c2 :: ay16 (ay4 (ay4 []))), [.cells (Term.cells o0), .cells [.int .i64 0, .int .i64 0, .str (sb []), .lst true 0 [], .lst true 0 []], .acc false 5 (mp Term.cells r2)], 0, []⟩
abbrev telescope_Spine_t1 := Term → (List Term) → Option (Term × (List Term))
abbrev telescope_Spine_g1 (n : Nat) (K : List Kt) (Z : telescope_Spine_t1) : Prop := ∀ (o0 : Term) (r2 : List Term) (c2 : Nat), c2 = r2.length → run (telescope_Spine_m n) K (telescope_Spine_s1 o0 r2 c2) = Z o0 r2
attribute [go_sem] telescope_Spine_s1
noncomputable def telescope_Spine_b1 (n : Nat) : { B : telescope_Spine_t1 → telescope_Spine_t1 // ∀ m X0, telescope_Spine_g1 n (.lq m [0, 0, 1, 1] :: [.blk 0, .cut [1, 1, 1], .at [1, 1, 1]]) X0 → ∀ (o0 : Term) (r2 : List Term), run (telescope_Spine_m n) (.at [0, 0, 0, 1, 1] :: .lp m [0, 0, 1, 1] :: [.blk 0, .cut [1, 1, 1], .at [1, 1, 1]]) (telescope_Spine_s1 o0 r2 (r2.length)) = B X0 o0 r2 } := by
  apply Subtype.mk
  intro m X0 ih o0 r2
  simp (maxSteps := 100000000) only [go_sem, q00, q01, q02, q03, q04, q05, q06, q10, q11, q12, q13, q14, Try.f32, Option.getD_some, mixed, ih]
  exact rfl
noncomputable def telescope_Spine_l1 (n : Nat) : Nat → telescope_Spine_t1 := lpF ((telescope_Spine_b1 n).1)
theorem telescope_Spine_l1_s {n : Nat} {m : Nat} : telescope_Spine_l1 n (m + 1) = (telescope_Spine_b1 n).1 (telescope_Spine_l1 n m) := rfl
theorem telescope_Spine_l1_eq (n : Nat) (m : Nat) : telescope_Spine_g1 n (.lq m [0, 0, 1, 1] :: [.blk 0, .cut [1, 1, 1], .at [1, 1, 1]]) (telescope_Spine_l1 n m) :=
  lpF_eq (G := fun m Z => telescope_Spine_g1 n (.lq m [0, 0, 1, 1] :: [.blk 0, .cut [1, 1, 1], .at [1, 1, 1]]) Z) (fun _ _ _ _ => run_lq_zero) (fun m _ ih => by
    intro o0 r2 c2 ec2
    subst ec2
    rw [run_lq_succ]
    exact (telescope_Spine_b1 n).2 _ _ ih o0 r2) m
noncomputable def telescope_Spine_e (n : Nat) : { B : Term → Option (Term × (List Term)) // ∀ (a0 : Term), run (telescope_Spine_m n) [.at []] (ini [(tyC Term.cel).enc a0] 29) = B a0 } := by
  apply Subtype.mk
  intro a0
  simp (maxSteps := 100000000) only [go_sem, q00, q01, q02, q03, q04, q05, q06, q10, q11, q12, q13, q14, Try.f32, Option.getD_some, mixed, telescope_Spine_l1_eq n]
  exact rfl
noncomputable def telescope_Spine := fu fun n => (telescope_Spine_e n).1
theorem telescope_Spine_ok : ∀ (n : Nat) (a0 : Term) (r : (Term × (List Term))), telescope_Spine n a0 = some r → FnC Try.prog 32 [(tyC Term.cel).enc a0] (fun v => v = (ty2 (tyC Term.cel) (tyL Term.row)).enc r)
  | 0, _, _, h => by cases h
  | n + 1, a0, r, h => by
    exact okC (((telescope_Spine_e n).2 a0).trans h) (gd (tabA_cons_ok (entGh_ok (entG_ok (fun b a r h => (slices_Reverse_Term_ok n) b.1 r h))) tabA_nil_ok) tabD_nil_ok) Try.func32 ⟨(tyC Term.cel).nb 0 _, trivial⟩ Try.ntmps32 Try.results32
end Go.Abs
namespace Go.Abs
open Go.Proofs
set_option maxRecDepth 100000
set_option maxHeartbeats 4000000
set_option linter.unusedSimpArgs false
set_option linter.unusedVariables false
@[reducible] noncomputable def term_sameLevel_m (n : Nat) : Mach Bool := mkA Try.prog Try.f59 n (outR Try.prog [.tmp 4] tyB) (cl := tabA [(64, ent2 (tyL Zs2.row) (tyL Zs2.row) tyB (slices_Equal_LevelVar n))])
noncomputable def term_sameLevel_e (n : Nat) : { B : Level → Level → Option Bool // ∀ (a0 : Level) (a1 : Level), run (term_sameLevel_m n) [.at []] (ini [(tyC Level.cel).enc a0, (tyC Level.cel).enc a1] 17) = B a0 a1 } := by
  apply Subtype.mk
  intro a0 a1
  simp (maxSteps := 100000000) only [go_sem, q00, q01, q02, q03, q04, q05, q06, q10, q11, q12, q13, q14, Try.f59, Option.getD_some, mixed]
  exact rfl
noncomputable def term_sameLevel := fu fun n => (term_sameLevel_e n).1
theorem term_sameLevel_ok : ∀ (n : Nat) (a0 : Level) (a1 : Level) (r : Bool), term_sameLevel n a0 a1 = some r → FnC Try.prog 59 [(tyC Level.cel).enc a0, (tyC Level.cel).enc a1] (fun v => v = tyB.enc r)
  | 0, _, _, _, h => by cases h
  | n + 1, a0, a1, r, h => by
    exact okC (((term_sameLevel_e n).2 a0 a1).trans h) (gd (tabA_cons_ok (ent2_ok (slices_Equal_LevelVar_ok n)) tabA_nil_ok) tabD_nil_ok) Try.func59 ⟨(tyC Level.cel).nb 0 _, (tyC Level.cel).nb 0 _, trivial⟩ Try.ntmps59 Try.results59

noncomputable def slices_IndexFunc_RecField_positivity_Check_1_n1 : Nrm := ⟨[], [], (zT (tyL Zs5.row) :: zK :: zA4 (zA :: zK :: zK :: zA4 (zA4 (zA :: zA :: [])))), [oC [zK]], none, none⟩
noncomputable def slices_IndexFunc_RecField_positivity_Check_1_as : AL ((List Zs5) × (Unit × Unit)) := (alT (tyL Zs5.row) (alF 19 (vlP 0 vlN) alN))
attribute [go_sem] slices_IndexFunc_RecField_positivity_Check_1_as
noncomputable def slices_IndexFunc_RecField_positivity_Check_1_t (F : (List Zs5) → Int → Option (((Int × Unit) × Unit) × (Int × Unit))) := entX [.arg 1 [0]] (olC (ogC (alC (cI .i64) 1 alN)) olN) slices_IndexFunc_RecField_positivity_Check_1_as (olC (ogC (alC (cI .i64) 1 alN)) olN) (alT (tyI .i64) alN) (fun (b : ((Int × Unit) × Unit)) (a : ((List Zs5) × (Unit × Unit))) => F a.1 b.1.1)
attribute [go_sem] slices_IndexFunc_RecField_positivity_Check_1_t
@[reducible] noncomputable def slices_IndexFunc_RecField_positivity_Check_1_m (n : Nat) : Mach (((Int × Unit) × Unit) × (Int × Unit)) := mkA Try.prog Try.f36 n (outS Try.prog [.tmp 4] [] [0] 1 (olC (ogC (alC (cI .i64) 1 alN)) olN) (alT (tyI .i64) alN)) (cl := tabA [(19, entG [1] (osC (ocT (cI .i64)) osN) (asT (tyC Zs5.cel) (asP 0 asN)) (osC (ocT (cI .i64)) osN) (rsT tyB rsN) (fun (b : (Int × Unit)) a => (positivity_Check_1 n) a.1 b.1))]) (nrm := tabN [([0, 1, 0, 1], slices_IndexFunc_RecField_positivity_Check_1_n1)])
attribute [go_sem] slices_IndexFunc_RecField_positivity_Check_1_n1
noncomputable abbrev slices_IndexFunc_RecField_positivity_Check_1_s1 (v0 : List Zs5) (v1 : Int) (v2 : Int) (v3 : Int) : AState := ⟨(.lst false 3 (mp Zs5.cells v0) :: .func (.func 19) [] [.ptr 0 0] :: ay4 (.any :: .int .i64 v1 :: .int .i64 v2 :: ay4 (ay4 (.any :: .any :: [])))), [.cells [.int .i64 v3]], 1, []⟩
abbrev slices_IndexFunc_RecField_positivity_Check_1_t1 := (List Zs5) → Int → Int → Int → Option (((Int × Unit) × Unit) × (Int × Unit))
abbrev slices_IndexFunc_RecField_positivity_Check_1_g1 (n : Nat) (K : List Kt) (Z : slices_IndexFunc_RecField_positivity_Check_1_t1) : Prop := ∀ (v0 : List Zs5) (v1 : Int) (v2 : Int) (v3 : Int), run (slices_IndexFunc_RecField_positivity_Check_1_m n) K (slices_IndexFunc_RecField_positivity_Check_1_s1 v0 v1 v2 v3) = Z v0 v1 v2 v3
attribute [go_sem] slices_IndexFunc_RecField_positivity_Check_1_s1
noncomputable def slices_IndexFunc_RecField_positivity_Check_1_b1 (n : Nat) : { B : slices_IndexFunc_RecField_positivity_Check_1_t1 → slices_IndexFunc_RecField_positivity_Check_1_t1 // ∀ m X0, slices_IndexFunc_RecField_positivity_Check_1_g1 n (.lq m [0, 1, 0, 1] :: [.blk 0, .cut [1, 1], .at [1, 1]]) X0 → slices_IndexFunc_RecField_positivity_Check_1_g1 n (.at [0, 0, 1, 0, 1] :: .lp m [0, 1, 0, 1] :: [.blk 0, .cut [1, 1], .at [1, 1]]) (B X0) } := by
  apply Subtype.mk
  intro m X0 ih v0 v1 v2 v3
  simp (maxSteps := 100000000) only [go_sem, q00, q01, q02, q03, q04, q05, q06, q10, q11, q12, q13, q14, Try.f36, Option.getD_some, mixed, ih]
  exact rfl
noncomputable def slices_IndexFunc_RecField_positivity_Check_1_l1 (n : Nat) : Nat → slices_IndexFunc_RecField_positivity_Check_1_t1 := lpF ((slices_IndexFunc_RecField_positivity_Check_1_b1 n).1)
theorem slices_IndexFunc_RecField_positivity_Check_1_l1_s {n : Nat} {m : Nat} : slices_IndexFunc_RecField_positivity_Check_1_l1 n (m + 1) = (slices_IndexFunc_RecField_positivity_Check_1_b1 n).1 (slices_IndexFunc_RecField_positivity_Check_1_l1 n m) := rfl
theorem slices_IndexFunc_RecField_positivity_Check_1_l1_eq (n : Nat) (m : Nat) : slices_IndexFunc_RecField_positivity_Check_1_g1 n (.lq m [0, 1, 0, 1] :: [.blk 0, .cut [1, 1], .at [1, 1]]) (slices_IndexFunc_RecField_positivity_Check_1_l1 n m) :=
  lpF_eq (G := fun m Z => slices_IndexFunc_RecField_positivity_Check_1_g1 n (.lq m [0, 1, 0, 1] :: [.blk 0, .cut [1, 1], .at [1, 1]]) Z) (fun _ _ _ _ => run_lq_zero) (fun m _ ih v0 v1 v2 v3 => run_lq_succ.trans ((slices_IndexFunc_RecField_positivity_Check_1_b1 n).2 _ _ ih v0 v1 v2 v3)) m
noncomputable def slices_IndexFunc_RecField_positivity_Check_1_e (n : Nat) : { B : (List Zs5) → Int → Option (((Int × Unit) × Unit) × (Int × Unit)) // ∀ (a0 : (List Zs5)) (o0 : Int), run (slices_IndexFunc_RecField_positivity_Check_1_m n) [.at []] (iniX slices_IndexFunc_RecField_positivity_Check_1_as (olC (ogC (alC (cI .i64) 1 alN)) olN) ((o0, ()), ()) (a0, (), ()) 19) = B a0 o0 } := by
  apply Subtype.mk
  intro a0 o0
  simp (maxSteps := 100000000) only [go_sem, q00, q01, q02, q03, q04, q05, q06, q10, q11, q12, q13, q14, Try.f36, Option.getD_some, mixed, slices_IndexFunc_RecField_positivity_Check_1_l1_eq n]
  exact rfl
noncomputable def slices_IndexFunc_RecField_positivity_Check_1 := fu fun n => (slices_IndexFunc_RecField_positivity_Check_1_e n).1
theorem slices_IndexFunc_RecField_positivity_Check_1_ok : ∀ (n : Nat) (a0 : (List Zs5)) (o0 : Int) (r : (((Int × Unit) × Unit) × (Int × Unit))), slices_IndexFunc_RecField_positivity_Check_1 n a0 o0 = some r → SG Try.prog 36 slices_IndexFunc_RecField_positivity_Check_1_as (olC (ogC (alC (cI .i64) 1 alN)) olN) ((o0, ()), ()) (a0, (), ()) (olC (ogC (alC (cI .i64) 1 alN)) olN) (alT (tyI .i64) alN) r
  | 0, _, _, _, h => by cases h
  | n + 1, a0, o0, r, h => by
    exact okG (((slices_IndexFunc_RecField_positivity_Check_1_e n).2 a0 o0).trans h) (gd (tabA_cons_ok (entG_ok (fun b a r h => (positivity_Check_1_ok n) a.1 b.1 r h)) tabA_nil_ok) tabD_nil_ok) Try.func36 Try.ntmps36 Try.results36

@[reducible] noncomputable def positivity_occurs_m (n : Nat) : Mach Bool := mkA Try.prog Try.f20 n (outR Try.prog [.tmp 4] tyB) (cl := tabA [(38, slices_ContainsFunc_Term_positivity_occurs_1_t (slices_ContainsFunc_Term_positivity_occurs_1 n))]) (cut := tabF [([1, 1, 1], [0])])
noncomputable def positivity_occurs_e (n : Nat) : { B : Str → (List Term) → Option Bool // ∀ (a0 : Str) (a1 : (List Term)), run (positivity_occurs_m n) [.at []] (ini [tyS.enc a0, (tyL Term.row).enc a1] 10) = B a0 a1 } := by
  apply Subtype.mk
  intro a0 a1
  simp (maxSteps := 100000000) only [go_sem, q00, q01, q02, q03, q04, q05, q06, q10, q11, q12, q13, q14, Try.f20, Option.getD_some, mixed]
  exact rfl
noncomputable def positivity_occurs := fu fun n => (positivity_occurs_e n).1
theorem positivity_occurs_ok : ∀ (n : Nat) (a0 : Str) (a1 : (List Term)) (r : Bool), positivity_occurs n a0 a1 = some r → FnC Try.prog 20 [tyS.enc a0, (tyL Term.row).enc a1] (fun v => v = tyB.enc r)
  | 0, _, _, _, h => by cases h
  | n + 1, a0, a1, r, h => by
    exact okC (((positivity_occurs_e n).2 a0 a1).trans h) (gd (tabA_cons_ok (entX_ok (fun b a r h => (slices_ContainsFunc_Term_positivity_occurs_1_ok n) a.1 a.2.1.1 b.1.1.1 r h)) tabA_nil_ok) tabD_nil_ok) Try.func20 ⟨tyS.nb 0 _, (tyL Term.row).nb 0 _, trivial⟩ Try.ntmps20 Try.results20

noncomputable def ref07_Params_n1 : Nrm := ⟨[(3, 2, true)], [], (zK :: zA :: zA :: zK :: zK :: zA16 (zA :: [])), [oA Level.row], none, none⟩
@[reducible] noncomputable def ref07_Params_m (n : Nat) : Mach (List Level) := mkA Try.prog Try.f41 n (outR Try.prog [.tmp 2] (tyL Level.row)) (cl := tabA [(53, ent2 (tyI .i64) (tyI .i64) (ty2 (tyC Level.cel) (tyI .i64)) (ref01_Var n))]) (nrm := tabN [([0, 1, 0, 1, 1], ref07_Params_n1)])
attribute [go_sem] ref07_Params_n1
noncomputable abbrev ref07_Params_s1 (v0 : Int) (v1 : Int) (r0 : List Level) (c0 : Nat) : AState := ⟨(.int .i64 v0 :: .any :: .any :: .acc 0 c0 :: .int .i64 v1 :: ay16 (.any :: [])), [.acc true 2 (mp Level.cells r0)], 0, []⟩
abbrev ref07_Params_t1 := Int → Int → (List Level) → Option (List Level)
abbrev ref07_Params_g1 (n : Nat) (K : List Kt) (Z : ref07_Params_t1) : Prop := ∀ (v0 : Int) (v1 : Int) (r0 : List Level) (c0 : Nat), c0 = r0.length → run (ref07_Params_m n) K (ref07_Params_s1 v0 v1 r0 c0) = Z v0 v1 r0
attribute [go_sem] ref07_Params_s1
noncomputable def ref07_Params_b1 (n : Nat) : { B : ref07_Params_t1 → ref07_Params_t1 // ∀ m X0, ref07_Params_g1 n (.lq m [0, 1, 0, 1, 1] :: [.blk 0, .cut [1, 1, 1], .at [1, 1, 1]]) X0 → ∀ (v0 : Int) (v1 : Int) (r0 : List Level), run (ref07_Params_m n) (.at [0, 0, 1, 0, 1, 1] :: .lp m [0, 1, 0, 1, 1] :: [.blk 0, .cut [1, 1, 1], .at [1, 1, 1]]) (ref07_Params_s1 v0 v1 r0 (r0.length)) = B X0 v0 v1 r0 } := by
  apply Subtype.mk
  intro m X0 ih v0 v1 r0
  simp (maxSteps := 100000000) only [go_sem, q00, q01, q02, q03, q04, q05, q06, q10, q11, q12, q13, q14, Try.f41, Option.getD_some, mixed, ih]
  exact rfl
noncomputable def ref07_Params_l1 (n : Nat) : Nat → ref07_Params_t1 := lpF ((ref07_Params_b1 n).1)
theorem ref07_Params_l1_s {n : Nat} {m : Nat} : ref07_Params_l1 n (m + 1) = (ref07_Params_b1 n).1 (ref07_Params_l1 n m) := rfl
theorem ref07_Params_l1_eq (n : Nat) (m : Nat) : ref07_Params_g1 n (.lq m [0, 1, 0, 1, 1] :: [.blk 0, .cut [1, 1, 1], .at [1, 1, 1]]) (ref07_Params_l1 n m) :=
  lpF_eq (G := fun m Z => ref07_Params_g1 n (.lq m [0, 1, 0, 1, 1] :: [.blk 0, .cut [1, 1, 1], .at [1, 1, 1]]) Z) (fun _ _ _ _ _ => run_lq_zero) (fun m _ ih => by
    intro v0 v1 r0 c0 ec0
    subst ec0
    rw [run_lq_succ]
    exact (ref07_Params_b1 n).2 _ _ ih v0 v1 r0) m
noncomputable def ref07_Params_e (n : Nat) : { B : Int → Option (List Level) // ∀ (a0 : Int), run (ref07_Params_m n) [.at []] (ini [(tyI .i64).enc a0] 22) = B a0 } := by
  apply Subtype.mk
  intro a0
  simp (maxSteps := 100000000) only [go_sem, q00, q01, q02, q03, q04, q05, q06, q10, q11, q12, q13, q14, Try.f41, Option.getD_some, mixed, ref07_Params_l1_eq n]
  exact rfl
noncomputable def ref07_Params := fu fun n => (ref07_Params_e n).1
theorem ref07_Params_ok : ∀ (n : Nat) (a0 : Int) (r : (List Level)), ref07_Params n a0 = some r → FnC Try.prog 41 [(tyI .i64).enc a0] (fun v => v = (tyL Level.row).enc r)
  | 0, _, _, h => by cases h
  | n + 1, a0, r, h => by
    exact okC (((ref07_Params_e n).2 a0).trans h) (gd (tabA_cons_ok (ent2_ok (ref01_Var_ok n)) tabA_nil_ok) tabD_nil_ok) Try.func41 ⟨(tyI .i64).nb 0 _, trivial⟩ Try.ntmps41 Try.results41

noncomputable def ref01_SameLists_n1 : Nrm := ⟨[], [], (zT (tyL Level.row) :: zT (tyL Level.row) :: zA :: zA :: zA :: zK :: zA16 (zA4 (zA :: []))), [], none, none⟩
@[reducible] noncomputable def ref01_SameLists_m (n : Nat) : Mach Bool := mkA Try.prog Try.f61 n (outR Try.prog [.tmp 4] tyB) (cd := tabD [(65, entD (ent2 (tyC Level.cel) (tyC Level.cel) tyB (ref01_Same n)))]) (nrm := tabN [([0, 1, 0, 1, 1], ref01_SameLists_n1)]) (isC := tabI []) (isE := tabI [])
theorem ref01_SameLists_d (n : Nat) : drawP (ref01_SameLists_m n) [0, 0, 0, 1, 0, 0, 1, 0, 1, 1] = true := by kernel_rfl
attribute [go_sem] ref01_SameLists_d ref01_SameLists_n1
noncomputable abbrev ref01_SameLists_s1 (v0 : List Level) (v1 : List Level) (v2 : Int) : AState := ⟨(.lst false 2 (mp Level.cells v0) :: .lst false 2 (mp Level.cells v1) :: .any :: .any :: .any :: .int .i64 v2 :: ay16 (ay4 (.any :: []))), [], 0, []⟩
abbrev ref01_SameLists_t1 := (List Level) → (List Level) → Int → Option Bool
abbrev ref01_SameLists_g1 (n : Nat) (K : List Kt) (Z : ref01_SameLists_t1) : Prop := ∀ (v0 : List Level) (v1 : List Level) (v2 : Int), run (ref01_SameLists_m n) K (ref01_SameLists_s1 v0 v1 v2) = Z v0 v1 v2
attribute [go_sem] ref01_SameLists_s1
noncomputable def ref01_SameLists_b1 (n : Nat) : { B : ref01_SameLists_t1 → ref01_SameLists_t1 // ∀ m X0, ref01_SameLists_g1 n (.lq m [0, 1, 0, 1, 1] :: [.blk 0, .cut [1, 1, 1], .at [1, 1, 1]]) X0 → ref01_SameLists_g1 n (.at [0, 0, 1, 0, 1, 1] :: .lp m [0, 1, 0, 1, 1] :: [.blk 0, .cut [1, 1, 1], .at [1, 1, 1]]) (B X0) } := by
  apply Subtype.mk
  intro m X0 ih v0 v1 v2
  simp (maxSteps := 100000000) only [go_sem, q00, q01, q02, q03, q04, q05, q06, q10, q11, q12, q13, q14, Try.f61, Option.getD_some, mixed, ih]
  exact rfl
noncomputable def ref01_SameLists_l1 (n : Nat) : Nat → ref01_SameLists_t1 := lpF ((ref01_SameLists_b1 n).1)
theorem ref01_SameLists_l1_s {n : Nat} {m : Nat} : ref01_SameLists_l1 n (m + 1) = (ref01_SameLists_b1 n).1 (ref01_SameLists_l1 n m) := rfl
theorem ref01_SameLists_l1_eq (n : Nat) (m : Nat) : ref01_SameLists_g1 n (.lq m [0, 1, 0, 1, 1] :: [.blk 0, .cut [1, 1, 1], .at [1, 1, 1]]) (ref01_SameLists_l1 n m) :=
  lpF_eq (G := fun m Z => ref01_SameLists_g1 n (.lq m [0, 1, 0, 1, 1] :: [.blk 0, .cut [1, 1, 1], .at [1, 1, 1]]) Z) (fun _ _ _ => run_lq_zero) (fun m _ ih v0 v1 v2 => run_lq_succ.trans ((ref01_SameLists_b1 n).2 _ _ ih v0 v1 v2)) m
noncomputable def ref01_SameLists_e (n : Nat) : { B : (List Level) → (List Level) → Option Bool // ∀ (a0 : (List Level)) (a1 : (List Level)), run (ref01_SameLists_m n) [.at []] (ini [(tyL Level.row).enc a0, (tyL Level.row).enc a1] 27) = B a0 a1 } := by
  apply Subtype.mk
  intro a0 a1
  simp (maxSteps := 100000000) only [go_sem, q00, q01, q02, q03, q04, q05, q06, q10, q11, q12, q13, q14, Try.f61, Option.getD_some, mixed, ref01_SameLists_l1_eq n]
  exact rfl
noncomputable def ref01_SameLists := fu fun n => (ref01_SameLists_e n).1
theorem ref01_SameLists_ok : ∀ (n : Nat) (a0 : (List Level)) (a1 : (List Level)) (r : Bool), ref01_SameLists n a0 a1 = some r → FnC Try.prog 61 [(tyL Level.row).enc a0, (tyL Level.row).enc a1] (fun v => v = tyB.enc r)
  | 0, _, _, _, h => by cases h
  | n + 1, a0, a1, r, h => by
    exact okC (((ref01_SameLists_e n).2 a0 a1).trans h) (gd tabA_nil_ok (tabD_cons_ok (ent2_okD (ref01_Same_ok n)) tabD_nil_ok)) Try.func61 ⟨(tyL Level.row).nb 0 _, (tyL Level.row).nb 0 _, trivial⟩ Try.ntmps61 Try.results61

@[reducible] noncomputable def ref05_Pis_i2_m (n : Nat) : Mach Term := mkA Try.prog Try.f10 n (outR Try.prog [.cell 4 25] (tyC Term.cel)) (cl := tabA [(27, ent3 (tyI .i64) (tyL Term.row) (tyC Term.cel) (tyC Term.cel) (ref05_bind_i2 n))])
noncomputable def ref05_Pis_i2_e (n : Nat) : { B : (List Term) → Term → Option Term // ∀ (a0 : (List Term)) (a1 : Term), run (ref05_Pis_i2_m n) [.at []] (ini [(tyL Term.row).enc a0, (tyC Term.cel).enc a1] 8) = B a0 a1 } := by
  apply Subtype.mk
  intro a0 a1
  simp (maxSteps := 100000000) only [go_sem, q00, q01, q02, q03, q04, q05, q06, q10, q11, q12, q13, q14, Try.f10, Option.getD_some, mixed]
  exact rfl
noncomputable def ref05_Pis_i2 := fu fun n => (ref05_Pis_i2_e n).1
theorem ref05_Pis_i2_ok : ∀ (n : Nat) (a0 : (List Term)) (a1 : Term) (r : Term), ref05_Pis_i2 n a0 a1 = some r → FnC Try.prog 10 [(tyL Term.row).enc a0, (tyC Term.cel).enc a1] (fun v => v = (tyC Term.cel).enc r)
  | 0, _, _, _, h => by cases h
  | n + 1, a0, a1, r, h => by
    exact okC (((ref05_Pis_i2_e n).2 a0 a1).trans h) (gd (tabA_cons_ok (ent3_ok (ref05_bind_i2_ok n)) tabA_nil_ok) tabD_nil_ok) Try.func10 ⟨(tyL Term.row).nb 0 _, (tyC Term.cel).nb 0 _, trivial⟩ Try.ntmps10 Try.results10
end Go.Abs
namespace Go.Abs
open Go.Proofs
set_option maxRecDepth 100000
set_option maxHeartbeats 4000000
set_option linter.unusedSimpArgs false
set_option linter.unusedVariables false
noncomputable def law07_smallTree_n1 : Nrm := ⟨[], [], (zA :: zK :: zK :: zA :: zA :: zK :: zA16 (zA16 (zA4 (zA4 (zA :: []))))), [oT Tree.cel], none, none⟩
@[reducible] noncomputable def law07_smallTree_m (X : Tree → Int → Option Bool) (n : Nat) : Mach Bool := mkA Try.prog Try.f29 n (outR Try.prog [.tmp 4] tyB) (cl := tabA [(28, ent1 (tyC Term.cel) tyB (law07_small n)), (29, ent2 (tyC Tree.cel) (tyI .i64) tyB X)]) (nrm := tabN [([0, 1, 0, 1, 1], law07_smallTree_n1)])
attribute [go_sem] law07_smallTree_n1
noncomputable abbrev law07_smallTree_s1 (v0 : Int) (v1 : Int) (o0 : Tree) : AState := ⟨(.any :: .int .i64 v0 :: .ptr 0 0 :: .any :: .any :: .int .i64 v1 :: ay16 (ay16 (ay4 (ay4 (.any :: []))))), [.cells (Tree.cells o0)], 0, []⟩
abbrev law07_smallTree_t1 := Int → Int → Tree → Option Bool
abbrev law07_smallTree_g1 (X : Tree → Int → Option Bool) (n : Nat) (K : List Kt) (Z : law07_smallTree_t1) : Prop := ∀ (v0 : Int) (v1 : Int) (o0 : Tree), run (law07_smallTree_m X n) K (law07_smallTree_s1 v0 v1 o0) = Z v0 v1 o0
attribute [go_sem] law07_smallTree_s1
noncomputable def law07_smallTree_b1 (X : Tree → Int → Option Bool) (n : Nat) : { B : law07_smallTree_t1 → law07_smallTree_t1 // ∀ m X0, law07_smallTree_g1 X n (.lq m [0, 1, 0, 1, 1] :: [.blk 0, .cut [1, 1, 1], .at [1, 1, 1]]) X0 → law07_smallTree_g1 X n (.at [0, 0, 1, 0, 1, 1] :: .lp m [0, 1, 0, 1, 1] :: [.blk 0, .cut [1, 1, 1], .at [1, 1, 1]]) (B X0) } := by
  apply Subtype.mk
  intro m X0 ih v0 v1 o0
  simp (maxSteps := 100000000) only [go_sem, q00, q01, q02, q03, q04, q05, q06, q10, q11, q12, q13, q14, Try.f29, Option.getD_some, mixed, ih]
  exact rfl
noncomputable def law07_smallTree_l1 (X : Tree → Int → Option Bool) (n : Nat) : Nat → law07_smallTree_t1 := lpF ((law07_smallTree_b1 X n).1)
theorem law07_smallTree_l1_s (X : Tree → Int → Option Bool) {n : Nat} {m : Nat} : law07_smallTree_l1 X n (m + 1) = (law07_smallTree_b1 X n).1 (law07_smallTree_l1 X n m) := rfl
theorem law07_smallTree_l1_eq (X : Tree → Int → Option Bool) (n : Nat) (m : Nat) : law07_smallTree_g1 X n (.lq m [0, 1, 0, 1, 1] :: [.blk 0, .cut [1, 1, 1], .at [1, 1, 1]]) (law07_smallTree_l1 X n m) :=
  lpF_eq (G := fun m Z => law07_smallTree_g1 X n (.lq m [0, 1, 0, 1, 1] :: [.blk 0, .cut [1, 1, 1], .at [1, 1, 1]]) Z) (fun _ _ _ => run_lq_zero) (fun m _ ih v0 v1 o0 => run_lq_succ.trans ((law07_smallTree_b1 X n).2 _ _ ih v0 v1 o0)) m
noncomputable def law07_smallTree_e (X : Tree → Int → Option Bool) (n : Nat) : { B : Tree → Int → Option Bool // ∀ (a0 : Tree) (a1 : Int), run (law07_smallTree_m X n) [.at []] (ini [(tyC Tree.cel).enc a0, (tyI .i64).enc a1] 47) = B a0 a1 } := by
  apply Subtype.mk
  intro a0 a1
  simp (maxSteps := 100000000) only [go_sem, q00, q01, q02, q03, q04, q05, q06, q10, q11, q12, q13, q14, Try.f29, Option.getD_some, mixed, law07_smallTree_l1_eq X n]
  exact rfl
noncomputable def law07_smallTree : Nat → Tree → Int → Option Bool
  | 0, _, _ => none
  | n + 1, a0, a1 => (law07_smallTree_e (law07_smallTree n) n).1 a0 a1
theorem law07_smallTree_ok : ∀ (n : Nat) (a0 : Tree) (a1 : Int) (r : Bool), law07_smallTree n a0 a1 = some r → FnC Try.prog 29 [(tyC Tree.cel).enc a0, (tyI .i64).enc a1] (fun v => v = tyB.enc r)
  | 0, _, _, _, h => by cases h
  | n + 1, a0, a1, r, h => by
    have ih_law07_smallTree := law07_smallTree_ok n
    exact okC (((law07_smallTree_e (law07_smallTree n) n).2 a0 a1).trans h) (gd (tabA_cons_ok (ent1_ok (law07_small_ok n)) (tabA_cons_ok (ent2_ok (ih_law07_smallTree)) tabA_nil_ok)) tabD_nil_ok) Try.func29 ⟨(tyC Tree.cel).nb 0 _, (tyI .i64).nb 0 _, trivial⟩ Try.ntmps29 Try.results29

noncomputable def ref03_check_n1 : Nrm := ⟨[], [], (zA :: zK :: zK :: zK :: zK :: zK :: zK :: zA4 (zA4 (zK :: zA64 (zA16 (zA4 (zA4 (zA :: zA :: zA :: []))))))), [oT Term.cel], none, none⟩
noncomputable def ref03_check_n2 : Nrm := ⟨[], [], (zA :: zK :: zK :: zK :: zK :: zK :: zK :: zA4 (zA :: zA :: zK :: zA64 (zA16 (zA4 (zA4 (zA4 (zA :: []))))))), [oT Term.cel], none, none⟩
@[reducible] noncomputable def ref03_check_m (X : Term → Int → Int → Int → Int → Int → Option Int) (n : Nat) : Mach Int := mkA Try.prog Try.f44 n (outR Try.prog [.tmp 12] (tyI .i64)) (cl := tabA [(13, ent1 tyS tyB (ref03_Name n)), (54, ent1 (tyC Term.cel) tyB (ref03_form n)), (55, ent3 (tyC Level.cel) (tyI .i64) (tyI .i64) (tyI .i64) (ref03_level n))]) (cd := tabD [(44, entD (ent6 (tyC Term.cel) (tyI .i64) (tyI .i64) (tyI .i64) (tyI .i64) (tyI .i64) (tyI .i64) X)), (56, entD (ent2 (tyI .i64) (tyI .i64) (tyI .i64) (ref03_Below n)))]) (nrm := tabN [([0, 1, 0, 1, 1, 1, 1, 1, 1, 1], ref03_check_n1), ([0, 1, 0, 1, 1, 1, 1], ref03_check_n2)]) (isC := tabI []) (isE := tabI [])
theorem ref03_check_d (X : Term → Int → Int → Int → Int → Int → Option Int) (n : Nat) : drawP (ref03_check_m X n) [0, 0, 0, 1, 0, 0, 1, 0, 1, 1, 1, 1, 1, 1, 1] = true := by kernel_rfl
attribute [go_sem] ref03_check_d ref03_check_n1 ref03_check_n2
noncomputable abbrev ref03_check_s1 (v0 : Int) (v1 : Int) (v2 : Int) (v3 : Int) (v4 : Int) (v5 : Int) (o0 : Term) : AState := ⟨(.any :: .int .i64 v0 :: .int .i64 v1 :: .int .i64 v2 :: .int .i64 v3 :: .int .i64 v4 :: .ptr 0 0 :: ay4 (ay4 (.int .i64 v5 :: ay64 (ay16 (ay4 (ay4 (.any :: .any :: .any :: []))))))), [.cells (Term.cells o0)], 0, []⟩
abbrev ref03_check_c1 : List Kt := [.blk 2, .cut [1, 1, 1, 1, 1, 1, 1, 1], .at [1, 1, 1, 1, 1, 1, 1, 1]]
abbrev ref03_check_t1 := Int → Int → Int → Int → Int → Int → Term → Option Int
abbrev ref03_check_g1 (X : Term → Int → Int → Int → Int → Int → Option Int) (n : Nat) (K : List Kt) (Z : ref03_check_t1) : Prop := ∀ (v0 : Int) (v1 : Int) (v2 : Int) (v3 : Int) (v4 : Int) (v5 : Int) (o0 : Term), run (ref03_check_m X n) K (ref03_check_s1 v0 v1 v2 v3 v4 v5 o0) = Z v0 v1 v2 v3 v4 v5 o0
noncomputable abbrev ref03_check_s2 (v0 : Int) (v1 : Int) (v2 : Int) (v3 : Int) (v4 : Int) (v5 : Int) (o0 : Term) : AState := ⟨(.any :: .int .i64 v0 :: .int .i64 v1 :: .int .i64 v2 :: .int .i64 v3 :: .int .i64 v4 :: .ptr 0 0 :: ay4 (.any :: .any :: .int .i64 v5 :: ay64 (ay16 (ay4 (ay4 (ay4 (.any :: []))))))), [.cells (Term.cells o0)], 0, []⟩
abbrev ref03_check_t2 := Int → Int → Int → Int → Int → Int → Term → Option Int
abbrev ref03_check_g2 (X : Term → Int → Int → Int → Int → Int → Option Int) (n : Nat) (K : List Kt) (Z : ref03_check_t2) : Prop := ∀ (v0 : Int) (v1 : Int) (v2 : Int) (v3 : Int) (v4 : Int) (v5 : Int) (o0 : Term), run (ref03_check_m X n) K (ref03_check_s2 v0 v1 v2 v3 v4 v5 o0) = Z v0 v1 v2 v3 v4 v5 o0
attribute [go_sem] ref03_check_s1 ref03_check_c1 ref03_check_s2
noncomputable def ref03_check_b1 (X : Term → Int → Int → Int → Int → Int → Option Int) (n : Nat) : { B : ref03_check_t1 → ref03_check_t1 // ∀ m X0, ref03_check_g1 X n (.lq m [0, 1, 0, 1, 1, 1, 1, 1, 1, 1] :: ref03_check_c1) X0 → ref03_check_g1 X n (.at [0, 0, 1, 0, 1, 1, 1, 1, 1, 1, 1] :: .lp m [0, 1, 0, 1, 1, 1, 1, 1, 1, 1] :: ref03_check_c1) (B X0) } := by
  apply Subtype.mk
  intro m X0 ih v0 v1 v2 v3 v4 v5 o0
  simp (maxSteps := 100000000) only [go_sem, q00, q01, q02, q03, q04, q05, q06, q10, q11, q12, q13, q14, Try.f44, Option.getD_some, mixed, ih]
  exact rfl
noncomputable def ref03_check_l1 (X : Term → Int → Int → Int → Int → Int → Option Int) (n : Nat) : Nat → ref03_check_t1 := lpF ((ref03_check_b1 X n).1)
theorem ref03_check_l1_s (X : Term → Int → Int → Int → Int → Int → Option Int) {n : Nat} {m : Nat} : ref03_check_l1 X n (m + 1) = (ref03_check_b1 X n).1 (ref03_check_l1 X n m) := rfl
theorem ref03_check_l1_eq (X : Term → Int → Int → Int → Int → Int → Option Int) (n : Nat) (m : Nat) : ref03_check_g1 X n (.lq m [0, 1, 0, 1, 1, 1, 1, 1, 1, 1] :: ref03_check_c1) (ref03_check_l1 X n m) :=
  lpF_eq (G := fun m Z => ref03_check_g1 X n (.lq m [0, 1, 0, 1, 1, 1, 1, 1, 1, 1] :: ref03_check_c1) Z) (fun _ _ _ _ _ _ _ => run_lq_zero) (fun m _ ih v0 v1 v2 v3 v4 v5 o0 => run_lq_succ.trans ((ref03_check_b1 X n).2 _ _ ih v0 v1 v2 v3 v4 v5 o0)) m
noncomputable def ref03_check_b2 (X : Term → Int → Int → Int → Int → Int → Option Int) (n : Nat) : { B : ref03_check_t2 → ref03_check_t2 // ∀ m X0, ref03_check_g2 X n (.lq m [0, 1, 0, 1, 1, 1, 1] :: [.blk 0, .cut [1, 1, 1, 1, 1], .at [1, 1, 1, 1, 1]]) X0 → ref03_check_g2 X n (.at [0, 0, 1, 0, 1, 1, 1, 1] :: .lp m [0, 1, 0, 1, 1, 1, 1] :: [.blk 0, .cut [1, 1, 1, 1, 1], .at [1, 1, 1, 1, 1]]) (B X0) } := by
  apply Subtype.mk
  intro m X0 ih v0 v1 v2 v3 v4 v5 o0
  simp (maxSteps := 100000000) only [go_sem, q00, q01, q02, q03, q04, q05, q06, q10, q11, q12, q13, q14, Try.f44, Option.getD_some, mixed, ref03_check_l1_eq X n, ih]
  exact rfl
noncomputable def ref03_check_l2 (X : Term → Int → Int → Int → Int → Int → Option Int) (n : Nat) : Nat → ref03_check_t2 := lpF ((ref03_check_b2 X n).1)
theorem ref03_check_l2_s (X : Term → Int → Int → Int → Int → Int → Option Int) {n : Nat} {m : Nat} : ref03_check_l2 X n (m + 1) = (ref03_check_b2 X n).1 (ref03_check_l2 X n m) := rfl
theorem ref03_check_l2_eq (X : Term → Int → Int → Int → Int → Int → Option Int) (n : Nat) (m : Nat) : ref03_check_g2 X n (.lq m [0, 1, 0, 1, 1, 1, 1] :: [.blk 0, .cut [1, 1, 1, 1, 1], .at [1, 1, 1, 1, 1]]) (ref03_check_l2 X n m) :=
  lpF_eq (G := fun m Z => ref03_check_g2 X n (.lq m [0, 1, 0, 1, 1, 1, 1] :: [.blk 0, .cut [1, 1, 1, 1, 1], .at [1, 1, 1, 1, 1]]) Z) (fun _ _ _ _ _ _ _ => run_lq_zero) (fun m _ ih v0 v1 v2 v3 v4 v5 o0 => run_lq_succ.trans ((ref03_check_b2 X n).2 _ _ ih v0 v1 v2 v3 v4 v5 o0)) m
noncomputable def ref03_check_e (X : Term → Int → Int → Int → Int → Int → Option Int) (n : Nat) : { B : Term → Int → Int → Int → Int → Int → Option Int // ∀ (a0 : Term) (a1 : Int) (a2 : Int) (a3 : Int) (a4 : Int) (a5 : Int), run (ref03_check_m X n) [.at []] (ini [(tyC Term.cel).enc a0, (tyI .i64).enc a1, (tyI .i64).enc a2, (tyI .i64).enc a3, (tyI .i64).enc a4, (tyI .i64).enc a5] 107) = B a0 a1 a2 a3 a4 a5 } := by
  apply Subtype.mk
  intro a0 a1 a2 a3 a4 a5
  simp (maxSteps := 100000000) only [go_sem, q00, q01, q02, q03, q04, q05, q06, q10, q11, q12, q13, q14, Try.f44, Option.getD_some, mixed, ref03_check_l1_eq X n, ref03_check_l2_eq X n]
  exact rfl
noncomputable def ref03_check : Nat → Term → Int → Int → Int → Int → Int → Option Int
  | 0, _, _, _, _, _, _ => none
  | n + 1, a0, a1, a2, a3, a4, a5 => (ref03_check_e (ref03_check n) n).1 a0 a1 a2 a3 a4 a5
theorem ref03_check_ok : ∀ (n : Nat) (a0 : Term) (a1 : Int) (a2 : Int) (a3 : Int) (a4 : Int) (a5 : Int) (r : Int), ref03_check n a0 a1 a2 a3 a4 a5 = some r → FnC Try.prog 44 [(tyC Term.cel).enc a0, (tyI .i64).enc a1, (tyI .i64).enc a2, (tyI .i64).enc a3, (tyI .i64).enc a4, (tyI .i64).enc a5] (fun v => v = (tyI .i64).enc r)
  | 0, _, _, _, _, _, _, _, h => by cases h
  | n + 1, a0, a1, a2, a3, a4, a5, r, h => by
    have ih_ref03_check := ref03_check_ok n
    exact okC (((ref03_check_e (ref03_check n) n).2 a0 a1 a2 a3 a4 a5).trans h) (gd (tabA_cons_ok (ent1_ok (ref03_Name_ok n)) (tabA_cons_ok (ent1_ok (ref03_form_ok n)) (tabA_cons_ok (ent3_ok (ref03_level_ok n)) tabA_nil_ok))) (tabD_cons_ok (ent6_okD (ih_ref03_check)) (tabD_cons_ok (ent2_okD (ref03_Below_ok n)) tabD_nil_ok))) Try.func44 ⟨(tyC Term.cel).nb 0 _, (tyI .i64).nb 0 _, (tyI .i64).nb 0 _, (tyI .i64).nb 0 _, (tyI .i64).nb 0 _, (tyI .i64).nb 0 _, trivial⟩ Try.ntmps44 Try.results44

noncomputable def slices_EqualFunc_Level_term_sameLevel_n1 : Nrm := ⟨[], [], (zA :: zT (tyL Level.row) :: zT (tyF 59) :: zA4 (zA4 (zA4 (zT (tyL Level.row) :: zK :: zK :: zA4 (zA4 (zA4 (zA :: zA :: []))))))), [], none, none⟩
@[reducible] noncomputable def slices_EqualFunc_Level_term_sameLevel_m (n : Nat) : Mach Bool := mkA Try.prog Try.f58 n (outR Try.prog [.tmp 6] tyB) (cl := tabA [(59, ent2 (tyC Level.cel) (tyC Level.cel) tyB (term_sameLevel n))]) (nrm := tabN [([0, 1, 0, 1, 1], slices_EqualFunc_Level_term_sameLevel_n1)])
attribute [go_sem] slices_EqualFunc_Level_term_sameLevel_n1
noncomputable abbrev slices_EqualFunc_Level_term_sameLevel_s1 (v0 : List Level) (v1 : List Level) (v2 : Int) (v3 : Int) : AState := ⟨(.any :: .lst false 2 (mp Level.cells v0) :: .func (.func 59) [] [] :: ay4 (ay4 (ay4 (.lst false 2 (mp Level.cells v1) :: .int .i64 v2 :: .int .i64 v3 :: ay4 (ay4 (ay4 (.any :: .any :: []))))))), [], 0, []⟩
abbrev slices_EqualFunc_Level_term_sameLevel_t1 := (List Level) → (List Level) → Int → Int → Option Bool
abbrev slices_EqualFunc_Level_term_sameLevel_g1 (n : Nat) (K : List Kt) (Z : slices_EqualFunc_Level_term_sameLevel_t1) : Prop := ∀ (v0 : List Level) (v1 : List Level) (v2 : Int) (v3 : Int), run (slices_EqualFunc_Level_term_sameLevel_m n) K (slices_EqualFunc_Level_term_sameLevel_s1 v0 v1 v2 v3) = Z v0 v1 v2 v3
attribute [go_sem] slices_EqualFunc_Level_term_sameLevel_s1
noncomputable def slices_EqualFunc_Level_term_sameLevel_b1 (n : Nat) : { B : slices_EqualFunc_Level_term_sameLevel_t1 → slices_EqualFunc_Level_term_sameLevel_t1 // ∀ m X0, slices_EqualFunc_Level_term_sameLevel_g1 n (.lq m [0, 1, 0, 1, 1] :: [.blk 0, .cut [1, 1, 1], .at [1, 1, 1]]) X0 → slices_EqualFunc_Level_term_sameLevel_g1 n (.at [0, 0, 1, 0, 1, 1] :: .lp m [0, 1, 0, 1, 1] :: [.blk 0, .cut [1, 1, 1], .at [1, 1, 1]]) (B X0) } := by
  apply Subtype.mk
  intro m X0 ih v0 v1 v2 v3
  simp (maxSteps := 100000000) only [go_sem, q00, q01, q02, q03, q04, q05, q06, q10, q11, q12, q13, q14, Try.f58, Option.getD_some, mixed, ih]
  exact rfl
noncomputable def slices_EqualFunc_Level_term_sameLevel_l1 (n : Nat) : Nat → slices_EqualFunc_Level_term_sameLevel_t1 := lpF ((slices_EqualFunc_Level_term_sameLevel_b1 n).1)
theorem slices_EqualFunc_Level_term_sameLevel_l1_s {n : Nat} {m : Nat} : slices_EqualFunc_Level_term_sameLevel_l1 n (m + 1) = (slices_EqualFunc_Level_term_sameLevel_b1 n).1 (slices_EqualFunc_Level_term_sameLevel_l1 n m) := rfl
theorem slices_EqualFunc_Level_term_sameLevel_l1_eq (n : Nat) (m : Nat) : slices_EqualFunc_Level_term_sameLevel_g1 n (.lq m [0, 1, 0, 1, 1] :: [.blk 0, .cut [1, 1, 1], .at [1, 1, 1]]) (slices_EqualFunc_Level_term_sameLevel_l1 n m) :=
  lpF_eq (G := fun m Z => slices_EqualFunc_Level_term_sameLevel_g1 n (.lq m [0, 1, 0, 1, 1] :: [.blk 0, .cut [1, 1, 1], .at [1, 1, 1]]) Z) (fun _ _ _ _ => run_lq_zero) (fun m _ ih v0 v1 v2 v3 => run_lq_succ.trans ((slices_EqualFunc_Level_term_sameLevel_b1 n).2 _ _ ih v0 v1 v2 v3)) m
noncomputable def slices_EqualFunc_Level_term_sameLevel_e (n : Nat) : { B : (List Level) → (List Level) → Unit → Option Bool // ∀ (a0 : (List Level)) (a1 : (List Level)) (a2 : Unit), run (slices_EqualFunc_Level_term_sameLevel_m n) [.at []] (ini [(tyL Level.row).enc a0, (tyL Level.row).enc a1, (tyF 59).enc a2] 32) = B a0 a1 a2 } := by
  apply Subtype.mk
  intro a0 a1 a2
  simp (maxSteps := 100000000) only [go_sem, q00, q01, q02, q03, q04, q05, q06, q10, q11, q12, q13, q14, Try.f58, Option.getD_some, mixed, slices_EqualFunc_Level_term_sameLevel_l1_eq n]
  exact rfl
noncomputable def slices_EqualFunc_Level_term_sameLevel := fu fun n => (slices_EqualFunc_Level_term_sameLevel_e n).1
theorem slices_EqualFunc_Level_term_sameLevel_ok : ∀ (n : Nat) (a0 : (List Level)) (a1 : (List Level)) (a2 : Unit) (r : Bool), slices_EqualFunc_Level_term_sameLevel n a0 a1 a2 = some r → FnC Try.prog 58 [(tyL Level.row).enc a0, (tyL Level.row).enc a1, (tyF 59).enc a2] (fun v => v = tyB.enc r)
  | 0, _, _, _, _, h => by cases h
  | n + 1, a0, a1, a2, r, h => by
    exact okC (((slices_EqualFunc_Level_term_sameLevel_e n).2 a0 a1 a2).trans h) (gd (tabA_cons_ok (ent2_ok (term_sameLevel_ok n)) tabA_nil_ok) tabD_nil_ok) Try.func58 ⟨(tyL Level.row).nb 0 _, (tyL Level.row).nb 0 _, (tyF 59).nb 0 _, trivial⟩ Try.ntmps58 Try.results58

noncomputable def slices_ContainsFunc_RecField_positivity_Check_1_as : AL ((List Zs5) × (Unit × Unit)) := (alT (tyL Zs5.row) (alF 19 (vlP 0 vlN) alN))
attribute [go_sem] slices_ContainsFunc_RecField_positivity_Check_1_as
noncomputable def slices_ContainsFunc_RecField_positivity_Check_1_t (F : (List Zs5) → Int → Option (((Int × Unit) × Unit) × (Bool × Unit))) := entX [.arg 1 [0]] (olC (ogC (alC (cI .i64) 1 alN)) olN) slices_ContainsFunc_RecField_positivity_Check_1_as (olC (ogC (alC (cI .i64) 1 alN)) olN) (alT tyB alN) (fun (b : ((Int × Unit) × Unit)) (a : ((List Zs5) × (Unit × Unit))) => F a.1 b.1.1)
attribute [go_sem] slices_ContainsFunc_RecField_positivity_Check_1_t
@[reducible] noncomputable def slices_ContainsFunc_RecField_positivity_Check_1_m (n : Nat) : Mach (((Int × Unit) × Unit) × (Bool × Unit)) := mkA Try.prog Try.f18 n (outS Try.prog [.tmp 4] [] [0] 1 (olC (ogC (alC (cI .i64) 1 alN)) olN) (alT tyB alN)) (cl := tabA [(36, slices_IndexFunc_RecField_positivity_Check_1_t (slices_IndexFunc_RecField_positivity_Check_1 n))])
noncomputable def slices_ContainsFunc_RecField_positivity_Check_1_e (n : Nat) : { B : (List Zs5) → Int → Option (((Int × Unit) × Unit) × (Bool × Unit)) // ∀ (a0 : (List Zs5)) (o0 : Int), run (slices_ContainsFunc_RecField_positivity_Check_1_m n) [.at []] (iniX slices_ContainsFunc_RecField_positivity_Check_1_as (olC (ogC (alC (cI .i64) 1 alN)) olN) ((o0, ()), ()) (a0, (), ()) 9) = B a0 o0 } := by
  apply Subtype.mk
  intro a0 o0
  simp (maxSteps := 100000000) only [go_sem, q00, q01, q02, q03, q04, q05, q06, q10, q11, q12, q13, q14, Try.f18, Option.getD_some, mixed]
  exact rfl
noncomputable def slices_ContainsFunc_RecField_positivity_Check_1 := fu fun n => (slices_ContainsFunc_RecField_positivity_Check_1_e n).1
theorem slices_ContainsFunc_RecField_positivity_Check_1_ok : ∀ (n : Nat) (a0 : (List Zs5)) (o0 : Int) (r : (((Int × Unit) × Unit) × (Bool × Unit))), slices_ContainsFunc_RecField_positivity_Check_1 n a0 o0 = some r → SG Try.prog 18 slices_ContainsFunc_RecField_positivity_Check_1_as (olC (ogC (alC (cI .i64) 1 alN)) olN) ((o0, ()), ()) (a0, (), ()) (olC (ogC (alC (cI .i64) 1 alN)) olN) (alT tyB alN) r
  | 0, _, _, _, h => by cases h
  | n + 1, a0, o0, r, h => by
    exact okG (((slices_ContainsFunc_RecField_positivity_Check_1_e n).2 a0 o0).trans h) (gd (tabA_cons_ok (entX_ok (fun b a r h => (slices_IndexFunc_RecField_positivity_Check_1_ok n) a.1 b.1.1 r h)) tabA_nil_ok) tabD_nil_ok) Try.func18 Try.ntmps18 Try.results18

noncomputable def positivity_Positive_n1 : Nrm := ⟨[], [], (zA :: zK :: zK :: zA16 (zA16 (zA16 (zA4 [])))), [oT Term.cel], none, none⟩
@[reducible] noncomputable def positivity_Positive_m (n : Nat) : Mach Bool := mkA Try.prog Try.f16 n (outR Try.prog [.tmp 4] tyB) (cl := tabA [(20, ent2 tyS (tyL Term.row) tyB (positivity_occurs n)), (32, ent1 (tyC Term.cel) (ty2 (tyC Term.cel) (tyL Term.row)) (telescope_Spine n))]) (nrm := tabN [([0, 0, 1], positivity_Positive_n1)])
attribute [go_sem] positivity_Positive_n1
noncomputable abbrev positivity_Positive_s1 (v0 : Str) (o0 : Term) : AState := ⟨(.any :: .str (sb v0) :: .ptr 0 0 :: ay16 (ay16 (ay16 (ay4 [])))), [.cells (Term.cells o0)], 0, []⟩
abbrev positivity_Positive_t1 := Str → Term → Option Bool
abbrev positivity_Positive_g1 (n : Nat) (K : List Kt) (Z : positivity_Positive_t1) : Prop := ∀ (v0 : Str) (o0 : Term), run (positivity_Positive_m n) K (positivity_Positive_s1 v0 o0) = Z v0 o0
attribute [go_sem] positivity_Positive_s1
noncomputable def positivity_Positive_b1 (n : Nat) : { B : positivity_Positive_t1 → positivity_Positive_t1 // ∀ m X0, positivity_Positive_g1 n (.lq m [0, 0, 1] :: [.blk 0, .cut [1, 1], .at [1, 1]]) X0 → positivity_Positive_g1 n (.at [0, 0, 0, 1] :: .lp m [0, 0, 1] :: [.blk 0, .cut [1, 1], .at [1, 1]]) (B X0) } := by
  apply Subtype.mk
  intro m X0 ih v0 o0
  simp (maxSteps := 100000000) only [go_sem, q00, q01, q02, q03, q04, q05, q06, q10, q11, q12, q13, q14, Try.f16, Option.getD_some, mixed, ih]
  exact rfl
noncomputable def positivity_Positive_l1 (n : Nat) : Nat → positivity_Positive_t1 := lpF ((positivity_Positive_b1 n).1)
theorem positivity_Positive_l1_s {n : Nat} {m : Nat} : positivity_Positive_l1 n (m + 1) = (positivity_Positive_b1 n).1 (positivity_Positive_l1 n m) := rfl
theorem positivity_Positive_l1_eq (n : Nat) (m : Nat) : positivity_Positive_g1 n (.lq m [0, 0, 1] :: [.blk 0, .cut [1, 1], .at [1, 1]]) (positivity_Positive_l1 n m) :=
  lpF_eq (G := fun m Z => positivity_Positive_g1 n (.lq m [0, 0, 1] :: [.blk 0, .cut [1, 1], .at [1, 1]]) Z) (fun _ _ => run_lq_zero) (fun m _ ih v0 o0 => run_lq_succ.trans ((positivity_Positive_b1 n).2 _ _ ih v0 o0)) m
noncomputable def positivity_Positive_e (n : Nat) : { B : Term → Str → Option Bool // ∀ (a0 : Term) (a1 : Str), run (positivity_Positive_m n) [.at []] (ini [(tyC Term.cel).enc a0, tyS.enc a1] 55) = B a0 a1 } := by
  apply Subtype.mk
  intro a0 a1
  simp (maxSteps := 100000000) only [go_sem, q00, q01, q02, q03, q04, q05, q06, q10, q11, q12, q13, q14, Try.f16, Option.getD_some, mixed, positivity_Positive_l1_eq n]
  exact rfl
noncomputable def positivity_Positive := fu fun n => (positivity_Positive_e n).1
theorem positivity_Positive_ok : ∀ (n : Nat) (a0 : Term) (a1 : Str) (r : Bool), positivity_Positive n a0 a1 = some r → FnC Try.prog 16 [(tyC Term.cel).enc a0, tyS.enc a1] (fun v => v = tyB.enc r)
  | 0, _, _, _, h => by cases h
  | n + 1, a0, a1, r, h => by
    exact okC (((positivity_Positive_e n).2 a0 a1).trans h) (gd (tabA_cons_ok (ent2_ok (positivity_occurs_ok n)) (tabA_cons_ok (ent1_ok (telescope_Spine_ok n)) tabA_nil_ok)) tabD_nil_ok) Try.func16 ⟨(tyC Term.cel).nb 0 _, tyS.nb 0 _, trivial⟩ Try.ntmps16 Try.results16

@[reducible] noncomputable def ref12_Own_m (n : Nat) : Mach Term := mkA Try.prog Try.f25 n (outR Try.prog [.cell 4 25] (tyC Term.cel)) (cl := tabA [(41, ent1 (tyI .i64) (tyL Level.row) (ref07_Params n))])
noncomputable def ref12_Own_e (n : Nat) : { B : Str → Int → Option Term // ∀ (a0 : Str) (a1 : Int), run (ref12_Own_m n) [.at []] (ini [tyS.enc a0, (tyI .i64).enc a1] 9) = B a0 a1 } := by
  apply Subtype.mk
  intro a0 a1
  simp (maxSteps := 100000000) only [go_sem, q00, q01, q02, q03, q04, q05, q06, q10, q11, q12, q13, q14, Try.f25, Option.getD_some, mixed]
  exact rfl
noncomputable def ref12_Own := fu fun n => (ref12_Own_e n).1
theorem ref12_Own_ok : ∀ (n : Nat) (a0 : Str) (a1 : Int) (r : Term), ref12_Own n a0 a1 = some r → FnC Try.prog 25 [tyS.enc a0, (tyI .i64).enc a1] (fun v => v = (tyC Term.cel).enc r)
  | 0, _, _, _, h => by cases h
  | n + 1, a0, a1, r, h => by
    exact okC (((ref12_Own_e n).2 a0 a1).trans h) (gd (tabA_cons_ok (ent1_ok (ref07_Params_ok n)) tabA_nil_ok) tabD_nil_ok) Try.func25 ⟨tyS.nb 0 _, (tyI .i64).nb 0 _, trivial⟩ Try.ntmps25 Try.results25
end Go.Abs
namespace Go.Abs
open Go.Proofs
set_option maxRecDepth 100000
set_option maxHeartbeats 4000000
set_option linter.unusedSimpArgs false
set_option linter.unusedVariables false
noncomputable def ref03_Same_n1 : Nrm := ⟨[], [], (zA :: zA :: zK :: zK :: zA :: zK :: zA16 (zA16 (zA16 (zA4 (zA :: zA :: zA :: []))))), [oT Term.cel, oT Term.cel], none, none⟩
@[reducible] noncomputable def ref03_Same_m (X : Term → Term → Option Bool) (n : Nat) : Mach Bool := mkA Try.prog Try.f51 n (outR Try.prog [.tmp 4] tyB) (cl := tabA [(61, ent2 (tyL Level.row) (tyL Level.row) tyB (ref01_SameLists n))]) (cd := tabD [(51, entD (ent2 (tyC Term.cel) (tyC Term.cel) tyB X))]) (nrm := tabN [([0, 1, 0, 1, 1], ref03_Same_n1)]) (isC := tabI []) (isE := tabI [])
theorem ref03_Same_d (X : Term → Term → Option Bool) (n : Nat) : drawP (ref03_Same_m X n) [0, 0, 0, 1, 0, 0, 1, 0, 1, 1] = true := by kernel_rfl
attribute [go_sem] ref03_Same_d ref03_Same_n1
noncomputable abbrev ref03_Same_s1 (v0 : Int) (o0 : Term) (o1 : Term) : AState := ⟨(.any :: .any :: .ptr 0 0 :: .ptr 1 0 :: .any :: .int .i64 v0 :: ay16 (ay16 (ay16 (ay4 (.any :: .any :: .any :: []))))), [.cells (Term.cells o0), .cells (Term.cells o1)], 0, []⟩
abbrev ref03_Same_t1 := Int → Term → Term → Option Bool
abbrev ref03_Same_g1 (X : Term → Term → Option Bool) (n : Nat) (K : List Kt) (Z : ref03_Same_t1) : Prop := ∀ (v0 : Int) (o0 : Term) (o1 : Term), run (ref03_Same_m X n) K (ref03_Same_s1 v0 o0 o1) = Z v0 o0 o1
attribute [go_sem] ref03_Same_s1
noncomputable def ref03_Same_b1 (X : Term → Term → Option Bool) (n : Nat) : { B : ref03_Same_t1 → ref03_Same_t1 // ∀ m X0, ref03_Same_g1 X n (.lq m [0, 1, 0, 1, 1] :: [.blk 0, .cut [1, 1, 1], .at [1, 1, 1]]) X0 → ref03_Same_g1 X n (.at [0, 0, 1, 0, 1, 1] :: .lp m [0, 1, 0, 1, 1] :: [.blk 0, .cut [1, 1, 1], .at [1, 1, 1]]) (B X0) } := by
  apply Subtype.mk
  intro m X0 ih v0 o0 o1
  simp (maxSteps := 100000000) only [go_sem, q00, q01, q02, q03, q04, q05, q06, q10, q11, q12, q13, q14, Try.f51, Option.getD_some, mixed, ih]
  exact rfl
noncomputable def ref03_Same_l1 (X : Term → Term → Option Bool) (n : Nat) : Nat → ref03_Same_t1 := lpF ((ref03_Same_b1 X n).1)
theorem ref03_Same_l1_s (X : Term → Term → Option Bool) {n : Nat} {m : Nat} : ref03_Same_l1 X n (m + 1) = (ref03_Same_b1 X n).1 (ref03_Same_l1 X n m) := rfl
theorem ref03_Same_l1_eq (X : Term → Term → Option Bool) (n : Nat) (m : Nat) : ref03_Same_g1 X n (.lq m [0, 1, 0, 1, 1] :: [.blk 0, .cut [1, 1, 1], .at [1, 1, 1]]) (ref03_Same_l1 X n m) :=
  lpF_eq (G := fun m Z => ref03_Same_g1 X n (.lq m [0, 1, 0, 1, 1] :: [.blk 0, .cut [1, 1, 1], .at [1, 1, 1]]) Z) (fun _ _ _ => run_lq_zero) (fun m _ ih v0 o0 o1 => run_lq_succ.trans ((ref03_Same_b1 X n).2 _ _ ih v0 o0 o1)) m
noncomputable def ref03_Same_e (X : Term → Term → Option Bool) (n : Nat) : { B : Term → Term → Option Bool // ∀ (a0 : Term) (a1 : Term), run (ref03_Same_m X n) [.at []] (ini [(tyC Term.cel).enc a0, (tyC Term.cel).enc a1] 61) = B a0 a1 } := by
  apply Subtype.mk
  intro a0 a1
  simp (maxSteps := 100000000) only [go_sem, q00, q01, q02, q03, q04, q05, q06, q10, q11, q12, q13, q14, Try.f51, Option.getD_some, mixed, ref03_Same_l1_eq X n]
  exact rfl
noncomputable def ref03_Same : Nat → Term → Term → Option Bool
  | 0, _, _ => none
  | n + 1, a0, a1 => (ref03_Same_e (ref03_Same n) n).1 a0 a1
theorem ref03_Same_ok : ∀ (n : Nat) (a0 : Term) (a1 : Term) (r : Bool), ref03_Same n a0 a1 = some r → FnC Try.prog 51 [(tyC Term.cel).enc a0, (tyC Term.cel).enc a1] (fun v => v = tyB.enc r)
  | 0, _, _, _, h => by cases h
  | n + 1, a0, a1, r, h => by
    have ih_ref03_Same := ref03_Same_ok n
    exact okC (((ref03_Same_e (ref03_Same n) n).2 a0 a1).trans h) (gd (tabA_cons_ok (ent2_ok (ref01_SameLists_ok n)) tabA_nil_ok) (tabD_cons_ok (ent2_okD (ih_ref03_Same)) tabD_nil_ok)) Try.func51 ⟨(tyC Term.cel).nb 0 _, (tyC Term.cel).nb 0 _, trivial⟩ Try.ntmps51 Try.results51
end Go.Abs
namespace Go.Abs
open Go.Proofs
set_option maxRecDepth 100000
set_option maxHeartbeats 4000000
set_option linter.unusedSimpArgs false
set_option linter.unusedVariables false
noncomputable def law07_FewDecl_n1 : Nrm := ⟨[], [], (zA :: zK :: zA :: zA :: zA :: zK :: zA64 (zA16 (zA16 (zA16 (zA4 (zA :: zA :: [])))))), [oT Decl.cel], none, none⟩
noncomputable def law07_FewDecl_n2 : Nrm := ⟨[], [], (zA :: zK :: zA :: zA :: zK :: zA64 (zA16 (zA16 (zA16 (zA4 (zA :: zA :: zA :: [])))))), [oT Decl.cel], none, none⟩
noncomputable def law07_FewDecl_n3 : Nrm := ⟨[], [], (zA :: zK :: zA :: zK :: zA64 (zA16 (zA16 (zA16 (zA4 (zA4 [])))))), [oT Decl.cel], none, none⟩
@[reducible] noncomputable def law07_FewDecl_m (n : Nat) : Mach Bool := mkA Try.prog Try.f11 n (outR Try.prog [.tmp 2] tyB) (cl := tabA [(28, ent1 (tyC Term.cel) tyB (law07_small n)), (29, ent2 (tyC Tree.cel) (tyI .i64) tyB (law07_smallTree n))]) (nrm := tabN [([0, 1, 0, 1, 1, 1, 1], law07_FewDecl_n1), ([0, 1, 0, 1, 1, 1], law07_FewDecl_n2), ([0, 1, 0, 1, 1], law07_FewDecl_n3)])
attribute [go_sem] law07_FewDecl_n1 law07_FewDecl_n2 law07_FewDecl_n3
noncomputable abbrev law07_FewDecl_s1 (v0 : Int) (o0 : Decl) : AState := ⟨(.any :: .ptr 0 0 :: .any :: .any :: .any :: .int .i64 v0 :: ay64 (ay16 (ay16 (ay16 (ay4 (.any :: .any :: [])))))), [.cells (Decl.cells o0)], 0, []⟩
abbrev law07_FewDecl_t1 := Int → Decl → Option Bool
abbrev law07_FewDecl_g1 (n : Nat) (K : List Kt) (Z : law07_FewDecl_t1) : Prop := ∀ (v0 : Int) (o0 : Decl), run (law07_FewDecl_m n) K (law07_FewDecl_s1 v0 o0) = Z v0 o0
noncomputable abbrev law07_FewDecl_s2 (v0 : Int) (o0 : Decl) : AState := ⟨(.any :: .ptr 0 0 :: .any :: .any :: .int .i64 v0 :: ay64 (ay16 (ay16 (ay16 (ay4 (.any :: .any :: .any :: [])))))), [.cells (Decl.cells o0)], 0, []⟩
abbrev law07_FewDecl_t2 := Int → Decl → Option Bool
abbrev law07_FewDecl_g2 (n : Nat) (K : List Kt) (Z : law07_FewDecl_t2) : Prop := ∀ (v0 : Int) (o0 : Decl), run (law07_FewDecl_m n) K (law07_FewDecl_s2 v0 o0) = Z v0 o0
noncomputable abbrev law07_FewDecl_s3 (v0 : Int) (o0 : Decl) : AState := ⟨(.any :: .ptr 0 0 :: .any :: .int .i64 v0 :: ay64 (ay16 (ay16 (ay16 (ay4 (ay4 [])))))), [.cells (Decl.cells o0)], 0, []⟩
abbrev law07_FewDecl_t3 := Int → Decl → Option Bool
abbrev law07_FewDecl_g3 (n : Nat) (K : List Kt) (Z : law07_FewDecl_t3) : Prop := ∀ (v0 : Int) (o0 : Decl), run (law07_FewDecl_m n) K (law07_FewDecl_s3 v0 o0) = Z v0 o0
attribute [go_sem] law07_FewDecl_s1 law07_FewDecl_s2 law07_FewDecl_s3
noncomputable def law07_FewDecl_b1 (n : Nat) : { B : law07_FewDecl_t1 → law07_FewDecl_t1 // ∀ m X0, law07_FewDecl_g1 n (.lq m [0, 1, 0, 1, 1, 1, 1] :: [.blk 4, .cut [1, 1, 1, 1, 1], .at [1, 1, 1, 1, 1]]) X0 → law07_FewDecl_g1 n (.at [0, 0, 1, 0, 1, 1, 1, 1] :: .lp m [0, 1, 0, 1, 1, 1, 1] :: [.blk 4, .cut [1, 1, 1, 1, 1], .at [1, 1, 1, 1, 1]]) (B X0) } := by
  apply Subtype.mk
  intro m X0 ih v0 o0
  simp (maxSteps := 100000000) only [go_sem, q00, q01, q02, q03, q04, q05, q06, q10, q11, q12, q13, q14, Try.f11, Option.getD_some, mixed, ih]
  exact rfl
noncomputable def law07_FewDecl_l1 (n : Nat) : Nat → law07_FewDecl_t1 := lpF ((law07_FewDecl_b1 n).1)
theorem law07_FewDecl_l1_s {n : Nat} {m : Nat} : law07_FewDecl_l1 n (m + 1) = (law07_FewDecl_b1 n).1 (law07_FewDecl_l1 n m) := rfl
theorem law07_FewDecl_l1_eq (n : Nat) (m : Nat) : law07_FewDecl_g1 n (.lq m [0, 1, 0, 1, 1, 1, 1] :: [.blk 4, .cut [1, 1, 1, 1, 1], .at [1, 1, 1, 1, 1]]) (law07_FewDecl_l1 n m) :=
  lpF_eq (G := fun m Z => law07_FewDecl_g1 n (.lq m [0, 1, 0, 1, 1, 1, 1] :: [.blk 4, .cut [1, 1, 1, 1, 1], .at [1, 1, 1, 1, 1]]) Z) (fun _ _ => run_lq_zero) (fun m _ ih v0 o0 => run_lq_succ.trans ((law07_FewDecl_b1 n).2 _ _ ih v0 o0)) m
noncomputable def law07_FewDecl_b2 (n : Nat) : { B : law07_FewDecl_t2 → law07_FewDecl_t2 // ∀ m X0, law07_FewDecl_g2 n (.lq m [0, 1, 0, 1, 1, 1] :: [.blk 2, .cut [1, 1, 1, 1], .at [1, 1, 1, 1]]) X0 → law07_FewDecl_g2 n (.at [0, 0, 1, 0, 1, 1, 1] :: .lp m [0, 1, 0, 1, 1, 1] :: [.blk 2, .cut [1, 1, 1, 1], .at [1, 1, 1, 1]]) (B X0) } := by
  apply Subtype.mk
  intro m X0 ih v0 o0
  simp (maxSteps := 100000000) only [go_sem, q00, q01, q02, q03, q04, q05, q06, q10, q11, q12, q13, q14, Try.f11, Option.getD_some, mixed, law07_FewDecl_l1_eq n, ih]
  exact rfl
noncomputable def law07_FewDecl_l2 (n : Nat) : Nat → law07_FewDecl_t2 := lpF ((law07_FewDecl_b2 n).1)
theorem law07_FewDecl_l2_s {n : Nat} {m : Nat} : law07_FewDecl_l2 n (m + 1) = (law07_FewDecl_b2 n).1 (law07_FewDecl_l2 n m) := rfl
theorem law07_FewDecl_l2_eq (n : Nat) (m : Nat) : law07_FewDecl_g2 n (.lq m [0, 1, 0, 1, 1, 1] :: [.blk 2, .cut [1, 1, 1, 1], .at [1, 1, 1, 1]]) (law07_FewDecl_l2 n m) :=
  lpF_eq (G := fun m Z => law07_FewDecl_g2 n (.lq m [0, 1, 0, 1, 1, 1] :: [.blk 2, .cut [1, 1, 1, 1], .at [1, 1, 1, 1]]) Z) (fun _ _ => run_lq_zero) (fun m _ ih v0 o0 => run_lq_succ.trans ((law07_FewDecl_b2 n).2 _ _ ih v0 o0)) m
noncomputable def law07_FewDecl_b3 (n : Nat) : { B : law07_FewDecl_t3 → law07_FewDecl_t3 // ∀ m X0, law07_FewDecl_g3 n (.lq m [0, 1, 0, 1, 1] :: [.blk 0, .cut [1, 1, 1], .at [1, 1, 1]]) X0 → law07_FewDecl_g3 n (.at [0, 0, 1, 0, 1, 1] :: .lp m [0, 1, 0, 1, 1] :: [.blk 0, .cut [1, 1, 1], .at [1, 1, 1]]) (B X0) } := by
  apply Subtype.mk
  intro m X0 ih v0 o0
  simp (maxSteps := 100000000) only [go_sem, q00, q01, q02, q03, q04, q05, q06, q10, q11, q12, q13, q14, Try.f11, Option.getD_some, mixed, law07_FewDecl_l1_eq n, law07_FewDecl_l2_eq n, ih]
  exact rfl
noncomputable def law07_FewDecl_l3 (n : Nat) : Nat → law07_FewDecl_t3 := lpF ((law07_FewDecl_b3 n).1)
theorem law07_FewDecl_l3_s {n : Nat} {m : Nat} : law07_FewDecl_l3 n (m + 1) = (law07_FewDecl_b3 n).1 (law07_FewDecl_l3 n m) := rfl
theorem law07_FewDecl_l3_eq (n : Nat) (m : Nat) : law07_FewDecl_g3 n (.lq m [0, 1, 0, 1, 1] :: [.blk 0, .cut [1, 1, 1], .at [1, 1, 1]]) (law07_FewDecl_l3 n m) :=
  lpF_eq (G := fun m Z => law07_FewDecl_g3 n (.lq m [0, 1, 0, 1, 1] :: [.blk 0, .cut [1, 1, 1], .at [1, 1, 1]]) Z) (fun _ _ => run_lq_zero) (fun m _ ih v0 o0 => run_lq_succ.trans ((law07_FewDecl_b3 n).2 _ _ ih v0 o0)) m
noncomputable def law07_FewDecl_e (n : Nat) : { B : Decl → Option Bool // ∀ (a0 : Decl), run (law07_FewDecl_m n) [.at []] (ini [(tyC Decl.cel).enc a0] 124) = B a0 } := by
  apply Subtype.mk
  intro a0
  simp (maxSteps := 100000000) only [go_sem, q00, q01, q02, q03, q04, q05, q06, q10, q11, q12, q13, q14, Try.f11, Option.getD_some, mixed, law07_FewDecl_l1_eq n, law07_FewDecl_l2_eq n, law07_FewDecl_l3_eq n]
  exact rfl
noncomputable def law07_FewDecl := fu fun n => (law07_FewDecl_e n).1
theorem law07_FewDecl_ok : ∀ (n : Nat) (a0 : Decl) (r : Bool), law07_FewDecl n a0 = some r → FnC Try.prog 11 [(tyC Decl.cel).enc a0] (fun v => v = tyB.enc r)
  | 0, _, _, h => by cases h
  | n + 1, a0, r, h => by
    exact okC (((law07_FewDecl_e n).2 a0).trans h) (gd (tabA_cons_ok (ent1_ok (law07_small_ok n)) (tabA_cons_ok (ent2_ok (law07_smallTree_ok n)) tabA_nil_ok)) tabD_nil_ok) Try.func11 ⟨(tyC Decl.cel).nb 0 _, trivial⟩ Try.ntmps11 Try.results11

@[reducible] noncomputable def ref03_Check_m (n : Nat) : Mach Int := mkA Try.prog Try.f30 n (outR Try.prog [.tmp 10] (tyI .i64)) (cl := tabA [(42, ent1 (tyC Term.cel) (tyI .i64) (ref03_Size n)), (43, ent1 (tyC Term.cel) (tyI .i64) (ref03_Depth n)), (44, ent6 (tyC Term.cel) (tyI .i64) (tyI .i64) (tyI .i64) (tyI .i64) (tyI .i64) (tyI .i64) (ref03_check n))])
noncomputable def ref03_Check_e (n : Nat) : { B : Term → Int → Int → Int → Int → Option Int // ∀ (a0 : Term) (a1 : Int) (a2 : Int) (a3 : Int) (a4 : Int), run (ref03_Check_m n) [.at []] (ini [(tyC Term.cel).enc a0, (tyI .i64).enc a1, (tyI .i64).enc a2, (tyI .i64).enc a3, (tyI .i64).enc a4] 28) = B a0 a1 a2 a3 a4 } := by
  apply Subtype.mk
  intro a0 a1 a2 a3 a4
  simp (maxSteps := 100000000) only [go_sem, q00, q01, q02, q03, q04, q05, q06, q10, q11, q12, q13, q14, Try.f30, Option.getD_some, mixed]
  exact rfl
noncomputable def ref03_Check := fu fun n => (ref03_Check_e n).1
theorem ref03_Check_ok : ∀ (n : Nat) (a0 : Term) (a1 : Int) (a2 : Int) (a3 : Int) (a4 : Int) (r : Int), ref03_Check n a0 a1 a2 a3 a4 = some r → FnC Try.prog 30 [(tyC Term.cel).enc a0, (tyI .i64).enc a1, (tyI .i64).enc a2, (tyI .i64).enc a3, (tyI .i64).enc a4] (fun v => v = (tyI .i64).enc r)
  | 0, _, _, _, _, _, _, h => by cases h
  | n + 1, a0, a1, a2, a3, a4, r, h => by
    exact okC (((ref03_Check_e n).2 a0 a1 a2 a3 a4).trans h) (gd (tabA_cons_ok (ent1_ok (ref03_Size_ok n)) (tabA_cons_ok (ent1_ok (ref03_Depth_ok n)) (tabA_cons_ok (ent6_ok (ref03_check_ok n)) tabA_nil_ok))) tabD_nil_ok) Try.func30 ⟨(tyC Term.cel).nb 0 _, (tyI .i64).nb 0 _, (tyI .i64).nb 0 _, (tyI .i64).nb 0 _, (tyI .i64).nb 0 _, trivial⟩ Try.ntmps30 Try.results30

@[reducible] noncomputable def term_Same_m (X_term_Same : Term → Term → Option Bool) (X_slices_EqualFunc_Term_term_Same : (List Term) → (List Term) → Unit → Option Bool) (n : Nat) : Mach Bool := mkA Try.prog Try.f47 n (outR Try.prog [.tmp 4] tyB) (cl := tabA [(57, ent3 (tyL Term.row) (tyL Term.row) (tyF 47) tyB X_slices_EqualFunc_Term_term_Same), (58, ent3 (tyL Level.row) (tyL Level.row) (tyF 59) tyB (slices_EqualFunc_Level_term_sameLevel n))])
noncomputable def term_Same_e (X_term_Same : Term → Term → Option Bool) (X_slices_EqualFunc_Term_term_Same : (List Term) → (List Term) → Unit → Option Bool) (n : Nat) : { B : Term → Term → Option Bool // ∀ (a0 : Term) (a1 : Term), run (term_Same_m X_term_Same X_slices_EqualFunc_Term_term_Same n) [.at []] (ini [(tyC Term.cel).enc a0, (tyC Term.cel).enc a1] 38) = B a0 a1 } := by
  apply Subtype.mk
  intro a0 a1
  simp (maxSteps := 100000000) only [go_sem, q00, q01, q02, q03, q04, q05, q06, q10, q11, q12, q13, q14, Try.f47, Option.getD_some, mixed]
  exact rfl
noncomputable def slices_EqualFunc_Term_term_Same_n1 : Nrm := ⟨[], [], (zA :: zT (tyL Term.row) :: zT (tyF 47) :: zA4 (zA4 (zA4 (zT (tyL Term.row) :: zK :: zK :: zA4 (zA4 (zA4 (zA :: zA :: []))))))), [], none, none⟩
@[reducible] noncomputable def slices_EqualFunc_Term_term_Same_m (X_term_Same : Term → Term → Option Bool) (X_slices_EqualFunc_Term_term_Same : (List Term) → (List Term) → Unit → Option Bool) (n : Nat) : Mach Bool := mkA Try.prog Try.f57 n (outR Try.prog [.tmp 6] tyB) (cl := tabA [(47, ent2 (tyC Term.cel) (tyC Term.cel) tyB X_term_Same)]) (nrm := tabN [([0, 1, 0, 1, 1], slices_EqualFunc_Term_term_Same_n1)])
attribute [go_sem] slices_EqualFunc_Term_term_Same_n1
noncomputable abbrev slices_EqualFunc_Term_term_Same_s1 (v0 : List Term) (v1 : List Term) (v2 : Int) (v3 : Int) : AState := ⟨(.any :: .lst false 5 (mp Term.cells v0) :: .func (.func 47) [] [] :: ay4 (ay4 (ay4 (.lst false 5 (mp Term.cells v1) :: .int .i64 v2 :: .int .i64 v3 :: ay4 (ay4 (ay4 (.any :: .any :: []))))))), [], 0, []⟩
abbrev slices_EqualFunc_Term_term_Same_t1 := (List Term) → (List Term) → Int → Int → Option Bool
abbrev slices_EqualFunc_Term_term_Same_g1 (X_term_Same : Term → Term → Option Bool) (X_slices_EqualFunc_Term_term_Same : (List Term) → (List Term) → Unit → Option Bool) (n : Nat) (K : List Kt) (Z : slices_EqualFunc_Term_term_Same_t1) : Prop := ∀ (v0 : List Term) (v1 : List Term) (v2 : Int) (v3 : Int), run (slices_EqualFunc_Term_term_Same_m X_term_Same X_slices_EqualFunc_Term_term_Same n) K (slices_EqualFunc_Term_term_Same_s1 v0 v1 v2 v3) = Z v0 v1 v2 v3
attribute [go_sem] slices_EqualFunc_Term_term_Same_s1
noncomputable def slices_EqualFunc_Term_term_Same_b1 (X_term_Same : Term → Term → Option Bool) (X_slices_EqualFunc_Term_term_Same : (List Term) → (List Term) → Unit → Option Bool) (n : Nat) : { B : slices_EqualFunc_Term_term_Same_t1 → slices_EqualFunc_Term_term_Same_t1 // ∀ m X0, slices_EqualFunc_Term_term_Same_g1 X_term_Same X_slices_EqualFunc_Term_term_Same n (.lq m [0, 1, 0, 1, 1] :: [.blk 0, .cut [1, 1, 1], .at [1, 1, 1]]) X0 → slices_EqualFunc_Term_term_Same_g1 X_term_Same X_slices_EqualFunc_Term_term_Same n (.at [0, 0, 1, 0, 1, 1] :: .lp m [0, 1, 0, 1, 1] :: [.blk 0, .cut [1, 1, 1], .at [1, 1, 1]]) (B X0) } := by
  apply Subtype.mk
  intro m X0 ih v0 v1 v2 v3
  simp (maxSteps := 100000000) only [go_sem, q00, q01, q02, q03, q04, q05, q06, q10, q11, q12, q13, q14, Try.f57, Option.getD_some, mixed, ih]
  exact rfl
noncomputable def slices_EqualFunc_Term_term_Same_l1 (X_term_Same : Term → Term → Option Bool) (X_slices_EqualFunc_Term_term_Same : (List Term) → (List Term) → Unit → Option Bool) (n : Nat) : Nat → slices_EqualFunc_Term_term_Same_t1 := lpF ((slices_EqualFunc_Term_term_Same_b1 X_term_Same X_slices_EqualFunc_Term_term_Same n).1)
theorem slices_EqualFunc_Term_term_Same_l1_s (X_term_Same : Term → Term → Option Bool) (X_slices_EqualFunc_Term_term_Same : (List Term) → (List Term) → Unit → Option Bool) {n : Nat} {m : Nat} : slices_EqualFunc_Term_term_Same_l1 X_term_Same X_slices_EqualFunc_Term_term_Same n (m + 1) = (slices_EqualFunc_Term_term_Same_b1 X_term_Same X_slices_EqualFunc_Term_term_Same n).1 (slices_EqualFunc_Term_term_Same_l1 X_term_Same X_slices_EqualFunc_Term_term_Same n m) := rfl
theorem slices_EqualFunc_Term_term_Same_l1_eq (X_term_Same : Term → Term → Option Bool) (X_slices_EqualFunc_Term_term_Same : (List Term) → (List Term) → Unit → Option Bool) (n : Nat) (m : Nat) : slices_EqualFunc_Term_term_Same_g1 X_term_Same X_slices_EqualFunc_Term_term_Same n (.lq m [0, 1, 0, 1, 1] :: [.blk 0, .cut [1, 1, 1], .at [1, 1, 1]]) (slices_EqualFunc_Term_term_Same_l1 X_term_Same X_slices_EqualFunc_Term_term_Same n m) :=
  lpF_eq (G := fun m Z => slices_EqualFunc_Term_term_Same_g1 X_term_Same X_slices_EqualFunc_Term_term_Same n (.lq m [0, 1, 0, 1, 1] :: [.blk 0, .cut [1, 1, 1], .at [1, 1, 1]]) Z) (fun _ _ _ _ => run_lq_zero) (fun m _ ih v0 v1 v2 v3 => run_lq_succ.trans ((slices_EqualFunc_Term_term_Same_b1 X_term_Same X_slices_EqualFunc_Term_term_Same n).2 _ _ ih v0 v1 v2 v3)) m
noncomputable def slices_EqualFunc_Term_term_Same_e (X_term_Same : Term → Term → Option Bool) (X_slices_EqualFunc_Term_term_Same : (List Term) → (List Term) → Unit → Option Bool) (n : Nat) : { B : (List Term) → (List Term) → Unit → Option Bool // ∀ (a0 : (List Term)) (a1 : (List Term)) (a2 : Unit), run (slices_EqualFunc_Term_term_Same_m X_term_Same X_slices_EqualFunc_Term_term_Same n) [.at []] (ini [(tyL Term.row).enc a0, (tyL Term.row).enc a1, (tyF 47).enc a2] 32) = B a0 a1 a2 } := by
  apply Subtype.mk
  intro a0 a1 a2
  simp (maxSteps := 100000000) only [go_sem, q00, q01, q02, q03, q04, q05, q06, q10, q11, q12, q13, q14, Try.f57, Option.getD_some, mixed, slices_EqualFunc_Term_term_Same_l1_eq X_term_Same X_slices_EqualFunc_Term_term_Same n]
  exact rfl
mutual
noncomputable def term_Same : Nat → Term → Term → Option Bool
  | 0, _, _ => none
  | n + 1, a0, a1 => (term_Same_e (term_Same n) (slices_EqualFunc_Term_term_Same n) n).1 a0 a1
noncomputable def slices_EqualFunc_Term_term_Same : Nat → (List Term) → (List Term) → Unit → Option Bool
  | 0, _, _, _ => none
  | n + 1, a0, a1, a2 => (slices_EqualFunc_Term_term_Same_e (term_Same n) (slices_EqualFunc_Term_term_Same n) n).1 a0 a1 a2
end
mutual
theorem term_Same_ok : ∀ (n : Nat) (a0 : Term) (a1 : Term) (r : Bool), term_Same n a0 a1 = some r → FnC Try.prog 47 [(tyC Term.cel).enc a0, (tyC Term.cel).enc a1] (fun v => v = tyB.enc r)
  | 0, _, _, _, h => by simp only [term_Same] at h; cases h
  | n + 1, a0, a1, r, h => by
    simp only [term_Same] at h
    have ih_term_Same := term_Same_ok n
    have ih_slices_EqualFunc_Term_term_Same := slices_EqualFunc_Term_term_Same_ok n
    exact okC (((term_Same_e (term_Same n) (slices_EqualFunc_Term_term_Same n) n).2 a0 a1).trans h) (gd (tabA_cons_ok (ent3_ok (ih_slices_EqualFunc_Term_term_Same)) (tabA_cons_ok (ent3_ok (slices_EqualFunc_Level_term_sameLevel_ok n)) tabA_nil_ok)) tabD_nil_ok) Try.func47 ⟨(tyC Term.cel).nb 0 _, (tyC Term.cel).nb 0 _, trivial⟩ Try.ntmps47 Try.results47
theorem slices_EqualFunc_Term_term_Same_ok : ∀ (n : Nat) (a0 : (List Term)) (a1 : (List Term)) (a2 : Unit) (r : Bool), slices_EqualFunc_Term_term_Same n a0 a1 a2 = some r → FnC Try.prog 57 [(tyL Term.row).enc a0, (tyL Term.row).enc a1, (tyF 47).enc a2] (fun v => v = tyB.enc r)
  | 0, _, _, _, _, h => by simp only [slices_EqualFunc_Term_term_Same] at h; cases h
  | n + 1, a0, a1, a2, r, h => by
    simp only [slices_EqualFunc_Term_term_Same] at h
    have ih_term_Same := term_Same_ok n
    have ih_slices_EqualFunc_Term_term_Same := slices_EqualFunc_Term_term_Same_ok n
    exact okC (((slices_EqualFunc_Term_term_Same_e (term_Same n) (slices_EqualFunc_Term_term_Same n) n).2 a0 a1 a2).trans h) (gd (tabA_cons_ok (ent2_ok (ih_term_Same)) tabA_nil_ok) tabD_nil_ok) Try.func57 ⟨(tyL Term.row).nb 0 _, (tyL Term.row).nb 0 _, (tyF 47).nb 0 _, trivial⟩ Try.ntmps57 Try.results57
end

noncomputable def ref05_SameList_n1 : Nrm := ⟨[], [], (zT (tyL Term.row) :: zT (tyL Term.row) :: zA :: zA :: zA :: zK :: zA16 (zA4 (zA :: []))), [], none, none⟩
@[reducible] noncomputable def ref05_SameList_m (n : Nat) : Mach Bool := mkA Try.prog Try.f39 n (outR Try.prog [.tmp 4] tyB) (cd := tabD [(51, entD (ent2 (tyC Term.cel) (tyC Term.cel) tyB (ref03_Same n)))]) (nrm := tabN [([0, 1, 0, 1, 1], ref05_SameList_n1)]) (isC := tabI []) (isE := tabI [])
theorem ref05_SameList_d (n : Nat) : drawP (ref05_SameList_m n) [0, 0, 0, 1, 0, 0, 1, 0, 1, 1] = true := by kernel_rfl
attribute [go_sem] ref05_SameList_d ref05_SameList_n1
noncomputable abbrev ref05_SameList_s1 (v0 : List Term) (v1 : List Term) (v2 : Int) : AState := ⟨(.lst false 5 (mp Term.cells v0) :: .lst false 5 (mp Term.cells v1) :: .any :: .any :: .any :: .int .i64 v2 :: ay16 (ay4 (.any :: []))), [], 0, []⟩
abbrev ref05_SameList_t1 := (List Term) → (List Term) → Int → Option Bool
abbrev ref05_SameList_g1 (n : Nat) (K : List Kt) (Z : ref05_SameList_t1) : Prop := ∀ (v0 : List Term) (v1 : List Term) (v2 : Int), run (ref05_SameList_m n) K (ref05_SameList_s1 v0 v1 v2) = Z v0 v1 v2
attribute [go_sem] ref05_SameList_s1
noncomputable def ref05_SameList_b1 (n : Nat) : { B : ref05_SameList_t1 → ref05_SameList_t1 // ∀ m X0, ref05_SameList_g1 n (.lq m [0, 1, 0, 1, 1] :: [.blk 0, .cut [1, 1, 1], .at [1, 1, 1]]) X0 → ref05_SameList_g1 n (.at [0, 0, 1, 0, 1, 1] :: .lp m [0, 1, 0, 1, 1] :: [.blk 0, .cut [1, 1, 1], .at [1, 1, 1]]) (B X0) } := by
  apply Subtype.mk
  intro m X0 ih v0 v1 v2
  simp (maxSteps := 100000000) only [go_sem, q00, q01, q02, q03, q04, q05, q06, q10, q11, q12, q13, q14, Try.f39, Option.getD_some, mixed, ih]
  exact rfl
noncomputable def ref05_SameList_l1 (n : Nat) : Nat → ref05_SameList_t1 := lpF ((ref05_SameList_b1 n).1)
theorem ref05_SameList_l1_s {n : Nat} {m : Nat} : ref05_SameList_l1 n (m + 1) = (ref05_SameList_b1 n).1 (ref05_SameList_l1 n m) := rfl
theorem ref05_SameList_l1_eq (n : Nat) (m : Nat) : ref05_SameList_g1 n (.lq m [0, 1, 0, 1, 1] :: [.blk 0, .cut [1, 1, 1], .at [1, 1, 1]]) (ref05_SameList_l1 n m) :=
  lpF_eq (G := fun m Z => ref05_SameList_g1 n (.lq m [0, 1, 0, 1, 1] :: [.blk 0, .cut [1, 1, 1], .at [1, 1, 1]]) Z) (fun _ _ _ => run_lq_zero) (fun m _ ih v0 v1 v2 => run_lq_succ.trans ((ref05_SameList_b1 n).2 _ _ ih v0 v1 v2)) m
noncomputable def ref05_SameList_e (n : Nat) : { B : (List Term) → (List Term) → Option Bool // ∀ (a0 : (List Term)) (a1 : (List Term)), run (ref05_SameList_m n) [.at []] (ini [(tyL Term.row).enc a0, (tyL Term.row).enc a1] 27) = B a0 a1 } := by
  apply Subtype.mk
  intro a0 a1
  simp (maxSteps := 100000000) only [go_sem, q00, q01, q02, q03, q04, q05, q06, q10, q11, q12, q13, q14, Try.f39, Option.getD_some, mixed, ref05_SameList_l1_eq n]
  exact rfl
noncomputable def ref05_SameList := fu fun n => (ref05_SameList_e n).1
theorem ref05_SameList_ok : ∀ (n : Nat) (a0 : (List Term)) (a1 : (List Term)) (r : Bool), ref05_SameList n a0 a1 = some r → FnC Try.prog 39 [(tyL Term.row).enc a0, (tyL Term.row).enc a1] (fun v => v = tyB.enc r)
  | 0, _, _, _, h => by cases h
  | n + 1, a0, a1, r, h => by
    exact okC (((ref05_SameList_e n).2 a0 a1).trans h) (gd tabA_nil_ok (tabD_cons_ok (ent2_okD (ref03_Same_ok n)) tabD_nil_ok)) Try.func39 ⟨(tyL Term.row).nb 0 _, (tyL Term.row).nb 0 _, trivial⟩ Try.ntmps39 Try.results39

@[reducible] noncomputable def ref12_Result_m (n : Nat) : Mach Term := mkA Try.prog Try.f9 n (outR Try.prog [.cell 6 25] (tyC Term.cel)) (cd := tabD [(24, entD (ent2 (tyC Term.cel) (tyL Term.row) (tyC Term.cel) (ref05_Apply n))), (25, entD (ent2 tyS (tyI .i64) (tyC Term.cel) (ref12_Own n))), (26, entD (ent2 (tyI .i64) (tyI .i64) (tyL Term.row) (ref05_Vars n)))]) (isC := tabI []) (isE := tabI [])
theorem ref12_Result_d (n : Nat) : drawP (ref12_Result_m n) [0, 1] = true := by kernel_rfl
theorem ref12_Result_o (n : Nat) : ordP (ref12_Result_m n) [0, 1] 1 13 = true ∧ ordP (ref12_Result_m n) [0, 1] 3 13 = true ∧ ordP (ref12_Result_m n) [0, 1] 6 13 = true ∧ ordP (ref12_Result_m n) [0, 1] 7 13 = true := ⟨by kernel_rfl, by kernel_rfl, by kernel_rfl, by kernel_rfl⟩
attribute [go_sem] ref12_Result_d ref12_Result_o
noncomputable def ref12_Result_e (n : Nat) : { B : Family → Int → (List Term) → Option Term // ∀ (a0 : Family) (a1 : Int) (a2 : (List Term)), run (ref12_Result_m n) [.at []] (ini [(tyC Family.cel).enc a0, (tyI .i64).enc a1, (tyL Term.row).enc a2] 20) = B a0 a1 a2 } := by
  apply Subtype.mk
  intro a0 a1 a2
  simp (maxSteps := 100000000) only [go_sem, q00, q01, q02, q03, q04, q05, q06, q10, q11, q12, q13, q14, Try.f9, Option.getD_some, mixed]
  exact rfl
noncomputable def ref12_Result := fu fun n => (ref12_Result_e n).1
theorem ref12_Result_ok : ∀ (n : Nat) (a0 : Family) (a1 : Int) (a2 : (List Term)) (r : Term), ref12_Result n a0 a1 a2 = some r → FnC Try.prog 9 [(tyC Family.cel).enc a0, (tyI .i64).enc a1, (tyL Term.row).enc a2] (fun v => v = (tyC Term.cel).enc r)
  | 0, _, _, _, _, h => by cases h
  | n + 1, a0, a1, a2, r, h => by
    exact okC (((ref12_Result_e n).2 a0 a1 a2).trans h) (gd tabA_nil_ok (tabD_cons_ok (ent2_okD (ref05_Apply_ok n)) (tabD_cons_ok (ent2_okD (ref12_Own_ok n)) (tabD_cons_ok (ent2_okD (ref05_Vars_ok n)) tabD_nil_ok)))) Try.func9 ⟨(tyC Family.cel).nb 0 _, (tyI .i64).nb 0 _, (tyL Term.row).nb 0 _, trivial⟩ Try.ntmps9 Try.results9
end Go.Abs
namespace Go.Abs
open Go.Proofs
set_option maxRecDepth 100000
set_option maxHeartbeats 4000000
set_option linter.unusedSimpArgs false
set_option linter.unusedVariables false
noncomputable def ref12_Closed_n1 : Nrm := ⟨[], [], (zA :: zK :: zA :: zK :: zA16 (zA16 (zA4 (zA :: zA :: zA :: [])))), [oT Decl.cel], none, none⟩
@[reducible] noncomputable def ref12_Closed_m (n : Nat) : Mach Bool := mkA Try.prog Try.f12 n (outR Try.prog [.tmp 2] tyB) (cl := tabA [(30, ent5 (tyC Term.cel) (tyI .i64) (tyI .i64) (tyI .i64) (tyI .i64) (tyI .i64) (ref03_Check n))]) (cd := tabD [(30, entD (ent5 (tyC Term.cel) (tyI .i64) (tyI .i64) (tyI .i64) (tyI .i64) (tyI .i64) (ref03_Check n)))]) (nrm := tabN [([0, 1, 0, 1, 1], ref12_Closed_n1)]) (isC := tabI []) (isE := tabI [])
theorem ref12_Closed_d (n : Nat) : drawP (ref12_Closed_m n) [0, 0, 0, 1, 0, 0, 1, 0, 1, 1] = true := by kernel_rfl
attribute [go_sem] ref12_Closed_d ref12_Closed_n1
noncomputable abbrev ref12_Closed_s1 (v0 : Int) (o0 : Decl) : AState := ⟨(.any :: .ptr 0 0 :: .any :: .int .i64 v0 :: ay16 (ay16 (ay4 (.any :: .any :: .any :: [])))), [.cells (Decl.cells o0)], 0, []⟩
abbrev ref12_Closed_t1 := Int → Decl → Option Bool
abbrev ref12_Closed_g1 (n : Nat) (K : List Kt) (Z : ref12_Closed_t1) : Prop := ∀ (v0 : Int) (o0 : Decl), run (ref12_Closed_m n) K (ref12_Closed_s1 v0 o0) = Z v0 o0
attribute [go_sem] ref12_Closed_s1
noncomputable def ref12_Closed_b1 (n : Nat) : { B : ref12_Closed_t1 → ref12_Closed_t1 // ∀ m X0, ref12_Closed_g1 n (.lq m [0, 1, 0, 1, 1] :: [.blk 0, .cut [1, 1, 1], .at [1, 1, 1]]) X0 → ref12_Closed_g1 n (.at [0, 0, 1, 0, 1, 1] :: .lp m [0, 1, 0, 1, 1] :: [.blk 0, .cut [1, 1, 1], .at [1, 1, 1]]) (B X0) } := by
  apply Subtype.mk
  intro m X0 ih v0 o0
  simp (maxSteps := 100000000) only [go_sem, q00, q01, q02, q03, q04, q05, q06, q10, q11, q12, q13, q14, Try.f12, Option.getD_some, mixed, ih]
  exact rfl
noncomputable def ref12_Closed_l1 (n : Nat) : Nat → ref12_Closed_t1 := lpF ((ref12_Closed_b1 n).1)
theorem ref12_Closed_l1_s {n : Nat} {m : Nat} : ref12_Closed_l1 n (m + 1) = (ref12_Closed_b1 n).1 (ref12_Closed_l1 n m) := rfl
theorem ref12_Closed_l1_eq (n : Nat) (m : Nat) : ref12_Closed_g1 n (.lq m [0, 1, 0, 1, 1] :: [.blk 0, .cut [1, 1, 1], .at [1, 1, 1]]) (ref12_Closed_l1 n m) :=
  lpF_eq (G := fun m Z => ref12_Closed_g1 n (.lq m [0, 1, 0, 1, 1] :: [.blk 0, .cut [1, 1, 1], .at [1, 1, 1]]) Z) (fun _ _ => run_lq_zero) (fun m _ ih v0 o0 => run_lq_succ.trans ((ref12_Closed_b1 n).2 _ _ ih v0 o0)) m
noncomputable def ref12_Closed_e (n : Nat) : { B : Decl → Option Bool // ∀ (a0 : Decl), run (ref12_Closed_m n) [.at []] (ini [(tyC Decl.cel).enc a0] 43) = B a0 } := by
  apply Subtype.mk
  intro a0
  simp (maxSteps := 100000000) only [go_sem, q00, q01, q02, q03, q04, q05, q06, q10, q11, q12, q13, q14, Try.f12, Option.getD_some, mixed, ref12_Closed_l1_eq n]
  exact rfl
noncomputable def ref12_Closed := fu fun n => (ref12_Closed_e n).1
theorem ref12_Closed_ok : ∀ (n : Nat) (a0 : Decl) (r : Bool), ref12_Closed n a0 = some r → FnC Try.prog 12 [(tyC Decl.cel).enc a0] (fun v => v = tyB.enc r)
  | 0, _, _, h => by cases h
  | n + 1, a0, r, h => by
    exact okC (((ref12_Closed_e n).2 a0).trans h) (gd (tabA_cons_ok (ent5_ok (ref03_Check_ok n)) tabA_nil_ok) (tabD_cons_ok (ent5_okD (ref03_Check_ok n)) tabD_nil_ok)) Try.func12 ⟨(tyC Decl.cel).nb 0 _, trivial⟩ Try.ntmps12 Try.results12

@[reducible] noncomputable def family_alike_Term_term_Same_m (n : Nat) : Mach Bool := mkA Try.prog Try.f46 n (outR Try.prog [.tmp 6] tyB) (cl := tabA [(57, ent3 (tyL Term.row) (tyL Term.row) (tyF 47) tyB (slices_EqualFunc_Term_term_Same n))])
noncomputable def family_alike_Term_term_Same_e (n : Nat) : { B : (List Term) → (List Term) → Unit → Option Bool // ∀ (a0 : (List Term)) (a1 : (List Term)) (a2 : Unit), run (family_alike_Term_term_Same_m n) [.at []] (ini [(tyL Term.row).enc a0, (tyL Term.row).enc a1, (tyF 47).enc a2] 18) = B a0 a1 a2 } := by
  apply Subtype.mk
  intro a0 a1 a2
  simp (maxSteps := 100000000) only [go_sem, q00, q01, q02, q03, q04, q05, q06, q10, q11, q12, q13, q14, Try.f46, Option.getD_some, mixed]
  exact rfl
noncomputable def family_alike_Term_term_Same := fu fun n => (family_alike_Term_term_Same_e n).1
theorem family_alike_Term_term_Same_ok : ∀ (n : Nat) (a0 : (List Term)) (a1 : (List Term)) (a2 : Unit) (r : Bool), family_alike_Term_term_Same n a0 a1 a2 = some r → FnC Try.prog 46 [(tyL Term.row).enc a0, (tyL Term.row).enc a1, (tyF 47).enc a2] (fun v => v = tyB.enc r)
  | 0, _, _, _, _, h => by cases h
  | n + 1, a0, a1, a2, r, h => by
    exact okC (((family_alike_Term_term_Same_e n).2 a0 a1 a2).trans h) (gd (tabA_cons_ok (ent3_ok (slices_EqualFunc_Term_term_Same_ok n)) tabA_nil_ok) tabD_nil_ok) Try.func46 ⟨(tyL Term.row).nb 0 _, (tyL Term.row).nb 0 _, (tyF 47).nb 0 _, trivial⟩ Try.ntmps46 Try.results46

@[reducible] noncomputable def ref12_result_m (n : Nat) : Mach ((List Term) × Bool) := mkA Try.prog Try.f40 n (outR Try.prog [.tmp 10, .tmp 11] (ty2 (tyL Term.row) tyB)) (cl := tabA [(52, entG [] osN (asT (tyC Term.cel) asN) (osC (oaT true Term.row) osN) (rsT (tyC Term.cel) (rsA 0 (fun (b : ((List Term) × Unit)) => b.1.length) rsN)) (fun (b : Unit) a => (ref05_Spine_h n) a.1))]) (cd := tabD [(26, entD (ent2 (tyI .i64) (tyI .i64) (tyL Term.row) (ref05_Vars n))), (39, entD (ent2 (tyL Term.row) (tyL Term.row) tyB (ref05_SameList n))), (51, entD (ent2 (tyC Term.cel) (tyC Term.cel) tyB (ref03_Same n)))]) (isC := tabI []) (isE := tabI [])
theorem ref12_result_d (n : Nat) : drawP (ref12_result_m n) [0, 0, 1, 1] = true := by kernel_rfl
attribute [go_sem] ref12_result_d
noncomputable def ref12_result_e (n : Nat) : { B : Term → Term → Int → Int → Int → Option ((List Term) × Bool) // ∀ (a0 : Term) (a1 : Term) (a2 : Int) (a3 : Int) (a4 : Int), run (ref12_result_m n) [.at []] (ini [(tyC Term.cel).enc a0, (tyC Term.cel).enc a1, (tyI .i64).enc a2, (tyI .i64).enc a3, (tyI .i64).enc a4] 44) = B a0 a1 a2 a3 a4 } := by
  apply Subtype.mk
  intro a0 a1 a2 a3 a4
  simp (maxSteps := 100000000) only [go_sem, q00, q01, q02, q03, q04, q05, q06, q10, q11, q12, q13, q14, Try.f40, Option.getD_some, mixed]
  exact rfl
noncomputable def ref12_result := fu fun n => (ref12_result_e n).1
theorem ref12_result_ok : ∀ (n : Nat) (a0 : Term) (a1 : Term) (a2 : Int) (a3 : Int) (a4 : Int) (r : ((List Term) × Bool)), ref12_result n a0 a1 a2 a3 a4 = some r → FnC Try.prog 40 [(tyC Term.cel).enc a0, (tyC Term.cel).enc a1, (tyI .i64).enc a2, (tyI .i64).enc a3, (tyI .i64).enc a4] (fun v => v = (ty2 (tyL Term.row) tyB).enc r)
  | 0, _, _, _, _, _, _, h => by cases h
  | n + 1, a0, a1, a2, a3, a4, r, h => by
    exact okC (((ref12_result_e n).2 a0 a1 a2 a3 a4).trans h) (gd (tabA_cons_ok (entG_ok (fun b a r h => (ref05_Spine_h_ok n) a.1 r h)) tabA_nil_ok) (tabD_cons_ok (ent2_okD (ref05_Vars_ok n)) (tabD_cons_ok (ent2_okD (ref05_SameList_ok n)) (tabD_cons_ok (ent2_okD (ref03_Same_ok n)) tabD_nil_ok)))) Try.func40 ⟨(tyC Term.cel).nb 0 _, (tyC Term.cel).nb 0 _, (tyI .i64).nb 0 _, (tyI .i64).nb 0 _, (tyI .i64).nb 0 _, trivial⟩ Try.ntmps40 Try.results40
end Go.Abs
namespace Go.Abs
open Go.Proofs
set_option maxRecDepth 100000
set_option maxHeartbeats 4000000
set_option linter.unusedSimpArgs false
set_option linter.unusedVariables false
@[reducible] noncomputable def law12_Few_m (n : Nat) : Mach Bool := mkA Try.prog Try.f4 n (outR Try.prog [.tmp 2] tyB) (cl := tabA [(11, ent1 (tyC Decl.cel) tyB (law07_FewDecl n)), (12, ent1 (tyC Decl.cel) tyB (ref12_Closed n)), (13, ent1 tyS tyB (ref03_Name n))])
noncomputable def law12_Few_e (n : Nat) : { B : Decl → Option Bool // ∀ (a0 : Decl), run (law12_Few_m n) [.at []] (ini [(tyC Decl.cel).enc a0] 14) = B a0 } := by
  apply Subtype.mk
  intro a0
  simp (maxSteps := 100000000) only [go_sem, q00, q01, q02, q03, q04, q05, q06, q10, q11, q12, q13, q14, Try.f4, Option.getD_some, mixed]
  exact rfl
noncomputable def law12_Few := fu fun n => (law12_Few_e n).1
theorem law12_Few_ok : ∀ (n : Nat) (a0 : Decl) (r : Bool), law12_Few n a0 = some r → FnC Try.prog 4 [(tyC Decl.cel).enc a0] (fun v => v = tyB.enc r)
  | 0, _, _, h => by cases h
  | n + 1, a0, r, h => by
    exact okC (((law12_Few_e n).2 a0).trans h) (gd (tabA_cons_ok (ent1_ok (law07_FewDecl_ok n)) (tabA_cons_ok (ent1_ok (ref12_Closed_ok n)) (tabA_cons_ok (ent1_ok (ref03_Name_ok n)) tabA_nil_ok))) tabD_nil_ok) Try.func4 ⟨(tyC Decl.cel).nb 0 _, trivial⟩ Try.ntmps4 Try.results4

@[reducible] noncomputable def family_shape_result_m (n : Nat) : Mach ((List Term) × Bool) := mkA Try.prog Try.f48 n (outR Try.prog [.tmp 6, .tmp 7] (ty2 (tyL Term.row) tyB)) (cl := tabA [(32, ent1 (tyC Term.cel) (ty2 (tyC Term.cel) (tyL Term.row)) (telescope_Spine n))]) (cd := tabD [(46, entD (ent3 (tyL Term.row) (tyL Term.row) (tyF 47) tyB (family_alike_Term_term_Same n))), (47, entD (ent2 (tyC Term.cel) (tyC Term.cel) tyB (term_Same n))), (60, entD (ent2 (tyI .i64) (tyI .i64) (tyL Term.row) (telescope_Vars n)))]) (isC := tabI []) (isE := tabI [])
theorem family_shape_result_d (n : Nat) : drawP (family_shape_result_m n) [0, 0, 1, 1, 1] = true := by kernel_rfl
attribute [go_sem] family_shape_result_d
noncomputable def family_shape_result_e (n : Nat) : { B : Zs1 → Term → Int → Option ((List Term) × Bool) // ∀ (a0 : Zs1) (a1 : Term) (a2 : Int), run (family_shape_result_m n) [.at []] (ini [(tyC Zs1.cel).enc a0, (tyC Term.cel).enc a1, (tyI .i64).enc a2] 46) = B a0 a1 a2 } := by
  apply Subtype.mk
  intro a0 a1 a2
  simp (maxSteps := 100000000) only [go_sem, q00, q01, q02, q03, q04, q05, q06, q10, q11, q12, q13, q14, Try.f48, Option.getD_some, mixed]
  exact rfl
noncomputable def family_shape_result := fu fun n => (family_shape_result_e n).1
theorem family_shape_result_ok : ∀ (n : Nat) (a0 : Zs1) (a1 : Term) (a2 : Int) (r : ((List Term) × Bool)), family_shape_result n a0 a1 a2 = some r → FnC Try.prog 48 [(tyC Zs1.cel).enc a0, (tyC Term.cel).enc a1, (tyI .i64).enc a2] (fun v => v = (ty2 (tyL Term.row) tyB).enc r)
  | 0, _, _, _, _, h => by cases h
  | n + 1, a0, a1, a2, r, h => by
    exact okC (((family_shape_result_e n).2 a0 a1 a2).trans h) (gd (tabA_cons_ok (ent1_ok (telescope_Spine_ok n)) tabA_nil_ok) (tabD_cons_ok (ent3_okD (family_alike_Term_term_Same_ok n)) (tabD_cons_ok (ent2_okD (term_Same_ok n)) (tabD_cons_ok (ent2_okD (telescope_Vars_ok n)) tabD_nil_ok)))) Try.func48 ⟨(tyC Zs1.cel).nb 0 _, (tyC Term.cel).nb 0 _, (tyI .i64).nb 0 _, trivial⟩ Try.ntmps48 Try.results48

noncomputable def ref12_ctor_n1 : Nrm := ⟨[], [(5, 2, 3)], (zA4 (zK :: zA :: zK :: zA :: zA :: zK :: zK :: zK :: zA :: zA :: zK :: zA64 (zA16 (zA16 [])))), [oD, oD, oK, oT Term.cel, oD, oC [zK, zT (tyL Term.row), zK, zT (tyL Term.row)], oA Zs5.row], none, none⟩
@[reducible] noncomputable def ref12_ctor_m (n : Nat) : Mach (Zs4 × Bool) := mkA Try.prog Try.f23 n (outR Try.prog [.cell 4 56, .tmp 5] (ty2 (tyC Zs4.cel) tyB)) (cl := tabA [(21, ent1 (tyC Term.cel) (ty2 (tyL Term.row) (tyC Term.cel)) (ref05_All n)), (25, ent2 tyS (tyI .i64) (tyC Term.cel) (ref12_Own n)), (40, ent5 (tyC Term.cel) (tyC Term.cel) (tyI .i64) (tyI .i64) (tyI .i64) (ty2 (tyL Term.row) tyB) (ref12_result n))]) (cd := tabD [(39, entD (ent2 (tyL Term.row) (tyL Term.row) tyB (ref05_SameList n)))]) (nrm := tabN [([0, 1, 0, 1, 1, 1, 1, 1, 1, 1, 1, 1], ref12_ctor_n1)]) (isC := tabI []) (isE := tabI [])
theorem ref12_ctor_d (n : Nat) : drawP (ref12_ctor_m n) [0, 0, 1, 1, 1, 1] = true ∧ drawP (ref12_ctor_m n) [0, 1, 1, 1] = true ∧ drawP (ref12_ctor_m n) [0, 1, 1, 1, 1, 1] = true := ⟨by kernel_rfl, by kernel_rfl, by kernel_rfl⟩
theorem ref12_ctor_o (n : Nat) : ordP (ref12_ctor_m n) [0, 1, 1, 1, 1, 1] 1 7 = true ∧ ordP (ref12_ctor_m n) [0, 1, 1, 1, 1, 1] 4 7 = true ∧ ordP (ref12_ctor_m n) [0, 1, 1, 1, 1, 1] 6 7 = true := ⟨by kernel_rfl, by kernel_rfl, by kernel_rfl⟩
attribute [go_sem] ref12_ctor_d ref12_ctor_o ref12_ctor_n1
noncomputable abbrev ref12_ctor_s1 (v0 : Int) (v1 : Int) (v2 : Int) (o3 : Term) (v4 : Str) (v5 : List Term) (v6 : List Term) (r6 : List Zs5) (c6 : Nat) : AState := ⟨(ay4 (.ptr 2 0 :: .any :: .ptr 3 0 :: .any :: .any :: .int .i64 v0 :: .int .i64 v1 :: .ptr 5 0 :: .any :: .any :: .int .i64 v2 :: ay64 (ay16 (ay16 [])))), [.dead, .dead, .cells [.str (sb []), .lst true 0 [], .lst true 0 [], .lst true 0 []], .cells (Term.cells o3), .dead, .cells [.str (sb v4), .lst false 5 (mp Term.cells v5), .acc 6 c6, .lst false 5 (mp Term.cells v6)], .acc true 3 (mp Zs5.cells r6)], 0, []⟩
abbrev ref12_ctor_c1 : List Kt := [.blk 0, .cut [1, 1, 1, 1, 1, 1, 1, 1, 1, 1], .at [1, 1, 1, 1, 1, 1, 1, 1, 1, 1]]
abbrev ref12_ctor_t1 := Int → Int → Int → Term → Str → (List Term) → (List Term) → (List Zs5) → Option (Zs4 × Bool)
abbrev ref12_ctor_g1 (n : Nat) (K : List Kt) (Z : ref12_ctor_t1) : Prop := ∀ (v0 : Int) (v1 : Int) (v2 : Int) (o3 : Term) (v4 : Str) (v5 : List Term) (v6 : List Term) (r6 : List Zs5) (c6 : Nat), c6 = r6.length → run (ref12_ctor_m n) K (ref12_ctor_s1 v0 v1 v2 o3 v4 v5 v6 r6 c6) = Z v0 v1 v2 o3 v4 v5 v6 r6
attribute [go_sem] ref12_ctor_s1 ref12_ctor_c1
noncomputable def ref12_ctor_b1 (n : Nat) : { B : ref12_ctor_t1 → ref12_ctor_t1 // ∀ m X0, ref12_ctor_g1 n (.lq m [0, 1, 0, 1, 1, 1, 1, 1, 1, 1, 1, 1] :: ref12_ctor_c1) X0 → ∀ (v0 : Int) (v1 : Int) (v2 : Int) (o3 : Term) (v4 : Str) (v5 : List Term) (v6 : List Term) (r6 : List Zs5), run (ref12_ctor_m n) (.at [0, 0, 1, 0, 1, 1, 1, 1, 1, 1, 1, 1, 1] :: .lp m [0, 1, 0, 1, 1, 1, 1, 1, 1, 1, 1, 1] :: ref12_ctor_c1) (ref12_ctor_s1 v0 v1 v2 o3 v4 v5 v6 r6 (r6.length)) = B X0 v0 v1 v2 o3 v4 v5 v6 r6 } := by
  apply Subtype.mk
  intro m X0 ih v0 v1 v2 o3 v4 v5 v6 r6
  simp (maxSteps := 100000000) only [go_sem, q00, q01, q02, q03, q04, q05, q06, q10, q11, q12, q13, q14, Try.f23, Option.getD_some, mixed, ih]
  exact rfl
noncomputable def ref12_ctor_l1 (n : Nat) : Nat → ref12_ctor_t1 := lpF ((ref12_ctor_b1 n).1)
theorem ref12_ctor_l1_s {n : Nat} {m : Nat} : ref12_ctor_l1 n (m + 1) = (ref12_ctor_b1 n).1 (ref12_ctor_l1 n m) := rfl
theorem ref12_ctor_l1_eq (n : Nat) (m : Nat) : ref12_ctor_g1 n (.lq m [0, 1, 0, 1, 1, 1, 1, 1, 1, 1, 1, 1] :: ref12_ctor_c1) (ref12_ctor_l1 n m) :=
  lpF_eq (G := fun m Z => ref12_ctor_g1 n (.lq m [0, 1, 0, 1, 1, 1, 1, 1, 1, 1, 1, 1] :: ref12_ctor_c1) Z) (fun _ _ _ _ _ _ _ _ _ _ => run_lq_zero) (fun m _ ih => by
    intro v0 v1 v2 o3 v4 v5 v6 r6 c6 ec6
    subst ec6
    rw [run_lq_succ]
    exact (ref12_ctor_b1 n).2 _ _ ih v0 v1 v2 o3 v4 v5 v6 r6) m
noncomputable def ref12_ctor_e (n : Nat) : { B : Family → Ctor → Option (Zs4 × Bool) // ∀ (a0 : Family) (a1 : Ctor), run (ref12_ctor_m n) [.at []] (ini [(tyC Family.cel).enc a0, (tyC Ctor.cel).enc a1] 111) = B a0 a1 } := by
  apply Subtype.mk
  intro a0 a1
  simp (maxSteps := 100000000) only [go_sem, q00, q01, q02, q03, q04, q05, q06, q10, q11, q12, q13, q14, Try.f23, Option.getD_some, mixed, ref12_ctor_l1_eq n]
  exact rfl
noncomputable def ref12_ctor := fu fun n => (ref12_ctor_e n).1
theorem ref12_ctor_ok : ∀ (n : Nat) (a0 : Family) (a1 : Ctor) (r : (Zs4 × Bool)), ref12_ctor n a0 a1 = some r → FnC Try.prog 23 [(tyC Family.cel).enc a0, (tyC Ctor.cel).enc a1] (fun v => v = (ty2 (tyC Zs4.cel) tyB).enc r)
  | 0, _, _, _, h => by cases h
  | n + 1, a0, a1, r, h => by
    exact okC (((ref12_ctor_e n).2 a0 a1).trans h) (gd (tabA_cons_ok (ent1_ok (ref05_All_ok n)) (tabA_cons_ok (ent2_ok (ref12_Own_ok n)) (tabA_cons_ok (ent5_ok (ref12_result_ok n)) tabA_nil_ok))) (tabD_cons_ok (ent2_okD (ref05_SameList_ok n)) tabD_nil_ok)) Try.func23 ⟨(tyC Family.cel).nb 0 _, (tyC Ctor.cel).nb 0 _, trivial⟩ Try.ntmps23 Try.results23
end Go.Abs
