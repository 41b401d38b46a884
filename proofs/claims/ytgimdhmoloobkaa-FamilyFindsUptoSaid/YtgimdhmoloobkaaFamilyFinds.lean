/- The result of a constructor is recognized as its family, with the variables of the parameters and the constructor's index terms; conditions: inputs of at most 2^20 elements. -/
import Derived.Test.YtgimdhmoloobkaaReadA
import Derived.Test.YtgimdhmoloobkaaLawA
set_option linter.all false
namespace Go.Proofs.Ytgimdhmoloobkaa.familyFinds
open Go.ChangeShapes Go.WideShapes Go.ChangeAt Go.RowKit Go.Abs
set_option linter.unusedVariables false
set_option maxRecDepth 100000

theorem own : ownKnob Try.prog.godebug = none := by kernel_rfl
theorem laid : laidOutB Try.prog = true := by kernel_rfl

theorem contract (H : Type) (enc : TypeId × Value → H) (W : World) (base : Nat) (args : Array Value) (ds gs : List (DataW H)) (before : List MemPlace)
    (hval : ∀ (j : Nat) t v, Try.f14.params[j]? = some t → args[j]? = some v → Value.okWide Try.prog W .any base t v)
    (hW : DataW.Whole enc Try.prog Try.f14.params.toList Rows.familyFindsSpec.vars false W args.toList ds gs before) (hk : Rows.uptoSmall H (ds ++ gs) = true) (hsh : W.ShapedOpen Try.prog) :
    Calls Try.prog 14 args W fun e W' => ∃ v, e = .returned v ∧ Rows.familyFindsSpec.post enc Try.prog Try.f14 false true false false W args v W' := by
  have hW' := hW
  obtain ⟨p, q, hA0, hV, rfl, hfz, hnd⟩ := hW
  have hA : DataW.TrodAll enc Try.prog W 0 (fun _ => true) true Try.f14.params.toList args.toList ds p := hA0
  rw [Try.params14] at hA hval
  obtain ⟨v0, vs0, d0, ds0, p0, q0, hargs0, rfl, rfl, h0, r0⟩ := trodAll_cons hA
  obtain ⟨v1, vs1, d1, ds1, p1, q1, hargs1, rfl, rfl, h1, r1⟩ := trodAll_cons r0
  obtain ⟨rfl, rfl, rfl⟩ := trodAll_nil r1
  obtain rfl : args = #[v0, v1] := by cases args; simp_all
  obtain ⟨rfl, rfl⟩ := trodVars_none hV
  clear hA0
  simp only [List.append_nil] at hW' hk
  have hb : Rows.uptoBulkAll [d0, d1] ≤ 1048576 := of_decide_eq_true hk
  simp only [Rows.uptoBulkAll] at hb
  obtain ⟨x0, rep0, b0, wf0⟩ := arg_cell (e := (fun xs : List Decl => .lst false 23 (mp Decl.cells xs))) (bk := (sumB Decl.bulk)) (wf := (fun xs : List Decl => ∀ y ∈ xs, y.wf)) (cell_slice (e := 31) (by kernel_rfl) (hval 0 61 v0 rfl rfl)) h0 (fun n cs x h => rd_slice (e := 31) (sz := 23) (enc := Decl.cells) (bk := Decl.bulk) (wf := Decl.wf) (by kernel_rfl) (by kernel_rfl) (by decide) Decl.length (fun k hk cs x h => Decl.read k cs x h) h)
  have b0 : (sumB Decl.bulk) x0 ≤ Rows.uptoBulk d0 := b0
  obtain ⟨x1, rep1, b1, wf1⟩ := arg_cell (e := (fun m : Int => .int .u8 m)) (bk := (fun _ => 1)) (wf := (wfI .u8)) (cell_int (k := .u8) (by kernel_rfl) (hval 1 5 v1 rfl rfl)) h1 (fun n cs x h => rd_int (k := .u8) (by kernel_rfl) h)
  have b1 : (fun _ => 1) x1 ≤ Rows.uptoBulk d1 := b1
  obtain ⟨n, hn⟩ := z0d_plain x0 x1 (by omega) wf0 wf1
  have hrep : RepL (env0 Try.prog W) [(tyL Decl.row).enc x0, (tyI .u8).enc x1] (#[v0, v1] : Array Value).toList := ⟨v0, [v1], rfl, rep0, v1, [], rfl, rep1, rfl⟩
  refine (calls_of_fnC (knowW hsh) (z0d_ok n x0 x1 true hn) hrep).mono fun e W' ⟨v, φ', he, hv, hL⟩ => ?_
  subst he
  have hv : v = .bool true := hv
  subst hv
  exact ⟨_, rfl, post_of_sameB (pa := p0 ++ (p1 ++ [])) (pv := []) hW' (fun _ _ _ => trodAll_cons_mk (shut_bool Try.underlying4 _) trodAll_mk0) (fun sp hs => trodAll_cons_mk (arg_stays laid (by kernel_rfl) (of_decide_eq_true (by kernel_rfl)) h0 hL (fun p hp => hs p (by simp [hp]))) (trodAll_cons_mk (arg_stays laid (by kernel_rfl) (of_decide_eq_true (by kernel_rfl)) h1 hL (fun p hp => hs p (by simp [hp]))) trodAll_mk0)) (fun _ _ => rfl) (by simp)
    (hL.kept _) hL.2.2.1 (ok_one (by kernel_rfl) rfl (okWide_bool_mk Try.underlying4 _))⟩

theorem lifted (os : Os) (started : os.Started) (H : Type) (enc : TypeId × Value → H) (F : Stop.Interp) :
    ReturnsInHanded {} Try.checked os 14 .any ((Rows.OpenSpec.upto Rows.familyFindsSpec).pre6 enc Try.prog Try.f14 Rows.familyFindsUptoRow.domain false) (((Rows.OpenSpec.upto Rows.familyFindsSpec).at F).post enc Try.prog Try.f14 false true false false) := by
  refine returnsInHanded_of_condS (C := Try.checked) (s := Rows.OpenSpec.upto Rows.familyFindsSpec) (k := Rows.uptoSmall) rfl own started (by kernel_rfl) Try.func14
    (OpenSpec.witness (enc := enc) (C := Try.checked) (s := Rows.OpenSpec.upto Rows.familyFindsSpec) (k := Rows.uptoSmall) rfl false ⟨#[], #[.slice none 0 0, .int .u8 0], []⟩ 16 (by kernel_rfl) (by kernel_rfl) (by kernel_rfl)
      (x := ([.nil, .lit (.int .u8 0)], [], [])) (by kernel_rfl) rfl (by kernel_rfl)) ?_
  intro W base args ds gs before hval hW _ hk hsh
  exact contract H enc W base args ds gs before hval hW hk hsh

theorem proved : Rows.FamilyFindsUptoSaid :=
  OpenClaim.holds_of_cond 14 Try.f14 rfl rfl rfl rfl rfl rfl rfl ⟨rfl, rfl, rfl, rfl, rfl⟩ rfl rfl rfl rfl rfl (by kernel_rfl) Try.func14 (by kernel_rfl)
    (of_decide_eq_true (by kernel_rfl)) (by unfold Func.isWrapper; first | (rw [if_pos (by decide +kernel)]; kernel_rfl) | (rw [if_neg (by decide +kernel)]; exact ⟨rfl, rfl⟩))
    (fun os started H enc _ F => lifted os started H enc F)
end Go.Proofs.Ytgimdhmoloobkaa.familyFinds
