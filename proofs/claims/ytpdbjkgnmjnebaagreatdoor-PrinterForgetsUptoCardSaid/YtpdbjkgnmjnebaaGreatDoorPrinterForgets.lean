/- what printer.Write says of an expression depends on no number, name or position that it need not read -/
import Derived.Test.YtpdbjkgnmjnebaaGreatDoorReadA
import Derived.Test.YtpdbjkgnmjnebaaGreatDoorLawA
import Derived.Test.YtpdbjkgnmjnebaaGreatDoorLawB
set_option linter.all false
namespace Go.Proofs.YtpdbjkgnmjnebaaGreatDoor.printerForgets
open Go.ChangeShapes Go.WideShapes Go.ChangeAt Go.RowKit Go.Abs
set_option linter.unusedVariables false
set_option maxRecDepth 100000

theorem own : ownKnob Tryz.prog.godebug = none := by kernel_rfl
theorem laid : laidOutB Tryz.prog = true := by kernel_rfl

theorem contract (H : Type) (enc : TypeId × Value → H) (aO2 : World) (base : Nat) (args : Array Value) (ds gs : List (DataW H)) (before : List MemPlace)
    (hval : ∀ (j : Nat) t v, Tryz.f6.params[j]? = some t → args[j]? = some v → Value.okWide Tryz.prog aO2 .any base t v)
    (hW : DataW.Whole enc Tryz.prog Tryz.f6.params.toList Rows.printerForgetsSpec.vars false aO2 args.toList ds gs before) (hk : Rows.uptoSmall H (ds ++ gs) = true) (hsh : aO2.ShapedOpen Tryz.prog) (hl : laidMetH Tryz.prog Rows.printerForgetsRow.laid aO2) :
    Calls Tryz.prog 6 args aO2 fun e aO3 => ∃ v, e = .returned v ∧ Rows.printerForgetsSpec.post enc Tryz.prog Tryz.f6 false true false false aO2 args v aO3 := by
  have hW' := hW
  obtain ⟨p, q, hA0, hV, rfl, hfz, hnd⟩ := hW
  have hA : DataW.TrodAll enc Tryz.prog aO2 0 (fun _ => true) true Tryz.f6.params.toList args.toList ds p := hA0
  rw [Tryz.params6] at hA hval
  obtain ⟨v0, vs0, d0, ds0, p0, q0, hargs0, rfl, rfl, h0, r0⟩ := trodAll_cons hA
  obtain ⟨v1, vs1, d1, ds1, p1, q1, hargs1, rfl, rfl, h1, r1⟩ := trodAll_cons r0
  obtain ⟨v2, vs2, d2, ds2, p2, q2, hargs2, rfl, rfl, h2, r2⟩ := trodAll_cons r1
  obtain ⟨rfl, rfl, rfl⟩ := trodAll_nil r2
  obtain rfl : args = #[v0, v1, v2] := by cases args; simp_all
  obtain ⟨rfl, rfl⟩ := trodVars_none hV
  clear hA0
  simp only [List.append_nil] at hW' hk
  have hb : Rows.uptoBulkAll [d0, d1, d2] ≤ 1048576 := of_decide_eq_true hk
  simp only [Rows.uptoBulkAll] at hb
  obtain ⟨x0, aIV, b0, wf0⟩ := aMt (e := (fun xs : List k7 => .mj false 4 (mp k7.cells xs))) (bk := (wk k7.rI)) (wf := (fun xs : List k7 => ∀ y ∈ xs, y.wf)) (aKf (e := 25) (by kernel_rfl) (hval 0 22 v0 rfl rfl)) h0 (fun n cs x h => ahQ (e := 25) (sz := 4) (enc := k7.cells) (bk := k7.rI) (wf := k7.wf) (by kernel_rfl) (by kernel_rfl) (by decide) k7.length (fun k hk cs x h => k7.read k cs x h) h)
  have b0 : (wk k7.rI) x0 ≤ Rows.uptoBulk d0 := b0
  obtain ⟨x1, rep1, b1, wf1⟩ := aKe (fs := Tryz.prog.fieldsOf 37) (by kernel_rfl) (hval 1 37 v1 rfl rfl) h1 (fun n cs x h => Syntax.read n cs x h)
  obtain ⟨x2, rep2, b2, wf2⟩ := aMt (e := (fun m : Int => .int .u8 m)) (bk := (fun _ => 1)) (wf := (wfI .u8)) (aMu (k := .u8) (by kernel_rfl) (hval 2 5 v2 rfl rfl)) h2 (fun n cs x h => akk (k := .u8) (by kernel_rfl) h)
  have b2 : (fun _ => 1) x2 ≤ Rows.uptoBulk d2 := b2
  obtain ⟨n, hn⟩ := aqS x0 x1 x2 (by omega) wf0 wf1 wf2
  have wm : l9 (aui Tryz.prog aO2) [(nA k7.row).enc x0, (nh Syntax.lU).enc x1, (oe .u8).enc x2] (#[v0, v1, v2] : Array Value).toList := ⟨v0, [v1, v2], rfl, aIV, v1, [v2], rfl, rep1, v2, [], rfl, rep2, rfl⟩
  refine (aHN (aOo hsh hl) (asD n x0 x1 x2 true hn) wm).mono fun e aO3 ⟨v, U', he, hv, hL⟩ => ?_
  subst he
  have hv : v = .bool true := hv
  subst hv
  exact ⟨_, rfl, aFD (pa := p0 ++ (p1 ++ (p2 ++ []))) (pv := []) hW' (fun _ _ _ => trodAll_cons_mk (shut_bool Tryz.underlying4 _) trodAll_mk0) (fun sp hs => trodAll_cons_mk (aKH laid (by kernel_rfl) (of_decide_eq_true (by kernel_rfl)) h0 hL (fun p hp => hs p (by simp [hp]))) (trodAll_cons_mk (aKH laid (by kernel_rfl) (of_decide_eq_true (by kernel_rfl)) h1 hL (fun p hp => hs p (by simp [hp]))) (trodAll_cons_mk (aKH laid (by kernel_rfl) (of_decide_eq_true (by kernel_rfl)) h2 hL (fun p hp => hs p (by simp [hp]))) trodAll_mk0))) (fun _ _ => rfl) (by simp)
    (hL.kept _) hL.2.2.1 (ok_one (by kernel_rfl) rfl (okWide_bool_mk Tryz.underlying4 _))⟩

set_option maxHeartbeats 0 in
theorem closed : joinedFacts Tryz.pinned.checked.prog 6 Tryz.f6 (Rows.OpenSpec.upto Rows.printerForgetsSpec).bare Rows.printerForgetsUptoRow = true := by
  unfold joinedFacts
  simp only [Bool.and_eq_true]
  refine ⟨⟨⟨⟨⟨⟨⟨⟨⟨⟨⟨⟨⟨⟨⟨⟨⟨⟨⟨⟨⟨⟨⟨⟨⟨⟨⟨⟨⟨⟨⟨?_, ?_⟩, ?_⟩, ?_⟩, ?_⟩, ?_⟩, ?_⟩, ?_⟩, ?_⟩, ?_⟩, ?_⟩, ?_⟩, ?_⟩, ?_⟩, ?_⟩, ?_⟩, ?_⟩, ?_⟩, ?_⟩, ?_⟩, ?_⟩, ?_⟩, ?_⟩, ?_⟩, ?_⟩, ?_⟩, ?_⟩, ?_⟩, ?_⟩, ?_⟩, ?_⟩, ?_⟩ <;> as_aux_lemma => kernel_rfl
theorem reads (os : Os) {H : Type} (enc : TypeId × Value → H) : ∃ places, DataW.whole enc Tryz.prog ((asF os).forCall (fun _ _ => 0) ⟨#[], #[.slice none 0 0, .agg #[.int .i64 0, .string .empty, .int .i64 0, .slice none 0 0, .slice none 0 0, .slice none 0 0, .int .i64 0, .int .i64 0], .int .u8 0], []⟩).memory Tryz.f6.params.toList Rows.printerForgetsSpec.vars false (#[.slice none 0 0, .agg #[.int .i64 0, .string .empty, .int .i64 0, .slice none 0 0, .slice none 0 0, .slice none 0 0, .int .i64 0, .int .i64 0], .int .u8 0] : Array Value).toList 8 = some ([.nil, .agg [.lit (.int .i64 0), .lit (.string []), .lit (.int .i64 0), .nil, .nil, .nil, .lit (.int .i64 0), .lit (.int .i64 0)], .lit (.int .u8 0)], [], places) :=
  ⟨[], by kernel_rfl⟩
theorem lifted (os : Os) (started : os.Started) (H : Type) (enc : TypeId × Value → H) (F : Stop.Interp) :
    ReturnsInHanded {} Tryz.checked os 6 .any ((Rows.OpenSpec.upto Rows.printerForgetsSpec).preRow enc Tryz.prog Tryz.f6 Rows.printerForgetsUptoRow.domain false Rows.printerForgetsUptoRow.laid) (((Rows.OpenSpec.upto Rows.printerForgetsSpec).at F).post enc Tryz.prog Tryz.f6 false true false false) := by
  obtain ⟨places, hx⟩ := reads os enc
  refine returnsInHanded_of_row (C := Tryz.checked) (s := Rows.OpenSpec.upto Rows.printerForgetsSpec) own started (by kernel_rfl) Tryz.func6
    (witness_row_atRef (enc := enc) (C := Tryz.checked) false (asF os) #[.slice none 0 0, .agg #[.int .i64 0, .string .empty, .int .i64 0, .slice none 0 0, .slice none 0 0, .slice none 0 0, .int .i64 0, .int .i64 0], .int .u8 0] (aHO os) (by kernel_rfl) (by kernel_rfl) (by kernel_rfl)
      (OpenSpec.preRow_of_cond 8 hx (by kernel_rfl) (fun k hk => by cases hk; kernel_rfl) (by kernel_rfl) (aMv os _))) ?_
  intro aO2 base args ds gs before hval hW _ auZ _ hlaid hsh _
  exact contract H enc aO2 base args ds gs before hval hW (auZ _ rfl) hsh hlaid

theorem saidUpto : Rows.PrinterForgetsUptoSaid :=
  OpenClaim.holds_of_cond 6 Tryz.f6 rfl rfl rfl rfl rfl rfl rfl ⟨rfl, rfl, rfl, rfl, rfl⟩ rfl rfl rfl rfl rfl (by kernel_rfl) Tryz.func6 closed
    (of_decide_eq_true (by kernel_rfl)) (by unfold Func.isWrapper; first | (rw [if_pos (by decide +kernel)]; kernel_rfl) | (rw [if_neg (by decide +kernel)]; exact ⟨rfl, rfl⟩))
    (fun os started H enc _ F => by rw [OpenClaim.pre_eq_preRow]; exact lifted os started H enc F)
theorem plain (f : FuncId) (fn : Func) (hf : Tryz.pinned.checked.prog.funcNamed "euclid/euclidlaw34.PrinterForgets" = some f) (hfn : Tryz.pinned.checked.prog.funcs[f]? = some fn) :
    true = Tryz.pinned.checked.prog.looks [] ∧ ∀ (j : Nat) t, fn.params[j]? = some t → Tryz.pinned.checked.prog.wantsStandIn t = false := by
  obtain rfl : f = 6 := Option.some.inj ((show Tryz.prog.funcNamed "euclid/euclidlaw34.PrinterForgets" = some 6 by kernel_rfl).symm.trans hf) |>.symm
  obtain rfl : fn = Tryz.f6 := (Option.some.inj (Tryz.func6.symm.trans hfn)).symm
  refine ⟨by kernel_rfl, fun j t ht => ?_⟩
  rw [Tryz.params6] at ht
  have hm : t = 22 ∨ t = 37 ∨ t = 5 := by simpa using Array.mem_of_getElem? ht
  rcases hm with rfl | rfl | rfl
  · exact (show Tryz.prog.wantsStandIn 22 = false by kernel_rfl)
  · exact (show Tryz.prog.wantsStandIn 37 = false by kernel_rfl)
  · exact (show Tryz.prog.wantsStandIn 5 = false by kernel_rfl)
theorem proved : Rows.PrinterForgetsUptoCardSaid :=
  Claim7.holds_tied_plain_at .later [] _ _ _ _ saidUpto (fun _ h => by cases h) (by kernel_rfl) (fun _ h => by cases h) printerForgetsUpto_row_tie rfl ⟨rfl, rfl⟩ (by kernel_rfl) rfl plain (by kernel_rfl)
end Go.Proofs.YtpdbjkgnmjnebaaGreatDoor.printerForgets
