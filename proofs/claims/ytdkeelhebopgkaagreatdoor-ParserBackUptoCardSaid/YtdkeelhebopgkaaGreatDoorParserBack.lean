/- A tree is written with all parentheses and without notations, and read again as the same one. -/
import Derived.Test.YtdkeelhebopgkaaGreatDoorReadA
import Derived.Test.YtdkeelhebopgkaaGreatDoorLawA
import Derived.Test.YtdkeelhebopgkaaGreatDoorLawB
import Derived.Test.YtdkeelhebopgkaaGreatDoorLawC
set_option linter.all false
namespace Go.Proofs.YtdkeelhebopgkaaGreatDoor.parserBack
open Go.ChangeShapes Go.WideShapes Go.ChangeAt Go.RowKit Go.Abs
set_option linter.unusedVariables false
set_option maxRecDepth 100000

theorem own : ownKnob Tryz.prog.godebug = none := by kernel_rfl
theorem laid : laidOutB Tryz.prog = true := by kernel_rfl

theorem contract (H : Type) (enc : TypeId × Value → H) (W : World) (base : Nat) (args : Array Value) (ds gs : List (DataW H)) (before : List MemPlace)
    (hval : ∀ (j : Nat) t v, Tryz.f9.params[j]? = some t → args[j]? = some v → Value.okWide Tryz.prog W .any base t v)
    (hW : DataW.Whole enc Tryz.prog Tryz.f9.params.toList Rows.parserBackSpec.vars false W args.toList ds gs before) (hk : Rows.uptoSmall H (ds ++ gs) = true) (hsh : W.ShapedOpen Tryz.prog) (hl : laidMetH Tryz.prog Rows.parserBackRow.laid W) :
    Calls Tryz.prog 9 args W fun e W' => ∃ v, e = .returned v ∧ Rows.parserBackSpec.post enc Tryz.prog Tryz.f9 false true false false W args v W' := by
  have hW' := hW
  obtain ⟨p, q, hA0, hV, rfl, hfz, hnd⟩ := hW
  have hA : DataW.TrodAll enc Tryz.prog W 0 (fun _ => true) true Tryz.f9.params.toList args.toList ds p := hA0
  rw [Tryz.params9] at hA hval
  obtain ⟨v0, vs0, d0, ds0, p0, q0, hargs0, rfl, rfl, h0, r0⟩ := trodAll_cons hA
  obtain ⟨v1, vs1, d1, ds1, p1, q1, hargs1, rfl, rfl, h1, r1⟩ := trodAll_cons r0
  obtain ⟨rfl, rfl, rfl⟩ := trodAll_nil r1
  obtain rfl : args = #[v0, v1] := by cases args; simp_all
  obtain ⟨rfl, rfl⟩ := trodVars_none hV
  clear hA0
  simp only [List.append_nil] at hW' hk
  have hb : Rows.uptoBulkAll [d0, d1] ≤ 1048576 := of_decide_eq_true hk
  simp only [Rows.uptoBulkAll] at hb
  obtain ⟨x0, rep0, b0, wf0⟩ := aBA (e := (fun m : Str => .str (sb m))) (bk := (fun m : Str => m.length + 1)) (wf := (fun _ => True)) (ax4 (by kernel_rfl) (hval 0 9 v0 rfl rfl)) h0 (fun n cs x h => ae9 (by kernel_rfl) h)
  have b0 : (fun m : Str => m.length + 1) x0 ≤ Rows.uptoBulk d0 := b0
  simp only at b0
  obtain ⟨x1, rep1, b1, wf1⟩ := aBA (e := (fun xs : List jY => .mb false 4 (mp jY.cells xs))) (bk := (E7 jY.vI)) (wf := (fun xs : List jY => ∀ y ∈ xs, y.wf)) (azz (e := 53) (by kernel_rfl) (hval 1 22 v1 rfl rfl)) h1 (fun n cs x h => WK (e := 53) (sz := 4) (enc := jY.cells) (bk := jY.vI) (wf := jY.wf) (by kernel_rfl) (by kernel_rfl) (by decide) jY.length (fun k hk cs x h => jY.read k cs x h) h)
  have b1 : (E7 jY.vI) x1 ≤ Rows.uptoBulk d1 := b1
  obtain ⟨n, hn⟩ := ajf x0 x1 (by omega) wf0 wf1
  have rF : kC (aiP Tryz.prog W) [mI.enc x0, (nP jY.row).enc x1] (#[v0, v1] : Array Value).toList := ⟨v0, [v1], rfl, rep0, v1, [], rfl, rep1, rfl⟩
  refine (awV (aDq hsh hl) (amn n x0 x1 true hn) rF).mono fun e W' ⟨v, φ', he, hv, hL⟩ => ?_
  subst he
  have hv : v = .bool true := hv
  subst hv
  exact ⟨_, rfl, auY (pa := p0 ++ (p1 ++ [])) (pv := []) hW' (fun _ _ _ => trodAll_cons_mk (shut_bool Tryz.underlying4 _) trodAll_mk0) (fun sp hs => trodAll_cons_mk (az5 laid (by kernel_rfl) (of_decide_eq_true (by kernel_rfl)) h0 hL (fun p hp => hs p (by simp [hp]))) (trodAll_cons_mk (az5 laid (by kernel_rfl) (of_decide_eq_true (by kernel_rfl)) h1 hL (fun p hp => hs p (by simp [hp]))) trodAll_mk0)) (fun _ _ => rfl) (by simp)
    (hL.kept _) hL.2.2.1 (ok_one (by kernel_rfl) rfl (okWide_bool_mk Tryz.underlying4 _))⟩

set_option maxHeartbeats 0 in
theorem closed : joinedFacts Tryz.pinned.checked.prog 9 Tryz.f9 (Rows.OpenSpec.upto Rows.parserBackSpec).bare Rows.parserBackUptoRow = true := by
  unfold joinedFacts
  simp only [Bool.and_eq_true]
  refine ⟨⟨⟨⟨⟨⟨⟨⟨⟨⟨⟨⟨⟨⟨⟨⟨⟨⟨⟨⟨⟨⟨⟨⟨⟨⟨⟨⟨⟨⟨⟨?_, ?_⟩, ?_⟩, ?_⟩, ?_⟩, ?_⟩, ?_⟩, ?_⟩, ?_⟩, ?_⟩, ?_⟩, ?_⟩, ?_⟩, ?_⟩, ?_⟩, ?_⟩, ?_⟩, ?_⟩, ?_⟩, ?_⟩, ?_⟩, ?_⟩, ?_⟩, ?_⟩, ?_⟩, ?_⟩, ?_⟩, ?_⟩, ?_⟩, ?_⟩, ?_⟩, ?_⟩ <;> as_aux_lemma => kernel_rfl
theorem reads (os : Os) {H : Type} (enc : TypeId × Value → H) : ∃ places, DataW.whole enc Tryz.prog ((ahl os).forCall (fun _ _ => 0) ⟨#[], #[.string .empty, .slice none 0 0], []⟩).memory Tryz.f9.params.toList Rows.parserBackSpec.vars false (#[.string .empty, .slice none 0 0] : Array Value).toList 8 = some ([.lit (.string []), .nil], [], places) :=
  ⟨[], by kernel_rfl⟩
theorem lifted (os : Os) (started : os.Started) (H : Type) (enc : TypeId × Value → H) (F : Stop.Interp) :
    ReturnsInHanded {} Tryz.checked os 9 .any ((Rows.OpenSpec.upto Rows.parserBackSpec).preRow enc Tryz.prog Tryz.f9 Rows.parserBackUptoRow.domain false Rows.parserBackUptoRow.laid) (((Rows.OpenSpec.upto Rows.parserBackSpec).at F).post enc Tryz.prog Tryz.f9 false true false false) := by
  obtain ⟨places, hx⟩ := reads os enc
  refine returnsInHanded_of_row (C := Tryz.checked) (s := Rows.OpenSpec.upto Rows.parserBackSpec) own started (by kernel_rfl) Tryz.func9
    (witness_row_atRef (enc := enc) (C := Tryz.checked) false (ahl os) #[.string .empty, .slice none 0 0] (awW os) (by kernel_rfl) (by kernel_rfl) (by kernel_rfl)
      (OpenSpec.preRow_of_cond 8 hx (by kernel_rfl) (fun k hk => by cases hk; kernel_rfl) (by kernel_rfl) (aBC os _))) ?_
  intro W base args ds gs before hval hW _ ajx _ hlaid hsh _
  exact contract H enc W base args ds gs before hval hW (ajx _ rfl) hsh hlaid

theorem saidUpto : Rows.ParserBackUptoSaid :=
  OpenClaim.holds_of_cond 9 Tryz.f9 rfl rfl rfl rfl rfl rfl rfl ⟨rfl, rfl, rfl, rfl, rfl⟩ rfl rfl rfl rfl rfl (by kernel_rfl) Tryz.func9 closed
    (of_decide_eq_true (by kernel_rfl)) (by unfold Func.isWrapper; first | (rw [if_pos (by decide +kernel)]; kernel_rfl) | (rw [if_neg (by decide +kernel)]; exact ⟨rfl, rfl⟩))
    (fun os started H enc _ F => by rw [OpenClaim.pre_eq_preRow]; exact lifted os started H enc F)
theorem plain (f : FuncId) (fn : Func) (hf : Tryz.pinned.checked.prog.funcNamed "euclid/euclidlaw26.ParserBack" = some f) (hfn : Tryz.pinned.checked.prog.funcs[f]? = some fn) :
    true = Tryz.pinned.checked.prog.looks [] ∧ ∀ (j : Nat) t, fn.params[j]? = some t → Tryz.pinned.checked.prog.wantsStandIn t = false := by
  obtain rfl : f = 9 := Option.some.inj ((show Tryz.prog.funcNamed "euclid/euclidlaw26.ParserBack" = some 9 by kernel_rfl).symm.trans hf) |>.symm
  obtain rfl : fn = Tryz.f9 := (Option.some.inj (Tryz.func9.symm.trans hfn)).symm
  refine ⟨by kernel_rfl, fun j t ht => ?_⟩
  rw [Tryz.params9] at ht
  have hm : t = 9 ∨ t = 22 := by simpa using Array.mem_of_getElem? ht
  rcases hm with rfl | rfl
  · exact (show Tryz.prog.wantsStandIn 9 = false by kernel_rfl)
  · exact (show Tryz.prog.wantsStandIn 22 = false by kernel_rfl)
theorem proved : Rows.ParserBackUptoCardSaid :=
  Claim7.holds_tied_plain_at .later [] _ _ _ _ saidUpto (fun _ h => by cases h) (by kernel_rfl) (fun _ h => by cases h) parserBackUpto_row_tie rfl ⟨rfl, rfl⟩ (by kernel_rfl) rfl plain (by kernel_rfl)
end Go.Proofs.YtdkeelhebopgkaaGreatDoor.parserBack
