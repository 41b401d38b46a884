/- The parser reads an expression as the reference reads it -/
import Derived.Test.YtdkeelhebopgkaaGreatDoorReadA
import Derived.Test.YtdkeelhebopgkaaGreatDoorLawA
import Derived.Test.YtdkeelhebopgkaaGreatDoorLawB
import Derived.Test.YtdkeelhebopgkaaGreatDoorLawC
set_option linter.all false
namespace Go.Proofs.YtdkeelhebopgkaaGreatDoor.parserExprs
open Go.ChangeShapes Go.WideShapes Go.ChangeAt Go.RowKit Go.Abs
set_option linter.unusedVariables false
set_option maxRecDepth 100000

theorem own : ownKnob Tryz.prog.godebug = none := by kernel_rfl
theorem laid : laidOutB Tryz.prog = true := by kernel_rfl

theorem contract (H : Type) (enc : TypeId × Value → H) (aL6 : World) (base : Nat) (args : Array Value) (ds gs : List (DataW H)) (before : List MemPlace)
    (hval : ∀ (j : Nat) t v, Tryz.f3.params[j]? = some t → args[j]? = some v → Value.okWide Tryz.prog aL6 .any base t v)
    (hW : DataW.Whole enc Tryz.prog Tryz.f3.params.toList Rows.parserExprsSpec.vars false aL6 args.toList ds gs before) (hk : Rows.uptoSmall H (ds ++ gs) = true) (hsh : aL6.ShapedOpen Tryz.prog) (hl : laidMetH Tryz.prog Rows.parserExprsRow.laid aL6) :
    Calls Tryz.prog 3 args aL6 fun e aL7 => ∃ v, e = .returned v ∧ Rows.parserExprsSpec.post enc Tryz.prog Tryz.f3 false true false false aL6 args v aL7 := by
  have hW' := hW
  obtain ⟨p, q, hA0, hV, rfl, hfz, hnd⟩ := hW
  have hA : DataW.TrodAll enc Tryz.prog aL6 0 (fun _ => true) true Tryz.f3.params.toList args.toList ds p := hA0
  rw [Tryz.params3] at hA hval
  obtain ⟨v0, vs0, d0, ds0, p0, q0, hargs0, rfl, rfl, h0, r0⟩ := trodAll_cons hA
  obtain ⟨v1, vs1, d1, ds1, p1, q1, hargs1, rfl, rfl, h1, r1⟩ := trodAll_cons r0
  obtain ⟨rfl, rfl, rfl⟩ := trodAll_nil r1
  obtain rfl : args = #[v0, v1] := by cases args; simp_all
  obtain ⟨rfl, rfl⟩ := trodVars_none hV
  clear hA0
  simp only [List.append_nil] at hW' hk
  have hb : Rows.uptoBulkAll [d0, d1] ≤ 1048576 := of_decide_eq_true hk
  simp only [Rows.uptoBulkAll] at hb
  obtain ⟨x0, rep0, b0, wf0⟩ := aJH (e := (fun m : Str => .str (sb m))) (bk := (fun m : Str => m.length + 1)) (wf := (fun _ => True)) (aGf (by kernel_rfl) (hval 0 9 v0 rfl rfl)) h0 (fun n cs x h => aCk (by kernel_rfl) h)
  have b0 : (fun m : Str => m.length + 1) x0 ≤ Rows.uptoBulk d0 := b0
  simp only at b0
  obtain ⟨x1, rep1, b1, wf1⟩ := aJH (e := (fun xs : List jV => .lS false 4 (mp jV.cells xs))) (bk := (ae1 jV.aw1)) (wf := (fun xs : List jV => ∀ y ∈ xs, y.wf)) (aHH (e := 53) (by kernel_rfl) (hval 1 22 v1 rfl rfl)) h1 (fun n cs x h => aCl (e := 53) (sz := 4) (enc := jV.cells) (bk := jV.aw1) (wf := jV.wf) (by kernel_rfl) (by kernel_rfl) (by decide) jV.length (fun k hk cs x h => jV.read k cs x h) h)
  have b1 : (ae1 jV.aw1) x1 ≤ Rows.uptoBulk d1 := b1
  obtain ⟨n, hn⟩ := ap9 x0 x1 (by omega) wf0 wf1
  have tP : kQ (ars Tryz.prog aL6) [mb.enc x0, (mZ jV.row).enc x1] (#[v0, v1] : Array Value).toList := ⟨v0, [v1], rfl, rep0, v1, [], rfl, rep1, rfl⟩
  refine (aFf (aLs hsh hl) (aui n x0 x1 true hn) tP).mono fun e aL7 ⟨v, U', he, hv, hL⟩ => ?_
  subst he
  have hv : v = .bool true := hv
  subst hv
  exact ⟨_, rfl, aDe (pa := p0 ++ (p1 ++ [])) (pv := []) hW' (fun _ _ _ => trodAll_cons_mk (shut_bool Tryz.underlying4 _) trodAll_mk0) (fun sp hs => trodAll_cons_mk (aH9 laid (by kernel_rfl) (of_decide_eq_true (by kernel_rfl)) h0 hL (fun p hp => hs p (by simp [hp]))) (trodAll_cons_mk (aH9 laid (by kernel_rfl) (of_decide_eq_true (by kernel_rfl)) h1 hL (fun p hp => hs p (by simp [hp]))) trodAll_mk0)) (fun _ _ => rfl) (by simp)
    (hL.kept _) hL.2.2.1 (ok_one (by kernel_rfl) rfl (okWide_bool_mk Tryz.underlying4 _))⟩

set_option maxHeartbeats 0 in
theorem closed : joinedFacts Tryz.pinned.checked.prog 3 Tryz.f3 (Rows.OpenSpec.upto Rows.parserExprsSpec).bare Rows.parserExprsUptoRow = true := by
  unfold joinedFacts
  simp only [Bool.and_eq_true]
  refine ⟨⟨⟨⟨⟨⟨⟨⟨⟨⟨⟨⟨⟨⟨⟨⟨⟨⟨⟨⟨⟨⟨⟨⟨⟨⟨⟨⟨⟨⟨⟨?_, ?_⟩, ?_⟩, ?_⟩, ?_⟩, ?_⟩, ?_⟩, ?_⟩, ?_⟩, ?_⟩, ?_⟩, ?_⟩, ?_⟩, ?_⟩, ?_⟩, ?_⟩, ?_⟩, ?_⟩, ?_⟩, ?_⟩, ?_⟩, ?_⟩, ?_⟩, ?_⟩, ?_⟩, ?_⟩, ?_⟩, ?_⟩, ?_⟩, ?_⟩, ?_⟩, ?_⟩ <;> as_aux_lemma => kernel_rfl
theorem reads (os : Os) {H : Type} (enc : TypeId × Value → H) : ∃ places, DataW.whole enc Tryz.prog ((apy os).forCall (fun _ _ => 0) ⟨#[], #[.string .empty, .slice none 0 0], []⟩).memory Tryz.f3.params.toList Rows.parserExprsSpec.vars false (#[.string .empty, .slice none 0 0] : Array Value).toList 8 = some ([.lit (.string []), .nil], [], places) :=
  ⟨[], by kernel_rfl⟩
theorem lifted (os : Os) (started : os.Started) (H : Type) (enc : TypeId × Value → H) (F : Stop.Interp) :
    ReturnsInHanded {} Tryz.checked os 3 .any ((Rows.OpenSpec.upto Rows.parserExprsSpec).preRow enc Tryz.prog Tryz.f3 Rows.parserExprsUptoRow.domain false Rows.parserExprsUptoRow.laid) (((Rows.OpenSpec.upto Rows.parserExprsSpec).at F).post enc Tryz.prog Tryz.f3 false true false false) := by
  obtain ⟨places, hx⟩ := reads os enc
  refine returnsInHanded_of_row (C := Tryz.checked) (s := Rows.OpenSpec.upto Rows.parserExprsSpec) own started (by kernel_rfl) Tryz.func3
    (witness_row_atRef (enc := enc) (C := Tryz.checked) false (apy os) #[.string .empty, .slice none 0 0] (aFg os) (by kernel_rfl) (by kernel_rfl) (by kernel_rfl)
      (OpenSpec.preRow_of_cond 8 hx (by kernel_rfl) (fun k hk => by cases hk; kernel_rfl) (by kernel_rfl) (aJJ os _))) ?_
  intro aL6 base args ds gs before hval hW _ asc _ hlaid hsh _
  exact contract H enc aL6 base args ds gs before hval hW (asc _ rfl) hsh hlaid

theorem saidUpto : Rows.ParserExprsUptoSaid :=
  OpenClaim.holds_of_cond 3 Tryz.f3 rfl rfl rfl rfl rfl rfl rfl ⟨rfl, rfl, rfl, rfl, rfl⟩ rfl rfl rfl rfl rfl (by kernel_rfl) Tryz.func3 closed
    (of_decide_eq_true (by kernel_rfl)) (by unfold Func.isWrapper; first | (rw [if_pos (by decide +kernel)]; kernel_rfl) | (rw [if_neg (by decide +kernel)]; exact ⟨rfl, rfl⟩))
    (fun os started H enc _ F => by rw [OpenClaim.pre_eq_preRow]; exact lifted os started H enc F)
theorem plain (f : FuncId) (fn : Func) (hf : Tryz.pinned.checked.prog.funcNamed "euclid/euclidlaw26.ParserExprs" = some f) (hfn : Tryz.pinned.checked.prog.funcs[f]? = some fn) :
    true = Tryz.pinned.checked.prog.looks [] ∧ ∀ (j : Nat) t, fn.params[j]? = some t → Tryz.pinned.checked.prog.wantsStandIn t = false := by
  obtain rfl : f = 3 := Option.some.inj ((show Tryz.prog.funcNamed "euclid/euclidlaw26.ParserExprs" = some 3 by kernel_rfl).symm.trans hf) |>.symm
  obtain rfl : fn = Tryz.f3 := (Option.some.inj (Tryz.func3.symm.trans hfn)).symm
  refine ⟨by kernel_rfl, fun j t ht => ?_⟩
  rw [Tryz.params3] at ht
  have hm : t = 9 ∨ t = 22 := by simpa using Array.mem_of_getElem? ht
  rcases hm with rfl | rfl
  · exact (show Tryz.prog.wantsStandIn 9 = false by kernel_rfl)
  · exact (show Tryz.prog.wantsStandIn 22 = false by kernel_rfl)
theorem proved : Rows.ParserExprsUptoCardSaid :=
  Claim7.holds_tied_plain_at .later [] _ _ _ _ saidUpto (fun _ h => by cases h) (by kernel_rfl) (fun _ h => by cases h) parserExprsUpto_row_tie rfl ⟨rfl, rfl⟩ (by kernel_rfl) rfl plain (by kernel_rfl)
end Go.Proofs.YtdkeelhebopgkaaGreatDoor.parserExprs
