/- White space in front of a token changes only ranges -/
import Derived.Test.YtdkeelhebopgkaaGreatDoorReadA
import Derived.Test.YtdkeelhebopgkaaGreatDoorLawA
import Derived.Test.YtdkeelhebopgkaaGreatDoorLawB
import Derived.Test.YtdkeelhebopgkaaGreatDoorLawC
set_option linter.all false
namespace Go.Proofs.YtdkeelhebopgkaaGreatDoor.parserSpaces
open Go.ChangeShapes Go.WideShapes Go.ChangeAt Go.RowKit Go.Abs
set_option linter.unusedVariables false
set_option maxRecDepth 100000

theorem own : ownKnob Tryz.prog.godebug = none := by kernel_rfl
theorem laid : laidOutB Tryz.prog = true := by kernel_rfl

theorem contract (H : Type) (enc : TypeId × Value → H) (W : World) (base : Nat) (args : Array Value) (ds gs : List (DataW H)) (before : List MemPlace)
    (hval : ∀ (j : Nat) t v, Tryz.f7.params[j]? = some t → args[j]? = some v → Value.okWide Tryz.prog W .any base t v)
    (hW : DataW.Whole enc Tryz.prog Tryz.f7.params.toList Rows.parserSpacesSpec.vars false W args.toList ds gs before) (hk : Rows.uptoSmall H (ds ++ gs) = true) (hsh : W.ShapedOpen Tryz.prog) (hl : laidMetH Tryz.prog Rows.parserSpacesRow.laid W) :
    Calls Tryz.prog 7 args W fun e W' => ∃ v, e = .returned v ∧ Rows.parserSpacesSpec.post enc Tryz.prog Tryz.f7 false true false false W args v W' := by
  have hW' := hW
  obtain ⟨p, q, hA0, hV, rfl, hfz, hnd⟩ := hW
  have hA : DataW.TrodAll enc Tryz.prog W 0 (fun _ => true) true Tryz.f7.params.toList args.toList ds p := hA0
  rw [Tryz.params7] at hA hval
  obtain ⟨v0, vs0, d0, ds0, p0, q0, hargs0, rfl, rfl, h0, r0⟩ := trodAll_cons hA
  obtain ⟨v1, vs1, d1, ds1, p1, q1, hargs1, rfl, rfl, h1, r1⟩ := trodAll_cons r0
  obtain ⟨v2, vs2, d2, ds2, p2, q2, hargs2, rfl, rfl, h2, r2⟩ := trodAll_cons r1
  obtain ⟨rfl, rfl, rfl⟩ := trodAll_nil r2
  obtain rfl : args = #[v0, v1, v2] := by cases args; simp_all
  obtain ⟨rfl, rfl⟩ := trodVars_none hV
  clear hA0
  simp only [List.append_nil] at hW' hk
  have hb : Rows.uptoBulkAll [d0, d1, d2] ≤ 1048576 := of_decide_eq_true hk
  simp only [Rows.uptoBulkAll] at hb
  obtain ⟨x0, rep0, b0, wf0⟩ := ayZ (e := (fun m : Str => .str (sb m))) (bk := (fun m : Str => m.length + 1)) (wf := (fun _ => True)) (avF (by kernel_rfl) (hval 0 9 v0 rfl rfl)) h0 (fun n cs x h => arv (by kernel_rfl) h)
  have b0 : (fun m : Str => m.length + 1) x0 ≤ Rows.uptoBulk d0 := b0
  simp only at b0
  obtain ⟨x1, rep1, b1, wf1⟩ := ayZ (e := (fun xs : List jH => .lI false 4 (mp jH.cells xs))) (bk := (GS jH.Ks)) (wf := (fun xs : List jH => ∀ y ∈ xs, y.wf)) (aw5 (e := 53) (by kernel_rfl) (hval 1 22 v1 rfl rfl)) h1 (fun n cs x h => arw (e := 53) (sz := 4) (enc := jH.cells) (bk := jH.Ks) (wf := jH.wf) (by kernel_rfl) (by kernel_rfl) (by decide) jH.length (fun k hk cs x h => jH.read k cs x h) h)
  have b1 : (GS jH.Ks) x1 ≤ Rows.uptoBulk d1 := b1
  obtain ⟨x2, rep2, b2, wf2⟩ := ayZ (e := (fun m : Int => .int .u8 m)) (bk := (fun _ => 1)) (wf := (wfI .u8)) (ay0 (k := .u8) (by kernel_rfl) (hval 2 5 v2 rfl rfl)) h2 (fun n cs x h => aru (k := .u8) (by kernel_rfl) h)
  have b2 : (fun _ => 1) x2 ≤ Rows.uptoBulk d2 := b2
  obtain ⟨n, hn⟩ := aeV x0 x1 x2 (by omega) wf0 wf1 wf2
  have qE : kf (ag4 Tryz.prog W) [lP.enc x0, (l5 jH.row).enc x1, (lO .u8).enc x2] (#[v0, v1, v2] : Array Value).toList := ⟨v0, [v1, v2], rfl, rep0, v1, [v2], rfl, rep1, v2, [], rfl, rep2, rfl⟩
  refine (auv (aAB hsh hl) (c3 ahB n x0 x1 x2 true hn) qE).mono fun e W' ⟨v, φ', he, hv, hL⟩ => ?_
  subst he
  have hv : v = .bool true := hv
  subst hv
  exact ⟨_, rfl, aso (pa := p0 ++ (p1 ++ (p2 ++ []))) (pv := []) hW' (fun _ _ _ => trodAll_cons_mk (shut_bool Tryz.underlying4 _) trodAll_mk0) (fun sp hs => trodAll_cons_mk (axz laid (by kernel_rfl) (of_decide_eq_true (by kernel_rfl)) h0 hL (fun p hp => hs p (by simp [hp]))) (trodAll_cons_mk (axz laid (by kernel_rfl) (of_decide_eq_true (by kernel_rfl)) h1 hL (fun p hp => hs p (by simp [hp]))) (trodAll_cons_mk (axz laid (by kernel_rfl) (of_decide_eq_true (by kernel_rfl)) h2 hL (fun p hp => hs p (by simp [hp]))) trodAll_mk0))) (fun _ _ => rfl) (by simp)
    (hL.kept _) hL.2.2.1 (ok_one (by kernel_rfl) rfl (okWide_bool_mk Tryz.underlying4 _))⟩

set_option maxHeartbeats 0 in
theorem closed : joinedFacts Tryz.pinned.checked.prog 7 Tryz.f7 (Rows.OpenSpec.upto Rows.parserSpacesSpec).bare Rows.parserSpacesUptoRow = true := by
  unfold joinedFacts
  simp only [Bool.and_eq_true]
  refine ⟨⟨⟨⟨⟨⟨⟨⟨⟨⟨⟨⟨⟨⟨⟨⟨⟨⟨⟨⟨⟨⟨⟨⟨⟨⟨⟨⟨⟨⟨⟨?_, ?_⟩, ?_⟩, ?_⟩, ?_⟩, ?_⟩, ?_⟩, ?_⟩, ?_⟩, ?_⟩, ?_⟩, ?_⟩, ?_⟩, ?_⟩, ?_⟩, ?_⟩, ?_⟩, ?_⟩, ?_⟩, ?_⟩, ?_⟩, ?_⟩, ?_⟩, ?_⟩, ?_⟩, ?_⟩, ?_⟩, ?_⟩, ?_⟩, ?_⟩, ?_⟩, ?_⟩ <;> as_aux_lemma => kernel_rfl
theorem reads (os : Os) {H : Type} (enc : TypeId × Value → H) : ∃ places, DataW.whole enc Tryz.prog ((afC os).forCall (fun _ _ => 0) ⟨#[], #[.string .empty, .slice none 0 0, .int .u8 0], []⟩).memory Tryz.f7.params.toList Rows.parserSpacesSpec.vars false (#[.string .empty, .slice none 0 0, .int .u8 0] : Array Value).toList 8 = some ([.lit (.string []), .nil, .lit (.int .u8 0)], [], places) :=
  ⟨[], by kernel_rfl⟩
theorem lifted (os : Os) (started : os.Started) (H : Type) (enc : TypeId × Value → H) (F : Stop.Interp) :
    ReturnsInHanded {} Tryz.checked os 7 .any ((Rows.OpenSpec.upto Rows.parserSpacesSpec).preRow enc Tryz.prog Tryz.f7 Rows.parserSpacesUptoRow.domain false Rows.parserSpacesUptoRow.laid) (((Rows.OpenSpec.upto Rows.parserSpacesSpec).at F).post enc Tryz.prog Tryz.f7 false true false false) := by
  obtain ⟨places, hx⟩ := reads os enc
  refine returnsInHanded_of_row (C := Tryz.checked) (s := Rows.OpenSpec.upto Rows.parserSpacesSpec) own started (by kernel_rfl) Tryz.func7
    (witness_row_atRef (enc := enc) (C := Tryz.checked) false (afC os) #[.string .empty, .slice none 0 0, .int .u8 0] (auw os) (by kernel_rfl) (by kernel_rfl) (by kernel_rfl)
      (OpenSpec.preRow_of_cond 8 hx (by kernel_rfl) (fun k hk => by cases hk; kernel_rfl) (by kernel_rfl) (ay1 os _))) ?_
  intro W base args ds gs before hval hW _ ahP _ hlaid hsh _
  exact contract H enc W base args ds gs before hval hW (ahP _ rfl) hsh hlaid

theorem saidUpto : Rows.ParserSpacesUptoSaid :=
  OpenClaim.holds_of_cond 7 Tryz.f7 rfl rfl rfl rfl rfl rfl rfl ⟨rfl, rfl, rfl, rfl, rfl⟩ rfl rfl rfl rfl rfl (by kernel_rfl) Tryz.func7 closed
    (of_decide_eq_true (by kernel_rfl)) (by unfold Func.isWrapper; first | (rw [if_pos (by decide +kernel)]; kernel_rfl) | (rw [if_neg (by decide +kernel)]; exact ⟨rfl, rfl⟩))
    (fun os started H enc _ F => by rw [OpenClaim.pre_eq_preRow]; exact lifted os started H enc F)
theorem plain (f : FuncId) (fn : Func) (hf : Tryz.pinned.checked.prog.funcNamed "euclid/euclidlaw26.ParserSpaces" = some f) (hfn : Tryz.pinned.checked.prog.funcs[f]? = some fn) :
    true = Tryz.pinned.checked.prog.looks [] ∧ ∀ (j : Nat) t, fn.params[j]? = some t → Tryz.pinned.checked.prog.wantsStandIn t = false := by
  obtain rfl : f = 7 := Option.some.inj ((show Tryz.prog.funcNamed "euclid/euclidlaw26.ParserSpaces" = some 7 by kernel_rfl).symm.trans hf) |>.symm
  obtain rfl : fn = Tryz.f7 := (Option.some.inj (Tryz.func7.symm.trans hfn)).symm
  refine ⟨by kernel_rfl, fun j t ht => ?_⟩
  rw [Tryz.params7] at ht
  have hm : t = 9 ∨ t = 22 ∨ t = 5 := by simpa using Array.mem_of_getElem? ht
  rcases hm with rfl | rfl | rfl
  · exact (show Tryz.prog.wantsStandIn 9 = false by kernel_rfl)
  · exact (show Tryz.prog.wantsStandIn 22 = false by kernel_rfl)
  · exact (show Tryz.prog.wantsStandIn 5 = false by kernel_rfl)
theorem proved : Rows.ParserSpacesUptoCardSaid :=
  Claim7.holds_tied_plain_at .later [] _ _ _ _ saidUpto (fun _ h => by cases h) (by kernel_rfl) (fun _ h => by cases h) parserSpacesUpto_row_tie rfl ⟨rfl, rfl⟩ (by kernel_rfl) rfl plain (by kernel_rfl)
end Go.Proofs.YtdkeelhebopgkaaGreatDoor.parserSpaces
