/- One more notation, none of whose symbols occurs in a source, does not change how it is read -/
import Derived.Test.YtpdbjkgnmjnebaaGreatDoorReadA
import Derived.Test.YtpdbjkgnmjnebaaGreatDoorLawA
import Derived.Test.YtpdbjkgnmjnebaaGreatDoorLawB
set_option linter.all false
namespace Go.Proofs.YtpdbjkgnmjnebaaGreatDoor.topNotationsApart
open Go.ChangeShapes Go.WideShapes Go.ChangeAt Go.RowKit Go.Abs
set_option linter.unusedVariables false
set_option maxRecDepth 100000

theorem own : ownKnob Tryz.prog.godebug = none := by kernel_rfl
theorem laid : laidOutB Tryz.prog = true := by kernel_rfl

theorem contract (H : Type) (enc : TypeId × Value → H) (aJx : World) (base : Nat) (args : Array Value) (ds gs : List (DataW H)) (before : List MemPlace)
    (hval : ∀ (j : Nat) t v, Tryz.f3.params[j]? = some t → args[j]? = some v → Value.okWide Tryz.prog aJx .any base t v)
    (hW : DataW.Whole enc Tryz.prog Tryz.f3.params.toList Rows.topNotationsApartSpec.vars false aJx args.toList ds gs before) (hk : Rows.uptoSmall H (ds ++ gs) = true) (hsh : aJx.ShapedOpen Tryz.prog) (hl : laidMetH Tryz.prog Rows.topNotationsApartRow.laid aJx) :
    Calls Tryz.prog 3 args aJx fun e aJy => ∃ v, e = .returned v ∧ Rows.topNotationsApartSpec.post enc Tryz.prog Tryz.f3 false true false false aJx args v aJy := by
  have hW' := hW
  obtain ⟨p, q, hA0, hV, rfl, hfz, hnd⟩ := hW
  have hA : DataW.TrodAll enc Tryz.prog aJx 0 (fun _ => true) true Tryz.f3.params.toList args.toList ds p := hA0
  rw [Tryz.params3] at hA hval
  obtain ⟨v0, vs0, d0, ds0, p0, q0, hargs0, rfl, rfl, h0, r0⟩ := trodAll_cons hA
  obtain ⟨v1, vs1, d1, ds1, p1, q1, hargs1, rfl, rfl, h1, r1⟩ := trodAll_cons r0
  obtain ⟨v2, vs2, d2, ds2, p2, q2, hargs2, rfl, rfl, h2, r2⟩ := trodAll_cons r1
  obtain ⟨rfl, rfl, rfl⟩ := trodAll_nil r2
  obtain rfl : args = #[v0, v1, v2] := by cases args; simp_all
  obtain ⟨rfl, rfl⟩ := trodVars_none hV
  clear hA0
  simp only [List.append_nil] at hW' hk
  have hb : Rows.uptoBulkAll [d0, d1, d2] ≤ 1048576 := of_decide_eq_true hk
  simp only [Rows.uptoBulkAll] at hb
  obtain ⟨x0, aDA, b0, wf0⟩ := aG6 (e := (fun m : Str => .str (sb m))) (bk := (fun m : Str => m.length + 1)) (wf := (fun _ => True)) (aDm (by kernel_rfl) (hval 0 9 v0 rfl rfl)) h0 (fun n cs x h => azn (by kernel_rfl) h)
  have b0 : (fun m : Str => m.length + 1) x0 ≤ Rows.uptoBulk d0 := b0
  simp only at b0
  obtain ⟨x1, rep1, b1, wf1⟩ := aG6 (e := (fun xs : List jI => .kW false 4 (mp jI.cells xs))) (bk := (adl jI.ard)) (wf := (fun xs : List jI => ∀ y ∈ xs, y.wf)) (aER (e := 25) (by kernel_rfl) (hval 1 22 v1 rfl rfl)) h1 (fun n cs x h => azo (e := 25) (sz := 4) (enc := jI.cells) (bk := jI.ard) (wf := jI.wf) (by kernel_rfl) (by kernel_rfl) (by decide) jI.length (fun k hk cs x h => jI.read k cs x h) h)
  have b1 : (adl jI.ard) x1 ≤ Rows.uptoBulk d1 := b1
  obtain ⟨x2, rep2, b2, wf2⟩ := aEQ (fs := Tryz.prog.fieldsOf 25) (by kernel_rfl) (hval 2 25 v2 rfl rfl) h2 (fun n cs x h => jI.read n cs x h)
  obtain ⟨n, hn⟩ := aiU x0 x1 x2 (by omega) wf0 wf1 wf2
  have ui : ko (aoz Tryz.prog aJx) [mq.enc x0, (l8 jI.row).enc x1, (lD jI.kv).enc x2] (#[v0, v1, v2] : Array Value).toList := ⟨v0, [v1, v2], rfl, aDA, v1, [v2], rfl, rep1, v2, [], rfl, rep2, rfl⟩
  refine (aCl (aIP hsh hl) (al3 n x0 x1 x2 true hn) ui).mono fun e aJy ⟨v, U', he, hv, hL⟩ => ?_
  subst he
  have hv : v = .bool true := hv
  subst hv
  exact ⟨_, rfl, aAe (pa := p0 ++ (p1 ++ (p2 ++ []))) (pv := []) hW' (fun _ _ _ => trodAll_cons_mk (shut_bool Tryz.underlying4 _) trodAll_mk0) (fun sp hs => trodAll_cons_mk (aFo laid (by kernel_rfl) (of_decide_eq_true (by kernel_rfl)) h0 hL (fun p hp => hs p (by simp [hp]))) (trodAll_cons_mk (aFo laid (by kernel_rfl) (of_decide_eq_true (by kernel_rfl)) h1 hL (fun p hp => hs p (by simp [hp]))) (trodAll_cons_mk (aFo laid (by kernel_rfl) (of_decide_eq_true (by kernel_rfl)) h2 hL (fun p hp => hs p (by simp [hp]))) trodAll_mk0))) (fun _ _ => rfl) (by simp)
    (hL.kept _) hL.2.2.1 (ok_one (by kernel_rfl) rfl (okWide_bool_mk Tryz.underlying4 _))⟩

set_option maxHeartbeats 0 in
theorem closed : joinedFacts Tryz.pinned.checked.prog 3 Tryz.f3 (Rows.OpenSpec.upto Rows.topNotationsApartSpec).bare Rows.topNotationsApartUptoRow = true := by
  unfold joinedFacts
  simp only [Bool.and_eq_true]
  refine ⟨⟨⟨⟨⟨⟨⟨⟨⟨⟨⟨⟨⟨⟨⟨⟨⟨⟨⟨⟨⟨⟨⟨⟨⟨⟨⟨⟨⟨⟨⟨?_, ?_⟩, ?_⟩, ?_⟩, ?_⟩, ?_⟩, ?_⟩, ?_⟩, ?_⟩, ?_⟩, ?_⟩, ?_⟩, ?_⟩, ?_⟩, ?_⟩, ?_⟩, ?_⟩, ?_⟩, ?_⟩, ?_⟩, ?_⟩, ?_⟩, ?_⟩, ?_⟩, ?_⟩, ?_⟩, ?_⟩, ?_⟩, ?_⟩, ?_⟩, ?_⟩, ?_⟩ <;> as_aux_lemma => kernel_rfl
theorem reads (os : Os) {H : Type} (enc : TypeId × Value → H) : ∃ places, DataW.whole enc Tryz.prog ((am1 os).forCall (fun _ _ => 0) ⟨#[], #[.string .empty, .slice none 0 0, .agg #[.slice none 0 0, .int .i64 0, .int .i64 0, .string .empty]], []⟩).memory Tryz.f3.params.toList Rows.topNotationsApartSpec.vars false (#[.string .empty, .slice none 0 0, .agg #[.slice none 0 0, .int .i64 0, .int .i64 0, .string .empty]] : Array Value).toList 8 = some ([.lit (.string []), .nil, .agg [.nil, .lit (.int .i64 0), .lit (.int .i64 0), .lit (.string [])]], [], places) :=
  ⟨[], by kernel_rfl⟩
theorem lifted (os : Os) (started : os.Started) (H : Type) (enc : TypeId × Value → H) (F : Stop.Interp) :
    ReturnsInHanded {} Tryz.checked os 3 .any ((Rows.OpenSpec.upto Rows.topNotationsApartSpec).preRow enc Tryz.prog Tryz.f3 Rows.topNotationsApartUptoRow.domain false Rows.topNotationsApartUptoRow.laid) (((Rows.OpenSpec.upto Rows.topNotationsApartSpec).at F).post enc Tryz.prog Tryz.f3 false true false false) := by
  obtain ⟨places, hx⟩ := reads os enc
  refine returnsInHanded_of_row (C := Tryz.checked) (s := Rows.OpenSpec.upto Rows.topNotationsApartSpec) own started (by kernel_rfl) Tryz.func3
    (witness_row_atRef (enc := enc) (C := Tryz.checked) false (am1 os) #[.string .empty, .slice none 0 0, .agg #[.slice none 0 0, .int .i64 0, .int .i64 0, .string .empty]] (aCm os) (by kernel_rfl) (by kernel_rfl) (by kernel_rfl)
      (OpenSpec.preRow_of_cond 8 hx (by kernel_rfl) (fun k hk => by cases hk; kernel_rfl) (by kernel_rfl) (aG8 os _))) ?_
  intro aJx base args ds gs before hval hW _ apb _ hlaid hsh _
  exact contract H enc aJx base args ds gs before hval hW (apb _ rfl) hsh hlaid

theorem saidUpto : Rows.TopNotationsApartUptoSaid :=
  OpenClaim.holds_of_cond 3 Tryz.f3 rfl rfl rfl rfl rfl rfl rfl ⟨rfl, rfl, rfl, rfl, rfl⟩ rfl rfl rfl rfl rfl (by kernel_rfl) Tryz.func3 closed
    (of_decide_eq_true (by kernel_rfl)) (by unfold Func.isWrapper; first | (rw [if_pos (by decide +kernel)]; kernel_rfl) | (rw [if_neg (by decide +kernel)]; exact ⟨rfl, rfl⟩))
    (fun os started H enc _ F => by rw [OpenClaim.pre_eq_preRow]; exact lifted os started H enc F)
theorem plain (f : FuncId) (fn : Func) (hf : Tryz.pinned.checked.prog.funcNamed "euclid/euclidtop.TopNotationsApart" = some f) (hfn : Tryz.pinned.checked.prog.funcs[f]? = some fn) :
    true = Tryz.pinned.checked.prog.looks [] ∧ ∀ (j : Nat) t, fn.params[j]? = some t → Tryz.pinned.checked.prog.wantsStandIn t = false := by
  obtain rfl : f = 3 := Option.some.inj ((show Tryz.prog.funcNamed "euclid/euclidtop.TopNotationsApart" = some 3 by kernel_rfl).symm.trans hf) |>.symm
  obtain rfl : fn = Tryz.f3 := (Option.some.inj (Tryz.func3.symm.trans hfn)).symm
  refine ⟨by kernel_rfl, fun j t ht => ?_⟩
  rw [Tryz.params3] at ht
  have hm : t = 9 ∨ t = 22 ∨ t = 25 := by simpa using Array.mem_of_getElem? ht
  rcases hm with rfl | rfl | rfl
  · exact (show Tryz.prog.wantsStandIn 9 = false by kernel_rfl)
  · exact (show Tryz.prog.wantsStandIn 22 = false by kernel_rfl)
  · exact (show Tryz.prog.wantsStandIn 25 = false by kernel_rfl)
theorem proved : Rows.TopNotationsApartUptoCardSaid :=
  Claim7.holds_tied_plain_at .later [] _ _ _ _ saidUpto (fun _ h => by cases h) (by kernel_rfl) (fun _ h => by cases h) topNotationsApartUpto_row_tie rfl ⟨rfl, rfl⟩ (by kernel_rfl) rfl plain (by kernel_rfl)
end Go.Proofs.YtpdbjkgnmjnebaaGreatDoor.topNotationsApart
