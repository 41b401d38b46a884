/- A part of the proof: abstract states and the rules for them. -/
import Derived.Test.YtocalpbkeegkbaaCoreA
import Derived.RangeFuncLeaves
set_option linter.all false
namespace Go.Abs

def FnC (P : Program) (f : FuncId) (args : List AV) (V : AV → Prop) : Prop :=
  enters P f = true ∧ nbL 0 args ∧ ∀ (C : Ctx) (φ : Nat → Value) (w : World), C.P = P → C.w0 = w → C.N0 = 0 → (∀ b o, ¬ C.M0 b o) → ∀ vs : Array Value, RepL (C.env φ [] w) args vs.toList →
    Calls P f vs w fun e w' => ∃ r v φ', V r ∧ e = .returned v ∧ Rep (C.env φ' [] w') r v ∧ w.heap.size ≤ w'.heap.size ∧ (∀ b, b < w.heap.size → w'.heap[b]? = w.heap[b]?) ∧
      (∀ x, x.block < w.heap.size → w'.frozen? x = w.frozen? x) ∧ w'.output = w.output ∧ w'.os = w.os

section grown
variable {C : Ctx} {φ : Nat → Value} {σ : AState} {a : Act} {w w' : World}

theorem cell_of_heap (hh : ∀ b, b < w.heap.size → w'.heap[b]? = w.heap[b]?) {b o : Nat} (hb : b < w.heap.size) : w'.cell? ⟨b, o, none⟩ = w.cell? ⟨b, o, none⟩ := by
  simp only [World.cell?, hh b hb]

theorem Sim.grown (S : Sim C φ σ a w) (hs : w.heap.size ≤ w'.heap.size) (hh : ∀ b, b < w.heap.size → w'.heap[b]? = w.heap[b]?) (hf : ∀ x, x.block < w.heap.size → w'.frozen? x = w.frozen? x) (hr : w'.output = w.output ∧ w'.os = w.os) :
    Sim C φ σ a w' := by
  have le : (C.env φ σ.heap w).Le σ.heap.length (C.env φ σ.heap w') :=
    Ctx.env_le (Nat.le_refl _) (fun _ _ => ⟨rfl, rfl⟩) (fun b o u hm hc => ⟨hm, by rw [cell_of_heap hh (cell_lt hc)]; exact hc⟩)
  refine { slots := RepL.mono le _ _ (RepL.nb _ _ S.slots) S.slots, defers := S.defers.same le hh, objs := ?_, apart := S.apart, notA := S.notA, size := Nat.le_trans S.size hs, old := ?_, oldObj := ?_, inM := S.inM, froz := fun x hx => by rw [hf x (Nat.lt_of_lt_of_le hx S.size)]; exact S.froz x hx, rest := ⟨by rw [hr.1]; exact S.rest.1, by rw [hr.2]; exact S.rest.2⟩, low := S.low, names := S.names }
  · intro l x hx
    have r := S.objs l x hx
    exact ObjRep.mono r le (fun b hb => hh b (r.block_lt hb))
  · intro b o hb hm; rw [cell_of_heap hh (Nat.lt_of_lt_of_le hb S.size)]; exact S.old b o hb hm
  · intro b hb hm; rw [hh b (Nat.lt_of_lt_of_le hb S.size)]; exact S.oldObj b hb hm

def Sim.callee (S : Sim C φ σ a w) : Ctx :=
  { P := C.P, w0 := w, M0 := fun _ _ => False, A := fun b o => Mut φ σ.heap b o ∨ C.A b o,
    hA := by
      rintro b o (⟨l, x, hx, hm⟩ | hA)
      · exact (S.objs l x hx).block_lt (AObj.block_of_muts hm)
      · exact Nat.lt_of_lt_of_le (C.hA b o hA) S.size
    hk := fun b o h => let ⟨v, h1, h2, _⟩ := S.know b o h; ⟨v, h1, h2, fun f => f⟩ }

theorem Sim.callee_le (S : Sim C φ σ a w) (φ' : Nat → Value) (w1 : World) : (C.env φ σ.heap w1).Le 0 (S.callee.env φ' [] w1) := by
  refine ⟨Nat.zero_le _, fun l hl => absurd hl (Nat.not_lt_zero _), fun b o u hm hc => ⟨?_, hc⟩⟩
  simp only [Ctx.env, Sim.callee] at hm ⊢
  rintro (⟨l, x, hx, _⟩ | h)
  · simp at hx
  · exact hm h

theorem Sim.callee_ge (S : Sim C φ σ a w) (φ' : Nat → Value) (w1 : World) : (S.callee.env φ' [] w1).Le 0 (C.env φ σ.heap w1) := by
  refine ⟨Nat.zero_le _, fun l hl => absurd hl (Nat.not_lt_zero _), fun b o u hm hc => ⟨?_, hc⟩⟩
  simp only [Ctx.env, Sim.callee] at hm ⊢
  exact fun h => hm (.inr h)

theorem callA_of_fnC {P : Program} {f : FuncId} {args : List AV} {V : AV → Prop} {K : AOut → List AObj → Prop} (h : FnC P f args V) (hK : ∀ r, V r → K (.ret r) σ.heap) : CallA P f args σ K := by
  obtain ⟨he, hn, hc⟩ := h
  refine ⟨he, fun C φ a w hP S vs hr => ?_⟩
  refine (hc S.callee φ w hP rfl rfl (fun _ _ h => h) vs (RepL.mono (S.callee_le φ w) _ _ hn hr)).mono ?_
  rintro e w' ⟨r, v, φ', hV, rfl, rep, hs, hh, hf, ho⟩
  refine ⟨.ret r, φ, σ.heap, hK r hV, S.grown hs hh hf ho, ?_⟩
  exact Rep.mono (S.callee_ge φ' w') _ _ (Rep.nb _ _ rep) rep

theorem FnC.mono {P : Program} {f : FuncId} {args : List AV} {V V' : AV → Prop} (h : FnC P f args V) (hv : ∀ r, V r → V' r) : FnC P f args V' := by
  obtain ⟨he, hn, hc⟩ := h
  refine ⟨he, hn, fun C φ w hP h0 hN hM vs hr => (hc C φ w hP h0 hN hM vs hr).mono ?_⟩
  rintro e w' ⟨r, v, φ', hV, rest⟩
  exact ⟨r, v, φ', hv r hV, rest⟩

end grown

section loc
variable {P : Program} {σ σ' : AState}

theorem mem_operands_call {c : Call} {x : Operand} (h : x ∈ c.args) : x ∈ (Op.call c).operands := by
  simp only [Op.operands, Call.operands, Array.mem_append]; exact .inr h

theorem bound_congr {d : Nat} {x : Option Operand} (h : ∀ y, x = some y → σ'.ev y = σ.ev y) : bound σ' d x = bound σ d x := by
  cases x with
  | none => rfl
  | some y => simp only [bound, h y rfl]

theorem vwL_local {H H' : List AObj} : ∀ {cs ds : List AV} {ns : List Nat}, vwL H cs = some (ds, ns) → (∀ l ∈ ns, H'[l]? = H[l]?) → vwL H' cs = some (ds, ns)
  | [], _, _, h, _ => by simp only [vwL] at h ⊢; exact h
  | c :: cs, ds, ns, h, hr => by
    unfold vwL at h ⊢
    split at h
    · cases ‹_ :: _ = []›
    · rename_i l n cs' heq
      simp only [List.cons.injEq] at heq
      obtain ⟨rfl, rfl⟩ := heq
      split at h
      · rename_i imm sz rows hl
        split at h
        · rename_i hn
          split at h
          · rename_i es ms he
            simp only [Option.some.injEq, Prod.mk.injEq] at h
            obtain ⟨rfl, rfl⟩ := h
            have := vwL_local he (fun k hk => hr k (by simp [hk]))
            simp only [hr l (by simp), hl, hn, if_true, this]
          · cases h
        · cases h
      · cases h
    · rename_i c' cs' hne heq
      simp only [List.cons.injEq] at heq
      obtain ⟨rfl, rfl⟩ := heq
      split at h
      · rename_i es ms he
        simp only [Option.some.injEq, Prod.mk.injEq] at h
        obtain ⟨rfl, rfl⟩ := h
        have := vwL_local he hr
        cases c <;> first | (simp only [this]; done) | exact (hne _ _ rfl).elim
      · cases h
theorem vwL_lt {H : List AObj} : ∀ {cs ds : List AV} {ns : List Nat}, vwL H cs = some (ds, ns) → ∀ l ∈ ns, l < H.length
  | [], _, _, h => by simp only [vwL, Option.some.injEq, Prod.mk.injEq] at h; obtain ⟨_, rfl⟩ := h; simp
  | c :: cs, ds, ns, h => by
    unfold vwL at h
    split at h
    · cases ‹_ :: _ = []›
    · rename_i l n cs' heq
      simp only [List.cons.injEq] at heq
      obtain ⟨rfl, rfl⟩ := heq
      split at h
      · rename_i imm sz rows hl
        split at h
        · split at h
          · rename_i es ms he
            simp only [Option.some.injEq, Prod.mk.injEq] at h
            obtain ⟨_, rfl⟩ := h
            intro k hk
            simp only [List.mem_cons] at hk
            rcases hk with rfl | hk
            · exact (List.getElem?_eq_some_iff.1 hl).1
            · exact vwL_lt he k hk
          · cases h
        · cases h
      · cases h
    · rename_i c' cs' hne heq
      simp only [List.cons.injEq] at heq
      obtain ⟨rfl, rfl⟩ := heq
      split at h
      · rename_i es ms he
        simp only [Option.some.injEq, Prod.mk.injEq] at h
        obtain ⟨_, rfl⟩ := h
        exact vwL_lt he
      · cases h
theorem ldV_local {H H' : List AObj} {l : Nat} {v : AV} {e : Eff} (h : ldV H l v = some e) (hr : ∀ k ∈ e.rd, H'[k]? = H[k]?) : ldV H' l v = some e := by
  unfold ldV at h ⊢
  split at h
  · split at h
    · rename_i ds ns he
      cases h
      rw [vwL_local he (fun k hk => hr k (by simp [hk]))]
    · cases h
  · exact h
theorem ldV_rd {H : List AObj} {l : Nat} {v : AV} {e : Eff} (h : ldV H l v = some e) : l ∈ e.rd ∧ e.up = [] ∧ ∀ k ∈ e.rd, k = l ∨ k < H.length := by
  unfold ldV at h
  split at h
  · split at h
    · rename_i ds ns he
      cases h
      refine ⟨by simp, rfl, fun k hk => ?_⟩
      simp only [List.mem_cons] at hk
      rcases hk with rfl | hk
      · exact .inl rfl
      · exact .inr (vwL_lt he k hk)
    · cases h
  · cases h
    exact ⟨by simp, rfl, fun k hk => by simp at hk; exact .inl hk⟩

theorem opEff_local {o : Op} {e : Eff} (h : opEff P σ o = some e) (hev : ∀ x ∈ o.operands, σ'.ev x = σ.ev x) (hrd : ∀ l ∈ e.rd, σ'.heap[l]? = σ.heap[l]?) (hnw : e.nw ≠ [] → σ'.heap.length = σ.heap.length) :
    opEff P σ' o = some e := by
  cases o with
  | move x => simp only [opEff] at h ⊢; rw [hev x (by simp [Op.operands])]; exact h
  | assign x => simp only [opEff] at h ⊢; rw [hev x (by simp [Op.operands])]; exact h
  | pick c x y => simp only [opEff] at h ⊢; rw [hev c (by simp [Op.operands]), hev x (by simp [Op.operands]), hev y (by simp [Op.operands])]; exact h
  | alloc t =>
    simp only [opEff] at h ⊢
    split at h
    · cases h; rw [hnw (by simp)]
    · cases h
  | box t x =>
    simp only [opEff] at h ⊢
    rw [hev x (by simp [Op.operands])]
    split at h
    · cases h; rw [hnw (by simp)]
    · cases h
  | build t parts =>
    simp only [opEff] at h ⊢
    have : (parts.toList.map fun p => (p.1, σ'.ev p.2)) = (parts.toList.map fun p => (p.1, σ.ev p.2)) := by
      apply List.map_congr_left
      intro p hp
      rw [hev p.2 (by simp only [Op.operands, List.mem_toArray, List.mem_map]; exact ⟨p, hp, rfl⟩)]
    rw [this]; exact h
  | buildSlice t len parts =>
    simp only [opEff] at h ⊢
    have : (parts.toList.map fun p => (p.1, σ'.ev p.2)) = (parts.toList.map fun p => (p.1, σ.ev p.2)) := by
      apply List.map_congr_left
      intro p hp
      rw [hev p.2 (by simp only [Op.operands, List.mem_toArray, List.mem_map]; exact ⟨p, hp, rfl⟩)]
    rw [this]; exact h
  | load t x =>
    simp only [opEff] at h ⊢
    rw [hev x (by simp [Op.operands])]
    split at h
    · rename_i g n l off ht hx
      split at h
      · rename_i cs hl
        split at h
        · rename_i v hv
          rw [hrd l (ldV_rd h).1, hl]; simp only [hv]
          exact ldV_local h hrd
        · cases h
      · cases h
    · exact h
    · rename_i g n l i m o' sz ht hx
      split at h
      · rename_i sz' rows hl
        split at h
        · rename_i hc
          split at h
          · rename_i r hr
            split at h
            · rename_i v hv
              cases h
              rw [hrd l (by simp), hl]; simp only [hc, and_self, if_true, hr, hv]
            · cases h
          · cases h
        · cases h
      · cases h
    · exact h
    · cases h
  | store t x y =>
    simp only [opEff] at h ⊢
    rw [hev x (by simp [Op.operands]), hev y (by simp [Op.operands])]
    split at h
    · rename_i g n l off ys ht hx hy
      split at h
      · rename_i cs hl
        split at h
        · rename_i hc
          cases h
          rw [hrd l (by simp), hl]; simp only [hc, and_self, if_true]
        · cases h
      · cases h
    · rename_i g n l i m o' sz ys ht hx hy
      split at h
      · rename_i sz' rows hl
        split at h
        · rename_i hc
          split at h
          · rename_i r hr
            split at h
            · rename_i hc2
              cases h
              rw [hrd l (by simp), hl]; simp only [hc, hc2, and_self, if_true, hr]
            · cases h
          · cases h
        · cases h
      · cases h
    · cases h
  | nilCheck x => simp only [opEff] at h ⊢; rw [hev x (by simp [Op.operands])]; exact h
  | binOp op t x y ty => simp only [opEff] at h ⊢; rw [hev x (by simp [Op.operands]), hev y (by simp [Op.operands])]; exact h
  | unOp op t x => simp only [opEff] at h ⊢; rw [hev x (by simp [Op.operands])]; exact h
  | convert s d x => simp only [opEff] at h ⊢; rw [hev x (by simp [Op.operands])]; exact h
  | makeInterface t x => simp only [opEff] at h ⊢; rw [hev x (by simp [Op.operands])]; exact h
  | makeFunc fn f c =>
    simp only [opEff] at h ⊢
    have e1 : f.toList.map σ'.ev = f.toList.map σ.ev := List.map_congr_left fun x hx => hev x (by simp only [Op.operands, Array.mem_append]; exact .inl (by simpa using hx))
    have e2 : c.toList.map σ'.ev = c.toList.map σ.ev := List.map_congr_left fun x hx => hev x (by simp only [Op.operands, Array.mem_append]; exact .inr (by simpa using hx))
    rw [e1, e2]; exact h
  | makeSlice t x y =>
    simp only [opEff] at h ⊢
    rw [hev x (by simp [Op.operands]), hev y (by simp [Op.operands])]
    split at h
    · split at h
      · split at h
        · rename_i hc
          cases h
          rw [if_pos hc, hnw (by simp)]
        · cases h
      · cases h
    · cases h
  | slice t x lo hi mx =>
    simp only [opEff] at h ⊢
    have hx := hev x (by simp [Op.operands])
    have h1 : ∀ d, bound σ' d lo = bound σ d lo := fun d => bound_congr fun y hy => hev y (by simp [Op.operands, hy])
    have h2 : ∀ d, bound σ' d hi = bound σ d hi := fun d => bound_congr fun y hy => hev y (by simp [Op.operands, hy])
    have h3 : ∀ d, bound σ' d mx = bound σ d mx := fun d => bound_congr fun y hy => hev y (by simp [Op.operands, hy])
    rw [hx]
    simp only [sliceAV, h1, h2, h3] at h ⊢
    split at h
    · split at h
      · cases h
      · rename_i hmx
        rw [if_neg hmx]
        split at h
        · exact h
        · split at h
          · rename_i hl
            split at h
            · rename_i hb1 hb2 hb3
              split at h
              · rename_i hc
                cases h
                rw [hrd _ (by simp), hl]
                simp only [hb1, hb2, hb3]
                rw [if_pos hc]
              · cases h
            · cases h
          · cases h
        · cases h
    · exact h
  | fieldAddr t x i => simp only [opEff] at h ⊢; rw [hev x (by simp [Op.operands])]; exact h
  | field t x i => simp only [opEff] at h ⊢; rw [hev x (by simp [Op.operands])]; exact h
  | indexAddr t x i =>
    simp only [opEff] at h ⊢
    rw [hev x (by simp [Op.operands]), hev i (by simp [Op.operands])]
    split at h
    · split at h
      · exact h
      · split at h
        · rename_i hl
          split at h
          · rename_i hc
            split at h
            · rename_i hr
              cases h
              rw [hrd _ (by simp), hl]
              simp only [hr]
              rw [if_pos hc]
            · cases h
          · cases h
        · rename_i hl
          split at h
          · rename_i hc
            cases h
            rw [hrd _ (by simp), hl]
            simp only
            rw [if_pos hc]
          · cases h
        · cases h
      · cases h
    · exact h
  | index t x i => simp only [opEff] at h ⊢; rw [hev x (by simp [Op.operands]), hev i (by simp [Op.operands])]; exact h
  | extract x i => simp only [opEff] at h ⊢; rw [hev x (by simp [Op.operands])]; exact h
  | call c =>
    obtain ⟨cl, args, ts⟩ := c
    cases cl with
    | builtin b =>
      simp only [opEff] at h ⊢
      have e1 : args.toList.map σ'.ev = args.toList.map σ.ev := List.map_congr_left fun x hx => hev x (mem_operands_call (by simpa using hx))
      rw [e1]
      revert h
      generalize args.toList.map σ.ev = xs
      generalize ts.toList = tl
      intro h
      unfold builtinEff at h ⊢
      split at h
      · rename_i t x
        unfold lenAV at h ⊢
        split at h
        · exact h
        · exact h
        · split at h
          · rename_i ht
            rw [if_pos ht]
            split at h
            · rename_i hl
              split at h
              · rename_i hn
                cases h
                rw [hrd _ (by simp), hl]; simp [hn]
              · cases h
            · cases h
          · cases h
        · cases h
      · rename_i t u x y
        split at h
        · rename_i et sz by' ht hu
          split at h
          · split at h
            · rename_i hc
              rw [if_pos hc]
              unfold appendAV at h ⊢
              split at h
              · cases h
              · rename_i rd ys hsrc
                have hsub : ∀ l ∈ rd, l ∈ e.rd := by
                  split at h
                  · split at h
                    · split at h
                      · cases h; intro l hl; simp [hl]
                      · cases h
                    · cases h
                  · split at h
                    · split at h
                      · cases h; intro l hl; exact hl
                      · cases h; intro l hl; exact hl
                    · cases h
                  · cases h
                have hsrc' : srcRows σ' sz y = some (rd, ys) := by
                  unfold srcRows at hsrc ⊢
                  split at hsrc
                  · exact hsrc
                  · split at hsrc
                    · rename_i hl
                      split at hsrc
                      · rename_i hc
                        cases hsrc
                        rw [hrd _ (hsub _ (by simp)), hl]; simp [hc]
                      · cases hsrc
                    · cases hsrc
                  · exact hsrc
                  · cases hsrc
                rw [hsrc']
                simp only
                split at h
                · split at h
                  · rename_i hl
                    split at h
                    · rename_i hc'
                      cases h
                      rw [hrd _ (by simp), hl]; simp [hc']
                    · cases h
                  · cases h
                · split at h
                  · rename_i hc'
                    rw [if_pos hc']
                    split at h
                    · rename_i hc2
                      cases h
                      rw [if_pos hc2, hnw (by simp)]
                    · rename_i hc2
                      cases h
                      rw [if_neg hc2]
                  · cases h
                · cases h
            · cases h
          · cases h
        · cases h
      · exact h
      · exact h
      · cases h
    | value f => cases h
    | invoke r m => cases h
  | makeMap t r =>
    cases r with
    | some r => cases h
    | none => cases h; simp only [opEff]; rw [hnw (by simp)]
  | typeAssert x u t ok =>
    cases ok with
    | false => cases h
    | true => simp only [opEff] at h ⊢; rw [hev x (by simp [Op.operands])]; exact h
  | lookup t x k ok =>
    cases ok with
    | true =>
      simp only [opEff] at h ⊢
      rw [hev x (by simp [Op.operands]), hev k (by simp [Op.operands])]
      split at h
      · rename_i z l s ht hx' hk'
        unfold lookOk at h ⊢
        split at h
        · rename_i es hl
          split at h
          · rename_i hs
            cases h
            rw [hrd l (by cases mapFind s es <;> simp [lookV]), hl]; simp [hs]
          · cases h
        · cases h
      · cases h
    | false =>
      simp only [opEff] at h ⊢
      rw [hev x (by simp [Op.operands]), hev k (by simp [Op.operands])]
      split at h
      · rename_i z l s ht hx' hk'
        unfold lookEff at h ⊢
        split at h
        · rename_i es hl
          split at h
          · rename_i hs
            cases h
            rw [hrd l (by simp), hl]; simp [hs]
          · cases h
        · cases h
      · cases h
  | range t x =>
    simp only [opEff] at h ⊢
    rw [hev x (by simp [Op.operands])]
    split at h
    · cases h; rw [hnw (by simp)]
    · cases h
  | next x st =>
    cases st with
    | false => cases h
    | true =>
      simp only [opEff] at h ⊢
      rw [hev x (by simp [Op.operands])]
      split at h
      · rename_i l hv
        unfold nextEff at h ⊢
        split at h
        · rename_i s p hl
          split at h
          · rename_i hp
            cases h
            rw [hrd l (by simp), hl]; simp [hp]
          · rename_i hp
            cases h
            rw [hrd l (by simp), hl]; simp [hp]
        · cases h
      · cases h
  | mapUpdate t x k y =>
    simp only [opEff] at h ⊢
    rw [hev x (by simp [Op.operands]), hev k (by simp [Op.operands]), hev y (by simp [Op.operands])]
    split at h
    · rename_i z l s ht hx' hk'
      unfold mapUpEff at h ⊢
      split at h
      · rename_i es hl
        split at h
        · rename_i hs
          cases h
          rw [hrd l (by simp), hl]; simp [hs]
        · cases h
      · cases h
    · cases h
  | insert t x k y =>
    simp only [opEff] at h ⊢
    rw [hev x (by simp [Op.operands]), hev k (by simp [Op.operands]), hev y (by simp [Op.operands])]
    split at h
    · rename_i z l s ht hx' hk'
      unfold mapUpEff at h ⊢
      split at h
      · rename_i es hl
        split at h
        · rename_i hs
          cases h
          rw [hrd l (by simp), hl]; simp [hs]
        · cases h
      · cases h
    · cases h
  | _ => cases h

end loc
end Go.Abs
namespace Go.Abs

def depsOf (o : Oper) : List Nat := (o.after.toList.filter (Region.binds .any)).map (·.on)

def reachM : List Oper → List Nat → List Nat
  | [], acc => acc
  | o :: os, acc => reachM os (acc ++ [(depsOf o).foldl (fun s d => s ||| 2 ^ d ||| acc.getD d 0) 0])

def orderedB (ops : Array Oper) (i j : Nat) : Bool := ((reachM ops.toList []).getD j 0).testBit i

def isCall : Op → Bool
  | .call { callee := .builtin _, .. } => false
  | .call _ => true
  | _ => false

def drawOK (ops : Array Oper) : Bool :=
  Region.noSelect ops &&
  (let r := reachM ops.toList []
   (List.range ops.size).all fun j => match ops[j]? with
    | none => true
    | some oj => (depsOf oj).all (· < j) && (List.range j).all fun i => match ops[i]? with
      | none => true
      | some oi => (r.getD j 0).testBit i || (oi.apart ops oj && !(isCall oi.op && isCall oj.op)))

structure Tr where
  j : Nat
  n : Nat
  e : Eff

def disjointB (a b : List Nat) : Bool := a.all fun x => !b.contains x

def indepB (t : Tr) (e : Eff) : Bool :=
  disjointB (t.e.up.map (·.1)) (e.rd ++ e.up.map (·.1)) && disjointB (e.up.map (·.1)) t.e.rd &&
  (t.e.nw.isEmpty || (e.nw.isEmpty && (e.rd ++ e.up.map (·.1)).all fun l => decide (l < t.n))) &&
  ((!t.e.whole || (e.up.isEmpty && e.nw.isEmpty)) && (!e.whole || (t.e.up.isEmpty && t.e.nw.isEmpty)))

def quiet : Op → Bool
  | .move _ | .assign _ | .pick _ _ _ | .load _ _ | .store _ _ _ | .binOp _ _ _ _ _ | .unOp _ _ _ | .fieldAddr _ _ _ | .field _ _ _ | .indexAddr _ _ _ | .index _ _ _ | .extract _ _ => true
  | _ => false
def plainAlloc (o : Oper) : Bool := (match o.op with | .alloc _ => true | _ => false) && o.guard.isNone
def twinB (ops : Array Oper) (i j : Nat) : Bool :=
  match ops[i]?, ops[j]? with
  | some oi, some oj => plainAlloc oi && plainAlloc oj && (depsOf oi).isEmpty && (depsOf oj).isEmpty && decide (i < j) &&
    (List.range ops.size).all fun k => k == i || k == j || (match ops[k]? with
      | none => true
      | some o => quiet o.op && (orderedB ops i k == orderedB ops j k))
  | _, _ => false
def ordB (ops : Array Oper) (i j : Nat) : Bool := orderedB ops i j || twinB ops i j

def compatB (ops : Array Oper) (tr : List Tr) (j : Nat) (e : Eff) : Bool := tr.all fun t => indepB t e || ordB ops t.j j

def CallL (P : Program) (f : FuncId) (args : List AV) (σ : AState) (e : Eff) : Prop :=
  ((∀ l ∈ e.rd, l < σ.heap.length) ∧ ∀ l ∈ e.up.map (·.1), l ∈ e.rd) ∧
  ∀ σ' : AState, (∀ l ∈ e.rd, σ'.heap[l]? = σ.heap[l]?) → (e.nw ≠ [] → σ'.heap.length = σ.heap.length) → (e.whole = true → σ'.heap = σ.heap) → CallA P f args σ' (fun o H' => o = .ret e.val ∧ H' = applyUps σ'.heap e.up ++ e.nw)
theorem CallL.move {P : Program} {f : FuncId} {args : List AV} {σ σ' : AState} {e : Eff} (h : CallL P f args σ e) (h1 : ∀ l ∈ e.rd, σ'.heap[l]? = σ.heap[l]?) (h2 : e.nw ≠ [] → σ'.heap.length = σ.heap.length) (h3 : e.whole = true → σ'.heap = σ.heap) : CallL P f args σ' e := by
  refine ⟨⟨fun l hl => ?_, h.1.2⟩, fun σ2 k1 k2 k3 => h.2 σ2 (fun l hl => (k1 l hl).trans (h1 l hl)) (fun hn => (k2 hn).trans (h2 hn)) (fun hw => (k3 hw).trans (h3 hw))⟩
  have hlt := h.1.1 l hl
  have := h1 l hl
  rw [List.getElem?_eq_getElem hlt] at this
  exact (List.getElem?_eq_some_iff.1 this).1

def StepS (P : Program) (ops : Array Oper) (o : Oper) (σ : AState) (S : Eff → Prop) : Prop :=
  (wantedA ops o σ = some false ∧ ∀ e, S e ↔ e = { val := .raw undef }) ∨
  (wantedA ops o σ = some true ∧ calleeOf σ o.op = none ∧ ∃ e, opEff P σ o.op = some e ∧ e.pre ∧ ∀ e', S e' ↔ e' = e) ∨
  (wantedA ops o σ = some true ∧ ∃ f args V, calleeOf σ o.op = some (f, args) ∧ FnC P f args V ∧ (∃ r, V r) ∧ ∀ e, S e ↔ ∃ r, V r ∧ e = { val := r }) ∨
  (wantedA ops o σ = some true ∧ ∃ f args e, calleeOf σ o.op = some (f, args) ∧ CallL P f args σ e ∧ ∀ e', S e' ↔ e' = e)

def awpD (P : Program) (ops : Array Oper) (K : AState → Prop) : List Nat → List Tr → AState → Prop
  | [], _, σ => K σ
  | j :: rest, tr, σ => ∃ o S, ops[j]? = some o ∧ StepS P ops o σ S ∧ ∀ e, S e → compatB ops tr j e = true ∧ awpD P ops K rest (tr ++ [⟨j, σ.heap.length, e⟩]) (σ.app o.dst e)

section
variable {P : Program} {ops : Array Oper} {K : AState → Prop}

theorem awpD_sub : ∀ {R : List Nat} {tr tr' : List Tr} {σ : AState}, (∀ t ∈ tr', t ∈ tr) → awpD P ops K R tr σ → awpD P ops K R tr' σ
  | [], _, _, _, _, h => h
  | j :: rest, tr, tr', σ, hs, ⟨o, S, ho, hst, h⟩ => by
    refine ⟨o, S, ho, hst, fun e he => ?_⟩
    obtain ⟨hc, hr⟩ := h e he
    refine ⟨?_, awpD_sub ?_ hr⟩
    · unfold compatB at *
      rw [List.all_eq_true] at *
      exact fun t ht => hc t (hs t ht)
    · intro t ht
      rcases List.mem_append.1 ht with ht | ht
      · exact List.mem_append.2 (.inl (hs t ht))
      · exact List.mem_append.2 (.inr ht)

theorem StepS.nonempty {o : Oper} {σ : AState} {S : Eff → Prop} (h : StepS P ops o σ S) : ∃ e, S e := by
  rcases h with ⟨_, h⟩ | ⟨_, _, e, _, _, h⟩ | ⟨_, f, args, V, _, _, ⟨r, hr⟩, h⟩ | ⟨_, f, args, e, _, _, h⟩
  · exact ⟨_, (h _).2 rfl⟩
  · exact ⟨e, (h e).2 rfl⟩
  · exact ⟨_, (h _).2 ⟨r, hr, rfl⟩⟩
  · exact ⟨e, (h e).2 rfl⟩

theorem StepS.det {o : Oper} {σ : AState} {S : Eff → Prop} (h : StepS P ops o σ S) (hc : isCall o.op = false) : ∃ e, ∀ e', S e' ↔ e' = e := by
  rcases h with ⟨_, h⟩ | ⟨_, _, e, _, _, h⟩ | ⟨_, f, args, V, h1, _, _, h⟩ | ⟨_, f, args, e, _, _, h⟩
  · exact ⟨_, h⟩
  · exact ⟨e, h⟩
  rotate_left
  · exact ⟨e, h⟩
  · exfalso
    unfold calleeOf at h1
    split at h1
    · rename_i ho; rw [ho] at hc; simp [isCall] at hc
    · cases h1

theorem StepS.eq {o : Oper} {σ : AState} {S S' : Eff → Prop} (h : StepS P ops o σ S) (h' : StepS P ops o σ S') (hc : isCall o.op = false) : ∀ e, S e ↔ S' e := by
  have nc : ∀ {f args}, calleeOf σ o.op ≠ some (f, args) := by
    intro f args h1
    unfold calleeOf at h1
    split at h1
    · rename_i ho; rw [ho] at hc; simp [isCall] at hc
    · cases h1
  rcases h with ⟨hw, h⟩ | ⟨hw, _, e, he, _, h⟩ | ⟨_, f, args, V, h1, _⟩ | ⟨_, f, args, _, h1, _⟩
  · rcases h' with ⟨_, h'⟩ | ⟨hw', _⟩ | ⟨_, f, args, V, h1, _⟩ | ⟨_, f, args, _, h1, _⟩
    · intro e; rw [h, h']
    · rw [hw] at hw'; cases hw'
    · exact absurd h1 nc
    · exact absurd h1 nc
  · rcases h' with ⟨hw', _⟩ | ⟨_, _, e2, he2, _, h'⟩ | ⟨_, f, args, V, h1, _⟩ | ⟨_, f, args, _, h1, _⟩
    · rw [hw] at hw'; cases hw'
    · intro x; rw [h, h']; rw [he] at he2; cases he2; exact Iff.rfl
    · exact absurd h1 nc
    · exact absurd h1 nc
  · exact absurd h1 nc
  · exact absurd h1 nc

theorem wantedA_congr {o : Oper} {σ σ' : AState} (h : ∀ j b d, o.guard = some (j, b) → (ops[j]?).bind (·.dst) = some d → σ'.slots[d]? = σ.slots[d]?) : wantedA ops o σ' = wantedA ops o σ := by
  unfold wantedA
  split
  · rfl
  · rename_i j want hg
    split
    · rename_i d hd; rw [h j want d hg hd]
    · rfl

theorem calleeOf_congr {o : Op} {σ σ' : AState} (h : ∀ x ∈ o.operands, σ'.ev x = σ.ev x) : calleeOf σ' o = calleeOf σ o := by
  unfold calleeOf
  split
  · rename_i f args ts
    have h1 : σ'.ev f = σ.ev f := h f (by simp [Op.operands, Call.operands])
    have h2 : args.toList.map σ'.ev = args.toList.map σ.ev := List.map_congr_left fun x hx => h x (mem_operands_call (by simpa using hx))
    rw [h1, h2]
  · rfl

theorem StepS.local {o : Oper} {σ σ' : AState} {S : Eff → Prop} (h : StepS P ops o σ S) (hev : ∀ x ∈ o.op.operands, σ'.ev x = σ.ev x) (hw : wantedA ops o σ' = wantedA ops o σ)
    (hh : ∀ e, S e → ((∀ l ∈ e.rd, σ'.heap[l]? = σ.heap[l]?) ∧ (e.nw ≠ [] → σ'.heap.length = σ.heap.length)) ∧ (e.whole = true → σ'.heap = σ.heap)) : StepS P ops o σ' S := by
  rcases h with ⟨h1, h⟩ | ⟨h1, h2, e, he, hp, h⟩ | ⟨h1, f, args, V, h2, h3, h4, h⟩ | ⟨h1, f, args, e, h2, h3, h⟩
  · exact .inl ⟨by rw [hw]; exact h1, h⟩
  · refine .inr (.inl ⟨by rw [hw]; exact h1, by rw [calleeOf_congr hev]; exact h2, e, ?_, hp, h⟩)
    obtain ⟨⟨a, b⟩, _⟩ := hh e ((h e).2 rfl)
    exact opEff_local he hev a b
  · exact .inr (.inr (.inl ⟨by rw [hw]; exact h1, f, args, V, by rw [calleeOf_congr hev]; exact h2, h3, h4, h⟩))
  · obtain ⟨⟨a, b⟩, c⟩ := hh e ((h e).2 rfl)
    exact .inr (.inr (.inr ⟨by rw [hw]; exact h1, f, args, e, by rw [calleeOf_congr hev]; exact h2, h3.move a b c, h⟩))

theorem applyUps_length : ∀ (ups : List (Nat × AObj)) (H : List AObj), (applyUps H ups).length = H.length
  | [], _ => rfl
  | (l, x) :: r, H => by simp [applyUps, applyUps_length r]

theorem applyUps_get : ∀ (ups : List (Nat × AObj)) (H : List AObj) (l : Nat), l ∉ ups.map (·.1) → (applyUps H ups)[l]? = H[l]?
  | [], _, _, _ => rfl
  | (k, x) :: r, H, l, h => by
    simp only [List.map_cons, List.mem_cons, not_or] at h
    rw [applyUps, applyUps_get r _ l h.2, List.getElem?_set_ne (fun e => h.1 e.symm)]

theorem app_heap_get {σ : AState} {dst : Option Tmp} {e : Eff} {l : Nat} (h1 : l ∉ e.up.map (·.1)) (h2 : l < σ.heap.length) : (σ.app dst e).heap[l]? = σ.heap[l]? := by
  have : (σ.app dst e).heap = applyUps σ.heap e.up ++ e.nw := rfl
  rw [this, List.getElem?_append_left (by rw [applyUps_length]; exact h2), applyUps_get _ _ _ h1]

theorem app_ev {σ : AState} {dst : Option Tmp} {e : Eff} {x : Operand} (h : ∀ d, dst = some d → x ≠ .tmp d) : (σ.app dst e).ev x = σ.ev x := by
  cases x with
  | tmp t =>
    cases dst with
    | none => rfl
    | some d =>
      have hne : d ≠ t := fun he => h d rfl (by rw [he])
      simp only [AState.ev, AState.app, AState.put, List.getD]
      rw [List.getElem?_set_ne hne]
  | const v => rfl
  | global g => rfl
  | func f => rfl

theorem app_slots {σ : AState} {dst : Option Tmp} {e : Eff} {t : Nat} (h : ∀ d, dst = some d → t ≠ d) : (σ.app dst e).slots[t]? = σ.slots[t]? := by
  cases dst with
  | none => rfl
  | some d =>
    simp only [AState.app, AState.put]
    rw [List.getElem?_set_ne (fun he => h d rfl he.symm)]

theorem opEff_lt {σ : AState} {o : Op} {e : Eff} (h : opEff P σ o = some e) : (∀ l ∈ e.rd, l < σ.heap.length) ∧ ∀ l ∈ e.up.map (·.1), l < σ.heap.length := by
  have lt : ∀ {l : Nat} {x : AObj}, σ.heap[l]? = some x → l < σ.heap.length := fun h => (List.getElem?_eq_some_iff.1 h).1
  cases o with
  | load t x =>
    simp only [opEff] at h
    split at h
    · split at h
      · rename_i hl
        split at h
        · obtain ⟨_, h2, h3⟩ := ldV_rd h
          refine ⟨fun k hk => ?_, by rw [h2]; simp⟩
          rcases h3 k hk with rfl | hk
          · exact lt hl
          · exact hk
        · cases h
      · cases h
    · split at h
      · cases h; simp
      · cases h
    · split at h
      · rename_i hl
        split at h
        · split at h
          · split at h
            · cases h; simp only [List.mem_singleton, List.map_nil, List.not_mem_nil, false_imp_iff, implies_true, and_true]; rintro l rfl; exact lt hl
            · cases h
          · cases h
        · cases h
      · cases h
    · unfold rawLd at h
      split at h
      · split at h
        · rw [Option.bind_eq_some_iff] at h
          obtain ⟨m, _, h⟩ := h
          cases h; simp
        · cases h
      · cases h
    · cases h
  | store t x y =>
    simp only [opEff] at h
    split at h
    · split at h
      · rename_i hl
        split at h
        · cases h
          constructor
          · simp only [List.mem_singleton]; rintro l rfl; exact lt hl
          · simp only [List.map_cons, List.map_nil, List.mem_singleton]; rintro l rfl; exact lt hl
        · cases h
      · cases h
    · split at h
      · rename_i hl
        split at h
        · split at h
          · split at h
            · cases h
              constructor
              · simp only [List.mem_singleton]; rintro l rfl; exact lt hl
              · simp only [List.map_cons, List.map_nil, List.mem_singleton]; rintro l rfl; exact lt hl
            · cases h
          · cases h
        · cases h
      · cases h
    · cases h
  | indexAddr t x i =>
    simp only [opEff] at h
    split at h
    · split at h
      · split at h
        · split at h
          · cases h; simp
          · cases h
        · cases h
      · split at h
        · rename_i hl
          split at h
          · split at h
            · cases h; simp only [List.mem_singleton, List.map_nil, List.not_mem_nil, false_imp_iff, implies_true, and_true]; rintro l rfl; exact lt hl
            · cases h
          · cases h
        · rename_i hl
          split at h
          · cases h; simp only [List.mem_singleton, List.map_nil, List.not_mem_nil, false_imp_iff, implies_true, and_true]; rintro l rfl; exact lt hl
          · cases h
        · cases h
      · cases h
    · split at h
      · split at h
        · split at h
          · cases h; simp
          · cases h
        · split at h
          · rw [Option.bind_eq_some_iff] at h
            obtain ⟨ds, _, he⟩ := h
            obtain rfl := Option.some.inj he
            simp
          · cases h
        · split at h
          · cases h; simp
          · cases h
        · cases h
      · cases h
  | slice t x lo hi mx =>
    simp only [opEff] at h
    split at h
    · split at h
      · cases h
      · unfold sliceAV at h
        split at h
        · split at h
          · split at h
            · cases h; simp
            · cases h
          · cases h
        · split at h
          · rename_i hl
            split at h
            · split at h
              · cases h; simp only [List.mem_singleton, List.map_nil, List.not_mem_nil, false_imp_iff, implies_true, and_true]; rintro l rfl; exact lt hl
              · cases h
            · cases h
          · cases h
        · cases h
    · split at h
      · split at h
        · split at h
          · cases h; simp
          · cases h
        · cases h
      · cases h
  | call c =>
    obtain ⟨cl, args, ts⟩ := c
    cases cl with
    | builtin b =>
      simp only [opEff] at h
      unfold builtinEff at h
      split at h
      · unfold lenAV at h
        split at h
        · split at h
          · cases h; simp
          · cases h
        · split at h
          · cases h; simp
          · cases h
        · split at h
          · split at h
            · rename_i hl
              split at h
              · cases h; simp only [List.mem_singleton, List.map_nil, List.not_mem_nil, false_imp_iff, implies_true, and_true]; rintro l rfl; exact lt hl
              · cases h
            · cases h
          · cases h
        · cases h
      · split at h
        · split at h
          · split at h
            · unfold appendAV at h
              split at h
              · cases h
              · rename_i rd ys hsrc
                have hrd : ∀ l ∈ rd, l < σ.heap.length := by
                  unfold srcRows at hsrc
                  split at hsrc
                  · split at hsrc
                    · cases hsrc; simp
                    · cases hsrc
                  · split at hsrc
                    · rename_i hl
                      split at hsrc
                      · cases hsrc; simp only [List.mem_singleton]; rintro l rfl; exact lt hl
                      · cases hsrc
                    · cases hsrc
                  · cases hsrc; simp
                  · cases hsrc
                split at h
                · split at h
                  · rename_i hl
                    split at h
                    · cases h
                      constructor
                      · intro l hl'
                        simp only [List.mem_cons] at hl'
                        rcases hl' with rfl | hl'
                        · exact lt hl
                        · exact hrd l hl'
                      · simp only [List.map_cons, List.map_nil, List.mem_singleton]; rintro l rfl; exact lt hl
                    · cases h
                  · cases h
                · split at h
                  · split at h <;> cases h <;> exact ⟨hrd, by simp⟩
                  · cases h
                · cases h
            · cases h
          · cases h
        · cases h
      · cases h; simp
      · cases h; simp
      · cases h
    | value f => cases h
    | invoke r m => cases h
  | move x => cases h; simp
  | assign x => cases h; simp
  | makeFunc fn f c => cases h; simp
  | pick c x y => simp only [opEff] at h; split at h <;> cases h; simp
  | alloc t => simp only [opEff] at h; split at h <;> cases h; simp
  | box t x => simp only [opEff] at h; split at h <;> cases h; simp
  | build t parts =>
    simp only [opEff] at h
    split at h
    · split at h <;> cases h; simp
    · cases h
  | buildSlice t len parts =>
    simp only [opEff] at h
    split at h
    · split at h
      · split at h
        · split at h <;> cases h; simp
        · cases h
      · cases h
    · cases h
  | nilCheck x => simp only [opEff] at h; split at h <;> cases h <;> simp
  | binOp op t x y ty =>
    simp only [opEff] at h
    split at h
    · cases h; simp
    · unfold eqEff nilEff at h
      split at h
      · rename_i he
        split at he
        · split at he <;> cases he; cases h; simp
        · split at he <;> cases he; cases h; simp
        · cases he
      unfold aggEff at h
      split at h
      · cases h; simp
      · cases h; simp
      · split at h <;> cases h; simp
      · split at h <;> cases h; simp
      · split at h <;> cases h; simp
      · split at h <;> cases h; simp
      · split at h <;> cases h; simp
      · split at h <;> cases h; simp
      · cases h
  | unOp op t x => simp only [opEff] at h; split at h <;> cases h <;> simp
  | convert s d x =>
    simp only [opEff] at h
    split at h
    · split at h <;> cases h; simp
    · split at h
      · cases h; simp
      · split at h <;> cases h; simp
      · cases h
    · cases h
  | makeInterface t x => simp only [opEff] at h; split at h <;> cases h; simp
  | makeSlice t x y =>
    simp only [opEff] at h
    split at h
    · split at h
      · split at h <;> cases h; simp
      · cases h
    · cases h
  | fieldAddr t x i => simp only [opEff] at h; split at h <;> cases h <;> simp
  | field t x i =>
    simp only [opEff] at h
    split at h
    · split at h
      · split at h <;> cases h; simp
      · cases h
    · cases h
  | index t x i =>
    simp only [opEff] at h
    split at h
    · split at h
      · split at h <;> cases h; simp
      · cases h
    · cases h
  | extract x i =>
    simp only [opEff] at h
    split at h
    · split at h <;> cases h; simp
    · cases h
  | makeMap t r =>
    cases r with
    | some r => cases h
    | none => cases h; simp
  | typeAssert x u t ok =>
    cases ok with
    | false => cases h
    | true =>
      simp only [opEff] at h
      unfold tasEff at h
      split at h
      · split at h <;> cases h; simp
      · cases h
  | lookup t x k ok =>
    cases ok with
    | true =>
      simp only [opEff] at h
      split at h
      · unfold lookOk at h
        split at h
        · rename_i hl
          split at h
          · cases h
            have := lt hl
            unfold lookV
            split <;> simp [this]
          · cases h
        · cases h
      · cases h
    | false =>
      simp only [opEff] at h
      split at h
      · unfold lookEff at h
        split at h
        · rename_i hl
          split at h
          · cases h
            have := lt hl
            simp [this]
          · cases h
        · cases h
      · cases h
  | range t x => simp only [opEff] at h; split at h <;> cases h; simp
  | next x st =>
    cases st with
    | false => cases h
    | true =>
      simp only [opEff] at h
      split at h
      · unfold nextEff at h
        split at h
        · rename_i hl
          have := lt hl
          split at h <;> cases h <;> simp [this]
        · cases h
      · cases h
  | mapUpdate t x k y =>
    simp only [opEff] at h
    split at h
    · unfold mapUpEff at h
      split at h
      · rename_i hl
        split at h
        · cases h
          have := lt hl
          simp [this]
        · cases h
      · cases h
    · cases h
  | insert t x k y =>
    simp only [opEff] at h
    split at h
    · unfold mapUpEff at h
      split at h
      · rename_i hl
        split at h
        · cases h
          have := lt hl
          simp [this]
        · cases h
      · cases h
    · cases h
  | _ => cases h

end
end Go.Abs
namespace Go.Abs
section
variable {P : Program} {ops : Array Oper} {K : AState → Prop}

theorem applyUps_append : ∀ (ups : List (Nat × AObj)) (H N : List AObj), (∀ l ∈ ups.map (·.1), l < H.length) → applyUps (H ++ N) ups = applyUps H ups ++ N
  | [], _, _, _ => rfl
  | (l, x) :: r, H, N, h => by
    simp only [applyUps]
    rw [List.set_append_left _ _ (h l (by simp))]
    exact applyUps_append r _ N (fun k hk => by rw [List.length_set]; exact h k (by simp at hk ⊢; exact .inr hk))

theorem applyUps_set : ∀ (ups : List (Nat × AObj)) (H : List AObj) (l : Nat) (x : AObj), l ∉ ups.map (·.1) → applyUps (H.set l x) ups = (applyUps H ups).set l x
  | [], _, _, _, _ => rfl
  | (k, y) :: r, H, l, x, h => by
    simp only [List.map_cons, List.mem_cons, not_or] at h
    simp only [applyUps]
    rw [List.set_comm _ _ h.1, applyUps_set r _ l x h.2]

theorem applyUps_comm : ∀ (u v : List (Nat × AObj)) (H : List AObj), (∀ l ∈ u.map (·.1), l ∉ v.map (·.1)) → applyUps (applyUps H u) v = applyUps (applyUps H v) u
  | [], _, _, _ => rfl
  | (l, x) :: r, v, H, h => by
    simp only [applyUps]
    rw [applyUps_comm r v _ (fun k hk => h k (by simp at hk ⊢; exact .inr hk)), applyUps_set v H l x (h l (by simp))]

theorem disjointB_spec {a b : List Nat} (h : disjointB a b = true) : ∀ l ∈ a, l ∉ b := by
  unfold disjointB at h
  rw [List.all_eq_true] at h
  intro l hl hb
  have := h l hl
  simp [hb] at this

theorem app_comm {σ : AState} {d d' : Option Tmp} {e e' : Eff} {j : Nat} (hd : ∀ x, d = some x → d' ≠ some x) (hi : indepB ⟨j, σ.heap.length, e⟩ e' = true)
    (h1 : ∀ l ∈ e.up.map (·.1), l < σ.heap.length) (h2 : ∀ l ∈ e'.up.map (·.1), l < (σ.app d e).heap.length) : (σ.app d e).app d' e' = (σ.app d' e').app d e := by
  unfold indepB at hi
  simp only [Bool.and_eq_true, Bool.or_eq_true] at hi
  obtain ⟨⟨⟨i1, i2⟩, i3⟩, _⟩ := hi
  have dis : ∀ l ∈ e.up.map (·.1), l ∉ e'.up.map (·.1) := fun l hl hl' => disjointB_spec i1 l hl (List.mem_append.2 (.inr hl'))
  have h2' : ∀ l ∈ e'.up.map (·.1), l < σ.heap.length := by
    intro l hl
    rcases i3 with i3 | ⟨_, i3⟩
    · have := h2 l hl
      have hn : e.nw = [] := by simpa using i3
      simpa [AState.app, hn, applyUps_length] using this
    · rw [List.all_eq_true] at i3
      simpa using i3 l (List.mem_append.2 (.inr hl))
  have hslots : ((σ.app d e).app d' e').slots = ((σ.app d' e').app d e).slots := by
    cases d with
    | none => cases d' <;> rfl
    | some x => cases d' with
      | none => rfl
      | some y =>
        simp only [AState.app, AState.put]
        exact List.set_comm _ _ (fun he => hd x rfl (by rw [he]))
  have hheap : ((σ.app d e).app d' e').heap = ((σ.app d' e').app d e).heap := by
    simp only [AState.app]
    rw [applyUps_append _ _ _ (by rw [applyUps_length]; exact h2'), applyUps_append _ _ _ (by rw [applyUps_length]; exact h1), applyUps_comm _ _ _ dis]
    rcases i3 with i3 | ⟨i3, _⟩
    · have hn : e.nw = [] := by simpa using i3
      simp [hn]
    · have hn : e'.nw = [] := by simpa using i3
      simp [hn]
  have ext : ∀ (s t : AState), s.slots = t.slots → s.heap = t.heap → s.low = t.low → s.df = t.df → s = t := by
    intro s t h h' h'' h3; cases s; cases t; simp_all
  refine ext _ _ hslots hheap ?_ ?_ <;> cases d <;> cases d' <;> rfl

theorem StepS.lt {o : Oper} {σ : AState} {S : Eff → Prop} (h : StepS P ops o σ S) {e : Eff} (he : S e) : (∀ l ∈ e.rd, l < σ.heap.length) ∧ ∀ l ∈ e.up.map (·.1), l < σ.heap.length := by
  rcases h with ⟨_, h⟩ | ⟨_, _, e', he', _, h⟩ | ⟨_, f, args, V, _, _, _, h⟩ | ⟨_, f, args, e', _, hl, h⟩
  · rw [(h e).1 he]; simp
  · rw [(h e).1 he]; exact opEff_lt he'
  · obtain ⟨r, _, rfl⟩ := (h e).1 he; simp
  · rw [(h e).1 he]; exact ⟨hl.1.1, fun l hm => hl.1.1 l (hl.1.2 l hm)⟩

theorem looks_operand {o : Oper} {d : Tmp} (h : d ∉ o.looksAt ops) : ∀ x ∈ o.op.operands, x ≠ .tmp d := by
  intro x hx e
  subst e
  apply h
  unfold Oper.looksAt
  refine List.mem_append.2 (.inl ?_)
  simp only [List.mem_filterMap]
  exact ⟨.tmp d, by simpa using hx, rfl⟩

theorem looks_guard {o : Oper} {d : Tmp} (h : d ∉ o.looksAt ops) {j : Nat} {b : Bool} {k : Tmp} (hg : o.guard = some (j, b)) (hk : (ops[j]?).bind (·.dst) = some k) : k ≠ d := by
  intro e
  subst e
  apply h
  unfold Oper.looksAt
  refine List.mem_append.2 (.inr ?_)
  simp [hg, hk]

theorem StepS.back {oi or' : Oper} {σ : AState} {S : Eff → Prop} {er : Eff} {j : Nat} (h : StepS P ops oi (σ.app or'.dst er) S) (hap : ∀ d, or'.dst = some d → d ∉ oi.looksAt ops)
    (hi : ∀ e, S e → indepB ⟨j, σ.heap.length, er⟩ e = true) : StepS P ops oi σ S := by
  refine h.local (fun x hx => ?_) (wantedA_congr fun k b d hg hd => ?_) (fun e he => ?_)
  · rw [app_ev]; intro d hd; exact looks_operand (hap d hd) x hx
  · rw [app_slots]; intro d' hd'; exact looks_guard (hap d' hd') hg hd
  · have hlt := h.lt he
    have := hi e he
    unfold indepB at this
    simp only [Bool.and_eq_true, Bool.or_eq_true] at this
    obtain ⟨⟨⟨i1, i2⟩, i3⟩, _, i5⟩ := this
    refine ⟨⟨?_, ?_⟩, fun hwh => ?_⟩
    rotate_left 2
    · rw [hwh] at i5
      simp only [Bool.not_true, Bool.false_eq_true, false_or, List.isEmpty_iff] at i5
      simp [AState.app, i5.1, i5.2, applyUps]
    · intro l hl
      have hl2 : l < σ.heap.length := by
        rcases i3 with i3 | ⟨_, i3⟩
        · have hn : er.nw = [] := by simpa using i3
          have := hlt.1 l hl
          simpa [AState.app, hn, applyUps_length] using this
        · rw [List.all_eq_true] at i3
          simpa using i3 l (List.mem_append.2 (.inl hl))
      rw [app_heap_get (fun hu => disjointB_spec i1 l hu (List.mem_append.2 (.inl hl))) hl2]
    · intro hnw
      rcases i3 with i3 | ⟨i3, _⟩
      · have hn : er.nw = [] := by simpa using i3
        simp [AState.app, hn, applyUps_length]
      · exact absurd (by simpa using i3) hnw

theorem StepS.fwd {oi or' : Oper} {σ : AState} {S : Eff → Prop} {ei : Eff} {j : Nat} (h : StepS P ops or' σ S) (hap : ∀ d, oi.dst = some d → d ∉ or'.looksAt ops)
    (hi : ∀ e, S e → indepB ⟨j, σ.heap.length, e⟩ ei = true) : StepS P ops or' (σ.app oi.dst ei) S := by
  refine h.local (fun x hx => ?_) (wantedA_congr fun k b d hg hd => ?_) (fun e he => ?_)
  · rw [app_ev]; intro d hd; exact looks_operand (hap d hd) x hx
  · rw [app_slots]; intro d' hd'; exact looks_guard (hap d' hd') hg hd
  · have hlt := h.lt he
    have := hi e he
    unfold indepB at this
    simp only [Bool.and_eq_true, Bool.or_eq_true] at this
    obtain ⟨⟨⟨i1, i2⟩, i3⟩, i4, _⟩ := this
    refine ⟨⟨?_, ?_⟩, fun hwh => ?_⟩
    rotate_left 2
    · rw [hwh] at i4
      simp only [Bool.not_true, Bool.false_eq_true, false_or, List.isEmpty_iff] at i4
      simp [AState.app, i4.1, i4.2, applyUps]
    · intro l hl
      rw [app_heap_get (fun hu => disjointB_spec i2 l hu hl) (hlt.1 l hl)]
    · intro hnw
      rcases i3 with i3 | ⟨i3, _⟩
      · exact absurd (by simpa using i3) hnw
      · have hn : ei.nw = [] := by simpa using i3
        simp [AState.app, hn, applyUps_length]

theorem drawOK_spec (h : drawOK ops = true) : Region.noSelect ops = true ∧ ∀ (j : Nat) (oj : Oper), ops[j]? = some oj → (∀ d ∈ depsOf oj, d < j) ∧
    ∀ (i : Nat) (oi : Oper), i < j → ops[i]? = some oi → orderedB ops i j = false → oi.apart ops oj = true ∧ ¬ (isCall oi.op = true ∧ isCall oj.op = true) := by
  unfold drawOK at h
  simp only [Bool.and_eq_true] at h
  refine ⟨h.1, fun j oj hj => ?_⟩
  have h2 := h.2
  rw [List.all_eq_true] at h2
  have hjs : j < ops.size := (Array.getElem?_eq_some_iff.1 hj).1
  have h3 := h2 j (by simpa using hjs)
  simp only [hj, Bool.and_eq_true] at h3
  refine ⟨fun d hd => ?_, fun i oi hij hi hord => ?_⟩
  · have := h3.1
    rw [List.all_eq_true] at this
    simpa using this d hd
  · have := h3.2
    rw [List.all_eq_true] at this
    have := this i (by simpa using hij)
    simp only [hi, Bool.or_eq_true] at this
    unfold orderedB at hord
    rcases this with this | this
    · rw [hord] at this; cases this
    · simp only [Bool.and_eq_true, Bool.not_eq_true', Bool.and_eq_false_iff] at this
      refine ⟨this.1, fun ⟨a, b⟩ => ?_⟩
      rcases this.2 with h | h
      · rw [h] at a; cases a
      · rw [h] at b; cases b

theorem indepB_le {j n n' : Nat} {e e' : Eff} (h : n ≤ n') (hi : indepB ⟨j, n, e⟩ e' = true) : indepB ⟨j, n', e⟩ e' = true := by
  unfold indepB at *
  simp only [Bool.and_eq_true, Bool.or_eq_true] at *
  refine ⟨⟨hi.1.1, hi.1.2.imp id fun ⟨a, b⟩ => ⟨a, ?_⟩⟩, hi.2⟩
  rw [List.all_eq_true] at *
  intro l hl
  have := b l hl
  simp only [decide_eq_true_eq] at *
  omega

theorem awpD_retag : ∀ {R : List Nat} {tr tr' : List Tr} {σ : AState}, (∀ t' ∈ tr', ∃ t ∈ tr, t.j = t'.j ∧ t.e = t'.e ∧ t.n ≤ t'.n) → awpD P ops K R tr σ → awpD P ops K R tr' σ
  | [], _, _, _, _, h => h
  | j :: rest, tr, tr', σ, hs, ⟨o, S, ho, hst, h⟩ => by
    refine ⟨o, S, ho, hst, fun e he => ?_⟩
    obtain ⟨hc, hr⟩ := h e he
    refine ⟨?_, awpD_retag ?_ hr⟩
    · unfold compatB at *
      rw [List.all_eq_true] at *
      intro t' ht'
      obtain ⟨t, ht, h1, h2, h3⟩ := hs t' ht'
      have := hc t ht
      simp only [Bool.or_eq_true] at *
      rw [← h1]
      refine this.imp (fun hi => ?_) id
      obtain ⟨a, b, c⟩ := t
      obtain ⟨a', b', c'⟩ := t'
      simp only at h1 h2 h3
      subst h1 h2
      exact indepB_le h3 hi
    · intro t' ht'
      rcases List.mem_append.1 ht' with ht' | ht'
      · obtain ⟨t, ht, h⟩ := hs t' ht'
        exact ⟨t, List.mem_append.2 (.inl ht), h⟩
      · exact ⟨t', List.mem_append.2 (.inr ht'), rfl, rfl, Nat.le_refl _⟩

theorem ordB_left {i j : Nat} (h : ordB ops i j = false) : orderedB ops i j = false := by
  unfold ordB at h; simp only [Bool.or_eq_false_iff] at h; exact h.1

theorem pull (hok : drawOK ops = true) {i : Nat} : ∀ {R : List Nat} {tr : List Tr} {σ : AState}, awpD P ops K R tr σ → i ∈ R → R.Pairwise (· < ·) → (∀ r ∈ R, r < i → ordB ops r i = false) →
    ∃ o S, ops[i]? = some o ∧ StepS P ops o σ S ∧ ∀ e, S e → compatB ops tr i e = true ∧ awpD P ops K (R.erase i) tr (σ.app o.dst e)
  | [], _, _, _, hi, _, _ => by simp at hi
  | r :: R, tr, σ, ⟨or', Sr, hor, hst, h⟩, hi, hpw, hord => by
    by_cases e : r = i
    · subst e
      refine ⟨or', Sr, hor, hst, fun e he => ?_⟩
      obtain ⟨hc, hr⟩ := h e he
      refine ⟨hc, ?_⟩
      rw [List.erase_cons_head]
      exact awpD_sub (fun t ht => List.mem_append.2 (.inl ht)) hr
    · have hiR : i ∈ R := by
        simp only [List.mem_cons] at hi
        rcases hi with h | h
        · exact absurd h.symm e
        · exact h
      rw [List.pairwise_cons] at hpw
      have hri : r < i := hpw.1 i hiR
      have hor_i : ordB ops r i = false := hord r (by simp) hri
      have ih : ∀ er, Sr er → _ := fun er her => pull hok (h er her).2 hiR hpw.2 (fun q hq hlt => hord q (by simp [hq]) hlt)
      obtain ⟨er0, her0⟩ := hst.nonempty
      obtain ⟨oi, S0, hoi, hst0, h0⟩ := ih er0 her0
      obtain ⟨_, hspec⟩ := drawOK_spec hok
      obtain ⟨hapart, hcalls⟩ := (hspec i oi hoi).2 r or' hri hor (ordB_left hor_i)
      obtain ⟨a1, a2, a3⟩ := Oper.apart_spec hapart
      -- the pair is independent, on whatever way
      have hind : ∀ {er : Eff} {S : Eff → Prop}, (∀ e, S e → compatB ops (tr ++ [⟨r, σ.heap.length, er⟩]) i e = true ∧ awpD P ops K (R.erase i) (tr ++ [⟨r, σ.heap.length, er⟩]) ((σ.app or'.dst er).app oi.dst e)) →
          ∀ e, S e → indepB ⟨r, σ.heap.length, er⟩ e = true := by
        intro er S hS e he
        have := (hS e he).1
        unfold compatB at this
        rw [List.all_eq_true] at this
        have := this ⟨r, σ.heap.length, er⟩ (by simp)
        simp only [hor_i, Bool.or_false] at this
        exact this
      have hback : StepS P ops oi σ S0 := hst0.back (j := r) a1 (hind h0)
      refine ⟨oi, S0, hoi, hback, fun ei hei => ?_⟩
      -- on every way the same effect
      have same : ∀ er, Sr er → compatB ops (tr ++ [⟨r, σ.heap.length, er⟩]) i ei = true ∧ awpD P ops K (R.erase i) (tr ++ [⟨r, σ.heap.length, er⟩]) ((σ.app or'.dst er).app oi.dst ei) := by
        intro er her
        obtain ⟨oi', S', hoi', hst', h'⟩ := ih er her
        rw [hoi] at hoi'; cases hoi'
        by_cases hc : isCall oi.op = true
        · -- then the other one is no call: it has one effect
          have hcr : isCall or'.op = false := by
            cases hq : isCall or'.op with
            | false => rfl
            | true => exact absurd ⟨hq, hc⟩ hcalls
          obtain ⟨ex, hex⟩ := hst.det hcr
          have : er = er0 := by rw [(hex er).1 her, (hex er0).1 her0]
          subst this
          exact h0 ei hei
        · have hc' : isCall oi.op = false := by simpa using hc
          have hb' : StepS P ops oi σ S' := hst'.back (j := r) a1 (hind h')
          exact h' ei ((hback.eq hb' hc' ei).1 hei)
      have hfwd : StepS P ops or' (σ.app oi.dst ei) Sr := by
        refine hst.fwd (j := r) a3 (fun er her => ?_)
        have := (same er her).1
        unfold compatB at this
        rw [List.all_eq_true] at this
        have := this ⟨r, σ.heap.length, er⟩ (by simp)
        simp only [hor_i, Bool.or_false] at this
        exact this
      refine ⟨?_, ?_⟩
      · have := (same er0 her0).1
        unfold compatB at *
        rw [List.all_eq_true] at *
        exact fun t ht => this t (List.mem_append.2 (.inl ht))
      · have hne : (r :: R).erase i = r :: R.erase i := List.erase_cons_tail (by simpa using e)
        rw [hne]
        refine ⟨or', Sr, hor, hfwd, fun er her => ⟨(h er her).1, ?_⟩⟩
        have hs := same er her
        have hi' : indepB ⟨r, σ.heap.length, er⟩ ei = true := by
          have := hs.1
          unfold compatB at this
          rw [List.all_eq_true] at this
          have := this ⟨r, σ.heap.length, er⟩ (by simp)
          simp only [hor_i, Bool.or_false] at this
          exact this
        have hcomm := app_comm (d := or'.dst) (d' := oi.dst) a2 hi' (hst.lt her).2 (by
          intro l hl
          have := (hback.lt hei).2 l hl
          simp only [AState.app, List.length_append, applyUps_length]; omega)
        rw [← hcomm]
        refine awpD_retag ?_ hs.2
        intro t' ht'
        rcases List.mem_append.1 ht' with ht' | ht'
        · exact ⟨t', List.mem_append.2 (.inl ht'), rfl, rfl, Nat.le_refl _⟩
        · simp only [List.mem_singleton] at ht'
          subst ht'
          exact ⟨⟨r, σ.heap.length, er⟩, by simp, rfl, rfl, by simp [AState.app, applyUps_length]⟩

theorem foldl_or_testBit {f : Nat → Nat} {r : Nat} : ∀ (ds : List Nat) (s : Nat), (ds.foldl (fun s d => s ||| 2 ^ d ||| f d) s).testBit r = true → s.testBit r = true ∨ ∃ d ∈ ds, d = r ∨ (f d).testBit r = true
  | [], s, h => .inl h
  | d :: ds, s, h => by
    simp only [List.foldl_cons] at h
    rcases foldl_or_testBit ds _ h with h | ⟨d', hd', h⟩
    · rw [Nat.testBit_or, Nat.testBit_or, Bool.or_eq_true, Bool.or_eq_true] at h
      rcases h with (h | h) | h
      · exact .inl h
      · right
        refine ⟨d, by simp, .inl ?_⟩
        rw [Nat.testBit_two_pow] at h
        simpa using h
      · exact .inr ⟨d, by simp, .inr h⟩
    · exact .inr ⟨d', by simp [hd'], h⟩

theorem reachM_spec {L : Nat → Prop} {all : List Oper} (hclosed : ∀ j o, all[j]? = some o → L j → ∀ d ∈ depsOf o, L d) : ∀ (os : List Oper) (acc : List Nat), all.drop acc.length = os →
    (∀ k o, all[k]? = some o → k < acc.length → (∀ d ∈ depsOf o, L d) → ∀ r, (acc.getD k 0).testBit r = true → L r) → (∀ k o, all[k]? = some o → ∀ d ∈ depsOf o, d < k) →
    ∀ k o, all[k]? = some o → (∀ d ∈ depsOf o, L d) → ∀ r, ((reachM os acc).getD k 0).testBit r = true → L r
  | [], acc, hd, h, _ => by
    intro k o hk hdeps r hr
    refine h k o hk ?_ hdeps r hr
    have h1 : all.length ≤ acc.length := by simpa using hd
    have h2 := (List.getElem?_eq_some_iff.1 hk).1
    omega
  | o :: os, acc, hd, h, hlt => by
    refine reachM_spec hclosed os _ ?_ ?_ hlt
    · have := congrArg List.tail hd
      simpa [List.tail_drop] using this
    · intro k o' hk hkl hdeps r hr
      have ho : all[acc.length]? = some o := by
        have := congrArg (fun l : List Oper => l[0]?) hd
        simpa using this
      by_cases e : k < acc.length
      · rw [List.getD_eq_getElem?_getD, List.getElem?_append_left e, ← List.getD_eq_getElem?_getD] at hr
        exact h k o' hk e hdeps r hr
      · have e2 : k = acc.length := by simp at hkl; omega
        subst e2
        rw [ho] at hk; cases hk
        rw [List.getD_eq_getElem?_getD, List.getElem?_append_right (Nat.le_refl _)] at hr
        simp only [Nat.sub_self, List.getElem?_cons_zero, Option.getD_some] at hr
        rcases foldl_or_testBit (f := fun d => acc.getD d 0) _ _ hr with h0 | ⟨d, hd', rfl | h1⟩
        · simp at h0
        · exact hdeps d hd'
        · have hdl : d < acc.length := hlt _ _ ho d hd'
          have hdl2 : d < all.length := by have := (List.getElem?_eq_some_iff.1 ho).1; omega
          exact h d all[d] (List.getElem?_eq_getElem hdl2) hdl (hclosed d _ (List.getElem?_eq_getElem hdl2) (hdeps d hd')) r h1

end

theorem getD_replicate_false' (m j : Nat) : (Array.replicate m false).getD j false = false := by
  by_cases h : j < m <;> simp [Array.getD, h]

section region
variable {C : Ctx} {ops : Array Oper} {Q : AExit → AState → Prop}

theorem step_sound {ro : Option Nat} {φ : Nat → Value} {σ : AState} {a : Act} {w : World} (S : Sim C φ σ a w) {o : Oper} {i : Nat} {E : Eff → Prop} (ho : ops[i]? = some o) (h : StepS C.P ops o σ E) {K : Act → World → Prop} {Q' : Exit → Act → World → Prop}
    (hK : ∀ e φ' v w', E e → Sim C φ' (σ.app o.dst e) (a.put o.dst v) w' → K (a.put o.dst v) w') : wpOpIn (fence ro) 0 C.P ops Q' i K a w := by
  unfold wpOpIn
  simp only [ho]
  rcases h with ⟨hw, h⟩ | ⟨hw, _, e, he, hp, h⟩ | ⟨hw, f, args, V, hc, hf, _, h⟩ | ⟨hw, f, args, e, hc, hf, h⟩
  · rw [wantedA_sound S hw]
    simp only [Bool.false_eq_true, if_false]
    refine ⟨fun _ _ => trivial, hK _ φ undef w ((h _).2 rfl) ?_⟩
    rw [app_val]; exact S.put o.dst rfl
  · rw [wantedA_sound S hw]
    simp only [if_true]
    obtain ⟨n, v, w', φ', hr, hn, S'⟩ := opEff_sound S he hp
    refine ⟨fun _ _ => trivial, ?_⟩
    rw [Oper.semAt_eq _ _ _ (opEff_op he), hr]
    rcases hn with rfl | ⟨rfl, rfl⟩
    · rw [Oper.uponIn_value]; exact hK e φ' v w' ((h e).2 rfl) S'
    · rw [Oper.uponIn_skip]; exact hK e φ' undef w' ((h e).2 rfl) S'
  · rw [wantedA_sound S hw]
    simp only [if_true]
    have hcall : CallA C.P f args σ (fun o' H' => ∃ r, V r ∧ o' = .ret r ∧ H' = σ.heap) := callA_of_fnC hf (fun r hr => ⟨r, hr, rfl, rfl⟩)
    obtain ⟨vs, hrun, hr⟩ := calleeOf_run S hc hcall.1
    refine ⟨fun _ _ => trivial, ?_⟩
    rw [Oper.semAt_eq _ _ _ (calleeOf_op hc), hrun, Oper.uponIn_enter]
    refine ⟨fun h => by simp [fence, Fence.wide] at h, fence_calls.2 ?_⟩
    refine (hcall.2 C φ a w rfl S vs hr).mono fun en w' ⟨o', φ', H', ⟨r, hV, ho', hH⟩, S', hrep⟩ => ?_
    subst ho' hH
    cases en with
    | returned v =>
      refine hK { val := r } φ' v w' ((h _).2 ⟨r, hV, rfl⟩) ?_
      rw [app_val]; exact S'.put o.dst hrep
    | panicked chain => exact hrep.elim
    | outgrown => exact hrep.elim
  · rw [wantedA_sound S hw]
    simp only [if_true]
    have hcall := hf.2 σ (fun _ _ => rfl) (fun _ => rfl) (fun _ => rfl)
    obtain ⟨vs, hrun, hr⟩ := calleeOf_run S hc hcall.1
    refine ⟨fun _ _ => trivial, ?_⟩
    rw [Oper.semAt_eq _ _ _ (calleeOf_op hc), hrun, Oper.uponIn_enter]
    refine ⟨fun h => by simp [fence, Fence.wide] at h, fence_calls.2 ?_⟩
    refine (hcall.2 C φ a w rfl S vs hr).mono fun en w' ⟨o', φ', H', ⟨ho', hH⟩, S', hrep⟩ => ?_
    subst ho' hH
    cases en with
    | returned v =>
      refine hK e φ' v w' ((h _).2 rfl) ?_
      have := S'.put o.dst hrep
      have e1 : ({ σ with heap := applyUps σ.heap e.up ++ e.nw } : AState).put o.dst e.val = σ.app o.dst e := by
        cases hd : o.dst <;> rfl
      rw [e1] at this
      exact this
    | panicked chain => exact hrep.elim
    | outgrown => exact hrep.elim

end region
end Go.Abs
namespace Go.Abs

theorem repMem_of_cells {E : Env} {b : Nat} {c : Array Value} {t : TypeId} {fr : Nat × Nat} (hcb : E.w.heap[b]? = some (.cells c t fr)) : ∀ (cs : List AV) (off : Nat), (∀ o, off ≤ o → o < off + cs.length → ¬ E.mu b o) →
    RepL E cs ((c.toList.drop off).take cs.length) → (∀ u ∈ (c.toList.drop off).take cs.length, u.oneCell' = true) → RepMem E b off cs
  | [], _, _, _, _ => trivial
  | x :: cs, off, hm, r, h1 => by
    obtain ⟨u, us, hu, r1, r2⟩ := r
    have hcu : c[off]? = some u := by
      have : (c.toList.drop off)[0]? = some u := by
        have := congrArg (fun l : List Value => l[0]?) hu
        simpa using this
      simpa using this
    have htl : us = (c.toList.drop (off + 1)).take cs.length := by
      have h1 := congrArg List.tail hu
      simp only [List.tail_cons] at h1
      rw [← h1]
      cases hd : c.toList.drop off with
      | nil => rw [hd] at hu; simp at hu
      | cons y ys =>
        have : c.toList.drop (off + 1) = ys := by
          have := congrArg List.tail hd
          simpa [List.tail_drop] using this
        rw [this]; simp
    refine ⟨⟨hm off (Nat.le_refl _) (by simp), u, by simp only [World.cell?, hcb]; simpa using hcu, h1 u (by rw [hu]; simp), r1⟩, repMem_of_cells hcb cs (off + 1) (fun o h2 h3 => hm o (by omega) (by simp; omega)) (by rw [← htl]; exact r2) (fun v hv => h1 v (by rw [hu, htl]; simp [hv]))⟩

theorem repRows_of_cells {E : Env} {b sz : Nat} {c : Array Value} {t : TypeId} {fr : Nat × Nat} (hcb : E.w.heap[b]? = some (.cells c t fr)) : ∀ (rs : List (List AV)) (off : Nat), (∀ r ∈ rs, r.length = sz) →
    (∀ o, off ≤ o → o < off + rs.length * sz → ¬ E.mu b o) → RepL E rs.flatten ((c.toList.drop off).take (rs.length * sz)) → (∀ u ∈ (c.toList.drop off).take (rs.length * sz), u.oneCell' = true) → RepRows E sz b off rs
  | [], _, _, _, _, _ => trivial
  | r :: rs, off, hl, hm, h, h1 => by
    have hr : r.length = sz := hl r (by simp)
    simp only [List.flatten_cons] at h
    have h3 := RepL.take r.length h
    have h2 := RepL.drop r.length h
    simp only [List.take_left', List.drop_left', List.take_take, List.drop_take, List.drop_drop] at h3 h2
    have e1 : min r.length ((r :: rs).length * sz) = r.length := by
      simp only [List.length_cons, Nat.add_mul, Nat.one_mul]; omega
    have e2 : (r :: rs).length * sz - r.length = rs.length * sz := by simp only [List.length_cons, Nat.add_mul, Nat.one_mul]; omega
    have e3 : (r :: rs).length * sz = rs.length * sz + sz := by simp only [List.length_cons, Nat.add_mul, Nat.one_mul]
    rw [e1] at h3
    rw [e2, hr] at h2
    refine ⟨hr, repMem_of_cells hcb r off (fun o h4 h5 => hm o h4 (by omega)) h3 (fun u hu => h1 u ?_), repRows_of_cells hcb rs (off + sz) (fun q hq => hl q (by simp [hq])) (fun o h4 h5 => hm o (by omega) (by omega)) h2 (fun u hu => h1 u ?_)⟩
    · have : (c.toList.drop off).take r.length = ((c.toList.drop off).take ((r :: rs).length * sz)).take r.length := by rw [List.take_take, e1]
      rw [this] at hu
      exact List.mem_of_mem_take hu
    · have : (c.toList.drop (off + sz)).take (rs.length * sz) = ((c.toList.drop off).take ((r :: rs).length * sz)).drop sz := by
        rw [List.drop_take, List.drop_drop]
        congr 1
        rw [← e2, hr]
      rw [this] at hu
      exact List.mem_of_mem_drop hu

def objNb (n : Nat) : AObj → Prop
  | .cells cs => nbL n cs
  | .acc _ _ rows => nbR n rows
  | .map es => ∀ p ∈ es, p.1.nb n ∧ p.2.nb n
  | .loop _ slots _ _ => nbL n slots
  | .iter _ _ => True
  | .dead => True

def Sub (x y : AV) : Prop := ∀ (E : Env) (v : Value), Rep E x v → Rep E y v
def SubL (xs ys : List AV) : Prop := ∀ (E : Env) (vs : List Value), RepL E xs vs → RepL E ys vs
def SubR (xs ys : List (List AV)) : Prop := xs.length = ys.length ∧ ∀ (E : Env) (sz b off : Nat), RepRows E sz b off xs → RepRows E sz b off ys
def SubM (xs ys : List AV) : Prop := xs.length = ys.length ∧ ∀ (E : Env) (b off : Nat), RepMem E b off xs → RepMem E b off ys

theorem Sub.refl (x : AV) : Sub x x := fun _ _ h => h
theorem Sub.of_eq {x y : AV} (h : x = y) : Sub x y := h ▸ Sub.refl x
theorem Sub.any (x : AV) : Sub x .any := fun _ _ _ => trivial
theorem Sub.trans {x y z : AV} (h : Sub x y) (h' : Sub y z) : Sub x z := fun E v r => h' E v (h E v r)
theorem SubL.refl (xs : List AV) : SubL xs xs := fun _ _ h => h
theorem SubL.nil : SubL [] [] := fun _ _ h => h
theorem SubL.cons {x y : AV} {xs ys : List AV} (h : Sub x y) (hs : SubL xs ys) : SubL (x :: xs) (y :: ys) := fun E _ ⟨u, us, hv, r1, r2⟩ => ⟨u, us, hv, h E u r1, hs E us r2⟩
theorem SubM.refl (xs : List AV) : SubM xs xs := ⟨rfl, fun _ _ _ h => h⟩
theorem SubM.nil : SubM [] [] := SubM.refl []
theorem SubM.cons {x y : AV} {xs ys : List AV} (h : Sub x y) (hs : SubM xs ys) : SubM (x :: xs) (y :: ys) :=
  ⟨by simp [hs.1], fun E b off ⟨⟨hm, u, hu, h1, r⟩, r2⟩ => ⟨⟨hm, u, hu, h1, h E u r⟩, hs.2 E b _ r2⟩⟩
theorem SubR.refl (xs : List (List AV)) : SubR xs xs := ⟨rfl, fun _ _ _ _ h => h⟩
theorem SubR.nil : SubR [] [] := SubR.refl []
theorem SubR.cons {x y : List AV} {xs ys : List (List AV)} (h : SubM x y) (hs : SubR xs ys) : SubR (x :: xs) (y :: ys) :=
  ⟨by simp [hs.1], fun E sz b off ⟨h1, r, r2⟩ => ⟨by rw [← h.1]; exact h1, h.2 E b off r, hs.2 E sz b _ r2⟩⟩
theorem Sub.agg {xs ys : List AV} (h : SubL xs ys) : Sub (.agg xs) (.agg ys) := fun E _ ⟨vs, hv, r⟩ => ⟨vs, hv, h E _ r⟩
theorem Sub.tup {xs ys : List AV} (h : SubL xs ys) : Sub (.tup xs) (.tup ys) := fun E _ ⟨vs, hv, r⟩ => ⟨vs, hv, h E _ r⟩
theorem Sub.pp {xs ys : List AV} (h : SubM xs ys) : Sub (.pp xs) (.pp ys) := fun E _ ⟨b, off, hv, r⟩ => ⟨b, off, hv, h.2 E b off r⟩
theorem Sub.iface {t : TypeId} {x y : AV} (h : Sub x y) : Sub (.iface t x) (.iface t y) := fun E _ ⟨u, hv, r⟩ => ⟨u, hv, h E u r⟩
theorem Sub.func {fn : Fn} {f f' c c' : List AV} (h : SubL f f') (h' : SubL c c') : Sub (.func fn f c) (.func fn f' c') := fun E _ ⟨a, b, hv, r1, r2⟩ => ⟨a, b, hv, h E _ r1, h' E _ r2⟩
theorem Sub.lst {t : Bool} {sz : Nat} {xs ys : List (List AV)} (h : SubR xs ys) : Sub (.lst t sz xs) (.lst false sz ys) := fun E v ⟨base, cap, h1, h2, h3, h4, h5, h6⟩ =>
  ⟨base, cap, by rw [← h.1]; exact h1, by rw [← h.1]; exact h2, (by intro h; cases h), h4, fun a ha hne => h5 a ha (fun e => hne (by have := h.1; rw [e] at this; exact List.eq_nil_of_length_eq_zero this.symm)), fun a ha => h.2 E sz _ _ (h6 a ha)⟩
theorem Sub.empty (t : Bool) (sz sz' : Nat) : Sub (.lst t sz []) (.lst false sz' []) := fun _ _ ⟨base, cap, h1, h2, _, h4, _, _⟩ =>
  ⟨base, cap, h1, h2, (by intro h; cases h), h4, (by intro a _ h; exact absurd rfl h), fun _ _ => trivial⟩
def Co1 (H : List AObj) (n : Nat) (x y : AV) : Prop :=
  (Sub x y ∧ y.nb n) ∨ ∃ l m sz rows, x = .acc l m ∧ H[l]? = some (.acc true sz rows) ∧ rows.length = m ∧ Sub (.lst false sz rows) y ∧ y.nb n

def CoL1 (H : List AObj) (n : Nat) : List AV → List AV → Prop
  | [], ys => ys = []
  | x :: xs, ys => ∃ y zs, ys = y :: zs ∧ Co1 H n x y ∧ CoL1 H n xs zs

def Co (H : List AObj) (n : Nat) (x y : AV) : Prop := Co1 H n x y ∨ ∃ cs ds, x = .agg cs ∧ y = .agg ds ∧ CoL1 H n cs ds

def CoL (H : List AObj) (n : Nat) : List AV → List AV → Prop
  | [], ys => ys = []
  | x :: xs, ys => ∃ y zs, ys = y :: zs ∧ Co H n x y ∧ CoL H n xs zs

theorem nbL_append {n : Nat} : ∀ {p q : List AV}, nbL n p → nbL n q → nbL n (p ++ q)
  | [], _, _, hq => hq
  | _ :: _, _, hp, hq => ⟨hp.1, nbL_append hp.2 hq⟩

theorem nbL_flatten {n : Nat} : ∀ {rows : List (List AV)}, nbR n rows → nbL n rows.flatten
  | [], _ => trivial
  | _ :: _, h => by simp only [List.flatten_cons]; exact nbL_append h.1 (nbL_flatten h.2)

def RowsSub : List (List AV) → List (List AV) → Prop
  | [], ys => ys = []
  | x :: xs, ys => ∃ y zs, ys = y :: zs ∧ (x.length = y.length ∧ SubL x y) ∧ RowsSub xs zs

theorem RowsSub.length : ∀ {xs ys : List (List AV)}, RowsSub xs ys → ys.length = xs.length
  | [], _, rfl => rfl
  | _ :: _, _, ⟨_, _, rfl, _, h⟩ => by simp [RowsSub.length h]
theorem RowsSub.sz {sz : Nat} : ∀ {xs ys : List (List AV)}, RowsSub xs ys → (∀ r ∈ xs, r.length = sz) → ∀ r ∈ ys, r.length = sz
  | [], _, rfl, _ => by simp
  | x :: _, _, ⟨y, _, rfl, h1, h⟩, hl => by
    intro r hr
    simp only [List.mem_cons] at hr
    rcases hr with rfl | hr
    · rw [← h1.1]; exact hl x (by simp)
    · exact RowsSub.sz h (fun q hq => hl q (by simp [hq])) r hr
theorem RowsSub.flat {E : Env} : ∀ {xs ys : List (List AV)} {vs : List Value}, RowsSub xs ys → RepL E xs.flatten vs → RepL E ys.flatten vs
  | [], _, _, rfl, r => r
  | x :: xs, _, vs, ⟨y, zs, rfl, h1, h⟩, r => by
    simp only [List.flatten_cons] at r ⊢
    have h3 := RepL.take x.length r
    have h2 := RepL.drop x.length r
    simp only [List.take_left', List.drop_left'] at h3 h2
    have := RepL.append (h1.2 _ _ h3) (RowsSub.flat h h2)
    rwa [List.take_append_drop] at this

def CoObj (H : List AObj) (n : Nat) (x y : AObj) : Prop :=
  y = .dead ∨ (y = x ∧ objNb n x) ∨ (∃ cs ds, x = .cells cs ∧ y = .cells ds ∧ CoL H n cs ds) ∨ (∃ imm sz rows rows', x = .acc imm sz rows ∧ y = .acc imm sz rows' ∧ RowsSub rows rows' ∧ nbR n rows') ∨
    ∃ k s s' st pend, x = .loop k s st pend ∧ y = .loop k s' st pend ∧ CoL H n s s'

def CoH (H : List AObj) (n : Nat) : List AObj → List AObj → Prop
  | _, [] => True
  | [], _ :: _ => False
  | x :: xs, y :: ys => CoObj H n x y ∧ CoH H n xs ys

def dfNb (n : Nat) (df : List (FuncId × List AV)) : Prop := ∀ p ∈ df, nbL n p.2
theorem dfNb_nil {n : Nat} : dfNb n [] := fun _ h => by cases h
def Weak (σ σ' : AState) : Prop := ((σ'.low = σ.low ∧ σ.low ≤ σ'.heap.length) ∧ σ'.df = σ.df ∧ dfNb σ'.heap.length σ.df) ∧ CoL σ.heap σ'.heap.length σ.slots σ'.slots ∧ CoH σ.heap σ'.heap.length σ.heap σ'.heap

theorem CoH.get {H : List AObj} {n : Nat} : ∀ {xs ys : List AObj} {l : Nat} {y : AObj}, CoH H n xs ys → ys[l]? = some y → ∃ x, xs[l]? = some x ∧ CoObj H n x y
  | _, [], _, _, _, h => by simp at h
  | [], _ :: _, _, _, h, _ => h.elim
  | x :: _, _ :: _, 0, _, ⟨h, _⟩, hy => by simp at hy; subst hy; exact ⟨x, by simp, h⟩
  | _ :: _, _ :: _, l + 1, _, ⟨_, h⟩, hy => by
    simp at hy
    obtain ⟨x, hx, hc⟩ := CoH.get h hy
    exact ⟨x, by simpa using hx, hc⟩

section weak
variable {C : Ctx} {φ : Nat → Value} {σ σ' : AState} {a : Act} {w : World}

theorem CoL.rep {E E' : Env} {H : List AObj} {n : Nat} (hone : ∀ x y v, Co H n x y → Rep E x v → Rep E' y v) : ∀ {xs ys : List AV} {vs : List Value}, CoL H n xs ys → RepL E xs vs → RepL E' ys vs
  | [], _, _, rfl, r => r
  | _ :: _, _, _, ⟨y, zs, rfl, hc, hr⟩, ⟨u, us, rfl, r1, r2⟩ => ⟨u, us, rfl, hone _ y u hc r1, CoL.rep hone hr r2⟩

theorem CoL1.rep {E E' : Env} {H : List AObj} {n : Nat} (hone : ∀ x y v, Co1 H n x y → Rep E x v → Rep E' y v) : ∀ {xs ys : List AV} {vs : List Value}, CoL1 H n xs ys → RepL E xs vs → RepL E' ys vs
  | [], _, _, rfl, r => r
  | _ :: _, _, _, ⟨y, zs, rfl, hc, hr⟩, ⟨u, us, rfl, r1, r2⟩ => ⟨u, us, rfl, hone _ y u hc r1, CoL1.rep hone hr r2⟩

theorem Co.of1 {E E' : Env} {H : List AObj} {n : Nat} (hone : ∀ x y v, Co1 H n x y → Rep E x v → Rep E' y v) (x y : AV) (v : Value) (h : Co H n x y) (r : Rep E x v) : Rep E' y v := by
  rcases h with h | ⟨cs, ds, rfl, rfl, h⟩
  · exact hone x y v h r
  · obtain ⟨vs, hv, rl⟩ := r
    exact ⟨vs, hv, CoL1.rep hone h rl⟩

theorem Co.rep (S : Sim C φ σ a w) {n : Nat} {x y : AV} {v : Value} (h : Co σ.heap n x y) (r : Rep (C.env φ σ.heap w) x v) : Rep (C.env φ σ.heap w) y v := by
  refine Co.of1 ?_ x y v h r
  intro x y v hc r
  rcases hc with ⟨hsub, hn⟩ | ⟨l, m, sz, rows, rfl, hl, hm, hsub, hn⟩
  · exact hsub _ _ r
  · have hv := acc_cur S hl hm r
    subst hv
    exact hsub _ _ (acc_view S hl)

theorem CoL.repS (S : Sim C φ σ a w) {n : Nat} {xs ys : List AV} {vs : List Value} (h : CoL σ.heap n xs ys) (r : RepL (C.env φ σ.heap w) xs vs) : RepL (C.env φ σ.heap w) ys vs :=
  CoL.rep (fun _ _ _ h r => Co.rep S h r) h r

theorem Weak.sim (h : Weak σ σ') (S : Sim C φ σ a w) : Sim C φ σ' a w := by
  obtain ⟨⟨hlow, hdf, hdn⟩, hs, hh⟩ := h
  have hobj : ∀ (l : Nat) (y : AObj), σ'.heap[l]? = some y → ∃ x, σ.heap[l]? = some x ∧ CoObj σ.heap σ'.heap.length x y := fun l y hy => hh.get hy
  have hmuts : ∀ {x y : AObj} {h : Value} {b o : Nat}, CoObj σ.heap σ'.heap.length x y → y.muts h b o → x.muts h b o := by
    intro x y h b o hc hm
    rcases hc with rfl | ⟨rfl, _⟩ | ⟨cs, ds, rfl, rfl, _⟩ | ⟨imm, sz, rows, rows', rfl, rfl, _, _⟩ | ⟨lk, s1, s2, st, pend, rfl, rfl, _⟩
    · simp [AObj.muts] at hm
    · exact hm
    · cases h with
      | pointer p => cases p <;> exact hm
      | _ => exact hm
    · cases h with
      | slice p _ _ => cases p <;> exact hm
      | _ => exact hm
    · cases h with
      | func q _ _ => cases q <;> exact hm
      | _ => exact hm
  have hblock : ∀ {x y : AObj} {h : Value} {b : Nat}, CoObj σ.heap σ'.heap.length x y → y.block h b → x.block h b := by
    intro x y h b hc hm
    rcases hc with rfl | ⟨rfl, _⟩ | ⟨cs, ds, rfl, rfl, _⟩ | ⟨imm, sz, rows, rows', rfl, rfl, _, _⟩ | ⟨lk, s1, s2, st, pend, rfl, rfl, _⟩
    · simp [AObj.block] at hm
    · exact hm
    · cases h with
      | pointer p => cases p <;> exact hm
      | _ => exact hm
    · cases h with
      | slice p _ _ => cases p <;> exact hm
      | _ => exact hm
    · cases h with
      | func q _ _ => cases q <;> exact hm
      | _ => exact hm
  have hmut : ∀ b o, Mut φ σ'.heap b o → Mut φ σ.heap b o := by
    rintro b o ⟨l, y, hy, hm⟩
    obtain ⟨x, hx, hc⟩ := hobj l y hy
    exact ⟨l, x, hx, hmuts hc hm⟩
  have le : (C.env φ σ.heap w).Le σ'.heap.length (C.env φ σ'.heap w) := by
    refine ⟨Nat.le_refl _, fun l hl => .inl ⟨rfl, ?_⟩, fun b o u hm hc => ⟨fun h => hm (h.imp (hmut b o) id), hc⟩⟩
    obtain ⟨x, hx, hc⟩ := hobj l σ'.heap[l] (List.getElem?_eq_getElem hl)
    simp only [Ctx.env]
    rw [List.getElem?_eq_getElem hl, hx]
    rcases hc with h | ⟨h, _⟩ | ⟨cs, ds, rfl, h, _⟩ | ⟨imm, sz, rows, rows', rfl, h, hr, _⟩ | ⟨lk, s1, s2, st, pend, rfl, h, _⟩
    · right; rw [h]; rfl
    · left; rw [h]
    · left; rw [h]; rfl
    · left; rw [h]; simp only [accLen, hr.length]
    · left; rw [h]; rfl
  have hone : ∀ x y v, Co σ.heap σ'.heap.length x y → Rep (C.env φ σ.heap w) x v → Rep (C.env φ σ'.heap w) y v := by
    refine Co.of1 ?_
    intro x y v hc r
    rcases hc with ⟨hsub, hn⟩ | ⟨l, m, sz, rows, rfl, hl, hm, hsub, hn⟩
    · exact Rep.mono le _ _ hn (hsub _ _ r)
    · have hv := acc_cur S hl hm r
      subst hv
      exact Rep.mono le _ _ hn (hsub _ _ (acc_view S hl))
  have hdef : DefOK C φ σ'.heap w σ'.df a.defers := by
    rw [hdf]
    exact S.defers.step' (fun xs vs ⟨f, hf⟩ r => RepL.mono le _ _ (hdn _ hf) r) (fun _ _ _ => rfl) (fun l x b hx hb => by
      obtain ⟨y, hy, hc⟩ := hobj l x hx
      exact .inl ⟨l, y, hy, hblock hc hb⟩)
  refine { slots := CoL.rep hone hs S.slots, defers := hdef, objs := ?_, apart := ?_, notA := ?_, size := S.size, old := S.old, oldObj := S.oldObj, inM := ?_, froz := S.froz, rest := S.rest, low := ⟨by rw [hlow.1]; exact S.low.1, by rw [hlow.1]; exact hlow.2⟩, names := ?_ }
  · intro l y hy
    obtain ⟨x, hx, hc⟩ := hobj l y hy
    have r := S.objs l x hx
    rcases hc with rfl | ⟨rfl, hn⟩ | ⟨cs, ds, rfl, rfl, hcl⟩ | ⟨imm, sz, rows, rows', rfl, rfl, hr, hn⟩ | ⟨lk, s1, s2, st, pend, rfl, rfl, hcl⟩
    · exact trivial
    · cases y with
      | cells cs =>
        obtain ⟨b, c, t, h1, h2, rl, h3⟩ := r
        exact ⟨b, c, t, h1, h2, RepL.mono le _ _ hn rl, h3⟩
      | acc imm sz rows =>
        obtain ⟨base, cap, h1, h2, h3, h4, h5⟩ := r
        refine ⟨base, cap, h1, h2, h3, h4, fun a0 ha hc => ?_⟩
        obtain ⟨h6, c, t, h7, h8, rl, h9⟩ := h5 a0 ha hc
        exact ⟨h6, c, t, h7, h8, RepL.mono le _ _ (by
          clear rl h9 h8 h7 h6 hc ha h5 h4 h3 h2 h1
          revert hn
          simp only [objNb]
          clear hy hx
          induction rows with
          | nil => intro _; trivial
          | cons r rs ih =>
            intro hn
            simp only [List.flatten_cons]
            have : ∀ (p q : List AV), nbL σ'.heap.length p → nbL σ'.heap.length q → nbL σ'.heap.length (p ++ q) := by
              intro p q hp hq
              induction p with
              | nil => exact hq
              | cons z p ihp => exact ⟨hp.1, ihp hp.2⟩
            exact this r _ hn.1 (ih hn.2)) rl, h9⟩
      | map es =>
        obtain ⟨r', en, cl, h1, h2, rp⟩ := r
        exact ⟨r', en, cl, h1, h2, RepPairs.mono le hn rp⟩
      | loop lk s1 st pend =>
        obtain ⟨D, rec, h1, h2, h3, h4, rl⟩ := r
        exact ⟨D, rec, h1, h2, h3, h4, RepL.mono le _ _ hn rl⟩
      | iter s p => exact r
      | dead => trivial
    · obtain ⟨b, c, t, h1, h2, rl, h3⟩ := r
      exact ⟨b, c, t, h1, h2, CoL.rep hone hcl rl, h3⟩
    · obtain ⟨base, cap, h1, h2, h3, h4, h5⟩ := r
      have hlen := hr.length
      refine ⟨base, cap, by rw [hlen]; exact h1, by rw [hlen]; exact h2, h3, hr.sz h4, fun a0 ha hc => ?_⟩
      obtain ⟨h6, c, t, h7, h8, rl, h9⟩ := h5 a0 ha hc
      rw [hlen]
      exact ⟨h6, c, t, h7, h8, RepL.mono le _ _ (nbL_flatten hn) (hr.flat rl), h9⟩
    · obtain ⟨D, rec, h1, h2, h3, h4, rl⟩ := r
      exact ⟨D, rec, h1, h2, h3, h4, CoL.rep hone hcl rl⟩
  · intro l l' x x' b hx hx' hb hb'
    obtain ⟨y, hy, hc⟩ := hobj l x hx
    obtain ⟨y', hy', hc'⟩ := hobj l' x' hx'
    exact S.apart l l' y y' b hy hy' (hblock hc hb) (hblock hc' hb')
  · intro l x b o hx hb
    obtain ⟨y, hy, hc⟩ := hobj l x hx
    exact S.notA l y b o hy (hblock hc hb)
  · intro l x b o hx hm hb
    obtain ⟨y, hy, hc⟩ := hobj l x hx
    exact S.inM l y b o hy (hmuts hc hm) hb
  · intro l hl
    have hlt : l < σ'.heap.length := by have := S.low; omega
    obtain ⟨x, hx, hc⟩ := hobj l σ'.heap[l] (List.getElem?_eq_getElem hlt)
    have hn := S.names l hl
    rw [hx] at hn
    rw [List.getElem?_eq_getElem hlt]
    have hcase : accLen (some σ'.heap[l]) = accLen (some x) ∨ accLen (some σ'.heap[l]) = none := by
      rcases hc with h | ⟨h, _⟩ | ⟨cs, ds, rfl, h, _⟩ | ⟨imm, sz, rows, rows', rfl, h, hr, _⟩ | ⟨lk, s1, s2, st, pend, rfl, h, _⟩
      · right; rw [h]; rfl
      · left; rw [h]
      · left; rw [h]; rfl
      · left; rw [h]; simp only [accLen, hr.length]
      · left; rw [h]; rfl
    rcases hcase with h | h
    · rw [h]; exact hn
    · rw [h]
      rcases hn with ⟨h1, _⟩ | ⟨⟨k, h1, _⟩, h3⟩
      · exact .inl ⟨h1, .inr rfl⟩
      · exact .inr ⟨⟨k, h1, fun k' hk' => by cases hk'⟩, h3⟩

theorem Weak.imp (h : Weak σ σ') : Imp σ σ' := fun _ φ _ _ S => ⟨φ, h.sim S⟩

theorem ghostAcc {i s sz : Nat} {imm : Bool} (h : σ.slots[i]? = some (.lst true s [])) : Imp σ { σ with slots := σ.slots.set i (.acc σ.heap.length 0), heap := σ.heap ++ [.acc imm sz []] } := by
  intro C φ a w S
  obtain ⟨v, hv, base, cap, rfl, _, hc, _⟩ := S.slots.get h
  have hcap : cap = 0 := hc rfl
  subst hcap
  have S' := S.nameAcc (imm := imm) (sz := sz) (rows := []) (w' := w) (h' := .slice base 0 0) (Nat.le_refl _) (fun _ _ => rfl) (fun _ => rfl) ⟨rfl, rfl⟩ (by
    intro b hb
    cases base <;> simp [AObj.block] at hb) (fun E' _ _ => ⟨base, 0, rfl, Nat.le_refl _, fun _ => rfl, by simp, fun b _ h0 => absurd rfl h0⟩)
  refine ⟨(fun k => if k = σ.heap.length then .slice base 0 0 else φ k), ?_⟩
  have := S'.put (some i) (x := .acc σ.heap.length 0) (v := .slice base 0 0) ⟨by simp [Ctx.env], ⟨_, _, _, rfl⟩, fun k hk => by
    simp only [Ctx.env, List.getElem?_append_right (Nat.le_refl _), Nat.sub_self, List.getElem?_cons_zero, accLen, Option.some.injEq] at hk
    exact ⟨by simp, fun _ => by simp [Ctx.env]⟩⟩
  refine { this with slots := ?_, defers := this.defers }
  have hs := this.slots
  have ha : (a.put (some i) (.slice base 0 0)).tmps.toList = a.tmps.toList := by
    simp only [Act.put, Array.toList_setIfInBounds]
    apply List.ext_getElem?
    intro k
    by_cases e : i = k
    · subst e
      have hlt : i < a.tmps.toList.length := (List.getElem?_eq_some_iff.1 hv).1
      rw [List.getElem?_set_self hlt]; exact hv.symm
    · rw [List.getElem?_set_ne e]
  rw [ha] at hs
  exact hs

end weak

def chunks (sz : Nat) : Nat → List AV → List (List AV)
  | 0, _ => []
  | n + 1, cs => cs.take sz :: chunks sz n (cs.drop sz)

mutual
def frz (low : Nat) (H : List AObj) : AV → AV
  | .acc l n => if l < low then .acc l n else match H[l]? with
    | some (.acc _ sz rows) => if rows.length = n then .lst false sz rows else .any
    | _ => .any
  | .own l i n o sz => if l < low then .own l i n o sz else .any
  | .agg cs => .agg (frzL low H cs)
  | .tup cs => .tup (frzL low H cs)
  | .any => .any
  | .bool b => .bool b
  | .int k n => .int k n
  | .str s => .str s
  | .raw v => .raw v
  | .lst t sz rows => .lst t sz rows
  | .ptr l off => .ptr l off
  | .map l => .map l
  | .pp cs => .pp cs
  | .func fn f c => .func fn f c
  | .iface t x => .iface t x
def frzL (low : Nat) (H : List AObj) : List AV → List AV
  | [] => []
  | x :: xs => frz low H x :: frzL low H xs
end

section res
variable {C : Ctx} {φ : Nat → Value} {σ : AState} {a : Act} {w : World}

theorem nameless_le (_S : Sim C φ σ a w) : (C.env φ σ.heap w).Le 0 (C.env φ [] w) := by
  refine ⟨Nat.zero_le _, fun l hl => absurd hl (Nat.not_lt_zero _), fun b o u hm hc => ⟨?_, hc⟩⟩
  simp only [Ctx.env] at hm ⊢
  rintro (⟨l, x, hx, _⟩ | h)
  · simp at hx
  · exact hm (.inr h)

structure Drops (C : Ctx) (φ : Nat → Value) (σ : AState) (w : World) (E' : Env) : Prop where
  le : (C.env φ σ.heap w).Le σ.low E'
  w : E'.w = w
  free : ∀ (l : Nat) (x : AObj) (b o : Nat), σ.low ≤ l → σ.heap[l]? = some x → x.block (φ l) b → ¬ E'.mu b o

theorem Sim.drops (S : Sim C φ σ a w) (h0 : σ.low = 0) : Drops C φ σ w (C.env φ [] w) := by
  refine ⟨by rw [h0]; exact nameless_le S, rfl, fun l x b o _ hx hb => ?_⟩
  simp only [Ctx.env]
  rintro (⟨l', y, hy, _⟩ | hA)
  · simp at hy
  · exact S.notA l x b o hx hb hA

mutual
theorem frz_sound (S : Sim C φ σ a w) {E' : Env} (D : Drops C φ σ w E') :
    ∀ (x : AV) (v : Value), (frz σ.low σ.heap x).nb σ.low → Rep (C.env φ σ.heap w) x v → Rep E' (frz σ.low σ.heap x) v
  | .acc l n, v, hn, r => by
    simp only [frz] at hn ⊢
    by_cases hlow : l < σ.low
    · rw [if_pos hlow]; exact Rep.mono D.le (.acc l n) v hlow r
    · rw [if_neg hlow] at hn ⊢
      split
      · rename_i imm sz rows hl
        simp only [hl] at hn
        split
        · rename_i hlen
          rw [if_pos hlen] at hn
          have hv := acc_cur S hl hlen r
          subst hv
          obtain ⟨base, cap, hh, h2, h3, h4, h5⟩ := S.objs l _ hl
          refine ⟨base, cap, hh, h2, (by intro h; cases h), h3, ?_, ?_⟩
          · intro b hb hne
            exact (h5 b hb (fun h0 => hne (List.eq_nil_of_length_eq_zero (by omega)))).1
          · intro b hb
            by_cases hc : cap = 0
            · have : rows = [] := List.eq_nil_of_length_eq_zero (by omega)
              subst this; trivial
            · obtain ⟨hsp, c, t, hcb, hsz, rl, h1⟩ := h5 b hb hc
              subst hb
              refine repRows_of_cells (E := E') (c := c) (t := t) (fr := (0, 0)) (by rw [D.w]; exact hcb) rows b.off h4 ?_ (RepL.mono D.le _ _ (nbL_flatten hn) rl) h1
              intro o _ _
              exact D.free l _ b.block o (by omega) hl (by rw [hh]; exact ⟨rfl, hc⟩)
        · exact trivial
      · exact trivial
  | .own l i n o sz, v, hn, r => by
    simp only [frz] at hn ⊢
    by_cases hlow : l < σ.low
    · rw [if_pos hlow]; exact Rep.mono D.le (.own l i n o sz) v hlow r
    · rw [if_neg hlow]; exact trivial
  | .agg cs, v, hn, ⟨vs, hv, rl⟩ => ⟨vs, hv, frzL_sound S D cs _ hn rl⟩
  | .tup cs, v, hn, ⟨vs, hv, rl⟩ => ⟨vs, hv, frzL_sound S D cs _ hn rl⟩
  | .any, _, _, _ => trivial
  | .bool _, _, _, r => r
  | .int _ _, _, _, r => r
  | .str _, _, _, r => r
  | .raw _, _, _, r => r
  | .lst t sz rows, _, hn, r => Rep.mono D.le (.lst t sz rows) _ hn r
  | .ptr l off, _, hn, r => Rep.mono D.le (.ptr l off) _ hn r
  | .map l, _, hn, r => Rep.mono D.le (.map l) _ hn r
  | .pp cs, _, hn, r => Rep.mono D.le (.pp cs) _ hn r
  | .func fn f c, _, hn, r => Rep.mono D.le (.func fn f c) _ hn r
  | .iface t x, _, hn, r => Rep.mono D.le (.iface t x) _ hn r
theorem frzL_sound (S : Sim C φ σ a w) {E' : Env} (D : Drops C φ σ w E') :
    ∀ (xs : List AV) (vs : List Value), nbL σ.low (frzL σ.low σ.heap xs) → RepL (C.env φ σ.heap w) xs vs → RepL E' (frzL σ.low σ.heap xs) vs
  | [], _, _, r => r
  | x :: xs, _, hn, ⟨u, us, hv, r1, r2⟩ => ⟨u, us, hv, frz_sound S D x u hn.1 r1, frzL_sound S D xs us hn.2 r2⟩
end

mutual
theorem frz_of_nb (low : Nat) (H : List AObj) : ∀ x : AV, x.nb 0 → frz low H x = x
  | .acc _ _, h => absurd h (Nat.not_lt_zero _)
  | .own _ _ _ _ _, h => absurd h (Nat.not_lt_zero _)
  | .agg cs, h => by rw [frz, frzL_of_nb low H cs h]
  | .tup cs, h => by rw [frz, frzL_of_nb low H cs h]
  | .any, _ | .bool _, _ | .int _ _, _ | .str _, _ | .raw _, _ | .lst _ _ _, _ | .ptr _ _, _ | .map _, _ | .pp _, _ | .func _ _ _, _ | .iface _ _, _ => by rw [frz]
theorem frzL_of_nb (low : Nat) (H : List AObj) : ∀ xs : List AV, nbL 0 xs → frzL low H xs = xs
  | [], _ => rfl
  | x :: xs, h => by rw [frzL, frz_of_nb low H x h.1, frzL_of_nb low H xs h.2]
end

end res
end Go.Abs
namespace Go.Abs

mutual
def AV.ren (ρ : Nat → Nat) : AV → AV
  | .agg cs => .agg (renL ρ cs)
  | .tup cs => .tup (renL ρ cs)
  | .pp cs => .pp (renL ρ cs)
  | .lst t sz rows => .lst t sz (renR ρ rows)
  | .acc l n => .acc (ρ l) n
  | .own l off len cap sz => .own (ρ l) off len cap sz
  | .ptr l off => .ptr (ρ l) off
  | .map l => .map (ρ l)
  | .func fn f c => .func fn (renL ρ f) (renL ρ c)
  | .iface t x => .iface t (x.ren ρ)
  | .any => .any
  | .bool b => .bool b
  | .int k n => .int k n
  | .str s => .str s
  | .raw v => .raw v
def renL (ρ : Nat → Nat) : List AV → List AV
  | [] => []
  | c :: cs => c.ren ρ :: renL ρ cs
def renR (ρ : Nat → Nat) : List (List AV) → List (List AV)
  | [] => []
  | r :: rs => renL ρ r :: renR ρ rs
end

theorem renL_length (ρ : Nat → Nat) : ∀ cs : List AV, (renL ρ cs).length = cs.length
  | [] => rfl
  | _ :: cs => by simp [renL, renL_length ρ cs]
theorem renR_length (ρ : Nat → Nat) : ∀ cs : List (List AV), (renR ρ cs).length = cs.length
  | [] => rfl
  | _ :: cs => by simp [renR, renR_length ρ cs]
theorem renL_append (ρ : Nat → Nat) : ∀ a b : List AV, renL ρ (a ++ b) = renL ρ a ++ renL ρ b
  | [], _ => rfl
  | _ :: a, b => by simp [renL, renL_append ρ a b]
theorem renR_flatten (ρ : Nat → Nat) : ∀ rs : List (List AV), (renR ρ rs).flatten = renL ρ rs.flatten
  | [] => rfl
  | r :: rs => by simp [renR, renL_append, renR_flatten ρ rs]

mutual
theorem ren_of_nb (ρ : Nat → Nat) : ∀ x : AV, x.nb 0 → x.ren ρ = x
  | .acc _ _, h => absurd h (Nat.not_lt_zero _)
  | .own _ _ _ _ _, h => absurd h (Nat.not_lt_zero _)
  | .ptr _ _, h => absurd h (Nat.not_lt_zero _)
  | .map _, h => absurd h (Nat.not_lt_zero _)
  | .agg cs, h => by rw [AV.ren, renL_of_nb ρ cs h]
  | .tup cs, h => by rw [AV.ren, renL_of_nb ρ cs h]
  | .pp cs, h => by rw [AV.ren, renL_of_nb ρ cs h]
  | .lst _ _ rows, h => by rw [AV.ren, renR_of_nb ρ rows h]
  | .func _ f c, h => by rw [AV.ren, renL_of_nb ρ f h.1, renL_of_nb ρ c h.2]
  | .iface _ x, h => by rw [AV.ren, ren_of_nb ρ x h]
  | .any, _ | .bool _, _ | .int _ _, _ | .str _, _ | .raw _, _ => by rw [AV.ren]
theorem renL_of_nb (ρ : Nat → Nat) : ∀ xs : List AV, nbL 0 xs → renL ρ xs = xs
  | [], _ => rfl
  | x :: xs, h => by rw [renL, ren_of_nb ρ x h.1, renL_of_nb ρ xs h.2]
theorem renR_of_nb (ρ : Nat → Nat) : ∀ xs : List (List AV), nbR 0 xs → renR ρ xs = xs
  | [], _ => rfl
  | x :: xs, h => by rw [renR, renL_of_nb ρ x h.1, renR_of_nb ρ xs h.2]
end

def AObj.ren (ρ : Nat → Nat) : AObj → AObj
  | .cells cs => .cells (renL ρ cs)
  | .acc imm sz rows => .acc imm sz (renR ρ rows)
  | .map es => .map (es.map fun p => (p.1.ren ρ, p.2.ren ρ))
  | .loop k slots st pend => .loop k (renL ρ slots) st pend
  | .iter s p => .iter s p
  | .dead => .dead

def AOut.ren (ρ : Nat → Nat) : AOut → AOut
  | .ret r => .ret (r.ren ρ)
  | .panic x => .panic (x.ren ρ)

structure RenLe (N : Nat) (ρ : Nat → Nat) (E E' : Env) : Prop where
  n : ∀ l, l < N → ρ l < E'.n
  names : ∀ l, l < N → E'.φ (ρ l) = E.φ l ∧ (E'.ln (ρ l) = E.ln l ∨ E'.ln (ρ l) = none)
  mem : ∀ b o u, ¬ E.mu b o → E.w.cell? ⟨b, o, none⟩ = some u → ¬ E'.mu b o ∧ E'.w.cell? ⟨b, o, none⟩ = some u

section
variable {E E' : Env} {N : Nat} {ρ : Nat → Nat}
mutual
theorem Rep.ren (h : RenLe N ρ E E') : ∀ (x : AV) (v : Value), x.nb N → Rep E x v → Rep E' (x.ren ρ) v
  | .any, _, _, _ => trivial
  | .bool _, _, _, r => r
  | .int _ _, _, _, r => r
  | .str _, _, _, r => r
  | .raw _, _, _, r => r
  | .agg cs, _, hb, ⟨vs, hv, hr⟩ => ⟨vs, hv, RepL.ren h cs _ hb hr⟩
  | .tup cs, _, hb, ⟨vs, hv, hr⟩ => ⟨vs, hv, RepL.ren h cs _ hb hr⟩
  | .lst t sz rows, _, hb, ⟨base, cap, h1, h2, h3, h4, h5, h6⟩ =>
    ⟨base, cap, by rw [renR_length]; exact h1, by rw [renR_length]; exact h2, fun e => by rw [renR_length]; exact h3 e, h4, fun a ha hne => h5 a ha (fun e => hne (by rw [e]; rfl)), fun a ha => RepRows.ren h rows _ hb (h6 a ha)⟩
  | .acc l n, v, hb, ⟨_, hsl, r⟩ => ⟨h.n l hb, hsl, fun k hk => by
      rcases (h.names l hb).2 with e | e
      · rw [e] at hk; rw [(h.names l hb).1]; exact r k hk
      · rw [e] at hk; cases hk⟩
  | .own l i n o sz, v, hb, ⟨_, hsl, r⟩ => ⟨h.n l hb, hsl, fun k hk => by
      rcases (h.names l hb).2 with e | e
      · rw [e] at hk; rw [(h.names l hb).1]; exact r k hk
      · rw [e] at hk; cases hk⟩
  | .ptr l off, v, hb, ⟨_, b, hφ, hv⟩ => ⟨h.n l hb, b, by rw [(h.names l hb).1]; exact hφ, hv⟩
  | .map l, v, hb, ⟨_, hv, r, hφ⟩ => ⟨h.n l hb, by rw [(h.names l hb).1]; exact hv, r, by rw [(h.names l hb).1]; exact hφ⟩
  | .pp cs, _, hb, ⟨b, off, hv, r⟩ => ⟨b, off, hv, RepMem.ren h cs _ hb r⟩
  | .func _ f c, _, hb, ⟨f', c', hv, r1, r2⟩ => ⟨f', c', hv, RepL.ren h f _ hb.1 r1, RepL.ren h c _ hb.2 r2⟩
  | .iface _ x, _, hb, ⟨u, hv, r⟩ => ⟨u, hv, Rep.ren h x _ hb r⟩
theorem RepL.ren (h : RenLe N ρ E E') : ∀ (cs : List AV) (vs : List Value), nbL N cs → RepL E cs vs → RepL E' (renL ρ cs) vs
  | [], _, _, r => r
  | c :: cs, _, hb, ⟨u, us, hv, r1, r2⟩ => ⟨u, us, hv, Rep.ren h c _ hb.1 r1, RepL.ren h cs _ hb.2 r2⟩
theorem RepMem.ren (h : RenLe N ρ E E') {b : Nat} : ∀ (cs : List AV) (off : Nat), nbL N cs → RepMem E b off cs → RepMem E' b off (renL ρ cs)
  | [], _, _, _ => trivial
  | c :: cs, off, hb, ⟨⟨hm, u, hu, h1, r1⟩, r2⟩ =>
    let ⟨m, c'⟩ := h.mem b off u hm hu
    ⟨⟨m, u, c', h1, Rep.ren h c _ hb.1 r1⟩, RepMem.ren h cs _ hb.2 r2⟩
theorem RepRows.ren (h : RenLe N ρ E E') {sz b : Nat} : ∀ (rs : List (List AV)) (off : Nat), nbR N rs → RepRows E sz b off rs → RepRows E' sz b off (renR ρ rs)
  | [], _, _, _ => trivial
  | r :: rs, off, hb, ⟨hl, r1, r2⟩ => ⟨by rw [renL_length]; exact hl, RepMem.ren h r _ hb.1 r1, RepRows.ren h rs _ hb.2 r2⟩
end

structure UnLe (N : Nat) (ρ : Nat → Nat) (E' E : Env) : Prop where
  n : N ≤ E.n
  names : ∀ l, l < N → E.φ l = E'.φ (ρ l) ∧ E.ln l = E'.ln (ρ l)
  mem : ∀ b o u, ¬ E'.mu b o → E'.w.cell? ⟨b, o, none⟩ = some u → ¬ E.mu b o ∧ E.w.cell? ⟨b, o, none⟩ = some u

mutual
theorem Rep.unren (h : UnLe N ρ E' E) : ∀ (x : AV) (v : Value), x.nb N → Rep E' (x.ren ρ) v → Rep E x v
  | .any, _, _, _ => trivial
  | .bool _, _, _, r => r
  | .int _ _, _, _, r => r
  | .str _, _, _, r => r
  | .raw _, _, _, r => r
  | .agg cs, _, hb, ⟨vs, hv, hr⟩ => ⟨vs, hv, RepL.unren h cs _ hb hr⟩
  | .tup cs, _, hb, ⟨vs, hv, hr⟩ => ⟨vs, hv, RepL.unren h cs _ hb hr⟩
  | .lst t sz rows, _, hb, ⟨base, cap, h1, h2, h3, h4, h5, h6⟩ => by
    rw [renR_length] at h1 h2 h3
    refine ⟨base, cap, h1, h2, h3, h4, fun a ha hne => h5 a ha (fun e => hne ?_), fun a ha => RepRows.unren h rows _ hb (h6 a ha)⟩
    have := congrArg List.length e
    rw [renR_length] at this
    exact List.eq_nil_of_length_eq_zero this
  | .acc l n, v, hb, ⟨_, hsl, r⟩ => ⟨Nat.lt_of_lt_of_le hb h.n, hsl, fun k hk => by rw [(h.names l hb).2] at hk; rw [(h.names l hb).1]; exact r k hk⟩
  | .own l i n o sz, v, hb, ⟨_, hsl, r⟩ => ⟨Nat.lt_of_lt_of_le hb h.n, hsl, fun k hk => by rw [(h.names l hb).2] at hk; rw [(h.names l hb).1]; exact r k hk⟩
  | .ptr l off, v, hb, ⟨_, b, hφ, hv⟩ => ⟨Nat.lt_of_lt_of_le hb h.n, b, by rw [(h.names l hb).1]; exact hφ, hv⟩
  | .map l, v, hb, ⟨_, hv, r, hφ⟩ => ⟨Nat.lt_of_lt_of_le hb h.n, by rw [(h.names l hb).1]; exact hv, r, by rw [(h.names l hb).1]; exact hφ⟩
  | .pp cs, _, hb, ⟨b, off, hv, r⟩ => ⟨b, off, hv, RepMem.unren h cs _ hb r⟩
  | .func _ f c, _, hb, ⟨f', c', hv, r1, r2⟩ => ⟨f', c', hv, RepL.unren h f _ hb.1 r1, RepL.unren h c _ hb.2 r2⟩
  | .iface _ x, _, hb, ⟨u, hv, r⟩ => ⟨u, hv, Rep.unren h x _ hb r⟩
theorem RepL.unren (h : UnLe N ρ E' E) : ∀ (cs : List AV) (vs : List Value), nbL N cs → RepL E' (renL ρ cs) vs → RepL E cs vs
  | [], _, _, r => r
  | c :: cs, _, hb, ⟨u, us, hv, r1, r2⟩ => ⟨u, us, hv, Rep.unren h c _ hb.1 r1, RepL.unren h cs _ hb.2 r2⟩
theorem RepMem.unren (h : UnLe N ρ E' E) {b : Nat} : ∀ (cs : List AV) (off : Nat), nbL N cs → RepMem E' b off (renL ρ cs) → RepMem E b off cs
  | [], _, _, _ => trivial
  | c :: cs, off, hb, ⟨⟨hm, u, hu, h1, r1⟩, r2⟩ =>
    let ⟨m, c'⟩ := h.mem b off u hm hu
    ⟨⟨m, u, c', h1, Rep.unren h c _ hb.1 r1⟩, RepMem.unren h cs _ hb.2 r2⟩
theorem RepRows.unren (h : UnLe N ρ E' E) {sz b : Nat} : ∀ (rs : List (List AV)) (off : Nat), nbR N rs → RepRows E' sz b off (renR ρ rs) → RepRows E sz b off rs
  | [], _, _, _ => trivial
  | r :: rs, off, hb, ⟨hl, r1, r2⟩ => ⟨by rw [renL_length] at hl; exact hl, RepMem.unren h r _ hb.1 r1, RepRows.unren h rs _ hb.2 r2⟩
end
end

theorem renPairs {E E' : Env} {N : Nat} {ρ : Nat → Nat} (h : RenLe N ρ E E') : ∀ {es : List (AV × AV)} {xs : List MapEntry}, (∀ p ∈ es, p.1.nb N ∧ p.2.nb N) → RepPairs E es xs → RepPairs E' (es.map fun p => (p.1.ren ρ, p.2.ren ρ)) xs
  | [], _, _, r => r
  | (k, v) :: _, _, hb, ⟨e, s, he, r1, r2, r3⟩ =>
    ⟨e, s, he, Rep.ren h k _ (hb (k, v) (by simp)).1 r1, Rep.ren h v _ (hb (k, v) (by simp)).2 r2, renPairs h (fun p hp => hb p (by simp [hp])) r3⟩

theorem unrenPairs {E E' : Env} {N : Nat} {ρ : Nat → Nat} (h : UnLe N ρ E' E) : ∀ {es : List (AV × AV)} {xs : List MapEntry}, (∀ p ∈ es, p.1.nb N ∧ p.2.nb N) → RepPairs E' (es.map fun p => (p.1.ren ρ, p.2.ren ρ)) xs → RepPairs E es xs
  | [], _, _, r => r
  | (k, v) :: _, _, hb, ⟨e, s, he, r1, r2, r3⟩ =>
    ⟨e, s, he, Rep.unren h k _ (hb (k, v) (by simp)).1 r1, Rep.unren h v _ (hb (k, v) (by simp)).2 r2, unrenPairs h (fun p hp => hb p (by simp [hp])) r3⟩

theorem ObjRep.ren {E E' : Env} {N : Nat} {ρ : Nat → Nat} (h : RenLe N ρ E E') {x : AObj} {hd : Value} (hb : objNb N x) (hw : ∀ b, x.block hd b → E'.w.heap[b]? = E.w.heap[b]?) (r : ObjRep E x hd) : ObjRep E' (x.ren ρ) hd := by
  cases x with
  | cells cs =>
    obtain ⟨b, c, t, rfl, h2, rl, h3⟩ := r
    exact ⟨b, c, t, rfl, by rw [hw b rfl]; exact h2, RepL.ren h _ _ hb rl, h3⟩
  | acc imm sz rows =>
    obtain ⟨base, cap, rfl, h2, h3, h4, h5⟩ := r
    refine ⟨base, cap, by rw [renR_length], by rw [renR_length]; exact h2, h3, ?_, fun a0 ha hc => ?_⟩
    · have key : ∀ rs : List (List AV), (∀ r ∈ rs, r.length = sz) → ∀ r ∈ renR ρ rs, r.length = sz := by
        intro rs
        induction rs with
        | nil => intro _ r hr; simp [renR] at hr
        | cons q rs ih =>
          intro hl r hr
          simp only [renR, List.mem_cons] at hr
          rcases hr with rfl | hr
          · rw [renL_length]; exact hl q (by simp)
          · exact ih (fun p hp => hl p (by simp [hp])) r hr
      exact key rows h4
    · obtain ⟨h6, c, t, h7, h8, rl, h9⟩ := h5 a0 ha hc
      subst ha
      rw [renR_length, renR_flatten]
      exact ⟨h6, c, t, by rw [hw _ ⟨rfl, hc⟩]; exact h7, h8, RepL.ren h _ _ (nbL_flatten hb) rl, h9⟩
  | map es =>
    obtain ⟨r', en, cl, rfl, h2, rp⟩ := r
    exact ⟨r', en, cl, rfl, by rw [hw r' rfl]; exact h2, renPairs h hb rp⟩
  | loop k slots st pend =>
    obtain ⟨D, rec, rfl, h1, h2, h3, rl⟩ := r
    exact ⟨D, rec, rfl, by rw [hw (D + 1) (.inl rfl)]; exact h1, by rw [hw D (.inr rfl)]; exact h2, h3, RepL.ren h _ _ hb rl⟩
  | iter s p =>
    obtain ⟨b, rfl, h2⟩ := r
    exact ⟨b, rfl, by rw [hw b rfl]; exact h2⟩
  | dead => trivial

theorem ObjRep.unren {E E' : Env} {N : Nat} {ρ : Nat → Nat} (h : UnLe N ρ E' E) {x : AObj} {hd : Value} (hb : objNb N x) (hw : ∀ b, (x.ren ρ).block hd b → E.w.heap[b]? = E'.w.heap[b]?) (r : ObjRep E' (x.ren ρ) hd) : ObjRep E x hd := by
  cases x with
  | cells cs =>
    obtain ⟨b, c, t, rfl, h2, rl, h3⟩ := r
    exact ⟨b, c, t, rfl, by rw [hw b rfl]; exact h2, RepL.unren h _ _ hb rl, h3⟩
  | acc imm sz rows =>
    obtain ⟨base, cap, rfl, h2, h3, h4, h5⟩ := r
    rw [renR_length] at h2 hw
    refine ⟨base, cap, by rw [renR_length], h2, h3, ?_, fun a0 ha hc => ?_⟩
    · have key : ∀ rs : List (List AV), (∀ r ∈ renR ρ rs, r.length = sz) → ∀ r ∈ rs, r.length = sz := by
        intro rs
        induction rs with
        | nil => intro _ r hr; simp at hr
        | cons q rs ih =>
          intro hl r hr
          simp only [List.mem_cons] at hr
          rcases hr with rfl | hr
          · have := hl (renL ρ r) (by simp [renR]); rw [renL_length] at this; exact this
          · exact ih (fun p hp => hl p (by simp [renR, hp])) r hr
      exact key rows h4
    · obtain ⟨h6, c, t, h7, h8, rl, h9⟩ := h5 a0 ha hc
      subst ha
      rw [renR_length] at rl h9
      rw [renR_flatten] at rl
      exact ⟨h6, c, t, by rw [hw _ ⟨rfl, hc⟩]; exact h7, h8, RepL.unren h _ _ (nbL_flatten hb) rl, h9⟩
  | map es =>
    obtain ⟨r', en, cl, rfl, h2, rp⟩ := r
    exact ⟨r', en, cl, rfl, by rw [hw r' rfl]; exact h2, unrenPairs h hb rp⟩
  | loop k slots st pend =>
    obtain ⟨D, rec, rfl, h1, h2, h3, rl⟩ := r
    exact ⟨D, rec, rfl, by rw [hw (D + 1) (.inl rfl)]; exact h1, by rw [hw D (.inr rfl)]; exact h2, h3, RepL.unren h _ _ hb rl⟩
  | iter s p =>
    obtain ⟨b, rfl, h2⟩ := r
    exact ⟨b, rfl, by rw [hw b rfl]; exact h2⟩
  | dead => trivial

theorem ren_muts {ρ : Nat → Nat} {x : AObj} {h : Value} {b o : Nat} : (x.ren ρ).muts h b o ↔ x.muts h b o := by
  cases x with
  | cells cs => cases h with
    | pointer p => cases p <;> exact Iff.rfl
    | _ => exact Iff.rfl
  | acc imm sz rows => cases h with
    | slice p n c => cases p <;> exact Iff.rfl
    | _ => exact Iff.rfl
  | map es => cases h with
    | map p => cases p <;> exact Iff.rfl
    | _ => exact Iff.rfl
  | loop k slots st pend => cases h with
    | func q _ _ => cases q <;> exact Iff.rfl
    | _ => exact Iff.rfl
  | iter s p => cases h with
    | pointer p => cases p <;> exact Iff.rfl
    | _ => exact Iff.rfl
  | dead => exact Iff.rfl
theorem ren_block {ρ : Nat → Nat} {x : AObj} {h : Value} {b : Nat} : (x.ren ρ).block h b ↔ x.block h b := by
  cases x with
  | cells cs => cases h with
    | pointer p => cases p <;> exact Iff.rfl
    | _ => exact Iff.rfl
  | acc imm sz rows => cases h with
    | slice p n c => cases p <;> exact Iff.rfl
    | _ => exact Iff.rfl
  | map es => cases h with
    | map p => cases p <;> exact Iff.rfl
    | _ => exact Iff.rfl
  | loop k slots st pend => cases h with
    | func q _ _ => cases q <;> exact Iff.rfl
    | _ => exact Iff.rfl
  | iter s p => cases h with
    | pointer p => cases p <;> exact Iff.rfl
    | _ => exact Iff.rfl
  | dead => exact Iff.rfl
theorem ren_accLen {ρ : Nat → Nat} {x : AObj} : accLen (some (x.ren ρ)) = accLen (some x) := by
  cases x <;> simp [accLen, AObj.ren, renR_length]

theorem muts_of_block {x : AObj} {h : Value} {b : Nat} (hb : x.block h b) : ∃ o, x.muts h b o := by
  cases x with
  | cells cs =>
    cases h with
    | pointer p => cases p with
      | none => exact absurd hb id
      | some a => exact ⟨0, hb⟩
    | _ => exact absurd hb id
  | acc imm sz rows =>
    cases h with
    | slice base n cap => cases base with
      | none => exact absurd hb id
      | some a => exact ⟨a.off + n * sz, hb, fun _ => Nat.le_refl _⟩
    | _ => exact absurd hb id
  | map es =>
    cases h with
    | map r => cases r with
      | none => exact absurd hb id
      | some a => exact ⟨0, hb⟩
    | _ => exact absurd hb id
  | loop k slots st pend =>
    cases h with
    | func q _ _ => cases q with
      | yield r => exact ⟨0, hb⟩
      | _ => exact absurd hb id
    | _ => exact absurd hb id
  | iter s p =>
    cases h with
    | pointer p => cases p with
      | none => exact absurd hb id
      | some a => exact ⟨0, hb⟩
    | _ => exact absurd hb id
  | dead => exact absurd hb id

end Go.Abs
namespace Go.Abs
set_option linter.unusedVariables false

theorem quiet_nw {P : Program} {σ : AState} {op : Op} {e : Eff} (hq : quiet op = true) (h : opEff P σ op = some e) : e.nw = [] := by
  cases op with
  | move x => cases h; rfl
  | assign x => cases h; rfl
  | pick c x y => simp only [opEff] at h; split at h <;> cases h; rfl
  | unOp op t x => simp only [opEff] at h; split at h <;> cases h <;> rfl
  | fieldAddr t x i => simp only [opEff] at h; split at h <;> cases h <;> rfl
  | extract x i =>
    simp only [opEff] at h
    split at h
    · split at h <;> cases h; rfl
    · cases h
  | binOp op t x y u =>
    simp only [opEff] at h
    split at h
    · cases h; rfl
    · unfold eqEff nilEff at h
      split at h
      · rename_i he
        split at he
        · split at he <;> cases he; cases h; rfl
        · split at he <;> cases he; cases h; rfl
        · cases he
      unfold aggEff at h
      split at h
      · cases h; rfl
      · cases h; rfl
      · split at h <;> cases h; rfl
      · split at h <;> cases h; rfl
      · split at h <;> cases h; rfl
      · split at h <;> cases h; rfl
      · split at h <;> cases h; rfl
      · split at h <;> cases h; rfl
      · cases h
  | load t x =>
    simp only [opEff] at h
    split at h
    · split at h
      · split at h
        · unfold ldV at h
          split at h
          · split at h <;> cases h; rfl
          · cases h; rfl
        · cases h
      · cases h
    · split at h <;> cases h; rfl
    · split at h
      · split at h
        · split at h
          · split at h <;> cases h; rfl
          · cases h
        · cases h
      · cases h
    · unfold rawLd at h
      split at h
      · split at h
        · rw [Option.bind_eq_some_iff] at h
          obtain ⟨m, _, he⟩ := h
          obtain rfl := Option.some.inj he
          rfl
        · cases h
      · cases h
    · cases h
  | store t x y =>
    simp only [opEff] at h
    split at h
    · split at h
      · split at h <;> cases h; rfl
      · cases h
    · split at h
      · split at h
        · split at h
          · split at h <;> cases h; rfl
          · cases h
        · cases h
      · cases h
    · cases h
  | field t x i =>
    simp only [opEff] at h
    split at h
    · split at h
      · split at h <;> cases h; rfl
      · cases h
    · cases h
  | index t x i =>
    simp only [opEff] at h
    split at h
    · split at h
      · split at h <;> cases h; rfl
      · cases h
    · cases h
  | indexAddr t x i =>
    simp only [opEff] at h
    split at h
    · split at h
      · split at h
        · split at h <;> cases h; rfl
        · cases h
      · split at h
        · split at h
          · split at h <;> cases h; rfl
          · cases h
        · split at h <;> cases h; rfl
        · cases h
      · cases h
    · split at h
      · split at h
        · split at h <;> cases h; rfl
        · split at h
          · rw [Option.bind_eq_some_iff] at h
            obtain ⟨ds, _, he⟩ := h
            obtain rfl := Option.some.inj he
            rfl
          · cases h
        · split at h <;> cases h; rfl
        · cases h
      · cases h
  | _ => simp [quiet] at hq

theorem quiet_wh {P : Program} {σ : AState} {op : Op} {e : Eff} (hq : quiet op = true) (h : opEff P σ op = some e) : e.whole = false := by
  cases op with
  | move x => cases h; rfl
  | assign x => cases h; rfl
  | pick c x y => simp only [opEff] at h; split at h <;> cases h; rfl
  | unOp op t x => simp only [opEff] at h; split at h <;> cases h <;> rfl
  | fieldAddr t x i => simp only [opEff] at h; split at h <;> cases h <;> rfl
  | extract x i =>
    simp only [opEff] at h
    split at h
    · split at h <;> cases h; rfl
    · cases h
  | binOp op t x y u =>
    simp only [opEff] at h
    split at h
    · cases h; rfl
    · unfold eqEff nilEff at h
      split at h
      · rename_i he
        split at he
        · split at he <;> cases he; cases h; rfl
        · split at he <;> cases he; cases h; rfl
        · cases he
      unfold aggEff at h
      split at h
      · cases h; rfl
      · cases h; rfl
      · split at h <;> cases h; rfl
      · split at h <;> cases h; rfl
      · split at h <;> cases h; rfl
      · split at h <;> cases h; rfl
      · split at h <;> cases h; rfl
      · split at h <;> cases h; rfl
      · cases h
  | load t x =>
    simp only [opEff] at h
    split at h
    · split at h
      · split at h
        · unfold ldV at h
          split at h
          · split at h <;> cases h; rfl
          · cases h; rfl
        · cases h
      · cases h
    · split at h <;> cases h; rfl
    · split at h
      · split at h
        · split at h
          · split at h <;> cases h; rfl
          · cases h
        · cases h
      · cases h
    · unfold rawLd at h
      split at h
      · split at h
        · rw [Option.bind_eq_some_iff] at h
          obtain ⟨m, _, he⟩ := h
          obtain rfl := Option.some.inj he
          rfl
        · cases h
      · cases h
    · cases h
  | store t x y =>
    simp only [opEff] at h
    split at h
    · split at h
      · split at h <;> cases h; rfl
      · cases h
    · split at h
      · split at h
        · split at h
          · split at h <;> cases h; rfl
          · cases h
        · cases h
      · cases h
    · cases h
  | field t x i =>
    simp only [opEff] at h
    split at h
    · split at h
      · split at h <;> cases h; rfl
      · cases h
    · cases h
  | index t x i =>
    simp only [opEff] at h
    split at h
    · split at h
      · split at h <;> cases h; rfl
      · cases h
    · cases h
  | indexAddr t x i =>
    simp only [opEff] at h
    split at h
    · split at h
      · split at h
        · split at h <;> cases h; rfl
        · cases h
      · split at h
        · split at h
          · split at h <;> cases h; rfl
          · cases h
        · split at h <;> cases h; rfl
        · cases h
      · cases h
    · split at h
      · split at h
        · split at h <;> cases h; rfl
        · split at h
          · rw [Option.bind_eq_some_iff] at h
            obtain ⟨ds, _, he⟩ := h
            obtain rfl := Option.some.inj he
            rfl
          · cases h
        · split at h <;> cases h; rfl
        · cases h
      · cases h
  | _ => simp [quiet] at hq

mutual
theorem ren_fix {ρ : Nat → Nat} {n : Nat} (hf : ∀ l, l < n → ρ l = l) : ∀ x : AV, x.nb n → x.ren ρ = x
  | .acc l _, h => by rw [AV.ren, hf l h]
  | .own l _ _ _ _, h => by rw [AV.ren, hf l h]
  | .ptr l _, h => by rw [AV.ren, hf l h]
  | .map l, h => by rw [AV.ren, hf l h]
  | .agg cs, h => by rw [AV.ren, renL_fix hf cs h]
  | .tup cs, h => by rw [AV.ren, renL_fix hf cs h]
  | .pp cs, h => by rw [AV.ren, renL_fix hf cs h]
  | .lst _ _ rows, h => by rw [AV.ren, renR_fix hf rows h]
  | .func _ f c, h => by rw [AV.ren, renL_fix hf f h.1, renL_fix hf c h.2]
  | .iface _ x, h => by rw [AV.ren, ren_fix hf x h]
  | .any, _ | .bool _, _ | .int _ _, _ | .str _, _ | .raw _, _ => by rw [AV.ren]
theorem renL_fix {ρ : Nat → Nat} {n : Nat} (hf : ∀ l, l < n → ρ l = l) : ∀ xs : List AV, nbL n xs → renL ρ xs = xs
  | [], _ => rfl
  | x :: xs, h => by rw [renL, ren_fix hf x h.1, renL_fix hf xs h.2]
theorem renR_fix {ρ : Nat → Nat} {n : Nat} (hf : ∀ l, l < n → ρ l = l) : ∀ xs : List (List AV), nbR n xs → renR ρ xs = xs
  | [], _ => rfl
  | x :: xs, h => by rw [renR, renL_fix hf x h.1, renR_fix hf xs h.2]
end
theorem obj_fix {ρ : Nat → Nat} {n : Nat} (hf : ∀ l, l < n → ρ l = l) (x : AObj) (h : objNb n x) : x.ren ρ = x := by
  cases x with
  | cells cs => simp only [AObj.ren, renL_fix hf cs h]
  | acc imm sz rows => simp only [AObj.ren, renR_fix hf rows h]
  | map es =>
    simp only [AObj.ren, AObj.map.injEq]
    have h : ∀ p ∈ es, p.1.nb n ∧ p.2.nb n := h
    induction es with
    | nil => rfl
    | cons p es ih =>
      have hp := h p (by simp)
      rw [List.map_cons, ih (fun q hq => h q (by simp [hq])) (fun q hq => h q (by simp [hq])), ren_fix hf _ hp.1, ren_fix hf _ hp.2]
  | loop k slots st pend => simp only [AObj.ren, renL_fix hf slots h]
  | iter s p => rfl
  | dead => rfl
theorem objNb_le {n m : Nat} (h : n ≤ m) (x : AObj) (hx : objNb n x) : objNb m x := by
  cases x with
  | cells cs => exact nbL_le h _ hx
  | acc imm sz rows => exact nbR_le h _ hx
  | map es => exact fun p hp => ⟨AV.nb_le h _ (hx p hp).1, AV.nb_le h _ (hx p hp).2⟩
  | loop k slots st pend => exact nbL_le h _ hx
  | iter s p => trivial
  | dead => trivial

def tau (n l : Nat) : Nat := if l = n then n + 1 else if l = n + 1 then n else l
theorem tau_tau (n l : Nat) : tau n (tau n l) = l := by unfold tau; split <;> (try split) <;> (try split) <;> (try split) <;> omega
theorem tau_low {n l : Nat} (h : l < n) : tau n l = l := by unfold tau; split <;> (try split) <;> omega
theorem tau_lt {n l : Nat} (h : l < n + 2) : tau n l < n + 2 := by unfold tau; split <;> (try split) <;> omega

theorem tau_get {α : Type} {H : List α} {x y z : α} {l : Nat} (h : (H ++ [x] ++ [y])[l]? = some z) : (H ++ [y] ++ [x])[tau H.length l]? = some z := by
  have hl : l < H.length + 2 := by have := (List.getElem?_eq_some_iff.1 h).1; simpa using this
  rw [List.append_assoc] at h ⊢
  by_cases h1 : l < H.length
  · rw [tau_low h1, List.getElem?_append_left h1]
    rwa [List.getElem?_append_left h1] at h
  · rw [List.getElem?_append_right (by omega)] at h
    by_cases h2 : l = H.length
    · subst h2
      simp only [Nat.sub_self, List.cons_append, List.getElem?_cons_zero] at h
      simp only [tau, if_true]
      rw [List.getElem?_append_right (by omega)]
      simpa using h
    · have h3 : l = H.length + 1 := by omega
      subst h3
      simp only [show H.length + 1 - H.length = 1 by omega, List.cons_append, List.nil_append, List.getElem?_cons_succ, List.getElem?_cons_zero] at h
      simp only [tau, if_true, Nat.add_eq_left, Nat.one_ne_zero, if_false]
      rw [List.getElem?_append_right (by omega)]
      simpa using h

theorem Sim.swap {C : Ctx} {φ : Nat → Value} {a : Act} {w : World} {s : List AV} {H : List AObj} {x y : AObj} {low : Nat} {df : List (FuncId × List AV)} (hdf : dfNb H.length df) (hlow : low ≤ H.length) (hH : ∀ z ∈ H, objNb H.length z) (hx : objNb 0 x) (hy : objNb 0 y)
    (S : Sim C φ ⟨s, H ++ [x] ++ [y], low, df⟩ a w) : Sim C (fun l => φ (tau H.length l)) ⟨renL (tau H.length) s, H ++ [y] ++ [x], low, df⟩ a w := by
  have hobj : ∀ z ∈ H ++ [x] ++ [y], objNb H.length z := by
    intro z hz
    simp only [List.mem_append, List.mem_singleton] at hz
    rcases hz with (hz | rfl) | rfl
    · exact hH z hz
    · exact objNb_le (Nat.zero_le _) _ hx
    · exact objNb_le (Nat.zero_le _) _ hy
  have back : ∀ (l : Nat) (z : AObj), (H ++ [y] ++ [x])[l]? = some z → (H ++ [x] ++ [y])[tau H.length l]? = some z := fun l z h => tau_get h
  have fwd : ∀ (l : Nat) (z : AObj), (H ++ [x] ++ [y])[l]? = some z → (H ++ [y] ++ [x])[tau H.length l]? = some z := fun l z h => tau_get h
  have hmut : ∀ b o, Mut (fun l => φ (tau H.length l)) (H ++ [y] ++ [x]) b o ↔ Mut φ (H ++ [x] ++ [y]) b o := by
    intro b o
    constructor
    · rintro ⟨l, z, hz, hm⟩
      exact ⟨_, z, back l z hz, hm⟩
    · rintro ⟨l, z, hz, hm⟩
      refine ⟨_, z, fwd l z hz, ?_⟩
      simp only [tau_tau]; exact hm
  have ren : RenLe (H.length + 2) (tau H.length) (C.env φ (H ++ [x] ++ [y]) w) (C.env (fun l => φ (tau H.length l)) (H ++ [y] ++ [x]) w) := by
    refine ⟨fun l hl => ?_, fun l hl => ?_, fun b o u hm hc => ⟨?_, hc⟩⟩
    · simp only [Ctx.env, List.length_append, List.length_singleton]; exact tau_lt hl
    · simp only [Ctx.env, tau_tau, true_and]
      have hl' : l < (H ++ [x] ++ [y]).length := by simpa using hl
      have h1 := List.getElem?_eq_getElem hl'
      rw [h1, fwd l _ h1]
      exact .inl rfl
    · simp only [Ctx.env] at hm ⊢
      rw [hmut]; exact hm
  have hdef : DefOK C (fun l => φ (tau H.length l)) (H ++ [y] ++ [x]) w df a.defers := S.defers.step' (fun xs vs ⟨f, hf⟩ r => by
    have := RepL.ren ren xs vs (nbL_le (by omega) _ (hdf _ hf)) r
    rwa [renL_fix (fun l hl => tau_low hl) xs (hdf _ hf)] at this) (fun _ _ _ => rfl) (fun l z b hz hb => .inl ⟨_, z, back l z hz, hb⟩)
  refine { slots := ?_, defers := hdef, objs := ?_, apart := ?_, notA := ?_, size := S.size, old := S.old, oldObj := S.oldObj, inM := ?_, froz := S.froz, rest := S.rest, low := ⟨S.low.1, by simp only [List.length_append, List.length_singleton]; omega⟩, names := ?_ }
  · refine RepL.ren ren _ _ ?_ S.slots
    have := RepL.nb _ _ S.slots
    simpa [Ctx.env] using this
  · intro l z hz
    have h1 := back l z hz
    have hm := hobj z (List.mem_of_getElem? h1)
    have := ObjRep.ren ren (objNb_le (by omega) _ hm) (fun _ _ => rfl) (S.objs _ z h1)
    rw [obj_fix (fun l hl => tau_low hl) z hm] at this
    exact this
  · intro l l' z z' b hz hz' hb hb'
    have := S.apart _ _ z z' b (back l z hz) (back l' z' hz') hb hb'
    have h2 := congrArg (tau H.length) this
    simpa only [tau_tau] using h2
  · intro l z b o hz hb
    exact S.notA _ z b o (back l z hz) hb
  · intro l z b o hz hm
    exact S.inM _ z b o (back l z hz) hm
  · intro l hl
    have hN : C.N0 = low := S.low.1
    have hlt : l < H.length := by omega
    have := S.names l hl
    have e1 : (H ++ [y] ++ [x])[l]? = (H ++ [x] ++ [y])[l]? := by
      rw [List.append_assoc, List.append_assoc, List.getElem?_append_left hlt, List.getElem?_append_left hlt]
    simp only [tau_low hlt] at this ⊢
    rw [e1]
    exact this

theorem objNb_of_rep {E : Env} {x : AObj} {h : Value} (r : ObjRep E x h) (hx : ∀ imm sz rows, x = .acc imm sz rows → (∃ base n cap, h = .slice base n cap ∧ cap ≠ 0 ∧ base ≠ none) ∨ rows = []) : objNb E.n x := by
  cases x with
  | cells cs => obtain ⟨_, _, _, _, _, rl, _⟩ := r; exact RepL.nb _ _ rl
  | acc imm sz rows =>
    rcases hx imm sz rows rfl with ⟨base, n, cap, rfl, hc, hb⟩ | rfl
    · obtain ⟨base', cap', h1, h2, h3, h4, h5⟩ := r
      simp only [Value.slice.injEq] at h1
      obtain ⟨rfl, rfl, rfl⟩ := h1
      cases base with
      | none => exact absurd rfl hb
      | some a0 =>
        obtain ⟨_, c, t, _, _, rl, _⟩ := h5 a0 rfl hc
        have hn := RepL.nb _ _ rl
        have key : ∀ rows : List (List AV), nbL E.n rows.flatten → nbR E.n rows := by
          intro rows
          induction rows with
          | nil => intro _; trivial
          | cons q rs ih =>
            intro this
            simp only [List.flatten_cons] at this
            have split : ∀ (p q : List AV), nbL E.n (p ++ q) → nbL E.n p ∧ nbL E.n q := by
              intro p
              induction p with
              | nil => intro q h; exact ⟨trivial, h⟩
              | cons z p ihp => intro q h; exact ⟨⟨h.1, (ihp q h.2).1⟩, (ihp q h.2).2⟩
            exact ⟨(split _ _ this).1, ih (split _ _ this).2⟩
        exact key rows hn
    · trivial
  | map es => obtain ⟨_, _, _, _, _, rp⟩ := r; exact RepPairs.nb rp
  | loop k slots st pend => obtain ⟨_, _, _, _, _, _, rl⟩ := r; exact RepL.nb _ _ rl
  | iter s p => trivial
  | dead => trivial

theorem objNb_rep {E : Env} {x : AObj} {h : Value} (r : ObjRep E x h) : objNb E.n x := by
  refine objNb_of_rep r ?_
  rintro imm sz rows rfl
  obtain ⟨base, cap, rfl, h2, h3, _⟩ := r
  cases base with
  | none =>
    right
    have := h3 rfl
    exact List.eq_nil_of_length_eq_zero (by omega)
  | some a0 =>
    by_cases hc : cap = 0
    · right; exact List.eq_nil_of_length_eq_zero (by omega)
    · exact .inl ⟨_, _, _, rfl, hc, by simp⟩

theorem tzero_nb {P : Program} {t : TypeId} {z : List AV} (w : World) (h : tzero P t = some z) : nbL 0 z := by
  obtain ⟨v, _, hr, _⟩ := tzero_run (w := w) h
  exact RepL.nb _ _ (hr { w, mu := fun _ _ => False, φ := fun _ => .tuple #[], ln := fun _ => none, n := 0 })
end Go.Abs
namespace Go.Abs
set_option linter.unusedVariables false
section
variable {P : Program} {ops : Array Oper}
theorem plainAlloc_spec {o : Oper} (h : plainAlloc o = true) : ∃ t, o.op = .alloc t ∧ o.guard = none := by
  unfold plainAlloc at h
  simp only [Bool.and_eq_true, Option.isNone_iff_eq_none] at h
  obtain ⟨h1, h2⟩ := h
  cases ho : o.op with
  | alloc t => exact ⟨t, rfl, h2⟩
  | _ => simp [ho] at h1
def newEff (n : Nat) (z : List AV) : Eff := { val := .ptr n 0, nw := [.cells z] }
theorem stepS_alloc {o : Oper} {σ : AState} {t : TypeId} {z : List AV} (ho : o.op = .alloc t) (hg : o.guard = none) (hz : tzero P t = some z) : StepS P ops o σ (fun e => e = newEff σ.heap.length z) := by
  refine .inr (.inl ⟨?_, ?_, newEff σ.heap.length z, ?_, ?_, fun _ => Iff.rfl⟩)
  · unfold wantedA; rw [hg]
  · rw [ho]; rfl
  · rw [ho]; simp only [opEff, hz]; rfl
  · exact trivial
theorem stepS_alloc_inv {o : Oper} {σ : AState} {t : TypeId} {S : Eff → Prop} (ho : o.op = .alloc t) (hg : o.guard = none) (h : StepS P ops o σ S) : ∃ z, tzero P t = some z ∧ ∀ e, S e ↔ e = newEff σ.heap.length z := by
  rcases h with ⟨hw, _⟩ | ⟨_, _, e, he, _, h⟩ | ⟨_, f, args, V, hc, _⟩ | ⟨_, f, args, e, hc, _⟩
  · unfold wantedA at hw; rw [hg] at hw; cases hw
  · rw [ho] at he
    simp only [opEff] at he
    split at he
    · rename_i z hz
      cases he
      exact ⟨z, hz, h⟩
    · cases he
  · rw [ho] at hc; cases hc
  · rw [ho] at hc; cases hc
theorem twinB_spec {p q : Nat} (h : twinB ops p q = true) : p < q ∧ (∃ op oq tp tq, ops[p]? = some op ∧ ops[q]? = some oq ∧ op.op = .alloc tp ∧ oq.op = .alloc tq ∧ op.guard = none ∧ oq.guard = none ∧ depsOf op = [] ∧ depsOf oq = []) ∧
    ∀ k o, ops[k]? = some o → k ≠ p → k ≠ q → quiet o.op = true ∧ orderedB ops p k = orderedB ops q k := by
  unfold twinB at h
  split at h
  · rename_i op oq hp hq
    simp only [Bool.and_eq_true, decide_eq_true_eq, List.isEmpty_iff] at h
    obtain ⟨⟨⟨⟨⟨h1, h2⟩, h3⟩, h4⟩, h5⟩, h6⟩ := h
    obtain ⟨tp, a1, a2⟩ := plainAlloc_spec h1
    obtain ⟨tq, b1, b2⟩ := plainAlloc_spec h2
    refine ⟨h5, ⟨op, oq, tp, tq, hp, hq, a1, b1, a2, b2, h3, h4⟩, fun k o hk n1 n2 => ?_⟩
    rw [List.all_eq_true] at h6
    have := h6 k (by simpa using (Array.getElem?_eq_some_iff.1 hk).1)
    simp only [hk, Bool.or_eq_true, beq_iff_eq, Bool.and_eq_true] at this
    rcases this with (h | h) | h
    · exact absurd h n1
    · exact absurd h n2
    · exact h
  · cases h
theorem ordB_right {i j : Nat} (h1 : orderedB ops i j = false) (h2 : twinB ops i j = false) : ordB ops i j = false := by
  unfold ordB; rw [h1, h2]; rfl
theorem quiet_not_alloc {op : Op} {t : TypeId} (h : quiet op = true) : op ≠ .alloc t := by
  rintro rfl; cases h
theorem quiet_not_call {op : Op} (h : quiet op = true) : isCall op = false := by
  cases op <;> first | rfl | (simp [quiet] at h)
end

section region
variable {C : Ctx} {ops : Array Oper} {Q : AExit → AState → Prop}

theorem depsReady (o : Oper) (listed : Array Bool) : (o.after.all fun e => !Region.binds .any e || listed.getD e.on false) = true ↔ ∀ d ∈ depsOf o, listed.getD d false = true := by
  rw [Array.all_eq_true_iff_forall_mem]
  constructor
  · intro h d hd
    unfold depsOf at hd
    simp only [List.mem_map, List.mem_filter] at hd
    obtain ⟨e, ⟨he, hb⟩, rfl⟩ := hd
    have := h e (by simpa using he)
    simpa [hb] using this
  · intro h e he
    cases hb : Region.binds .any e with
    | false => simp
    | true =>
      have := h e.on (by unfold depsOf; simp only [List.mem_map, List.mem_filter]; exact ⟨e, ⟨by simpa using he, hb⟩, rfl⟩)
      simpa using this
theorem readyMem (listed : Array Bool) (i : Nat) (hsz : listed.size = ops.size) : i ∈ Region.ready .any ops listed ↔ i < ops.size ∧ listed.getD i false = false ∧ ∃ o, ops[i]? = some o ∧ ∀ d ∈ depsOf o, listed.getD d false = true := by
  unfold Region.ready
  simp only [List.mem_filter, List.mem_range]
  constructor
  · rintro ⟨h1, h2⟩
    rw [Bool.and_eq_true] at h2
    have ho : ops[i]? = some ops[i] := Array.getElem?_eq_getElem h1
    refine ⟨h1, ?_, ops[i], ho, ?_⟩
    · have h3 := h2.1
      have hlt : i < listed.size := by omega
      simp only [Array.getD, hlt, dif_pos] at h3 ⊢
      simpa using h3
    · have h3 := h2.2
      rw [ho] at h3
      simp only [Option.map_some, Option.getD_some] at h3
      exact (depsReady _ _).1 h3
  · rintro ⟨h1, h2, o, ho, h3⟩
    refine ⟨h1, ?_⟩
    rw [Bool.and_eq_true]
    constructor
    · have hlt : i < listed.size := by omega
      simp only [Array.getD, hlt, dif_pos] at h2 ⊢
      simpa using h2
    · rw [ho]
      simp only [Option.map_some, Option.getD_some]
      exact (depsReady _ _).2 h3
theorem order_listed (hok : drawOK ops = true) {listed : Array Bool} (hcl : ∀ j o, ops[j]? = some o → listed.getD j false = true → ∀ d ∈ depsOf o, listed.getD d false = true) {i r : Nat} {oi : Oper} (hoi : ops[i]? = some oi)
    (hdeps : ∀ d ∈ depsOf oi, listed.getD d false = true) (hq : orderedB ops r i = true) : listed.getD r false = true := by
  obtain ⟨_, hspec⟩ := drawOK_spec hok
  exact reachM_spec (L := fun d => listed.getD d false = true) (all := ops.toList) (fun j o hj hL => hcl j o (by simpa using hj) hL) ops.toList [] (by simp) (by simp) (fun k o hk => (hspec k o (by simpa using hk)).1) i oi (by simpa using hoi) hdeps r hq
theorem listed_next {listed : Array Bool} {i : Nat} {oi : Oper} (hoi : ops[i]? = some oi) (hdeps : ∀ d ∈ depsOf oi, listed.getD d false = true) (hcl : ∀ j o, ops[j]? = some o → listed.getD j false = true → ∀ d ∈ depsOf o, listed.getD d false = true) :
    ∀ j o, ops[j]? = some o → (listed.setIfInBounds i true).getD j false = true → ∀ d ∈ depsOf o, (listed.setIfInBounds i true).getD d false = true := by
  intro j o' hj hL d hd
  by_cases e : j = i
  · subst e
    rw [hoi] at hj; cases hj
    exact getD_set_true (hdeps d hd)
  · rw [getD_set_ne false (fun e' => e e'.symm)] at hL
    exact getD_set_true (hcl j o' hj hL d hd)
theorem listed_at {listed : Array Bool} {i : Nat} (h : i < listed.size) : (listed.setIfInBounds i true).getD i false = true := by
  simp [Array.getD, h]

structure Front (ops : Array Oper) (R : List Nat) (listed : Array Bool) : Prop where
  pw : R.Pairwise (· < ·)
  sz : listed.size = ops.size
  mem : ∀ i, i ∈ R ↔ i < ops.size ∧ listed.getD i false = false
  cl : ∀ j o, ops[j]? = some o → listed.getD j false = true → ∀ d ∈ depsOf o, listed.getD d false = true

theorem Front.next {R : List Nat} {listed : Array Bool} (F : Front ops R listed) {i : Nat} {oi : Oper} (hoi : ops[i]? = some oi) (hdeps : ∀ d ∈ depsOf oi, listed.getD d false = true) : Front ops (R.erase i) (listed.setIfInBounds i true) := by
  refine ⟨F.pw.erase i, by simpa using F.sz, fun k => ?_, listed_next hoi hdeps F.cl⟩
  have hnd : R.Nodup := F.pw.imp (fun h => Nat.ne_of_lt h)
  have hi : i < listed.size := by have := (Array.getElem?_eq_some_iff.1 hoi).1; rw [F.sz]; exact this
  rw [hnd.mem_erase_iff, F.mem k]
  constructor
  · rintro ⟨hne, h1, h2⟩
    refine ⟨h1, ?_⟩
    rw [getD_set_ne false (fun e => hne e.symm)]; exact h2
  · rintro ⟨h1, h2⟩
    have hne : k ≠ i := by
      intro e
      subst e
      rw [listed_at hi] at h2; cases h2
    refine ⟨hne, h1, ?_⟩
    rw [getD_set_ne false (fun e => hne e.symm)] at h2; exact h2

theorem draw_pend {ro : Option Nat} (hok : drawOK ops = true) {p q : Nat} (htw : twinB ops p q = true) (fuel : Nat)
    (back : ∀ (f : Nat) (R : List Nat) (listed : Array Bool) (φ : Nat → Value) (σ : AState) (a : Act) (w : World), f ≤ fuel → R.length = f → Front ops R listed → (p ∉ R) → Sim C φ σ a w → awpD C.P ops (Q .normal) R [] σ → wpAnyIn (fence ro) 0 C.P .any ops (QC C Q) f listed a w)
    {oq : Oper} {tq : TypeId} {zq : List AV} (hoq : ops[q]? = some oq) (htq : oq.op = .alloc tq) (hgq : oq.guard = none) (hzq : tzero C.P tq = some zq) :
    ∀ (f : Nat) (R : List Nat) (listed : Array Bool) (φ φ0 : Nat → Value) (σ : AState) (a a0 : Act) (w w0 : World), f ≤ fuel → R.length = f + 1 → R.Pairwise (· < ·) → listed.size = ops.size → p ∈ R → q ∈ R → listed.getD q false = true →
    (∀ i, i ∈ R ↔ i < ops.size ∧ (listed.getD i false = false ∨ i = q)) → (∀ j o, ops[j]? = some o → listed.getD j false = true → ∀ d ∈ depsOf o, listed.getD d false = true) →
    Sim C φ (σ.app oq.dst (newEff σ.heap.length zq)) a w → Sim C φ0 σ a0 w0 → awpD C.P ops (Q .normal) R [] σ → wpAnyIn (fence ro) 0 C.P .any ops (QC C Q) f listed a w := by
  obtain ⟨hpq, ⟨op, oq', tp, tq', hop, hoq', htp, htq', hgp, hgq', hdp, hdq⟩, hoth⟩ := twinB_spec htw
  rw [hoq] at hoq'; cases hoq'
  obtain ⟨_, hspec⟩ := drawOK_spec hok
  intro f
  induction f with
  | zero =>
    intro R listed φ φ0 σ a a0 w w0 hf hlen hpw hsz hpR hqR hlq hR hcl S S0 h
    exfalso
    match R, hlen with
    | [x], _ =>
      simp only [List.mem_singleton] at hpR hqR
      omega
  | succ f ih =>
    intro R listed φ φ0 σ a a0 w w0 hf hlen hpw hsz hpR hqR hlq hR hcl S S0 h
    have hnd : R.Nodup := hpw.imp (fun h => Nat.ne_of_lt h)
    have hpl : listed.getD p false = false := by
      rcases ((hR p).1 hpR).2 with h | h
      · exact h
      · omega
    have hps : p < ops.size := ((hR p).1 hpR).1
    refine ⟨?_, ?_⟩
    · intro hempty
      exfalso
      have : p ∈ Region.ready .any ops listed := (readyMem listed p hsz).2 ⟨hps, hpl, op, hop, by rw [hdp]; intro d hd; cases hd⟩
      rw [hempty] at this; cases this
    · intro i hi
      rw [readyMem listed i hsz] at hi
      obtain ⟨hi1, hi2, oi, hoi, hdeps⟩ := hi
      have hiq : i ≠ q := by rintro rfl; rw [hlq] at hi2; cases hi2
      have hiR : i ∈ R := (hR i).2 ⟨hi1, .inl hi2⟩
      have hnoO : ∀ r ∈ R, orderedB ops r i = false := by
        intro r hr
        cases hq' : orderedB ops r i with
        | false => rfl
        | true =>
          exfalso
          have hl := order_listed hok hcl hoi hdeps hq'
          rcases ((hR r).1 hr).2 with h | h
          · rw [hl] at h; cases h
          · subst h
            by_cases e : i = p
            · subst e
              rw [hop] at hoi; cases hoi
              have := order_listed hok (listed := Array.replicate ops.size false) (by intro j o _ hj; rw [getD_replicate_false'] at hj; cases hj) hop (by rw [hdp]; intro d hd; cases hd) hq'
              rw [getD_replicate_false'] at this; cases this
            · have := (hoth i oi hoi e hiq).2
              rw [hq'] at this
              have hl := order_listed hok hcl hoi hdeps this
              rw [hpl] at hl; cases hl
      by_cases eip : i = p
      · -- the first one at last
        subst eip
        rw [hop] at hoi; cases hoi
        have hno : ∀ r ∈ R, r < i → ordB ops r i = false := by
          intro r hr hlt
          refine ordB_right (hnoO r hr) ?_
          cases ht : twinB ops r i with
          | false => rfl
          | true =>
            exfalso
            obtain ⟨_, ⟨o1, _, t1, _, ho1, _, ht1, _⟩, _⟩ := twinB_spec ht
            exact quiet_not_alloc (hoth r o1 ho1 (by omega) (by omega)).1 ht1
        obtain ⟨o1, E1, ho1, hst1, hE1⟩ := pull hok h hiR hpw hno
        rw [hop] at ho1; cases ho1
        obtain ⟨zp, hzp, hd1⟩ := stepS_alloc_inv htp hgp hst1
        obtain ⟨_, h1⟩ := hE1 _ ((hd1 _).2 rfl)
        have hqR' : q ∈ R.erase i := (hnd.mem_erase_iff).2 ⟨by omega, hqR⟩
        obtain ⟨o2, E2, ho2, hst2, hE2⟩ := pull hok h1 hqR' (hpw.erase i) (by
          intro r hr hlt
          have hr' := List.mem_of_mem_erase hr
          have hri : r ≠ i := fun e => by subst e; exact (hnd.not_mem_erase) hr
          refine ordB_right ?_ ?_
          · cases ho' : orderedB ops r q with
            | false => rfl
            | true =>
              exfalso
              have := order_listed hok (listed := Array.replicate ops.size false) (by intro j o _ hj; rw [getD_replicate_false'] at hj; cases hj) hoq (by rw [hdq]; intro d hd; cases hd) ho'
              rw [getD_replicate_false'] at this; cases this
          · cases ht : twinB ops r q with
            | false => rfl
            | true =>
              exfalso
              obtain ⟨_, ⟨o1, _, t1, _, ho1, _, ht1, _⟩, _⟩ := twinB_spec ht
              exact quiet_not_alloc (hoth r o1 ho1 hri (by omega)).1 ht1)
        rw [hoq] at ho2; cases ho2
        obtain ⟨zq', hzq', hd2⟩ := stepS_alloc_inv htq hgq hst2
        rw [hzq] at hzq'; cases hzq'
        obtain ⟨_, h2⟩ := hE2 _ ((hd2 _).2 rfl)
        refine step_sound S hop (stepS_alloc htp hgp hzp) ?_
        rintro e φ' v w' rfl S'
        have hoQ : orderedB ops i q = false := by
          cases ho' : orderedB ops i q with
          | false => rfl
          | true =>
            exfalso
            have := order_listed hok (listed := Array.replicate ops.size false) (by intro j o _ hj; rw [getD_replicate_false'] at hj; cases hj) hoq (by rw [hdq]; intro d hd; cases hd) ho'
            rw [getD_replicate_false'] at this; cases this
        obtain ⟨hapart, _⟩ := (hspec q oq hoq).2 i op hpq hop hoQ
        obtain ⟨_, ap2, _⟩ := Oper.apart_spec hapart
        have hsl : nbL σ.heap.length σ.slots := RepL.nb _ _ S0.slots
        have hob : ∀ z ∈ σ.heap, objNb σ.heap.length z := by
          intro z hz
          obtain ⟨l, hl⟩ := List.getElem?_of_mem hz
          exact objNb_rep (S0.objs l z hl)
        have S2 := Sim.swap (s := ((σ.app oq.dst (newEff σ.heap.length zq)).app op.dst (newEff (σ.app oq.dst (newEff σ.heap.length zq)).heap.length zp)).slots) (H := σ.heap) (x := .cells zq) (y := .cells zp) (low := σ.low) (df := σ.df) (RepDf.nb S0.defers.2.2) S0.low.2 hob (tzero_nb w0 hzq) (tzero_nb w0 hzp) (by
          have e : (σ.app oq.dst (newEff σ.heap.length zq)).app op.dst (newEff (σ.app oq.dst (newEff σ.heap.length zq)).heap.length zp) = ⟨((σ.app oq.dst (newEff σ.heap.length zq)).app op.dst (newEff (σ.app oq.dst (newEff σ.heap.length zq)).heap.length zp)).slots, σ.heap ++ [.cells zq] ++ [.cells zp], σ.low, σ.df⟩ := by
            cases oq.dst <;> cases op.dst <;> simp [AState.app, AState.put, newEff, applyUps]
          rw [← e]; exact S')
        have e2 : (⟨renL (tau σ.heap.length) ((σ.app oq.dst (newEff σ.heap.length zq)).app op.dst (newEff (σ.app oq.dst (newEff σ.heap.length zq)).heap.length zp)).slots, σ.heap ++ [.cells zp] ++ [.cells zq], σ.low, σ.df⟩ : AState)
            = (σ.app op.dst (newEff σ.heap.length zp)).app oq.dst (newEff (σ.app op.dst (newEff σ.heap.length zp)).heap.length zq) := by
          have hren := renL_fix (ρ := tau σ.heap.length) (fun l hl => tau_low hl) σ.slots hsl
          have hset : ∀ (d : Nat) (c : AV) (cs : List AV), renL (tau σ.heap.length) (cs.set d c) = (renL (tau σ.heap.length) cs).set d (c.ren (tau σ.heap.length)) := by
            intro d c cs
            induction cs generalizing d with
            | nil => simp [renL]
            | cons x cs ih => cases d with
              | zero => simp [renL]
              | succ d => simp [renL, ih]
          have hlen1 : (σ.app oq.dst (newEff σ.heap.length zq)).heap.length = σ.heap.length + 1 := by simp [AState.app, newEff, applyUps]
          have hlen2 : (σ.app op.dst (newEff σ.heap.length zp)).heap.length = σ.heap.length + 1 := by simp [AState.app, newEff, applyUps]
          have t0 : tau σ.heap.length σ.heap.length = σ.heap.length + 1 := by simp [tau]
          have t1 : tau σ.heap.length (σ.heap.length + 1) = σ.heap.length := by simp [tau]
          rw [hlen1, hlen2]
          cases h1 : oq.dst with
          | none => cases h2 : op.dst with
            | none => simp [AState.app, AState.put, newEff, applyUps, hren]
            | some dp => simp [AState.app, AState.put, newEff, applyUps, hren, hset, AV.ren, t0, t1]
          | some dq => cases h2 : op.dst with
            | none => simp [AState.app, AState.put, newEff, applyUps, hren, hset, AV.ren, t0, t1]
            | some dp =>
              have hne : dp ≠ dq := fun e => ap2 dp h2 (by rw [h1, e])
              simp only [AState.app, AState.put, newEff, applyUps, hren, hset, AV.ren, t0, t1, List.nil_append, List.append_nil]
              rw [List.set_comm _ _ hne]
        rw [e2] at S2
        have hF : Front ops ((R.erase i).erase q) (listed.setIfInBounds i true) := by
          refine ⟨(hpw.erase i).erase q, by simpa using hsz, fun k => ?_, listed_next hop hdeps hcl⟩
          have hnd' : (R.erase i).Nodup := hnd.erase i
          rw [hnd'.mem_erase_iff, hnd.mem_erase_iff, hR k]
          constructor
          · rintro ⟨hne, hne2, h1, h2⟩
            refine ⟨h1, ?_⟩
            rw [getD_set_ne false (fun e => hne2 e.symm)]
            rcases h2 with h2 | h2
            · exact h2
            · exact absurd h2 hne
          · rintro ⟨h1, h2⟩
            have hne : k ≠ i := by
              intro e
              subst e
              rw [listed_at (by rw [hsz]; exact hi1)] at h2; cases h2
            rw [getD_set_ne false (fun e => hne e.symm)] at h2
            refine ⟨?_, hne, h1, .inl h2⟩
            intro ekq
            rw [ekq, hlq] at h2; cases h2
        refine back f _ _ _ _ _ w' (by omega) ?_ hF ?_ S2 (awpD_sub (by simp) h2)
        · rw [List.length_erase_of_mem hqR', List.length_erase_of_mem hiR]; omega
        · intro hm
          exact (hnd.not_mem_erase) (List.mem_of_mem_erase hm)
      · -- another one
        obtain ⟨hqi, _⟩ := hoth i oi hoi eip hiq
        have hno : ∀ r ∈ R, r < i → ordB ops r i = false := by
          intro r hr hlt
          refine ordB_right (hnoO r hr) ?_
          cases ht : twinB ops r i with
          | false => rfl
          | true =>
            exfalso
            obtain ⟨_, ⟨_, o1, _, t1, _, ho1, _, ht1, _⟩, _⟩ := twinB_spec ht
            rw [hoi] at ho1; cases ho1
            exact quiet_not_alloc hqi ht1
        obtain ⟨o1, E1, ho1, hst1, hE1⟩ := pull hok h hiR hpw hno
        rw [hoi] at ho1; cases ho1
        have hnw : ∀ e, E1 e → e.nw = [] := by
          intro e he
          rcases hst1 with ⟨_, h⟩ | ⟨_, _, e', he', _, h⟩ | ⟨_, f', args, V, hc, _, _, _⟩ | ⟨_, f', args, _, hc, _, _⟩
          · rw [(h e).1 he]
          · rw [(h e).1 he]; exact quiet_nw hqi he'
          · exfalso
            have := quiet_not_call hqi
            unfold calleeOf at hc
            split at hc
            · rename_i ho'; rw [ho'] at this; simp [isCall] at this
            · cases hc
          · exfalso
            have := quiet_not_call hqi
            unfold calleeOf at hc
            split at hc
            · rename_i ho'; rw [ho'] at this; simp [isCall] at this
            · cases hc
        have hwh : ∀ e, E1 e → e.whole = false := by
          intro e he
          rcases hst1 with ⟨_, h⟩ | ⟨_, _, e', he', _, h⟩ | ⟨_, f', args, V, hc, _, _, _⟩ | ⟨_, f', args, _, hc, _, _⟩
          · rw [(h e).1 he]
          · rw [(h e).1 he]; exact quiet_wh hqi he'
          · exfalso
            have := quiet_not_call hqi
            unfold calleeOf at hc
            split at hc
            · rename_i ho'; rw [ho'] at this; simp [isCall] at this
            · cases hc
          · exfalso
            have := quiet_not_call hqi
            unfold calleeOf at hc
            split at hc
            · rename_i ho'; rw [ho'] at this; simp [isCall] at this
            · cases hc
        have hap : (∀ d, oq.dst = some d → d ∉ oi.looksAt ops) ∧ (∀ d, oi.dst = some d → oq.dst ≠ some d) := by
          rcases Nat.lt_or_gt_of_ne hiq with hlt | hgt
          · have ho' : orderedB ops i q = false := by
              cases ho' : orderedB ops i q with
              | false => rfl
              | true =>
                exfalso
                have := order_listed hok (listed := Array.replicate ops.size false) (by intro j o _ hj; rw [getD_replicate_false'] at hj; cases hj) hoq (by rw [hdq]; intro d hd; cases hd) ho'
                rw [getD_replicate_false'] at this; cases this
            obtain ⟨hap, _⟩ := (hspec q oq hoq).2 i oi hlt hoi ho'
            obtain ⟨x1, x2, x3⟩ := Oper.apart_spec hap
            exact ⟨x3, x2⟩
          · obtain ⟨hap, _⟩ := (hspec i oi hoi).2 q oq hgt hoq (hnoO q hqR)
            obtain ⟨x1, x2, x3⟩ := Oper.apart_spec hap
            exact ⟨x1, fun d hd hd' => x2 d hd' hd⟩
        have hind : ∀ e, E1 e → indepB ⟨i, σ.heap.length, e⟩ (newEff σ.heap.length zq) = true := by
          intro e he
          simp [indepB, newEff, disjointB, hnw e he, hwh e he]
        have hfw : StepS C.P ops oi (σ.app oq.dst (newEff σ.heap.length zq)) E1 := hst1.fwd (j := i) hap.1 hind
        refine step_sound S hoi hfw ?_
        intro e φ' v w' he S'
        obtain ⟨_, hrest⟩ := hE1 e he
        have hcomm := app_comm (d := oi.dst) (d' := oq.dst) (j := i) hap.2 (hind e he) (hst1.lt he).2 (by simp [newEff])
        have hle : (σ.app oi.dst e).heap.length = σ.heap.length := by simp [AState.app, hnw e he, applyUps_length]
        rw [← hcomm] at S'
        have hg : ∃ φ1 a1 w1, Sim C φ1 (σ.app oi.dst e) a1 w1 := by
          rcases hst1 with ⟨_, h⟩ | ⟨_, _, e', he', hp, h⟩ | ⟨_, f', args, V, hc, _, _, _⟩ | ⟨_, f', args, _, hc, _, _⟩
          · rw [(h e).1 he, app_val]
            exact ⟨φ0, _, w0, S0.put oi.dst (v := undef) rfl⟩
          · rw [(h e).1 he]
            obtain ⟨_, v1, w1, φ1, _, _, S1⟩ := opEff_sound S0 he' hp
            exact ⟨φ1, _, w1, S1⟩
          · exfalso
            have := quiet_not_call hqi
            unfold calleeOf at hc
            split at hc
            · rename_i ho'; rw [ho'] at this; simp [isCall] at this
            · cases hc
          · exfalso
            have := quiet_not_call hqi
            unfold calleeOf at hc
            split at hc
            · rename_i ho'; rw [ho'] at this; simp [isCall] at this
            · cases hc
        obtain ⟨φ1, a1, w1, S1⟩ := hg
        rw [← hle] at S'
        refine ih (R.erase i) _ φ' φ1 (σ.app oi.dst e) _ a1 w' w1 (by omega) ?_ (hpw.erase i) (by simpa using hsz) ((hnd.mem_erase_iff).2 ⟨fun e' => eip e'.symm, hpR⟩) ((hnd.mem_erase_iff).2 ⟨fun e' => hiq e'.symm, hqR⟩) ?_ ?_ (listed_next hoi hdeps hcl) S' S1 hrest
        · rw [List.length_erase_of_mem hiR]; omega
        · exact getD_set_true hlq
        · intro k
          rw [hnd.mem_erase_iff, hR k]
          constructor
          · rintro ⟨hne, h1, h2⟩
            refine ⟨h1, ?_⟩
            rw [getD_set_ne false (fun e => hne e.symm)]; exact h2
          · rintro ⟨h1, h2⟩
            have hne : k ≠ i := by
              intro e'
              subst e'
              rcases h2 with h2 | h2
              · rw [listed_at (by rw [hsz]; exact hi1)] at h2; cases h2
              · exact hiq h2
            refine ⟨hne, h1, ?_⟩
            rw [getD_set_ne false (fun e => hne e.symm)] at h2; exact h2

theorem draw_any {ro : Option Nat} (hok : drawOK ops = true) : ∀ (fuel : Nat) (R : List Nat) (listed : Array Bool) (φ : Nat → Value) (σ : AState) (a : Act) (w : World), R.length = fuel → Front ops R listed →
    Sim C φ σ a w → awpD C.P ops (Q .normal) R [] σ → wpAnyIn (fence ro) 0 C.P .any ops (QC C Q) fuel listed a w := by
  obtain ⟨_, hspec⟩ := drawOK_spec hok
  intro fuel
  induction fuel using Nat.strongRecOn with
  | ind fuel ih =>
    intro R listed φ σ a w hl F S h
    have hpw := F.pw
    have hsz := F.sz
    have hR := F.mem
    have hnd : R.Nodup := hpw.imp (fun h => Nat.ne_of_lt h)
    cases fuel with
    | zero =>
      have hR0 : R = [] := List.eq_nil_of_length_eq_zero hl
      subst hR0
      refine ⟨?_, φ, σ, S, h⟩
      rw [List.eq_nil_iff_forall_not_mem]
      intro i hi
      rw [readyMem listed i hsz] at hi
      have := (hR i).2 ⟨hi.1, hi.2.1⟩
      simp at this
    | succ fuel =>
      refine ⟨?_, ?_⟩
      · intro hempty
        exfalso
        cases R with
        | nil => simp at hl
        | cons r R =>
          have hr := (hR r).1 (by simp)
          have ho : ops[r]? = some ops[r] := Array.getElem?_eq_getElem hr.1
          have : r ∈ Region.ready .any ops listed := by
            rw [readyMem listed r hsz]
            refine ⟨hr.1, hr.2, _, ho, fun d hd => ?_⟩
            have hdr := (hspec r _ ho).1 d hd
            cases hld : listed.getD d false with
            | true => rfl
            | false =>
              have hdR := (hR d).2 ⟨by omega, hld⟩
              rw [List.pairwise_cons] at hpw
              simp only [List.mem_cons] at hdR
              rcases hdR with rfl | hdR
              · omega
              · have := hpw.1 d hdR; omega
          rw [hempty] at this
          simp at this
      · intro i hi
        rw [readyMem listed i hsz] at hi
        obtain ⟨hi1, hi2, oi, hoi, hdeps⟩ := hi
        have hiR := (hR i).2 ⟨hi1, hi2⟩
        have hnoO : ∀ r ∈ R, orderedB ops r i = false := by
          intro r hr
          cases hq : orderedB ops r i with
          | false => rfl
          | true =>
            exfalso
            have := order_listed hok F.cl hoi hdeps hq
            have hr' := ((hR r).1 hr).2
            rw [hr'] at this; cases this
        by_cases htw : ∃ p ∈ R, twinB ops p i = true
        · obtain ⟨p, hpR, htw⟩ := htw
          obtain ⟨hpi, ⟨op, oq, tp, tq, hop, hoq, htp, htq, hgp, hgq, hdp, hdq⟩, hoth⟩ := twinB_spec htw
          rw [hoi] at hoq; cases hoq
          have hpl := ((hR p).1 hpR).2
          -- both can be made: the first one first
          obtain ⟨o1, E1, ho1, hst1, hE1⟩ := pull hok h hpR hpw (by
            intro r hr hlt
            refine ordB_right ?_ ?_
            · cases ho' : orderedB ops r p with
              | false => rfl
              | true =>
                exfalso
                have := order_listed hok (listed := Array.replicate ops.size false) (by intro j o _ hj; rw [getD_replicate_false'] at hj; cases hj) hop (by rw [hdp]; intro d hd; cases hd) ho'
                rw [getD_replicate_false'] at this; cases this
            · cases ht : twinB ops r p with
              | false => rfl
              | true =>
                exfalso
                obtain ⟨_, ⟨o1, _, t1, _, ho1, _, ht1, _⟩, _⟩ := twinB_spec ht
                exact quiet_not_alloc (hoth r o1 ho1 (by omega) (by omega)).1 ht1)
          rw [hop] at ho1; cases ho1
          obtain ⟨zp, hzp, hd1⟩ := stepS_alloc_inv htp hgp hst1
          obtain ⟨_, h1⟩ := hE1 _ ((hd1 _).2 rfl)
          have hqR' : i ∈ R.erase p := (hnd.mem_erase_iff).2 ⟨by omega, hiR⟩
          obtain ⟨o2, E2, ho2, hst2, hE2⟩ := pull hok h1 hqR' (hpw.erase p) (by
            intro r hr hlt
            have hr' := List.mem_of_mem_erase hr
            have hrp : r ≠ p := fun e => by subst e; exact (hnd.not_mem_erase) hr
            refine ordB_right (hnoO r hr') ?_
            cases ht : twinB ops r i with
            | false => rfl
            | true =>
              exfalso
              obtain ⟨_, ⟨o1, _, t1, _, ho1, _, ht1, _⟩, _⟩ := twinB_spec ht
              exact quiet_not_alloc (hoth r o1 ho1 hrp (by omega)).1 ht1)
          rw [hoi] at ho2; cases ho2
          obtain ⟨zq, hzq, _⟩ := stepS_alloc_inv htq hgq hst2
          refine step_sound S hoi (stepS_alloc htq hgq hzq) ?_
          rintro e φ' v w' rfl S'
          refine draw_pend hok htw fuel (fun f R' listed' φ' σ' a' w' hf hl' F' _ S' h' => ih f (by omega) R' listed' φ' σ' a' w' hl' F' S' h') hoi htq hgq hzq fuel R _ φ' φ σ _ a w' w (Nat.le_refl _) hl hpw (by simpa using hsz) hpR hiR (listed_at (by rw [hsz]; exact hi1)) ?_ (listed_next hoi hdeps F.cl) S' S h
          intro k
          rw [hR k]
          by_cases hk : k = i
          · subst hk
            constructor
            · rintro ⟨h1, _⟩; exact ⟨h1, .inr rfl⟩
            · rintro ⟨h1, _⟩; exact ⟨h1, hi2⟩
          · rw [getD_set_ne false (fun e => hk e.symm)]
            constructor
            · rintro ⟨h1, h2⟩; exact ⟨h1, .inl h2⟩
            · rintro ⟨h1, h2 | h2⟩
              · exact ⟨h1, h2⟩
              · exact absurd h2 hk
        · have hno : ∀ r ∈ R, r < i → ordB ops r i = false := by
            intro r hr _
            refine ordB_right (hnoO r hr) ?_
            cases ht : twinB ops r i with
            | false => rfl
            | true => exact absurd ⟨r, hr, ht⟩ htw
          obtain ⟨o, E, ho, hst, hE⟩ := pull hok h hiR hpw hno
          refine step_sound S ho hst ?_
          intro e φ' v w' he S'
          obtain ⟨_, hrest⟩ := hE e he
          refine ih fuel (by omega) (R.erase i) _ φ' _ _ w' ?_ (F.next hoi hdeps) S' hrest
          rw [List.length_erase_of_mem hiR]; omega

theorem awpD_sound {ro : Option Nat} {φ : Nat → Value} {σ : AState} {a : Act} {w : World} {id : Nat} (hm : C.P.follows .mixedOrders = true) (hok : drawOK ops = true) (h : awpD C.P ops (Q .normal) (List.range ops.size) [] σ) (S : Sim C φ σ a w) :
    (Code.region id ops true).wpIn (fence ro) 0 C.P (QC C Q) a w := by
  refine wpIn_region_any hm ?_
  refine draw_any hok ops.size (List.range ops.size) _ φ σ a _ (by simp) ⟨List.pairwise_lt_range, by simp, ?_, ?_⟩ (S.drew _) h
  · intro i
    simp only [List.mem_range]
    constructor
    · intro hi; exact ⟨hi, getD_replicate_false' _ _⟩
    · exact fun h => h.1
  · intro j o hj hL
    rw [getD_replicate_false'] at hL; cases hL
end region
end Go.Abs
namespace Go.Abs
set_option linter.unusedVariables false
section
variable {P : Program} {ops : Array Oper} {c : Nat} {H H' : List AObj} {x : AV}

def PanC (P : Program) (f : FuncId) (args : List AV) (H : List AObj) (x : AV) (H' : List AObj) : Prop := ∀ σ' : AState, σ'.heap = H → CallA P f args σ' (fun o H2 => o = .panic x ∧ H2 = H')

def StepI (P : Program) (ops : Array Oper) (c : Nat) (H : List AObj) (x : AV) (H' : List AObj) (j : Nat) (o : Oper) (σ : AState) (v : AV) : Prop :=
  σ.heap = H ∧ ((j = c ∧ wantedA ops o σ = some true ∧ ∃ f args, calleeOf σ o.op = some (f, args) ∧ PanC P f args H x H') ∨
    orderedB ops c j = true ∨
    (j ≠ c ∧ ∃ e : Eff, e.up = [] ∧ e.nw = [] ∧ e.val = v ∧ StepS P ops o σ (fun e' => e' = e)))

def awpI (P : Program) (ops : Array Oper) (c : Nat) (H : List AObj) (x : AV) (H' : List AObj) : List Nat → AState → Prop
  | [], _ => True
  | j :: rest, σ => ∃ o v, ops[j]? = some o ∧ StepI P ops c H x H' j o σ v ∧ awpI P ops c H x H' rest (σ.put o.dst v)

theorem put_heap (σ : AState) (d : Option Tmp) (v : AV) : (σ.put d v).heap = σ.heap := by cases d <;> rfl
theorem put_ev {σ : AState} {d : Option Tmp} {v : AV} {y : Operand} (h : ∀ t, d = some t → y ≠ .tmp t) : (σ.put d v).ev y = σ.ev y := by
  have := app_ev (σ := σ) (dst := d) (e := { val := v }) h
  rwa [app_val] at this
theorem put_slots {σ : AState} {d : Option Tmp} {v : AV} {t : Nat} (h : ∀ t', d = some t' → t ≠ t') : (σ.put d v).slots[t]? = σ.slots[t]? := by
  have := app_slots (σ := σ) (dst := d) (e := { val := v }) h
  rwa [app_val] at this
theorem put_comm {σ : AState} {d d' : Option Tmp} {v v' : AV} (h : ∀ t, d = some t → d' ≠ some t) : (σ.put d v).put d' v' = (σ.put d' v').put d v := by
  cases d with
  | none => cases d' <;> rfl
  | some t => cases d' with
    | none => rfl
    | some t' =>
      have hne : t ≠ t' := fun e => h t rfl (by rw [e])
      simp only [AState.put]
      rw [List.set_comm _ _ hne]

theorem StepI.move {j : Nat} {o : Oper} {σ σ' : AState} {v : AV} (h : StepI P ops c H x H' j o σ v) (hh : σ'.heap = σ.heap) (hev : ∀ y ∈ o.op.operands, σ'.ev y = σ.ev y) (hw : wantedA ops o σ' = wantedA ops o σ) : StepI P ops c H x H' j o σ' v := by
  obtain ⟨h0, h⟩ := h
  refine ⟨hh.trans h0, ?_⟩
  rcases h with ⟨h1, h2, f, args, h3, h4⟩ | h1 | ⟨h1, e, h2, h3, h4, h5⟩
  · exact .inl ⟨h1, by rw [hw]; exact h2, f, args, by rw [calleeOf_congr hev]; exact h3, h4⟩
  · exact .inr (.inl h1)
  · exact .inr (.inr ⟨h1, e, h2, h3, h4, h5.local hev hw (fun _ _ => ⟨⟨fun _ _ => by rw [hh], fun _ => by rw [hh]⟩, fun _ => hh⟩)⟩)

theorem pullI (hok : drawOK ops = true) {i : Nat} : ∀ {R : List Nat} {σ : AState}, awpI P ops c H x H' R σ → i ∈ R → R.Pairwise (· < ·) → (∀ r ∈ R, r < i → orderedB ops r i = false) →
    ∃ o v, ops[i]? = some o ∧ StepI P ops c H x H' i o σ v ∧ awpI P ops c H x H' (R.erase i) (σ.put o.dst v)
  | [], _, _, hi, _, _ => by simp at hi
  | r :: R, σ, ⟨or', vr, hor, hst, h⟩, hi, hpw, hord => by
    by_cases e : r = i
    · subst e
      refine ⟨or', vr, hor, hst, ?_⟩
      rw [List.erase_cons_head]; exact h
    · have hiR : i ∈ R := by
        simp only [List.mem_cons] at hi
        rcases hi with h | h
        · exact absurd h.symm e
        · exact h
      rw [List.pairwise_cons] at hpw
      have hri : r < i := hpw.1 i hiR
      obtain ⟨oi, v, hoi, hsti, hr⟩ := pullI hok h hiR hpw.2 (fun q hq hlt => hord q (by simp [hq]) hlt)
      obtain ⟨_, hspec⟩ := drawOK_spec hok
      obtain ⟨hapart, _⟩ := (hspec i oi hoi).2 r or' hri hor (hord r (by simp) hri)
      obtain ⟨a1, a2, a3⟩ := Oper.apart_spec hapart
      refine ⟨oi, v, hoi, hsti.move (put_heap _ _ _).symm (fun y hy => ?_) (wantedA_congr fun k b d hg hd => ?_), ?_⟩
      · rw [put_ev]; intro d hd; exact looks_operand (a1 d hd) y hy
      · rw [put_slots]; intro d' hd'; exact looks_guard (a1 d' hd') hg hd
      · have hne : (r :: R).erase i = r :: R.erase i := List.erase_cons_tail (by simpa using e)
        rw [hne]
        refine ⟨or', vr, hor, hst.move (put_heap _ _ _) (fun y hy => ?_) (wantedA_congr fun k b d hg hd => ?_), ?_⟩
        · rw [put_ev]; intro d hd; exact looks_operand (a3 d hd) y hy
        · rw [put_slots]; intro d' hd'; exact looks_guard (a3 d' hd') hg hd
        · rw [put_comm (fun t ht => fun h => a2 t (by simpa using h) ht)]; exact hr

def wipeL : List Oper → List AV → List AV
  | [], s => s
  | o :: os, s => wipeL os (match o.dst with | some d => s.set d .any | none => s)
def wipe (ops : Array Oper) (s : List AV) : List AV := wipeL ops.toList s

theorem wipeL_set : ∀ (L : List Oper) (s : List AV) (d : Nat) (v : AV), (∃ o ∈ L, o.dst = some d) → wipeL L (s.set d v) = wipeL L s
  | [], _, _, _, ⟨_, h, _⟩ => by simp at h
  | o :: L, s, d, v, h => by
    simp only [wipeL]
    cases hd : o.dst with
    | none =>
      simp only
      refine wipeL_set L s d v ?_
      obtain ⟨o', ho', hd'⟩ := h
      rcases List.mem_cons.1 ho' with rfl | ho'
      · rw [hd] at hd'; cases hd'
      · exact ⟨o', ho', hd'⟩
    | some t =>
      simp only
      by_cases e : t = d
      · subst e; rw [List.set_set]
      · rw [List.set_comm _ _ (fun h => e h.symm)]
        refine wipeL_set L _ d v ?_
        obtain ⟨o', ho', hd'⟩ := h
        rcases List.mem_cons.1 ho' with rfl | ho'
        · rw [hd] at hd'; cases hd'; exact absurd rfl e
        · exact ⟨o', ho', hd'⟩

theorem wipe_put {σ : AState} {o : Oper} {i : Nat} (ho : ops[i]? = some o) (v : AV) : wipe ops (σ.put o.dst v).slots = wipe ops σ.slots := by
  cases hd : o.dst with
  | none => rfl
  | some d =>
    refine wipeL_set _ _ d v ⟨o, ?_, hd⟩
    have := Array.getElem?_eq_some_iff.1 ho
    obtain ⟨h1, h2⟩ := this
    rw [← h2]; simp

theorem RepL.setAny {E : Env} : ∀ {cs : List AV} {vs : List Value} (d : Nat), RepL E cs vs → RepL E (cs.set d .any) vs
  | [], _, _, h => h
  | _ :: _, _, 0, ⟨v, us, rfl, _, r⟩ => ⟨v, us, rfl, trivial, r⟩
  | _ :: _, _, d + 1, ⟨v, us, rfl, h1, r⟩ => ⟨v, us, rfl, h1, RepL.setAny d r⟩
theorem wipeL_rep {E : Env} : ∀ (L : List Oper) {cs : List AV} {vs : List Value}, RepL E cs vs → RepL E (wipeL L cs) vs
  | [], _, _, h => h
  | o :: L, cs, vs, h => by
    simp only [wipeL]
    cases o.dst with
    | none => exact wipeL_rep L h
    | some d => exact wipeL_rep L (RepL.setAny d h)
end

section region
variable {C : Ctx} {ops : Array Oper} {Q : AExit → AState → Prop}

theorem Sim.wipe {φ : Nat → Value} {σ : AState} {a : Act} {w : World} (S : Sim C φ σ a w) (ops : Array Oper) : Sim C φ { σ with slots := wipe ops σ.slots } a w := { S with slots := wipeL_rep _ S.slots, defers := S.defers }

theorem draw_pan {ro : Option Nat} (hok : drawOK ops = true) {c : Nat} {H H' : List AObj} {x : AV} {s0 : List AV} {low : Nat} {df : List (FuncId × List AV)} (hQ : Q (.panic x) { slots := wipe ops s0, heap := H', low, df }) :
    ∀ (fuel : Nat) (R : List Nat) (listed : Array Bool) (φ : Nat → Value) (σ : AState) (a : Act) (w : World), R.length = fuel → Front ops R listed → c ∈ R →
    Sim C φ σ a w → wipe ops σ.slots = wipe ops s0 → σ.low = low → σ.df = df → awpI C.P ops c H x H' R σ → wpAnyIn (fence ro) 0 C.P .any ops (QC C Q) fuel listed a w := by
  obtain ⟨_, hspec⟩ := drawOK_spec hok
  intro fuel
  induction fuel with
  | zero =>
    intro R listed φ σ a w hl F hc S hs hlow hdf h
    have hR0 : R = [] := List.eq_nil_of_length_eq_zero hl
    rw [hR0] at hc
    simp at hc
  | succ fuel ih =>
    intro R listed φ σ a w hl F hc S hs hlow hdf h
    have hpw := F.pw
    have hsz := F.sz
    have hR := F.mem
    have hnd : R.Nodup := hpw.imp (fun h => Nat.ne_of_lt h)
    refine ⟨?_, ?_⟩
    · intro hempty
      exfalso
      cases R with
      | nil => simp at hl
      | cons r R =>
        have hr := (hR r).1 (by simp)
        have ho : ops[r]? = some ops[r] := Array.getElem?_eq_getElem hr.1
        have : r ∈ Region.ready .any ops listed := by
          rw [readyMem listed r hsz]
          refine ⟨hr.1, hr.2, _, ho, fun d hd => ?_⟩
          have hdr := (hspec r _ ho).1 d hd
          cases hld : listed.getD d false with
          | true => rfl
          | false =>
            have hdR := (hR d).2 ⟨by omega, hld⟩
            rw [List.pairwise_cons] at hpw
            simp only [List.mem_cons] at hdR
            rcases hdR with rfl | hdR
            · omega
            · have := hpw.1 d hdR; omega
        rw [hempty] at this
        simp at this
    · intro i hi
      rw [readyMem listed i hsz] at hi
      obtain ⟨hi1, hi2, oi, hoi, hdeps⟩ := hi
      have hiR := (hR i).2 ⟨hi1, hi2⟩
      have hnoO : ∀ r ∈ R, orderedB ops r i = false := by
        intro r hr
        cases hq : orderedB ops r i with
        | false => rfl
        | true =>
          exfalso
          have := order_listed hok F.cl hoi hdeps hq
          have hr' := ((hR r).1 hr).2
          rw [hr'] at this; cases this
      obtain ⟨o, v, ho, ⟨hH, hst⟩, hrest⟩ := pullI hok h hiR hpw (fun r hr _ => hnoO r hr)
      rw [hoi] at ho; cases ho
      rcases hst with ⟨rfl, hw, f, args, hcal, hpan⟩ | hord | ⟨hne, e, hup, hnw, hval, hS⟩
      · unfold wpOpIn
        simp only [hoi]
        rw [wantedA_sound S hw]
        simp only [if_true]
        have hcall := hpan σ hH
        obtain ⟨vs, hrun, hr⟩ := calleeOf_run S hcal hcall.1
        refine ⟨fun _ _ => trivial, ?_⟩
        rw [Oper.semAt_eq _ _ _ (calleeOf_op hcal), hrun, Oper.uponIn_enter]
        refine ⟨fun h => by simp [fence, Fence.wide] at h, fence_calls.2 ?_⟩
        refine (hcall.2 C φ a w rfl S vs hr).mono fun en w' ⟨o', φ', H2, ⟨ho', hH2⟩, S', hrep⟩ => ?_
        subst ho' hH2
        cases en with
        | returned v => exact hrep.elim
        | panicked chain =>
          obtain ⟨u, hu, hr⟩ := hrep
          refine ⟨φ', { slots := wipe ops s0, heap := H2, low, df }, x, u, ?_, hQ, hu, hr⟩
          have := S'.wipe ops
          rw [← hs, ← hlow, ← hdf]
          exact this
        | outgrown => exact hrep.elim
      · rw [hnoO c hc] at hord; cases hord
      · refine step_sound S hoi hS ?_
        rintro e' φ' v' w' rfl S'
        have happ : σ.app oi.dst e' = σ.put oi.dst v := by
          rw [show σ.app oi.dst e' = σ.app oi.dst { val := v } by simp [AState.app, hup, hnw, hval], app_val]
        rw [happ] at S'
        refine ih (R.erase i) _ φ' _ _ w' ?_ (F.next hoi hdeps) ((hnd.mem_erase_iff).2 ⟨fun e => hne e.symm, hc⟩) S' ?_ ?_ ?_ hrest
        · rw [List.length_erase_of_mem hiR]; omega
        · rw [wipe_put hoi]; exact hs
        · rw [← hlow]; cases oi.dst <;> rfl
        · rw [← hdf]; cases oi.dst <;> rfl

theorem awpI_sound {ro : Option Nat} {φ : Nat → Value} {σ : AState} {a : Act} {w : World} {id c : Nat} {H' : List AObj} {x : AV} (hm : C.P.follows .mixedOrders = true) (hok : drawOK ops = true) (hc : c < ops.size) (h : awpI C.P ops c σ.heap x H' (List.range ops.size) σ)
    (hQ : Q (.panic x) { σ with slots := wipe ops σ.slots, heap := H' }) (S : Sim C φ σ a w) : (Code.region id ops true).wpIn (fence ro) 0 C.P (QC C Q) a w := by
  refine wpIn_region_any hm ?_
  refine draw_pan hok hQ ops.size (List.range ops.size) _ φ σ a _ (by simp) ⟨List.pairwise_lt_range, by simp, ?_, ?_⟩ (by simpa using hc) (S.drew _) rfl rfl rfl h
  · intro i
    simp only [List.mem_range]
    constructor
    · intro hi; exact ⟨hi, getD_replicate_false' _ _⟩
    · exact fun h => h.1
  · intro j o hj hL
    rw [getD_replicate_false'] at hL; cases hL

def trIdle (tr : List Tr) : Bool := tr.all fun t => t.e.up.isEmpty && t.e.nw.isEmpty

def restI (P : Program) (ops : Array Oper) (c : Nat) : List Oper → Nat → AState → Prop
  | [], _, _ => True
  | o :: rest, j, σ => match orderedB ops c j with
    | true => restI P ops c rest (j + 1) (σ.put o.dst (.raw undef))
    | false => match wantedA ops o σ with
      | none => False
      | some false => restI P ops c rest (j + 1) (σ.put o.dst (.raw undef))
      | some true => calleeOf σ o.op = none ∧ match opEff P σ o.op with
        | some e => (e.pre ∧ e.up = [] ∧ e.nw = []) ∧ restI P ops c rest (j + 1) (σ.put o.dst e.val)
        | none => False

theorem awpI_of_restI {P : Program} {c : Nat} {H H' : List AObj} {x : AV} : ∀ (rest : List Oper) (j : Nat) (σ : AState), ops.toList.drop j = rest → c < j → σ.heap = H → restI P ops c rest j σ → awpI P ops c H x H' (List.range' j rest.length) σ
  | [], _, _, _, _, _, _ => trivial
  | o :: rest, j, σ, hd, hcj, hH, h => by
    have ho : ops[j]? = some o := by
      have := congrArg (fun l : List Oper => l[0]?) hd
      simpa using this
    have hrest : ops.toList.drop (j + 1) = rest := by
      have := congrArg List.tail hd
      simpa [List.tail_drop] using this
    simp only [List.length_cons, List.range'_succ]
    simp only [restI] at h
    split at h
    · rename_i hor
      exact ⟨o, .raw undef, ho, ⟨hH, .inr (.inl hor)⟩, awpI_of_restI rest (j + 1) _ hrest (by omega) (by rw [put_heap]; exact hH) h⟩
    · split at h
      · exact h.elim
      · rename_i hw
        exact ⟨o, .raw undef, ho, ⟨hH, .inr (.inr ⟨by omega, { val := .raw undef }, rfl, rfl, rfl, .inl ⟨hw, fun _ => Iff.rfl⟩⟩)⟩, awpI_of_restI rest (j + 1) _ hrest (by omega) (by rw [put_heap]; exact hH) h⟩
      · rename_i hw
        obtain ⟨hc, h⟩ := h
        split at h
        · rename_i e he
          obtain ⟨⟨hp, hu, hn⟩, h⟩ := h
          exact ⟨o, e.val, ho, ⟨hH, .inr (.inr ⟨by omega, e, hu, hn, rfl, .inr (.inl ⟨hw, hc, e, he, hp, fun _ => Iff.rfl⟩)⟩)⟩, awpI_of_restI rest (j + 1) _ hrest (by omega) (by rw [put_heap]; exact hH) h⟩
        · exact h.elim
end region
end Go.Abs
namespace Go.Abs

def AExit.then (next : AState → Prop) (Q : AExit → AState → Prop) : AExit → AState → Prop
  | .normal, σ => next σ
  | e, σ => Q e σ

def AExit.inBlock (id : Nat) (Q : AExit → AState → Prop) : AExit → AState → Prop
  | .exit id', σ => if id' = id then Q .normal σ else Q (.exit id') σ
  | e, σ => Q e σ

def AExit.noGoto (Q : AExit → AState → Prop) : AExit → AState → Prop
  | .goto _, _ => False
  | e, σ => Q e σ

def Eff.idle (e : Eff) : Bool := e.rd.isEmpty && e.up.isEmpty && e.nw.isEmpty && !e.whole

def pushTr (tr : List Tr) (j n : Nat) (e : Eff) : List Tr := bif e.idle then tr else tr ++ [⟨j, n, e⟩]

def compatC (ops : Array Oper) (tr : List Tr) (j : Nat) (e : Eff) : Prop := e.idle = true ∨ compatB ops tr j e = true

def awpDc (P : Program) (ops : Array Oper) (Q : AExit → AState → Prop) : List Oper → Nat → List Tr → AState → Prop
  | [], _, _, σ => Q .normal σ
  | o :: rest, j, tr, σ => match wantedA ops o σ with
    | none => False
    | some b => (b = true → match calleeOf σ o.op with
        | some (f, args) => (∃ r, FnC P f args (fun v => v = r) ∧ awpDc P ops Q rest (j + 1) tr (σ.put o.dst r)) ∨
            (∃ e, CallL P f args σ e ∧ compatC ops tr j e ∧ awpDc P ops Q rest (j + 1) (pushTr tr j σ.heap.length e) (σ.app o.dst e)) ∨
            ∃ x H', PanC P f args σ.heap x H' ∧ trIdle tr = true ∧ restI P ops j rest (j + 1) (σ.put o.dst (.raw undef)) ∧ Q (.panic x) { σ with slots := wipe ops σ.slots, heap := H' }
        | none => match opEff P σ o.op with
          | some e => e.pre ∧ compatC ops tr j e ∧ awpDc P ops Q rest (j + 1) (pushTr tr j σ.heap.length e) (σ.app o.dst e)
          | none => False) ∧
      (b = false → awpDc P ops Q rest (j + 1) tr (σ.put o.dst (.raw undef)))

def RangeA (P : Program) (g : Operand) (ps : Array Tmp) (as body : Code) (Q : AExit → AState → Prop) (σ : AState) : Prop :=
  ∀ (C : Ctx) (φ : Nat → Value) (a : Act) (w : World), C.P = P → Sim C φ σ a w → (Code.rangeFunc g ps as body).wpIn (fence none) 0 P (QC C Q) a w

def noRange : Code → Bool
  | .region _ ops _ => ops.toList.all fun o => !isDefer o.op
  | .seq x y => noRange x && noRange y
  | .cond _ x y => noRange x && noRange y
  | .block _ x => noRange x
  | .loop x => noRange x
  | .scope x => noRange x
  | .rangeFunc _ _ _ _ => false
  | _ => true

def awp (P : Program) : Code → (AExit → AState → Prop) → AState → Prop
  | .skip, Q, σ => Q .normal σ
  | .region _ ops false, Q, σ => awpOps P ops ops.toList Q σ
  | .region _ ops true, Q, σ => (P.follows .mixedOrders = true ∧ drawOK ops = true) ∧ awpDc P ops Q ops.toList 0 [] σ
  | .seq x y, Q, σ => awp P x (AExit.then (fun σ1 => ∃ σ2, Imp σ1 σ2 ∧ awp P y Q σ2) Q) σ
  | .cond c x y, Q, σ => match σ.ev c with
    | .bool b => (b = true → awp P x Q σ) ∧ (b = false → awp P y Q σ)
    | _ => False
  | .block id x, Q, σ => awp P x (AExit.inBlock id Q) σ
  | .loop x, Q, σ => ∃ (I : Nat → AState → Prop) (n : Nat) (σ' : AState), Imp σ σ' ∧ I n σ' ∧
      ∀ n σ, I n σ → awp P x (AExit.then (fun σ1 => ∃ n' σ', n' < n ∧ Imp σ1 σ' ∧ I n' σ') Q) σ
  | .exit id, Q, σ => Q (.exit id) σ
  | .scope x, Q, σ => awp P x (AExit.noGoto Q) σ
  | .label _, Q, σ => Q .normal σ
  | .ret, Q, σ => Q .ret σ
  | .goto _, _, _ => False
  | .rangeFunc g ps as body, Q, σ => RangeA P g ps as body Q σ
  | .refuse _, _, _ => False

theorem indepB_idle_right {t : Tr} {e : Eff} (h : e.idle = true) : indepB t e = true := by
  unfold Eff.idle at h
  simp only [Bool.and_eq_true, List.isEmpty_iff] at h
  obtain ⟨⟨⟨h1, h2⟩, h3⟩, h4⟩ := h
  unfold indepB disjointB
  simp at h4
  simp [h1, h2, h3, h4]

theorem indepB_idle_left {t : Tr} {e : Eff} (h : t.e.idle = true) : indepB t e = true := by
  unfold Eff.idle at h
  simp only [Bool.and_eq_true, List.isEmpty_iff] at h
  obtain ⟨⟨⟨h1, h2⟩, h3⟩, h4⟩ := h
  unfold indepB disjointB
  simp at h4
  simp [h1, h2, h3, h4]

theorem pushTr_idle {tr : List Tr} {j n : Nat} {e : Eff} (h : trIdle (pushTr tr j n e) = true) : trIdle tr = true ∧ e.up = [] ∧ e.nw = [] := by
  unfold pushTr at h
  cases hi : e.idle with
  | true =>
    rw [hi] at h
    unfold Eff.idle at hi
    simp only [Bool.and_eq_true, List.isEmpty_iff] at hi
    exact ⟨h, hi.1.1.2, hi.1.2⟩
  | false =>
    rw [hi] at h
    unfold trIdle at h ⊢
    simp only [cond_false, List.all_append, List.all_cons, List.all_nil, Bool.and_true, Bool.and_eq_true, List.isEmpty_iff] at h
    exact ⟨h.1, h.2.1, h.2.2⟩

def PanD (P : Program) (ops : Array Oper) (Q : AExit → AState → Prop) (j m : Nat) (tr : List Tr) (σ : AState) : Prop :=
  trIdle tr = true ∧ ∃ c x H', j ≤ c ∧ c < j + m ∧ awpI P ops c σ.heap x H' (List.range' j m) σ ∧ Q (.panic x) { σ with slots := wipe ops σ.slots, heap := H' }

theorem PanD.step {P : Program} {ops : Array Oper} {Q : AExit → AState → Prop} {j m : Nat} {tr tr' : List Tr} {σ : AState} {o : Oper} {v : AV} (ho : ops[j]? = some o) (ht : trIdle tr' = true → trIdle tr = true ∧ ∃ e : Eff, e.up = [] ∧ e.nw = [] ∧ e.val = v ∧ StepS P ops o σ (fun e' => e' = e))
    (h : PanD P ops Q (j + 1) m tr' (σ.put o.dst v)) : PanD P ops Q j (m + 1) tr σ := by
  obtain ⟨h1, c, x, H', h2, h3, h4, h5⟩ := h
  obtain ⟨k1, k2⟩ := ht h1
  refine ⟨k1, c, x, H', by omega, by omega, ?_, ?_⟩
  · rw [List.range'_succ]
    rw [put_heap] at h4
    exact ⟨o, v, ho, ⟨rfl, .inr (.inr ⟨by omega, k2⟩)⟩, h4⟩
  · rw [wipe_put ho] at h5
    cases hd : o.dst <;> rw [hd] at h5 <;> exact h5

theorem app_idle {σ : AState} {d : Option Tmp} {e : Eff} (hu : e.up = []) (hn : e.nw = []) : σ.app d e = σ.put d e.val := by
  rw [show σ.app d e = σ.app d { val := e.val, rd := e.rd, pre := e.pre } by simp [AState.app, hu, hn]]
  exact app_val _ _ _ _ _

theorem awpD_of_awpDc {P : Program} {ops : Array Oper} {Q : AExit → AState → Prop} : ∀ (rest : List Oper) (j : Nat) (tr tr' : List Tr) (σ : AState), ops.toList.drop j = rest → (∀ t ∈ tr', t ∈ tr ∨ t.e.idle = true) →
    awpDc P ops Q rest j tr σ → awpD P ops (Q .normal) (List.range' j rest.length) tr' σ ∨ PanD P ops Q j rest.length tr σ
  | [], _, _, _, _, _, _, h => .inl h
  | o :: rest, j, tr, tr', σ, hd, htr, h => by
    have ho : ops[j]? = some o := by
      have := congrArg (fun l : List Oper => l[0]?) hd
      simpa using this
    have hrest : ops.toList.drop (j + 1) = rest := by
      have := congrArg List.tail hd
      simpa [List.tail_drop] using this
    have hcompat : ∀ e, compatC ops tr j e → compatB ops tr' j e = true := by
      intro e he
      unfold compatB
      rw [List.all_eq_true]
      intro t ht
      rcases he with he | he
      · rw [indepB_idle_right he]; rfl
      · rcases htr t ht with h1 | h1
        · unfold compatB at he
          rw [List.all_eq_true] at he
          exact he t h1
        · rw [indepB_idle_left h1]; rfl
    have hpush : ∀ n e, ∀ t ∈ tr' ++ [⟨j, n, e⟩], t ∈ pushTr tr j n e ∨ t.e.idle = true := by
      intro n e t ht
      unfold pushTr
      rcases List.mem_append.1 ht with ht | ht
      · rcases htr t ht with h1 | h1
        · left
          cases e.idle
          · exact List.mem_append.2 (.inl h1)
          · exact h1
        · exact .inr h1
      · simp only [List.mem_singleton] at ht
        subst ht
        cases hi : e.idle
        · left; simp
        · right; rfl
    have hidle : ∀ x : AV, ({ val := x } : Eff).idle = true := fun _ => rfl
    have hpush' : ∀ n x, ∀ t ∈ tr' ++ [⟨j, n, { val := x }⟩], t ∈ tr ∨ t.e.idle = true := by
      intro n x t ht
      have := hpush n { val := x } t ht
      simpa [pushTr, hidle] using this
    simp only [awpDc] at h
    simp only [List.length_cons]
    split at h
    · exact h.elim
    · rename_i b hb
      cases b with
      | false =>
        have hst : StepS P ops o σ (fun e => e = { val := .raw undef }) := .inl ⟨hb, fun _ => Iff.rfl⟩
        rcases awpD_of_awpDc rest (j + 1) tr (tr' ++ [⟨j, σ.heap.length, { val := .raw undef }⟩]) _ hrest (hpush' _ _) (h.2 rfl) with hl | hr
        · left
          rw [List.range'_succ]
          refine ⟨o, _, ho, hst, fun e he => ?_⟩
          subst he
          refine ⟨hcompat _ (.inl rfl), ?_⟩
          rw [app_val]; exact hl
        · exact .inr (hr.step ho fun ht => ⟨ht, _, rfl, rfl, rfl, hst⟩)
      | true =>
        have h := h.1 rfl
        split at h
        · rename_i f args hc
          rcases h with ⟨r, hf, hK⟩ | ⟨e, hf, hcp, hK⟩ | ⟨x, H', hp, ht, hri, hQ⟩
          · have hst : StepS P ops o σ (fun e => e = { val := r }) := .inr (.inr (.inl ⟨hb, f, args, _, hc, hf, ⟨r, rfl⟩, fun e => ⟨fun he => ⟨r, rfl, he⟩, fun ⟨r', h1, h2⟩ => by rw [h2, h1]⟩⟩))
            rcases awpD_of_awpDc rest (j + 1) tr (tr' ++ [⟨j, σ.heap.length, { val := r }⟩]) _ hrest (hpush' _ _) hK with hl | hr
            · left
              rw [List.range'_succ]
              refine ⟨o, _, ho, hst, fun e he => ?_⟩
              subst he
              refine ⟨hcompat _ (.inl rfl), ?_⟩
              rw [app_val]; exact hl
            · exact .inr (hr.step ho fun ht => ⟨ht, _, rfl, rfl, rfl, hst⟩)
          · have hst : StepS P ops o σ (fun e' => e' = e) := .inr (.inr (.inr ⟨hb, f, args, e, hc, hf, fun _ => Iff.rfl⟩))
            rcases awpD_of_awpDc rest (j + 1) _ (tr' ++ [⟨j, σ.heap.length, e⟩]) _ hrest (hpush _ _) hK with hl | hr
            · left
              rw [List.range'_succ]
              refine ⟨o, _, ho, hst, fun e' he => ?_⟩
              subst he
              exact ⟨hcompat _ hcp, hl⟩
            · right
              have ht := hr.1
              obtain ⟨t1, t2, t3⟩ := pushTr_idle ht
              rw [app_idle t2 t3] at hr
              exact hr.step ho fun _ => ⟨t1, e, t2, t3, rfl, hst⟩
          · right
            refine ⟨ht, j, x, H', Nat.le_refl _, by omega, ?_, hQ⟩
            rw [List.range'_succ]
            refine ⟨o, .raw undef, ho, ⟨rfl, .inl ⟨rfl, hb, f, args, hc, hp⟩⟩, ?_⟩
            exact awpI_of_restI rest (j + 1) _ hrest (by omega) (put_heap _ _ _) hri
        · rename_i hc
          split at h
          · rename_i e he
            have hst : StepS P ops o σ (fun e' => e' = e) := .inr (.inl ⟨hb, hc, e, he, h.1, fun _ => Iff.rfl⟩)
            rcases awpD_of_awpDc rest (j + 1) _ (tr' ++ [⟨j, σ.heap.length, e⟩]) _ hrest (hpush _ _) h.2.2 with hl | hr
            · left
              rw [List.range'_succ]
              refine ⟨o, _, ho, hst, fun e' he' => ?_⟩
              subst he'
              exact ⟨hcompat _ h.2.1, hl⟩
            · right
              have ht := hr.1
              obtain ⟨t1, t2, t3⟩ := pushTr_idle ht
              rw [app_idle t2 t3] at hr
              exact hr.step ho fun _ => ⟨t1, e, t2, t3, rfl, hst⟩
          · exact h.elim

section sound
variable {C : Ctx}

theorem QC_then {Q : AExit → AState → Prop} {next : AState → Prop} {nextC : Act → World → Prop} (h : ∀ φ σ a w, Sim C φ σ a w → next σ → nextC a w) {e : Exit} {a : Act} {w : World}
    (hq : QC C (AExit.then next Q) e a w) : Exit.then nextC (QC C Q) e a w := by
  cases e with
  | normal => obtain ⟨φ, σ, S, hn⟩ := hq; exact h φ σ a w S hn
  | exit id => exact hq
  | goto l => exact hq
  | ret => exact hq
  | panic chain => exact hq
  | outgrown => exact hq

theorem QC_inBlock {Q : AExit → AState → Prop} {id : Nat} {e : Exit} {a : Act} {w : World} (hq : QC C (AExit.inBlock id Q) e a w) : Exit.inBlock id (QC C Q) e a w := by
  cases e with
  | exit id' =>
    obtain ⟨φ, σ, S, h⟩ := hq
    simp only [AExit.inBlock] at h
    simp only [Exit.inBlock]
    split at h
    · rename_i e; rw [if_pos e]; exact ⟨φ, σ, S, h⟩
    · rename_i e; rw [if_neg e]; exact ⟨φ, σ, S, h⟩
  | normal => exact hq
  | goto l => exact hq
  | ret => exact hq
  | panic chain => exact hq
  | outgrown => exact hq

theorem QC_noGoto {Q : AExit → AState → Prop} {e : Exit} {a : Act} {w : World} (hq : QC C (AExit.noGoto Q) e a w) : Exit.noGoto (QC C Q) e a w := by
  cases e with
  | goto l => obtain ⟨φ, σ, S, h⟩ := hq; exact h.elim
  | normal => exact hq
  | exit id => exact hq
  | ret => exact hq
  | panic chain => exact hq
  | outgrown => exact hq

theorem loop_ghostIn {F : Fence} {n : Nat} {P : Program} {Q : Exit → Act → World → Prop} {a : Act} {w : World} {c : Code} (I : Nat → Act → World → Prop) (n₀ : Nat) (h₀ : I n₀ a w)
    (round : ∀ m a w, I m a w → c.wpIn F n P (Exit.then (fun a' w' => ∃ m', m' < m ∧ I m' a' w') Q) a w) : (Code.loop c).wpIn F n P Q a w := by
  refine wpIn_loop (fun a w => ∃ m, I m a w) (fun a w => leastOf (fun m => I m a w)) ⟨n₀, h₀⟩ ?_
  intro a w hI
  refine wpIn_mono (round _ a w (leastOf_spec hI).1) ?_
  intro e a' w' hq
  cases e with
  | normal =>
    obtain ⟨m', hlt, hI'⟩ := hq
    exact ⟨⟨m', hI'⟩, Nat.lt_of_le_of_lt ((leastOf_spec ⟨m', hI'⟩).2 m' hI') hlt⟩
  | exit id => exact hq
  | goto l => exact hq
  | ret => exact hq
  | panic chain => exact hq
  | outgrown => exact hq

theorem stepR_scope {P : Program} {b : Frame} {a : Act} {k : List Item} {cs : List Frame} {w : World} {c : Code} : step P (lone (b.atR a (.code (.scope c) :: k)) cs w) = .next (lone (b.atR a (.code c :: .inScope c :: k)) cs w) :=
  step_lone_go (by simp [stepG, stepG.exec, Frame.atR])
theorem stepR_inScope {P : Program} {b : Frame} {a : Act} {k : List Item} {cs : List Frame} {w : World} {c : Code} : step P (lone (b.atR a (.inScope c :: k)) cs w) = .next (lone (b.atR a k) cs w) :=
  step_lone_go (by simp [stepG, stepG.exec, Frame.atR])
theorem scope_straightIn {F : Fence} {n : Nat} {P : Program} {Q : Exit → Act → World → Prop} {a : Act} {w : World} {c : Code} (h : c.wpIn F n P (Exit.noGoto Q) a w) : (Code.scope c).wpIn F n P Q a w := by
  intro b k cs hro hb hr
  have h0 : (lone (b.atR a (.code (.scope c) :: k)) cs w).fenced P F := fenced_calm (fr := b.atR a (.code (.scope c) :: k)) hb hr rfl
  obtain ⟨e, a₁, w₁, hq, harr⟩ := h b (.inScope c :: k) cs hro hb hr
  cases e with
  | normal => exact ⟨.normal, a₁, w₁, hq, .head h0 stepR_scope (StepsIn.trans harr (.one (fenced_calm (fr := b.atR a₁ (.inScope c :: k)) hb hr rfl) stepR_inScope))⟩
  | exit id =>
    have hx : exitTo id (.inScope c :: k) = exitTo id k := by simp [exitTo]
    exact ⟨.exit id, a₁, w₁, hq, fun k' hk => .head h0 stepR_scope (harr.1 k' (by rw [hx]; exact hk)),
      fun hr' hk => let ⟨k₁, h1, h2⟩ := harr.2 hr' (by rw [hx]; exact hk); ⟨k₁, h1, .head h0 stepR_scope h2⟩⟩
  | goto l => exact hq.elim
  | ret => exact ⟨.ret, a₁, w₁, hq, .of_steps (.one h0 stepR_scope) harr⟩
  | panic ch => exact ⟨_, a₁, w₁, hq, .of_steps (.one h0 stepR_scope) harr⟩
  | outgrown => exact ⟨_, a₁, w₁, hq, .of_steps (.one h0 stepR_scope) harr⟩

theorem awp_sound {ro : Option Nat} : ∀ (c : Code) (Q : AExit → AState → Prop) (φ : Nat → Value) (σ : AState) (a : Act) (w : World), (ro = none ∨ noRange c = true) → awp C.P c Q σ → Sim C φ σ a w → c.wpIn (fence ro) 0 C.P (QC C Q) a w
  | .skip, Q, φ, σ, a, w, _, h, S => wpIn_skip ⟨φ, σ, S, h⟩
  | .region id ops false, Q, φ, σ, a, w, hn, h, S => by
    have := awpOps_sound (ro := ro) rfl ops.toList 0 hn (by simp) φ σ a w h S
    refine wpIn_region ?_
    rw [List.range_eq_range']
    simpa using this
  | .region id ops true, Q, φ, σ, a, w, _, h, S => by
    obtain ⟨⟨hm, hok⟩, h⟩ := h
    rcases awpD_of_awpDc ops.toList 0 [] [] σ (by simp) (by simp) h with this | ⟨_, c, x, H', _, hc, hI, hQ⟩
    · refine awpD_sound hm hok ?_ S
      rw [List.range_eq_range']
      simpa using this
    · refine awpI_sound (c := c) (x := x) (H' := H') hm hok (by simpa using hc) ?_ hQ S
      rw [List.range_eq_range']
      simpa using hI
  | .seq x y, Q, φ, σ, a, w, hn, h, S =>
    wpIn_seq (wpIn_mono (awp_sound x _ φ σ a w (hn.imp id fun h => (Bool.and_eq_true _ _ ▸ h : noRange x = true ∧ noRange y = true).1) h S) fun _ _ _ hq => QC_then (fun φ' σ' a' w' S' h' => by
      obtain ⟨σ2, himp, h2⟩ := h'
      obtain ⟨φ2, S2⟩ := himp C φ' a' w' S'
      exact awp_sound y Q φ2 σ2 a' w' (hn.imp id fun h => (Bool.and_eq_true _ _ ▸ h : noRange x = true ∧ noRange y = true).2) h2 S2) hq)
  | .cond c x y, Q, φ, σ, a, w, hn, h, S => by
    simp only [awp] at h
    have hc := S.ev c
    split at h
    · rename_i b hb
      rw [hb] at hc
      simp only [Rep] at hc
      refine wpIn_cond hc ?_
      cases b with
      | true => exact awp_sound x Q φ σ a w (hn.imp id fun h => (Bool.and_eq_true _ _ ▸ h : noRange x = true ∧ noRange y = true).1) (h.1 rfl) S
      | false => exact awp_sound y Q φ σ a w (hn.imp id fun h => (Bool.and_eq_true _ _ ▸ h : noRange x = true ∧ noRange y = true).2) (h.2 rfl) S
    · exact h.elim
  | .block id x, Q, φ, σ, a, w, hn, h, S => wpIn_block (wpIn_mono (awp_sound x _ φ σ a w hn h S) fun _ _ _ hq => QC_inBlock hq)
  | .loop x, Q, φ, σ, a, w, hn, h, S => by
    obtain ⟨I, n, σ', himp, hI, hround⟩ := h
    obtain ⟨φ', S'⟩ := himp C φ a w S
    refine loop_ghostIn (fun n a w => ∃ φ σ, I n σ ∧ Sim C φ σ a w) n ⟨φ', σ', hI, S'⟩ ?_
    rintro n a w ⟨φ, σ, hI, S⟩
    refine wpIn_mono (awp_sound x _ φ σ a w hn (hround n σ hI) S) fun _ _ _ hq => QC_then ?_ hq
    rintro φ1 σ1 a1 w1 S1 ⟨n', σ2, hlt, himp, hI'⟩
    obtain ⟨φ2, S2⟩ := himp C φ1 a1 w1 S1
    exact ⟨n', hlt, φ2, σ2, hI', S2⟩
  | .exit id, Q, φ, σ, a, w, _, h, S => wpIn_exit ⟨φ, σ, S, h⟩
  | .scope x, Q, φ, σ, a, w, hn, h, S => scope_straightIn (wpIn_mono (awp_sound x _ φ σ a w hn h S) fun _ _ _ hq => QC_noGoto hq)
  | .label l, Q, φ, σ, a, w, _, h, S => wpIn_label ⟨φ, σ, S, h⟩
  | .ret, Q, φ, σ, a, w, _, h, S => wpIn_ret ⟨φ, σ, S, h⟩
  | .goto l, Q, φ, σ, a, w, _, h, S => h.elim
  | .rangeFunc f p x y, Q, φ, σ, a, w, hn, h, S => by
    rcases hn with rfl | hn
    · exact h C φ a w rfl S
    · cases hn
  | .refuse s, Q, φ, σ, a, w, _, h, S => h.elim

theorem Sim.takeMark {φ : Nat → Value} {σ : AState} {tmps : Array Value} {D : Nat} {ds : List Deferred} {w : World} (S : Sim C φ σ { tmps, defers := ⟨.collected D, #[]⟩ :: ds } w) :
    w.heap[D]? = some (.deferred (some [])) ∧ Sim C φ σ { tmps, defers := ds } (w.putObj D (.deferred none)) := by
  obtain ⟨hnd, hall, hrd⟩ := S.defers
  have hmk : isMk (⟨.collected D, #[]⟩ : Deferred) = true := rfl
  simp only [List.filter_cons, hmk, if_true, Bool.not_true, Bool.false_eq_true, if_false] at hnd hrd
  obtain ⟨D', hD, h1, h2, h3⟩ := hall _ (List.mem_cons_self) rfl
  simp only [Deferred.mk.injEq, Target.collected.injEq, and_true] at hD
  subst hD
  refine ⟨h1, ?_⟩
  have hother : ∀ b, b ≠ D → (w.putObj D (.deferred none)).heap[b]? = w.heap[b]? := fun b hb => World.putObj_heap_other hb
  have hcell : ∀ b o, (w.putObj D (.deferred none)).cell? ⟨b, o, none⟩ = w.cell? ⟨b, o, none⟩ := by
    intro b o
    by_cases e : b = D
    · subst e
      simp only [World.cell?, h1, World.putObj_heap_same (Array.getElem?_eq_some_iff.1 h1).1]
    · simp only [World.cell?, hother b e]
  have le : (C.env φ σ.heap w).Le σ.heap.length (C.env φ σ.heap (w.putObj D (.deferred none))) :=
    Ctx.env_le (Nat.le_refl _) (fun _ _ => ⟨rfl, rfl⟩) (fun b o u hm hc => ⟨hm, by rw [hcell]; exact hc⟩)
  have hdef : DefOK C φ σ.heap (w.putObj D (.deferred none)) σ.df ds := by
    rw [List.nodup_cons] at hnd
    refine ⟨hnd.2, fun d hd hm => ?_, hrd.mono le⟩
    obtain ⟨D', e, g1, g2, g3⟩ := hall d (List.mem_cons_of_mem _ hd) hm
    refine ⟨D', e, ?_, g2, g3⟩
    rw [hother D' (fun e' => hnd.1 (List.mem_filter.2 ⟨by subst e'; rw [← e]; exact hd, rfl⟩))]; exact g1
  refine { slots := RepL.mono le _ _ (RepL.nb _ _ S.slots) S.slots, defers := hdef, objs := ?_, apart := S.apart, notA := S.notA, size := by rw [World.putObj_size]; exact S.size, old := fun b o hb hm => by rw [hcell]; exact S.old b o hb hm, oldObj := ?_, inM := S.inM, froz := ?_, rest := S.rest, low := S.low, names := S.names }
  · intro l x hx
    exact ObjRep.mono (S.objs l x hx) le (fun b hb => hother b (fun e => by subst e; exact h3 l x hx hb))
  · intro b hb hm
    rw [hother b (by omega)]; exact S.oldObj b hb hm
  · intro x hx
    rw [← S.froz x hx]
    by_cases e : x.block = D
    · simp only [World.frozen?]
      rw [e, h1, World.putObj_heap_same (Array.getElem?_eq_some_iff.1 h1).1]
    · simp only [World.frozen?]
      rw [hother x.block e]

theorem Sim.marks {fn : Func} {R : Ending → World → Prop} {u : FrameMode} {φ : Nat → Value} {σ : AState} {tmps tm : Array Value} (hu : u ≠ .run) (hdf : σ.df = []) : ∀ (ds : List Deferred) (w : World), Sim C φ σ { tmps, defers := ds } w →
    (∀ w', Sim C φ σ { tmps, defers := [] } w' → LeavesIn Fence.wide 0 C.P fn tm R [] u w') → LeavesInM Fence.wide 0 C.P fn tm R ds u w
  | [], w, S, h => h w S
  | d :: ds, w, S, h => by
    have hm : isMk d = true := by
      have := S.defers.2.2
      rw [hdf] at this
      have hnil : (d :: ds).filter (fun d => !isMk d) = [] := this
      rw [List.filter_eq_nil_iff] at hnil
      simpa using hnil d (List.mem_cons_self)
    obtain ⟨D, hD, _⟩ := S.defers.2.1 d (List.mem_cons_self) hm
    subst hD
    obtain ⟨h1, S'⟩ := S.takeMark
    exact ⟨hu, .inl ⟨D, _, rfl, run_takeDeferred h1, Sim.marks hu hdf ds _ S' h⟩⟩

end sound

def resOne (P : Program) (σ : AState) : ResultVar → Option AV
  | .tmp t => some (σ.slots.getD t .any)
  | .cell d t => match tinfo P t, σ.slots.getD d .any with
    | some (g, n), .ptr l off => match σ.heap[l]? with
      | some (.cells cs) => loadAV g n (cs.drop off)
      | _ => none
    | _, _ => none

def resList (P : Program) (σ : AState) : List ResultVar → Option (List AV)
  | [] => some []
  | r :: rs => match resOne P σ r, resList P σ rs with
    | some x, some xs => some (x :: xs)
    | _, _ => none

def resAV (P : Program) (σ : AState) (rs : List ResultVar) : Option AV :=
  match resList P σ rs with
  | some [x] => some x
  | some xs => some (.tup xs)
  | none => none

section results
variable {C : Ctx} {φ : Nat → Value} {σ : AState} {a : Act} {w : World}

theorem resOne_sound (S : Sim C φ σ a w) {r : ResultVar} {x : AV} (h : resOne C.P σ r = some x) :
    ∃ v, (match r with | .tmp t => pure (a.tmps.getD t undef) | .cell d t => (do loadVar t (← asAddr (a.tmps.getD d undef))) : Sem Value).run C.P w = .ok v w ∧ Rep (C.env φ σ.heap w) x v := by
  cases r with
  | tmp t =>
    simp only [resOne, Option.some.injEq] at h
    subst h
    exact ⟨_, rfl, S.ev (.tmp t)⟩
  | cell d t =>
    simp only [resOne] at h
    have hd := S.ev (.tmp d)
    simp only [AState.ev] at hd
    split at h
    · rename_i g n l off ht hp
      rw [hp] at hd
      split at h
      · rename_i cs hl
        obtain ⟨u, hu, ru⟩ := load_ptr S ht hl h hd
        obtain ⟨_, b, _, hv⟩ := hd
        refine ⟨u, ?_, ru⟩
        have hv' : a.tmps.getD d undef = .pointer (some ⟨b, off, none⟩) := hv
        rw [show a.eval (.tmp d) = a.tmps.getD d undef from rfl, hv'] at hu
        simp only [hv', asAddr, Sem.run_bind, Sem.run_pure, Result.andThen_ok]
        simpa [Instr.loadAt, Instr.sureAddr] using hu
      · cases h
    · cases h

theorem resList_sound (S : Sim C φ σ a w) : ∀ {rs : List ResultVar} {xs : List AV}, resList C.P σ rs = some xs →
    ∃ vs : List Value, (rs.mapM fun | .tmp t => pure (a.tmps.getD t undef) | .cell d t => (do loadVar t (← asAddr (a.tmps.getD d undef))) : Sem (List Value)).run C.P w = .ok vs w ∧ RepL (C.env φ σ.heap w) xs vs
  | [], _, h => by simp only [resList, Option.some.injEq] at h; subst h; exact ⟨[], rfl, rfl⟩
  | r :: rs, xs, h => by
    simp only [resList] at h
    split at h
    · rename_i x ys h1 h2
      cases h
      obtain ⟨v, hv, rv⟩ := resOne_sound S h1
      obtain ⟨vs, hvs, rvs⟩ := resList_sound S h2
      refine ⟨v :: vs, ?_, v, vs, rfl, rv, rvs⟩
      rw [List.mapM_cons]
      simp only [Sem.run_bind, hv, hvs, Result.andThen_ok, Sem.run_pure]
    · cases h

theorem resAV_sound (S : Sim C φ σ a w) {fn : Func} {x : AV} (h : resAV C.P σ fn.results.toList = some x) : ∃ v, (results fn a.tmps).run C.P w = .ok v w ∧ Rep (C.env φ σ.heap w) x v := by
  unfold resAV at h
  have key : ∀ xs, resList C.P σ fn.results.toList = some xs → ∃ vs : List Value, (results fn a.tmps).run C.P w = .ok (if hh : vs.toArray.size = 1 then vs.toArray[0] else .tuple vs.toArray) w ∧ RepL (C.env φ σ.heap w) xs vs := by
    intro xs hx
    obtain ⟨vs, hvs, rvs⟩ := resList_sound S hx
    refine ⟨vs, ?_, rvs⟩
    unfold results
    rw [Array.mapM_eq_mapM_toList]
    simp only [Sem.run_bind, Sem.run_map, Sem.run_pure]
    generalize hq : Sem.run C.P (List.mapM _ fn.results.toList) w = q
    have hq' : q = .ok vs w := by rw [← hq]; exact hvs
    subst hq'
    simp
  split at h
  · rename_i y hy
    cases h
    obtain ⟨vs, hv, u, us, rfl, r1, r2⟩ := key _ hy
    simp only [RepL] at r2
    subst r2
    exact ⟨_, hv, by simpa using r1⟩
  · rename_i xs hne hx
    cases h
    obtain ⟨vs, hv, rl⟩ := key _ hx
    refine ⟨_, hv, ?_⟩
    have hlen := rl.length
    have hn1 : ¬ vs.toArray.size = 1 := by
      intro h1
      have h2 : xs.length = 1 := by simp at h1; omega
      match xs, h2 with
      | [y], _ => exact hne y rfl
    rw [dif_neg hn1]
    exact ⟨vs.toArray, rfl, rl⟩
  · cases h

end results

theorem fnC_sub {P : Program} {f : FuncId} {args args' : List AV} {V : AV → Prop} (h : FnC P f args' V) (hs : SubL args args') (hn : nbL 0 args) : FnC P f args V := by
  obtain ⟨he, _, hc⟩ := h
  exact ⟨he, hn, fun C φ w hP h0 hN hM vs hr => hc C φ w hP h0 hN hM vs (hs _ _ hr)⟩

def endV (V : AV → Prop) (H : List AObj) : Option AV → Prop
  | some x => (frz 0 H x).nb 0 ∧ ∃ r, Sub (frz 0 H x) r ∧ V r
  | none => False

def retPost (P : Program) (rs : List ResultVar) (V : AV → Prop) : AExit → AState → Prop
  | .normal, σ => σ.df = [] ∧ endV V σ.heap (resAV P σ rs)
  | .ret, σ => σ.df = [] ∧ endV V σ.heap (resAV P σ rs)
  | _, _ => False

theorem fnC_of_body {P : Program} {f : FuncId} {fn : Func} {c : Code} {args : List AV} {V : AV → Prop} (hf : P.funcs[f]? = some fn) (hb : fn.body = some c) (hne : (fn.name != "runtime.NumGoroutine") = true) (hnb : nbL 0 args)
    (h : awp P c (retPost P fn.results.toList V) { slots := args ++ List.replicate (fn.ntmps - args.length) .any, heap := [] }) : FnC P f args V := by
  refine ⟨?_, hnb, fun C φ w hP h0 hN hM vs hr => ?_⟩
  · unfold enters; rw [hf]; simp only [hb, Option.isSome_some, Bool.true_and]; exact hne
  · subst hP
    refine (callsIn_wide (n := 0)).1 (callsIn_of_wp_marks hf hb trivial ?_)
    have hsz : vs.size = args.length := by have := hr.length; simpa using this
    have S : Sim C φ { slots := args ++ List.replicate (fn.ntmps - args.length) .any, heap := [] } { tmps := vs ++ Array.replicate (fn.ntmps - vs.size) undef, defers := [] } w := by
      refine { slots := ?_, defers := DefOK.nil, objs := by simp, apart := by simp, notA := by simp, size := by rw [h0]; exact Nat.le_refl _, old := fun b o _ _ => by rw [h0], oldObj := fun b _ _ => by rw [h0], inM := by simp, froz := fun x _ => by rw [h0], rest := by rw [h0]; exact ⟨rfl, rfl⟩, low := ⟨hN, Nat.le_refl _⟩, names := fun l hl => by rw [hN] at hl; exact absurd hl (Nat.not_lt_zero _) }
      simp only [Array.toList_append, Array.toList_replicate]
      refine hr.append ?_
      rw [hsz]
      have := RepL.replicate_any (E := C.env φ [] w) (List.replicate (fn.ntmps - args.length) undef)
      simpa using this
    refine wpIn_mono (awp_sound (ro := none) c _ φ _ _ w (.inl rfl) h S) ?_
    intro e a' w' hq
    have fin : ∀ φ' σ', Sim C φ' σ' a' w' → σ'.df = [] ∧ endV V σ'.heap (resAV C.P σ' fn.results.toList) →
        LeavesInM Fence.wide 0 C.P fn a'.tmps (fun e w' => ∃ r v φ', V r ∧ e = .returned v ∧ Rep (C.env φ' [] w') r v ∧ w.heap.size ≤ w'.heap.size ∧ (∀ b, b < w.heap.size → w'.heap[b]? = w.heap[b]?) ∧
          (∀ x, x.block < w.heap.size → w'.frozen? x = w.frozen? x) ∧ w'.output = w.output ∧ w'.os = w.os) a'.defers .returning w' := by
      intro φ' σ' S' ⟨hdf, hend⟩
      refine Sim.marks (by simp) hdf _ _ S' (fun w' S' => ?_)
      cases hx : resAV C.P σ' fn.results.toList with
      | none => rw [hx] at hend; exact hend.elim
      | some x =>
      rw [hx] at hend
      obtain ⟨hn, r0, hsub, hV⟩ := hend
      obtain ⟨v, hv, rv⟩ := resAV_sound S' hx
      refine ⟨v, hv, _, v, φ', hV, rfl, hsub _ _ (by have := frz_sound S' (S'.drops (by rw [← S'.low.1]; exact hN)) x v; rw [← S'.low.1, hN] at this; exact this hn rv), ?_, ?_, ?_, ?_⟩
      · rw [← h0]; exact S'.size
      · intro b hb; rw [← h0]; exact S'.oldObj b (by rw [h0]; exact hb) (fun o => hM b o)
      · intro y hy; rw [← h0]; exact S'.froz y (by rw [h0]; exact hy)
      · rw [← h0]; exact S'.rest
    cases e with
    | normal => obtain ⟨φ', σ', S', hq⟩ := hq; exact fin φ' σ' S' hq
    | ret => obtain ⟨φ', σ', S', hq⟩ := hq; exact fin φ' σ' S' hq
    | exit id => obtain ⟨_, _, _, hq⟩ := hq; exact hq.elim
    | goto l => obtain ⟨_, _, _, hq⟩ := hq; exact hq.elim
    | panic chain => obtain ⟨_, _, _, _, _, hq, _⟩ := hq; exact hq.elim
    | outgrown => exact hq.elim

end Go.Abs
namespace Go.Abs
section co
variable {H : List AObj} {n : Nat}
theorem Co1.sub {x y : AV} (h : Sub x y) (hn : y.nb n) : Co1 H n x y := .inl ⟨h, hn⟩
theorem Co.any {x : AV} : Co H n x .any := .inl (.inl ⟨Sub.any _, trivial⟩)
theorem Co.same {x : AV} (h : x.nb n) : Co H n x x := .inl (.inl ⟨Sub.refl _, h⟩)
theorem Co.sub {x y : AV} (h : Sub x y) (hn : y.nb n) : Co H n x y := .inl (.inl ⟨h, hn⟩)
theorem CoL.nil : CoL H n [] [] := rfl
theorem CoL.cons {x y : AV} {xs ys : List AV} (h : Co H n x y) (hs : CoL H n xs ys) : CoL H n (x :: xs) (y :: ys) := ⟨y, ys, rfl, h, hs⟩
theorem CoL.any {x : AV} {xs ys : List AV} (hs : CoL H n xs ys) : CoL H n (x :: xs) (.any :: ys) := ⟨.any, ys, rfl, Co.any, hs⟩
theorem CoH.nil {xs : List AObj} : CoH H n xs [] := by cases xs <;> trivial
theorem CoH.same {x : AObj} {xs ys : List AObj} (h : objNb n x) (hs : CoH H n xs ys) : CoH H n (x :: xs) (x :: ys) := ⟨.inr (.inl ⟨rfl, h⟩), hs⟩
theorem CoH.cells {cs ds : List AV} {xs ys : List AObj} (h : CoL H n cs ds) (hs : CoH H n xs ys) : CoH H n (.cells cs :: xs) (.cells ds :: ys) := ⟨.inr (.inr (.inl ⟨cs, ds, rfl, rfl, h⟩)), hs⟩
theorem CoH.dead {x : AObj} {xs ys : List AObj} (hs : CoH H n xs ys) : CoH H n (x :: xs) (.dead :: ys) := ⟨.inl rfl, hs⟩
theorem CoL.same {xs : List AV} (h : nbL n xs) : CoL H n xs xs := by
  induction xs with
  | nil => rfl
  | cons x xs ih => exact CoL.cons (Co.same h.1) (ih h.2)
end co
theorem callA_co {P : Program} {σ : AState} {f : FuncId} {args args' : List AV} {X : AV} {n : Nat} (h : FnC P f args' (fun r => r = X)) (hs : CoL σ.heap n args args') : CallA P f args σ (fun o H => o = .ret X ∧ H = σ.heap) := by
  obtain ⟨he, hc⟩ := callA_of_fnC (σ := σ) (K := fun o H => o = .ret X ∧ H = σ.heap) h (fun r hr => ⟨by rw [hr], rfl⟩)
  exact ⟨he, fun C φ a w hP S vs hr => hc C φ a w hP S vs (CoL.repS S hs hr)⟩
end Go.Abs
namespace Go.Abs

def stP : Option Code → LoopState
  | none => .ready
  | some _ => .done
theorem stP_not_busy (c : Option Code) : stP c ≠ .busy := by cases c <;> simp [stP]

section
variable {C : Ctx} {φ : Nat → Value} {σ : AState} {a : Act} {w : World}

theorem Sim.nameLoop (S : Sim C φ σ a w) (k : LoopC) (rec : Loop) {slots : List AV} (hs : RepL (C.env φ σ.heap w) slots rec.tmps.toList)
    (hrec : rec.params = k.ps ∧ rec.assign = k.assign ∧ rec.body = k.body ∧ rec.state = .ready ∧ rec.pending = none ∧ rec.defers = w.heap.size) :
    Sim C (fun l => if l = σ.heap.length then .func (.yield (w.heap.size + 1)) #[] #[] else φ l) { σ with heap := σ.heap ++ [.loop k slots .ready 0] } a ((w.alloc (.deferred (some []))).alloc (.loop rec)) := by
  let φ' : Nat → Value := fun l => if l = σ.heap.length then .func (.yield (w.heap.size + 1)) #[] #[] else φ l
  let w' := (w.alloc (.deferred (some []))).alloc (.loop rec)
  have hφ : ∀ l, l < σ.heap.length → φ' l = φ l := fun l hl => by simp only [φ']; rw [if_neg (by omega)]
  have hφn : φ' σ.heap.length = .func (.yield (w.heap.size + 1)) #[] #[] := by simp [φ']
  have hsz : w'.heap.size = w.heap.size + 2 := by
    show (World.more (World.more w _) _).heap.size = _
    rw [more_size, more_size]
  have hold : ∀ b, b < w.heap.size → w'.heap[b]? = w.heap[b]? := by
    intro b hb
    show (World.more (World.more w _) _).heap[b]? = _
    rw [more_old _ _ (by rw [more_size]; omega), more_old _ _ hb]
  have hD : w'.heap[w.heap.size]? = some (.deferred (some [])) := by
    show (World.more (World.more w _) _).heap[_]? = _
    rw [more_old _ _ (by simp [World.more]), more_new]
  have hL : w'.heap[w.heap.size + 1]? = some (.loop rec) := by
    have := more_new (World.more w (.deferred (some []))) (.loop rec)
    rw [more_size] at this; exact this
  have hget : ∀ (l : Nat) (x : AObj), (σ.heap ++ [.loop k slots .ready 0])[l]? = some x → (l < σ.heap.length ∧ σ.heap[l]? = some x) ∨ (l = σ.heap.length ∧ x = .loop k slots .ready 0) := by
    intro l x hx
    by_cases hl : l < σ.heap.length
    · rw [List.getElem?_append_left hl] at hx; exact .inl ⟨hl, hx⟩
    · rw [List.getElem?_append_right (by omega)] at hx
      have hz : l - σ.heap.length = 0 := by
        by_cases e : l - σ.heap.length = 0
        · exact e
        · rw [List.getElem?_eq_none (by simp; omega)] at hx; cases hx
      rw [hz] at hx; simp at hx
      exact .inr ⟨by omega, hx.symm⟩
  have hcell : ∀ b o, b < w.heap.size → w'.cell? ⟨b, o, none⟩ = w.cell? ⟨b, o, none⟩ := by
    intro b o hb; simp only [World.cell?, hold b hb]
  have hnb : ∀ b, (AObj.loop k slots .ready 0).block (φ' σ.heap.length) b → w.heap.size ≤ b := by
    intro b hb
    rw [hφn] at hb
    rcases hb with rfl | hb <;> omega
  have hmut : ∀ b o, Mut φ' (σ.heap ++ [.loop k slots .ready 0]) b o → w.heap.size ≤ b ∨ Mut φ σ.heap b o := by
    rintro b o ⟨l, x, hx, hm⟩
    rcases hget l x hx with ⟨hl, hx⟩ | ⟨rfl, rfl⟩
    · rw [hφ l hl] at hm; exact .inr ⟨l, x, hx, hm⟩
    · exact .inl (hnb b (AObj.block_of_muts hm))
  have le : (C.env φ σ.heap w).Le σ.heap.length (C.env φ' (σ.heap ++ [.loop k slots .ready 0]) w') := by
    refine Ctx.env_le (by simp) (fun l hl => ⟨hφ l hl, by rw [List.getElem?_append_left hl]⟩) (fun b i u hm hc => ?_)
    have hb := cell_lt hc
    refine ⟨fun h => ?_, by rw [hcell b i hb]; exact hc⟩
    rcases h with h | h
    · rcases hmut b i h with e | h
      · omega
      · exact hm (.inl h)
    · exact hm (.inr h)
  have hdef : DefOK C φ' (σ.heap ++ [.loop k slots .ready 0]) w' σ.df a.defers := by
    refine S.defers.step le (fun b hb _ => hold b hb) (fun l x b hx hb => ?_)
    rcases hget l x hx with ⟨hl, hx⟩ | ⟨rfl, rfl⟩
    · rw [hφ l hl] at hb; exact .inl ⟨l, x, hx, hb⟩
    · exact .inr (hnb b hb)
  refine { slots := RepL.mono le _ _ (RepL.nb _ _ S.slots) S.slots, defers := hdef, objs := ?_, apart := ?_, notA := ?_, size := by show _ ≤ w'.heap.size; have := S.size; omega, old := ?_, oldObj := ?_, inM := ?_, froz := ?_, rest := S.rest, low := ⟨S.low.1, by have := S.low.2; simp; omega⟩, names := ?_ }
  · intro l x hx
    show ObjRep _ x (φ' l)
    rcases hget l x hx with ⟨hl, hx⟩ | ⟨rfl, rfl⟩
    · have r0 := S.objs l x hx
      rw [hφ l hl]
      exact ObjRep.mono r0 le (fun b hb => hold b (r0.block_lt hb))
    · rw [hφn]
      exact ⟨w.heap.size, rec, rfl, hL, hD, hrec, RepL.mono le _ _ (RepL.nb _ _ hs) hs⟩
  · intro l l' x x' b hx hx' hb hb'
    have hb : x.block (φ' l) b := hb
    have hb' : x'.block (φ' l') b := hb'
    rcases hget l x hx with ⟨hl, hx⟩ | ⟨rfl, rfl⟩ <;> rcases hget l' x' hx' with ⟨hl', hx'⟩ | ⟨rfl, rfl⟩
    · rw [hφ l hl] at hb
      rw [hφ l' hl'] at hb'
      exact S.apart l l' x x' b hx hx' hb hb'
    · rw [hφ l hl] at hb
      have h1 := (S.objs l x hx).block_lt hb
      have h2 := hnb b hb'
      simp only [Ctx.env] at h1; omega
    · rw [hφ l' hl'] at hb'
      have h1 := (S.objs l' x' hx').block_lt hb'
      have h2 := hnb b hb
      simp only [Ctx.env] at h1; omega
    · rfl
  · intro l x b o hx hb
    have hb : x.block (φ' l) b := hb
    rcases hget l x hx with ⟨hl, hx⟩ | ⟨rfl, rfl⟩
    · rw [hφ l hl] at hb
      exact S.notA l x b o hx hb
    · intro hA
      have h1 := C.hA _ _ hA
      have h2 := hnb b hb
      have := S.size; omega
  · intro b i hb hm; rw [hcell b i (Nat.lt_of_lt_of_le hb S.size)]; exact S.old b i hb hm
  · intro b hb hm; rw [hold b (Nat.lt_of_lt_of_le hb S.size)]; exact S.oldObj b hb hm
  · intro l x b o hx hm hb
    have hm : x.muts (φ' l) b o := hm
    rcases hget l x hx with ⟨hl, hx⟩ | ⟨rfl, rfl⟩
    · rw [hφ l hl] at hm
      exact S.inM l x b o hx hm hb
    · have h2 := hnb b (AObj.block_of_muts hm)
      have := S.size; omega
  · intro x hx
    have h1 := more_frozen (World.more w (.deferred (some []))) (.loop rec) (by intro c t lo hi h; cases h) x
    have h2 := more_frozen w (.deferred (some [])) (by intro c t lo hi h; cases h) x
    exact (h1.trans h2).trans (S.froz x hx)
  · intro l hl
    have hlt : l < σ.heap.length := by have := S.low; omega
    have := S.names l hl
    rw [List.getElem?_append_left hlt]
    show (φ' l = _ ∧ _) ∨ _
    rw [hφ l hlt]; exact this

theorem Sim.setLoop (S : Sim C φ σ a w) {l D : Nat} {k : LoopC} {slots : List AV} {st st' : LoopState} {pend pend' : Int} {rec : Loop} (hl : σ.heap[l]? = some (.loop k slots st pend)) (hφ : φ l = .func (.yield (D + 1)) #[] #[])
    (hw : w.heap[D + 1]? = some (.loop rec)) : Sim C φ { σ with heap := σ.heap.set l (.loop k slots st' pend') } a (w.putObj (D + 1) (.loop { rec with state := st', pending := pendOf k.js pend' })) := by
  have hlt : l < σ.heap.length := (List.getElem?_eq_some_iff.1 hl).1
  have hDlt := (Array.getElem?_eq_some_iff.1 hw).1
  have hget : ∀ (j : Nat) (x : AObj), (σ.heap.set l (.loop k slots st' pend'))[j]? = some x → (j = l ∧ x = .loop k slots st' pend') ∨ (j ≠ l ∧ σ.heap[j]? = some x) := by
    intro j x hx
    by_cases e : j = l
    · subst e; rw [List.getElem?_set_self hlt] at hx; cases hx; exact .inl ⟨rfl, rfl⟩
    · rw [List.getElem?_set_ne (fun h => e h.symm)] at hx; exact .inr ⟨e, hx⟩
  have hbb : (AObj.loop k slots st pend).block (φ l) (D + 1) := by rw [hφ]; exact .inl rfl
  have hmb : ∀ o, (AObj.loop k slots st pend).muts (φ l) (D + 1) o := by intro o; rw [hφ]; exact .inl rfl
  have hother : ∀ b, b ≠ D + 1 → (w.putObj (D + 1) (.loop { rec with state := st', pending := pendOf k.js pend' })).heap[b]? = w.heap[b]? := fun b hb => World.putObj_heap_other hb
  have hcell : ∀ b o, (w.putObj (D + 1) (.loop { rec with state := st', pending := pendOf k.js pend' })).cell? ⟨b, o, none⟩ = w.cell? ⟨b, o, none⟩ := by
    intro b o
    by_cases e : b = D + 1
    · subst e; simp only [World.cell?, hw, World.putObj_heap_same hDlt]
    · simp only [World.cell?, hother b e]
  have hblk : ∀ b, (AObj.loop k slots st' pend').block (φ l) b → (AObj.loop k slots st pend).block (φ l) b := by intro b hb; rw [hφ] at hb ⊢; exact hb
  have hmts : ∀ b o, (AObj.loop k slots st' pend').muts (φ l) b o → (AObj.loop k slots st pend).muts (φ l) b o := by intro b o hb; rw [hφ] at hb ⊢; exact hb
  have hmut : ∀ b o, Mut φ (σ.heap.set l (.loop k slots st' pend')) b o → Mut φ σ.heap b o := by
    rintro b o ⟨j, x, hx, hm⟩
    rcases hget j x hx with ⟨rfl, rfl⟩ | ⟨_, hx⟩
    · exact ⟨j, _, hl, hmts b o hm⟩
    · exact ⟨j, x, hx, hm⟩
  have hlen : ∀ j : Nat, accLen (σ.heap.set l (.loop k slots st' pend'))[j]? = accLen σ.heap[j]? := by
    intro j
    by_cases e : j = l
    · subst e; rw [List.getElem?_set_self hlt, hl]; rfl
    · rw [List.getElem?_set_ne (fun h => e h.symm)]
  have le : (C.env φ σ.heap w).Le σ.heap.length (C.env φ (σ.heap.set l (.loop k slots st' pend')) (w.putObj (D + 1) (.loop { rec with state := st', pending := pendOf k.js pend' }))) :=
    Ctx.env_le (by simp) (fun j _ => ⟨rfl, hlen j⟩) (fun b o u hm hc => ⟨fun h => hm (h.imp (hmut b o) id), by rw [hcell]; exact hc⟩)
  have hdef : DefOK C φ (σ.heap.set l (.loop k slots st' pend')) (w.putObj (D + 1) (.loop { rec with state := st', pending := pendOf k.js pend' })) σ.df a.defers := by
    refine S.defers.step le (fun b _ hno => hother b (fun e => by subst e; exact hno l _ hl hbb)) (fun j x b hx hb => ?_)
    rcases hget j x hx with ⟨rfl, rfl⟩ | ⟨_, hx⟩
    · exact .inl ⟨j, _, hl, hblk b hb⟩
    · exact .inl ⟨j, x, hx, hb⟩
  refine { slots := RepL.mono le _ _ (RepL.nb _ _ S.slots) S.slots, defers := hdef, objs := ?_, apart := ?_, notA := ?_, size := by rw [World.putObj_size]; exact S.size, old := fun b o hb hm => by rw [hcell]; exact S.old b o hb hm, oldObj := ?_, inM := ?_, froz := ?_, rest := S.rest, low := ⟨S.low.1, by simpa using S.low.2⟩, names := ?_ }
  · intro j x hx
    rcases hget j x hx with ⟨rfl, rfl⟩ | ⟨hne, hx⟩
    · obtain ⟨D', rec', e1, g1, g2, g3, rl⟩ := S.objs j _ hl
      rw [hφ] at e1
      simp only [Value.func.injEq, Fn.yield.injEq, Nat.add_right_cancel_iff, and_true] at e1
      subst e1
      have hwr : rec' = rec := by
        have g1 : w.heap[D + 1]? = some (.loop rec') := g1
        rw [hw] at g1; cases g1; rfl
      subst hwr
      refine ⟨D, _, hφ, World.putObj_heap_same hDlt, ?_, ⟨g3.1, g3.2.1, g3.2.2.1, rfl, rfl, g3.2.2.2.2.2⟩, RepL.mono le _ _ (RepL.nb _ _ rl) rl⟩
      show (w.putObj (D + 1) _).heap[D]? = _
      rw [hother D (by omega)]; exact g2
    · exact ObjRep.mono (S.objs j x hx) le (fun b hb => hother b (fun e => by subst e; exact hne (S.apart j l x _ (D + 1) hx hl hb hbb)))
  · intro j j' x x' b hx hx' hb hb'
    rcases hget j x hx with ⟨rfl, rfl⟩ | ⟨hne, hx1⟩ <;> rcases hget j' x' hx' with ⟨e2, rfl⟩ | ⟨hne', hx2⟩
    · exact e2.symm
    · exact S.apart j j' _ x' b hl hx2 (hblk b hb) hb'
    · rw [e2] at hb' ⊢; exact S.apart j l x _ b hx1 hl hb (hblk b hb')
    · exact S.apart j j' x x' b hx1 hx2 hb hb'
  · intro j x b o hx hb
    rcases hget j x hx with ⟨rfl, rfl⟩ | ⟨_, hx⟩
    · exact S.notA j _ b o hl (hblk b hb)
    · exact S.notA j x b o hx hb
  · intro b hb hm
    rw [hother b (fun e => by subst e; exact hm 0 (S.inM l _ (D + 1) 0 hl (hmb 0) hb))]
    exact S.oldObj b hb hm
  · intro j x b o hx hm hb
    rcases hget j x hx with ⟨rfl, rfl⟩ | ⟨_, hx⟩
    · exact S.inM j _ b o hl (hmts b o hm) hb
    · exact S.inM j x b o hx hm hb
  · intro x hx
    rw [← S.froz x hx]
    by_cases e : x.block = D + 1
    · simp only [World.frozen?]
      rw [e, hw, World.putObj_heap_same hDlt]
    · simp only [World.frozen?]
      rw [hother x.block e]
  · intro j hj
    have := S.names j hj
    rw [hlen j]; exact this

theorem Sim.endLoop (S : Sim C φ σ a w) {l D : Nat} {k : LoopC} {slots : List AV} {st : LoopState} {pend : Int} (hl : σ.heap[l]? = some (.loop k slots st pend)) (hφ : φ l = .func (.yield (D + 1)) #[] #[]) (hD : C.w0.heap.size ≤ D) :
    Sim C φ { σ with heap := σ.heap.set l .dead } { a with defers := ⟨.collected D, #[]⟩ :: a.defers } w := by
  have hlt : l < σ.heap.length := (List.getElem?_eq_some_iff.1 hl).1
  have hlow : C.N0 ≤ l ∨ l < C.N0 := by omega
  -- the same handles
  have hmutw : ∀ b o, Mut φ (σ.heap.set l .dead) b o → Mut φ σ.heap b o := by
    rintro b o ⟨j, x, hx, hm⟩
    by_cases e : j = l
    · subst e; rw [List.getElem?_set_self hlt] at hx; cases hx; exact absurd hm (by simp [AObj.muts])
    · rw [List.getElem?_set_ne (fun h => e h.symm)] at hx; exact ⟨j, x, hx, hm⟩
  have hget : ∀ (j : Nat) (x : AObj), (σ.heap.set l .dead)[j]? = some x → (j = l ∧ x = .dead) ∨ (j ≠ l ∧ σ.heap[j]? = some x) := by
    intro j x hx
    by_cases e : j = l
    · subst e; rw [List.getElem?_set_self hlt] at hx; cases hx; exact .inl ⟨rfl, rfl⟩
    · rw [List.getElem?_set_ne (fun h => e h.symm)] at hx; exact .inr ⟨e, hx⟩
  have hlen : ∀ j : Nat, accLen (σ.heap.set l .dead)[j]? = accLen σ.heap[j]? := by
    intro j
    by_cases e : j = l
    · subst e; rw [List.getElem?_set_self hlt, hl]; rfl
    · rw [List.getElem?_set_ne (fun h => e h.symm)]
  have le : (C.env φ σ.heap w).Le σ.heap.length (C.env φ (σ.heap.set l .dead) w) :=
    Ctx.env_le (by simp) (fun j _ => ⟨rfl, hlen j⟩) (fun b o u hm hc => ⟨fun h => hm (h.imp (hmutw b o) id), hc⟩)
  have hbD : (AObj.loop k slots st pend).block (φ l) D := by rw [hφ]; exact .inr rfl
  have hdef : DefOK C φ (σ.heap.set l .dead) w σ.df (⟨.collected D, #[]⟩ :: a.defers) := by
    obtain ⟨hnd, hall, hrd⟩ := S.defers
    have hmk : isMk (⟨.collected D, #[]⟩ : Deferred) = true := rfl
    refine ⟨?_, fun d hd hm => ?_, ?_⟩
    · simp only [List.filter_cons, hmk, if_true]
      refine List.nodup_cons.2 ⟨fun hm => ?_, hnd⟩
      obtain ⟨D', e, _, _, h4⟩ := hall _ (List.mem_filter.1 hm).1 rfl
      simp only [Deferred.mk.injEq, Target.collected.injEq, and_true] at e
      subst e
      exact h4 l _ hl hbD
    · rcases List.mem_cons.1 hd with rfl | hd
      · refine ⟨D, rfl, ?_, hD, fun j x hx hb => ?_⟩
        · obtain ⟨D', rec', e1, g1, g2, _⟩ := S.objs l _ hl
          rw [hφ] at e1
          simp only [Value.func.injEq, Fn.yield.injEq, Nat.add_right_cancel_iff, and_true] at e1
          subst e1; exact g2
        · rcases hget j x hx with ⟨rfl, rfl⟩ | ⟨hne, hx⟩
          · simp [AObj.block] at hb
          · exact hne (S.apart j l x _ D hx hl hb hbD)
      · obtain ⟨D', e, h2, h3, h4⟩ := hall d hd hm
        refine ⟨D', e, h2, h3, fun j x hx hb => ?_⟩
        rcases hget j x hx with ⟨rfl, rfl⟩ | ⟨hne, hx⟩
        · simp [AObj.block] at hb
        · exact h4 j x hx hb
    · simp only [List.filter_cons, hmk, Bool.not_true, Bool.false_eq_true, if_false]
      exact hrd.mono le
  refine { slots := RepL.mono le _ _ (RepL.nb _ _ S.slots) S.slots, defers := hdef, objs := ?_, apart := ?_, notA := ?_, size := S.size, old := S.old, oldObj := S.oldObj, inM := ?_, froz := S.froz, rest := S.rest, low := ⟨S.low.1, by simpa using S.low.2⟩, names := ?_ }
  · intro j x hx
    rcases hget j x hx with ⟨rfl, rfl⟩ | ⟨_, hx⟩
    · trivial
    · exact ObjRep.mono (S.objs j x hx) le (fun _ _ => rfl)
  · intro j j' x x' b hx hx' hb hb'
    rcases hget j x hx with ⟨rfl, rfl⟩ | ⟨_, hx⟩
    · simp [AObj.block] at hb
    · rcases hget j' x' hx' with ⟨rfl, rfl⟩ | ⟨_, hx'⟩
      · simp [AObj.block] at hb'
      · exact S.apart j j' x x' b hx hx' hb hb'
  · intro j x b o hx hb
    rcases hget j x hx with ⟨rfl, rfl⟩ | ⟨_, hx⟩
    · simp [AObj.block] at hb
    · exact S.notA j x b o hx hb
  · intro j x b o hx hm hb
    rcases hget j x hx with ⟨rfl, rfl⟩ | ⟨_, hx⟩
    · simp [AObj.muts] at hm
    · exact S.inM j x b o hx hm hb
  · intro j hj
    have := S.names j hj
    rw [hlen j]; exact this

def jumpQ (Q : AExit → AState → Prop) (σ : AState) : Option Code → Prop
  | none => Q .normal σ
  | some .ret => Q .ret σ
  | some (.exit id) => Q (.exit id) σ
  | _ => False

theorem rangeA_call {P : Program} {g : Operand} {ps : Array Tmp} {as body : Code} {js : List (Int × Code)} {Q : AExit → AState → Prop} {σ : AState} {f : FuncId} {first cap : List AV} (hg : σ.ev g = .func (.func f) first cap)
    (hcall : CallA P f (first ++ [.map σ.heap.length] ++ cap) { σ with slots := σ.slots ++ [.map σ.heap.length], heap := σ.heap ++ [.loop ⟨ps, as, body, js⟩ σ.slots .ready 0] }
      (fun o H' => ∃ r k s pend, o = .ret r ∧ H'[σ.heap.length]? = some (.loop k s (stP (pendOf k.js pend)) pend) ∧ jumpQ Q { σ with heap := H'.set σ.heap.length .dead } (pendOf k.js pend))) : RangeA P g ps as body Q σ := by
  intro C φ a w hP S
  subst hP
  refine wpIn_rangeFunc ?_
  intro fn _
  have hx := S.ev g
  rw [hg] at hx
  obtain ⟨f', c', hx, rf, rc⟩ := hx
  let lp : Loop := { state := .ready, pending := none, fn, tmps := a.tmps, params := ps, assign := as, body, defers := w.heap.size }
  let w1 := (w.alloc (.deferred (some []))).alloc (.loop lp)
  let Y : Value := .func (.yield (w.heap.size + 1)) #[] #[]
  have S1 := S.nameLoop ⟨ps, as, body, js⟩ lp S.slots ⟨rfl, rfl, rfl, rfl, rfl, rfl⟩
  have rY : Rep (C.env (fun l => if l = σ.heap.length then Y else φ l) (σ.heap ++ [.loop ⟨ps, as, body, js⟩ σ.slots .ready 0]) w1) (.map σ.heap.length) Y := by
    refine ⟨by simp [Ctx.env], by simp [Ctx.env, Y], w.heap.size + 1, ?_⟩
    simp [Ctx.env, Y, hdl]
  have S2 : Sim C (fun l => if l = σ.heap.length then Y else φ l) { σ with slots := σ.slots ++ [.map σ.heap.length], heap := σ.heap ++ [.loop ⟨ps, as, body, js⟩ σ.slots .ready 0] } { a with tmps := a.tmps.push Y } w1 := by
    refine { S1 with slots := ?_, defers := S1.defers }
    simp only [Array.toList_push]
    exact S1.slots.append ⟨Y, [], rfl, rY, rfl⟩
  -- the callee's arguments in the new world
  have hle : (C.env φ σ.heap w).Le σ.heap.length (C.env (fun l => if l = σ.heap.length then Y else φ l) (σ.heap ++ [.loop ⟨ps, as, body, js⟩ σ.slots .ready 0]) w1) := by
    refine Ctx.env_le (by simp) (fun l hl => ⟨by rw [if_neg (by omega)], by rw [List.getElem?_append_left hl]⟩) (fun b i u hm hc => ?_)
    have hb := cell_lt hc
    have hold : w1.heap[b]? = w.heap[b]? := by
      show (World.more (World.more w _) _).heap[b]? = _
      rw [more_old _ _ (by simp [World.more]; omega), more_old _ _ hb]
    refine ⟨fun h => ?_, by simp only [World.cell?, hold]; exact hc⟩
    rcases h with ⟨l, x, hx, hm'⟩ | h
    · by_cases hl : l < σ.heap.length
      · rw [List.getElem?_append_left hl] at hx
        have hm' : x.muts (if l = σ.heap.length then Y else φ l) b i := hm'
        rw [if_neg (by omega)] at hm'
        exact hm (.inl ⟨l, x, hx, hm'⟩)
      · have hl' : l = σ.heap.length := by
          have := (List.getElem?_eq_some_iff.1 hx).1
          simp at this; omega
        subst hl'
        simp at hx; subst hx
        have hm' : (AObj.loop ⟨ps, as, body, js⟩ σ.slots .ready 0).muts (if σ.heap.length = σ.heap.length then Y else φ σ.heap.length) b i := hm'
        rw [if_pos rfl] at hm'
        rcases hm' with rfl | h <;> omega
    · exact hm (.inr h)
  have hargs : RepL (C.env (fun l => if l = σ.heap.length then Y else φ l) (σ.heap ++ [.loop ⟨ps, as, body, js⟩ σ.slots .ready 0]) w1) (first ++ [.map σ.heap.length] ++ cap) (f' ++ #[Y] ++ c').toList := by
    have hY : RepL (C.env (fun l => if l = σ.heap.length then Y else φ l) (σ.heap ++ [.loop ⟨ps, as, body, js⟩ σ.slots .ready 0]) w1) [.map σ.heap.length] [Y] := ⟨Y, [], rfl, rY, rfl⟩
    simp only [Array.toList_append]
    exact ((RepL.mono hle _ _ (RepL.nb _ _ rf) rf).append hY).append (RepL.mono hle _ _ (RepL.nb _ _ rc) rc)
  obtain ⟨he, hc⟩ := hcall
  have hbody : ∃ fnc, C.P.funcs[f]? = some fnc ∧ fnc.name ≠ "runtime.NumGoroutine" ∧ fnc.body ≠ none := by
    unfold enters at he
    split at he
    · rename_i fnc hf
      simp only [Bool.and_eq_true, bne_iff_ne, ne_eq] at he
      exact ⟨fnc, hf, he.2, fun hb => by simp [hb] at he⟩
    · cases he
  obtain ⟨fnc, hf, hname, hnone⟩ := hbody
  refine ⟨w.heap.size + 1, [⟨.collected w.heap.size, #[]⟩], w1, { target := .fn (.func f) c', args := f' ++ #[Y] }, w1, f, f' ++ #[Y] ++ c', w1, ?_, ?_, fun _ _ => trivial, ?_, fun h => by simp [fence, Fence.wide] at h, ?_⟩
  · exact run_enterLoop_outer _ _ _ _ _
  · have hev : a.eval g = .func (.func f) f' c' := hx
    have hY2 : a.eval (.const Y) = Y := rfl
    simp [resolve, hev, Deferred.ofValue]
    rfl
  · simp [invoke, callFunc, hf, hname, hnone]
  · refine fence_calls.2 ((hc C _ _ w1 rfl S2 _ hargs).mono ?_)
    rintro e w' ⟨o, φ2, H', ⟨r, k, s, pend, rfl, hH, hj⟩, S3, hrep⟩
    cases e with
    | panicked chain => exact hrep.elim
    | outgrown => exact hrep.elim
    | returned v =>
      have hlast : φ2 σ.heap.length = Y := by
        have hsl := S3.slots
        have hlen : a.tmps.toList.length = σ.slots.length := S.slots.length
        have := hsl.drop σ.slots.length
        simp only [Array.toList_push] at this
        rw [List.drop_left' rfl, List.drop_left' hlen] at this
        obtain ⟨u, us, he2, r1, _⟩ := this
        simp only [List.cons.injEq] at he2
        obtain ⟨rfl, _⟩ := he2
        exact r1.2.1.symm
      have S4 : Sim C φ2 { σ with heap := H' } a w' := by
        have hsl := S3.slots
        have hlen : a.tmps.toList.length = σ.slots.length := S.slots.length
        have := hsl.take σ.slots.length
        simp only [Array.toList_push] at this
        rw [List.take_left' rfl, List.take_left' hlen] at this
        exact { S3 with slots := this, defers := S3.defers }
      obtain ⟨D, rec', e1, g1, g2, g3, _⟩ := S4.objs _ _ hH
      rw [hlast] at e1
      simp only [Y, Value.func.injEq, Fn.yield.injEq, Nat.add_right_cancel_iff, and_true] at e1
      subst e1
      have g1 : w'.heap[w.heap.size + 1]? = some (.loop rec') := g1
      have hend := run_endLoop (P := C.P) g1 (by rw [g3.2.2.2.1]; exact stP_not_busy _)
      rw [g3.2.2.2.2.1] at hend
      refine ⟨pendOf k.js pend, _, hend, ?_⟩
      have S5 : Sim C φ2 { σ with heap := H'.set σ.heap.length .dead } { a with defers := ⟨.collected w.heap.size, #[]⟩ :: a.defers } (w'.putObj (w.heap.size + 1) (.loop { rec' with state := .exhausted, pending := pendOf k.js pend })) := by
        have h5 := S4.setLoop (st' := .exhausted) (pend' := pend) hH hlast g1
        have h6 := h5.endLoop (l := σ.heap.length) (D := w.heap.size) (k := k) (slots := s) (st := .exhausted) (pend := pend) (by
          show (H'.set σ.heap.length _)[σ.heap.length]? = _
          rw [List.getElem?_set_self (List.getElem?_eq_some_iff.1 hH).1]) hlast S.size
        have e1 : ({ σ with heap := (H'.set σ.heap.length (.loop k s .exhausted pend)).set σ.heap.length .dead } : AState) = { σ with heap := H'.set σ.heap.length .dead } := by
          rw [List.set_set]
        exact e1 ▸ h6
      generalize pendOf k.js pend = pc at *
      cases pc with
      | none => exact ⟨φ2, _, S5, hj⟩
      | some c =>
        cases c with
        | ret => exact wpIn_ret ⟨φ2, _, S5, hj⟩
        | exit id => exact wpIn_exit ⟨φ2, _, S5, hj⟩
        | _ => exact hj.elim
end
end Go.Abs
namespace Go.Abs

inductive CO where
  | ret (e : Eff)
  | pan (x : AV) (H : List AObj)

structure Mach (R : Type) where
  P : Program
  body : Code
  cl : FuncId → List AV → List AObj → Option (AV × List AObj)
  cd : FuncId → List AV → Option AV
  nrm : List Nat → AState → Option AState
  cut : List Nat → AState → Option AState
  n : Nat
  out : AState → Option R
  cy : Nat → List AV → List AObj → Option (AV × List AObj) := fun _ _ _ => none
  outR : AExit → AState → Option R := fun _ _ => none
  js : List Nat → List (Int × Code) := fun _ => []
  isE : FuncId → Bool := fun _ => false
  ce : FuncId → List AV → List AObj → Option Eff := fun _ _ _ => none
  isP : FuncId → Bool := fun _ => false
  cp : FuncId → List AV → List AObj → Option (AOut × List AObj) := fun _ _ _ => none
  isC : FuncId → Bool := fun _ => false
  co : FuncId → List AV → List AObj → Option CO := fun _ _ _ => none
  outP : AV → AState → Option R := fun _ _ => none

noncomputable def pcond {R : Type} (p : Prop) (x : Option R) : Option R := @ite _ p (Classical.propDecidable p) x none
theorem pcond_some {R : Type} {p : Prop} {x : Option R} {r : R} : pcond p x = some r ↔ p ∧ x = some r := by
  unfold pcond
  split
  · rename_i h; simp [h]
  · rename_i h; simp [h]
theorem pcond_true {R : Type} {x : Option R} : pcond True x = x := by simp [pcond]
theorem pcond_and {R : Type} {p q : Prop} {x : Option R} : pcond (p ∧ q) x = pcond p (pcond q x) := by
  unfold pcond
  by_cases hp : p <;> by_cases hq : q <;> simp [hp, hq]
theorem pcond_dec {R : Type} {p : Prop} [Decidable p] {x : Option R} : pcond p x = bif decide p then x else none := by
  unfold pcond
  by_cases hp : p <;> simp [hp]

def setB (x : Operand) (b : Bool) (σ : AState) : AState :=
  match x with
  | .tmp t => { σ with slots := σ.slots.set t (.bool b) }
  | _ => σ

theorem setB_eq {x : Operand} {b : Bool} {σ : AState} (h : σ.ev x = .bool b) : setB x b σ = σ := by
  cases x with
  | tmp t =>
    simp only [AState.ev, List.getD] at h
    cases hg : σ.slots[t]? with
    | none => rw [hg] at h; simp at h
    | some v =>
      rw [hg] at h
      simp only [Option.getD_some] at h
      subst h
      obtain ⟨hlt, he⟩ := List.getElem?_eq_some_iff.1 hg
      simp only [setB]
      rw [← he, List.set_getElem_self]
  | _ => rfl

def gset (ops : Array Oper) (o : Oper) (b : Bool) (σ : AState) : AState :=
  match o.guard with
  | none => σ
  | some (j, want) => match (ops[j]?).bind (·.dst) with
    | some d => match σ.slots[d]? with
      | some (.bool _) => { σ with slots := σ.slots.set d (.bool (b == want)) }
      | _ => σ
    | none => σ

theorem gset_eq {ops : Array Oper} {o : Oper} {b : Bool} {σ : AState} (h : wantedA ops o σ = some b) : gset ops o b σ = σ := by
  unfold wantedA at h
  unfold gset
  split
  · rfl
  · rename_i j want hg
    simp only [hg] at h
    split
    · rename_i d hd
      simp only [hd] at h
      split
      · rename_i c hc
        simp only [hc, Option.some.injEq] at h
        have : (b == want) = c := by subst h; cases c <;> cases want <;> rfl
        rw [this]
        obtain ⟨hlt, he⟩ := List.getElem?_eq_some_iff.1 hc
        rw [← he, List.set_getElem_self]
      · rfl
    · rfl

section
variable {R : Type}

noncomputable def execOps (M : Mach R) (ops : Array Oper) : List Oper → AState → Option (AExit × AState)
  | [], σ => some (.normal, σ)
  | o :: rest, σ => match wantedA ops o σ with
    | none => none
    | some b => bif b then (match calleeOf (gset ops o true σ) o.op with
        | some (f, args) => bif M.isP f then (match M.cp f args (gset ops o true σ).heap with
            | some (.ret r, H') => execOps M ops rest (AState.put { gset ops o true σ with heap := H' } o.dst r)
            | some (.panic x, H') => some (.panic x, { gset ops o true σ with heap := H' })
            | none => none)
          else match M.cl f args (gset ops o true σ).heap with
          | some (r, H') => execOps M ops rest (AState.put { gset ops o true σ with heap := H' } o.dst r)
          | none => none
        | none => match yieldOf (gset ops o true σ) o.op with
          | some (l, args) => match M.cy l args (gset ops o true σ).heap with
            | some (r, H') => execOps M ops rest (AState.put { gset ops o true σ with heap := H' } o.dst r)
            | none => none
          | none => match opEff M.P (gset ops o true σ) o.op with
            | some e => pcond e.pre (execOps M ops rest ((gset ops o true σ).app o.dst e))
            | none => match deferOf (gset ops o true σ) o.op with
              | some p => execOps M ops rest ((gset ops o true σ).dfr p o.dst)
              | none => match panOf (gset ops o true σ) o.op with
                | some x => some (.panic x, gset ops o true σ)
                | none => none)
      else execOps M ops rest ((gset ops o false σ).put o.dst (.raw undef))

noncomputable def execD (M : Mach R) (ops : Array Oper) : List Oper → Nat → List Tr → AState → Option (AExit × AState)
  | [], _, _, σ => some (.normal, σ)
  | o :: rest, j, tr, σ => match wantedA ops o σ with
    | none => none
    | some b => bif b then (match calleeOf (gset ops o true σ) o.op with
        | some (f, args) => bif M.isC f then (match M.co f args (gset ops o true σ).heap with
            | some (.ret e) => pcond (e.pre ∧ compatC ops tr j e) (execD M ops rest (j + 1) (pushTr tr j (gset ops o true σ).heap.length e) ((gset ops o true σ).app o.dst e))
            | some (.pan x H') => pcond (trIdle tr = true ∧ restI M.P ops j rest (j + 1) ((gset ops o true σ).put o.dst (.raw undef))) (some (.panic x, { gset ops o true σ with slots := wipe ops (gset ops o true σ).slots, heap := H' }))
            | none => none)
          else bif M.isE f then (match M.ce f args (gset ops o true σ).heap with
            | some e => pcond (e.pre ∧ compatC ops tr j e) (execD M ops rest (j + 1) (pushTr tr j (gset ops o true σ).heap.length e) ((gset ops o true σ).app o.dst e))
            | none => none)
          else match M.cd f args with
          | some r => execD M ops rest (j + 1) tr ((gset ops o true σ).put o.dst r)
          | none => none
        | none => match opEff M.P (gset ops o true σ) o.op with
          | some e => pcond (e.pre ∧ compatC ops tr j e) (execD M ops rest (j + 1) (pushTr tr j (gset ops o true σ).heap.length e) ((gset ops o true σ).app o.dst e))
          | none => none)
      else execD M ops rest (j + 1) tr ((gset ops o false σ).put o.dst (.raw undef))

def lqN (nrm : AState → Option AState) (body : AState → Option (AExit × AState)) : Nat → AState → Option (AExit × AState)
  | 0, _ => none
  | m + 1, σ => match body σ with
    | some (.normal, σ') => (nrm σ').bind (lqN nrm body m)
    | r => r

def jumpX (σ : AState) : Option Code → Option (AExit × AState)
  | none => some (.normal, σ)
  | some .ret => some (.ret, σ)
  | some (.exit id) => some (.exit id, σ)
  | _ => none
noncomputable def endX (σ : AState) (H' : List AObj) : Option AObj → Option (AExit × AState)
  | some (.loop lk _ st pend) => pcond (st = stP (pendOf lk.js pend)) (jumpX { σ with heap := H'.set σ.heap.length .dead } (pendOf lk.js pend))
  | _ => none
noncomputable def rngX (M : Mach R) (lk : LoopC) (σ : AState) : AV → Option (AExit × AState)
  | .func (.func f) first cap => match M.cl f (first ++ [.map σ.heap.length] ++ cap) (σ.heap ++ [.loop lk σ.slots .ready 0]) with
    | some (_, H') => endX σ H' H'[σ.heap.length]?
    | none => none
  | _ => none

noncomputable def exec (M : Mach R) : Code → List Nat → AState → Option (AExit × AState)
  | .skip, _, σ => some (.normal, σ)
  | .region _ ops false, _, σ => execOps M ops ops.toList σ
  | .region _ ops true, _, σ => pcond (M.P.follows .mixedOrders = true ∧ drawOK ops = true) (execD M ops ops.toList 0 [] σ)
  | .seq x y, p, σ => match exec M x (0 :: p) σ with
    | some (.normal, σ') => (M.cut (1 :: p) σ').bind (exec M y (1 :: p))
    | r => r
  | .cond c x y, p, σ => match σ.ev c with
    | .bool b => bif b then exec M x (0 :: p) (setB c true σ) else exec M y (1 :: p) (setB c false σ)
    | _ => none
  | .block id x, p, σ => match exec M x (0 :: p) σ with
    | some (.exit id', σ') => if id' = id then some (.normal, σ') else some (.exit id', σ')
    | r => r
  | .loop x, p, σ => (M.nrm p σ).bind (lqN (M.nrm p) (exec M x (0 :: p)) M.n)
  | .exit id, _, σ => some (.exit id, σ)
  | .scope x, p, σ => exec M x (0 :: p) σ
  | .label _, _, σ => some (.normal, σ)
  | .ret, _, σ => some (.ret, σ)
  | .goto _, _, _ => none
  | .rangeFunc g ps as body, p, σ => rngX M ⟨ps, as, body, M.js p⟩ σ (σ.ev g)
  | .refuse _, _, _ => none

structure Good (M : Mach R) : Prop where
  cl : ∀ f args σ r H', M.cl f args σ.heap = some (r, H') → CallA M.P f args σ (fun o H'' => o = .ret r ∧ H'' = H')
  cd : ∀ f args r, M.cd f args = some r → FnC M.P f args (fun v => v = r)
  nrm : ∀ p σ σ', M.nrm p σ = some σ' → Imp σ σ'
  cut : ∀ p σ σ', M.cut p σ = some σ' → Imp σ σ'
  cy : ∀ l args σ r H', M.cy l args σ.heap = some (r, H') → YieldA M.P l args σ (fun o H'' => o = .ret r ∧ H'' = H')
  ce : ∀ f args σ e, M.ce f args σ.heap = some e → CallL M.P f args σ e
  cp : ∀ f args σ o H', M.cp f args σ.heap = some (o, H') → CallA M.P f args σ (fun o' H'' => o' = o ∧ H'' = H')
  co : ∀ f args σ, (∀ e, M.co f args σ.heap = some (.ret e) → CallL M.P f args σ e) ∧ ∀ x H', M.co f args σ.heap = some (.pan x H') → PanC M.P f args σ.heap x H'

theorem noP_ok {P : Program} : ∀ (f : FuncId) (args : List AV) (σ : AState) (o : AOut) (H' : List AObj), (fun _ _ _ => none : FuncId → List AV → List AObj → Option (AOut × List AObj)) f args σ.heap = some (o, H') → CallA P f args σ (fun o' H'' => o' = o ∧ H'' = H') := by
  intro f args σ o H' h; cases h
theorem noC_ok {P : Program} : ∀ (f : FuncId) (args : List AV) (σ : AState), (∀ e, (fun _ _ _ => none : FuncId → List AV → List AObj → Option CO) f args σ.heap = some (.ret e) → CallL P f args σ e) ∧ ∀ x H', (fun _ _ _ => none : FuncId → List AV → List AObj → Option CO) f args σ.heap = some (.pan x H') → PanC P f args σ.heap x H' := by
  intro f args σ
  exact ⟨fun e h => (by cases h), fun x H' h => (by cases h)⟩
theorem CallA.mono {P : Program} {f : FuncId} {args : List AV} {σ : AState} {K K' : AOut → List AObj → Prop} (h : CallA P f args σ K) (hk : ∀ o H, K o H → K' o H) : CallA P f args σ K' := by
  obtain ⟨he, hc⟩ := h
  refine ⟨he, fun C φ a w hP S vs hr => (hc C φ a w hP S vs hr).mono ?_⟩
  rintro e w' ⟨o, φ', H', h1, h2⟩
  exact ⟨o, φ', H', hk _ _ h1, h2⟩

theorem YieldA.mono {P : Program} {l : Nat} {args : List AV} {σ : AState} {K K' : AOut → List AObj → Prop} (h : YieldA P l args σ K) (hk : ∀ o H, K o H → K' o H) : YieldA P l args σ K' := by
  obtain ⟨he, hc⟩ := h
  refine ⟨he, fun C φ a w hP S vs hr D rec h1 h2 => (hc C φ a w hP S vs hr D rec h1 h2).mono ?_⟩
  rintro e w' ⟨o, φ', H', h1, h2⟩
  exact ⟨o, φ', H', hk _ _ h1, h2⟩
theorem noY_ok {P : Program} : ∀ (l : Nat) (args : List AV) (σ : AState) (r : AV) (H' : List AObj), (fun _ _ _ => none : Nat → List AV → List AObj → Option (AV × List AObj)) l args σ.heap = some (r, H') → YieldA P l args σ (fun o H'' => o = .ret r ∧ H'' = H') := by
  intro l args σ r H' h; cases h

theorem execOps_sound {M : Mach R} (G : Good M) {ops : Array Oper} {Q : AExit → AState → Prop} : ∀ (rest : List Oper) (σ σ' : AState) (e : AExit), execOps M ops rest σ = some (e, σ') → Q e σ' → awpOps M.P ops rest Q σ
  | [], σ, σ', e, h, hq => by simp only [execOps, Option.some.injEq, Prod.mk.injEq] at h; obtain ⟨rfl, rfl⟩ := h; exact hq
  | o :: rest, σ, σ', en, h, hq => by
    simp only [execOps] at h
    simp only [awpOps]
    cases hw : wantedA ops o σ with
    | none => simp only [hw] at h; cases h
    | some b =>
      simp only [hw] at h
      have hg := gset_eq hw
      cases b with
      | false =>
        refine ⟨fun h => (by cases h), fun _ => ?_⟩
        simp only [cond_false, hg] at h
        exact execOps_sound G rest _ σ' _ h hq
      | true =>
        refine ⟨fun _ => ?_, fun h => by cases h⟩
        simp only [cond_true, hg] at h
        cases hc : calleeOf σ o.op with
        | some p =>
          obtain ⟨f, args⟩ := p
          simp only [hc] at h ⊢
          cases hi : M.isP f with
          | true =>
            simp only [hi, cond_true] at h
            cases ha : M.cp f args σ.heap with
            | none => simp only [ha] at h; cases h
            | some q =>
              obtain ⟨r, H'⟩ := q
              refine (G.cp f args σ r H' ha).mono ?_
              cases r with
              | ret r =>
                simp only [ha] at h
                rintro o' H'' ⟨rfl, rfl⟩
                exact execOps_sound G rest _ σ' _ h hq
              | panic x =>
                simp only [ha, Option.some.injEq, Prod.mk.injEq] at h
                obtain ⟨rfl, rfl⟩ := h
                rintro o' H'' ⟨rfl, rfl⟩
                exact hq
          | false =>
            simp only [hi, cond_false] at h
            cases ha : M.cl f args σ.heap with
            | none => simp only [ha] at h; cases h
            | some q =>
              obtain ⟨r, H'⟩ := q
              simp only [ha] at h
              refine (G.cl f args σ r H' ha).mono ?_
              rintro o' H'' ⟨rfl, rfl⟩
              exact execOps_sound G rest _ σ' _ h hq
        | none =>
          simp only [hc] at h ⊢
          cases hy : yieldOf σ o.op with
          | some p =>
            obtain ⟨l, args⟩ := p
            simp only [hy] at h ⊢
            cases ha : M.cy l args σ.heap with
            | none => simp only [ha] at h; cases h
            | some q =>
              obtain ⟨r, H'⟩ := q
              simp only [ha] at h
              refine (G.cy l args σ r H' ha).mono ?_
              rintro o' H'' ⟨rfl, rfl⟩
              exact execOps_sound G rest _ σ' _ h hq
          | none =>
            simp only [hy] at h ⊢
            cases he : opEff M.P σ o.op with
            | none =>
              simp only [he] at h ⊢
              cases hd : deferOf σ o.op with
              | some p =>
                simp only [hd] at h ⊢
                exact execOps_sound G rest _ σ' _ h hq
              | none =>
                simp only [hd] at h ⊢
                cases hp : panOf σ o.op with
                | some x =>
                  simp only [hp, Option.some.injEq, Prod.mk.injEq] at h ⊢
                  obtain ⟨rfl, rfl⟩ := h
                  exact hq
                | none => simp only [hp] at h; cases h
            | some e =>
              simp only [he] at h
              rw [pcond_some] at h
              exact ⟨h.1, execOps_sound G rest _ σ' _ h.2 hq⟩

theorem execD_sound {M : Mach R} (G : Good M) {ops : Array Oper} {Q : AExit → AState → Prop} : ∀ (rest : List Oper) (j : Nat) (tr : List Tr) (σ σ' : AState) (e : AExit), execD M ops rest j tr σ = some (e, σ') → Q e σ' → awpDc M.P ops Q rest j tr σ
  | [], _, _, σ, σ', e, h, hq => by simp only [execD, Option.some.injEq, Prod.mk.injEq] at h; obtain ⟨rfl, rfl⟩ := h; exact hq
  | o :: rest, j, tr, σ, σ', en, h, hq => by
    simp only [execD] at h
    simp only [awpDc]
    cases hw : wantedA ops o σ with
    | none => simp only [hw] at h; cases h
    | some b =>
      simp only [hw] at h
      have hg := gset_eq hw
      cases b with
      | false =>
        refine ⟨fun h => (by cases h), fun _ => ?_⟩
        simp only [cond_false, hg] at h
        exact execD_sound G rest _ _ _ σ' _ h hq
      | true =>
        refine ⟨fun _ => ?_, fun h => (by cases h)⟩
        simp only [cond_true, hg] at h
        cases hc : calleeOf σ o.op with
        | some p =>
          obtain ⟨f, args⟩ := p
          simp only [hc] at h ⊢
          cases hic : M.isC f with
          | true =>
            simp only [hic, cond_true] at h
            cases ha : M.co f args σ.heap with
            | none => simp only [ha] at h; cases h
            | some q =>
              cases q with
              | ret e =>
                simp only [ha] at h
                rw [pcond_some] at h
                exact .inr (.inl ⟨e, (G.co f args σ).1 e ha, h.1.2, execD_sound G rest _ _ _ σ' _ h.2 hq⟩)
              | pan x H' =>
                simp only [ha] at h
                rw [pcond_some] at h
                obtain ⟨⟨h1, h2⟩, h⟩ := h
                simp only [Option.some.injEq, Prod.mk.injEq] at h
                obtain ⟨rfl, rfl⟩ := h
                exact .inr (.inr ⟨x, H', (G.co f args σ).2 x H' ha, h1, h2, hq⟩)
          | false =>
          simp only [hic, cond_false] at h
          cases hi : M.isE f with
          | true =>
            simp only [hi, cond_true] at h
            cases ha : M.ce f args σ.heap with
            | none => simp only [ha] at h; cases h
            | some e =>
              simp only [ha] at h
              rw [pcond_some] at h
              exact .inr (.inl ⟨e, G.ce f args σ e ha, h.1.2, execD_sound G rest _ _ _ σ' _ h.2 hq⟩)
          | false =>
          simp only [hi, cond_false] at h
          cases ha : M.cd f args with
          | none => simp only [ha] at h; cases h
          | some r =>
            simp only [ha] at h
            exact .inl ⟨r, G.cd f args r ha, execD_sound G rest _ _ _ σ' _ h hq⟩
        | none =>
          simp only [hc] at h ⊢
          cases he : opEff M.P σ o.op with
          | none => simp only [he] at h; cases h
          | some e =>
            simp only [he] at h
            rw [pcond_some] at h
            exact ⟨h.1.1, h.1.2, execD_sound G rest _ _ _ σ' _ h.2 hq⟩

theorem no_goto_lq {nrm : AState → Option AState} {body : AState → Option (AExit × AState)} (hb : ∀ σ l σ', body σ ≠ some (.goto l, σ')) : ∀ (m : Nat) (σ : AState) (l : Nat) (σ' : AState), lqN nrm body m σ ≠ some (.goto l, σ')
  | 0, _, _, _ => by simp [lqN]
  | m + 1, σ, l, σ' => by
    intro h
    simp only [lqN] at h
    cases hx : body σ with
    | none => simp only [hx] at h; cases h
    | some r =>
      obtain ⟨e1, σ1⟩ := r
      cases e1 with
      | normal =>
        simp only [hx] at h
        cases hn : nrm σ1 with
        | none => simp only [hn, Option.bind_none] at h; cases h
        | some σ2 => simp only [hn, Option.bind_some] at h; exact no_goto_lq hb m σ2 l σ' h
      | goto l' => exact hb _ _ _ hx
      | _ => simp only [hx, Option.some.injEq, Prod.mk.injEq, reduceCtorEq, false_and] at h

theorem execOps_no {M : Mach R} {ops : Array Oper} : ∀ (rest : List Oper) (σ : AState) (l : Nat) (σ' : AState), execOps M ops rest σ ≠ some (.goto l, σ') := by
  intro rest
  induction rest with
  | nil => intro σ l σ' h; simp [execOps] at h
  | cons o rest ih =>
    intro σ l σ' h
    simp only [execOps] at h
    split at h
    · cases h
    · rename_i b _
      cases b with
      | false => simp only [cond_false] at h; exact ih _ _ _ h
      | true =>
        simp only [cond_true] at h
        split at h
        · rename_i f args _
          cases hi : M.isP f with
          | true =>
            simp only [hi, cond_true] at h
            split at h
            · exact ih _ _ _ h
            · simp at h
            · cases h
          | false =>
            simp only [hi, cond_false] at h
            split at h
            · exact ih _ _ _ h
            · cases h
        · split at h
          · split at h
            · exact ih _ _ _ h
            · cases h
          · split at h
            · rw [pcond_some] at h; exact ih _ _ _ h.2
            · split at h
              · exact ih _ _ _ h
              · split at h
                · simp at h
                · cases h
theorem execD_no {M : Mach R} {ops : Array Oper} : ∀ (rest : List Oper) (j : Nat) (tr : List Tr) (σ : AState) (l : Nat) (σ' : AState), execD M ops rest j tr σ ≠ some (.goto l, σ') := by
  intro rest
  induction rest with
  | nil => intro j tr σ l σ' h; simp [execD] at h
  | cons o rest ih =>
    intro j tr σ l σ' h
    simp only [execD] at h
    split at h
    · cases h
    · rename_i b _
      cases b with
      | false => simp only [cond_false] at h; exact ih _ _ _ _ _ h
      | true =>
        simp only [cond_true] at h
        split at h
        · rename_i f args _
          cases hi : M.isC f with
          | true =>
            simp only [hi, cond_true] at h
            split at h
            · rw [pcond_some] at h; exact ih _ _ _ _ _ h.2
            · rw [pcond_some] at h; simp at h
            · cases h
          | false =>
            simp only [hi, cond_false] at h
            cases hi2 : M.isE f with
            | true =>
              simp only [hi2, cond_true] at h
              split at h
              · rw [pcond_some] at h; exact ih _ _ _ _ _ h.2
              · cases h
            | false =>
              simp only [hi2, cond_false] at h
              split at h
              · exact ih _ _ _ _ _ h
              · cases h
        · split at h
          · rw [pcond_some] at h; exact ih _ _ _ _ _ h.2
          · cases h

theorem jumpX_no {σ : AState} {c : Option Code} {l : Nat} {σ' : AState} : jumpX σ c ≠ some (.goto l, σ') := by
  intro h
  unfold jumpX at h
  split at h <;> simp at h
theorem rngX_no {M : Mach R} {lk : LoopC} {σ : AState} {v : AV} {l : Nat} {σ' : AState} : rngX M lk σ v ≠ some (.goto l, σ') := by
  intro h
  unfold rngX at h
  split at h
  · split at h
    · unfold endX at h
      split at h
      · rw [pcond_some] at h; exact jumpX_no h.2
      · cases h
    · cases h
  · cases h

theorem no_goto (M : Mach R) : ∀ (c : Code) (p : List Nat) (σ : AState) (l : Nat) (σ' : AState), exec M c p σ ≠ some (.goto l, σ')
  | .skip, _, _, _, _ => by simp [exec]
  | .label _, _, _, _, _ => by simp [exec]
  | .ret, _, _, _, _ => by simp [exec]
  | .exit id, _, _, _, _ => by simp [exec]
  | .region _ ops false, _, _, _, _ => by simp only [exec]; exact execOps_no _ _ _ _
  | .region _ ops true, _, _, _, _ => by
    intro h
    simp only [exec] at h
    rw [pcond_some] at h
    exact execD_no _ _ _ _ _ _ h.2
  | .seq x y, p, σ, l, σ' => by
    intro h
    simp only [exec] at h
    cases hx : exec M x (0 :: p) σ with
    | none => simp only [hx] at h; cases h
    | some r =>
      obtain ⟨e1, σ1⟩ := r
      cases e1 with
      | normal =>
        simp only [hx] at h
        cases hc : M.cut (1 :: p) σ1 with
        | none => simp only [hc, Option.bind_none] at h; cases h
        | some σ2 => simp only [hc, Option.bind_some] at h; exact no_goto M y _ _ _ _ h
      | goto l' => exact no_goto M x _ _ _ _ hx
      | _ => simp only [hx, Option.some.injEq, Prod.mk.injEq, reduceCtorEq, false_and] at h
  | .cond c x y, p, σ, l, σ' => by
    intro h
    simp only [exec] at h
    cases hv : σ.ev c with
    | bool b =>
      simp only [hv] at h
      cases b with
      | true => exact no_goto M x _ _ _ _ h
      | false => exact no_goto M y _ _ _ _ h
    | _ => simp only [hv] at h; cases h
  | .block id x, p, σ, l, σ' => by
    intro h
    simp only [exec] at h
    cases hx : exec M x (0 :: p) σ with
    | none => simp only [hx] at h; cases h
    | some r =>
      obtain ⟨e1, σ1⟩ := r
      cases e1 with
      | exit id' =>
        simp only [hx] at h
        split at h <;> simp at h
      | goto l' => exact no_goto M x _ _ _ _ hx
      | _ => simp only [hx, Option.some.injEq, Prod.mk.injEq, reduceCtorEq, false_and] at h
  | .loop x, p, σ, l, σ' => by
    intro h
    simp only [exec] at h
    cases hn : M.nrm p σ with
    | none => simp only [hn, Option.bind_none] at h; cases h
    | some σ1 =>
      simp only [hn, Option.bind_some] at h
      exact no_goto_lq (fun _ _ _ => no_goto M x _ _ _ _) _ _ _ _ h
  | .scope x, p, σ, l, σ' => by
    intro h
    simp only [exec] at h
    exact no_goto M x _ _ _ _ h
  | .goto _, _, _, _, _ => by simp [exec]
  | .rangeFunc g ps as body, _, _, _, _ => by simp only [exec]; exact rngX_no
  | .refuse _, _, _, _, _ => by simp [exec]

theorem exec_sound {M : Mach R} (G : Good M) : ∀ (c : Code) (p : List Nat) (Q : AExit → AState → Prop) (σ : AState) (e : AExit) (σ' : AState), exec M c p σ = some (e, σ') → Q e σ' → awp M.P c Q σ
  | .skip, _, Q, σ, e, σ', h, hq => by simp only [exec, Option.some.injEq, Prod.mk.injEq] at h; obtain ⟨rfl, rfl⟩ := h; exact hq
  | .label _, _, Q, σ, e, σ', h, hq => by simp only [exec, Option.some.injEq, Prod.mk.injEq] at h; obtain ⟨rfl, rfl⟩ := h; exact hq
  | .ret, _, Q, σ, e, σ', h, hq => by simp only [exec, Option.some.injEq, Prod.mk.injEq] at h; obtain ⟨rfl, rfl⟩ := h; exact hq
  | .exit id, _, Q, σ, e, σ', h, hq => by simp only [exec, Option.some.injEq, Prod.mk.injEq] at h; obtain ⟨rfl, rfl⟩ := h; exact hq
  | .region _ ops false, _, Q, σ, e, σ', h, hq => by
    simp only [exec] at h
    exact execOps_sound G _ _ _ _ h hq
  | .region _ ops true, _, Q, σ, e, σ', h, hq => by
    simp only [exec] at h
    rw [pcond_some] at h
    obtain ⟨hp, h⟩ := h
    exact ⟨hp, execD_sound G _ _ _ _ _ _ h hq⟩
  | .seq x y, p, Q, σ, e, σ', h, hq => by
    simp only [exec] at h
    cases hx : exec M x (0 :: p) σ with
    | none => simp only [hx] at h; cases h
    | some r =>
      obtain ⟨e1, σ1⟩ := r
      refine exec_sound G x (0 :: p) _ σ e1 σ1 hx ?_
      cases e1 with
      | normal =>
        simp only [hx] at h
        cases hc : M.cut (1 :: p) σ1 with
        | none => simp only [hc, Option.bind_none] at h; cases h
        | some σ2 =>
          simp only [hc, Option.bind_some] at h
          exact ⟨σ2, G.cut _ _ _ hc, exec_sound G y (1 :: p) Q σ2 e σ' h hq⟩
      | _ =>
        simp only [hx, Option.some.injEq, Prod.mk.injEq] at h
        obtain ⟨rfl, rfl⟩ := h
        exact hq
  | .cond c x y, p, Q, σ, e, σ', h, hq => by
    simp only [exec] at h
    simp only [awp]
    cases hv : σ.ev c with
    | bool b =>
      simp only [hv] at h ⊢
      cases b with
      | true => simp only [cond_true, setB_eq hv] at h; exact ⟨fun _ => exec_sound G x (0 :: p) Q σ e σ' h hq, fun h => (by cases h)⟩
      | false => simp only [cond_false, setB_eq hv] at h; exact ⟨fun h => (by cases h), fun _ => exec_sound G y (1 :: p) Q σ e σ' h hq⟩
    | _ => simp only [hv] at h; cases h
  | .block id x, p, Q, σ, e, σ', h, hq => by
    simp only [exec] at h
    cases hx : exec M x (0 :: p) σ with
    | none => simp only [hx] at h; cases h
    | some r =>
      obtain ⟨e1, σ1⟩ := r
      refine exec_sound G x (0 :: p) _ σ e1 σ1 hx ?_
      cases e1 with
      | exit id' =>
        simp only [hx] at h
        simp only [AExit.inBlock]
        split at h
        · rename_i he
          simp only [Option.some.injEq, Prod.mk.injEq] at h
          obtain ⟨rfl, rfl⟩ := h
          rw [if_pos he]; exact hq
        · rename_i he
          simp only [Option.some.injEq, Prod.mk.injEq] at h
          obtain ⟨rfl, rfl⟩ := h
          rw [if_neg he]; exact hq
      | _ =>
        simp only [hx, Option.some.injEq, Prod.mk.injEq] at h
        obtain ⟨rfl, rfl⟩ := h
        exact hq
  | .loop x, p, Q, σ, e, σ', h, hq => by
    simp only [exec] at h
    cases hn : M.nrm p σ with
    | none => simp only [hn, Option.bind_none] at h; cases h
    | some σ1 =>
      simp only [hn, Option.bind_some] at h
      refine ⟨fun m σ2 => lqN (M.nrm p) (exec M x (0 :: p)) m σ2 = some (e, σ'), M.n, σ1, G.nrm _ _ _ hn, h, ?_⟩
      intro m σ2 h2
      cases m with
      | zero => simp only [lqN] at h2; cases h2
      | succ m =>
        simp only [lqN] at h2
        cases hx : exec M x (0 :: p) σ2 with
        | none => simp only [hx] at h2; cases h2
        | some r =>
          obtain ⟨e1, σ3⟩ := r
          refine exec_sound G x (0 :: p) _ σ2 e1 σ3 hx ?_
          cases e1 with
          | normal =>
            simp only [hx] at h2
            cases hn2 : M.nrm p σ3 with
            | none => simp only [hn2, Option.bind_none] at h2; cases h2
            | some σ4 =>
              simp only [hn2, Option.bind_some] at h2
              exact ⟨m, σ4, Nat.lt_succ_self _, G.nrm _ _ _ hn2, h2⟩
          | _ =>
            simp only [hx, Option.some.injEq, Prod.mk.injEq] at h2
            obtain ⟨rfl, rfl⟩ := h2
            exact hq
  | .scope x, p, Q, σ, e, σ', h, hq => by
    simp only [exec] at h
    refine exec_sound G x (0 :: p) _ σ e σ' h ?_
    cases e with
    | goto l => exact absurd h (by
        intro h
        exact no_goto M x (0 :: p) σ _ _ h)
    | _ => exact hq
  | .goto _, _, _, _, _, _, h, _ => by simp only [exec] at h; cases h
  | .rangeFunc g ps as body, p, Q, σ, e, σ', h, hq => by
    simp only [exec] at h
    simp only [awp]
    unfold rngX at h
    split at h
    · rename_i f first cap hv
      split at h
      · rename_i r H' hc
        refine rangeA_call hv ((G.cl f _ { σ with slots := σ.slots ++ [.map σ.heap.length], heap := σ.heap ++ [.loop ⟨ps, as, body, M.js p⟩ σ.slots .ready 0] } r H' hc).mono ?_)
        rintro o' H'' ⟨rfl, rfl⟩
        unfold endX at h
        split at h
        · rename_i k s st pend hH
          rw [pcond_some] at h
          obtain ⟨hst, h⟩ := h
          subst hst
          refine ⟨r, k, s, pend, rfl, hH, ?_⟩
          generalize pendOf k.js pend = pc at *
          unfold jumpX at h
          split at h
          · simp only [Option.some.injEq, Prod.mk.injEq] at h; obtain ⟨rfl, rfl⟩ := h; exact hq
          · simp only [Option.some.injEq, Prod.mk.injEq] at h; obtain ⟨rfl, rfl⟩ := h; exact hq
          · simp only [Option.some.injEq, Prod.mk.injEq] at h; obtain ⟨rfl, rfl⟩ := h; exact hq
          · cases h
        · cases h
      · cases h
    · cases h
  | .refuse _, _, _, _, _, _, h, _ => by simp only [exec] at h; cases h
end
end Go.Abs
