/- A part of the proof: abstract states and the rules for them. -/
import Derived.Test.YtgimdhmoloobkaaCoreB
import Derived.Attr
import Derived.Laws.StructEq
import Derived.ChangeKeysEq
set_option linter.all false
namespace Go.Abs

section freeze
variable {C : Ctx} {φ : Nat → Value} {σ : AState} {a : Act} {w : World}

def rp1 (l : Nat) (cs : List AV) : AV → AV
  | .ptr k off => if k = l then .pp (cs.drop off) else .ptr k off
  | x => x
def rpV (l : Nat) (cs : List AV) : AV → AV
  | .ptr k off => if k = l then .pp (cs.drop off) else .ptr k off
  | .func fn f c => .func fn (f.map (rp1 l cs)) (c.map (rp1 l cs))
  | x => x
def rpO (l : Nat) (cs : List AV) : AObj → AObj
  | .cells ds => .cells (ds.map (rpV l cs))
  | x => x

noncomputable def fzOne (l : Nat) (σ : AState) : Option AState :=
  match σ.heap[l]? with
  | some (.cells cs) => pcond (nbL 0 cs ∧ σ.low ≤ l) (some { slots := σ.slots.map (rpV l cs), heap := (σ.heap.map (rpO l cs)).set l .dead, low := σ.low })
  | _ => none

theorem rpO_muts {l : Nat} {cs : List AV} {x : AObj} {h : Value} {b o : Nat} : (rpO l cs x).muts h b o → x.muts h b o := by
  cases x with
  | cells ds => exact muts_cells
  | _ => exact id
theorem rpO_block {l : Nat} {cs : List AV} {x : AObj} {h : Value} {b : Nat} : (rpO l cs x).block h b → x.block h b := by
  cases x with
  | cells ds => exact block_cells
  | _ => exact id
theorem rpO_len {l : Nat} {cs : List AV} {x : AObj} : accLen (some (rpO l cs x)) = accLen (some x) := by
  cases x <;> rfl

theorem fz_get {H : List AObj} {l k : Nat} {cs : List AV} {y : AObj} (h : ((H.map (rpO l cs)).set l .dead)[k]? = some y) : (k = l ∧ y = .dead) ∨ (k ≠ l ∧ ∃ x, H[k]? = some x ∧ y = rpO l cs x) := by
  by_cases e : k = l
  · subst e
    by_cases hk : k < H.length
    · rw [List.getElem?_set_self (by simpa using hk)] at h; cases h; exact .inl ⟨rfl, rfl⟩
    · rw [List.getElem?_eq_none (by simp; omega)] at h; cases h
  · rw [List.getElem?_set_ne (fun h => e h.symm), List.getElem?_map] at h
    cases hx : H[k]? with
    | none => rw [hx] at h; cases h
    | some x => rw [hx] at h; cases h; exact .inr ⟨e, x, rfl, rfl⟩

theorem fzOne_ok {l : Nat} {σ σ' : AState} (h : fzOne l σ = some σ') : Imp σ σ' := by
  unfold fzOne at h
  split at h
  case h_2 => cases h
  rename_i cs hl
  rw [pcond_some] at h
  obtain ⟨⟨hnb, hlow⟩, h⟩ := h
  cases h
  intro C φ a w S
  refine ⟨φ, ?_⟩
  have hlt : l < σ.heap.length := (List.getElem?_eq_some_iff.1 hl).1
  obtain ⟨b0, c0, t0, hφ, hh, rl, hone⟩ := S.objs l _ hl
  let H' : List AObj := (σ.heap.map (rpO l cs)).set l .dead
  have hlen : H'.length = σ.heap.length := by simp [H']
  have hget : ∀ (k : Nat) (y : AObj), H'[k]? = some y → (k = l ∧ y = .dead) ∨ (k ≠ l ∧ ∃ x, σ.heap[k]? = some x ∧ y = rpO l cs x) := fun k y hy => fz_get hy
  have hmut : ∀ b o, Mut φ H' b o → Mut φ σ.heap b o := by
    rintro b o ⟨k, y, hy, hm⟩
    rcases hget k y hy with ⟨_, rfl⟩ | ⟨_, x, hx, rfl⟩
    · simp [AObj.muts] at hm
    · exact ⟨k, x, hx, rpO_muts hm⟩
  have hlenk : ∀ k : Nat, accLen H'[k]? = accLen σ.heap[k]? := by
    intro k
    by_cases e : k = l
    · subst e
      simp only [H']
      rw [List.getElem?_set_self (by simpa using hlt), hl]; rfl
    · simp only [H']
      rw [List.getElem?_set_ne (fun h => e h.symm), List.getElem?_map]
      cases σ.heap[k]? with
      | none => rfl
      | some x => exact rpO_len
  have le : (C.env φ σ.heap w).Le σ.heap.length (C.env φ H' w) :=
    Ctx.env_le (by rw [hlen]; exact Nat.le_refl _) (fun k _ => ⟨rfl, hlenk k⟩) (fun b o u hm hc => ⟨fun h => hm (h.imp (hmut b o) id), hc⟩)
  have hfree : ∀ o, ¬ (Mut φ H' b0 o ∨ C.A b0 o) := by
    rintro o (⟨k, y, hy, hm⟩ | hA)
    · rcases hget k y hy with ⟨_, rfl⟩ | ⟨hne, x, hx, rfl⟩
      · simp [AObj.muts] at hm
      · exact hne (S.apart k l x _ b0 hx hl (rpO_block (AObj.block_of_muts hm)) (by rw [hφ]; rfl))
    · exact S.notA l _ b0 o hl (by rw [hφ]; rfl) hA
  have rl' : RepL (C.env φ H' w) cs c0.toList := RepL.mono le _ _ (nbL_le (Nat.zero_le _) _ hnb) rl
  have hpp : ∀ (off : Nat) (v : Value), Rep (C.env φ σ.heap w) (.ptr l off) v → Rep (C.env φ H' w) (.pp (cs.drop off)) v := by
    rintro off v ⟨_, b, hb, rfl⟩
    have e : b0 = b := by
      have hb' : φ l = .pointer (some ⟨b, 0, none⟩) := hb
      rw [hφ] at hb'; simpa using hb'
    subst e
    refine ⟨b0, off, rfl, ?_⟩
    have hd := rl'.drop off
    have h1 : ∀ u ∈ c0.toList.drop off, u.oneCell' = true := fun u hu => hone u (List.mem_of_mem_drop hu)
    have hl2 := hd.length
    exact repMem_of_cells (E := C.env φ H' w) (c := c0) (t := t0) (fr := (0, 0)) hh _ off (fun o _ _ => hfree o) (by rw [List.take_of_length_le (by omega)]; exact hd) (by rw [List.take_of_length_le (by omega)]; exact h1)
  have h1 : ∀ (x : AV) (v : Value), Rep (C.env φ σ.heap w) x v → Rep (C.env φ H' w) (rp1 l cs x) v := by
    intro x v r
    cases x with
    | ptr k off =>
      simp only [rp1]
      split
      · rename_i e; subst e; exact hpp off v r
      · exact Rep.mono le _ _ (Rep.nb _ _ r) r
    | _ => exact Rep.mono le _ _ (Rep.nb _ _ r) r
  have hL1 : ∀ (xs : List AV) (vs : List Value), RepL (C.env φ σ.heap w) xs vs → RepL (C.env φ H' w) (xs.map (rp1 l cs)) vs := by
    intro xs
    induction xs with
    | nil => intro vs r; exact r
    | cons x xs ih => rintro _ ⟨u, us, rfl, r1, r2⟩; exact ⟨u, us, rfl, h1 x u r1, ih us r2⟩
  have hV : ∀ (x : AV) (v : Value), Rep (C.env φ σ.heap w) x v → Rep (C.env φ H' w) (rpV l cs x) v := by
    intro x v r
    cases x with
    | ptr k off =>
      simp only [rpV]
      split
      · rename_i e; subst e; exact hpp off v r
      · exact Rep.mono le _ _ (Rep.nb _ _ r) r
    | func fn f c =>
      obtain ⟨f', c', hv, r1, r2⟩ := r
      exact ⟨f', c', hv, hL1 _ _ r1, hL1 _ _ r2⟩
    | _ => exact Rep.mono le _ _ (Rep.nb _ _ r) r
  have hLV : ∀ (xs : List AV) (vs : List Value), RepL (C.env φ σ.heap w) xs vs → RepL (C.env φ H' w) (xs.map (rpV l cs)) vs := by
    intro xs
    induction xs with
    | nil => intro vs r; exact r
    | cons x xs ih => rintro _ ⟨u, us, rfl, r1, r2⟩; exact ⟨u, us, rfl, hV x u r1, ih us r2⟩
  have hdef : DefOK C φ H' w a.defers := S.defers.step (fun _ _ _ => rfl) (fun k y b hy hb => by
    rcases hget k y hy with ⟨_, rfl⟩ | ⟨_, x, hx, rfl⟩
    · simp [AObj.block] at hb
    · exact .inl ⟨k, x, hx, rpO_block hb⟩)
  refine { slots := hLV _ _ S.slots, defers := hdef, objs := ?_, apart := ?_, notA := ?_, size := S.size, old := S.old, oldObj := S.oldObj, inM := ?_, froz := S.froz, rest := S.rest, low := ⟨S.low.1, by show σ.low ≤ H'.length; rw [hlen]; exact S.low.2⟩, names := ?_ }
  · intro k y hy
    rcases hget k y hy with ⟨_, rfl⟩ | ⟨_, x, hx, rfl⟩
    · exact trivial
    · have r := S.objs k x hx
      cases x with
      | cells ds =>
        obtain ⟨b, c, t, h1, h2, h3, h4⟩ := r
        exact ⟨b, c, t, h1, h2, hLV _ _ h3, h4⟩
      | _ => exact ObjRep.mono r le (fun _ _ => rfl)
  · intro k k' y y' b hy hy' hb hb'
    rcases hget k y hy with ⟨_, rfl⟩ | ⟨_, x, hx, rfl⟩
    · simp [AObj.block] at hb
    · rcases hget k' y' hy' with ⟨_, rfl⟩ | ⟨_, x', hx', rfl⟩
      · simp [AObj.block] at hb'
      · exact S.apart k k' x x' b hx hx' (rpO_block hb) (rpO_block hb')
  · intro k y b o hy hb
    rcases hget k y hy with ⟨_, rfl⟩ | ⟨_, x, hx, rfl⟩
    · simp [AObj.block] at hb
    · exact S.notA k x b o hx (rpO_block hb)
  · intro k y b o hy hm hb
    rcases hget k y hy with ⟨_, rfl⟩ | ⟨_, x, hx, rfl⟩
    · simp [AObj.muts] at hm
    · exact S.inM k x b o hx (rpO_muts hm) hb
  · intro k hk
    have := S.names k hk
    show (φ k = _ ∧ (accLen H'[k]? = _ ∨ accLen H'[k]? = none)) ∨ ((∃ q, _ ∧ ∀ k', accLen H'[k]? = some k' → q < k') ∧ _)
    rw [hlenk k]; exact this
theorem imm_muts {sz : Nat} {rows : List (List AV)} {h : Value} {b o : Nat} : (AObj.acc true sz rows).muts h b o → (AObj.acc false sz rows).muts h b o := by
  intro hm
  cases h with
  | slice base n cap =>
    cases base with
    | none => exact hm
    | some a => exact ⟨hm.1, fun h => by cases h⟩
  | _ => exact hm
theorem Sim.imm {C : Ctx} {φ : Nat → Value} {a : Act} {w : World} {σ : AState} {l sz : Nat} {rows : List (List AV)} (hl : σ.heap[l]? = some (.acc false sz rows)) (S : Sim C φ σ a w) : Sim C φ { σ with heap := σ.heap.set l (.acc true sz rows) } a w := by
  have hlt : l < σ.heap.length := (List.getElem?_eq_some_iff.1 hl).1
  let H' : List AObj := σ.heap.set l (.acc true sz rows)
  have hlen : H'.length = σ.heap.length := by simp [H']
  have hget : ∀ (k : Nat) (y : AObj), H'[k]? = some y → (k = l ∧ y = .acc true sz rows) ∨ σ.heap[k]? = some y := by
    intro k y hy
    by_cases e : k = l
    · subst e
      simp only [H'] at hy
      rw [List.getElem?_set_self hlt] at hy; cases hy; exact .inl ⟨rfl, rfl⟩
    · simp only [H'] at hy
      rw [List.getElem?_set_ne (fun h => e h.symm)] at hy; exact .inr hy
  have hmut : ∀ b o, Mut φ H' b o → Mut φ σ.heap b o := by
    rintro b o ⟨k, y, hy, hm⟩
    rcases hget k y hy with ⟨rfl, rfl⟩ | hx
    · exact ⟨k, _, hl, imm_muts hm⟩
    · exact ⟨k, y, hx, hm⟩
  have hlenk : ∀ k : Nat, accLen H'[k]? = accLen σ.heap[k]? := by
    intro k
    by_cases e : k = l
    · subst e
      simp only [H']
      rw [List.getElem?_set_self hlt, hl]; rfl
    · simp only [H']
      rw [List.getElem?_set_ne (fun h => e h.symm)]
  have le : (C.env φ σ.heap w).Le σ.heap.length (C.env φ H' w) :=
    Ctx.env_le (by rw [hlen]; exact Nat.le_refl _) (fun k _ => ⟨rfl, hlenk k⟩) (fun b o u hm hc => ⟨fun h => hm (h.imp (hmut b o) id), hc⟩)
  have hblk : ∀ {h : Value} {b : Nat}, (AObj.acc true sz rows).block h b → (AObj.acc false sz rows).block h b := by
    intro h b hb
    cases h with
    | slice base n cap => cases base <;> exact hb
    | _ => exact hb
  have hblk2 : ∀ (k : Nat) (y : AObj) (b : Nat), H'[k]? = some y → y.block (φ k) b → ∃ x, σ.heap[k]? = some x ∧ x.block (φ k) b := by
    intro k y b hy hb
    rcases hget k y hy with ⟨rfl, rfl⟩ | hx
    · exact ⟨_, hl, hblk hb⟩
    · exact ⟨y, hx, hb⟩
  have hdef : DefOK C φ H' w a.defers := S.defers.step (fun _ _ _ => rfl) (fun k y b hy hb => by
    obtain ⟨x, hx, hb'⟩ := hblk2 k y b hy hb
    exact .inl ⟨k, x, hx, hb'⟩)
  refine { slots := RepL.mono le _ _ (RepL.nb _ _ S.slots) S.slots, defers := hdef, objs := ?_, apart := ?_, notA := ?_, size := S.size, old := S.old, oldObj := S.oldObj, inM := ?_, froz := S.froz, rest := S.rest, low := ⟨S.low.1, by show σ.low ≤ H'.length; rw [hlen]; exact S.low.2⟩, names := ?_ }
  · intro k y hy
    rcases hget k y hy with ⟨rfl, rfl⟩ | hx
    · have r : ObjRep (C.env φ H' w) (.acc false sz rows) (φ k) := ObjRep.mono (S.objs k _ hl) le (fun _ _ => rfl)
      exact r
    · exact ObjRep.mono (S.objs k y hx) le (fun _ _ => rfl)
  · intro k k' y y' b hy hy' hb hb'
    obtain ⟨x, hx, hb1⟩ := hblk2 k y b hy hb
    obtain ⟨x', hx', hb2⟩ := hblk2 k' y' b hy' hb'
    exact S.apart k k' x x' b hx hx' hb1 hb2
  · intro k y b o hy hb
    obtain ⟨x, hx, hb1⟩ := hblk2 k y b hy hb
    exact S.notA k x b o hx hb1
  · intro k y b o hy hm hb
    rcases hget k y hy with ⟨rfl, rfl⟩ | hx
    · exact S.inM k _ b o hl (imm_muts hm) hb
    · exact S.inM k y b o hx hm hb
  · intro k hk
    have := S.names k hk
    show (φ k = _ ∧ (accLen H'[k]? = _ ∨ accLen H'[k]? = none)) ∨ ((∃ q, _ ∧ ∀ k', accLen H'[k]? = some k' → q < k') ∧ _)
    rw [hlenk k]; exact this
theorem imp_imm {σ : AState} {l sz : Nat} {rows : List (List AV)} (hl : σ.heap[l]? = some (.acc false sz rows)) : Imp σ { σ with heap := σ.heap.set l (.acc true sz rows) } := fun _ φ _ _ S => ⟨φ, Sim.imm hl S⟩
def immO (σ : AState) (l : Nat) : Option AObj → AState
  | some (.acc false sz rows) => { σ with heap := σ.heap.set l (.acc true sz rows) }
  | _ => σ
theorem immO_ok {σ : AState} {l : Nat} : Imp σ (immO σ l σ.heap[l]?) := by
  unfold immO
  split
  · rename_i h; exact imp_imm h
  · exact Imp.refl _
def immV (σ : AState) : Option AV → AState
  | some (.acc l _) => immO σ l σ.heap[l]?
  | _ => σ
theorem immV_ok {σ : AState} {x : Option AV} : Imp σ (immV σ x) := by
  unfold immV
  split
  · exact immO_ok
  · exact Imp.refl _
theorem immV_low {σ : AState} {x : Option AV} : (immV σ x).low = σ.low := by
  unfold immV immO
  split
  · split <;> rfl
  · rfl
theorem immV_f {σ : AState} : (∀ l n, immV σ (some (.acc l n)) = immO σ l σ.heap[l]?) := fun _ _ => rfl
theorem immO_f {σ : AState} {l : Nat} : (∀ sz rows, immO σ l (some (.acc false sz rows)) = { σ with heap := σ.heap.set l (.acc true sz rows) }) ∧ (∀ sz rows, immO σ l (some (.acc true sz rows)) = σ) := ⟨fun _ _ => rfl, fun _ _ => rfl⟩
end freeze

noncomputable def fzX (l : Nat) (σ : AState) : Option AObj → Option AState
  | some (.acc _ _ _) => some (immO σ l σ.heap[l]?)
  | _ => fzOne l σ
theorem fzX_ok {l : Nat} {σ σ' : AState} {x : Option AObj} (h : fzX l σ x = some σ') : Imp σ σ' := by
  unfold fzX at h
  split at h
  · simp only [Option.some.injEq] at h; subst h; exact immO_ok
  · exact fzOne_ok h
noncomputable def fzAll : List Nat → AState → Option AState
  | [], σ => some σ
  | l :: ls, σ => (fzX l σ σ.heap[l]?).bind (fzAll ls)
theorem fzX_f {l : Nat} {σ : AState} : (∀ i s r, fzX l σ (some (.acc i s r)) = some (immO σ l σ.heap[l]?)) ∧ (∀ cs, fzX l σ (some (.cells cs)) = fzOne l σ) := ⟨fun _ _ _ => rfl, fun _ => rfl⟩
theorem fzAll_ok : ∀ {ls : List Nat} {σ σ' : AState}, fzAll ls σ = some σ' → Imp σ σ'
  | [], σ, σ', h => by simp only [fzAll, Option.some.injEq] at h; subst h; exact Imp.refl _
  | l :: ls, σ, σ', h => by
    simp only [fzAll, Option.bind_eq_some_iff] at h
    obtain ⟨σ1, h1, h2⟩ := h
    exact (fzX_ok h1).trans (fzAll_ok h2)
noncomputable def tabF : List (List Nat × List Nat) → List Nat → AState → Option AState
  | [], _, σ => some σ
  | (q, ls) :: t, p, σ => if p = q then fzAll ls σ else tabF t p σ
theorem tabF_ok : ∀ (t : List (List Nat × List Nat)) (p : List Nat) (σ σ' : AState), tabF t p σ = some σ' → Imp σ σ'
  | [], _, σ, σ', h => by simp only [tabF, Option.some.injEq] at h; subst h; exact Imp.refl _
  | (q, ls) :: t, p, σ, σ', h => by
    simp only [tabF] at h
    split at h
    · exact fzAll_ok h
    · exact tabF_ok t p σ σ' h

-- single cells as structs
section cels
def cI (k : IntKind) : Cel Int where
  enc n := [.int k n]
  dec _ cs := dI1 k cs
  ok H n cs x h := by
    unfold dI1 at h
    split at h
    · exact CoL1.cons (dI_ok h) CoL1.nil
    · cases h
  nb _ _ := ⟨trivial, trivial⟩
def cB : Cel Bool where
  enc b := [.bool b]
  dec _ cs := dB1 cs
  ok H n cs x h := by
    unfold dB1 at h
    split at h
    · exact CoL1.cons (dB_ok h) CoL1.nil
    · cases h
  nb _ _ := ⟨trivial, trivial⟩
def cS : Cel Str where
  enc s := [.str (sb s)]
  dec _ cs := dS1 cs
  ok H n cs x h := by
    unfold dS1 at h
    split at h
    · exact CoL1.cons (dS_ok h) CoL1.nil
    · cases h
  nb _ _ := ⟨trivial, trivial⟩
variable {α β γ : Type}
def dL1 (r : Row α) (H : List AObj) : List AV → Option (List α)
  | [c] => dL r H c
  | _ => none
def cL (r : Row α) : Cel (List α) where
  enc xs := [.lst false r.sz (mp r.enc xs)]
  dec := dL1 r
  ok H n cs x h := by
    unfold dL1 at h
    split at h
    · exact CoL1.cons (dL_ok h) CoL1.nil
    · cases h
  nb n xs := ⟨nbR_rows xs, trivial⟩
def dF1 (f : FuncId) : List AV → Option Unit
  | [c] => dF f c
  | _ => none
def cF (f : FuncId) : Cel Unit where
  enc _ := [.func (.func f) [] []]
  dec _ cs := dF1 f cs
  ok H n cs x h := by
    unfold dF1 at h
    split at h
    · unfold dF at h
      split at h
      · split at h
        · rename_i e; subst e; exact CoL1.cons (Co1.sub (Sub.refl _) ⟨trivial, trivial⟩) CoL1.nil
        · cases h
      · cases h
    · cases h
  nb _ _ := ⟨⟨trivial, trivial⟩, trivial⟩
theorem cI_f {k : IntKind} : (∀ n, (cI k).enc n = [.int k n]) ∧ ∀ H cs, (cI k).dec H cs = dI1 k cs := ⟨fun _ => rfl, fun _ _ => rfl⟩
theorem cB_f : (∀ n, cB.enc n = [.bool n]) ∧ ∀ H cs, cB.dec H cs = dB1 cs := ⟨fun _ => rfl, fun _ _ => rfl⟩
theorem cS_f : (∀ n, cS.enc n = [.str (sb n)]) ∧ ∀ H cs, cS.dec H cs = dS1 cs := ⟨fun _ => rfl, fun _ _ => rfl⟩
theorem cL_f {r : Row α} : (∀ n, (cL r).enc n = [.lst false r.sz (mp r.enc n)]) ∧ ∀ H cs, (cL r).dec H cs = dL1 r H cs := ⟨fun _ => rfl, fun _ _ => rfl⟩
theorem cF_f {f : FuncId} : (∀ n, (cF f).enc n = [.func (.func f) [] []]) ∧ ∀ H cs, (cF f).dec H cs = dF1 f cs := ⟨fun _ => rfl, fun _ _ => rfl⟩

def dP (c : Cel α) : AV → Option α
  | .pp cs => c.dec [] cs
  | _ => none
theorem dP_ok {c : Cel α} {v : AV} {x : α} (h : dP c v = some x) : Sub v (.pp (c.enc x)) := by
  unfold dP at h
  split at h
  · exact Sub.pp (c.ok [] 0 _ _ h).toSub.subM
  · cases h
def tyP (c : Cel α) : Ty α where
  enc x := .pp (c.enc x)
  dec _ := dP c
  ok H n v x h := Co.sub (dP_ok h) (c.nb n x)
  nb n x := c.nb n x
theorem tyP_enc {c : Cel α} {x : α} : (tyP c).enc x = .pp (c.enc x) := rfl
theorem tyP_dec {c : Cel α} {H : List AObj} {v : AV} : (tyP c).dec H v = dP c v := rfl

def dK1 (f : FuncId) (a : Ty α) : AV → Option α
  | .func (.func g) [] [x] => if g = f then a.dec [] x else none
  | _ => none
def dK2 (f : FuncId) (a : Ty α) (b : Ty β) : AV → Option (α × β)
  | .func (.func g) [] [x, y] => if g = f then (a.dec [] x).bind fun u => (b.dec [] y).bind fun v => some (u, v) else none
  | _ => none
def dK3 (f : FuncId) (a : Ty α) (b : Ty β) (c : Ty γ) : AV → Option (α × β × γ)
  | .func (.func g) [] [x, y, z] => if g = f then (a.dec [] x).bind fun u => (b.dec [] y).bind fun v => (c.dec [] z).bind fun w => some (u, v, w) else none
  | _ => none
def tyK1 (f : FuncId) (a : Ty α) : Ty α where
  enc x := .func (.func f) [] [a.enc x]
  dec _ := dK1 f a
  ok H n v x h := by
    unfold dK1 at h
    split at h
    · split at h
      · rename_i e; subst e
        exact Co.sub (Sub.func SubL.nil (SubL.cons (a.ok [] 0 _ _ h).toSub SubL.nil)) ⟨trivial, a.nb n x, trivial⟩
      · cases h
    · cases h
  nb n x := ⟨trivial, a.nb n x, trivial⟩
def tyK2 (f : FuncId) (a : Ty α) (b : Ty β) : Ty (α × β) where
  enc x := .func (.func f) [] [a.enc x.1, b.enc x.2]
  dec _ := dK2 f a b
  ok H n v x h := by
    unfold dK2 at h
    split at h
    · split at h
      · rename_i e; subst e
        simp only [Option.bind_eq_some_iff, Option.some.injEq] at h
        obtain ⟨u, hu, w, hw, rfl⟩ := h
        exact Co.sub (Sub.func SubL.nil (SubL.cons (a.ok [] 0 _ _ hu).toSub (SubL.cons (b.ok [] 0 _ _ hw).toSub SubL.nil))) ⟨trivial, a.nb n u, b.nb n w, trivial⟩
      · cases h
    · cases h
  nb n x := ⟨trivial, a.nb n _, b.nb n _, trivial⟩
def tyK3 (f : FuncId) (a : Ty α) (b : Ty β) (c : Ty γ) : Ty (α × β × γ) where
  enc x := .func (.func f) [] [a.enc x.1, b.enc x.2.1, c.enc x.2.2]
  dec _ := dK3 f a b c
  ok H n v x h := by
    unfold dK3 at h
    split at h
    · split at h
      · rename_i e; subst e
        simp only [Option.bind_eq_some_iff, Option.some.injEq] at h
        obtain ⟨u, hu, w, hw, p, hp, rfl⟩ := h
        exact Co.sub (Sub.func SubL.nil (SubL.cons (a.ok [] 0 _ _ hu).toSub (SubL.cons (b.ok [] 0 _ _ hw).toSub (SubL.cons (c.ok [] 0 _ _ hp).toSub SubL.nil)))) ⟨trivial, a.nb n u, b.nb n w, c.nb n p, trivial⟩
      · cases h
    · cases h
  nb n x := ⟨trivial, a.nb n _, b.nb n _, c.nb n _, trivial⟩
theorem tyK1_f {f : FuncId} {a : Ty α} : (∀ x, (tyK1 f a).enc x = .func (.func f) [] [a.enc x]) ∧ ∀ H v, (tyK1 f a).dec H v = dK1 f a v := ⟨fun _ => rfl, fun _ _ => rfl⟩
theorem tyK2_f {f : FuncId} {a : Ty α} {b : Ty β} : (∀ x, (tyK2 f a b).enc x = .func (.func f) [] [a.enc x.1, b.enc x.2]) ∧ ∀ H v, (tyK2 f a b).dec H v = dK2 f a b v := ⟨fun _ => rfl, fun _ _ => rfl⟩
theorem tyK3_f {f : FuncId} {a : Ty α} {b : Ty β} {c : Ty γ} : (∀ x, (tyK3 f a b c).enc x = .func (.func f) [] [a.enc x.1, b.enc x.2.1, c.enc x.2.2]) ∧ ∀ H v, (tyK3 f a b c).dec H v = dK3 f a b c v := ⟨fun _ => rfl, fun _ _ => rfl⟩
end cels
end Go.Abs
namespace Go.Abs

section objs
variable {α β γ : Type}

structure OTy (α : Type) where
  enc : α → AObj
  dec : List AObj → AObj → Option α
  ok : ∀ H n x y, dec H x = some y → CoObj H n x (enc y)
  ren : ∀ τ y, (enc y).ren τ = enc y
  nb : ∀ n y, objNb n (enc y)

def daT (imm : Bool) (r : Row α) : AObj → Option (List α)
  | .acc imm' sz rows => if imm' = imm ∧ sz = r.sz then mapO r.dec rows else none
  | _ => none
def oaT (imm : Bool) (r : Row α) : OTy (List α) where
  enc xs := .acc imm r.sz (mp r.enc xs)
  dec _ := daT imm r
  ok H n x y h := by
    unfold daT at h
    split at h
    · split at h
      · rename_i hc
        obtain ⟨rfl, rfl⟩ := hc
        exact .inr (.inr (.inr (.inl ⟨_, _, _, _, rfl, rfl, (mapO_rows h).2, nbR_rows y⟩)))
      · cases h
    · cases h
  ren τ y := by simp only [AObj.ren]; rw [renR_of_nb τ _ (nbR_rows y)]
  nb n y := nbR_rows y
def dcT (c : Cel α) (H : List AObj) : AObj → Option α
  | .cells cs => c.dec H cs
  | _ => none
def ocT (c : Cel α) : OTy α where
  enc x := .cells (c.enc x)
  dec := dcT c
  ok H n x y h := by
    unfold dcT at h
    split at h
    · exact .inr (.inr (.inl ⟨_, _, rfl, rfl, (c.ok H n _ _ h).toCoL⟩))
    · cases h
  ren τ y := by simp only [AObj.ren]; rw [renL_of_nb τ _ (c.nb 0 y)]
  nb n y := c.nb n y
theorem oaT_f {imm : Bool} {r : Row α} : (∀ x, (oaT imm r).enc x = .acc imm r.sz (mp r.enc x)) ∧ ∀ H x, (oaT imm r).dec H x = daT imm r x := ⟨fun _ => rfl, fun _ _ => rfl⟩
theorem ocT_f {c : Cel α} : (∀ x, (ocT c).enc x = .cells (c.enc x)) ∧ ∀ H x, (ocT c).dec H x = dcT c H x := ⟨fun _ => rfl, fun _ _ => rfl⟩

structure OSpec (β : Type) where
  enc : β → List AObj
  dec : List AObj → List AObj → Option β
  ok : ∀ H n xs b, dec H xs = some b → CoH H n xs (enc b) ∧ (enc b).length = xs.length
  ren : ∀ τ b, ∀ y ∈ enc b, y.ren τ = y
  nb : ∀ n b, ∀ y ∈ enc b, objNb n y
def osN : OSpec Unit where
  enc _ := []
  dec _
    | [] => some ()
    | _ => none
  ok H n xs b h := by
    split at h
    · exact ⟨CoH.nil, rfl⟩
    · cases h
  ren _ _ := by simp
  nb _ _ := by simp
def dosC (o : OTy γ) (s : OSpec β) (H : List AObj) : List AObj → Option (γ × β)
  | x :: xs => (o.dec H x).bind fun y => (s.dec H xs).bind fun b => some (y, b)
  | [] => none
def osC (o : OTy γ) (s : OSpec β) : OSpec (γ × β) where
  enc b := o.enc b.1 :: s.enc b.2
  dec := dosC o s
  ok H n xs b h := by
    unfold dosC at h
    split at h
    · simp only [Option.bind_eq_some_iff, Option.some.injEq] at h
      obtain ⟨y, hy, b, hb, rfl⟩ := h
      obtain ⟨h1, h2⟩ := s.ok H n _ _ hb
      exact ⟨⟨o.ok H n _ _ hy, h1⟩, by simp [h2]⟩
    · cases h
  ren τ b y hy := by
    simp only [List.mem_cons] at hy
    rcases hy with rfl | hy
    · exact o.ren τ _
    · exact s.ren τ _ y hy
  nb n b y hy := by
    simp only [List.mem_cons] at hy
    rcases hy with rfl | hy
    · exact o.nb n _
    · exact s.nb n _ y hy
theorem osN_f : (∀ b, osN.enc b = []) ∧ ∀ H, osN.dec H [] = some () := ⟨fun _ => rfl, fun _ => rfl⟩
theorem osC_f {o : OTy γ} {s : OSpec β} : (∀ b, (osC o s).enc b = o.enc b.1 :: s.enc b.2) ∧ ∀ H xs, (osC o s).dec H xs = dosC o s H xs := ⟨fun _ => rfl, fun _ _ => rfl⟩

structure RSpec (β α : Type) where
  enc : β → α → List AV
  dec : β → List AObj → List AV → Option α
  need : Nat
  ok : ∀ b H n xs a, need ≤ n → dec b H xs = some a → CoL H n xs (enc b a)
def rsN : RSpec β Unit where
  enc _ _ := []
  dec _ _
    | [] => some ()
    | _ => none
  need := 0
  ok b H n xs a _ h := by
    split at h
    · exact CoL.nil
    · cases h
def drsT (t : Ty γ) (s : RSpec β α) (b : β) (H : List AObj) : List AV → Option (γ × α)
  | x :: xs => (t.dec H x).bind fun y => (s.dec b H xs).bind fun a => some (y, a)
  | [] => none
def rsT (t : Ty γ) (s : RSpec β α) : RSpec β (γ × α) where
  enc b a := t.enc a.1 :: s.enc b a.2
  dec := drsT t s
  need := s.need
  ok b H n xs a hn h := by
    unfold drsT at h
    split at h
    · simp only [Option.bind_eq_some_iff, Option.some.injEq] at h
      obtain ⟨y, hy, a, ha, rfl⟩ := h
      exact CoL.cons (t.ok H n _ _ hy) (s.ok b H n _ _ hn ha)
    · cases h
def drsA (k : Nat) (len : β → Nat) (s : RSpec β α) (b : β) (H : List AObj) : List AV → Option α
  | .acc l m :: xs => if l = k ∧ m = len b then s.dec b H xs else none
  | _ => none
def rsA (k : Nat) (len : β → Nat) (s : RSpec β α) : RSpec β α where
  enc b a := .acc k (len b) :: s.enc b a
  dec := drsA k len s
  need := max (k + 1) s.need
  ok b H n xs a hn h := by
    unfold drsA at h
    split at h
    · split at h
      · rename_i hc
        obtain ⟨rfl, rfl⟩ := hc
        exact CoL.cons (Co.same (show _ < n by omega)) (s.ok b H n _ _ (by omega) h)
      · cases h
    · cases h
theorem rsN_f : (∀ (b : β) a, rsN.enc b a = []) ∧ (∀ (b : β) H, rsN.dec b H [] = some ()) ∧ (rsN : RSpec β Unit).need = 0 := ⟨fun _ _ => rfl, fun _ _ => rfl, rfl⟩
theorem rsT_f {t : Ty γ} {s : RSpec β α} : (∀ b a, (rsT t s).enc b a = t.enc a.1 :: s.enc b a.2) ∧ (∀ b H xs, (rsT t s).dec b H xs = drsT t s b H xs) ∧ (rsT t s).need = s.need := ⟨fun _ _ => rfl, fun _ _ _ => rfl, rfl⟩
theorem rsA_f {k : Nat} {len : β → Nat} {s : RSpec β α} : (∀ b a, (rsA k len s).enc b a = .acc k (len b) :: s.enc b a) ∧ (∀ b H xs, (rsA k len s).dec b H xs = drsA k len s b H xs) ∧ (rsA k len s).need = max (k + 1) s.need := ⟨fun _ _ => rfl, fun _ _ _ => rfl, rfl⟩
end objs

def tupOf : List AV → AV
  | [y] => y
  | ys => .tup ys

theorem CoH.take {H : List AObj} {n : Nat} : ∀ {xs ys : List AObj} (k : Nat), CoH H n (xs.take k) ys → CoH H n xs ys
  | _, [], _, _ => CoH.nil
  | [], _ :: _, k, h => by cases k <;> exact h.elim
  | x :: xs, y :: ys, 0, h => h.elim
  | x :: xs, y :: ys, k + 1, h => ⟨h.1, CoH.take k h.2⟩

section runG
variable {R : Type} {M : Mach R}

def ImpE (σ σ' : AState) : Prop := ∀ (C : Ctx) (φ : Nat → Value) (tmps : Array Value) (w : World), Sim C φ σ { tmps, defers := [] } w → ∃ φ', Sim C φ' σ' { tmps, defers := [] } w
theorem Imp.e {σ σ' : AState} (h : Imp σ σ') : ImpE σ σ' := fun C φ tmps w S => h C φ _ w S
theorem ImpE.trans {σ σ' σ'' : AState} (h : ImpE σ σ') (h' : ImpE σ' σ'') : ImpE σ σ'' := fun C φ tmps w S =>
  let ⟨φ', S'⟩ := h C φ tmps w S
  h' C φ' tmps w S'
theorem fnG_run {f : FuncId} {fn : Func} {args : List AV} {H : List AObj} {ys : List AV} {H' : List AObj} {r : R} {n : Nat} {rs : List ResultVar} (G : Good M) (hf : M.P.funcs[f]? = some fn) (hb : fn.body = some M.body) (hne : (fn.name != "runtime.NumGoroutine") = true)
    (hnb : nbL H.length args) (hnbH : ∀ x ∈ H, objNb H.length x) (hn : fn.ntmps = n) (hrs : fn.results = rs.toArray)
    (hout : ∀ σ, M.out σ = some r → ∃ xs, resList M.P σ rs = some xs ∧ ImpE ⟨xs, σ.heap, σ.low⟩ ⟨ys, H', σ.low⟩)
    (h : run M [.at []] { slots := args ++ List.replicate (n - args.length) .any, heap := H, low := H.length } = some r) : FnG M.P f args H (fun o H'' => o = .ret (tupOf ys) ∧ H'' = H') := by
  refine fnG_of_body hf hb hne hnb hnbH hn hrs ?_
  refine run_sound G h fun σ' hs => ?_
  obtain ⟨xs, hx, himp⟩ := hout σ' hs
  have key : ∃ x, resAV M.P σ' rs = some x ∧ ∃ r H'', Export σ' x r H'' ∧ ((AOut.ret r) = .ret (tupOf ys) ∧ H'' = H') := by
    have exp : ∀ (x : AV), (∀ C φ a w, Sim C φ σ' a w → ∀ v, Rep (C.env φ σ'.heap w) x v → ∃ vs : List Value, RepL (C.env φ σ'.heap w) xs vs ∧ ∀ E, RepL E ys vs → Rep E (tupOf ys) v) → Export σ' x (tupOf ys) H' := by
      intro x hx2 C φ a w S v hv
      obtain ⟨vs, hvs, hback⟩ := hx2 C φ a w S v hv
      have S0 : Sim C φ ⟨xs, σ'.heap, σ'.low⟩ { tmps := vs.toArray, defers := [] } w := { S with slots := by simpa using hvs, defers := DefOK.nil }
      obtain ⟨φ', S1⟩ := himp C φ vs.toArray w S0
      exact ⟨φ', { S1 with slots := rfl, defers := DefOK.nil }, hback _ (by simpa using S1.slots)⟩
    unfold resAV
    rw [hx]
    match xs, hx, exp with
    | [x], hx, exp =>
      refine ⟨x, rfl, _, _, exp x ?_, rfl, rfl⟩
      intro C φ a w S v hv
      refine ⟨[v], ⟨v, [], rfl, hv, rfl⟩, fun E hr => ?_⟩
      have := hr.length
      match ys, this, hr with
      | [y], _, ⟨u, us, he, h1, h2⟩ =>
        simp only [List.cons.injEq] at he
        obtain ⟨rfl, _⟩ := he
        exact h1
    | [], hx, exp =>
      refine ⟨.tup [], rfl, _, _, exp _ ?_, rfl, rfl⟩
      rintro C φ a w S v ⟨vs, rfl, hvs⟩
      refine ⟨vs.toList, hvs, fun E hr => ?_⟩
      have h1 := hr.length
      have h2 := hvs.length
      match ys, hr, h1 with
      | [], hr, _ => exact ⟨vs, rfl, hr⟩
      | [_], hr, h1 => rw [h1] at h2; simp at h2
      | _ :: _ :: _, hr, h1 => rw [h1] at h2; simp at h2
    | x :: x' :: xs, hx, exp =>
      refine ⟨.tup (x :: x' :: xs), rfl, _, _, exp _ ?_, rfl, rfl⟩
      rintro C φ a w S v ⟨vs, rfl, hvs⟩
      refine ⟨vs.toList, hvs, fun E hr => ?_⟩
      have h1 := hr.length
      have h2 := hvs.length
      match ys, hr, h1 with
      | [], hr, h1 => rw [h1] at h2; simp at h2
      | [_], hr, h1 => rw [h1] at h2; simp at h2
      | _ :: _ :: _, hr, _ => exact ⟨vs, rfl, hr⟩
  exact ⟨key, key⟩
end runG

section outG
variable {α β γ : Type}
def outG (P : Program) (rs : List ResultVar) (os : OSpec β) (s : RSpec β α) (low : Nat) (σ : AState) : Option (β × α) :=
  (resList P σ rs).bind fun xs => (os.dec σ.heap (σ.heap.take low)).bind fun b => (s.dec b σ.heap xs).bind fun a => bif (σ.low == low) && decide (s.need ≤ low) && decide (low ≤ σ.heap.length) then some (b, a) else none

theorem outG_ok {P : Program} {rs : List ResultVar} {os : OSpec β} {s : RSpec β α} {low : Nat} {σ : AState} {r : β × α} (h : outG P rs os s low σ = some r) :
    ∃ xs, resList P σ rs = some xs ∧ ImpE ⟨xs, σ.heap, σ.low⟩ ⟨s.enc r.1 r.2, os.enc r.1, σ.low⟩ := by
  unfold outG at h
  simp only [Option.bind_eq_some_iff] at h
  obtain ⟨xs, hx, b, hb, a, ha, h⟩ := h
  cases hc : ((σ.low == low) && decide (s.need ≤ low) && decide (low ≤ σ.heap.length)) with
  | false => simp [hc] at h
  | true =>
    simp only [hc, cond_true, Option.some.injEq] at h
    subst h
    simp only [Bool.and_eq_true, beq_iff_eq, decide_eq_true_eq] at hc
    obtain ⟨⟨h1, h2⟩, h3⟩ := hc
    refine ⟨xs, hx, Imp.e (Weak.imp (σ := ⟨xs, σ.heap, σ.low⟩) (σ' := ⟨s.enc b a, os.enc b, σ.low⟩) ⟨⟨rfl, ?_⟩, ?_, ?_⟩)⟩
    · obtain ⟨_, h5⟩ := os.ok σ.heap 0 _ _ hb
      show σ.low ≤ (os.enc b).length
      rw [h5, List.length_take]; omega
    · show CoL σ.heap (os.enc b).length xs (s.enc b a)
      obtain ⟨_, h5⟩ := os.ok σ.heap 0 _ _ hb
      exact s.ok b σ.heap _ xs a (by rw [h5, List.length_take]; omega) ha
    · show CoH σ.heap (os.enc b).length σ.heap (os.enc b)
      exact CoH.take low (os.ok σ.heap _ _ _ hb).1
end outG

section callG
theorem setAll_set : ∀ (ls : List Nat) (G : List AObj) (ys : List AObj) (l : Nat) (z : AObj), l ∉ ls → (setAll G ls ys).set l z = setAll (G.set l z) ls ys
  | [], _, _, _, _, _ => by simp [setAll]
  | _ :: _, _, [], _, _, _ => by simp [setAll]
  | k :: ls, G, y :: ys, l, z, h => by
    simp only [List.mem_cons, not_or] at h
    rw [setAll, setAll, setAll_set ls _ ys l z h.2, List.set_comm _ _ (fun e => h.1 e.symm)]
theorem setAll_setAll : ∀ (ls : List Nat) (G : List AObj) (ys ys' : List AObj), ls.Nodup → ls.length ≤ ys'.length → setAll (setAll G ls ys) ls ys' = setAll G ls ys'
  | [], _, _, _, _, _ => by simp [setAll]
  | _ :: _, _, _, [], _, h => by simp at h
  | l :: ls, G, [], y' :: ys', hnd, h => by simp [setAll]
  | l :: ls, G, y :: ys, y' :: ys', hnd, h => by
    rw [List.nodup_cons] at hnd
    simp only [List.length_cons, Nat.add_le_add_iff_right] at h
    simp only [setAll]
    rw [setAll_set ls _ ys l y' hnd.1, List.set_set, setAll_setAll ls _ ys ys' hnd.2 h]
theorem coH_of_get {H : List AObj} {n : Nat} : ∀ {xs ys : List AObj}, (∀ (k : Nat) (y : AObj), ys[k]? = some y → ∃ x, xs[k]? = some x ∧ CoObj H n x y) → CoH H n xs ys
  | _, [], _ => CoH.nil
  | [], y :: ys, h => by obtain ⟨x, hx, _⟩ := h 0 y (by simp); simp at hx
  | x :: xs, y :: ys, h => by
    obtain ⟨x', hx, hc⟩ := h 0 y (by simp)
    simp at hx; subst hx
    exact ⟨hc, coH_of_get fun k z hz => by have := h (k + 1) z (by simpa using hz); simpa using this⟩
theorem CoL.append {H : List AObj} {n : Nat} : ∀ {xs ys us vs : List AV}, CoL H n xs ys → CoL H n us vs → CoL H n (xs ++ us) (ys ++ vs)
  | [], _, _, _, rfl, h => h
  | _ :: _, _, _, _, ⟨y, zs, rfl, h, hs⟩, h2 => ⟨y, zs ++ _, rfl, h, CoL.append hs h2⟩

theorem callG {P : Program} {f : FuncId} {σ : AState} {cargs args : List AV} {Ys Ys' : List AObj} {r : AV} {ρ : List Nat} (hG : FnG P f args Ys (fun o H' => o = .ret r ∧ H' = Ys')) (hnd : ρ.Nodup) (hlen : ρ.length = Ys.length) (hlen' : ρ.length ≤ Ys'.length)
    (hobj : ∀ (i k : Nat), ρ[i]? = some k → ∃ x y, σ.heap[k]? = some x ∧ Ys[i]? = some y ∧ CoObj σ.heap σ.heap.length x y) (hargs : CoL σ.heap σ.heap.length cargs (renL (backTo ρ σ.heap.length) args))
    (hren : ∀ y ∈ Ys ++ Ys', ∀ τ, y.ren τ = y) : CallA P f cargs σ (fun o H' => o = .ret (r.ren (backTo ρ σ.heap.length)) ∧ H' = setAll σ.heap ρ Ys' ++ Ys'.drop ρ.length) := by
  refine ⟨hG.1, fun C φ a w hP S vs hr => ?_⟩
  let H1 := setAll σ.heap ρ Ys
  have hl1 : H1.length = σ.heap.length := setAll_length _ _ _
  have S0 : Sim C φ ⟨σ.slots ++ cargs, σ.heap, σ.low⟩ { tmps := a.tmps ++ vs, defers := a.defers } w := { S with slots := by simpa using S.slots.append hr, defers := S.defers }
  have hat : ∀ (i k : Nat), ρ[i]? = some k → ∃ x y, σ.heap[k]? = some x ∧ Ys[i]? = some y ∧ CoObj σ.heap σ.heap.length x y ∧ H1[k]? = some y := by
    intro i k hi
    obtain ⟨x, y, hx, hy, hc⟩ := hobj i k hi
    exact ⟨x, y, hx, hy, hc, setAll_at ρ σ.heap Ys i k y hnd hi hy (List.getElem?_eq_some_iff.1 hx).1⟩
  have hw : Weak ⟨σ.slots ++ cargs, σ.heap, σ.low⟩ ⟨σ.slots ++ renL (backTo ρ σ.heap.length) args, H1, σ.low⟩ := by
    refine ⟨⟨rfl, by show σ.low ≤ H1.length; rw [hl1]; exact S.low.2⟩, ?_, ?_⟩
    · show CoL σ.heap H1.length _ _
      rw [hl1]
      exact CoL.append (CoL.same (RepL.nb _ _ S.slots)) hargs
    · show CoH σ.heap H1.length σ.heap H1
      rw [hl1]
      refine coH_of_get fun k y hy => ?_
      by_cases hk : k ∈ ρ
      · obtain ⟨i, hi⟩ := List.getElem?_of_mem hk
        obtain ⟨x, y', hx, _, hc, hy'⟩ := hat i k hi
        rw [hy'] at hy; cases hy
        exact ⟨x, hx, hc⟩
      · have hy2 : σ.heap[k]? = some y := by rw [← hy]; exact (setAll_other ρ σ.heap Ys k hk).symm
        exact ⟨y, hy2, .inr (.inl ⟨rfl, objNb_rep (S.objs k y hy2)⟩)⟩
  obtain ⟨φ', S1⟩ := hw.imp C φ _ w S0
  have hsl := S1.slots
  simp only [Array.toList_append] at hsl
  have hsz : a.tmps.toList.length = σ.slots.length := S.slots.length
  have h1 := hsl.take σ.slots.length
  have h2 := hsl.drop σ.slots.length
  rw [List.take_left' rfl, List.take_left' hsz] at h1
  rw [List.drop_left' rfl, List.drop_left' hsz] at h2
  have S2 : Sim C φ' { σ with heap := H1 } a w := { S1 with slots := h1, defers := S1.defers }
  have hcall : CallA P f (renL (backTo ρ H1.length) args) { σ with heap := H1 } (fun o H' => o = .ret (r.ren (backTo ρ H1.length)) ∧ H' = setAll σ.heap ρ Ys' ++ Ys'.drop ρ.length) := by
    refine callA_of_fnG (σ := { σ with heap := H1 }) hG ρ hlen hnd (SubL.refl _) ?_ ?_
    · intro i k x hi hx
      obtain ⟨x', y, _, hy, _, hy'⟩ := hat i k hi
      rw [hy] at hx; cases hx
      show H1[k]? = some (x.ren _)
      rw [hy', hren x (List.mem_append.2 (.inl (List.mem_of_getElem? hy)))]
    · rintro o H' ⟨rfl, rfl⟩
      refine ⟨rfl, ?_⟩
      have hid : ∀ τ, H'.map (AObj.ren τ) = H' := by
        intro τ
        have : H'.map (AObj.ren τ) = H'.map id := List.map_congr_left fun y hy => hren y (List.mem_append.2 (.inr hy)) τ
        rw [this, List.map_id]
      have hid2 : ∀ τ, (H'.drop ρ.length).map (AObj.ren τ) = H'.drop ρ.length := by
        intro τ; rw [List.map_drop, hid]
      show heapBack ρ H1 H' = _
      unfold heapBack
      rw [hid, hid2]
      simp only [H1]
      rw [setAll_setAll ρ σ.heap Ys H' hnd hlen']
  rw [hl1] at hcall
  exact hcall.2 C φ' a w hP S2 vs h2
end callG
end Go.Abs
namespace Go.Abs

section args
variable {α β γ : Type}
structure ASpec (β α : Type) where
  enc : β → α → List AV
  dec : List Nat → β → List AObj → List AV → Option α
  ok : ∀ ρ b H xs a, dec ρ b H xs = some a → CoL H H.length xs (renL (backTo ρ H.length) (enc b a))
def asN : ASpec β Unit where
  enc _ _ := []
  dec _ _ _
    | [] => some ()
    | _ => none
  ok ρ b H xs a h := by
    split at h
    · exact CoL.nil
    · cases h
def dasT (t : Ty γ) (s : ASpec β α) (ρ : List Nat) (b : β) (H : List AObj) : List AV → Option (γ × α)
  | x :: xs => (t.dec H x).bind fun y => (s.dec ρ b H xs).bind fun a => some (y, a)
  | [] => none
def asT (t : Ty γ) (s : ASpec β α) : ASpec β (γ × α) where
  enc b a := t.enc a.1 :: s.enc b a.2
  dec := dasT t s
  ok ρ b H xs a h := by
    unfold dasT at h
    split at h
    · simp only [Option.bind_eq_some_iff, Option.some.injEq] at h
      obtain ⟨y, hy, a, ha, rfl⟩ := h
      refine CoL.cons ?_ (s.ok ρ b H _ _ ha)
      rw [ren_of_nb _ _ (t.nb 0 y)]
      exact t.ok H _ _ _ hy
    · cases h
def dasP (k : Nat) (s : ASpec β α) (ρ : List Nat) (b : β) (H : List AObj) : List AV → Option α
  | .ptr l off :: xs => if off = 0 ∧ ρ[k]? = some l ∧ l < H.length then s.dec ρ b H xs else none
  | _ => none
theorem backTo_at {ρ : List Nat} {n k l : Nat} (h : ρ[k]? = some l) : backTo ρ n k = l := by
  have hk : k < ρ.length := (List.getElem?_eq_some_iff.1 h).1
  unfold backTo
  rw [if_pos hk, List.getD, h]; rfl
def asP (k : Nat) (s : ASpec β α) : ASpec β α where
  enc b a := .ptr k 0 :: s.enc b a
  dec := dasP k s
  ok ρ b H xs a h := by
    unfold dasP at h
    split at h
    · split at h
      · rename_i hc
        obtain ⟨rfl, hc, hl⟩ := hc
        refine CoL.cons ?_ (s.ok ρ b H _ _ h)
        show Co H H.length _ (.ptr (backTo ρ H.length k) 0)
        rw [backTo_at hc]
        exact Co.same hl
      · cases h
    · cases h
def dasA (k : Nat) (len : β → Nat) (s : ASpec β α) (ρ : List Nat) (b : β) (H : List AObj) : List AV → Option α
  | .acc l m :: xs => if m = len b ∧ ρ[k]? = some l ∧ l < H.length then s.dec ρ b H xs else none
  | _ => none
def asA (k : Nat) (len : β → Nat) (s : ASpec β α) : ASpec β α where
  enc b a := .acc k (len b) :: s.enc b a
  dec := dasA k len s
  ok ρ b H xs a h := by
    unfold dasA at h
    split at h
    · split at h
      · rename_i hc
        obtain ⟨rfl, hc, hl⟩ := hc
        refine CoL.cons ?_ (s.ok ρ b H _ _ h)
        show Co H H.length _ (.acc (backTo ρ H.length k) _)
        rw [backTo_at hc]
        exact Co.same hl
      · cases h
    · cases h
theorem asN_f : (∀ (b : β) a, asN.enc b a = []) ∧ (∀ ρ (b : β) H, asN.dec ρ b H [] = some ()) := ⟨fun _ _ => rfl, fun _ _ _ => rfl⟩
theorem asT_f {t : Ty γ} {s : ASpec β α} : (∀ b a, (asT t s).enc b a = t.enc a.1 :: s.enc b a.2) ∧ (∀ ρ b H xs, (asT t s).dec ρ b H xs = dasT t s ρ b H xs) := ⟨fun _ _ => rfl, fun _ _ _ _ => rfl⟩
theorem asP_f {k : Nat} {s : ASpec β α} : (∀ b a, (asP k s).enc b a = .ptr k 0 :: s.enc b a) ∧ (∀ ρ b H xs, (asP k s).dec ρ b H xs = dasP k s ρ b H xs) := ⟨fun _ _ => rfl, fun _ _ _ _ => rfl⟩
theorem asA_f {k : Nat} {len : β → Nat} {s : ASpec β α} : (∀ b a, (asA k len s).enc b a = .acc k (len b) :: s.enc b a) ∧ (∀ ρ b H xs, (asA k len s).dec ρ b H xs = dasA k len s ρ b H xs) := ⟨fun _ _ => rfl, fun _ _ _ _ => rfl⟩
end args

def nameOf : AV → Option Nat
  | .ptr l _ => some l
  | .acc l _ => some l
  | _ => none
def nameAt (args : List AV) (i : Nat) : Option Nat := (args[i]?).bind nameOf
def nodupB : List Nat → Bool
  | [] => true
  | x :: xs => !xs.contains x && nodupB xs
theorem nodupB_ok : ∀ {xs : List Nat}, nodupB xs = true → xs.Nodup
  | [], _ => List.nodup_nil
  | x :: xs, h => by
    simp only [nodupB, Bool.and_eq_true, Bool.not_eq_true', List.contains_eq_mem, decide_eq_false_iff_not] at h
    exact List.nodup_cons.2 ⟨h.1, nodupB_ok h.2⟩
def getAt (H : List AObj) (k : Nat) : Option AObj := H[k]?

section entG
variable {α β α' β' : Type}
def entG (pos : List Nat) (os : OSpec β) (as : ASpec β α) (os' : OSpec β') (rs : RSpec β' α') (F : β → α → Option (β' × α')) : Ent := fun args H =>
  (mapO (nameAt args) pos).bind fun ρ => bif nodupB ρ then (mapO (getAt H) ρ).bind fun xs => (os.dec H xs).bind fun b => (as.dec ρ b H args).bind fun a => (F b a).bind fun r =>
    bif decide (ρ.length ≤ (os'.enc r.1).length) then some ((tupOf (rs.enc r.1 r.2)).ren (backTo ρ H.length), setAll H ρ (os'.enc r.1) ++ (os'.enc r.1).drop ρ.length) else none else none

theorem mapO_get {H : List AObj} : ∀ {ρ : List Nat} {xs : List AObj}, mapO (getAt H) ρ = some xs → ρ.length = xs.length ∧ ∀ (i k : Nat), ρ[i]? = some k → ∃ x, xs[i]? = some x ∧ H[k]? = some x
  | [], xs, h => by simp only [mapO, Option.some.injEq] at h; subst h; simp
  | k :: ρ, xs, h => by
    simp only [mapO, Option.bind_eq_some_iff, Option.some.injEq] at h
    obtain ⟨x, hx, ys, hys, rfl⟩ := h
    obtain ⟨h1, h2⟩ := mapO_get hys
    refine ⟨by simp [h1], fun i q hi => ?_⟩
    cases i with
    | zero => simp at hi; subst hi; exact ⟨x, by simp, hx⟩
    | succ i => simp at hi; obtain ⟨y, hy, hy'⟩ := h2 i q hi; exact ⟨y, by simpa using hy, hy'⟩

theorem entG_ok {P : Program} {f : FuncId} {pos : List Nat} {os : OSpec β} {as : ASpec β α} {os' : OSpec β'} {rs : RSpec β' α'} {F : β → α → Option (β' × α')}
    (h : ∀ b a r, F b a = some r → FnG P f (as.enc b a) (os.enc b) (fun o H' => o = .ret (tupOf (rs.enc r.1 r.2)) ∧ H' = os'.enc r.1)) : EntOK P f (entG pos os as os' rs F) := by
  intro args σ r H' he
  unfold entG at he
  simp only [Option.bind_eq_some_iff] at he
  obtain ⟨ρ, _, he⟩ := he
  cases hnd : nodupB ρ with
  | false => simp [hnd] at he
  | true =>
    simp only [hnd, cond_true, Option.bind_eq_some_iff] at he
    obtain ⟨xs, hxs, b, hb, a, ha, q, hq, he⟩ := he
    cases hl : decide (ρ.length ≤ (os'.enc q.1).length) with
    | false => simp [hl] at he
    | true =>
      simp only [hl, cond_true, Option.some.injEq, Prod.mk.injEq] at he
      obtain ⟨rfl, rfl⟩ := he
      obtain ⟨h1, h2⟩ := mapO_get hxs
      obtain ⟨h3, h4⟩ := os.ok σ.heap σ.heap.length _ _ hb
      refine callG (h b a q hq) (nodupB_ok hnd) (by rw [h1, h4]) (of_decide_eq_true hl) ?_ (as.ok ρ b σ.heap _ _ ha) ?_
      · intro i k hi
        obtain ⟨x, hx, hx'⟩ := h2 i k hi
        have hlt : i < (os.enc b).length := by rw [h4, ← h1]; exact (List.getElem?_eq_some_iff.1 hi).1
        obtain ⟨x2, hx2, hc⟩ := h3.get (List.getElem?_eq_getElem hlt)
        rw [hx] at hx2; cases hx2
        exact ⟨x, _, hx', List.getElem?_eq_getElem hlt, hc⟩
      · intro y hy τ
        rcases List.mem_append.1 hy with hy | hy
        · exact os.ren τ _ y hy
        · exact os'.ren τ _ y hy
end entG

abbrev EntE := List AV → List AObj → Option Eff
section entE
variable {α α' β' : Type}
noncomputable def entE (as : ASpec Unit α) (os' : OSpec β') (rs : RSpec β' α') (F : α → Option (β' × α')) : EntE := fun args H =>
  pcond (nbL 0 args) ((as.dec [] () [] args).bind fun a => (F a).bind fun r => bif (os'.enc r.1).isEmpty then none else some { val := (tupOf (rs.enc r.1 r.2)).ren (backTo [] H.length), nw := os'.enc r.1 })
noncomputable def entR (e : EntD) : EntE := fun args H => (vwL H args).bind fun p => (e p.1).bind fun r => some { val := r, rd := p.2 }
theorem entR_ok {P : Program} {f : FuncId} {e : EntD} (h : EntDOK P f e) : ∀ (args : List AV) (σ : AState) (ef : Eff), entR e args σ.heap = some ef → CallL P f args σ ef := by
  intro args σ ef he
  simp only [entR, Option.bind_eq_some_iff] at he
  obtain ⟨⟨ds, ns⟩, hv, r, hr, he⟩ := he
  cases he
  refine ⟨⟨fun l hl => vwL_lt hv l hl, by simp⟩, fun σ' hrd _ => ?_⟩
  have hv' := vwL_local hv hrd
  obtain ⟨hen, hc⟩ := callA_of_fnC (σ := σ') (K := fun o H' => o = .ret r ∧ H' = σ'.heap) (h ds r hr) (by rintro _ rfl; exact ⟨rfl, rfl⟩)
  refine ⟨hen, fun C φ a w hP S vs hrep => (hc C φ a w hP S vs (vwL_sound S hv' hrep)).mono ?_⟩
  rintro e' w' ⟨o, φ', H', ⟨rfl, rfl⟩, h1, h2⟩
  exact ⟨_, φ', _, ⟨rfl, by simp [applyUps]⟩, h1, h2⟩
def tabE : List (Nat × EntE) → FuncId → List AV → List AObj → Option Eff
  | [], _, _, _ => none
  | (g, e) :: t, f, args, H => if f = g then e args H else tabE t f args H
def tabI : List Nat → FuncId → Bool
  | [], _ => false
  | g :: t, f => f == g || tabI t f
theorem noE_ok {P : Program} : ∀ (f : FuncId) (args : List AV) (σ : AState) (e : Eff), (fun _ _ _ => none : FuncId → List AV → List AObj → Option Eff) f args σ.heap = some e → CallL P f args σ e := by
  intro f args σ e h; cases h
theorem tabE_nil_ok {P : Program} : ∀ (f : FuncId) (args : List AV) (σ : AState) (e : Eff), tabE [] f args σ.heap = some e → CallL P f args σ e := by
  intro f args σ e h; cases h
theorem tabE_cons_ok {P : Program} {g : Nat} {e : EntE} {t : List (Nat × EntE)} (h1 : ∀ args σ ef, e args σ.heap = some ef → CallL P g args σ ef)
    (h2 : ∀ (f : FuncId) (args : List AV) (σ : AState) (ef : Eff), tabE t f args σ.heap = some ef → CallL P f args σ ef) : ∀ (f : FuncId) (args : List AV) (σ : AState) (ef : Eff), tabE ((g, e) :: t) f args σ.heap = some ef → CallL P f args σ ef := by
  intro f args σ ef h
  simp only [tabE] at h
  split at h
  · rename_i hg; subst hg; exact h1 _ _ _ h
  · exact h2 _ _ _ _ h
end entE

section handout
variable {C : Ctx} {φ : Nat → Value} {σ : AState} {a : Act} {w : World}

theorem imp_export_one {xs : List AV} {H : List AObj} {low l : Nat} {y : AObj} (hl : H[l]? = some y) (hlow : low ≤ l) (hnb : ∀ z ∈ H.take low, objNb low z) (hy : objNb low y) (hr : nbL (low + 1) (renL (outX low l) xs)) :
    ImpE ⟨xs, H, low⟩ ⟨renL (outX low l) xs, H.take low ++ [y], low⟩ := by
  intro C φ tmps w S
  obtain ⟨φ', S', hrep⟩ := export_one (σ := ⟨xs, H, low⟩) (x := .tup xs) hl hlow hnb hy hr C φ _ w S (.tuple tmps) ⟨tmps, rfl, S.slots⟩
  obtain ⟨vs, hv, rl⟩ := hrep
  simp only [Value.tuple.injEq] at hv
  subst hv
  exact ⟨φ', { S' with slots := rl, defers := DefOK.nil }⟩

variable {α γ : Type}
noncomputable def outH (P : Program) (rs : List ResultVar) (j : Nat) (r : Row γ) (s : RSpec (List γ × Unit) α) (σ : AState) : Option ((List γ × Unit) × α) :=
  (resList P σ rs).bind fun xs => outH1 (immV (gSlot j r.sz true ⟨xs, σ.heap, 0⟩) (gSlot j r.sz true ⟨xs, σ.heap, 0⟩).slots[j]?) j r s σ.low
where
  outH1 (τ : AState) (j : Nat) (r : Row γ) (s : RSpec (List γ × Unit) α) (low : Nat) : Option ((List γ × Unit) × α) :=
    match τ.slots[j]? with
    | some (.acc l _) => match τ.heap[l]? with
      | some y => pcond (low = 0 ∧ objNb 0 y ∧ nbL 1 (renL (outX 0 l) τ.slots)) (((osC (oaT true r) osN).dec [y] [y]).bind fun b => (s.dec b [y] (renL (outX 0 l) τ.slots)).bind fun a => bif decide (s.need ≤ 1) then some (b, a) else none)
      | none => none
    | _ => none

theorem outH_ok {P : Program} {rs : List ResultVar} {j : Nat} {r : Row γ} {s : RSpec (List γ × Unit) α} {σ : AState} {q : (List γ × Unit) × α} (h : outH P rs j r s σ = some q) :
    ∃ xs, resList P σ rs = some xs ∧ ImpE ⟨xs, σ.heap, σ.low⟩ ⟨s.enc q.1 q.2, (osC (oaT true r) osN).enc q.1, σ.low⟩ := by
  unfold outH at h
  simp only [Option.bind_eq_some_iff] at h
  obtain ⟨xs, hx, h⟩ := h
  refine ⟨xs, hx, ?_⟩
  unfold outH.outH1 at h
  split at h
  case h_2 => cases h
  rename_i l m hs
  split at h
  case h_2 => cases h
  rename_i y hl
  rw [pcond_some] at h
  obtain ⟨⟨hlow, h1, h2⟩, h⟩ := h
  simp only [Option.bind_eq_some_iff] at h
  obtain ⟨b, hb, a, ha, h⟩ := h
  cases hd : decide (s.need ≤ 1) with
  | false => simp [hd] at h
  | true =>
    simp only [hd, cond_true, Option.some.injEq] at h
    subst h
    rw [hlow]
    have i1 : Imp ⟨xs, σ.heap, 0⟩ (immV (gSlot j r.sz true ⟨xs, σ.heap, 0⟩) (gSlot j r.sz true ⟨xs, σ.heap, 0⟩).slots[j]?) := gSlot_ok.trans immV_ok
    have hlow0 : (immV (gSlot j r.sz true ⟨xs, σ.heap, 0⟩) (gSlot j r.sz true ⟨xs, σ.heap, 0⟩).slots[j]?).low = 0 := by rw [immV_low]; unfold gSlot; split <;> rfl
    generalize hτ : immV (gSlot j r.sz true ⟨xs, σ.heap, 0⟩) (gSlot j r.sz true ⟨xs, σ.heap, 0⟩).slots[j]? = τ at *
    have i2 : ImpE ⟨τ.slots, τ.heap, 0⟩ ⟨renL (outX 0 l) τ.slots, τ.heap.take 0 ++ [y], 0⟩ := imp_export_one hl (Nat.zero_le _) (by simp) h1 h2
    have e : τ = ⟨τ.slots, τ.heap, 0⟩ := by cases τ; simp only at hlow0; subst hlow0; rfl
    rw [e] at i1
    refine (i1.e.trans i2).trans ?_
    simp only [List.take_zero, List.nil_append]
    obtain ⟨h5, h6⟩ := (osC (oaT true r) osN).ok [y] 1 _ _ hb
    refine Imp.e (Weak.imp (σ := ⟨renL (outX 0 l) τ.slots, [y], 0⟩) (σ' := ⟨s.enc b a, (osC (oaT true r) osN).enc b, 0⟩) ⟨⟨rfl, Nat.zero_le _⟩, ?_, ?_⟩)
    · show CoL [y] ((osC (oaT true r) osN).enc b).length _ _
      rw [h6]
      exact s.ok b [y] 1 _ a (of_decide_eq_true hd) ha
    · show CoH [y] ((osC (oaT true r) osN).enc b).length [y] _
      rw [h6]
      exact h5
end handout
end Go.Abs
namespace Go.Abs

def entGh (i : Nat) (imm : Bool) (sz : Nat) (e : Ent) : Ent := fun args H =>
  match args[i]? with
  | some (.lst true _ []) => e (args.set i (.acc H.length 0)) (H ++ [.acc imm sz []])
  | _ => e args H

theorem entGh_ok {P : Program} {f : FuncId} {i : Nat} {imm : Bool} {sz : Nat} {e : Ent} (h : EntOK P f e) : EntOK P f (entGh i imm sz e) := by
  intro args σ r H' he
  unfold entGh at he
  split at he
  · rename_i s hi
    have hc := h (args.set i (.acc σ.heap.length 0)) { σ with heap := σ.heap ++ [.acc imm sz []] } r H' he
    refine ⟨hc.1, fun C φ a w hP S vs hr => ?_⟩
    have S0 : Sim C φ ⟨σ.slots ++ args, σ.heap, σ.low⟩ { tmps := a.tmps ++ vs, defers := a.defers } w := { S with slots := by simpa using S.slots.append hr, defers := S.defers }
    have hget : (σ.slots ++ args)[σ.slots.length + i]? = some (.lst true s []) := by
      rw [List.getElem?_append_right (by omega), Nat.add_sub_cancel_left]; exact hi
    obtain ⟨φ', S1⟩ := ghostAcc (σ := ⟨σ.slots ++ args, σ.heap, σ.low⟩) (sz := sz) (imm := imm) hget C φ _ w S0
    have hset : (σ.slots ++ args).set (σ.slots.length + i) (.acc σ.heap.length 0) = σ.slots ++ args.set i (.acc σ.heap.length 0) := by
      rw [List.set_append_right _ _ (by omega), Nat.add_sub_cancel_left]
    have hsl := S1.slots
    simp only [hset, Array.toList_append] at hsl
    have hsz : a.tmps.toList.length = σ.slots.length := S.slots.length
    have h1 := hsl.take σ.slots.length
    have h2 := hsl.drop σ.slots.length
    rw [List.take_left' rfl, List.take_left' hsz] at h1
    rw [List.drop_left' rfl, List.drop_left' hsz] at h2
    have S2 : Sim C φ' { σ with heap := σ.heap ++ [.acc imm sz []] } a w := { S1 with slots := h1, defers := S1.defers }
    exact hc.2 C φ' a w hP S2 vs h2
  · exact h args σ r H' he

def entAlt (e e' : Ent) : Ent := fun args H => (e args H).or (e' args H)
theorem entAlt_ok {P : Program} {f : FuncId} {e e' : Ent} (h : EntOK P f e) (h' : EntOK P f e') : EntOK P f (entAlt e e') := by
  intro args σ r H' he
  unfold entAlt at he
  rw [Option.or_eq_some_iff] at he
  rcases he with he | ⟨_, he⟩
  · exact h args σ r H' he
  · exact h' args σ r H' he
end Go.Abs
namespace Go.Abs

section
variable {R : Type} {M : Mach R} {k : List Kt} {σ : AState}
theorem stepY_opX {ops : Array Oper} {o : Oper} {rest : List Oper} : stepY M ops o rest k σ none = stepE M ops o.dst rest k σ (opX M.P σ o.op) := by rw [← opX_eq]; rfl
theorem stepDC_opX {p : List Nat} {o : Oper} {rest : List Oper} {j : Nat} {tr : List Tr} : stepDC M p o rest j tr k σ none = stepDE M p o.dst rest j tr k σ (opX M.P σ o.op) := by rw [← opX_eq]; rfl
end

section
variable {R : Type} {M : Mach R} {k : List Kt} {σ : AState}
theorem stepE_cond {ops : Array Oper} {dst : Option Tmp} {rest : List Oper} {b : Bool} {x y : Option Eff} : stepE M ops dst rest k σ (bif b then x else y) = bif b then stepE M ops dst rest k σ x else stepE M ops dst rest k σ y := by cases b <;> rfl
theorem stepA_cond {ops : Array Oper} {dst : Option Tmp} {rest : List Oper} {b : Bool} {x y : Option (AV × List AObj)} : stepA M ops dst rest k σ (bif b then x else y) = bif b then stepA M ops dst rest k σ x else stepA M ops dst rest k σ y := by cases b <;> rfl
theorem stepDE_cond {p : List Nat} {dst : Option Tmp} {rest : List Oper} {j : Nat} {tr : List Tr} {b : Bool} {x y : Option Eff} : stepDE M p dst rest j tr k σ (bif b then x else y) = bif b then stepDE M p dst rest j tr k σ x else stepDE M p dst rest j tr k σ y := by cases b <;> rfl
end
theorem undef_eq : undef = .tuple #[] := rfl
theorem not_true' : (¬ True) = False := by simp
theorem not_false' : (¬ False) = True := by simp
theorem int_nonneg (n : Nat) : (0 ≤ (n : Int)) = True := by simp
theorem int_nonneg0 : ((0 : Int) ≤ 0) = True := by simp
theorem cond_not' {α : Type} {b : Bool} {x y : α} : (bif !b then x else y) = bif b then y else x := by cases b <;> rfl
theorem beq_tt {b : Bool} : (b == true) = b := by cases b <;> rfl
theorem beq_ff {b : Bool} : (b == false) = !b := by cases b <;> rfl
theorem bind_ite' {α β : Type} {p : Prop} [Decidable p] {a b : Option α} {f : α → Option β} : (if p then a else b).bind f = bif decide p then a.bind f else b.bind f := by
  by_cases h : p <;> simp [h]
theorem mp_get {α β : Type} (f : α → β) (xs : List α) (i : Nat) : (mp f xs)[i]? = Option.map f xs[i]? := by rw [mp_eq, List.getElem?_map]
theorem mp_set {α β : Type} (f : α → β) (xs : List α) (i : Nat) (x : α) : (mp f xs).set i (f x) = mp f (xs.set i x) := by rw [mp_eq, mp_eq, List.map_set]
theorem pcond_room {R : Type} {a b : Nat} {x : Option R} : pcond (room a b) x = bif decide (a * b ≤ 17592186044416) then x else none := by
  unfold room
  exact pcond_dec
theorem pcond_ilt {R : Type} {a b : Int} {x : Option R} : pcond (a < b) x = bif decide (a < b) then x else none := pcond_dec

-- bytes
theorem sb_size (s : Str) : (sb s).size = s.length := by simp [sb, ByteArray.size]
theorem sb_get (s : Str) (i : Nat) : (sb s)[i]? = s[i]? := by
  by_cases h : i < s.length
  · have h' : i < (sb s).size := by rw [sb_size]; exact h
    rw [List.getElem?_eq_getElem h, getElem?_pos (sb s) i h']
    rfl
  · have h' : ¬ i < (sb s).size := by rw [sb_size]; exact h
    rw [List.getElem?_eq_none (by omega), getElem?_neg (sb s) i h']
theorem sb_idx (s : Str) (n : Int) : idxB (sb s) n = idxA s n := by
  simp only [idxB, sb_get]; rfl
theorem sb_toList (s : Str) : (sb s).toList = s := by
  rw [ByteArray.toList_eq]; rfl
theorem sb_empty : ByteArray.empty = sb [] := rfl
theorem sb_emptyL : (⟨#[]⟩ : ByteArray) = sb [] := rfl
theorem sb_lit (l : List UInt8) : (⟨l.toArray⟩ : ByteArray) = sb l := rfl

attribute [go_sem] run_nil run_blk run_ops_nil run_dops_nil behind exitK_some exitK_none stepIf_true stepIf_false run_at stepN_skip stepN_region stepN_draw stepN_seq stepN_cond stepN_block stepN_loop stepN_exit stepN_scope stepN_label stepN_ret stepN_range stepR_func stepR1_some stepR1_none stepJ_none stepJ_ret stepJ_exit retK rdIn isRd run_rd beginX beginO stP run_cut run_lp run_ops run_dops stepW_true stepW_false stepC_some stepC_none stepY_some stepY_opX yieldOf stepE_none stepE_some stepE_bind stepE_ite stepA_some stepA_none stepA_bind stepDW_true stepDW_false stepDC_some stepDC_opX stepDE_none stepDE_some stepDE_bind stepDE_ite stepDA_some stepDA_none stepDA_bind stepE_cond stepA_cond stepDE_cond sub child setB gset pcond_true pcond_and pcond_room pcond_ilt
attribute [go_sem low] stepIf_sym stepW_sym stepDW_sym
attribute [go_sem] mapO_nil mapO_cons mapO_append bind_map' bind_bind' bind_cond bind_none' bind_some' idxA_mp mp_length mp_take mp_drop mp_get mp_set bind_ite' mp_isEmpty idxA_zero idxA_one idxA_two szOK dL tyL_enc tyL_dec dS_sb dI_int dB_bool dS_empty dS_emptyL tyI_enc tyI_dec tyB_enc tyB_dec tyS_enc tyS_dec dF_lit tyF_enc tyF_dec dI1 dB1 dS1 rowI_f rowU_f rowB_f rowS_f dC tyC_enc tyC_dec tyU_enc tyU_dec d2 d3 d4 d5 ty2_enc ty2_dec ty3_enc ty3_dec ty4_enc ty4_dec ty5_enc ty5_dec outR ent0 ent1 ent2 ent3 ent4 ent5 ent6 entD tabA tabD zA_f zK_f zT_f zL_f dLt zipZ oD_f oK_f oC_f oT_f oA_f zipO nrmZ gSlot gCell gSlots gCells nrmN tabN selO isLstS ixA ixS ldA ldV vwL stA opX cond_not' beq_tt beq_ff sb_size sb_idx sb_get sb_toList sb_empty sb_emptyL sb_lit
attribute [go_sem] immV_f immO_f fzX_f entE entR tabE tabI fzOne fzAll tabF rp1 rpV rpO cI_f cB_f cS_f cL_f cF_f dL1 dF1 dP tyP_enc tyP_dec dK1 dK2 dK3 tyK1_f tyK2_f tyK3_f daT dcT oaT_f ocT_f osN_f osC_f dosC rsN_f rsT_f drsT rsA_f drsA tupOf outG asN_f asT_f dasT asP_f dasP asA_f dasA nameOf nameAt nodupB getAt entG entGh entAlt Option.or_none Option.none_or outH outH.outH1 setAll backTo AV.ren renL renR outX
attribute [go_sem] wantedA calleeOf opEff AState.ev AState.put applyUps AV.scalar constAV fillAV rowsOf binAV aggEff eqB eq1 bound tightOf sliceAV srcRows appendAV lenAV builtinEff resAV resList resOne frz frzL undef_eq
attribute [go_sem] List.all_cons List.all_nil Bool.and_true Bool.true_and Bool.and_false Bool.false_and if_true if_false List.getD_cons_zero List.getD_cons_succ List.length_cons List.length_nil List.replicate List.cons_append List.nil_append List.set_cons_zero List.set_cons_succ reduceCtorEq and_true true_and List.append_nil Nat.zero_add List.getElem?_cons_zero List.getElem?_cons_succ List.getElem?_nil Option.bind_some List.drop_zero List.drop_succ_cons List.drop_nil List.take_succ_cons List.take_zero List.take_nil ne_eq not_true' not_false' Option.isSome_some Option.isSome_none Option.isNone_some Option.isNone_none List.map_cons List.map_nil List.getElem?_toArray Bool.not_true Bool.not_false cond_true cond_false Int.toNat_natCast int_nonneg int_nonneg0 true_or or_true and_self false_or or_false List.length_map List.set_nil decide_true decide_false Bool.not_not and_false false_and List.length_append List.length_set List.length_replicate beq_self_eq_true
attribute [go_sem] compatP_eq opsAt regOps Eff.idle pushTr indepB disjointB List.contains_cons List.contains_nil List.isEmpty_nil List.isEmpty_cons Bool.or_false Bool.false_or Bool.or_true Bool.true_or Nat.le_refl Bool.false_eq_true Int.cast_ofNat_Int Int.toNat_zero Int.toNat_one List.flatten_cons List.flatten_nil List.cons.injEq Option.map_some Option.map_none
theorem nbR_append {n : Nat} : ∀ {a b : List (List AV)}, nbR n (a ++ b) = (nbR n a ∧ nbR n b)
  | [], _ => by simp [nbR]
  | x :: a, b => by simp [nbR, nbR_append (a := a), and_assoc]
theorem loadAV_lit0 {n : Nat} {c : AV} {cs : List AV} : loadAV false n (c :: cs) = some c := rfl
theorem loadAV_lit1 {n : Nat} {c : AV} {cs : List AV} : loadAV true n (c :: cs) = if n ≤ (c :: cs).length then some (.agg ((c :: cs).take n)) else none := rfl
theorem cellsOf_lit {c : AV} {cs : List AV} : cellsOf (.agg (c :: cs)) = if (c :: cs).all AV.scalar then some (c :: cs) else none := rfl
theorem cellsOf_one : (∀ b, cellsOf (.bool b) = some [.bool b]) ∧ (∀ k n, cellsOf (.int k n) = some [.int k n]) ∧ (∀ s, cellsOf (.str s) = some [.str s]) ∧ (∀ t sz r, cellsOf (.lst t sz r) = some [.lst t sz r]) ∧
    (∀ l n, cellsOf (.acc l n) = some [.acc l n]) ∧ (∀ a b c d e, cellsOf (.own a b c d e) = some [.own a b c d e]) ∧ (∀ a b, cellsOf (.ptr a b) = some [.ptr a b]) ∧ (∀ a, cellsOf (.map a) = some [.map a]) ∧
    (∀ cs, cellsOf (.pp cs) = some [.pp cs]) ∧ (∀ fn f c, cellsOf (.func fn f c) = some [.func fn f c]) ∧ (∀ t x, cellsOf (.iface t x) = some [.iface t x]) ∧ cellsOf (.raw .nilFunc) = some [.raw .nilFunc] ∧ cellsOf (.raw .nilIface) = some [.raw .nilIface] ∧
    (∀ a, cellsOf (.raw (.pointer a)) = some [.raw (.pointer a)]) ∧ (∀ a, cellsOf (.raw (.map a)) = some [.raw (.map a)]) :=
  ⟨fun _ => rfl, fun _ _ => rfl, fun _ => rfl, fun _ _ _ => rfl, fun _ _ => rfl, fun _ _ _ _ _ => rfl, fun _ _ => rfl, fun _ => rfl, fun _ => rfl, fun _ _ _ => rfl, fun _ _ => rfl, rfl, rfl, fun _ => rfl, fun _ => rfl⟩
theorem splice_lit {c : AV} {cs : List AV} {o : Nat} {xs : List AV} : splice (c :: cs) o xs = (c :: cs).take o ++ xs ++ (c :: cs).drop (o + xs.length) := rfl
theorem splice_all {cs xs : List AV} (h : xs.length = cs.length) : splice cs 0 xs = xs := by
  simp only [splice, List.take_zero, List.nil_append, Nat.zero_add, h, List.drop_length, List.append_nil]
attribute [go_sem] loadAV_lit0 loadAV_lit1 cellsOf_lit cellsOf_one splice_all
attribute [go_sem low] splice_lit
attribute [go_sem] AV.nb nbL nbR objNb nbR_append
theorem nb_if {n : Nat} {c : Prop} [Decidable c] {a : AV} : AV.nb n (if c then a else .any) = (¬ c ∨ AV.nb n a) := by
  by_cases h : c <;> simp [h, AV.nb]
attribute [go_sem high] nb_if
attribute [go_sem] or_true
end Go.Abs
namespace Go.Abs
def flatFits (P : Program) : Nat → List Field → List AV → List AV → Prop
  | _, [], [], [] => True
  | o, f :: fs, c :: cs, d :: ds => (f.name ≠ "_" ∧ f.offset = o ∧ P.plainKey f.type = true ∧ (match c, d with
    | .int k _, .int k' _ => k = k' ∧ ∃ q, P.underlying f.type = some (.int q)
    | .bool _, .bool _ => P.underlying f.type = some .bool
    | .str _, .str _ => P.underlying f.type = some .string
    | _, _ => False)) ∧ flatFits P (o + 1) fs cs ds
  | _, _, _, _ => False

theorem eqFields_flat {P : Program} {E : Env} {vs us : Array Value} {w : World} {d : Nat} : ∀ (fs : List Field) (o : Nat) (cs ds : List AV), flatFits P o fs cs ds → RepL E cs (vs.toList.drop o) → RepL E ds (us.toList.drop o) →
    (Op.eqFields (d + 1) vs us fs).run P w = .ok (eqB cs ds) w
  | [], _, [], [], _, _, _ => by simp [Op.eqFields, eqB]
  | [], _, _ :: _, _, h, _, _ => h.elim
  | [], _, [], _ :: _, h, _, _ => h.elim
  | _ :: _, _, [], _, h, _, _ => h.elim
  | _ :: _, _, _ :: _, [], h, _, _ => h.elim
  | f :: fs, o, c :: cs, e :: ds, ⟨⟨h1, h2, h3, h4⟩, h5⟩, r1, r2 => by
    obtain ⟨u, us', e1, r1, r1'⟩ := r1
    obtain ⟨v, vs', e2, r2, r2'⟩ := r2
    have g1 : vs[f.offset]? = some u := by
      have := congrArg (fun l : List Value => l[0]?) e1
      rw [h2]; simpa using this
    have g2 : us[f.offset]? = some v := by
      have := congrArg (fun l : List Value => l[0]?) e2
      rw [h2]; simpa using this
    have t1 : vs.toList.drop (o + 1) = us' := by
      have := congrArg List.tail e1
      simpa using this
    have t2 : us.toList.drop (o + 1) = vs' := by
      have := congrArg List.tail e2
      simpa using this
    have ih := eqFields_flat (d := d) (w := w) fs (o + 1) cs ds h5 (by rw [t1]; exact r1') (by rw [t2]; exact r2')
    have hone : (Op.equalIn (d + 1) f.type u v).run P w = .ok (eq1 c e) w := by
      cases c <;> cases e <;> try exact h4.elim
      · cases r1; cases r2; exact run_equalIn_bool _ d f.type _ _ h4
      · obtain ⟨rfl, q, hq⟩ := h4
        cases r1; cases r2; exact run_equalIn_int _ d f.type _ q _ _ hq
      · cases r1; cases r2; exact run_equalIn_string _ d f.type _ _ h4
    simp only [Op.eqFields, h1, ne_eq, not_false_eq_true, if_true, Sem.run_bind, run_part_plain w h3 g1, run_part_plain w h3 g2, hone, Result.andThen_ok, eqB]
    cases eq1 c e
    · simp
    · simpa using ih

theorem aggEq_flat {P : Program} {t : TypeId} {cs ds : List AV} (ht : P.underlying t = some (.struct (P.fieldsOf t))) (hp : P.stoodInHeld t = false) (hg : P.eqGuardType P.depth t = false)
    (hf : flatFits P 0 (P.fieldsOf t).toList cs ds) : AggEq P t cs ds := by
  intro E vs us w x y h1 h2
  have hq : (Op.equal t (.agg vs) (.agg us)).run P w = .ok (eqB cs ds) w := by
    show (Op.equalIn (9999 + 1) t _ _).run P w = _
    rw [run_equalIn_struct w 9999 t vs us ht hp]
    exact eqFields_flat (d := 9998) _ 0 cs ds hf (by simpa using h1) (by simpa using h2)
  constructor
  · simp [eqGuard, binOp, hg, hq]
  · simp [eqGuard, binOp, hg, hq]

end Go.Abs
namespace Go.Abs

mutual
theorem ren_congr {τ τ' : Nat → Nat} {n : Nat} (h : ∀ l, l < n → τ l = τ' l) : ∀ x : AV, x.nb n → x.ren τ = x.ren τ'
  | .agg cs, k | .tup cs, k | .pp cs, k => by simp only [AV.ren]; rw [renL_congr h cs k]
  | .lst _ _ rows, k => by simp only [AV.ren]; rw [renR_congr h rows k]
  | .acc l _, k | .own l _ _ _ _, k | .ptr l _, k | .map l, k => by simp only [AV.ren]; rw [h l k]
  | .func _ f c, k => by simp only [AV.ren]; rw [renL_congr h f k.1, renL_congr h c k.2]
  | .iface _ x, k => by simp only [AV.ren]; rw [ren_congr h x k]
  | .any, _ | .bool _, _ | .int _ _, _ | .str _, _ | .raw _, _ => rfl
theorem renL_congr {τ τ' : Nat → Nat} {n : Nat} (h : ∀ l, l < n → τ l = τ' l) : ∀ xs : List AV, nbL n xs → renL τ xs = renL τ' xs
  | [], _ => rfl
  | x :: xs, k => by simp only [renL]; rw [ren_congr h x k.1, renL_congr h xs k.2]
theorem renR_congr {τ τ' : Nat → Nat} {n : Nat} (h : ∀ l, l < n → τ l = τ' l) : ∀ xs : List (List AV), nbR n xs → renR τ xs = renR τ' xs
  | [], _ => rfl
  | x :: xs, k => by simp only [renR]; rw [renL_congr h x k.1, renR_congr h xs k.2]
end
mutual
theorem nb_ren {τ : Nat → Nat} {n m : Nat} (h : ∀ l, l < n → τ l < m) : ∀ x : AV, x.nb n → (x.ren τ).nb m
  | .agg cs, k | .tup cs, k | .pp cs, k => nbL_ren h cs k
  | .lst _ _ rows, k => nbR_ren h rows k
  | .acc l _, k | .own l _ _ _ _, k | .ptr l _, k | .map l, k => h l k
  | .func _ f c, k => ⟨nbL_ren h f k.1, nbL_ren h c k.2⟩
  | .iface _ x, k => nb_ren h x k
  | .any, _ | .bool _, _ | .int _ _, _ | .str _, _ | .raw _, _ => trivial
theorem nbL_ren {τ : Nat → Nat} {n m : Nat} (h : ∀ l, l < n → τ l < m) : ∀ xs : List AV, nbL n xs → nbL m (renL τ xs)
  | [], _ => trivial
  | x :: xs, k => ⟨nb_ren h x k.1, nbL_ren h xs k.2⟩
theorem nbR_ren {τ : Nat → Nat} {n m : Nat} (h : ∀ l, l < n → τ l < m) : ∀ xs : List (List AV), nbR n xs → nbR m (renR τ xs)
  | [], _ => trivial
  | x :: xs, k => ⟨nbL_ren h x k.1, nbR_ren h xs k.2⟩
end
theorem Co1.sub_nil {n : Nat} {x y : AV} (h : Co1 [] n x y) : Sub x y := by
  rcases h with h | ⟨l, m, sz, rows, _, h, _⟩
  · exact h.1
  · simp at h
theorem CoL1.sub_nil {n : Nat} : ∀ {xs ys : List AV}, CoL1 [] n xs ys → SubL xs ys
  | [], _, rfl => SubL.nil
  | _ :: _, _, ⟨_, _, rfl, h, hs⟩ => SubL.cons h.sub_nil hs.sub_nil
theorem Co.sub_nil {n : Nat} {x y : AV} (h : Co [] n x y) : Sub x y := by
  rcases h with h | ⟨cs, ds, rfl, rfl, h⟩
  · exact h.sub_nil
  · rintro E v ⟨vs, rfl, hv⟩
    exact ⟨vs, rfl, h.sub_nil E _ hv⟩
theorem SubL.func {f : Fn} {xs ys : List AV} (h : SubL xs ys) : Sub (.func f [] xs) (.func f [] ys) := by
  rintro E v ⟨a, b, rfl, h1, h2⟩
  exact ⟨a, b, rfl, h1, h E _ h2⟩

abbrev Lens := Nat → Nat
def atN (ρ : List Nat) (k : Nat) : Nat := ρ.getD k 0
def Cov (ρ : List Nat) (need n : Nat) : Prop := ∀ k, k < need → ∃ l, ρ[k]? = some l ∧ l < n
theorem Cov.mono {ρ : List Nat} {a b n : Nat} (h : Cov ρ b n) (k : a ≤ b) : Cov ρ a n := fun i hi => h i (by omega)
theorem Cov.lt {ρ : List Nat} {a n : Nat} (h : Cov ρ a n) : ∀ l, l < a → atN ρ l < n := by
  intro l hl
  obtain ⟨k, hk, hn⟩ := h l hl
  unfold atN; rw [List.getD, hk]; exact hn
theorem atN_of {ρ : List Nat} {k l : Nat} (h : ρ[k]? = some l) : atN ρ k = l := by unfold atN; rw [List.getD, h]; rfl

section specs
variable {α β γ δ : Type}
structure VL (γ : Type) where
  enc : Lens → γ → List AV
  dec : List Nat → Lens → List AV → Option γ
  need : Nat
  nb : ∀ L g, nbL need (enc L g)
  ok : ∀ ρ L vs g, dec ρ L vs = some g → SubL vs (renL (atN ρ) (enc L g))
def dvlN : List AV → Option Unit
  | [] => some ()
  | _ => none
def vlN : VL Unit where
  enc _ _ := []
  dec _ _ := dvlN
  need := 0
  nb _ _ := trivial
  ok ρ L vs g h := by
    unfold dvlN at h
    split at h
    · exact SubL.nil
    · cases h
def dvlT (t : Ty γ) (s : VL δ) (ρ : List Nat) (L : Lens) : List AV → Option (γ × δ)
  | x :: xs => (t.dec [] x).bind fun y => (s.dec ρ L xs).bind fun a => some (y, a)
  | [] => none
def vlT (t : Ty γ) (s : VL δ) : VL (γ × δ) where
  enc L g := t.enc g.1 :: s.enc L g.2
  dec := dvlT t s
  need := s.need
  nb L g := ⟨t.nb _ _, s.nb L g.2⟩
  ok ρ L vs g h := by
    unfold dvlT at h
    split at h
    · simp only [Option.bind_eq_some_iff, Option.some.injEq] at h
      obtain ⟨y, hy, a, ha, rfl⟩ := h
      refine SubL.cons ?_ (s.ok ρ L _ _ ha)
      rw [ren_of_nb _ _ (t.nb 0 y)]
      exact (t.ok [] 0 _ _ hy).sub_nil
    · cases h
def dvlP (k : Nat) (s : VL δ) (ρ : List Nat) (L : Lens) : List AV → Option δ
  | .ptr l off :: xs => bif decide (off = 0 ∧ ρ[k]? = some l) then s.dec ρ L xs else none
  | _ => none
def vlP (k : Nat) (s : VL δ) : VL δ where
  enc L g := .ptr k 0 :: s.enc L g
  dec := dvlP k s
  need := max (k + 1) s.need
  nb L g := ⟨show k < _ by omega, nbL_le (by omega) _ (s.nb L g)⟩
  ok ρ L vs g h := by
    unfold dvlP at h
    split at h
    · rename_i l off xs
      cases hc : decide (off = 0 ∧ ρ[k]? = some l) with
      | false => simp [hc] at h
      | true =>
        simp only [hc, cond_true] at h
        obtain ⟨rfl, hc'⟩ := of_decide_eq_true hc
        refine SubL.cons ?_ (s.ok ρ L _ _ h)
        simp only [AV.ren, atN_of hc']
        exact Sub.refl _
    · cases h
def dvlM (k : Nat) (s : VL δ) (ρ : List Nat) (L : Lens) : List AV → Option δ
  | .map l :: xs => bif decide (ρ[k]? = some l) then s.dec ρ L xs else none
  | _ => none
def vlM (k : Nat) (s : VL δ) : VL δ where
  enc L g := .map k :: s.enc L g
  dec := dvlM k s
  need := max (k + 1) s.need
  nb L g := ⟨show k < _ by omega, nbL_le (by omega) _ (s.nb L g)⟩
  ok ρ L vs g h := by
    unfold dvlM at h
    split at h
    · rename_i l xs
      cases hc : decide (ρ[k]? = some l) with
      | false => simp [hc] at h
      | true =>
        simp only [hc, cond_true] at h
        have hc := of_decide_eq_true hc
        refine SubL.cons ?_ (s.ok ρ L _ _ h)
        simp only [AV.ren, atN_of hc]
        exact Sub.refl _
    · cases h
def dvlF (f : FuncId) (c : VL γ) (s : VL δ) (ρ : List Nat) (L : Lens) : List AV → Option (γ × δ)
  | .func (.func f') [] cs :: xs => bif decide (f' = f) then (c.dec ρ L cs).bind fun y => (s.dec ρ L xs).bind fun a => some (y, a) else none
  | _ => none
def vlF (f : FuncId) (c : VL γ) (s : VL δ) : VL (γ × δ) where
  enc L g := .func (.func f) [] (c.enc L g.1) :: s.enc L g.2
  dec := dvlF f c s
  need := max c.need s.need
  nb L g := ⟨⟨trivial, nbL_le (by omega) _ (c.nb L g.1)⟩, nbL_le (by omega) _ (s.nb L g.2)⟩
  ok ρ L vs g h := by
    unfold dvlF at h
    split at h
    · rename_i f' cs xs
      cases hc : decide (f' = f) with
      | false => simp [hc] at h
      | true =>
        simp only [hc, cond_true, Option.bind_eq_some_iff, Option.some.injEq] at h
        obtain ⟨y, hy, a, ha, rfl⟩ := h
        obtain rfl := of_decide_eq_true hc
        refine SubL.cons ?_ (s.ok ρ L _ _ ha)
        simp only [AV.ren, renL]
        exact (c.ok ρ L _ _ hy).func
    · cases h
theorem vlN_f : (∀ L g, vlN.enc L g = []) ∧ ∀ ρ L xs, vlN.dec ρ L xs = dvlN xs := ⟨fun _ _ => rfl, fun _ _ _ => rfl⟩
theorem vlT_f {t : Ty γ} {s : VL δ} : (∀ L g, (vlT t s).enc L g = t.enc g.1 :: s.enc L g.2) ∧ ∀ ρ L xs, (vlT t s).dec ρ L xs = dvlT t s ρ L xs := ⟨fun _ _ => rfl, fun _ _ _ => rfl⟩
theorem vlP_f {k : Nat} {s : VL δ} : (∀ L g, (vlP k s).enc L g = .ptr k 0 :: s.enc L g) ∧ ∀ ρ L xs, (vlP k s).dec ρ L xs = dvlP k s ρ L xs := ⟨fun _ _ => rfl, fun _ _ _ => rfl⟩
theorem vlM_f {k : Nat} {s : VL δ} : (∀ L g, (vlM k s).enc L g = .map k :: s.enc L g) ∧ ∀ ρ L xs, (vlM k s).dec ρ L xs = dvlM k s ρ L xs := ⟨fun _ _ => rfl, fun _ _ _ => rfl⟩
theorem vlF_f {f : FuncId} {c : VL γ} {s : VL δ} : (∀ L g, (vlF f c s).enc L g = .func (.func f) [] (c.enc L g.1) :: s.enc L g.2) ∧ ∀ ρ L xs, (vlF f c s).dec ρ L xs = dvlF f c s ρ L xs := ⟨fun _ _ => rfl, fun _ _ _ => rfl⟩

structure AL (γ : Type) where
  enc : Lens → γ → List AV
  dec : List Nat → Lens → List AObj → List AV → Option γ
  need : Nat
  nb : ∀ L g, nbL need (enc L g)
  ok : ∀ ρ L H n vs g, Cov ρ need n → dec ρ L H vs = some g → CoL H n vs (renL (atN ρ) (enc L g))
def alN : AL Unit where
  enc _ _ := []
  dec _ _ _ := dvlN
  need := 0
  nb _ _ := trivial
  ok ρ L H n vs g _ h := by
    unfold dvlN at h
    split at h
    · exact CoL.nil
    · cases h
def dalT (t : Ty γ) (s : AL δ) (ρ : List Nat) (L : Lens) (H : List AObj) : List AV → Option (γ × δ)
  | x :: xs => (t.dec H x).bind fun y => (s.dec ρ L H xs).bind fun a => some (y, a)
  | [] => none
def alT (t : Ty γ) (s : AL δ) : AL (γ × δ) where
  enc L g := t.enc g.1 :: s.enc L g.2
  dec := dalT t s
  need := s.need
  nb L g := ⟨t.nb _ _, s.nb L g.2⟩
  ok ρ L H n vs g hc h := by
    unfold dalT at h
    split at h
    · simp only [Option.bind_eq_some_iff, Option.some.injEq] at h
      obtain ⟨y, hy, a, ha, rfl⟩ := h
      refine CoL.cons ?_ (s.ok ρ L H n _ _ hc ha)
      rw [ren_of_nb _ _ (t.nb 0 y)]
      exact t.ok H n _ _ hy
    · cases h
def dalC (c : Cel γ) (k : Nat) (s : AL δ) (ρ : List Nat) (L : Lens) (H : List AObj) (xs : List AV) : Option (γ × δ) :=
  (c.dec H (xs.take k)).bind fun y => (s.dec ρ L H (xs.drop k)).bind fun a => some (y, a)
theorem CoL1.append' {H : List AObj} {n : Nat} : ∀ {xs ys us vs : List AV}, CoL1 H n xs ys → CoL H n us vs → CoL H n (xs ++ us) (ys ++ vs)
  | [], _, _, _, rfl, h => h
  | _ :: _, _, _, _, ⟨y, zs, rfl, h, hs⟩, h2 => ⟨y, zs ++ _, rfl, .inl h, CoL1.append' hs h2⟩
def alC (c : Cel γ) (k : Nat) (s : AL δ) : AL (γ × δ) where
  enc L g := c.enc g.1 ++ s.enc L g.2
  dec := dalC c k s
  need := s.need
  nb L g := nbL_append (c.nb _ _) (s.nb L g.2)
  ok ρ L H n vs g hc h := by
    unfold dalC at h
    simp only [Option.bind_eq_some_iff, Option.some.injEq] at h
    obtain ⟨y, hy, a, ha, rfl⟩ := h
    rw [renL_append, renL_of_nb _ _ (c.nb 0 y), ← List.take_append_drop k vs]
    exact CoL1.append' (c.ok H n _ _ hy) (s.ok ρ L H n _ _ hc ha)
def dalP (k : Nat) (s : AL δ) (ρ : List Nat) (L : Lens) (H : List AObj) : List AV → Option δ
  | .ptr l off :: xs => bif decide (off = 0 ∧ ρ[k]? = some l) then s.dec ρ L H xs else none
  | _ => none
def alP (k : Nat) (s : AL δ) : AL δ where
  enc L g := .ptr k 0 :: s.enc L g
  dec := dalP k s
  need := max (k + 1) s.need
  nb L g := ⟨show k < _ by omega, nbL_le (by omega) _ (s.nb L g)⟩
  ok ρ L H n vs g hv h := by
    unfold dalP at h
    split at h
    · rename_i l off xs
      cases hc : decide (off = 0 ∧ ρ[k]? = some l) with
      | false => simp [hc] at h
      | true =>
        simp only [hc, cond_true] at h
        obtain ⟨rfl, hc'⟩ := of_decide_eq_true hc
        refine CoL.cons ?_ (s.ok ρ L H n _ _ (hv.mono (by omega)) h)
        have hl := hv.lt k (by omega)
        simp only [AV.ren]
        rw [atN_of hc'] at hl ⊢
        exact Co.same hl
    · cases h
def dalM (k : Nat) (s : AL δ) (ρ : List Nat) (L : Lens) (H : List AObj) : List AV → Option δ
  | .map l :: xs => bif decide (ρ[k]? = some l) then s.dec ρ L H xs else none
  | _ => none
def alM (k : Nat) (s : AL δ) : AL δ where
  enc L g := .map k :: s.enc L g
  dec := dalM k s
  need := max (k + 1) s.need
  nb L g := ⟨show k < _ by omega, nbL_le (by omega) _ (s.nb L g)⟩
  ok ρ L H n vs g hv h := by
    unfold dalM at h
    split at h
    · rename_i l xs
      cases hc : decide (ρ[k]? = some l) with
      | false => simp [hc] at h
      | true =>
        simp only [hc, cond_true] at h
        have hc' := of_decide_eq_true hc
        refine CoL.cons ?_ (s.ok ρ L H n _ _ (hv.mono (by omega)) h)
        have hl := hv.lt k (by omega)
        simp only [AV.ren]
        rw [atN_of hc'] at hl ⊢
        exact Co.same hl
    · cases h
def dalA (k : Nat) (s : AL δ) (ρ : List Nat) (L : Lens) (H : List AObj) : List AV → Option δ
  | .acc l m :: xs => bif decide (m = L k ∧ ρ[k]? = some l) then s.dec ρ L H xs else none
  | _ => none
def alA (k : Nat) (s : AL δ) : AL δ where
  enc L g := .acc k (L k) :: s.enc L g
  dec := dalA k s
  need := max (k + 1) s.need
  nb L g := ⟨show k < _ by omega, nbL_le (by omega) _ (s.nb L g)⟩
  ok ρ L H n vs g hv h := by
    unfold dalA at h
    split at h
    · rename_i l m xs
      cases hc : decide (m = L k ∧ ρ[k]? = some l) with
      | false => simp [hc] at h
      | true =>
        simp only [hc, cond_true] at h
        obtain ⟨rfl, hc'⟩ := of_decide_eq_true hc
        refine CoL.cons ?_ (s.ok ρ L H n _ _ (hv.mono (by omega)) h)
        have hl := hv.lt k (by omega)
        simp only [AV.ren]
        rw [atN_of hc'] at hl ⊢
        exact Co.same hl
    · cases h
def dalF (f : FuncId) (c : VL γ) (s : AL δ) (ρ : List Nat) (L : Lens) (H : List AObj) : List AV → Option (γ × δ)
  | .func (.func f') [] cs :: xs => bif decide (f' = f) then (c.dec ρ L cs).bind fun y => (s.dec ρ L H xs).bind fun a => some (y, a) else none
  | _ => none
def alF (f : FuncId) (c : VL γ) (s : AL δ) : AL (γ × δ) where
  enc L g := .func (.func f) [] (c.enc L g.1) :: s.enc L g.2
  dec := dalF f c s
  need := max c.need s.need
  nb L g := ⟨⟨trivial, nbL_le (by omega) _ (c.nb L g.1)⟩, nbL_le (by omega) _ (s.nb L g.2)⟩
  ok ρ L H n vs g hv h := by
    unfold dalF at h
    split at h
    · rename_i f' cs xs
      cases hc : decide (f' = f) with
      | false => simp [hc] at h
      | true =>
        simp only [hc, cond_true, Option.bind_eq_some_iff, Option.some.injEq] at h
        obtain ⟨y, hy, a, ha, rfl⟩ := h
        obtain rfl := of_decide_eq_true hc
        refine CoL.cons ?_ (s.ok ρ L H n _ _ (hv.mono (by omega)) ha)
        simp only [AV.ren, renL]
        exact Co.sub (c.ok ρ L _ _ hy).func ⟨trivial, nbL_ren (hv.mono (a := c.need) (by omega)).lt _ (c.nb L y)⟩
    · cases h
def dalZ (s : AL δ) (ρ : List Nat) (L : Lens) (H : List AObj) : List AV → Option δ
  | _ :: xs => s.dec ρ L H xs
  | _ => none
def alZ (s : AL δ) : AL δ where
  enc L g := .any :: s.enc L g
  dec := dalZ s
  need := s.need
  nb L g := ⟨trivial, s.nb L g⟩
  ok ρ L H n vs g hv h := by
    unfold dalZ at h
    split at h
    · exact CoL.cons Co.any (s.ok ρ L H n _ _ hv h)
    · cases h
theorem alN_f : (∀ L g, alN.enc L g = []) ∧ (∀ ρ L H xs, alN.dec ρ L H xs = dvlN xs) ∧ alN.need = 0 := ⟨fun _ _ => rfl, fun _ _ _ _ => rfl, rfl⟩
theorem alT_f {t : Ty γ} {s : AL δ} : (∀ L g, (alT t s).enc L g = t.enc g.1 :: s.enc L g.2) ∧ (∀ ρ L H xs, (alT t s).dec ρ L H xs = dalT t s ρ L H xs) ∧ (alT t s).need = s.need := ⟨fun _ _ => rfl, fun _ _ _ _ => rfl, rfl⟩
theorem alC_f {c : Cel γ} {k : Nat} {s : AL δ} : (∀ L g, (alC c k s).enc L g = c.enc g.1 ++ s.enc L g.2) ∧ (∀ ρ L H xs, (alC c k s).dec ρ L H xs = dalC c k s ρ L H xs) ∧ (alC c k s).need = s.need := ⟨fun _ _ => rfl, fun _ _ _ _ => rfl, rfl⟩
theorem alP_f {k : Nat} {s : AL δ} : (∀ L g, (alP k s).enc L g = .ptr k 0 :: s.enc L g) ∧ (∀ ρ L H xs, (alP k s).dec ρ L H xs = dalP k s ρ L H xs) ∧ (alP k s).need = max (k + 1) s.need := ⟨fun _ _ => rfl, fun _ _ _ _ => rfl, rfl⟩
theorem alM_f {k : Nat} {s : AL δ} : (∀ L g, (alM k s).enc L g = .map k :: s.enc L g) ∧ (∀ ρ L H xs, (alM k s).dec ρ L H xs = dalM k s ρ L H xs) ∧ (alM k s).need = max (k + 1) s.need := ⟨fun _ _ => rfl, fun _ _ _ _ => rfl, rfl⟩
theorem alA_f {k : Nat} {s : AL δ} : (∀ L g, (alA k s).enc L g = .acc k (L k) :: s.enc L g) ∧ (∀ ρ L H xs, (alA k s).dec ρ L H xs = dalA k s ρ L H xs) ∧ (alA k s).need = max (k + 1) s.need := ⟨fun _ _ => rfl, fun _ _ _ _ => rfl, rfl⟩
theorem alF_f {f : FuncId} {c : VL γ} {s : AL δ} : (∀ L g, (alF f c s).enc L g = .func (.func f) [] (c.enc L g.1) :: s.enc L g.2) ∧ (∀ ρ L H xs, (alF f c s).dec ρ L H xs = dalF f c s ρ L H xs) ∧ (alF f c s).need = max c.need s.need := ⟨fun _ _ => rfl, fun _ _ _ _ => rfl, rfl⟩
theorem alZ_f {s : AL δ} : (∀ L g, (alZ s).enc L g = .any :: s.enc L g) ∧ (∀ ρ L H xs, (alZ s).dec ρ L H xs = dalZ s ρ L H xs) ∧ (alZ s).need = s.need := ⟨fun _ _ => rfl, fun _ _ _ _ => rfl, rfl⟩
end specs
end Go.Abs
namespace Go.Abs

theorem objNb_le' {n m : Nat} (h : n ≤ m) (x : AObj) (k : objNb n x) : objNb m x := by
  cases x with
  | cells cs => exact nbL_le h _ k
  | acc imm sz rows => exact nbR_le h _ k
  | map es => exact fun p hp => ⟨AV.nb_le h _ (k p hp).1, AV.nb_le h _ (k p hp).2⟩
  | loop lk slots st pend => exact nbL_le h _ k
  | dead => trivial
section objs
variable {α β γ δ : Type}
structure OG (γ : Type) where
  enc : Lens → γ → AObj
  dec : List Nat → Lens → List AObj → AObj → Option γ
  len : γ → Nat
  need : Nat
  nb : ∀ L g, objNb need (enc L g)
  ok : ∀ ρ L H n x g, Cov ρ need n → dec ρ L H x = some g → CoObj H n x ((enc L g).ren (atN ρ))
  lenOK : ∀ ρ L H x g, dec ρ L H x = some g → len g = (accLen (some x)).getD 0
theorem mapO_length {α β : Type} {f : α → Option β} : ∀ {xs : List α} {ys : List β}, mapO f xs = some ys → ys.length = xs.length
  | [], ys, h => by simp only [mapO, Option.some.injEq] at h; subst h; rfl
  | x :: xs, ys, h => by
    simp only [mapO, Option.bind_eq_some_iff, Option.some.injEq] at h
    obtain ⟨y, hy, zs, hz, rfl⟩ := h
    simp [mapO_length hz]
def ogA (imm : Bool) (r : Row α) : OG (List α) where
  enc _ xs := .acc imm r.sz (mp r.enc xs)
  dec _ _ _ := daT imm r
  len xs := xs.length
  need := 0
  nb L g := nbR_rows g
  ok ρ L H n x g _ h := by
    have := (oaT imm r).ok H n x g h
    rw [show (AObj.acc imm r.sz (mp r.enc g)).ren (atN ρ) = .acc imm r.sz (mp r.enc g) from (oaT imm r).ren _ g]
    exact this
  lenOK ρ L H x g h := by
    unfold daT at h
    split at h
    · split at h
      · exact mapO_length h
      · cases h
    · cases h
def docC (c : AL γ) (ρ : List Nat) (L : Lens) (H : List AObj) : AObj → Option γ
  | .cells cs => c.dec ρ L H cs
  | _ => none
def ogC (c : AL γ) : OG γ where
  enc L g := .cells (c.enc L g)
  dec := docC c
  len _ := 0
  need := c.need
  nb L g := c.nb L g
  ok ρ L H n x g hv h := by
    unfold docC at h
    split at h
    · exact .inr (.inr (.inl ⟨_, _, rfl, rfl, c.ok ρ L H n _ _ hv h⟩))
    · cases h
  lenOK ρ L H x g h := by
    unfold docC at h
    split at h
    · rfl
    · cases h
theorem ogA_f {imm : Bool} {r : Row α} : (∀ L g, (ogA imm r).enc L g = .acc imm r.sz (mp r.enc g)) ∧ (∀ ρ L H x, (ogA imm r).dec ρ L H x = daT imm r x) ∧ (∀ g, (ogA imm r).len g = g.length) ∧ (ogA imm r).need = 0 := ⟨fun _ _ => rfl, fun _ _ _ _ => rfl, fun _ => rfl, rfl⟩
theorem ogC_f {c : AL γ} : (∀ L g, (ogC c).enc L g = .cells (c.enc L g)) ∧ (∀ ρ L H x, (ogC c).dec ρ L H x = docC c ρ L H x) ∧ (∀ g, (ogC c).len g = 0) ∧ (ogC c).need = c.need := ⟨fun _ _ => rfl, fun _ _ _ _ => rfl, fun _ => rfl, rfl⟩

structure OL (β : Type) where
  enc : Lens → β → List AObj
  dec : List Nat → Lens → List AObj → List AObj → Option β
  lens : β → Lens
  size : Nat
  need : Nat
  sz : ∀ L b, (enc L b).length = size
  nb : ∀ L b, ∀ y ∈ enc L b, objNb need y
  ok : ∀ ρ L H n xs b, Cov ρ need n → dec ρ L H xs = some b → xs.length = size ∧ ∀ (i : Nat) (y : AObj), (enc L b)[i]? = some y → ∃ x, xs[i]? = some x ∧ CoObj H n x (y.ren (atN ρ))
  szOK : ∀ ρ L H xs b, dec ρ L H xs = some b → xs.length = size
  lensOK : ∀ ρ L H xs b, dec ρ L H xs = some b → ∀ k, lens b k = (accLen xs[k]?).getD 0
def dolN : List AObj → Option Unit
  | [] => some ()
  | _ => none
def olN : OL Unit where
  enc _ _ := []
  dec _ _ _ := dolN
  lens _ _ := 0
  size := 0
  need := 0
  sz _ _ := rfl
  nb _ _ := by simp
  ok ρ L H n xs b _ h := by
    unfold dolN at h
    split at h
    · exact ⟨rfl, by simp⟩
    · cases h
  szOK ρ L H xs b h := by
    unfold dolN at h
    split at h
    · rfl
    · cases h
  lensOK ρ L H xs b h k := by
    unfold dolN at h
    split at h
    · rfl
    · cases h
def dolC (o : OG γ) (s : OL β) (ρ : List Nat) (L : Lens) (H : List AObj) : List AObj → Option (γ × β)
  | x :: xs => (o.dec ρ L H x).bind fun y => (s.dec ρ L H xs).bind fun b => some (y, b)
  | [] => none
def lolC (a : Nat) (f : Lens) : Lens
  | 0 => a
  | k + 1 => f k
def olC (o : OG γ) (s : OL β) : OL (γ × β) where
  enc L b := o.enc L b.1 :: s.enc L b.2
  dec := dolC o s
  lens b := lolC (o.len b.1) (s.lens b.2)
  size := s.size + 1
  need := max o.need s.need
  sz L b := by rw [List.length_cons, s.sz]
  nb L b y hy := by
    simp only [List.mem_cons] at hy
    rcases hy with rfl | hy
    · exact objNb_le' (by omega) _ (o.nb L _)
    · exact objNb_le' (by omega) _ (s.nb L _ y hy)
  ok ρ L H n xs b hv h := by
    unfold dolC at h
    split at h
    · rename_i x xs
      simp only [Option.bind_eq_some_iff, Option.some.injEq] at h
      obtain ⟨y, hy, b, hb, rfl⟩ := h
      obtain ⟨h1, h2⟩ := s.ok ρ L H n _ _ (hv.mono (by omega)) hb
      refine ⟨by rw [List.length_cons, h1], fun i z hz => ?_⟩
      cases i with
      | zero => simp at hz; subst hz; exact ⟨x, by simp, o.ok ρ L H n _ _ (hv.mono (by omega)) hy⟩
      | succ i => simp at hz; obtain ⟨q, hq, hc⟩ := h2 i z hz; exact ⟨q, by simpa using hq, hc⟩
    · cases h
  szOK ρ L H xs b h := by
    unfold dolC at h
    split at h
    · simp only [Option.bind_eq_some_iff, Option.some.injEq] at h
      obtain ⟨y, hy, b, hb, rfl⟩ := h
      rw [List.length_cons, s.szOK _ _ _ _ _ hb]
    · cases h
  lensOK ρ L H xs b h k := by
    unfold dolC at h
    split at h
    · simp only [Option.bind_eq_some_iff, Option.some.injEq] at h
      obtain ⟨y, hy, b, hb, rfl⟩ := h
      cases k with
      | zero => simp only [lolC, List.getElem?_cons_zero]; exact o.lenOK ρ L H _ _ hy
      | succ k => simp only [lolC, List.getElem?_cons_succ]; exact s.lensOK ρ L H _ _ hb k
    · cases h
theorem olN_f : (∀ L b, olN.enc L b = []) ∧ (∀ ρ L H xs, olN.dec ρ L H xs = dolN xs) ∧ (∀ b k, olN.lens b k = 0) ∧ olN.size = 0 ∧ olN.need = 0 := ⟨fun _ _ => rfl, fun _ _ _ _ => rfl, fun _ _ => rfl, rfl, rfl⟩
theorem olC_f {o : OG γ} {s : OL β} : (∀ L b, (olC o s).enc L b = o.enc L b.1 :: s.enc L b.2) ∧ (∀ ρ L H xs, (olC o s).dec ρ L H xs = dolC o s ρ L H xs) ∧ (∀ b, (olC o s).lens b = lolC (o.len b.1) (s.lens b.2)) ∧ (olC o s).size = s.size + 1 ∧ (olC o s).need = max o.need s.need := ⟨fun _ _ => rfl, fun _ _ _ _ => rfl, fun _ => rfl, rfl, rfl⟩
end objs
end Go.Abs
namespace Go.Abs

inductive Loc where
  | arg (i : Nat) (cs : List Nat)
  | obj (k c : Nat) (cs : List Nat)
def nameV : AV → Option Nat
  | .ptr l _ => some l
  | .acc l _ => some l
  | .map l => some l
  | _ => none
def down : List Nat → AV → Option AV
  | [], v => some v
  | i :: is, .func _ _ cap => match cap[i]? with
    | some u => down is u
    | none => none
  | _ :: _, _ => none
def cellAt (c : Nat) : Option AObj → Option AV
  | some (.cells xs) => xs[c]?
  | some (.loop _ xs _ _) => xs[c]?
  | _ => none
def locN (args : List AV) (H : List AObj) (ρ : List Nat) : Loc → Option Nat
  | .arg i cs => (args[i]?).bind fun v => (down cs v).bind nameV
  | .obj k c cs => (ρ[k]?).bind fun l => (cellAt c H[l]?).bind fun v => (down cs v).bind nameV
def locs (args : List AV) (H : List AObj) : List Loc → List Nat → Option (List Nat)
  | [], ρ => some ρ
  | p :: ps, ρ => (locN args H ρ p).bind fun l => locs args H ps (ρ ++ [l])
def lnOf (xs : List AObj) (k : Nat) : Nat := (accLen xs[k]?).getD 0

section entX
variable {α β α' β' : Type}
def entX0 (base : List Nat) (pos : List Loc) (os : OL β) (as : AL α) (os' : OL β') (rs : AL α') (F : β → α → Option (β' × α')) : Ent := fun args H =>
  (locs args H pos base).bind fun ρ => bif nodupB ρ && (decide (os.need ≤ ρ.length) && (decide (as.need ≤ ρ.length) && decide (ρ.length ≤ os'.size))) then
    (mapO (getAt H) ρ).bind fun xs => (os.dec ρ (lnOf xs) H xs).bind fun b => (as.dec ρ (lnOf xs) H args).bind fun a => (F b a).bind fun r =>
      some ((tupOf (rs.enc (os'.lens r.1) r.2)).ren (backTo ρ H.length), heapBack ρ H (os'.enc (os'.lens r.1) r.1)) else none
def entX (pos : List Loc) (os : OL β) (as : AL α) (os' : OL β') (rs : AL α') (F : β → α → Option (β' × α')) : Ent := entX0 [] pos os as os' rs F
noncomputable def entY (pos : List Loc) (os : OL β) (as : AL α) (os' : OL β') (rs : AL α') (F : β → α → Option (β' × α')) (l : Nat) : Ent := fun args H =>
  match H[l]? with
  | some (.loop k _ _ _) => pcond (args.length = k.ps.size) (entX0 [l] pos os as os' rs F args H)
  | _ => none

end entX

section outX
variable {α β γ : Type}
def outL (xs : List AV) (pos : List Loc) (base : List Nat) (low : Nat) (os : OL β) (s : AL α) (σ : AState) : Option (β × α) :=
  (locs xs σ.heap pos base).bind fun ρ => bif nodupB ρ && ((σ.low == low) && (decide (low ≤ os.size) && (decide (os.need ≤ os.size) && decide (s.need ≤ os.size)))) then
    (mapO (getAt σ.heap) ρ).bind fun ys => (os.dec ρ (lnOf ys) σ.heap ys).bind fun b => (s.dec ρ (lnOf ys) σ.heap xs).bind fun a => some (b, a) else none
end outX
end Go.Abs
namespace Go.Abs
theorem max_le_dec {a b c : Nat} : decide (max a b ≤ c) = (decide (a ≤ c) && decide (b ≤ c)) := by
  rw [Bool.eq_iff_iff]
  simp only [decide_eq_true_eq, Bool.and_eq_true]
  exact Nat.max_le
theorem lnOf_def {xs : List AObj} {k : Nat} : lnOf xs k = (accLen xs[k]?).getD 0 := rfl
theorem accLen_f : (∀ i s r, accLen (some (.acc i s r)) = some r.length) ∧ (∀ c, accLen (some (.cells c)) = none) ∧ (∀ e, accLen (some (.map e)) = none) ∧ accLen (some .dead) = none ∧ accLen none = none := ⟨fun _ _ _ => rfl, fun _ => rfl, fun _ => rfl, rfl, rfl⟩
theorem lolC_f {a : Nat} {f : Lens} : lolC a f 0 = a ∧ ∀ k, lolC a f (k + 1) = f k := ⟨rfl, fun _ => rfl⟩
theorem lolC_1 {a : Nat} {f : Lens} : lolC a f 1 = f 0 := rfl
theorem lolC_2 {a : Nat} {f : Lens} : lolC a f 2 = f 1 := rfl
theorem lolC_3 {a : Nat} {f : Lens} : lolC a f 3 = f 2 := rfl
theorem lolC_4 {a : Nat} {f : Lens} : lolC a f 4 = f 3 := rfl
theorem lolC_5 {a : Nat} {f : Lens} : lolC a f 5 = f 4 := rfl
theorem lolC_6 {a : Nat} {f : Lens} : lolC a f 6 = f 5 := rfl
theorem vlN_n : vlN.need = 0 := rfl
theorem vlT_n {α β : Type} {t : Ty α} {s : VL β} : (vlT t s).need = s.need := rfl
theorem vlP_n {β : Type} {k : Nat} {s : VL β} : (vlP k s).need = max (k + 1) s.need := rfl
theorem vlM_n {β : Type} {k : Nat} {s : VL β} : (vlM k s).need = max (k + 1) s.need := rfl
theorem vlF_n {α β : Type} {f : FuncId} {c : VL α} {s : VL β} : (vlF f c s).need = max c.need s.need := rfl
attribute [go_sem] vlN_n vlT_n vlP_n vlM_n vlF_n vlN_f vlT_f vlP_f vlM_f vlF_f alN_f alT_f alC_f alP_f alM_f alA_f alF_f alZ_f ogA_f ogC_f olN_f olC_f dvlN dvlT dvlP dvlM dvlF dalT dalC dalP dalM dalA dalF dalZ docC dolN dolC entX locs locN nameV down cellAt lnOf_def accLen_f Option.getD_some Option.getD_none lolC_f lolC_1 lolC_2 lolC_3 lolC_4 lolC_5 lolC_6 max_le_dec Option.some.injEq
end Go.Abs
namespace Go.Abs

def stJ (lk : LoopC) (j : Int) : LoopState := stP (pendOf lk.js j)
theorem stJ_zero {lk : LoopC} : stJ lk 0 = .ready := rfl

section ogL
variable {γ β : Type}
noncomputable def dogL (lk : LoopC) (c : AL γ) (ρ : List Nat) (L : Lens) (H : List AObj) : AObj → Option (γ × Int)
  | .loop lk' slots st j => pcond (lk' = lk ∧ st = stJ lk j) ((c.dec ρ L H slots).bind fun g => some (g, j))
  | _ => none
noncomputable def ogL (lk : LoopC) (c : AL γ) : OG (γ × Int) where
  enc L g := .loop lk (c.enc L g.1) (stJ lk g.2) g.2
  dec := dogL lk c
  len _ := 0
  need := c.need
  nb L g := c.nb L g.1
  ok ρ L H n x g hv h := by
    unfold dogL at h
    split at h
    · simp only [pcond_some, Option.bind_eq_some_iff, Option.some.injEq] at h
      obtain ⟨⟨rfl, rfl⟩, y, hy, rfl⟩ := h
      exact .inr (.inr (.inr (.inr ⟨_, _, _, _, _, rfl, rfl, c.ok ρ L H n _ _ hv hy⟩)))
    · cases h
  lenOK ρ L H x g h := by
    unfold dogL at h
    split at h
    · rfl
    · cases h
noncomputable def dogL0 (lk : LoopC) (c : AL γ) (ρ : List Nat) (L : Lens) (H : List AObj) : AObj → Option γ
  | .loop lk' slots st j => bif j == 0 then pcond (lk' = lk ∧ st = stJ lk j) (c.dec ρ L H slots) else none
  | _ => none
noncomputable def ogL0 (lk : LoopC) (c : AL γ) : OG γ where
  enc L g := .loop lk (c.enc L g) .ready 0
  dec := dogL0 lk c
  len _ := 0
  need := c.need
  nb L g := c.nb L g
  ok ρ L H n x g hv h := by
    unfold dogL0 at h
    split at h
    · rename_i lk' slots st j
      cases hj : j == 0 with
      | false => rw [hj] at h; cases h
      | true =>
        rw [hj, cond_true] at h
        have hj' : j = 0 := by simpa using hj
        subst hj'
        simp only [pcond_some] at h
        obtain ⟨⟨rfl, rfl⟩, hy⟩ := h
        exact .inr (.inr (.inr (.inr ⟨_, _, _, _, _, rfl, rfl, c.ok ρ L H n _ _ hv hy⟩)))
    · cases h
  lenOK ρ L H x g h := by
    unfold dogL0 at h
    split at h
    · rfl
    · cases h
theorem dogL_f {lk lk' : LoopC} {c : AL γ} {ρ : List Nat} {L : Lens} {H : List AObj} {s : List AV} {st : LoopState} {j : Int} : dogL lk c ρ L H (.loop lk' s st j) = pcond (lk' = lk ∧ st = stJ lk j) ((c.dec ρ L H s).bind fun g => some (g, j)) := rfl
theorem dogL0_f {lk lk' : LoopC} {c : AL γ} {ρ : List Nat} {L : Lens} {H : List AObj} {s : List AV} {st : LoopState} {j : Int} : dogL0 lk c ρ L H (.loop lk' s st j) = bif j == 0 then pcond (lk' = lk ∧ st = stJ lk j) (c.dec ρ L H s) else none := rfl
theorem ogL_f {lk : LoopC} {c : AL γ} : (∀ L g, (ogL lk c).enc L g = .loop lk (c.enc L g.1) (stJ lk g.2) g.2) ∧ (∀ ρ L H x, (ogL lk c).dec ρ L H x = dogL lk c ρ L H x) ∧ (∀ g, (ogL lk c).len g = 0) ∧ (ogL lk c).need = c.need := ⟨fun _ _ => rfl, fun _ _ _ _ => rfl, fun _ => rfl, rfl⟩
theorem ogL0_f {lk : LoopC} {c : AL γ} : (∀ L g, (ogL0 lk c).enc L g = .loop lk (c.enc L g) .ready 0) ∧ (∀ ρ L H x, (ogL0 lk c).dec ρ L H x = dogL0 lk c ρ L H x) ∧ (∀ g, (ogL0 lk c).len g = 0) ∧ (ogL0 lk c).need = c.need := ⟨fun _ _ => rfl, fun _ _ _ _ => rfl, fun _ => rfl, rfl⟩
end ogL

def numJ : List (Int × Code) → AExit → Int
  | (k, .ret) :: _, .ret => k
  | (k, .exit n) :: t, .exit m => bif n == m then k else numJ t (.exit m)
  | _ :: t, e => numJ t e
  | [], _ => 0

section outRd
variable {β : Type}
noncomputable def outR2 (js : List (Int × Code)) (pos : List Loc) (base : List Nat) (low : Nat) (os : OL β) (e : AExit) (σ : AState) : Option AObj → Option (β × (Bool × Unit))
  | some (.loop lk sl .busy 0) => pcond (jumpE e = some (pendOf lk.js (numJ js e))) (outL [.bool (pendOf lk.js (numJ js e)).isNone] pos base low os (alT tyB alN) { σ with heap := σ.heap.set 0 (.loop lk sl (stJ lk (numJ js e)) (numJ js e)) })
  | _ => none
noncomputable def outRd (js : List (Int × Code)) (pos : List Loc) (base : List Nat) (low : Nat) (os : OL β) (e : AExit) (σ : AState) : Option (β × (Bool × Unit)) := outR2 js pos base low os e σ σ.heap[0]?
theorem outR2_f {js : List (Int × Code)} {pos : List Loc} {base : List Nat} {low : Nat} {os : OL β} {e : AExit} {σ : AState} {lk : LoopC} {sl : List AV} : outR2 js pos base low os e σ (some (.loop lk sl .busy 0)) =
    pcond (jumpE e = some (pendOf lk.js (numJ js e))) (outL [.bool (pendOf lk.js (numJ js e)).isNone] pos base low os (alT tyB alN) { σ with heap := σ.heap.set 0 (.loop lk sl (stJ lk (numJ js e)) (numJ js e)) }) := rfl
theorem export_of_imp {σ : AState} {x r : AV} {H' : List AObj} (h : Imp ⟨[x], σ.heap, σ.low⟩ ⟨[r], H', σ.low⟩) : Export σ x r H' := by
  intro C φ a w S v hv
  obtain ⟨φ', S'⟩ := h C φ { tmps := #[v], defers := a.defers } w { S with slots := ⟨v, [], rfl, hv, rfl⟩ }
  obtain ⟨v', _, e, hr, _⟩ := S'.slots
  simp only [List.cons.injEq] at e
  obtain ⟨rfl, _⟩ := e
  exact ⟨φ', { S' with slots := rfl, defers := DefOK.nil }, hr⟩
end outRd

section rules
variable {R : Type} {M : Mach R} {k : List Kt} {σ : AState}
end rules
theorem renObj_L {τ : Nat → Nat} {lk : LoopC} {s : List AV} {st : LoopState} {j : Int} : (AObj.loop lk s st j).ren τ = .loop lk (renL τ s) st j := rfl
theorem accLen_L {lk : LoopC} {s : List AV} {st : LoopState} {j : Int} : accLen (some (.loop lk s st j)) = none := rfl
theorem cellAt_f {c : Nat} : (∀ xs, cellAt c (some (.cells xs)) = xs[c]?) ∧ (∀ lk xs st j, cellAt c (some (.loop lk xs st j)) = xs[c]?) := ⟨fun _ => rfl, fun _ _ _ _ => rfl⟩
theorem jumpE_f : jumpE .normal = some none ∧ jumpE .ret = some (some .ret) ∧ ∀ id, jumpE (.exit id) = some (some (.exit id)) := ⟨rfl, rfl, fun _ => rfl⟩
theorem numJ_f : (∀ k t, numJ ((k, .ret) :: t) .ret = k) ∧ (∀ k n t, numJ ((k, .exit n) :: t) .ret = numJ t .ret) ∧ (∀ k t m, numJ ((k, .ret) :: t) (.exit m) = numJ t (.exit m)) ∧ (∀ k n t m, numJ ((k, .exit n) :: t) (.exit m) = bif n == m then k else numJ t (.exit m)) ∧
    (∀ js, numJ js .normal = 0) ∧ (∀ e, numJ [] e = 0) :=
  ⟨fun _ _ => rfl, fun _ _ _ => rfl, fun _ _ _ => rfl, fun _ _ _ _ => rfl, fun js => by induction js with | nil => rfl | cons x t ih => obtain ⟨k, c⟩ := x; cases c <;> exact ih, fun _ => rfl⟩
noncomputable def entYo {α β α' β' : Type} (pos : List Loc) (os : OL β) (as : AL α) (os' : OL β') (rs : AL α') (F : β → α → Option (β' × α')) (l : Nat) (args : List AV) (H : List AObj) : Option AObj → Option (AV × List AObj)
  | some (.loop k _ _ _) => pcond (args.length = k.ps.size) (entX0 [l] pos os as os' rs F args H)
  | _ => none
theorem entY_o {α β α' β' : Type} {pos : List Loc} {os : OL β} {as : AL α} {os' : OL β'} {rs : AL α'} {F : β → α → Option (β' × α')} {l : Nat} {args : List AV} {H : List AObj} :
    entY pos os as os' rs F l args H = entYo pos os as os' rs F l args H H[l]? := rfl
theorem entYo_f {α β α' β' : Type} {pos : List Loc} {os : OL β} {as : AL α} {os' : OL β'} {rs : AL α'} {F : β → α → Option (β' × α')} {l : Nat} {args : List AV} {H : List AObj} {k : LoopC} {s : List AV} {st : LoopState} {j : Int} :
    entYo pos os as os' rs F l args H (some (.loop k s st j)) = pcond (args.length = k.ps.size) (entX0 [l] pos os as os' rs F args H) := rfl

noncomputable def oLf (zs : List NZ) (H : List AObj) (n : Nat) : AObj → Option AObj
  | .loop lk s st j => pcond (st = stJ lk j) ((zipZ zs H n s).bind fun ds => some (.loop lk ds (stJ lk j) j))
  | _ => none
noncomputable def oL (zs : List NZ) : ZO := ⟨oLf zs, fun H n x y h => by
  unfold oLf at h
  split at h
  · simp only [pcond_some, Option.bind_eq_some_iff, Option.some.injEq] at h
    obtain ⟨rfl, ds, hd, rfl⟩ := h
    exact .inr (.inr (.inr (.inr ⟨_, _, _, _, _, rfl, rfl, zipZ_ok hd⟩)))
  · cases h⟩
theorem oL_f {zs : List NZ} {H : List AObj} {n : Nat} {lk : LoopC} {s : List AV} {st : LoopState} {j : Int} : (oL zs).f H n (.loop lk s st j) = pcond (st = stJ lk j) ((zipZ zs H n s).bind fun ds => some (.loop lk ds (stJ lk j) j)) := rfl
attribute [go_sem] oL_f ogL_f ogL0_f dogL_f dogL0_f outRd outR2_f outL entX0 renObj_L accLen_L cellAt_f jumpE_f numJ_f entY_o entYo_f
end Go.Abs
namespace Go.Abs

def mcB (p : Str × Bool) : AV × AV := (.str (sb p.1), .bool p.2)
theorem mapNb_mp (n : Nat) (xs : List (Str × Bool)) : objNb n (.map (mp mcB xs)) = True := by
  refine eq_true fun p hp => ?_
  rw [mp_eq, List.mem_map] at hp
  obtain ⟨q, _, rfl⟩ := hp
  exact ⟨trivial, trivial⟩

def ddB : AV × AV → Option (Str × Bool)
  | (.str s, .bool b) => some (s.toList, b)
  | _ => none
theorem ddB_ok {p : AV × AV} {q : Str × Bool} (h : ddB p = some q) : p = mcB q := by
  unfold ddB at h
  split at h
  · rename_i s b
    simp only [Option.some.injEq] at h
    subst h
    simp only [mcB, Prod.mk.injEq, AV.str.injEq, and_true]
    obtain ⟨⟨l⟩⟩ := s
    rw [ByteArray.toList_eq]; rfl
  · cases h
theorem mapO_ddB' : ∀ {es : List (AV × AV)} {xs : List (Str × Bool)}, mapO ddB es = some xs → es = xs.map mcB
  | [], xs, h => by simp only [mapO, Option.some.injEq] at h; subst h; rfl
  | p :: es, xs, h => by
    simp only [mapO, Option.bind_eq_some_iff, Option.some.injEq] at h
    obtain ⟨q, hq, ys, hys, rfl⟩ := h
    rw [ddB_ok hq, mapO_ddB' hys]; rfl
theorem mapO_ddB {es : List (AV × AV)} {xs : List (Str × Bool)} (h : mapO ddB es = some xs) : es = mp mcB xs := by rw [mp_eq]; exact mapO_ddB' h
theorem map_ren (τ : Nat → Nat) (xs : List (Str × Bool)) : (AObj.map (mp mcB xs)).ren τ = .map (mp mcB xs) := by
  rw [mp_eq]
  show AObj.map ((xs.map mcB).map _) = _
  congr 1
  rw [List.map_map]
  exact List.map_congr_left fun p _ => by obtain ⟨s, b⟩ := p; rfl
def daM : AObj → Option (List (Str × Bool))
  | .map es => mapO ddB es
  | _ => none
theorem daM_ok {x : AObj} {xs : List (Str × Bool)} (h : daM x = some xs) : x = .map (mp mcB xs) := by
  unfold daM at h
  split at h
  · rw [mapO_ddB h]
  · cases h
def ogM : OG (List (Str × Bool)) where
  enc _ xs := .map (mp mcB xs)
  dec _ _ _ := daM
  len _ := 0
  need := 0
  nb L g := of_eq_true (mapNb_mp 0 g)
  ok ρ L H n x g _ h := by
    rw [daM_ok h]
    rw [map_ren]
    exact .inr (.inl ⟨rfl, of_eq_true (mapNb_mp n g)⟩)
  lenOK ρ L H x g h := by
    rw [daM_ok h]; rfl
theorem ogM_f : (∀ L g, ogM.enc L g = .map (mp mcB g)) ∧ (∀ ρ L H x, ogM.dec ρ L H x = daM x) ∧ (∀ g, ogM.len g = 0) ∧ ogM.need = 0 := ⟨fun _ _ => rfl, fun _ _ _ _ => rfl, fun _ => rfl, rfl⟩

attribute [go_sem] ogM_f map_ren
attribute [go_sem high] mapNb_mp
end Go.Abs
namespace Go.Abs
def Tup (α : Type) : Nat → Type
  | 0 => Unit
  | n + 1 => α × Tup α n
section tup
variable {α : Type}
def tupList : (n : Nat) → Tup α n → List α
  | 0, _ => []
  | n + 1, x => x.1 :: tupList n x.2
def tupEnc (c : α → List AV) : (n : Nat) → Tup α n → List AV
  | 0, _ => []
  | n + 1, x => c x.1 ++ tupEnc c n x.2
def tupDec (d : List AV → Option α) (sz : Nat) : (n : Nat) → List AV → Option (Tup α n)
  | 0, cs => if cs.isEmpty = true then some () else none
  | n + 1, cs => (d (cs.take sz)).bind fun x => (tupDec d sz n (cs.drop sz)).bind fun t => some (x, t)
theorem tupEnc_len {c : α → List AV} {sz : Nat} (h : ∀ x, (c x).length = sz) : ∀ (n : Nat) (v : Tup α n), (tupEnc c n v).length = n * sz
  | 0, _ => by simp [tupEnc]
  | n + 1, v => by rw [tupEnc, List.length_append, h, tupEnc_len h n v.2, Nat.succ_mul, Nat.add_comm]
theorem tupNb {c : α → List AV} (h : ∀ n x, nbL n (c x)) (k : Nat) : ∀ (n : Nat) (v : Tup α n), nbL k (tupEnc c n v)
  | 0, _ => trivial
  | n + 1, v => nbL_append (h k v.1) (tupNb h k n v.2)
theorem tupOk {c : Cel α} {H : List AObj} {m sz : Nat} : ∀ {n : Nat} {cs : List AV} {v : Tup α n}, tupDec (c.dec H) sz n cs = some v → CoL1 H m cs (tupEnc c.enc n v)
  | 0, cs, v, h => by
    simp only [tupDec] at h
    split at h
    · rename_i he
      rw [List.isEmpty_iff] at he
      subst he; exact CoL1.nil
    · cases h
  | n + 1, cs, v, h => by
    simp only [tupDec, Option.bind_eq_some_iff] at h
    obtain ⟨x, hx, t, ht, he⟩ := h
    obtain rfl : (x, t) = v := Option.some.inj he
    have := CoL1.append (c.ok H m _ _ hx) (tupOk (c := c) (m := m) ht)
    rw [List.take_append_drop] at this
    exact this
def cA (c : Cel α) (sz n : Nat) : Cel (Tup α n) where
  enc v := tupEnc c.enc n v
  dec H cs := tupDec (c.dec H) sz n cs
  ok H m cs v h := tupOk h
  nb k v := tupNb c.nb k n v
theorem cA_f {c : Cel α} {sz n : Nat} : (∀ v, (cA c sz n).enc v = tupEnc c.enc n v) ∧ ∀ H cs, (cA c sz n).dec H cs = tupDec (c.dec H) sz n cs := ⟨fun _ => rfl, fun _ _ => rfl⟩
end tup
attribute [go_sem] cA_f
end Go.Abs
namespace Go.Abs
section lend
variable {C : Ctx} {φ : Nat → Value} {σ : AState} {a : Act} {w : World}
def toImm : AObj → AObj
  | .acc _ sz rows => .acc true sz rows
  | x => x
theorem Sim.immN (S : Sim C φ σ a w) : ∀ n : Nat, Sim C φ { σ with heap := (σ.heap.take n).map toImm ++ σ.heap.drop n } a w
  | 0 => by simpa using S
  | n + 1 => by
    have ih := Sim.immN S n
    by_cases hn : n < σ.heap.length
    · have hlen : ((σ.heap.take n).map toImm).length = n := by rw [List.length_map, List.length_take]; omega
      have hd := List.drop_eq_getElem_cons hn
      have ht : (σ.heap.take (n + 1)).map toImm = (σ.heap.take n).map toImm ++ [toImm σ.heap[n]] := by
        rw [List.take_succ_eq_append_getElem hn, List.map_append]; rfl
      rw [ht, List.append_assoc, List.singleton_append]
      cases hx : σ.heap[n] with
      | acc imm sz rows =>
        cases imm with
        | true =>
          rw [hd, hx] at ih
          exact ih
        | false =>
          rw [hd, hx] at ih
          have hl : ((σ.heap.take n).map toImm ++ AObj.acc false sz rows :: σ.heap.drop (n + 1))[n]? = some (.acc false sz rows) := by
            rw [List.getElem?_append_right (by omega), hlen, Nat.sub_self]; rfl
          have := Sim.imm hl ih
          rw [show ((σ.heap.take n).map toImm ++ AObj.acc false sz rows :: σ.heap.drop (n + 1)).set n (.acc true sz rows) = (σ.heap.take n).map toImm ++ AObj.acc true sz rows :: σ.heap.drop (n + 1) from by
            rw [List.set_append_right _ _ (by omega), hlen, Nat.sub_self]; rfl] at this
          exact this
      | cells cs => rw [hd, hx] at ih; exact ih
      | map es => rw [hd, hx] at ih; exact ih
      | loop k s t p => rw [hd, hx] at ih; exact ih
      | dead => rw [hd, hx] at ih; exact ih
    · have e1 : σ.heap.take (n + 1) = σ.heap.take n := by rw [List.take_of_length_le (by omega), List.take_of_length_le (by omega)]
      have e2 : σ.heap.drop (n + 1) = σ.heap.drop n := by rw [List.drop_eq_nil_of_le (by omega), List.drop_eq_nil_of_le (by omega)]
      rw [e1, e2]; exact ih
theorem Sim.immAll (S : Sim C φ σ a w) : Sim C φ { σ with heap := σ.heap.map toImm } a w := by
  have := Sim.immN S σ.heap.length
  rwa [List.take_length, List.drop_length, List.append_nil] at this
theorem toImm_muts {x : AObj} {h : Value} {b o : Nat} (hm : (toImm x).muts h b o) : x.muts h b o := by
  cases x with
  | acc imm sz rows =>
    cases imm with
    | true => exact hm
    | false => exact imm_muts hm
  | _ => exact hm
theorem immAll_le (C : Ctx) (φ : Nat → Value) (H : List AObj) (w : World) : (C.env φ H w).Le H.length (C.env φ (H.map toImm) w) := by
  refine Ctx.env_le (by simp) (fun k _ => ⟨rfl, ?_⟩) (fun b o u hm hc => ⟨fun h => hm (h.imp ?_ id), hc⟩)
  · rw [List.getElem?_map]
    cases H[k]? with
    | none => rfl
    | some x => cases x <;> rfl
  · rintro ⟨k, y, hy, hmm⟩
    rw [List.getElem?_map, Option.map_eq_some_iff] at hy
    obtain ⟨x, hx, rfl⟩ := hy
    exact ⟨k, x, hx, toImm_muts hmm⟩
def vwN (H : List AObj) : List AV → Option (List AV)
  | [] => some []
  | .agg cs :: r => (vwL H cs).bind fun p => (vwN H r).bind fun q => some (.agg p.1 :: q)
  | c :: r => (vwL H [c]).bind fun p => (vwN H r).bind fun q => some (p.1 ++ q)
theorem vwN_sound (S : Sim C φ σ a w) : ∀ {cs ds : List AV} {vs : List Value}, vwN σ.heap cs = some ds → RepL (C.env φ σ.heap w) cs vs → RepL (C.env φ σ.heap w) ds vs
  | [], ds, vs, h, r => by simp only [vwN, Option.some.injEq] at h; subst h; exact r
  | c :: cs, ds, vs, h, ⟨u, us, hv, r1, r2⟩ => by
    have other : (vwL σ.heap [c]).bind (fun p => (vwN σ.heap cs).bind fun q => some (p.1 ++ q)) = some ds → RepL (C.env φ σ.heap w) ds vs := by
      intro h
      rw [Option.bind_eq_some_iff] at h
      obtain ⟨p, hp, h⟩ := h
      rw [Option.bind_eq_some_iff] at h
      obtain ⟨q, hq, h⟩ := h
      cases h
      have := vwL_sound (vs := [u]) S (show vwL σ.heap [c] = some (p.1, p.2) from hp) ⟨u, [], rfl, r1, rfl⟩
      have h2 := this.append (vwN_sound S hq r2)
      rw [hv]; exact h2
    cases c with
    | agg xs =>
      simp only [vwN] at h
      rw [Option.bind_eq_some_iff] at h
      obtain ⟨p, hp, h⟩ := h
      rw [Option.bind_eq_some_iff] at h
      obtain ⟨q, hq, h⟩ := h
      cases h
      obtain ⟨ys, hy, rl⟩ := r1
      exact ⟨u, us, hv, ⟨ys, hy, vwL_sound S (show vwL σ.heap xs = some (p.1, p.2) from hp) rl⟩, vwN_sound S hq r2⟩
    | _ => exact other (by simpa only [vwN] using h)
def num1 (l : Nat) : AV → AV
  | .int k n => .int k n
  | .bool b => .bool b
  | .str s => .str s
  | .lst _ _ _ => .acc l 0
  | _ => .any
def num2 (l : Nat) : AV → AV
  | .agg cs => .agg (cs.map (num1 l))
  | x => num1 l x
def num (l : Nat) : AV → AV
  | .tup cs => .tup (cs.map (num2 l))
  | x => num2 l x
def firstC : List AObj → Nat → Option Nat
  | [], _ => none
  | .cells _ :: _, n => some n
  | _ :: r, n => firstC r (n + 1)
theorem firstC_ok : ∀ {H : List AObj} {n l : Nat}, firstC H n = some l → ∃ k cs, l = n + k ∧ H[k]? = some (.cells cs)
  | x :: r, n, l, h => by
    cases x with
    | cells cs => simp only [firstC, Option.some.injEq] at h; exact ⟨0, cs, by omega, rfl⟩
    | _ =>
      obtain ⟨k, cs, e, hk⟩ := firstC_ok (show firstC r (n + 1) = some l from h)
      exact ⟨k + 1, cs, by omega, hk⟩
section
variable {E E' : Env} {l : Nat}
theorem num1_rep (h1 : l < E'.n) (h2 : E'.ln l = none) : ∀ {x : AV} {v : Value}, Rep E x v → Rep E' (num1 l x) v := by
  intro x v h
  cases x with
  | lst t sz rows =>
    obtain ⟨base, cap, hv, _⟩ := h
    exact ⟨h1, ⟨_, _, _, hv⟩, fun k hk => by rw [h2] at hk; cases hk⟩
  | int => exact h
  | bool => exact h
  | str => exact h
  | _ => exact trivial
theorem num1_repL (h1 : l < E'.n) (h2 : E'.ln l = none) : ∀ {xs : List AV} {vs : List Value}, RepL E xs vs → RepL E' (xs.map (num1 l)) vs
  | [], _, h => h
  | _ :: _, _, ⟨u, us, hv, r1, r2⟩ => ⟨u, us, hv, num1_rep h1 h2 r1, num1_repL h1 h2 r2⟩
theorem num2_rep (h1 : l < E'.n) (h2 : E'.ln l = none) {x : AV} {v : Value} (h : Rep E x v) : Rep E' (num2 l x) v := by
  cases x with
  | agg cs => obtain ⟨vs, hv, hr⟩ := h; exact ⟨vs, hv, num1_repL h1 h2 hr⟩
  | _ => exact num1_rep h1 h2 h
theorem num2_repL (h1 : l < E'.n) (h2 : E'.ln l = none) : ∀ {xs : List AV} {vs : List Value}, RepL E xs vs → RepL E' (xs.map (num2 l)) vs
  | [], _, h => h
  | _ :: _, _, ⟨u, us, hv, r1, r2⟩ => ⟨u, us, hv, num2_rep h1 h2 r1, num2_repL h1 h2 r2⟩
theorem num_rep (h1 : l < E'.n) (h2 : E'.ln l = none) {x : AV} {v : Value} (h : Rep E x v) : Rep E' (num l x) v := by
  cases x with
  | tup cs => obtain ⟨vs, hv, hr⟩ := h; exact ⟨vs, hv, num2_repL h1 h2 hr⟩
  | _ => exact num2_rep h1 h2 h
end
noncomputable def entB (e : EntD) : Ent := fun args H => pcond (¬ nbL 0 args) ((firstC H 0).bind fun l => (vwN (H.map toImm) args).bind fun as => (e as).bind fun r => some (num l r, H))
theorem entB_ok {P : Program} {f : FuncId} {e : EntD} (h : EntDOK P f e) : EntOK P f (entB e) := by
  intro args σ r H' he
  unfold entB at he
  have he := (pcond_some.1 he).2
  rw [Option.bind_eq_some_iff] at he
  obtain ⟨l, hl, he⟩ := he
  obtain ⟨k, cs, hk, hl⟩ := firstC_ok hl
  obtain rfl : l = k := by omega
  rw [Option.bind_eq_some_iff] at he
  obtain ⟨as, hv, he⟩ := he
  rw [Option.bind_eq_some_iff] at he
  obtain ⟨q, hq, he⟩ := he
  cases he
  obtain ⟨hen, hnb, hc⟩ := h as q hq
  refine ⟨hen, fun C φ a w hP S vs hr => ?_⟩
  have S' := S.immAll
  have hr' : RepL (C.env φ (σ.heap.map toImm) w) args vs.toList := RepL.mono (immAll_le C φ σ.heap w) _ _ (RepL.nb _ _ hr) hr
  have hd := vwN_sound S' hv hr'
  refine (hc S'.callee φ w hP rfl rfl (fun _ _ h => h) vs (RepL.mono (S'.callee_le φ w) _ _ hnb hd)).mono ?_
  rintro e' w' ⟨r, v, φ', rfl, rfl, rep, hs, hh, hf, ho⟩
  exact ⟨.ret (num l r), φ, σ.heap, ⟨rfl, rfl⟩, S.grown hs hh hf ho, num_rep (List.getElem?_eq_some_iff.1 hl).1 (by show accLen σ.heap[l]? = none; rw [hl]; rfl) rep⟩
end lend
end Go.Abs
namespace Go.Abs
theorem pcond_no {R : Type} {x : Option R} : pcond False x = none := by simp [pcond]
theorem not_nb : (¬ True) = False ∧ (¬ False) = True := ⟨by simp, by simp⟩
theorem nbR_set {n : Nat} {r : List AV} : ∀ {rows : List (List AV)} {i : Nat}, nbR n rows → nbR n (rows.set i r) = (rows.length ≤ i ∨ nbL n r)
  | [], _, _ => eq_true trivial |>.trans (eq_true (.inl (Nat.zero_le _))).symm
  | _ :: _, 0, h => by
    have e : (nbL n r ∧ nbR n _) = nbL n r := propext ⟨fun q => q.1, fun q => ⟨q, h.2⟩⟩
    show (nbL n r ∧ nbR n _) = _
    rw [e]
    exact propext ⟨.inr, fun q => q.elim (fun q => absurd q (Nat.not_succ_le_zero _)) id⟩
  | _ :: rows, i + 1, h => by
    show (nbL n _ ∧ nbR n (rows.set i r)) = _
    rw [nbR_set (rows := rows) (i := i) h.2]
    exact propext ⟨fun q => q.2.imp Nat.succ_le_succ id, fun q => ⟨h.1, q.imp Nat.le_of_succ_le_succ id⟩⟩
theorem pcond_bind {R S : Type} {p : Prop} {x : Option R} {f : R → Option S} : (pcond p x).bind f = pcond p (x.bind f) := by
  unfold pcond
  split <;> rfl
theorem idxA_set {α β : Type} {xs : List α} {r : α} {n : Int} {f : α → Option β} : (idxA (xs.set n.toNat r) n).bind f = bif decide (0 ≤ n) && decide (n.toNat < xs.length) then f r else none := by
  unfold idxA
  by_cases h0 : 0 ≤ n
  · by_cases h1 : n.toNat < xs.length
    · rw [if_pos h0, List.getElem?_set_self h1, decide_eq_true h0, decide_eq_true h1]; rfl
    · rw [if_pos h0, List.getElem?_eq_none (by rw [List.length_set]; omega), decide_eq_true h0, decide_eq_false h1]; rfl
  · rw [if_neg h0, decide_eq_false h0]; rfl
theorem get_set {α β : Type} {xs : List α} {r : α} {i : Nat} {f : α → Option β} : ((xs.set i r)[i]?).bind f = bif decide (i < xs.length) then f r else none := by
  by_cases h1 : i < xs.length
  · rw [List.getElem?_set_self h1, decide_eq_true h1]; rfl
  · rw [List.getElem?_eq_none (by rw [List.length_set]; omega), decide_eq_false h1]; rfl
theorem immF_eq (n : Nat) : immF n = !(n == 26) := rfl
attribute [go_sem] entB vwN toImm num num1 num2 firstC immF_eq pcond_bind or_true idxA_set get_set Bool.not_true Bool.not_false pcond_no not_nb and_false false_and and_true true_and
end Go.Abs
