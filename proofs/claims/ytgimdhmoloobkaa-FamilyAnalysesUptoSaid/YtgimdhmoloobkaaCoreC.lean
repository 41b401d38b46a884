/- Calls that hand over named objects, and get some back. -/
import Derived.Test.YtgimdhmoloobkaaCoreB
import Derived.Attr
import Derived.Laws.StructEq
import Derived.ChangeKeysEq
namespace Go.Abs

def HSim (C : Ctx) (φ : Nat → Value) (H : List AObj) (w : World) : Prop := Sim C φ { slots := [], heap := H, low := H.length } { tmps := #[], defers := [] } w

/-- A function that is handed the objects H (names 0, 1, ..) and these arguments: how it ends, and what has become of the objects; new ones stand behind. -/
def FnG (P : Program) (f : FuncId) (args : List AV) (H : List AObj) (V : AOut → List AObj → Prop) : Prop :=
  enters P f = true ∧ nbL H.length args ∧ (∀ x ∈ H, objNb H.length x) ∧ ∀ (C : Ctx) (φ : Nat → Value) (w : World), C.P = P → C.w0 = w → C.N0 = H.length → (∀ l, l < H.length → C.φ0 l = φ l ∧ C.ln0 l = accLen H[l]?) → (∀ b o, C.M0 b o ↔ Mut φ H b o) →
    HSim C φ H w → ∀ vs : Array Value, RepL (C.env φ H w) args vs.toList →
    Calls P f vs w fun e w' => ∃ o φ' H', V o H' ∧ Sim C φ' { slots := [], heap := H', low := H.length } { tmps := #[], defers := [] } w' ∧ o.rep (C.env φ' H' w') e

def setAll : List AObj → List Nat → List AObj → List AObj
  | H, l :: ls, x :: xs => setAll (H.set l x) ls xs
  | H, _, _ => H

/-- How the callee's names are the caller's. -/
def backTo (ρ : List Nat) (n : Nat) (l : Nat) : Nat := if l < ρ.length then ρ.getD l 0 else n + (l - ρ.length)

/-- The caller's objects behind a call. -/
def heapBack (ρ : List Nat) (H H' : List AObj) : List AObj :=
  setAll H ρ (H'.map (AObj.ren (backTo ρ H.length))) ++ (H'.drop ρ.length).map (AObj.ren (backTo ρ H.length))

theorem setAll_length : ∀ (H : List AObj) (ls : List Nat) (xs : List AObj), (setAll H ls xs).length = H.length
  | _, [], _ => by simp [setAll]
  | _, _ :: _, [] => by simp [setAll]
  | H, l :: ls, x :: xs => by rw [setAll, setAll_length, List.length_set]

theorem setAll_other : ∀ (ls : List Nat) (H : List AObj) (xs : List AObj) (k : Nat), k ∉ ls → (setAll H ls xs)[k]? = H[k]?
  | [], _, _, _, _ => by simp [setAll]
  | _ :: _, _, [], _, _ => by simp [setAll]
  | l :: ls, H, x :: xs, k, h => by
    simp only [List.mem_cons, not_or] at h
    rw [setAll, setAll_other ls _ xs k h.2, List.getElem?_set_ne (fun e => h.1 e.symm)]

theorem setAll_at : ∀ (ls : List Nat) (H : List AObj) (xs : List AObj) (i k : Nat) (x : AObj), ls.Nodup → ls[i]? = some k → xs[i]? = some x → k < H.length → (setAll H ls xs)[k]? = some x
  | [], _, _, _, _, _, _, h, _, _ => by simp at h
  | _ :: _, _, [], _, _, _, _, _, h, _ => by simp at h
  | l :: ls, H, y :: ys, 0, k, x, hnd, h, hx, hk => by
    simp at h hx; subst h hx
    rw [List.nodup_cons] at hnd
    rw [setAll, setAll_other ls _ ys l hnd.1, List.getElem?_set_self hk]
  | l :: ls, H, y :: ys, i + 1, k, x, hnd, h, hx, hk => by
    simp at h hx
    rw [List.nodup_cons] at hnd
    rw [setAll]
    exact setAll_at ls _ ys i k x hnd.2 h hx (by rw [List.length_set]; exact hk)

def posIn : List Nat → Nat → Option Nat
  | [], _ => none
  | x :: xs, k => if x = k then some 0 else (posIn xs k).map (· + 1)

theorem posIn_at : ∀ (ρ : List Nat) (l k : Nat), ρ.Nodup → ρ[l]? = some k → posIn ρ k = some l
  | [], _, _, _, h => by simp at h
  | x :: xs, 0, k, _, h => by simp at h; subst h; simp [posIn]
  | x :: xs, l + 1, k, hnd, h => by
    simp at h
    rw [List.nodup_cons] at hnd
    have hne : x ≠ k := fun e => hnd.1 (e ▸ List.mem_of_getElem? h)
    simp [posIn, hne, posIn_at xs l k hnd.2 h]

theorem posIn_none : ∀ (ρ : List Nat) (k : Nat), k ∉ ρ → posIn ρ k = none
  | [], _, _ => rfl
  | x :: xs, k, h => by
    simp only [List.mem_cons, not_or] at h
    have hne : x ≠ k := fun e => h.1 e.symm
    simp [posIn, hne, posIn_none xs k h.2]

section call
variable {C : Ctx} {φ : Nat → Value} {σ : AState} {a : Act} {w : World}

theorem callA_of_fnG {P : Program} {f : FuncId} {cargs args : List AV} {H : List AObj} {V : AOut → List AObj → Prop} {K : AOut → List AObj → Prop} (h : FnG P f args H V) (ρ : List Nat) (hlen : ρ.length = H.length) (hnd : ρ.Nodup)
    (hargs : SubL cargs (renL (backTo ρ σ.heap.length) args)) (hobj : ∀ (i : Nat) (k : Nat) (x : AObj), ρ[i]? = some k → H[i]? = some x → σ.heap[k]? = some (x.ren (backTo ρ σ.heap.length)))
    (hK : ∀ o H', V o H' → K (o.ren (backTo ρ σ.heap.length)) (heapBack ρ σ.heap H')) : CallA P f cargs σ K := by
  obtain ⟨hent, hnbA, hnbH, hc⟩ := h
  refine ⟨hent, fun C φ a w hP S vs hr => ?_⟩
  -- the callee's context
  let ρf : Nat → Nat := backTo ρ σ.heap.length
  have hρ : ∀ l, l < H.length → ρ[l]? = some (ρf l) := by
    intro l hl
    have hl' : l < ρ.length := by omega
    simp only [ρf, backTo, hl', if_true, List.getD, List.getElem?_eq_getElem hl', Option.getD_some]
  let φc : Nat → Value := fun l => φ (ρf l)
  have hfoot : ∀ (l : Nat) (x : AObj), H[l]? = some x → σ.heap[ρf l]? = some (x.ren ρf) := fun l x hx => hobj l _ x (hρ l (List.getElem?_eq_some_iff.1 hx).1) hx
  have hρlt : ∀ l, l < H.length → ρf l < σ.heap.length := by
    intro l hl
    have := hfoot l H[l] (List.getElem?_eq_getElem hl)
    exact (List.getElem?_eq_some_iff.1 this).1
  have hinj : ∀ l l', l < H.length → l' < H.length → ρf l = ρf l' → l = l' := by
    intro l l' hl hl' he
    have h1 := hρ l hl
    have h2 := hρ l' hl'
    rw [he] at h1
    obtain ⟨i1, e1⟩ := List.getElem?_eq_some_iff.1 h1
    obtain ⟨i2, e2⟩ := List.getElem?_eq_some_iff.1 h2
    exact (List.getElem_inj hnd).1 (by rw [e1, e2])
  have hMsub : ∀ b o, Mut φc H b o → Mut φ σ.heap b o := by
    rintro b o ⟨l, x, hx, hm⟩
    exact ⟨ρf l, _, hfoot l x hx, ren_muts.2 hm⟩
  have hA0 : ∀ b o, ((Mut φ σ.heap b o ∨ C.A b o) ∧ ¬ Mut φc H b o) → b < w.heap.size := by
    rintro b o ⟨⟨l, x, hx, hm⟩ | hA, _⟩
    · exact (S.objs l x hx).block_lt (AObj.block_of_muts hm)
    · exact Nat.lt_of_lt_of_le (C.hA b o hA) S.size
  let C' : Ctx := Ctx.mk C.P w (Mut φc H) (fun b o => (Mut φ σ.heap b o ∨ C.A b o) ∧ ¬ Mut φc H b o) hA0 H.length φc (fun l => accLen H[l]?)
  have hmuEq : ∀ b o, (Mut φc H b o ∨ C'.A b o) ↔ (Mut φ σ.heap b o ∨ C.A b o) := by
    intro b o
    constructor
    · rintro (h | h)
      · exact .inl (hMsub b o h)
      · exact h.1
    · intro h
      by_cases hm : Mut φc H b o
      · exact .inl hm
      · exact .inr ⟨h, hm⟩
  have un : UnLe H.length ρf (C.env φ σ.heap w) (C'.env φc H w) := by
    refine ⟨Nat.le_refl _, fun l hl => ⟨rfl, ?_⟩, fun b o u hm hcell => ⟨fun hh => hm ((hmuEq b o).1 hh), hcell⟩⟩
    simp only [Ctx.env]
    rw [hfoot l H[l] (List.getElem?_eq_getElem hl), ren_accLen, List.getElem?_eq_getElem hl]
  have hblk : ∀ (l : Nat) (x : AObj) (b : Nat), H[l]? = some x → x.block (φc l) b → ∃ y : AObj, σ.heap[ρf l]? = some y ∧ y.block (φ (ρf l)) b := fun l x b hx hb => ⟨_, hfoot l x hx, ren_block.2 hb⟩
  -- a block of a footprint's object is nobody else's
  have hown : ∀ (l : Nat) (x : AObj) (b : Nat), H[l]? = some x → x.block (φc l) b → ∀ o, Mut φ σ.heap b o → Mut φc H b o := by
    rintro l x b hx hb o ⟨k, y, hy, hm⟩
    obtain ⟨z, hz, hzb⟩ := hblk l x b hx hb
    have hk := S.apart k (ρf l) y z b hy hz (AObj.block_of_muts hm) hzb
    subst hk
    have hf := hfoot l x hx
    rw [hy] at hf
    cases hf
    exact ⟨l, x, hx, ren_muts.1 hm⟩
  have hS' : HSim C' φc H w := by
    refine { slots := rfl, defers := rfl, objs := ?_, apart := ?_, notA := ?_, size := Nat.le_refl _, old := fun _ _ _ _ => rfl, oldObj := fun _ _ _ => rfl, inM := ?_, froz := fun _ => rfl, rest := ⟨rfl, rfl⟩, low := ⟨rfl, Nat.le_refl _⟩, names := fun l hl => .inl ⟨rfl, .inl rfl⟩ }
    · intro l x hx
      exact ObjRep.unren un (hnbH x (List.mem_of_getElem? hx)) (fun _ _ => rfl) (S.objs (ρf l) _ (hfoot l x hx))
    · intro l l' x x' b hx hx' hb hb'
      obtain ⟨z, hz, hzb⟩ := hblk l x b hx hb
      obtain ⟨z', hz', hzb'⟩ := hblk l' x' b hx' hb'
      exact hinj l l' (List.getElem?_eq_some_iff.1 hx).1 (List.getElem?_eq_some_iff.1 hx').1 (S.apart _ _ z z' b hz hz' hzb hzb')
    · rintro l x b o hx hb ⟨hA | hA, hn⟩
      · exact hn (hown l x b hx hb o hA)
      · obtain ⟨z, hz, hzb⟩ := hblk l x b hx hb
        exact S.notA _ z b o hz hzb hA
    · intro l x b o hx hm _
      exact ⟨l, x, hx, hm⟩
  have hr' : RepL (C'.env φc H w) args vs.toList := RepL.unren un _ _ hnbA (hargs _ _ hr)
  refine (hc C' φc w hP rfl rfl (fun l _ => ⟨rfl, rfl⟩) (fun _ _ => Iff.rfl) hS' vs hr').mono ?_
  rintro e w' ⟨o, φ', H', hV, S', hrep⟩
  -- behind the call
  have hHle : H.length ≤ H'.length := S'.low.2
  let n := σ.heap.length
  have hcase : ∀ k, k < n → (∃ l, l < H.length ∧ ρf l = k) ∨ k ∉ ρ := by
    intro k _
    by_cases hm : k ∈ ρ
    · obtain ⟨i, hi⟩ := List.getElem?_of_mem hm
      have hil := (List.getElem?_eq_some_iff.1 hi).1
      left
      refine ⟨i, by omega, ?_⟩
      have := hρ i (by omega)
      rw [hi] at this; cases this; rfl
    · exact .inr hm
  let ix : Nat → Option Nat := posIn ρ
  have hix : ∀ l, l < H.length → ix (ρf l) = some l := by
    intro l hl
    exact posIn_at ρ l _ hnd (hρ l hl)
  have hix0 : ∀ k, k ∉ ρ → ix k = none := by
    intro k hk
    exact posIn_none ρ k hk
  let φ2 : Nat → Value := fun k => if k < n then (match ix k with | some l => φ' l | none => φ k) else φ' (H.length + (k - n))
  have hφ2f : ∀ l, l < H'.length → φ2 (ρf l) = φ' l := by
    intro l hl
    by_cases h1 : l < H.length
    · simp only [φ2]
      rw [if_pos (hρlt l h1), hix l h1]
    · have h2 : ρf l = n + (l - H.length) := by
        have : ¬ l < ρ.length := by omega
        show backTo ρ σ.heap.length l = _
        unfold backTo
        rw [if_neg this, hlen]
      simp only [φ2]
      rw [if_neg (by omega), h2]
      congr 1; omega
  have hφ2o : ∀ k, k < n → k ∉ ρ → φ2 k = φ k := by
    intro k hk hm
    simp only [φ2]
    rw [if_pos hk, hix0 k hm]
  let H2 : List AObj := heapBack ρ σ.heap H'
  have hH2f : ∀ (l : Nat) (hl : l < H'.length), H2[ρf l]? = some ((H'[l]).ren ρf) := by
    intro l hl
    simp only [H2, heapBack]
    by_cases h1 : l < H.length
    · have hlt := hρlt l h1
      rw [List.getElem?_append_left (by rw [setAll_length]; exact hlt)]
      exact setAll_at ρ σ.heap _ l (ρf l) _ hnd (hρ l h1) (by rw [List.getElem?_map, List.getElem?_eq_getElem hl]; rfl) hlt
    · have h2 : ρf l = n + (l - H.length) := by
        have : ¬ l < ρ.length := by omega
        show backTo ρ σ.heap.length l = _
        unfold backTo
        rw [if_neg this, hlen]
      rw [h2, List.getElem?_append_right (by rw [setAll_length]; omega), setAll_length]
      rw [List.getElem?_map, List.getElem?_drop, hlen]
      have e : H.length + (n + (l - H.length) - σ.heap.length) = l := by simp only [n]; omega
      rw [e, List.getElem?_eq_getElem hl]; rfl
  have hH2o : ∀ k, k < n → k ∉ ρ → H2[k]? = σ.heap[k]? := by
    intro k hk hm
    simp only [H2, heapBack]
    rw [List.getElem?_append_left (by rw [setAll_length]; exact hk)]
    exact setAll_other ρ _ _ k hm
  have hH2len : H2.length = n + (H'.length - H.length) := by
    simp only [H2, heapBack, List.length_append, setAll_length, List.length_map, List.length_drop, hlen]; rfl
  have hH2 : ∀ (k : Nat) (y : AObj), H2[k]? = some y → (∃ l, ∃ hl : l < H'.length, k = ρf l ∧ y = (H'[l]).ren ρf) ∨ (k < n ∧ k ∉ ρ ∧ σ.heap[k]? = some y) := by
    intro k y hy
    have hk : k < H2.length := (List.getElem?_eq_some_iff.1 hy).1
    by_cases h1 : k < n
    · rcases hcase k h1 with ⟨l, hl, rfl⟩ | hm
      · left
        have := hH2f l (by omega)
        rw [hy] at this; cases this
        exact ⟨l, by omega, rfl, rfl⟩
      · right
        rw [hH2o k h1 hm] at hy
        exact ⟨h1, hm, hy⟩
    · left
      have hl : H.length + (k - n) < H'.length := by omega
      have hk2 : ρf (H.length + (k - n)) = k := by
        have : ¬ H.length + (k - n) < ρ.length := by omega
        show backTo ρ σ.heap.length _ = _
        unfold backTo
        rw [if_neg this, hlen]
        simp only [n] at h1 ⊢; omega
      have := hH2f _ hl
      rw [hk2, hy] at this; cases this
      exact ⟨_, hl, hk2.symm, rfl⟩
  have hMut2 : ∀ b o, Mut φ2 H2 b o → Mut φ' H' b o ∨ ∃ (k : Nat) (y : AObj), k < n ∧ k ∉ ρ ∧ σ.heap[k]? = some y ∧ y.muts (φ k) b o := by
    rintro b o ⟨k, y, hy, hm⟩
    rcases hH2 k y hy with ⟨l, hl, rfl, rfl⟩ | ⟨h1, h2, h3⟩
    · left
      rw [hφ2f l hl] at hm
      exact ⟨l, _, List.getElem?_eq_getElem hl, ren_muts.1 hm⟩
    · right
      rw [hφ2o k h1 h2] at hm
      exact ⟨k, y, h1, h2, h3, hm⟩
  -- an object of the caller's that was not handed over shares no block with one that was
  have hsep : ∀ (k : Nat) (y : AObj) (b : Nat), k < n → k ∉ ρ → σ.heap[k]? = some y → y.block (φ k) b → ∀ o, ¬ Mut φc H b o := by
    rintro k y b hk hm hy hb o ⟨l, x, hx, hmu⟩
    obtain ⟨z, hz, hzb⟩ := hblk l x b hx (AObj.block_of_muts hmu)
    have e := S.apart k (ρf l) y z b hy hz hb hzb
    apply hm
    rw [e]
    exact List.mem_of_getElem? (hρ l (List.getElem?_eq_some_iff.1 hx).1)
  have hnewblk : ∀ (l : Nat) (hl : l < H'.length) (b : Nat), (H'[l]).block (φ' l) b → b < w.heap.size → ∃ (k : Nat) (x : AObj), H[k]? = some x ∧ x.block (φc k) b := by
    intro l hl b hb hlt
    obtain ⟨o, hmu⟩ := muts_of_block hb
    obtain ⟨k, x, hx, hmx⟩ := S'.inM l _ b o (List.getElem?_eq_getElem hl) hmu hlt
    exact ⟨k, x, hx, AObj.block_of_muts hmx⟩
  have le : (C.env φ σ.heap w).Le n (C.env φ2 H2 w') := by
    refine ⟨by simp only [Ctx.env]; omega, fun k hk => ?_, fun b o' u hm hcell => ?_⟩
    · rcases hcase k hk with ⟨l, hl, rfl⟩ | hm
      · have hn := S'.names l hl
        simp only [Ctx.env]
        rw [hφ2f l (by omega), hH2f l (by omega), ren_accLen, hfoot l H[l] (List.getElem?_eq_getElem hl), ren_accLen]
        have h1 : accLen H'[l]? = accLen (some H'[l]) := by rw [List.getElem?_eq_getElem (by omega)]
        have h2 : C'.ln0 l = accLen (some H[l]) := by show accLen H[l]? = _; rw [List.getElem?_eq_getElem hl]
        rw [h1, h2] at hn
        exact hn
      · left
        simp only [Ctx.env]
        rw [hφ2o k hk hm, hH2o k hk hm]
        exact ⟨rfl, .inl rfl⟩
    · have hb := cell_lt hcell
      simp only [Ctx.env] at hb hm ⊢
      have hnc : ¬ Mut φc H b o' := fun hh => hm (.inl (hMsub b o' hh))
      refine ⟨?_, by rw [S'.old b o' hb hnc]; exact hcell⟩
      rintro (hh | hh)
      · rcases hMut2 b o' hh with ⟨l, x, hx, hmu⟩ | ⟨k, y, _, _, hy, hmu⟩
        · exact hnc (S'.inM l x b o' hx hmu hb)
        · exact hm (.inl ⟨k, y, hy, hmu⟩)
      · exact hm (.inr hh)
  have ren : RenLe H'.length ρf (C'.env φ' H' w') (C.env φ2 H2 w') := by
    refine ⟨fun l hl => ?_, fun l hl => ?_, fun b o' u hm hcell => ⟨?_, hcell⟩⟩
    · have := hH2f l hl
      exact (List.getElem?_eq_some_iff.1 this).1
    · simp only [Ctx.env]
      rw [hφ2f l hl, hH2f l hl, ren_accLen, List.getElem?_eq_getElem hl]
      exact ⟨rfl, .inl rfl⟩
    · simp only [Ctx.env] at hm ⊢
      rintro (hh | hh)
      · rcases hMut2 b o' hh with h1 | ⟨k, y, hk, hkm, hy, hmu⟩
        · exact hm (.inl h1)
        · exact hm (.inr ⟨.inl ⟨k, y, hy, hmu⟩, hsep k y b hk hkm hy (AObj.block_of_muts hmu) o'⟩)
      · refine hm (.inr ⟨.inr hh, ?_⟩)
        rintro ⟨l, x, hx, hmu⟩
        obtain ⟨z, hz, hzb⟩ := hblk l x b hx (AObj.block_of_muts hmu)
        exact S.notA _ z b o' hz hzb hh
  have S2 : Sim C φ2 { σ with heap := H2 } a w' := by
    refine { slots := RepL.mono le _ _ (RepL.nb _ _ S.slots) S.slots, defers := S.defers, objs := ?_, apart := ?_, notA := ?_, size := Nat.le_trans S.size S'.size, old := ?_, oldObj := ?_, inM := ?_, froz := fun x => (S'.froz x).trans (S.froz x), rest := ⟨S'.rest.1.trans S.rest.1, S'.rest.2.trans S.rest.2⟩, low := ⟨S.low.1, by have := S.low.2; show σ.low ≤ H2.length; omega⟩, names := ?_ }
    · intro k y hy
      rcases hH2 k y hy with ⟨l, hl, rfl, rfl⟩ | ⟨h1, h2, h3⟩
      · rw [hφ2f l hl]
        have r0 := S'.objs l _ (List.getElem?_eq_getElem hl)
        exact ObjRep.ren ren (objNb_rep r0) (fun _ _ => rfl) r0
      · rw [hφ2o k h1 h2]
        have r0 := S.objs k y h3
        exact ObjRep.mono r0 le (fun b hb => S'.oldObj b (r0.block_lt hb) (hsep k y b h1 h2 h3 hb))
    · intro k k' x x' b hx hx' hb hb'
      rcases hH2 k x hx with ⟨l, hl, rfl, rfl⟩ | ⟨h1, h2, h3⟩ <;> rcases hH2 k' x' hx' with ⟨l', hl', rfl, rfl⟩ | ⟨h1', h2', h3'⟩
      · rw [hφ2f l hl] at hb
        rw [hφ2f l' hl'] at hb'
        have := S'.apart l l' _ _ b (List.getElem?_eq_getElem hl) (List.getElem?_eq_getElem hl') (ren_block.1 hb) (ren_block.1 hb')
        rw [this]
      · rw [hφ2f l hl] at hb
        rw [hφ2o k' h1' h2'] at hb'
        exfalso
        obtain ⟨q, z, hz, hzb⟩ := hnewblk l hl b (ren_block.1 hb) ((S.objs k' x' h3').block_lt hb')
        obtain ⟨o'', hmu⟩ := muts_of_block hzb
        exact hsep k' x' b h1' h2' h3' hb' o'' ⟨q, z, hz, hmu⟩
      · rw [hφ2f l' hl'] at hb'
        rw [hφ2o k h1 h2] at hb
        exfalso
        obtain ⟨q, z, hz, hzb⟩ := hnewblk l' hl' b (ren_block.1 hb') ((S.objs k x h3).block_lt hb)
        obtain ⟨o'', hmu⟩ := muts_of_block hzb
        exact hsep k x b h1 h2 h3 hb o'' ⟨q, z, hz, hmu⟩
      · rw [hφ2o k h1 h2] at hb
        rw [hφ2o k' h1' h2'] at hb'
        exact S.apart k k' x x' b h3 h3' hb hb'
    · intro k x b o' hx hb
      rcases hH2 k x hx with ⟨l, hl, rfl, rfl⟩ | ⟨h1, h2, h3⟩
      · rw [hφ2f l hl] at hb
        intro hA
        have hbs : b < w.heap.size := Nat.lt_of_lt_of_le (C.hA b o' hA) S.size
        obtain ⟨q, z, hz, hzb⟩ := hnewblk l hl b (ren_block.1 hb) hbs
        obtain ⟨z', hz', hzb'⟩ := hblk q z b hz hzb
        exact S.notA _ z' b o' hz' hzb' hA
      · rw [hφ2o k h1 h2] at hb
        exact S.notA k x b o' h3 hb
    · intro b o' hb hm
      have hb' : b < w.heap.size := Nat.lt_of_lt_of_le hb S.size
      have hnc : ¬ Mut φc H b o' := by
        intro hh
        obtain ⟨k, y, hy, hmu⟩ := hMsub b o' hh
        exact hm (S.inM k y b o' hy hmu hb)
      exact (S'.old b o' hb' hnc).trans (S.old b o' hb hm)
    · intro b hb hm
      have hb' : b < w.heap.size := Nat.lt_of_lt_of_le hb S.size
      have hnc : ∀ o', ¬ Mut φc H b o' := by
        intro o' hh
        obtain ⟨k, y, hy, hmu⟩ := hMsub b o' hh
        exact hm o' (S.inM k y b o' hy hmu hb)
      exact (S'.oldObj b hb' hnc).trans (S.oldObj b hb hm)
    · intro k x b o' hx hmu hb
      rcases hH2 k x hx with ⟨l, hl, rfl, rfl⟩ | ⟨h1, h2, h3⟩
      · rw [hφ2f l hl] at hmu
        obtain ⟨q, z, hz, hmz⟩ := S'.inM l _ b o' (List.getElem?_eq_getElem hl) (ren_muts.1 hmu) (Nat.lt_of_lt_of_le hb S.size)
        obtain ⟨k2, y2, hy2, hmu2⟩ := hMsub b o' ⟨q, z, hz, hmz⟩
        exact S.inM k2 y2 b o' hy2 hmu2 hb
      · rw [hφ2o k h1 h2] at hmu
        exact S.inM k x b o' h3 hmu hb
    · intro k hk
      have hkn : k < n := by have := S.low; simp only [n]; omega
      have hn := S.names k hk
      show (φ2 k = _ ∧ _) ∨ _
      rcases hcase k hkn with ⟨l, hl, rfl⟩ | hm
      · have hn' := S'.names l hl
        rw [hφ2f l (by omega), hH2f l (by omega), ren_accLen]
        rw [hfoot l H[l] (List.getElem?_eq_getElem hl), ren_accLen] at hn
        have h1 : accLen H'[l]? = accLen (some H'[l]) := by rw [List.getElem?_eq_getElem (by omega)]
        have h2 : C'.ln0 l = accLen (some H[l]) := by show accLen H[l]? = _; rw [List.getElem?_eq_getElem hl]
        have h3 : C'.φ0 l = φ (ρf l) := rfl
        rw [h1, h2, h3] at hn'
        rcases hn' with ⟨ha, hb | hb⟩ | ⟨⟨q, hq, hlt⟩, hp, hmp⟩
        · rw [ha, hb]; exact hn
        · rw [hb]
          rcases hn with ⟨hc1, _⟩ | ⟨⟨q, hq, _⟩, hp, hmp⟩
          · exact .inl ⟨by rw [ha]; exact hc1, .inr rfl⟩
          · exact .inr ⟨⟨q, hq, fun k' hk' => by cases hk'⟩, hp, hmp⟩
        · right
          rcases hn with ⟨hc1, hc2 | hc2⟩ | ⟨⟨q2, hq2, hlt2⟩, hp2, hmp2⟩
          · rw [hq] at hc2
            exact ⟨⟨q, hc2.symm, hlt⟩, by rw [← hc1]; exact ⟨hp, hmp⟩⟩
          · rw [hq] at hc2; cases hc2
          · exact ⟨⟨q2, hq2, fun k' hk' => by have := hlt k' hk'; have := hlt2 q hq; omega⟩, hp2, hmp2⟩
      · rw [hφ2o k hkn hm, hH2o k hkn hm]; exact hn
  refine ⟨o.ren ρf, φ2, H2, hK o H' hV, S2, ?_⟩
  cases o with
  | ret r =>
    cases e with
    | returned v => exact Rep.ren ren r v (Rep.nb _ _ hrep) hrep
    | panicked chain => exact hrep.elim
    | outgrown => exact hrep.elim
  | panic x =>
    cases e with
    | returned v => exact hrep.elim
    | panicked chain =>
      obtain ⟨v, hv, hr⟩ := hrep
      exact ⟨v, hv, Rep.ren ren x v (Rep.nb _ _ hr) hr⟩
    | outgrown => exact hrep.elim

end call

theorem ObjRep.monoN {E E' : Env} {N : Nat} {x : AObj} {hd : Value} (r : ObjRep E x hd) (h : E.Le N E') (hn : objNb N x) (hs : E'.w = E.w := by rfl) : ObjRep E' x hd := by
  cases x with
  | cells cs => obtain ⟨b, c, t, h1, h2, rl, h3⟩ := r; exact ⟨b, c, t, h1, by rw [hs]; exact h2, RepL.mono h _ _ hn rl, h3⟩
  | acc imm sz rows =>
    obtain ⟨base, cap, h1, h2, h3, h4, h5⟩ := r
    refine ⟨base, cap, h1, h2, h3, h4, fun a0 ha hc => ?_⟩
    obtain ⟨h6, c, t, h7, h8, rl, h9⟩ := h5 a0 ha hc
    exact ⟨h6, c, t, by rw [hs]; exact h7, h8, RepL.mono h _ _ (nbL_flatten hn) rl, h9⟩
  | map es => obtain ⟨r', en, cl, h1, h2, rp⟩ := r; exact ⟨r', en, cl, h1, by rw [hs]; exact h2, RepPairs.mono h hn rp⟩
  | dead => trivial

/-- What is handed out at a function's end. -/
def Export (σ : AState) (x r : AV) (H' : List AObj) : Prop :=
  ∀ (C : Ctx) (φ : Nat → Value) (a : Act) (w : World), Sim C φ σ a w → ∀ v, Rep (C.env φ σ.heap w) x v →
    ∃ φ', Sim C φ' { slots := [], heap := H', low := σ.low } { tmps := #[], defers := [] } w ∧ Rep (C.env φ' H' w) r v

def outX (low l k : Nat) : Nat := if k < low then k else if k = l then low else low + 1 + k

section export_
variable {σ : AState}

theorem Export.sub {x r r' : AV} {H' : List AObj} (h : Export σ x r H') (hs : Sub r r') : Export σ x r' H' := fun C φ a w S v hv =>
  let ⟨φ', S', hr⟩ := h C φ a w S v hv
  ⟨φ', S', hs _ _ hr⟩

theorem take_get {H : List AObj} {low l : Nat} (hl : l < low) : (H.take low)[l]? = H[l]? := by rw [List.getElem?_take, if_pos hl]

/-- Nothing new is handed out: new objects are given up. -/
theorem export_frz {x : AV} (hnb : ∀ y ∈ σ.heap.take σ.low, objNb σ.low y) (hx : (frz σ.low σ.heap x).nb σ.low) : Export σ x (frz σ.low σ.heap x) (σ.heap.take σ.low) := by
  intro C φ a w S v hv
  have hlow := S.low.2
  have hHl : (σ.heap.take σ.low).length = σ.low := by rw [List.length_take]; omega
  have hget' : ∀ (l : Nat) (y : AObj), (σ.heap.take σ.low)[l]? = some y → l < σ.low ∧ σ.heap[l]? = some y := by
    intro l y hy
    have hl : l < σ.low := by rw [← hHl]; exact (List.getElem?_eq_some_iff.1 hy).1
    rw [take_get hl] at hy; exact ⟨hl, hy⟩
  have hmut : ∀ b o, Mut φ (σ.heap.take σ.low) b o → Mut φ σ.heap b o := by
    rintro b o ⟨l, y, hy, hm⟩; exact ⟨l, y, (hget' l y hy).2, hm⟩
  have le : (C.env φ σ.heap w).Le σ.low (C.env φ (σ.heap.take σ.low) w) := by
    refine ⟨by simp only [Ctx.env]; omega, fun l hl => .inl ⟨rfl, .inl (by simp only [Ctx.env]; rw [take_get hl])⟩, fun b o u hm hc => ⟨fun h => hm (h.imp (hmut b o) id), hc⟩⟩
  refine ⟨φ, { slots := rfl, defers := rfl, objs := ?_, apart := ?_, notA := ?_, size := S.size, old := S.old, oldObj := S.oldObj, inM := ?_, froz := S.froz, rest := S.rest, low := ⟨S.low.1, by show σ.low ≤ (σ.heap.take σ.low).length; omega⟩, names := ?_ }, ?_⟩
  · intro l y hy
    obtain ⟨hl, hy'⟩ := hget' l y hy
    exact (S.objs l y hy').monoN le (hnb y (List.mem_of_getElem? hy))
  · intro l l' y y' b hy hy' hb hb'
    exact S.apart l l' y y' b (hget' l y hy).2 (hget' l' y' hy').2 hb hb'
  · intro l y b o hy hb; exact S.notA l y b o (hget' l y hy).2 hb
  · intro l y b o hy hm hb; exact S.inM l y b o (hget' l y hy).2 hm hb
  · intro l hl
    rw [take_get (by have := S.low.1; omega)]
    exact S.names l hl
  · refine frz_sound S ⟨le, rfl, fun l y b o hl hy hb => ?_⟩ x v hx hv
    simp only [Ctx.env]
    rintro (⟨l', y', hy', hm⟩ | hA)
    · obtain ⟨h1, h2⟩ := hget' l' y' hy'
      have := S.apart l l' y y' b hy h2 hb (AObj.block_of_muts hm)
      omega
    · exact S.notA l y b o hy hb hA

/-- One new object is handed out. -/
theorem export_one {x : AV} {l : Nat} {y : AObj} (hl : σ.heap[l]? = some y) (hlow : σ.low ≤ l) (hnb : ∀ z ∈ σ.heap.take σ.low, objNb σ.low z) (hy : objNb σ.low y) (hr : (x.ren (outX σ.low l)).nb (σ.low + 1)) :
    Export σ x (x.ren (outX σ.low l)) (σ.heap.take σ.low ++ [y]) := by
  intro C φ a w S v hv
  have hlowle := S.low.2
  have hHl : (σ.heap.take σ.low).length = σ.low := by rw [List.length_take]; omega
  let H' := σ.heap.take σ.low ++ [y]
  let φ' : Nat → Value := fun k => if k = σ.low then φ l else φ k
  have hφ' : ∀ k, k < σ.low → φ' k = φ k := fun k hk => by simp only [φ']; rw [if_neg (by omega)]
  have hφl : φ' σ.low = φ l := by simp [φ']
  have hget0 : ∀ k, k < σ.low → H'[k]? = σ.heap[k]? := by
    intro k hk
    simp only [H']
    rw [List.getElem?_append_left (by omega), take_get hk]
  have hgetl : H'[σ.low]? = some y := by
    simp only [H']
    rw [List.getElem?_append_right (by omega), hHl, Nat.sub_self]; rfl
  have hHlen : H'.length = σ.low + 1 := by simp only [H', List.length_append, hHl, List.length_cons, List.length_nil]
  have hget : ∀ (k : Nat) (z : AObj), H'[k]? = some z → (k < σ.low ∧ σ.heap[k]? = some z) ∨ (k = σ.low ∧ z = y) := by
    intro k z hz
    have hk : k < σ.low + 1 := by rw [← hHlen]; exact (List.getElem?_eq_some_iff.1 hz).1
    by_cases e : k = σ.low
    · subst e; rw [hgetl] at hz; cases hz; exact .inr ⟨rfl, rfl⟩
    · left
      rw [hget0 k (by omega)] at hz
      exact ⟨by omega, hz⟩
  -- the old name of an object that is handed out
  let old : Nat → Nat := fun k => if k = σ.low then l else k
  have hold : ∀ (k : Nat) (z : AObj), H'[k]? = some z → σ.heap[old k]? = some z ∧ φ' k = φ (old k) := by
    intro k z hz
    rcases hget k z hz with ⟨h1, h2⟩ | ⟨rfl, rfl⟩
    · simp only [old]; rw [if_neg (by omega)]; exact ⟨h2, hφ' k h1⟩
    · simp only [old, if_true]; exact ⟨hl, hφl⟩
  have holdinj : ∀ k k', k < σ.low + 1 → k' < σ.low + 1 → old k = old k' → k = k' := by
    intro k k' hk hk' he
    simp only [old] at he
    split at he <;> split at he <;> omega
  have hmut : ∀ b o, Mut φ' H' b o → Mut φ σ.heap b o := by
    rintro b o ⟨k, z, hz, hm⟩
    obtain ⟨h1, h2⟩ := hold k z hz
    rw [h2] at hm
    exact ⟨old k, z, h1, hm⟩
  have le : (C.env φ σ.heap w).Le σ.low (C.env φ' H' w) := by
    refine ⟨by simp only [Ctx.env]; omega, fun k hk => .inl ⟨hφ' k hk, .inl (by simp only [Ctx.env]; rw [hget0 k hk])⟩, fun b o u hm hc => ⟨fun h => hm (h.imp (hmut b o) id), hc⟩⟩
  refine ⟨φ', { slots := rfl, defers := rfl, objs := ?_, apart := ?_, notA := ?_, size := S.size, old := S.old, oldObj := S.oldObj, inM := ?_, froz := S.froz, rest := S.rest, low := ⟨S.low.1, by show σ.low ≤ H'.length; omega⟩, names := ?_ }, ?_⟩
  · intro k z hz
    show ObjRep (C.env φ' H' w) z (φ' k)
    obtain ⟨h1, h2⟩ := hold k z hz
    rw [h2]
    refine (S.objs (old k) z h1).monoN le ?_
    rcases hget k z hz with ⟨h3, h4⟩ | ⟨rfl, rfl⟩
    · exact hnb z (List.mem_of_getElem? ((take_get h3).trans h4))
    · exact hy
  · intro k k' z z' b hz hz' hb hb'
    obtain ⟨h1, h2⟩ := hold k z hz
    obtain ⟨h1', h2'⟩ := hold k' z' hz'
    rw [h2] at hb
    rw [h2'] at hb'
    have hk : k < σ.low + 1 := by rw [← hHlen]; exact (List.getElem?_eq_some_iff.1 hz).1
    have hk' : k' < σ.low + 1 := by rw [← hHlen]; exact (List.getElem?_eq_some_iff.1 hz').1
    exact holdinj k k' hk hk' (S.apart _ _ z z' b h1 h1' hb hb')
  · intro k z b o hz hb
    obtain ⟨h1, h2⟩ := hold k z hz
    rw [h2] at hb
    exact S.notA _ z b o h1 hb
  · intro k z b o hz hm hb
    obtain ⟨h1, h2⟩ := hold k z hz
    rw [h2] at hm
    exact S.inM _ z b o h1 hm hb
  · intro k hk
    have hk' : k < σ.low := by have := S.low.1; omega
    show (φ' k = _ ∧ (accLen H'[k]? = _ ∨ _)) ∨ _
    rw [hφ' k hk', hget0 k hk']
    exact S.names k hk
  · -- through an environment in which the other names are dead
    let E2 : Env := { w, mu := (C.env φ' H' w).mu, φ := fun k => if k < σ.low + 1 then φ' k else φ (k - (σ.low + 1)), ln := fun k => if k < σ.low + 1 then accLen H'[k]? else none, n := σ.low + 1 + σ.heap.length }
    have ren : RenLe σ.heap.length (outX σ.low l) (C.env φ σ.heap w) E2 := by
      refine ⟨fun k hk => ?_, fun k hk => ?_, fun b o u hm hc => ⟨fun h => hm (h.imp (hmut b o) id), hc⟩⟩
      · simp only [outX, E2]
        split
        · omega
        · split <;> omega
      · simp only [outX, E2, Ctx.env]
        split
        · rename_i h1
          rw [if_pos (by omega), if_pos (by omega), hφ' k h1, hget0 k h1]
          exact ⟨rfl, .inl rfl⟩
        · split
          · rename_i h1 h2
            subst h2
            rw [if_pos (by omega), if_pos (by omega), hφl, hgetl, hl]
            exact ⟨rfl, .inl rfl⟩
          · rw [if_neg (by omega), if_neg (by omega)]
            refine ⟨?_, .inr rfl⟩
            congr 1; omega
    have h1 := Rep.ren ren x v (Rep.nb _ _ hv) hv
    have le2 : E2.Le (σ.low + 1) (C.env φ' H' w) := by
      refine ⟨by simp only [Ctx.env]; show σ.low + 1 ≤ H'.length; omega, fun k hk => .inl ⟨?_, .inl ?_⟩, fun b o u hm hc => ⟨hm, hc⟩⟩
      · show φ' k = if k < σ.low + 1 then φ' k else _
        rw [if_pos hk]
      · show accLen H'[k]? = if k < σ.low + 1 then accLen H'[k]? else none
        rw [if_pos hk]
    exact Rep.mono le2 _ v hr h1

end export_

/-- What is asked of a body's end, where named objects were handed over. -/
def gPost (P : Program) (rs : List ResultVar) (V : AOut → List AObj → Prop) : AExit → AState → Prop
  | .normal, σ => ∃ x, resAV P σ rs = some x ∧ ∃ r H', Export σ x r H' ∧ V (.ret r) H'
  | .ret, σ => ∃ x, resAV P σ rs = some x ∧ ∃ r H', Export σ x r H' ∧ V (.ret r) H'
  | .panic x, σ => ∃ r H', Export σ x r H' ∧ V (.panic r) H'
  | _, _ => False

/-- A contract with named objects, out of the function's body. -/
theorem fnG_of_body {P : Program} {f : FuncId} {fn : Func} {c : Code} {args : List AV} {H : List AObj} {V : AOut → List AObj → Prop} (hf : P.funcs[f]? = some fn) (hb : fn.body = some c) (hne : (fn.name != "runtime.NumGoroutine") = true) (hnb : nbL H.length args)
    (hnbH : ∀ x ∈ H, objNb H.length x) {n : Nat} (hn : fn.ntmps = n) {rs : List ResultVar} (hrs : fn.results = rs.toArray)
    (h : awp P c (gPost P rs V) { slots := args ++ List.replicate (n - args.length) .any, heap := H, low := H.length }) : FnG P f args H V := by
  refine ⟨?_, hnb, hnbH, fun C φ w hP h0 hN0 hφ0 hM HS vs hr => ?_⟩
  · unfold enters; rw [hf]; simp only [hb, Option.isSome_some, Bool.true_and]; exact hne
  · subst hP
    refine calls_of_wp hf hb ?_
    have hsz : vs.size = args.length := by have := hr.length; simpa using this
    have S : Sim C φ { slots := args ++ List.replicate (n - args.length) .any, heap := H, low := H.length } { tmps := vs ++ Array.replicate (fn.ntmps - vs.size) undef, defers := [] } w := by
      refine { HS with slots := ?_, defers := rfl }
      simp only [Array.toList_append, Array.toList_replicate]
      refine hr.append ?_
      rw [hsz, hn]
      have := RepL.replicate_any (E := C.env φ H w) (List.replicate (n - args.length) undef)
      simpa using this
    refine wp_mono (awp_sound c _ φ _ _ w h S) ?_
    intro e a' w' hq
    have hlow : ∀ {φ' : Nat → Value} {σ' : AState}, Sim C φ' σ' a' w' → σ'.low = H.length := fun S' => by rw [← S'.low.1]; exact hN0
    have fin : ∀ φ' σ', Sim C φ' σ' a' w' → (∃ x, resAV C.P σ' rs = some x ∧ ∃ r H', Export σ' x r H' ∧ V (.ret r) H') →
        a'.defers = [] ∧ ∃ v, (results fn a'.tmps).run C.P w' = .ok v w' ∧ ∃ o φ' H', V o H' ∧ Sim C φ' { slots := [], heap := H', low := H.length } { tmps := #[], defers := [] } w' ∧ o.rep (C.env φ' H' w') (.returned v) := by
      rintro φ' σ' S' ⟨x, hx, r, H', hex, hV⟩
      obtain ⟨v, hv, rv⟩ := resAV_sound (fn := fn) S' (by rw [hrs]; exact hx)
      obtain ⟨φ2, S2, hr2⟩ := hex C φ' a' w' S' v rv
      rw [hlow S'] at S2
      exact ⟨S'.defers, v, hv, .ret r, φ2, H', hV, S2, hr2⟩
    cases e with
    | normal => obtain ⟨φ', σ', S', hq⟩ := hq; exact fin φ' σ' S' hq
    | ret => obtain ⟨φ', σ', S', hq⟩ := hq; exact fin φ' σ' S' hq
    | exit id => obtain ⟨_, _, _, hq⟩ := hq; exact hq.elim
    | goto l => obtain ⟨_, _, _, hq⟩ := hq; exact hq.elim
    | panic chain =>
      obtain ⟨φ', σ', x, v, S', ⟨r, H', hex, hV⟩, hch, hrep⟩ := hq
      obtain ⟨φ2, S2, hr2⟩ := hex C φ' a' w' S' v hrep
      rw [hlow S'] at S2
      exact ⟨S'.defers, .panic r, φ2, H', hV, S2, v, hch, hr2⟩
    | outgrown => exact hq.elim

/-- A contract without named objects is one with none. -/
theorem FnC.toG {P : Program} {f : FuncId} {args : List AV} {V : AV → Prop} (h : FnC P f args V) : FnG P f args [] (fun o H' => H' = [] ∧ ∃ r, o = .ret r ∧ V r) := by
  obtain ⟨he, hn, hc⟩ := h
  refine ⟨he, hn, by simp, fun C φ w hP h0 hN0 hφ0 hM HS vs hr => (hc C φ w hP h0 hN0 (fun b o hm => ?_) vs hr).mono ?_⟩
  · obtain ⟨l, x, hx, _⟩ := (hM b o).1 hm
    simp at hx
  · rintro e w' ⟨r, v, φ', hV, rfl, rep, hs, hh, hf, ho⟩
    refine ⟨.ret r, φ', [], ⟨rfl, r, rfl, hV⟩, ?_, rep⟩
    have S2 := Sim.grown HS hs hh hf ho
    exact { S2 with objs := by simp, apart := by simp, notA := by simp, inM := by simp, slots := rfl, names := fun l hl => by rw [hN0] at hl; exact absurd hl (Nat.not_lt_zero _) }

attribute [go_sem] AV.ren renL renR AObj.ren AOut.ren backTo heapBack setAll outX gPost
end Go.Abs

/- The machine, step by step: what is left to do is a list of places in the body. -/
namespace Go.Abs

def child : Nat → Code → Code
  | 0, .seq x _ => x
  | 1, .seq _ y => y
  | 0, .cond _ x _ => x
  | 1, .cond _ _ y => y
  | 0, .block _ x => x
  | 0, .loop x => x
  | 0, .scope x => x
  | _, _ => .skip

/-- The code at a place (the last step first). -/
def sub : List Nat → Code → Code
  | [], c => c
  | d :: p, c => child d (sub p c)

inductive Kt where
  | at (p : List Nat)
  | cut (p : List Nat)
  | ops (ops : Array Oper) (rest : List Oper)
  | dops (p : List Nat) (rest : List Oper) (j : Nat) (tr : List Tr)
  | blk (id : Nat)
  | lp (m : Nat) (p : List Nat)
  | lq (m : Nat) (p : List Nat)

section
variable {R : Type}

def regOps : Code → Array Oper
  | .region _ ops _ => ops
  | _ => #[]
/-- The operations at a place. -/
def opsAt (M : Mach R) (p : List Nat) : Array Oper := regOps (sub p M.body)

noncomputable def itemX (M : Mach R) : Kt → AState → Option (AExit × AState)
  | .at p, σ => exec M (sub p M.body) p σ
  | .cut p, σ => (M.cut p σ).map fun σ' => (.normal, σ')
  | .ops ops rest, σ => (execOps M ops rest σ).map fun σ' => (.normal, σ')
  | .dops p rest j tr, σ => (execD M (opsAt M p) rest j tr σ).map fun σ' => (.normal, σ')
  | .blk _, σ => some (.normal, σ)
  | .lp m p, σ => (M.nrm p σ).bind (lqN (M.nrm p) (exec M (sub (0 :: p) M.body) (0 :: p)) m)
  | .lq m p, σ => lqN (M.nrm p) (exec M (sub (0 :: p) M.body) (0 :: p)) m σ

noncomputable def fin (M : Mach R) : List Kt → AExit → AState → Option R
  | [], .normal, σ => M.out σ
  | [], .ret, σ => M.out σ
  | [], _, _ => none
  | .blk id :: k, .exit id', σ => if id' = id then fin M k .normal σ else fin M k (.exit id') σ
  | x :: k, .normal, σ => match itemX M x σ with
    | some (e, σ') => fin M k e σ'
    | none => none
  | _ :: k, e, σ => fin M k e σ

noncomputable def run (M : Mach R) (k : List Kt) (σ : AState) : Option R := fin M k .normal σ

variable {M : Mach R} {k : List Kt} {σ : AState}

theorem run_nil : run M [] σ = M.out σ := rfl
theorem run_blk {id : Nat} : run M (.blk id :: k) σ = run M k σ := rfl
theorem fin_item {x : Kt} (h : ∀ id, x ≠ .blk id) : fin M (x :: k) .normal σ = match itemX M x σ with
    | some (e, σ') => fin M k e σ'
    | none => none := by
  cases x <;> first | rfl | exact absurd rfl (h _)

theorem run_ops_nil {ops : Array Oper} : run M (.ops ops [] :: k) σ = run M k σ := rfl
theorem run_dops_nil {p : List Nat} {j : Nat} {tr : List Tr} : run M (.dops p [] j tr :: k) σ = run M k σ := rfl

/-- What is left behind a block that is left. -/
def behind (id : Nat) : List Kt → Option (List Kt)
  | [] => none
  | .blk id' :: k => if id = id' then some k else behind id k
  | _ :: k => behind id k

theorem fin_exit {id : Nat} : ∀ {k k' : List Kt}, behind id k = some k' → fin M k (.exit id) σ = run M k' σ
  | [], _, h => by simp [behind] at h
  | .blk id' :: k, k', h => by
    simp only [behind] at h
    split at h
    · rename_i e
      cases h
      subst e
      simp only [fin, if_true]; rfl
    · rename_i e
      simp only [fin, e, if_false]
      exact fin_exit h
  | .at _ :: k, k', h => fin_exit (k := k) (by simpa [behind] using h)
  | .cut _ :: k, k', h => fin_exit (k := k) (by simpa [behind] using h)
  | .ops _ _ :: k, k', h => fin_exit (k := k) (by simpa [behind] using h)
  | .dops _ _ _ _ :: k, k', h => fin_exit (k := k) (by simpa [behind] using h)
  | .lp _ _ :: k, k', h => fin_exit (k := k) (by simpa [behind] using h)
  | .lq _ _ :: k, k', h => fin_exit (k := k) (by simpa [behind] using h)

theorem fin_none {id : Nat} : ∀ {k : List Kt}, behind id k = none → fin M k (.exit id) σ = none
  | [], _ => rfl
  | .blk id' :: k, h => by
    simp only [behind] at h
    split at h
    · cases h
    · rename_i e
      simp only [fin, e, if_false]
      exact fin_none h
  | .at _ :: k, h => fin_none (k := k) (by simpa [behind] using h)
  | .cut _ :: k, h => fin_none (k := k) (by simpa [behind] using h)
  | .ops _ _ :: k, h => fin_none (k := k) (by simpa [behind] using h)
  | .dops _ _ _ _ :: k, h => fin_none (k := k) (by simpa [behind] using h)
  | .lp _ _ :: k, h => fin_none (k := k) (by simpa [behind] using h)
  | .lq _ _ :: k, h => fin_none (k := k) (by simpa [behind] using h)

theorem fin_ret : ∀ {k : List Kt}, fin M k .ret σ = M.out σ
  | [] => rfl
  | .blk _ :: k => fin_ret (k := k)
  | .at _ :: k => fin_ret (k := k)
  | .cut _ :: k => fin_ret (k := k)
  | .ops _ _ :: k => fin_ret (k := k)
  | .dops _ _ _ _ :: k => fin_ret (k := k)
  | .lp _ _ :: k => fin_ret (k := k)
  | .lq _ _ :: k => fin_ret (k := k)

noncomputable def exitK (M : Mach R) (σ : AState) : Option (List Kt) → Option R
  | some k => run M k σ
  | none => none
theorem exitK_some {k' : List Kt} : exitK M σ (some k') = run M k' σ := rfl
theorem exitK_none : exitK M σ none = none := rfl

noncomputable def stepIf (M : Mach R) (c : Operand) (p : List Nat) (k : List Kt) (σ : AState) : AV → Option R
  | .bool b => bif b then run M (.at (0 :: p) :: k) (setB c true σ) else run M (.at (1 :: p) :: k) (setB c false σ)
  | _ => none
theorem stepIf_true {c : Operand} {p : List Nat} : stepIf M c p k σ (.bool true) = run M (.at (0 :: p) :: k) (setB c true σ) := rfl
theorem stepIf_false {c : Operand} {p : List Nat} : stepIf M c p k σ (.bool false) = run M (.at (1 :: p) :: k) (setB c false σ) := rfl
theorem stepIf_sym {c : Operand} {p : List Nat} {b : Bool} : stepIf M c p k σ (.bool b) = bif b then run M (.at (0 :: p) :: k) (setB c true σ) else run M (.at (1 :: p) :: k) (setB c false σ) := rfl

/-- May the operations at a place be taken in the order of the text. -/
def drawP (M : Mach R) (p : List Nat) : Bool :=
  match sub p M.body with
  | .region _ ops _ => drawOK ops
  | _ => false

noncomputable def stepN (M : Mach R) (p : List Nat) (k : List Kt) (σ : AState) : Code → Option R
  | .skip => run M k σ
  | .region _ ops false => run M (.ops ops ops.toList :: k) σ
  | .region _ ops true => pcond (M.P.follows .mixedOrders = true ∧ drawP M p = true) (run M (.dops p ops.toList 0 [] :: k) σ)
  | .seq _ _ => run M (.at (0 :: p) :: .cut (1 :: p) :: .at (1 :: p) :: k) σ
  | .cond c _ _ => stepIf M c p k σ (σ.ev c)
  | .block id _ => run M (.at (0 :: p) :: .blk id :: k) σ
  | .loop _ => run M (.lp M.n p :: k) σ
  | .exit id => exitK M σ (behind id k)
  | .scope _ => run M (.at (0 :: p) :: k) σ
  | .label _ => run M k σ
  | .ret => M.out σ
  | _ => none

theorem fin_block {id : Nat} {e : AExit} : fin M (.blk id :: k) e σ = match (match e with
    | .exit id' => if id' = id then (AExit.normal, σ) else (.exit id', σ)
    | e => (e, σ)) with
    | (e, σ) => fin M k e σ := by
  cases e with
  | exit id' =>
    simp only [fin]
    split <;> rfl
  | _ => rfl

theorem fin_skip {x : Kt} {e : AExit} (h : ∀ id, x ≠ .blk id) (he : e ≠ .normal) : fin M (x :: k) e σ = fin M k e σ := by
  cases x <;> cases e <;> first | rfl | exact absurd rfl (h _) | exact absurd rfl he

theorem run_at {p : List Nat} : run M (.at p :: k) σ = stepN M p k σ (sub p M.body) := by
  show fin M (.at p :: k) .normal σ = _
  rw [fin_item (by simp)]
  simp only [itemX]
  cases hc : sub p M.body with
  | skip => rfl
  | region id ops b =>
    cases b with
    | false =>
      simp only [exec, stepN]
      show _ = fin M (.ops ops ops.toList :: k) .normal σ
      rw [fin_item (by simp)]
      simp only [itemX]
    | true =>
      simp only [exec, stepN]
      show _ = pcond _ (fin M (.dops p ops.toList 0 [] :: k) .normal σ)
      rw [fin_item (by simp)]
      simp only [itemX]
      have hd : drawP M p = drawOK ops := by simp only [drawP, hc]
      have ho : opsAt M p = ops := by simp only [opsAt, hc, regOps]
      rw [hd, ho]
      by_cases hp : M.P.follows .mixedOrders = true ∧ drawOK ops = true
      · simp only [pcond, if_pos hp]
      · simp only [pcond, if_neg hp]
  | seq x y =>
    simp only [exec, stepN]
    show _ = fin M (.at (0 :: p) :: .cut (1 :: p) :: .at (1 :: p) :: k) .normal σ
    rw [fin_item (by simp)]
    have h0 : sub (0 :: p) M.body = x := by simp [sub, hc, child]
    have h1 : sub (1 :: p) M.body = y := by simp [sub, hc, child]
    simp only [itemX, h0]
    cases hx : exec M x (0 :: p) σ with
    | none => rfl
    | some r =>
      obtain ⟨e1, σ1⟩ := r
      cases e1 with
      | normal =>
        simp only
        rw [fin_item (by simp)]
        simp only [itemX]
        cases hcut : M.cut (1 :: p) σ1 with
        | none => rfl
        | some σ2 =>
          simp only [Option.bind_some, Option.map_some]
          rw [fin_item (by simp)]
          simp only [itemX, h1]
      | _ =>
        simp only
        rw [fin_skip (by simp) (by simp), fin_skip (by simp) (by simp)]
  | cond c x y =>
    simp only [exec, stepN]
    have h0 : sub (0 :: p) M.body = x := by simp [sub, hc, child]
    have h1 : sub (1 :: p) M.body = y := by simp [sub, hc, child]
    cases hv : σ.ev c with
    | bool b =>
      simp only [stepIf]
      cases b with
      | true =>
        simp only [cond_true]
        show _ = fin M (.at (0 :: p) :: k) .normal _
        rw [fin_item (by simp)]
        simp only [itemX, h0]
      | false =>
        simp only [cond_false]
        show _ = fin M (.at (1 :: p) :: k) .normal _
        rw [fin_item (by simp)]
        simp only [itemX, h1]
    | _ => rfl
  | block id x =>
    simp only [exec, stepN]
    have h0 : sub (0 :: p) M.body = x := by simp [sub, hc, child]
    show _ = fin M (.at (0 :: p) :: .blk id :: k) .normal σ
    rw [fin_item (by simp)]
    simp only [itemX, h0]
    cases hx : exec M x (0 :: p) σ with
    | none => rfl
    | some r =>
      obtain ⟨e1, σ1⟩ := r
      simp only
      rw [fin_block]
      cases e1 with
      | exit id' =>
        by_cases he : id' = id
        · simp only [he, if_true]
        · simp only [he, if_false]
      | _ => rfl
  | loop x =>
    simp only [exec, stepN]
    have h0 : sub (0 :: p) M.body = x := by simp [sub, hc, child]
    show _ = fin M (.lp M.n p :: k) .normal σ
    rw [fin_item (by simp)]
    simp only [itemX, h0]
  | exit id =>
    simp only [exec, stepN]
    cases hb : behind id k with
    | none => exact fin_none hb
    | some k' => exact fin_exit hb
  | scope x =>
    simp only [exec, stepN]
    have h0 : sub (0 :: p) M.body = x := by simp [sub, hc, child]
    show _ = fin M (.at (0 :: p) :: k) .normal σ
    rw [fin_item (by simp)]
    simp only [itemX, h0]
  | label l => rfl
  | ret => exact fin_ret
  | goto l => rfl
  | rangeFunc a b c d => rfl
  | refuse s => rfl

theorem stepN_skip {p : List Nat} : stepN M p k σ .skip = run M k σ := rfl
theorem stepN_region {p : List Nat} {id : Nat} {ops : Array Oper} : stepN M p k σ (.region id ops false) = run M (.ops ops ops.toList :: k) σ := rfl
theorem stepN_draw {p : List Nat} {id : Nat} {ops : Array Oper} : stepN M p k σ (.region id ops true) = pcond (M.P.follows .mixedOrders = true) (pcond (drawP M p = true) (run M (.dops p ops.toList 0 [] :: k) σ)) := by
  rw [← pcond_and]; rfl
theorem stepN_seq {p : List Nat} {x y : Code} : stepN M p k σ (.seq x y) = run M (.at (0 :: p) :: .cut (1 :: p) :: .at (1 :: p) :: k) σ := rfl
theorem stepN_cond {p : List Nat} {c : Operand} {x y : Code} : stepN M p k σ (.cond c x y) = stepIf M c p k σ (σ.ev c) := rfl
theorem stepN_block {p : List Nat} {id : Nat} {x : Code} : stepN M p k σ (.block id x) = run M (.at (0 :: p) :: .blk id :: k) σ := rfl
theorem stepN_loop {p : List Nat} {x : Code} : stepN M p k σ (.loop x) = run M (.lp M.n p :: k) σ := rfl
theorem stepN_exit {p : List Nat} {id : Nat} : stepN M p k σ (.exit id) = exitK M σ (behind id k) := rfl
theorem stepN_scope {p : List Nat} {x : Code} : stepN M p k σ (.scope x) = run M (.at (0 :: p) :: k) σ := rfl
theorem stepN_label {p : List Nat} {l : Nat} : stepN M p k σ (.label l) = run M k σ := rfl
theorem stepN_ret {p : List Nat} : stepN M p k σ .ret = M.out σ := rfl

theorem run_cut {p : List Nat} : run M (.cut p :: k) σ = (M.cut p σ).bind fun σ' => run M k σ' := by
  show fin M (.cut p :: k) .normal σ = _
  rw [fin_item (by simp)]
  simp only [itemX]
  cases M.cut p σ <;> rfl
theorem run_lp {m : Nat} {p : List Nat} : run M (.lp m p :: k) σ = (M.nrm p σ).bind fun σ' => run M (.lq m p :: k) σ' := by
  show fin M (.lp m p :: k) .normal σ = _
  rw [fin_item (by simp)]
  simp only [itemX]
  cases h : M.nrm p σ with
  | none => rfl
  | some σ' =>
    simp only [Option.bind_some]
    show _ = fin M (.lq m p :: k) .normal σ'
    rw [fin_item (by simp)]
    simp only [itemX]
theorem run_lq_zero {p : List Nat} : run M (.lq 0 p :: k) σ = none := by
  show fin M (.lq 0 p :: k) .normal σ = _
  rw [fin_item (by simp)]
  simp only [itemX, lqN]
theorem run_lq_succ {m : Nat} {p : List Nat} : run M (.lq (m + 1) p :: k) σ = run M (.at (0 :: p) :: .lp m p :: k) σ := by
  show fin M (.lq (m + 1) p :: k) .normal σ = fin M (.at (0 :: p) :: .lp m p :: k) .normal σ
  rw [fin_item (by simp), fin_item (by simp)]
  simp only [itemX, lqN]
  cases hx : exec M (sub (0 :: p) M.body) (0 :: p) σ with
  | none => rfl
  | some r =>
    obtain ⟨e1, σ1⟩ := r
    cases e1 with
    | normal =>
      simp only
      rw [fin_item (by simp)]
      simp only [itemX]
    | _ =>
      simp only
      rw [fin_skip (by simp) (by simp)]

-- operations
noncomputable def stepE (M : Mach R) (ops : Array Oper) (dst : Option Tmp) (rest : List Oper) (k : List Kt) (σ : AState) : Option Eff → Option R
  | some e => pcond e.pre (run M (.ops ops rest :: k) (σ.app dst e))
  | none => none
noncomputable def stepA (M : Mach R) (ops : Array Oper) (dst : Option Tmp) (rest : List Oper) (k : List Kt) (σ : AState) : Option (AV × List AObj) → Option R
  | some (r, H') => run M (.ops ops rest :: k) (AState.put { σ with heap := H' } dst r)
  | none => none
noncomputable def stepC (M : Mach R) (ops : Array Oper) (o : Oper) (rest : List Oper) (k : List Kt) (σ : AState) : Option (FuncId × List AV) → Option R
  | some (f, args) => stepA M ops o.dst rest k σ (M.cl f args σ.heap)
  | none => stepE M ops o.dst rest k σ (opEff M.P σ o.op)
noncomputable def stepW (M : Mach R) (ops : Array Oper) (o : Oper) (rest : List Oper) (k : List Kt) (σ : AState) : Option Bool → Option R
  | none => none
  | some b => bif b then stepC M ops o rest k (gset ops o true σ) (calleeOf (gset ops o true σ) o.op) else run M (.ops ops rest :: k) ((gset ops o false σ).put o.dst (.raw undef))

theorem run_ops {ops : Array Oper} {o : Oper} {rest : List Oper} : run M (.ops ops (o :: rest) :: k) σ = stepW M ops o rest k σ (wantedA ops o σ) := by
  have hr : ∀ σ, run M (.ops ops rest :: k) σ = match execOps M ops rest σ with | some σ' => fin M k .normal σ' | none => none := by
    intro σ
    show fin M (.ops ops rest :: k) .normal σ = _
    rw [fin_item (by simp)]
    simp only [itemX]
    cases execOps M ops rest σ <;> rfl
  have hl : run M (.ops ops (o :: rest) :: k) σ = match execOps M ops (o :: rest) σ with | some σ' => fin M k .normal σ' | none => none := by
    show fin M (.ops ops (o :: rest) :: k) .normal σ = _
    rw [fin_item (by simp)]
    simp only [itemX]
    cases execOps M ops (o :: rest) σ <;> rfl
  rw [hl]
  simp only [execOps]
  cases hw : wantedA ops o σ with
  | none => rfl
  | some b =>
    simp only [stepW]
    cases b with
    | false => simp only [cond_false, hr]
    | true =>
      simp only [cond_true]
      cases hc : calleeOf (gset ops o true σ) o.op with
      | some q =>
        obtain ⟨f, args⟩ := q
        simp only [stepC]
        cases ha : M.cl f args (gset ops o true σ).heap with
        | none => simp only [stepA]
        | some q => obtain ⟨r, H'⟩ := q; simp only [stepA, hr]
      | none =>
        simp only [stepC]
        cases he : opEff M.P (gset ops o true σ) o.op with
        | none => simp only [stepE]
        | some e =>
          simp only [stepE, hr]
          by_cases hp : e.pre
          · simp only [pcond, if_pos hp]
          · simp only [pcond, if_neg hp]

theorem stepW_true {ops : Array Oper} {o : Oper} {rest : List Oper} : stepW M ops o rest k σ (some true) = stepC M ops o rest k (gset ops o true σ) (calleeOf (gset ops o true σ) o.op) := rfl
theorem stepW_false {ops : Array Oper} {o : Oper} {rest : List Oper} : stepW M ops o rest k σ (some false) = run M (.ops ops rest :: k) ((gset ops o false σ).put o.dst (.raw undef)) := rfl
theorem stepW_sym {ops : Array Oper} {o : Oper} {rest : List Oper} {b : Bool} : stepW M ops o rest k σ (some b) = bif b then stepC M ops o rest k (gset ops o true σ) (calleeOf (gset ops o true σ) o.op) else run M (.ops ops rest :: k) ((gset ops o false σ).put o.dst (.raw undef)) := rfl
theorem stepC_some {ops : Array Oper} {o : Oper} {rest : List Oper} {f : FuncId} {args : List AV} : stepC M ops o rest k σ (some (f, args)) = stepA M ops o.dst rest k σ (M.cl f args σ.heap) := rfl
theorem stepC_none {ops : Array Oper} {o : Oper} {rest : List Oper} : stepC M ops o rest k σ none = stepE M ops o.dst rest k σ (opEff M.P σ o.op) := rfl
theorem stepE_none {ops : Array Oper} {dst : Option Tmp} {rest : List Oper} : stepE M ops dst rest k σ none = none := rfl
theorem stepE_some {ops : Array Oper} {dst : Option Tmp} {rest : List Oper} {x : AV} {rd : List Nat} {up : List (Nat × AObj)} {nw : List AObj} {p : Prop} :
    stepE M ops dst rest k σ (some { val := x, rd, up, nw, pre := p }) = pcond p (run M (.ops ops rest :: k) { σ.put dst x with heap := applyUps σ.heap up ++ nw }) := rfl
theorem stepE_bind {ops : Array Oper} {dst : Option Tmp} {rest : List Oper} {α : Type} {o : Option α} {f : α → Option Eff} : stepE M ops dst rest k σ (o.bind f) = o.bind fun x => stepE M ops dst rest k σ (f x) := by
  cases o <;> rfl
theorem stepE_ite {ops : Array Oper} {dst : Option Tmp} {rest : List Oper} {p : Prop} [Decidable p] {a b : Option Eff} : stepE M ops dst rest k σ (if p then a else b) = bif decide p then stepE M ops dst rest k σ a else stepE M ops dst rest k σ b := by
  by_cases h : p <;> simp [h]
theorem stepA_some {ops : Array Oper} {dst : Option Tmp} {rest : List Oper} {r : AV} {H' : List AObj} : stepA M ops dst rest k σ (some (r, H')) = run M (.ops ops rest :: k) (AState.put { σ with heap := H' } dst r) := rfl
theorem stepA_none {ops : Array Oper} {dst : Option Tmp} {rest : List Oper} : stepA M ops dst rest k σ none = none := rfl
theorem stepA_bind {ops : Array Oper} {dst : Option Tmp} {rest : List Oper} {α : Type} {o : Option α} {f : α → Option (AV × List AObj)} : stepA M ops dst rest k σ (o.bind f) = o.bind fun x => stepA M ops dst rest k σ (f x) := by
  cases o <;> rfl

/-- May operation j follow those that were carried out. -/
def compatP (M : Mach R) (p : List Nat) (tr : List Tr) (j : Nat) (e : Eff) : Prop := compatC (opsAt M p) tr j e
def ordP (M : Mach R) (p : List Nat) (i j : Nat) : Bool := ordB (opsAt M p) i j
theorem compatP_eq {p : List Nat} {tr : List Tr} {j : Nat} {e : Eff} : compatP M p tr j e = (e.idle = true ∨ (tr.all fun t => indepB t e || ordP M p t.j j) = true) := rfl

noncomputable def stepDE (M : Mach R) (p : List Nat) (dst : Option Tmp) (rest : List Oper) (j : Nat) (tr : List Tr) (k : List Kt) (σ : AState) : Option Eff → Option R
  | some e => pcond (e.pre ∧ compatP M p tr j e) (run M (.dops p rest (j + 1) (pushTr tr j σ.heap.length e) :: k) (σ.app dst e))
  | none => none
noncomputable def stepDA (M : Mach R) (p : List Nat) (dst : Option Tmp) (rest : List Oper) (j : Nat) (tr : List Tr) (k : List Kt) (σ : AState) : Option AV → Option R
  | some r => run M (.dops p rest (j + 1) tr :: k) (σ.put dst r)
  | none => none
noncomputable def stepDC (M : Mach R) (p : List Nat) (o : Oper) (rest : List Oper) (j : Nat) (tr : List Tr) (k : List Kt) (σ : AState) : Option (FuncId × List AV) → Option R
  | some (f, args) => stepDA M p o.dst rest j tr k σ (M.cd f args)
  | none => stepDE M p o.dst rest j tr k σ (opEff M.P σ o.op)
noncomputable def stepDW (M : Mach R) (p : List Nat) (o : Oper) (rest : List Oper) (j : Nat) (tr : List Tr) (k : List Kt) (σ : AState) : Option Bool → Option R
  | none => none
  | some b => bif b then stepDC M p o rest j tr k (gset (opsAt M p) o true σ) (calleeOf (gset (opsAt M p) o true σ) o.op) else run M (.dops p rest (j + 1) tr :: k) ((gset (opsAt M p) o false σ).put o.dst (.raw undef))

theorem run_dops {p : List Nat} {o : Oper} {rest : List Oper} {j : Nat} {tr : List Tr} : run M (.dops p (o :: rest) j tr :: k) σ = stepDW M p o rest j tr k σ (wantedA (opsAt M p) o σ) := by
  have hr : ∀ j tr σ, run M (.dops p rest j tr :: k) σ = match execD M (opsAt M p) rest j tr σ with | some σ' => fin M k .normal σ' | none => none := by
    intro j tr σ
    show fin M (.dops p rest j tr :: k) .normal σ = _
    rw [fin_item (by simp)]
    simp only [itemX]
    cases execD M (opsAt M p) rest j tr σ <;> rfl
  have hl : run M (.dops p (o :: rest) j tr :: k) σ = match execD M (opsAt M p) (o :: rest) j tr σ with | some σ' => fin M k .normal σ' | none => none := by
    show fin M (.dops p (o :: rest) j tr :: k) .normal σ = _
    rw [fin_item (by simp)]
    simp only [itemX]
    cases execD M (opsAt M p) (o :: rest) j tr σ <;> rfl
  rw [hl]
  simp only [execD]
  cases hw : wantedA (opsAt M p) o σ with
  | none => rfl
  | some b =>
    simp only [stepDW]
    cases b with
    | false => simp only [cond_false, hr]
    | true =>
      simp only [cond_true]
      cases hc : calleeOf (gset (opsAt M p) o true σ) o.op with
      | some q =>
        obtain ⟨f, args⟩ := q
        simp only [stepDC]
        cases ha : M.cd f args with
        | none => simp only [stepDA]
        | some r => simp only [stepDA, hr]
      | none =>
        simp only [stepDC]
        cases he : opEff M.P (gset (opsAt M p) o true σ) o.op with
        | none => simp only [stepDE]
        | some e =>
          simp only [stepDE, hr]
          have hpe : (e.pre ∧ compatP M p tr j e) = (e.pre ∧ compatC (opsAt M p) tr j e) := rfl
          rw [hpe]
          by_cases hp : e.pre ∧ compatC (opsAt M p) tr j e
          · simp only [pcond, if_pos hp]
          · simp only [pcond, if_neg hp]

theorem stepDW_true {p : List Nat} {o : Oper} {rest : List Oper} {j : Nat} {tr : List Tr} : stepDW M p o rest j tr k σ (some true) = stepDC M p o rest j tr k (gset (opsAt M p) o true σ) (calleeOf (gset (opsAt M p) o true σ) o.op) := rfl
theorem stepDW_false {p : List Nat} {o : Oper} {rest : List Oper} {j : Nat} {tr : List Tr} : stepDW M p o rest j tr k σ (some false) = run M (.dops p rest (j + 1) tr :: k) ((gset (opsAt M p) o false σ).put o.dst (.raw undef)) := rfl
theorem stepDW_sym {p : List Nat} {o : Oper} {rest : List Oper} {j : Nat} {tr : List Tr} {b : Bool} : stepDW M p o rest j tr k σ (some b) = bif b then stepDC M p o rest j tr k (gset (opsAt M p) o true σ) (calleeOf (gset (opsAt M p) o true σ) o.op) else run M (.dops p rest (j + 1) tr :: k) ((gset (opsAt M p) o false σ).put o.dst (.raw undef)) := rfl
theorem stepDC_some {p : List Nat} {o : Oper} {rest : List Oper} {j : Nat} {tr : List Tr} {f : FuncId} {args : List AV} : stepDC M p o rest j tr k σ (some (f, args)) = stepDA M p o.dst rest j tr k σ (M.cd f args) := rfl
theorem stepDC_none {p : List Nat} {o : Oper} {rest : List Oper} {j : Nat} {tr : List Tr} : stepDC M p o rest j tr k σ none = stepDE M p o.dst rest j tr k σ (opEff M.P σ o.op) := rfl
theorem stepDE_none {p : List Nat} {dst : Option Tmp} {rest : List Oper} {j : Nat} {tr : List Tr} : stepDE M p dst rest j tr k σ none = none := rfl
/-- An effect that touches no named object: nothing is to be compared. -/
theorem stepDE_idle {p : List Nat} {dst : Option Tmp} {rest : List Oper} {j : Nat} {tr : List Tr} {x : AV} {pr : Prop} :
    stepDE M p dst rest j tr k σ (some { val := x, rd := [], up := [], nw := [], pre := pr }) = pcond pr (run M (.dops p rest (j + 1) tr :: k) (σ.put dst x)) := by
  simp only [stepDE, compatP, compatC, Eff.idle, pushTr, List.isEmpty_nil, Bool.and_true, true_or, and_true, cond_true]
  rw [app_val]
theorem stepDE_some {p : List Nat} {dst : Option Tmp} {rest : List Oper} {j : Nat} {tr : List Tr} {x : AV} {rd : List Nat} {up : List (Nat × AObj)} {nw : List AObj} {pr : Prop} :
    stepDE M p dst rest j tr k σ (some { val := x, rd, up, nw, pre := pr }) = pcond pr (pcond (compatP M p tr j { val := x, rd, up, nw, pre := pr }) (run M (.dops p rest (j + 1) (pushTr tr j σ.heap.length { val := x, rd, up, nw, pre := pr }) :: k) { σ.put dst x with heap := applyUps σ.heap up ++ nw })) := by
  rw [← pcond_and]; rfl
theorem stepDE_bind {p : List Nat} {dst : Option Tmp} {rest : List Oper} {j : Nat} {tr : List Tr} {α : Type} {o : Option α} {f : α → Option Eff} : stepDE M p dst rest j tr k σ (o.bind f) = o.bind fun x => stepDE M p dst rest j tr k σ (f x) := by
  cases o <;> rfl
theorem stepDE_ite {p : List Nat} {dst : Option Tmp} {rest : List Oper} {j : Nat} {tr : List Tr} {pr : Prop} [Decidable pr] {a b : Option Eff} : stepDE M p dst rest j tr k σ (if pr then a else b) = bif decide pr then stepDE M p dst rest j tr k σ a else stepDE M p dst rest j tr k σ b := by
  by_cases h : pr <;> simp [h]
theorem stepDA_some {p : List Nat} {dst : Option Tmp} {rest : List Oper} {j : Nat} {tr : List Tr} {r : AV} : stepDA M p dst rest j tr k σ (some r) = run M (.dops p rest (j + 1) tr :: k) (σ.put dst r) := rfl
theorem stepDA_none {p : List Nat} {dst : Option Tmp} {rest : List Oper} {j : Nat} {tr : List Tr} : stepDA M p dst rest j tr k σ none = none := rfl
theorem stepDA_bind {p : List Nat} {dst : Option Tmp} {rest : List Oper} {j : Nat} {tr : List Tr} {α : Type} {o : Option α} {f : α → Option AV} : stepDA M p dst rest j tr k σ (o.bind f) = o.bind fun x => stepDA M p dst rest j tr k σ (f x) := by
  cases o <;> rfl

/-- What a run answers is what the body does. -/
theorem run_sound (G : Good M) {r : R} {Q : AExit → AState → Prop} (h : run M [.at []] σ = some r) (hQ : ∀ σ', M.out σ' = some r → Q .normal σ' ∧ Q .ret σ') : awp M.P M.body Q σ := by
  have h' : fin M [.at []] .normal σ = some r := h
  rw [fin_item (by simp)] at h'
  simp only [itemX, sub] at h'
  cases hx : exec M M.body [] σ with
  | none => simp only [hx] at h'; cases h'
  | some q =>
    obtain ⟨e, σ'⟩ := q
    simp only [hx] at h'
    refine exec_sound G _ [] Q σ e σ' hx ?_
    cases e with
    | normal => exact (hQ σ' h').1
    | ret => exact (hQ σ' h').2
    | _ => simp only [fin] at h'; cases h'

/-- A contract, out of a run. -/
theorem fnC_run {f : FuncId} {fn : Func} {args : List AV} {V : AV → Prop} {r : R} {n : Nat} {rs : List ResultVar} (G : Good M) (hf : M.P.funcs[f]? = some fn) (hb : fn.body = some M.body) (hne : (fn.name != "runtime.NumGoroutine") = true) (hnb : nbL 0 args)
    (hn : fn.ntmps = n) (hrs : fn.results = rs.toArray) (hout : ∀ σ, M.out σ = some r → endV V σ.heap (resAV M.P σ rs))
    (h : run M [.at []] { slots := args ++ List.replicate (n - args.length) .any, heap := [] } = some r) : FnC M.P f args V := by
  refine fnC_of_body hf hb hne hnb ?_
  rw [hrs, hn]
  refine run_sound G h fun σ' hs => ?_
  have := hout σ' hs
  exact ⟨this, this⟩
end
end Go.Abs

/- Plain data out of abstract values; states in a canonical form; what callees answer, as plain functions. -/
namespace Go.Abs

section lists
variable {α β γ : Type}

def mapO (f : β → Option α) : List β → Option (List α)
  | [] => some []
  | x :: xs => (f x).bind fun y => (mapO f xs).bind fun ys => some (y :: ys)

theorem mapO_nil (f : β → Option α) : mapO f [] = some [] := rfl
theorem mapO_cons (f : β → Option α) (x : β) (xs : List β) : mapO f (x :: xs) = (f x).bind fun y => (mapO f xs).bind fun ys => some (y :: ys) := rfl
theorem mapO_append (f : β → Option α) : ∀ a b : List β, mapO f (a ++ b) = (mapO f a).bind fun x => (mapO f b).bind fun y => some (x ++ y)
  | [], b => by cases h : mapO f b <;> simp [mapO, h]
  | x :: a, b => by
    simp only [List.cons_append, mapO, mapO_append f a b]
    cases f x <;> simp
    cases mapO f a <;> simp
    cases mapO f b <;> simp
theorem mapO_map {f : β → Option α} {g : α → β} (h : ∀ x, f (g x) = some x) : ∀ xs : List α, mapO f (xs.map g) = some xs
  | [] => rfl
  | x :: xs => by simp [mapO, h x, mapO_map h xs]

/-- Rows of plain data. -/
def mp (f : α → β) (xs : List α) : List β := xs.map f
theorem mp_eq (f : α → β) (xs : List α) : mp f xs = xs.map f := rfl
attribute [irreducible] mp
theorem mp_length (f : α → β) (xs : List α) : (mp f xs).length = xs.length := by rw [mp_eq, List.length_map]
theorem mp_take (f : α → β) (xs : List α) (n : Nat) : (mp f xs).take n = mp f (xs.take n) := by rw [mp_eq, mp_eq, List.map_take]
theorem mp_drop (f : α → β) (xs : List α) (n : Nat) : (mp f xs).drop n = mp f (xs.drop n) := by rw [mp_eq, mp_eq, List.map_drop]
theorem mp_isEmpty (f : α → β) (xs : List α) : (mp f xs).isEmpty = xs.isEmpty := by rw [mp_eq]; cases xs <;> rfl
theorem mapO_mp {f : β → Option α} {g : α → β} (h : ∀ x, f (g x) = some x) (xs : List α) : mapO f (mp g xs) = some xs := by rw [mp_eq]; exact mapO_map h xs

theorem bind_map' {f : α → β} {g : β → Option γ} {o : Option α} : (Option.map f o).bind g = o.bind fun x => g (f x) := by cases o <;> rfl
theorem bind_bind' {f : α → Option β} {g : β → Option γ} {o : Option α} : (o.bind f).bind g = o.bind fun x => (f x).bind g := by cases o <;> rfl
theorem bind_cond {f : α → Option β} {b : Bool} {x y : Option α} : (bif b then x else y).bind f = bif b then x.bind f else y.bind f := by cases b <;> rfl
theorem bind_none' {f : α → Option β} : (none : Option α).bind f = none := rfl
theorem bind_some' {f : α → Option β} {x : α} : (some x).bind f = f x := rfl

/-- An element, by an integer. -/
def idxA (xs : List α) (n : Int) : Option α := if 0 ≤ n then xs[n.toNat]? else none
theorem idxA_mp {f : α → β} {xs : List α} {n : Int} : idxA (mp f xs) n = Option.map f (idxA xs n) := by
  rw [mp_eq]; unfold idxA; split <;> simp
theorem idxA_zero {x : α} {xs : List α} : idxA (x :: xs) 0 = some x := rfl
theorem idxA_one {x y : α} {xs : List α} : idxA (x :: y :: xs) 1 = some y := rfl
theorem idxA_two {x y z : α} {xs : List α} : idxA (x :: y :: z :: xs) 2 = some z := rfl
end lists

/-- Cells that say no more than others, one by one. -/
def SubE : List AV → List AV → Prop
  | [], ys => ys = []
  | x :: xs, ys => ∃ y zs, ys = y :: zs ∧ Sub x y ∧ SubE xs zs
theorem SubE.nil : SubE [] [] := rfl
theorem SubE.cons {x y : AV} {xs ys : List AV} (h : Sub x y) (hs : SubE xs ys) : SubE (x :: xs) (y :: ys) := ⟨y, ys, rfl, h, hs⟩
theorem SubE.subL : ∀ {xs ys : List AV}, SubE xs ys → SubL xs ys
  | [], _, rfl => SubL.nil
  | _ :: _, _, ⟨_, _, rfl, h, hs⟩ => SubL.cons h (SubE.subL hs)
theorem SubE.subM : ∀ {xs ys : List AV}, SubE xs ys → SubM xs ys
  | [], _, rfl => SubM.nil
  | _ :: _, _, ⟨_, _, rfl, h, hs⟩ => SubM.cons h (SubE.subM hs)
theorem SubE.length : ∀ {xs ys : List AV}, SubE xs ys → xs.length = ys.length
  | [], _, rfl => rfl
  | _ :: _, _, ⟨_, _, rfl, _, hs⟩ => by simp [SubE.length hs]
theorem SubE.append : ∀ {xs ys us vs : List AV}, SubE xs ys → SubE us vs → SubE (xs ++ us) (ys ++ vs)
  | [], _, _, _, rfl, h => h
  | _ :: _, _, _, _, ⟨y, zs, rfl, h, hs⟩, h2 => ⟨y, zs ++ _, rfl, h, SubE.append hs h2⟩
theorem CoL1.nil {H : List AObj} {n : Nat} : CoL1 H n [] [] := rfl
theorem CoL1.cons {H : List AObj} {n : Nat} {x y : AV} {xs ys : List AV} (h : Co1 H n x y) (hs : CoL1 H n xs ys) : CoL1 H n (x :: xs) (y :: ys) := ⟨y, ys, rfl, h, hs⟩
theorem CoL1.append {H : List AObj} {n : Nat} : ∀ {xs ys us vs : List AV}, CoL1 H n xs ys → CoL1 H n us vs → CoL1 H n (xs ++ us) (ys ++ vs)
  | [], _, _, _, rfl, h => h
  | _ :: _, _, _, _, ⟨y, zs, rfl, h, hs⟩, h2 => ⟨y, zs ++ _, rfl, h, CoL1.append hs h2⟩
theorem Co1.toSub {n : Nat} {x y : AV} (h : Co1 [] n x y) : Sub x y := by
  rcases h with h | ⟨l, m, sz, rows, _, hl, _⟩
  · exact h.1
  · simp at hl
theorem CoL1.toSub {n : Nat} : ∀ {xs ys : List AV}, CoL1 [] n xs ys → SubE xs ys
  | [], _, rfl => rfl
  | _ :: _, _, ⟨y, zs, rfl, h, hs⟩ => ⟨y, zs, rfl, h.toSub, CoL1.toSub hs⟩
theorem Co.toSub {n : Nat} {x y : AV} (h : Co [] n x y) : Sub x y := by
  rcases h with h | ⟨cs, ds, rfl, rfl, h⟩
  · exact h.toSub
  · exact Sub.agg h.toSub.subL
theorem CoL1.toCoL {H : List AObj} {n : Nat} : ∀ {xs ys : List AV}, CoL1 H n xs ys → CoL H n xs ys
  | [], _, rfl => rfl
  | _ :: _, _, ⟨y, zs, rfl, h, hs⟩ => ⟨y, zs, rfl, .inl h, CoL1.toCoL hs⟩

/-- A type of plain data, as rows of slices. -/
structure Row (α : Type) where
  enc : α → List AV
  dec : List AV → Option α
  sz : Nat
  ok : ∀ r x, dec r = some x → SubE r (enc x)
  nb : ∀ n x, nbL n (enc x)

/-- A type of plain data, as values. -/
structure Ty (α : Type) where
  enc : α → AV
  dec : List AObj → AV → Option α
  ok : ∀ H n v x, dec H v = some x → Co H n v (enc x)
  nb : ∀ n x, (enc x).nb n

section rows
variable {α : Type}

def szOK (sz k : Nat) (rows : List (List AV)) : Bool := sz == k || rows.isEmpty

def dL (r : Row α) (H : List AObj) : AV → Option (List α)
  | .lst _ sz rows => bif szOK sz r.sz rows then mapO r.dec rows else none
  | .acc l n => match H[l]? with
    | some (.acc true sz rows) => bif (rows.length == n) && szOK sz r.sz rows then mapO r.dec rows else none
    | _ => none
  | _ => none

theorem mapO_rows {r : Row α} : ∀ {rows : List (List AV)} {xs : List α}, mapO r.dec rows = some xs → SubR rows (mp r.enc xs) ∧ RowsSub rows (mp r.enc xs)
  | [], xs, h => by
    simp only [mapO, Option.some.injEq] at h
    subst h
    rw [mp_eq]
    exact ⟨SubR.nil, rfl⟩
  | c :: rows, xs, h => by
    simp only [mapO, Option.bind_eq_some_iff, Option.some.injEq] at h
    obtain ⟨y, hy, ys, hys, rfl⟩ := h
    obtain ⟨h1, h2⟩ := mapO_rows hys
    have h3 := r.ok _ _ hy
    rw [mp_eq] at h1 h2 ⊢
    exact ⟨SubR.cons h3.subM h1, _, _, rfl, ⟨h3.length, h3.subL⟩, h2⟩

theorem nbR_rows {r : Row α} {n : Nat} : ∀ xs : List α, nbR n (mp r.enc xs)
  | [] => by rw [mp_eq]; trivial
  | x :: xs => by have := nbR_rows (r := r) (n := n) xs; rw [mp_eq] at this ⊢; exact ⟨r.nb n x, this⟩

theorem sub_lst_sz {t : Bool} {sz k : Nat} {rows rows' : List (List AV)} (h : szOK sz k rows = true) (hs : SubR rows rows') : Sub (.lst t sz rows) (.lst false k rows') := by
  unfold szOK at h
  simp only [Bool.or_eq_true, beq_iff_eq, List.isEmpty_iff] at h
  rcases h with rfl | rfl
  · exact Sub.lst hs
  · have : rows' = [] := List.eq_nil_of_length_eq_zero hs.1.symm
    subst this
    exact Sub.empty _ _ _

theorem dL_ok {r : Row α} {H : List AObj} {n : Nat} {v : AV} {xs : List α} (h : dL r H v = some xs) : Co1 H n v (.lst false r.sz (mp r.enc xs)) := by
  unfold dL at h
  split at h
  · rename_i t sz rows
    cases hs : szOK sz r.sz rows with
    | false => simp [hs] at h
    | true =>
      simp only [hs, cond_true] at h
      exact .inl ⟨sub_lst_sz hs (mapO_rows h).1, nbR_rows xs⟩
  · rename_i l m
    split at h
    · rename_i sz rows hl
      cases hs : szOK sz r.sz rows with
      | false => simp [hs] at h
      | true =>
        cases hm : (rows.length == m) with
        | false => simp [hm] at h
        | true =>
          simp only [hs, hm, Bool.and_self, cond_true] at h
          exact .inr ⟨l, m, sz, rows, rfl, hl, by simpa using hm, sub_lst_sz hs (mapO_rows h).1, nbR_rows xs⟩
    · cases h
  · cases h

def tyL (r : Row α) : Ty (List α) where
  enc xs := .lst false r.sz (mp r.enc xs)
  dec := dL r
  ok _ _ _ _ h := .inl (dL_ok h)
  nb _ xs := nbR_rows xs
theorem tyL_enc {r : Row α} {xs : List α} : (tyL r).enc xs = .lst false r.sz (mp r.enc xs) := rfl
theorem tyL_dec {r : Row α} {H : List AObj} {v : AV} : (tyL r).dec H v = dL r H v := rfl
end rows

/-- Bytes. -/
def sb (s : List UInt8) : ByteArray := ⟨s.toArray⟩
abbrev Str := List UInt8

def dI (k : IntKind) : AV → Option Int
  | .int k' n => if k' = k then some n else none
  | _ => none
def dB : AV → Option Bool
  | .bool b => some b
  | _ => none
def dS : AV → Option Str
  | .str b => some b.data.toList
  | _ => none
theorem dI_ok {k : IntKind} {H : List AObj} {n : Nat} {v : AV} {x : Int} (h : dI k v = some x) : Co1 H n v (.int k x) := by
  unfold dI at h
  split at h
  · split at h
    · cases h; rename_i e; subst e; exact Co1.sub (Sub.refl _) trivial
    · cases h
  · cases h
theorem dB_ok {H : List AObj} {n : Nat} {v : AV} {x : Bool} (h : dB v = some x) : Co1 H n v (.bool x) := by
  unfold dB at h
  split at h
  · cases h; exact Co1.sub (Sub.refl _) trivial
  · cases h
theorem sb_data (b : ByteArray) : sb b.data.toList = b := by
  cases b; rfl
theorem dS_ok {H : List AObj} {n : Nat} {v : AV} {x : Str} (h : dS v = some x) : Co1 H n v (.str (sb x)) := by
  unfold dS at h
  split at h
  · cases h; rw [sb_data]; exact Co1.sub (Sub.refl _) trivial
  · cases h
theorem dS_sb (s : Str) : dS (.str (sb s)) = some s := rfl
theorem dI_int (k : IntKind) (n : Int) : dI k (.int k n) = some n := by simp [dI]
theorem dB_bool (b : Bool) : dB (.bool b) = some b := rfl
theorem dS_empty : dS (.str ByteArray.empty) = some [] := rfl
theorem dS_emptyL : dS (.str ⟨#[]⟩) = some [] := rfl

def tyI (k : IntKind) : Ty Int := ⟨.int k, fun _ => dI k, fun _ _ _ _ h => .inl (dI_ok h), fun _ _ => trivial⟩
def tyB : Ty Bool := ⟨.bool, fun _ => dB, fun _ _ _ _ h => .inl (dB_ok h), fun _ _ => trivial⟩
def tyS : Ty Str := ⟨fun s => .str (sb s), fun _ => dS, fun _ _ _ _ h => .inl (dS_ok h), fun _ _ => trivial⟩
theorem tyI_enc {k : IntKind} {x : Int} : (tyI k).enc x = .int k x := rfl
theorem tyI_dec {k : IntKind} {H : List AObj} {v : AV} : (tyI k).dec H v = dI k v := rfl
theorem tyB_enc {x : Bool} : tyB.enc x = .bool x := rfl
theorem tyB_dec {H : List AObj} {v : AV} : tyB.dec H v = dB v := rfl
theorem tyS_enc {x : Str} : tyS.enc x = .str (sb x) := rfl
theorem tyS_dec {H : List AObj} {v : AV} : tyS.dec H v = dS v := rfl

/-- A function, as a value. -/
def dF (f : FuncId) : AV → Option Unit
  | .func (.func g) [] [] => if g = f then some () else none
  | _ => none
theorem dF_lit (f : FuncId) : dF f (.func (.func f) [] []) = some () := by simp [dF]
def tyF (f : FuncId) : Ty Unit where
  enc _ := .func (.func f) [] []
  dec _ := dF f
  ok H n v x h := by
    unfold dF at h
    split at h
    · split at h
      · rename_i e; subst e; exact Co.same ⟨trivial, trivial⟩
      · cases h
    · cases h
  nb _ _ := ⟨trivial, trivial⟩
theorem tyF_enc {f : FuncId} {x : Unit} : (tyF f).enc x = .func (.func f) [] [] := rfl
theorem tyF_dec {f : FuncId} {H : List AObj} {v : AV} : (tyF f).dec H v = dF f v := rfl

/-- Rows of one cell. -/
def row1 {α : Type} (e : α → AV) (d : AV → Option α) (h : ∀ v x, d v = some x → Sub v (e x)) (hn : ∀ n x, (e x).nb n) : Row α where
  enc x := [e x]
  dec
    | [c] => d c
    | _ => none
  sz := 1
  ok r x hr := by
    split at hr
    · exact SubE.cons (h _ _ hr) SubE.nil
    · cases hr
  nb n x := ⟨hn n x, trivial⟩

def icell (n : Int) : List AV := [.int .i64 n]
def scell (s : Str) : List AV := [.str (sb s)]
def bcell (b : Bool) : List AV := [.bool b]
def ucell (n : Int) : List AV := [.int .u8 n]
def dI1 (k : IntKind) : List AV → Option Int
  | [c] => dI k c
  | _ => none
def dB1 : List AV → Option Bool
  | [c] => dB c
  | _ => none
def dS1 : List AV → Option Str
  | [c] => dS c
  | _ => none
def rowI : Row Int where
  enc := icell
  dec := dI1 .i64
  sz := 1
  ok r x h := by
    unfold dI1 at h
    split at h
    · exact SubE.cons (dI_ok (H := []) (n := 0) h).toSub SubE.nil
    · cases h
  nb _ _ := ⟨trivial, trivial⟩
def rowU : Row Int where
  enc := ucell
  dec := dI1 .u8
  sz := 1
  ok r x h := by
    unfold dI1 at h
    split at h
    · exact SubE.cons (dI_ok (H := []) (n := 0) h).toSub SubE.nil
    · cases h
  nb _ _ := ⟨trivial, trivial⟩
def rowB : Row Bool where
  enc := bcell
  dec := dB1
  sz := 1
  ok r x h := by
    unfold dB1 at h
    split at h
    · exact SubE.cons (dB_ok (H := []) (n := 0) h).toSub SubE.nil
    · cases h
  nb _ _ := ⟨trivial, trivial⟩
def rowS : Row Str where
  enc := scell
  dec := dS1
  sz := 1
  ok r x h := by
    unfold dS1 at h
    split at h
    · exact SubE.cons (dS_ok (H := []) (n := 0) h).toSub SubE.nil
    · cases h
  nb _ _ := ⟨trivial, trivial⟩
theorem rowI_f : rowI.enc = icell ∧ rowI.dec = dI1 .i64 ∧ rowI.sz = 1 := ⟨rfl, rfl, rfl⟩
theorem rowU_f : rowU.enc = ucell ∧ rowU.dec = dI1 .u8 ∧ rowU.sz = 1 := ⟨rfl, rfl, rfl⟩
theorem rowB_f : rowB.enc = bcell ∧ rowB.dec = dB1 ∧ rowB.sz = 1 := ⟨rfl, rfl, rfl⟩
theorem rowS_f : rowS.enc = scell ∧ rowS.dec = dS1 ∧ rowS.sz = 1 := ⟨rfl, rfl, rfl⟩
theorem mapO_cells1 : (∀ xs : List Int, mapO (dI1 .i64) (mp icell xs) = some xs) ∧ (∀ xs : List Int, mapO (dI1 .u8) (mp ucell xs) = some xs) ∧ (∀ xs : List Bool, mapO dB1 (mp bcell xs) = some xs) ∧ ∀ xs : List Str, mapO dS1 (mp scell xs) = some xs :=
  ⟨mapO_mp fun x => by simp [dI1, icell, dI], mapO_mp fun x => by simp [dI1, ucell, dI], mapO_mp fun x => rfl, mapO_mp fun x => rfl⟩

/-- A struct type of plain data. -/
structure Cel (α : Type) where
  enc : α → List AV
  dec : List AObj → List AV → Option α
  ok : ∀ H n cs x, dec H cs = some x → CoL1 H n cs (enc x)
  nb : ∀ n x, nbL n (enc x)

section cel
variable {α : Type}
def dC (c : Cel α) (H : List AObj) : AV → Option α
  | .agg cs => c.dec H cs
  | _ => none
def tyC (c : Cel α) : Ty α where
  enc x := .agg (c.enc x)
  dec := dC c
  ok H n v x h := by
    unfold dC at h
    split at h
    · exact .inr ⟨_, _, rfl, rfl, c.ok H n _ _ h⟩
    · cases h
  nb n x := c.nb n x
theorem tyC_enc {c : Cel α} {x : α} : (tyC c).enc x = .agg (c.enc x) := rfl
theorem tyC_dec {c : Cel α} {H : List AObj} {v : AV} : (tyC c).dec H v = dC c H v := rfl
end cel

/-- Results. -/
def tyU : Ty Unit where
  enc _ := .tup []
  dec _
    | .tup [] => some ()
    | _ => none
  ok H n v x h := by
    split at h
    · exact Co.same trivial
    · cases h
  nb _ _ := trivial
theorem tyU_enc {x : Unit} : tyU.enc x = .tup [] := rfl
theorem tyU_dec {H : List AObj} : tyU.dec H (.tup []) = some () := rfl

section tuples
variable {α β γ δ ε : Type}
def d2 (a : Ty α) (b : Ty β) : AV → Option (α × β)
  | .tup [x, y] => (a.dec [] x).bind fun u => (b.dec [] y).bind fun v => some (u, v)
  | _ => none
def d3 (a : Ty α) (b : Ty β) (c : Ty γ) : AV → Option (α × β × γ)
  | .tup [x, y, z] => (a.dec [] x).bind fun u => (b.dec [] y).bind fun v => (c.dec [] z).bind fun w => some (u, v, w)
  | _ => none
def d4 (a : Ty α) (b : Ty β) (c : Ty γ) (d : Ty δ) : AV → Option (α × β × γ × δ)
  | .tup [x, y, z, p] => (a.dec [] x).bind fun u => (b.dec [] y).bind fun v => (c.dec [] z).bind fun w => (d.dec [] p).bind fun q => some (u, v, w, q)
  | _ => none
def d5 (a : Ty α) (b : Ty β) (c : Ty γ) (d : Ty δ) (e : Ty ε) : AV → Option (α × β × γ × δ × ε)
  | .tup [x, y, z, p, s] => (a.dec [] x).bind fun u => (b.dec [] y).bind fun v => (c.dec [] z).bind fun w => (d.dec [] p).bind fun q => (e.dec [] s).bind fun t => some (u, v, w, q, t)
  | _ => none
def ty2 (a : Ty α) (b : Ty β) : Ty (α × β) where
  enc x := .tup [a.enc x.1, b.enc x.2]
  dec _ := d2 a b
  ok H n v x h := by
    unfold d2 at h
    split at h
    · simp only [Option.bind_eq_some_iff, Option.some.injEq] at h
      obtain ⟨u, hu, w, hw, rfl⟩ := h
      exact Co.sub (Sub.tup (SubL.cons (a.ok [] 0 _ _ hu).toSub (SubL.cons (b.ok [] 0 _ _ hw).toSub SubL.nil))) ⟨a.nb n u, b.nb n w, trivial⟩
    · cases h
  nb n x := ⟨a.nb n _, b.nb n _, trivial⟩
def ty3 (a : Ty α) (b : Ty β) (c : Ty γ) : Ty (α × β × γ) where
  enc x := .tup [a.enc x.1, b.enc x.2.1, c.enc x.2.2]
  dec _ := d3 a b c
  ok H n v x h := by
    unfold d3 at h
    split at h
    · simp only [Option.bind_eq_some_iff, Option.some.injEq] at h
      obtain ⟨u, hu, w, hw, p, hp, rfl⟩ := h
      exact Co.sub (Sub.tup (SubL.cons (a.ok [] 0 _ _ hu).toSub (SubL.cons (b.ok [] 0 _ _ hw).toSub (SubL.cons (c.ok [] 0 _ _ hp).toSub SubL.nil)))) ⟨a.nb n u, b.nb n w, c.nb n p, trivial⟩
    · cases h
  nb n x := ⟨a.nb n _, b.nb n _, c.nb n _, trivial⟩
def ty4 (a : Ty α) (b : Ty β) (c : Ty γ) (d : Ty δ) : Ty (α × β × γ × δ) where
  enc x := .tup [a.enc x.1, b.enc x.2.1, c.enc x.2.2.1, d.enc x.2.2.2]
  dec _ := d4 a b c d
  ok H n v x h := by
    unfold d4 at h
    split at h
    · simp only [Option.bind_eq_some_iff, Option.some.injEq] at h
      obtain ⟨u, hu, w, hw, p, hp, q, hq, rfl⟩ := h
      exact Co.sub (Sub.tup (SubL.cons (a.ok [] 0 _ _ hu).toSub (SubL.cons (b.ok [] 0 _ _ hw).toSub (SubL.cons (c.ok [] 0 _ _ hp).toSub (SubL.cons (d.ok [] 0 _ _ hq).toSub SubL.nil))))) ⟨a.nb n u, b.nb n w, c.nb n p, d.nb n q, trivial⟩
    · cases h
  nb n x := ⟨a.nb n _, b.nb n _, c.nb n _, d.nb n _, trivial⟩
def ty5 (a : Ty α) (b : Ty β) (c : Ty γ) (d : Ty δ) (e : Ty ε) : Ty (α × β × γ × δ × ε) where
  enc x := .tup [a.enc x.1, b.enc x.2.1, c.enc x.2.2.1, d.enc x.2.2.2.1, e.enc x.2.2.2.2]
  dec _ := d5 a b c d e
  ok H n v x h := by
    unfold d5 at h
    split at h
    · simp only [Option.bind_eq_some_iff, Option.some.injEq] at h
      obtain ⟨u, hu, w, hw, p, hp, q, hq, s, hs, rfl⟩ := h
      exact Co.sub (Sub.tup (SubL.cons (a.ok [] 0 _ _ hu).toSub (SubL.cons (b.ok [] 0 _ _ hw).toSub (SubL.cons (c.ok [] 0 _ _ hp).toSub (SubL.cons (d.ok [] 0 _ _ hq).toSub (SubL.cons (e.ok [] 0 _ _ hs).toSub SubL.nil)))))) ⟨a.nb n u, b.nb n w, c.nb n p, d.nb n q, e.nb n s, trivial⟩
    · cases h
  nb n x := ⟨a.nb n _, b.nb n _, c.nb n _, d.nb n _, e.nb n _, trivial⟩
theorem ty2_enc {a : Ty α} {b : Ty β} {x : α × β} : (ty2 a b).enc x = .tup [a.enc x.1, b.enc x.2] := rfl
theorem ty2_dec {a : Ty α} {b : Ty β} {H : List AObj} {v : AV} : (ty2 a b).dec H v = d2 a b v := rfl
theorem ty3_enc {a : Ty α} {b : Ty β} {c : Ty γ} {x : α × β × γ} : (ty3 a b c).enc x = .tup [a.enc x.1, b.enc x.2.1, c.enc x.2.2] := rfl
theorem ty3_dec {a : Ty α} {b : Ty β} {c : Ty γ} {H : List AObj} {v : AV} : (ty3 a b c).dec H v = d3 a b c v := rfl
theorem ty4_enc {a : Ty α} {b : Ty β} {c : Ty γ} {d : Ty δ} {x : α × β × γ × δ} : (ty4 a b c d).enc x = .tup [a.enc x.1, b.enc x.2.1, c.enc x.2.2.1, d.enc x.2.2.2] := rfl
theorem ty4_dec {a : Ty α} {b : Ty β} {c : Ty γ} {d : Ty δ} {H : List AObj} {v : AV} : (ty4 a b c d).dec H v = d4 a b c d v := rfl
theorem ty5_enc {a : Ty α} {b : Ty β} {c : Ty γ} {d : Ty δ} {e : Ty ε} {x : α × β × γ × δ × ε} : (ty5 a b c d e).enc x = .tup [a.enc x.1, b.enc x.2.1, c.enc x.2.2.1, d.enc x.2.2.2.1, e.enc x.2.2.2.2] := rfl
theorem ty5_dec {a : Ty α} {b : Ty β} {c : Ty γ} {d : Ty δ} {e : Ty ε} {H : List AObj} {v : AV} : (ty5 a b c d e).dec H v = d5 a b c d e v := rfl
end tuples

/-- What is read off at a function's end. -/
noncomputable def outR {ρ : Type} (P : Program) (rs : List ResultVar) (t : Ty ρ) (σ : AState) : Option ρ :=
  (resAV P σ rs).bind fun x => pcond ((frz 0 σ.heap x).nb 0) (t.dec [] (frz 0 σ.heap x))

theorem outR_ok {ρ : Type} {P : Program} {rs : List ResultVar} {t : Ty ρ} {σ : AState} {r : ρ} (h : outR P rs t σ = some r) : endV (fun v => v = t.enc r) σ.heap (resAV P σ rs) := by
  unfold outR at h
  cases hx : resAV P σ rs with
  | none => rw [hx] at h; cases h
  | some x =>
    rw [hx] at h
    simp only [Option.bind_some] at h
    rw [pcond_some] at h
    exact ⟨h.1, _, (t.ok [] 0 _ _ h.2).toSub, rfl⟩

-- what callees answer
abbrev Ent := List AV → List AObj → Option (AV × List AObj)
abbrev EntD := List AV → Option AV

section entries
variable {α β γ δ ε ζ ρ : Type}
def ent0 (t : Ty ρ) (F : Option ρ) : Ent
  | [], H => F.bind fun r => some (t.enc r, H)
  | _, _ => none
def ent1 (a : Ty α) (t : Ty ρ) (F : α → Option ρ) : Ent
  | [x], H => (a.dec H x).bind fun x => (F x).bind fun r => some (t.enc r, H)
  | _, _ => none
def ent2 (a : Ty α) (b : Ty β) (t : Ty ρ) (F : α → β → Option ρ) : Ent
  | [x, y], H => (a.dec H x).bind fun x => (b.dec H y).bind fun y => (F x y).bind fun r => some (t.enc r, H)
  | _, _ => none
def ent3 (a : Ty α) (b : Ty β) (c : Ty γ) (t : Ty ρ) (F : α → β → γ → Option ρ) : Ent
  | [x, y, z], H => (a.dec H x).bind fun x => (b.dec H y).bind fun y => (c.dec H z).bind fun z => (F x y z).bind fun r => some (t.enc r, H)
  | _, _ => none
def ent4 (a : Ty α) (b : Ty β) (c : Ty γ) (d : Ty δ) (t : Ty ρ) (F : α → β → γ → δ → Option ρ) : Ent
  | [x, y, z, u], H => (a.dec H x).bind fun x => (b.dec H y).bind fun y => (c.dec H z).bind fun z => (d.dec H u).bind fun u => (F x y z u).bind fun r => some (t.enc r, H)
  | _, _ => none
def ent5 (a : Ty α) (b : Ty β) (c : Ty γ) (d : Ty δ) (e : Ty ε) (t : Ty ρ) (F : α → β → γ → δ → ε → Option ρ) : Ent
  | [x, y, z, u, v], H => (a.dec H x).bind fun x => (b.dec H y).bind fun y => (c.dec H z).bind fun z => (d.dec H u).bind fun u => (e.dec H v).bind fun v => (F x y z u v).bind fun r => some (t.enc r, H)
  | _, _ => none
def ent6 (a : Ty α) (b : Ty β) (c : Ty γ) (d : Ty δ) (e : Ty ε) (f : Ty ζ) (t : Ty ρ) (F : α → β → γ → δ → ε → ζ → Option ρ) : Ent
  | [x, y, z, u, v, w], H => (a.dec H x).bind fun x => (b.dec H y).bind fun y => (c.dec H z).bind fun z => (d.dec H u).bind fun u => (e.dec H v).bind fun v => (f.dec H w).bind fun w => (F x y z u v w).bind fun r => some (t.enc r, H)
  | _, _ => none
/-- An entry, where no names are handed over. -/
noncomputable def entD (e : Ent) : EntD := fun args => pcond (nbL 0 args) ((e args []).bind fun r => some r.1)

def EntOK (P : Program) (f : FuncId) (e : Ent) : Prop := ∀ args σ r H', e args σ.heap = some (r, H') → CallA P f args σ (fun o H'' => o = .ret r ∧ H'' = H')
def EntDOK (P : Program) (f : FuncId) (e : EntD) : Prop := ∀ args r, e args = some r → FnC P f args (fun v => v = r)

variable {P : Program} {f : FuncId} {a : Ty α} {b : Ty β} {c : Ty γ} {d : Ty δ} {e : Ty ε} {g : Ty ζ} {t : Ty ρ}

theorem CoL.tySub {xs ys : List AV} : ∀ {n : Nat}, CoL [] n xs ys → SubL xs ys := by
  induction xs generalizing ys with
  | nil => rintro _ rfl; exact SubL.nil
  | cons x xs ih => rintro n ⟨y, zs, rfl, h, hs⟩; exact SubL.cons h.toSub (ih hs)

theorem ent0_ok {F : Option ρ} (h : ∀ r, F = some r → FnC P f [] (fun v => v = t.enc r)) : EntOK P f (ent0 t F) := by
  intro args σ r H' he
  unfold ent0 at he
  split at he
  · simp only [Option.bind_eq_some_iff, Option.some.injEq, Prod.mk.injEq] at he
    obtain ⟨r', hr, rfl, rfl⟩ := he
    exact callA_co (n := 0) (h r' hr) CoL.nil
  · cases he
theorem ent1_ok {F : α → Option ρ} (h : ∀ x r, F x = some r → FnC P f [a.enc x] (fun v => v = t.enc r)) : EntOK P f (ent1 a t F) := by
  intro args σ r H' he
  unfold ent1 at he
  split at he
  · simp only [Option.bind_eq_some_iff, Option.some.injEq, Prod.mk.injEq] at he
    obtain ⟨x, hx, r', hr, rfl, rfl⟩ := he
    exact callA_co (n := 0) (h x r' hr) (CoL.cons (a.ok _ 0 _ _ hx) CoL.nil)
  · cases he
theorem ent2_ok {F : α → β → Option ρ} (h : ∀ x y r, F x y = some r → FnC P f [a.enc x, b.enc y] (fun v => v = t.enc r)) : EntOK P f (ent2 a b t F) := by
  intro args σ r H' he
  unfold ent2 at he
  split at he
  · simp only [Option.bind_eq_some_iff, Option.some.injEq, Prod.mk.injEq] at he
    obtain ⟨x, hx, y, hy, r', hr, rfl, rfl⟩ := he
    exact callA_co (n := 0) (h x y r' hr) (CoL.cons (a.ok _ 0 _ _ hx) (CoL.cons (b.ok _ 0 _ _ hy) CoL.nil))
  · cases he
theorem ent3_ok {F : α → β → γ → Option ρ} (h : ∀ x y z r, F x y z = some r → FnC P f [a.enc x, b.enc y, c.enc z] (fun v => v = t.enc r)) : EntOK P f (ent3 a b c t F) := by
  intro args σ r H' he
  unfold ent3 at he
  split at he
  · simp only [Option.bind_eq_some_iff, Option.some.injEq, Prod.mk.injEq] at he
    obtain ⟨x, hx, y, hy, z, hz, r', hr, rfl, rfl⟩ := he
    exact callA_co (n := 0) (h x y z r' hr) (CoL.cons (a.ok _ 0 _ _ hx) (CoL.cons (b.ok _ 0 _ _ hy) (CoL.cons (c.ok _ 0 _ _ hz) CoL.nil)))
  · cases he
theorem ent4_ok {F : α → β → γ → δ → Option ρ} (h : ∀ x y z u r, F x y z u = some r → FnC P f [a.enc x, b.enc y, c.enc z, d.enc u] (fun v => v = t.enc r)) : EntOK P f (ent4 a b c d t F) := by
  intro args σ r H' he
  unfold ent4 at he
  split at he
  · simp only [Option.bind_eq_some_iff, Option.some.injEq, Prod.mk.injEq] at he
    obtain ⟨x, hx, y, hy, z, hz, u, hu, r', hr, rfl, rfl⟩ := he
    exact callA_co (n := 0) (h x y z u r' hr) (CoL.cons (a.ok _ 0 _ _ hx) (CoL.cons (b.ok _ 0 _ _ hy) (CoL.cons (c.ok _ 0 _ _ hz) (CoL.cons (d.ok _ 0 _ _ hu) CoL.nil))))
  · cases he
theorem ent5_ok {F : α → β → γ → δ → ε → Option ρ} (h : ∀ x y z u v r, F x y z u v = some r → FnC P f [a.enc x, b.enc y, c.enc z, d.enc u, e.enc v] (fun w => w = t.enc r)) : EntOK P f (ent5 a b c d e t F) := by
  intro args σ r H' he
  unfold ent5 at he
  split at he
  · simp only [Option.bind_eq_some_iff, Option.some.injEq, Prod.mk.injEq] at he
    obtain ⟨x, hx, y, hy, z, hz, u, hu, v, hv, r', hr, rfl, rfl⟩ := he
    exact callA_co (n := 0) (h x y z u v r' hr) (CoL.cons (a.ok _ 0 _ _ hx) (CoL.cons (b.ok _ 0 _ _ hy) (CoL.cons (c.ok _ 0 _ _ hz) (CoL.cons (d.ok _ 0 _ _ hu) (CoL.cons (e.ok _ 0 _ _ hv) CoL.nil)))))
  · cases he
theorem ent6_ok {F : α → β → γ → δ → ε → ζ → Option ρ} (h : ∀ x y z u v w r, F x y z u v w = some r → FnC P f [a.enc x, b.enc y, c.enc z, d.enc u, e.enc v, g.enc w] (fun w => w = t.enc r)) : EntOK P f (ent6 a b c d e g t F) := by
  intro args σ r H' he
  unfold ent6 at he
  split at he
  · simp only [Option.bind_eq_some_iff, Option.some.injEq, Prod.mk.injEq] at he
    obtain ⟨x, hx, y, hy, z, hz, u, hu, v, hv, w, hw, r', hr, rfl, rfl⟩ := he
    exact callA_co (n := 0) (h x y z u v w r' hr) (CoL.cons (a.ok _ 0 _ _ hx) (CoL.cons (b.ok _ 0 _ _ hy) (CoL.cons (c.ok _ 0 _ _ hz) (CoL.cons (d.ok _ 0 _ _ hu) (CoL.cons (e.ok _ 0 _ _ hv) (CoL.cons (g.ok _ 0 _ _ hw) CoL.nil))))))
  · cases he
theorem ent0_okD {F : Option ρ} (h : ∀ r, F = some r → FnC P f [] (fun w => w = t.enc r)) : EntDOK P f (entD (ent0  t F)) := by
  intro args r he
  unfold entD at he
  rw [pcond_some] at he
  obtain ⟨hnb, he⟩ := he
  unfold ent0 at he
  split at he
  · simp only [Option.bind_eq_some_iff, Option.some.injEq, Prod.exists, Prod.mk.injEq] at he
    obtain ⟨_, _, ⟨r', hr, rfl, rfl⟩, rfl⟩ := he
    exact fnC_sub (h  r' hr) (SubL.nil) hnb
  · cases he
theorem ent1_okD {F : α → Option ρ} (h : ∀ x r, F x = some r → FnC P f [a.enc x] (fun w => w = t.enc r)) : EntDOK P f (entD (ent1 a t F)) := by
  intro args r he
  unfold entD at he
  rw [pcond_some] at he
  obtain ⟨hnb, he⟩ := he
  unfold ent1 at he
  split at he
  · simp only [Option.bind_eq_some_iff, Option.some.injEq, Prod.exists, Prod.mk.injEq] at he
    obtain ⟨_, _, ⟨x, hx, r', hr, rfl, rfl⟩, rfl⟩ := he
    exact fnC_sub (h x r' hr) (SubL.cons (a.ok _ 0 _ _ hx).toSub SubL.nil) hnb
  · cases he
theorem ent2_okD {F : α → β → Option ρ} (h : ∀ x y r, F x y = some r → FnC P f [a.enc x, b.enc y] (fun w => w = t.enc r)) : EntDOK P f (entD (ent2 a b t F)) := by
  intro args r he
  unfold entD at he
  rw [pcond_some] at he
  obtain ⟨hnb, he⟩ := he
  unfold ent2 at he
  split at he
  · simp only [Option.bind_eq_some_iff, Option.some.injEq, Prod.exists, Prod.mk.injEq] at he
    obtain ⟨_, _, ⟨x, hx, y, hy, r', hr, rfl, rfl⟩, rfl⟩ := he
    exact fnC_sub (h x y r' hr) (SubL.cons (a.ok _ 0 _ _ hx).toSub (SubL.cons (b.ok _ 0 _ _ hy).toSub SubL.nil)) hnb
  · cases he
theorem ent3_okD {F : α → β → γ → Option ρ} (h : ∀ x y z r, F x y z = some r → FnC P f [a.enc x, b.enc y, c.enc z] (fun w => w = t.enc r)) : EntDOK P f (entD (ent3 a b c t F)) := by
  intro args r he
  unfold entD at he
  rw [pcond_some] at he
  obtain ⟨hnb, he⟩ := he
  unfold ent3 at he
  split at he
  · simp only [Option.bind_eq_some_iff, Option.some.injEq, Prod.exists, Prod.mk.injEq] at he
    obtain ⟨_, _, ⟨x, hx, y, hy, z, hz, r', hr, rfl, rfl⟩, rfl⟩ := he
    exact fnC_sub (h x y z r' hr) (SubL.cons (a.ok _ 0 _ _ hx).toSub (SubL.cons (b.ok _ 0 _ _ hy).toSub (SubL.cons (c.ok _ 0 _ _ hz).toSub SubL.nil))) hnb
  · cases he
theorem ent4_okD {F : α → β → γ → δ → Option ρ} (h : ∀ x y z u r, F x y z u = some r → FnC P f [a.enc x, b.enc y, c.enc z, d.enc u] (fun w => w = t.enc r)) : EntDOK P f (entD (ent4 a b c d t F)) := by
  intro args r he
  unfold entD at he
  rw [pcond_some] at he
  obtain ⟨hnb, he⟩ := he
  unfold ent4 at he
  split at he
  · simp only [Option.bind_eq_some_iff, Option.some.injEq, Prod.exists, Prod.mk.injEq] at he
    obtain ⟨_, _, ⟨x, hx, y, hy, z, hz, u, hu, r', hr, rfl, rfl⟩, rfl⟩ := he
    exact fnC_sub (h x y z u r' hr) (SubL.cons (a.ok _ 0 _ _ hx).toSub (SubL.cons (b.ok _ 0 _ _ hy).toSub (SubL.cons (c.ok _ 0 _ _ hz).toSub (SubL.cons (d.ok _ 0 _ _ hu).toSub SubL.nil)))) hnb
  · cases he
theorem ent5_okD {F : α → β → γ → δ → ε → Option ρ} (h : ∀ x y z u v r, F x y z u v = some r → FnC P f [a.enc x, b.enc y, c.enc z, d.enc u, e.enc v] (fun w => w = t.enc r)) : EntDOK P f (entD (ent5 a b c d e t F)) := by
  intro args r he
  unfold entD at he
  rw [pcond_some] at he
  obtain ⟨hnb, he⟩ := he
  unfold ent5 at he
  split at he
  · simp only [Option.bind_eq_some_iff, Option.some.injEq, Prod.exists, Prod.mk.injEq] at he
    obtain ⟨_, _, ⟨x, hx, y, hy, z, hz, u, hu, v, hv, r', hr, rfl, rfl⟩, rfl⟩ := he
    exact fnC_sub (h x y z u v r' hr) (SubL.cons (a.ok _ 0 _ _ hx).toSub (SubL.cons (b.ok _ 0 _ _ hy).toSub (SubL.cons (c.ok _ 0 _ _ hz).toSub (SubL.cons (d.ok _ 0 _ _ hu).toSub (SubL.cons (e.ok _ 0 _ _ hv).toSub SubL.nil))))) hnb
  · cases he
theorem ent6_okD {F : α → β → γ → δ → ε → ζ → Option ρ} (h : ∀ x y z u v w r, F x y z u v w = some r → FnC P f [a.enc x, b.enc y, c.enc z, d.enc u, e.enc v, g.enc w] (fun w => w = t.enc r)) : EntDOK P f (entD (ent6 a b c d e g t F)) := by
  intro args r he
  unfold entD at he
  rw [pcond_some] at he
  obtain ⟨hnb, he⟩ := he
  unfold ent6 at he
  split at he
  · simp only [Option.bind_eq_some_iff, Option.some.injEq, Prod.exists, Prod.mk.injEq] at he
    obtain ⟨_, _, ⟨x, hx, y, hy, z, hz, u, hu, v, hv, w, hw, r', hr, rfl, rfl⟩, rfl⟩ := he
    exact fnC_sub (h x y z u v w r' hr) (SubL.cons (a.ok _ 0 _ _ hx).toSub (SubL.cons (b.ok _ 0 _ _ hy).toSub (SubL.cons (c.ok _ 0 _ _ hz).toSub (SubL.cons (d.ok _ 0 _ _ hu).toSub (SubL.cons (e.ok _ 0 _ _ hv).toSub (SubL.cons (g.ok _ 0 _ _ hw).toSub SubL.nil)))))) hnb
  · cases he
end entries

def tabA : List (Nat × Ent) → FuncId → List AV → List AObj → Option (AV × List AObj)
  | [], _, _, _ => none
  | (g, e) :: t, f, args, H => if f = g then e args H else tabA t f args H
def tabD : List (Nat × EntD) → FuncId → List AV → Option AV
  | [], _, _ => none
  | (g, e) :: t, f, args => if f = g then e args else tabD t f args
theorem tabA_nil_ok {P : Program} : ∀ f args (σ : AState) r H', tabA [] f args σ.heap = some (r, H') → CallA P f args σ (fun o H'' => o = .ret r ∧ H'' = H') := by
  intro f args σ r H' h; cases h
theorem tabA_cons_ok {P : Program} {g : Nat} {e : Ent} {t : List (Nat × Ent)} (h1 : EntOK P g e) (h2 : ∀ f args (σ : AState) r H', tabA t f args σ.heap = some (r, H') → CallA P f args σ (fun o H'' => o = .ret r ∧ H'' = H')) :
    ∀ f args (σ : AState) r H', tabA ((g, e) :: t) f args σ.heap = some (r, H') → CallA P f args σ (fun o H'' => o = .ret r ∧ H'' = H') := by
  intro f args σ r H' h
  simp only [tabA] at h
  split at h
  · rename_i hg; subst hg; exact h1 _ _ _ _ h
  · exact h2 _ _ _ _ _ h
theorem tabD_nil_ok {P : Program} : ∀ f args r, tabD [] f args = some r → FnC P f args (fun v => v = r) := by
  intro f args r h; cases h
theorem tabD_cons_ok {P : Program} {g : Nat} {e : EntD} {t : List (Nat × EntD)} (h1 : EntDOK P g e) (h2 : ∀ f args r, tabD t f args = some r → FnC P f args (fun v => v = r)) :
    ∀ f args r, tabD ((g, e) :: t) f args = some r → FnC P f args (fun v => v = r) := by
  intro f args r h
  simp only [tabD] at h
  split at h
  · rename_i hg; subst hg; exact h1 _ _ h
  · exact h2 _ _ _ h

-- canonical forms
/-- What is made of a slot: of the objects, of the number of names that stay, of the value. -/
structure NZ where
  f : List AObj → Nat → AV → Option AV
  ok : ∀ H n v v', f H n v = some v' → Co H n v v'
structure ZO where
  f : List AObj → Nat → AObj → Option AObj
  ok : ∀ H n x y, f H n x = some y → CoObj H n x y

def zA : NZ := ⟨fun _ _ _ => some .any, fun _ _ _ _ h => by cases h; exact Co.any⟩
noncomputable def zK : NZ := ⟨fun _ n v => pcond (v.nb n) (some v), fun _ _ _ _ h => by rw [pcond_some] at h; obtain ⟨h1, h2⟩ := h; cases h2; exact Co.same h1⟩
def zT {α : Type} (t : Ty α) : NZ := ⟨fun H _ v => (t.dec H v).bind fun x => some (t.enc x), fun H n v v' h => by
  simp only [Option.bind_eq_some_iff, Option.some.injEq] at h
  obtain ⟨x, hx, rfl⟩ := h
  exact t.ok H n v x hx⟩
theorem zA_f {H : List AObj} {n : Nat} {v : AV} : zA.f H n v = some .any := rfl
theorem zK_f {H : List AObj} {n : Nat} {v : AV} : zK.f H n v = pcond (v.nb n) (some v) := rfl
theorem zT_f {α : Type} {t : Ty α} {H : List AObj} {n : Nat} {v : AV} : (zT t).f H n v = (t.dec H v).bind fun x => some (t.enc x) := rfl

def zipZ : List NZ → List AObj → Nat → List AV → Option (List AV)
  | [], _, _, [] => some []
  | z :: zs, H, n, v :: vs => (z.f H n v).bind fun u => (zipZ zs H n vs).bind fun us => some (u :: us)
  | _, _, _, _ => none
theorem zipZ_ok : ∀ {zs : List NZ} {H : List AObj} {n : Nat} {vs us : List AV}, zipZ zs H n vs = some us → CoL H n vs us
  | [], _, _, [], us, h => by simp only [zipZ, Option.some.injEq] at h; subst h; rfl
  | z :: zs, H, n, v :: vs, us, h => by
    simp only [zipZ, Option.bind_eq_some_iff, Option.some.injEq] at h
    obtain ⟨u, hu, ws, hws, rfl⟩ := h
    exact CoL.cons (z.ok _ _ _ _ hu) (zipZ_ok hws)
  | [], _, _, _ :: _, _, h => by simp [zipZ] at h
  | _ :: _, _, _, [], _, h => by simp [zipZ] at h

def oD : ZO := ⟨fun _ _ _ => some .dead, fun _ _ _ _ h => by cases h; exact .inl rfl⟩
noncomputable def oK : ZO := ⟨fun _ n x => pcond (objNb n x) (some x), fun _ _ _ _ h => by rw [pcond_some] at h; obtain ⟨h1, h2⟩ := h; cases h2; exact .inr (.inl ⟨rfl, h1⟩)⟩
def oCf (zs : List NZ) (H : List AObj) (n : Nat) : AObj → Option AObj
  | .cells cs => (zipZ zs H n cs).bind fun ds => some (.cells ds)
  | _ => none
def oC (zs : List NZ) : ZO := ⟨oCf zs, fun H n x y h => by
  unfold oCf at h
  split at h
  · simp only [Option.bind_eq_some_iff, Option.some.injEq] at h
    obtain ⟨ds, hd, rfl⟩ := h
    exact .inr (.inr (.inl ⟨_, _, rfl, rfl, zipZ_ok hd⟩))
  · cases h⟩
def oTf {α : Type} (c : Cel α) (H : List AObj) : AObj → Option AObj
  | .cells cs => (c.dec H cs).bind fun x => some (.cells (c.enc x))
  | _ => none
def oT {α : Type} (c : Cel α) : ZO := ⟨fun H _ => oTf c H, fun H n x y h => by
  unfold oTf at h
  split at h
  · simp only [Option.bind_eq_some_iff, Option.some.injEq] at h
    obtain ⟨z, hz, rfl⟩ := h
    exact .inr (.inr (.inl ⟨_, _, rfl, rfl, (c.ok H n _ _ hz).toCoL⟩))
  · cases h⟩
def oAf {α : Type} (r : Row α) : AObj → Option AObj
  | .acc imm sz rows => (mapO r.dec rows).bind fun xs => some (.acc imm sz (mp r.enc xs))
  | _ => none
def oA {α : Type} (r : Row α) : ZO := ⟨fun _ _ => oAf r, fun H n x y h => by
  unfold oAf at h
  split at h
  · simp only [Option.bind_eq_some_iff, Option.some.injEq] at h
    obtain ⟨xs, hx, rfl⟩ := h
    exact .inr (.inr (.inr ⟨_, _, _, _, rfl, rfl, (mapO_rows hx).2, nbR_rows xs⟩))
  · cases h⟩
theorem oD_f {H : List AObj} {n : Nat} {x : AObj} : oD.f H n x = some .dead := rfl
theorem oK_f {H : List AObj} {n : Nat} {x : AObj} : oK.f H n x = pcond (objNb n x) (some x) := rfl
theorem oC_f {zs : List NZ} {H : List AObj} {n : Nat} {cs : List AV} : (oC zs).f H n (.cells cs) = (zipZ zs H n cs).bind fun ds => some (.cells ds) := rfl
theorem oT_f {α : Type} {c : Cel α} {H : List AObj} {n : Nat} {cs : List AV} : (oT c).f H n (.cells cs) = (c.dec H cs).bind fun x => some (.cells (c.enc x)) := rfl
theorem oA_f {α : Type} {r : Row α} {H : List AObj} {n : Nat} {imm : Bool} {sz : Nat} {rows : List (List AV)} : (oA r).f H n (.acc imm sz rows) = (mapO r.dec rows).bind fun xs => some (.acc imm sz (mp r.enc xs)) := rfl

def zipO : List ZO → List AObj → Nat → List AObj → Option (List AObj)
  | [], _, _, _ => some []
  | z :: zs, H, n, v :: vs => (z.f H n v).bind fun u => (zipO zs H n vs).bind fun us => some (u :: us)
  | _ :: _, _, _, [] => none
theorem zipO_ok : ∀ {zs : List ZO} {H : List AObj} {n : Nat} {vs us : List AObj}, zipO zs H n vs = some us → CoH H n vs us ∧ us.length = zs.length
  | [], _, _, vs, us, h => by simp only [zipO, Option.some.injEq] at h; subst h; exact ⟨CoH.nil, rfl⟩
  | z :: zs, H, n, v :: vs, us, h => by
    simp only [zipO, Option.bind_eq_some_iff, Option.some.injEq] at h
    obtain ⟨u, hu, ws, hws, rfl⟩ := h
    obtain ⟨h1, h2⟩ := zipO_ok hws
    exact ⟨⟨z.ok _ _ _ _ hu, h1⟩, by simp [h2]⟩
  | _ :: _, _, _, [], _, h => by simp [zipO] at h

def nrmZ (zs : List NZ) (zo : List ZO) (σ : AState) : Option AState :=
  (zipZ zs σ.heap zo.length σ.slots).bind fun ss => (zipO zo σ.heap zo.length σ.heap).bind fun hs => bif decide (σ.low ≤ zo.length) then some ⟨ss, hs, σ.low⟩ else none
theorem nrmZ_ok {zs : List NZ} {zo : List ZO} {σ σ' : AState} (h : nrmZ zs zo σ = some σ') : Imp σ σ' := by
  unfold nrmZ at h
  simp only [Option.bind_eq_some_iff] at h
  obtain ⟨ss, h1, hs, h2, h3⟩ := h
  cases hl : decide (σ.low ≤ zo.length) with
  | false => simp [hl] at h3
  | true =>
    simp only [hl, cond_true, Option.some.injEq] at h3
    subst h3
    obtain ⟨h4, h5⟩ := zipO_ok h2
    have hle : σ.low ≤ hs.length := by rw [h5]; exact of_decide_eq_true hl
    refine Weak.imp ⟨⟨rfl, hle⟩, ?_, ?_⟩
    · show CoL σ.heap hs.length σ.slots ss
      rw [h5]; exact zipZ_ok h1
    · show CoH σ.heap hs.length σ.heap hs
      rw [h5]; exact h4

/-- A nil slice that is going to be appended to gets a name. -/
def gSlot (i sz : Nat) (imm : Bool) (σ : AState) : AState :=
  match σ.slots[i]? with
  | some (.lst true _ []) => { slots := σ.slots.set i (.acc σ.heap.length 0), heap := σ.heap ++ [.acc imm sz []], low := σ.low }
  | _ => σ
theorem gSlot_ok {i sz : Nat} {imm : Bool} {σ : AState} : Imp σ (gSlot i sz imm σ) := by
  unfold gSlot
  split
  · rename_i s h
    exact ghostAcc h
  · exact Imp.refl σ
end Go.Abs

/- Names for nil slices in cells; forms of operations that may fail; the rules by which bodies are carried out, as one set. -/
namespace Go.Abs

section ghost
variable {C : Ctx} {φ : Nat → Value} {σ : AState} {a : Act} {w : World}

theorem muts_cells {cs ds : List AV} {h : Value} {b o : Nat} : (AObj.cells cs).muts h b o → (AObj.cells ds).muts h b o := by
  intro hm
  cases h with
  | pointer p => cases p <;> exact hm
  | _ => exact hm
theorem block_cells {cs ds : List AV} {h : Value} {b : Nat} : (AObj.cells cs).block h b → (AObj.cells ds).block h b := by
  intro hm
  cases h with
  | pointer p => cases p <;> exact hm
  | _ => exact hm

theorem set_get {H : List AObj} {l : Nat} {cs ds : List AV} (hl : H[l]? = some (.cells cs)) {k : Nat} {x : AObj} (hx : (H.set l (.cells ds))[k]? = some x) : (k = l ∧ x = .cells ds) ∨ (k ≠ l ∧ H[k]? = some x) := by
  by_cases e : k = l
  · subst e
    have hlt : k < H.length := (List.getElem?_eq_some_iff.1 hl).1
    rw [List.getElem?_set_self hlt] at hx
    cases hx; exact .inl ⟨rfl, rfl⟩
  · rw [List.getElem?_set_ne (fun h => e h.symm)] at hx
    exact .inr ⟨e, hx⟩

theorem recell_env {l : Nat} {cs ds : List AV} (hl : σ.heap[l]? = some (.cells cs)) : C.env φ (σ.heap.set l (.cells ds)) w = C.env φ σ.heap w := by
  have hlt : l < σ.heap.length := (List.getElem?_eq_some_iff.1 hl).1
  have hmu : ∀ b o, Mut φ (σ.heap.set l (.cells ds)) b o ↔ Mut φ σ.heap b o := by
    intro b o
    constructor
    · rintro ⟨k, x, hx, hm⟩
      rcases set_get hl hx with ⟨rfl, rfl⟩ | ⟨_, hx⟩
      · exact ⟨k, _, hl, muts_cells hm⟩
      · exact ⟨k, x, hx, hm⟩
    · rintro ⟨k, x, hx, hm⟩
      by_cases e : k = l
      · subst e
        rw [hl] at hx; cases hx
        exact ⟨k, _, List.getElem?_set_self hlt, muts_cells hm⟩
      · exact ⟨k, x, by rw [List.getElem?_set_ne (fun h => e h.symm)]; exact hx, hm⟩
  unfold Ctx.env
  congr 1
  · funext b o
    exact propext (or_congr (hmu b o) Iff.rfl)
  · funext k
    by_cases e : k = l
    · subst e; rw [List.getElem?_set_self hlt, hl]; rfl
    · rw [List.getElem?_set_ne (fun h => e h.symm)]
  · exact List.length_set

/-- The cells of an object, seen in another way. -/
theorem Sim.recell (S : Sim C φ σ a w) {l : Nat} {cs ds : List AV} (hl : σ.heap[l]? = some (.cells cs)) (h : ∀ b c t, φ l = .pointer (some ⟨b, 0, none⟩) → w.heap[b]? = some (.cells c t (0, 0)) → RepL (C.env φ σ.heap w) cs c.toList → RepL (C.env φ σ.heap w) ds c.toList) :
    Sim C φ { σ with heap := σ.heap.set l (.cells ds) } a w := by
  have hlt : l < σ.heap.length := (List.getElem?_eq_some_iff.1 hl).1
  have henv : C.env φ (σ.heap.set l (.cells ds)) w = C.env φ σ.heap w := recell_env hl
  refine { slots := ?_, defers := S.defers, objs := ?_, apart := ?_, notA := ?_, size := S.size, old := S.old, oldObj := S.oldObj, inM := ?_, froz := S.froz, rest := S.rest, low := ⟨S.low.1, by show σ.low ≤ (σ.heap.set l (.cells ds)).length; rw [List.length_set]; exact S.low.2⟩, names := ?_ }
  · show RepL (C.env φ (σ.heap.set l (.cells ds)) w) σ.slots a.tmps.toList
    rw [henv]; exact S.slots
  · intro k x hx
    show ObjRep (C.env φ (σ.heap.set l (.cells ds)) w) x (φ k)
    rw [henv]
    rcases set_get hl hx with ⟨rfl, rfl⟩ | ⟨_, hx⟩
    · obtain ⟨b, c, t, h1, h2, h3, h4⟩ := S.objs k _ hl
      exact ⟨b, c, t, h1, h2, h b c t h1 h2 h3, h4⟩
    · exact S.objs k x hx
  · intro k k' x x' b hx hx' hb hb'
    rcases set_get hl hx with ⟨e1, rfl⟩ | ⟨_, h2⟩ <;> rcases set_get hl hx' with ⟨e2, rfl⟩ | ⟨_, h3⟩
    · rw [e1, e2]
    · rw [e1] at hb ⊢; exact S.apart _ _ _ _ b hl h3 (block_cells hb) hb'
    · rw [e2] at hb' ⊢; exact S.apart _ _ _ _ b h2 hl hb (block_cells hb')
    · exact S.apart _ _ _ _ b h2 h3 hb hb'
  · intro k x b o hx hb
    rcases set_get hl hx with ⟨rfl, rfl⟩ | ⟨_, hx⟩
    · exact S.notA _ _ b o hl (block_cells hb)
    · exact S.notA _ _ b o hx hb
  · intro k x b o hx hm hb
    rcases set_get hl hx with ⟨rfl, rfl⟩ | ⟨_, hx⟩
    · exact S.inM _ _ b o hl (muts_cells hm) hb
    · exact S.inM _ _ b o hx hm hb
  · intro k hk
    have := S.names k hk
    show (φ k = _ ∧ (accLen (σ.heap.set l (.cells ds))[k]? = _ ∨ accLen (σ.heap.set l (.cells ds))[k]? = none)) ∨ ((∃ q, _ ∧ ∀ k', accLen (σ.heap.set l (.cells ds))[k]? = some k' → q < k') ∧ _)
    have e : accLen (σ.heap.set l (.cells ds))[k]? = accLen σ.heap[k]? := by
      by_cases e : k = l
      · subst e; rw [List.getElem?_set_self hlt, hl]; rfl
      · rw [List.getElem?_set_ne (fun h => e h.symm)]
    rw [e]; exact this

theorem ghostCell {l off s sz : Nat} {cs : List AV} (hl : σ.heap[l]? = some (.cells cs)) (hc : cs[off]? = some (.lst true s [])) :
    Imp σ { slots := σ.slots, heap := σ.heap.set l (.cells (cs.set off (.acc σ.heap.length 0))) ++ [.acc true sz []], low := σ.low } := by
  intro C φ a w S
  have hlt : l < σ.heap.length := (List.getElem?_eq_some_iff.1 hl).1
  obtain ⟨b, c, t, hφ, hh, rl, h1⟩ := S.objs l _ hl
  obtain ⟨v, hv, base, cap, rfl, _, hcap, _⟩ := rl.get hc
  have hcap : cap = 0 := hcap rfl
  subst hcap
  have S' := S.nameAcc (imm := true) (sz := sz) (rows := []) (w' := w) (h' := .slice base 0 0) (Nat.le_refl _) (fun _ _ => rfl) (fun _ => rfl) ⟨rfl, rfl⟩ (by
    intro b hb
    cases base <;> simp [AObj.block] at hb) (fun E' _ _ => ⟨base, 0, rfl, Nat.le_refl _, fun _ => rfl, by simp, fun b _ h0 => absurd rfl h0⟩)
  refine ⟨(fun k => if k = σ.heap.length then .slice base 0 0 else φ k), ?_⟩
  have hl' : (σ.heap ++ [AObj.acc true sz []])[l]? = some (.cells cs) := by rw [List.getElem?_append_left hlt]; exact hl
  have S2 := S'.recell (l := l) (cs := cs) (ds := cs.set off (.acc σ.heap.length 0)) hl' (by
    intro b2 c2 t2 h3 h4 r
    have e1 : b2 = b := by
      have h3' : (if l = σ.heap.length then Value.slice base 0 0 else φ l) = .pointer (some ⟨b2, 0, none⟩) := h3
      rw [if_neg (by omega), hφ] at h3'
      simpa using h3'.symm
    subst e1
    rw [show w.heap[b2]? = some (.cells c t (0, 0)) from hh] at h4
    simp only [Option.some.injEq, Obj.cells.injEq] at h4
    obtain ⟨rfl, _⟩ := h4
    have hset := RepL.set (i := off) (c := .acc σ.heap.length 0) (v := .slice base 0 0) r ⟨by simp [Ctx.env], ⟨_, _, _, rfl⟩, fun k hk => by
      simp only [Ctx.env, List.getElem?_append_right (Nat.le_refl _), Nat.sub_self, List.getElem?_cons_zero, accLen, Option.some.injEq] at hk
      exact ⟨by simp, fun _ => by simp [Ctx.env]⟩⟩
    have hsame : c.toList.set off (.slice base 0 0) = c.toList := by
      obtain ⟨hlt2, he⟩ := List.getElem?_eq_some_iff.1 hv
      have he' : c.toList[off] = .slice base 0 0 := he
      rw [← he', List.set_getElem_self]
    rw [hsame] at hset
    exact hset)
  have hset : (σ.heap ++ [AObj.acc true sz []]).set l (.cells (cs.set off (.acc σ.heap.length 0))) = σ.heap.set l (.cells (cs.set off (.acc σ.heap.length 0))) ++ [.acc true sz []] := by
    rw [List.set_append_left _ _ hlt]
  rw [hset] at S2
  exact S2

/-- A nil slice in a cell of an object gets a name. -/
def gCell (l off sz : Nat) (σ : AState) : AState :=
  match σ.heap[l]? with
  | some (.cells cs) => match cs[off]? with
    | some (.lst true _ []) => { slots := σ.slots, heap := σ.heap.set l (.cells (cs.set off (.acc σ.heap.length 0))) ++ [.acc true sz []], low := σ.low }
    | _ => σ
  | _ => σ
theorem gCell_ok {l off sz : Nat} {σ : AState} : Imp σ (gCell l off sz σ) := by
  unfold gCell
  split
  · rename_i cs hl
    split
    · rename_i s hc
      exact ghostCell hl hc
    · exact Imp.refl σ
  · exact Imp.refl σ
end ghost

/-- How a state is brought into a canonical form: nil slices that get names (in slots; in cells of objects), slots, objects. -/
structure Nrm where
  gs : List (Nat × Nat × Bool)
  gc : List (Nat × Nat × Nat)
  zs : List NZ
  zo : List ZO

def gSlots : List (Nat × Nat × Bool) → AState → AState
  | [], σ => σ
  | (i, sz, b) :: r, σ => gSlots r (gSlot i sz b σ)
def gCells : List (Nat × Nat × Nat) → AState → AState
  | [], σ => σ
  | (l, o, sz) :: r, σ => gCells r (gCell l o sz σ)
theorem gSlots_ok : ∀ {g : List (Nat × Nat × Bool)} {σ : AState}, Imp σ (gSlots g σ)
  | [], σ => Imp.refl σ
  | (_, _, _) :: _, _ => gSlot_ok.trans gSlots_ok
theorem gCells_ok : ∀ {g : List (Nat × Nat × Nat)} {σ : AState}, Imp σ (gCells g σ)
  | [], σ => Imp.refl σ
  | (_, _, _) :: _, _ => gCell_ok.trans gCells_ok

def nrmN (N : Nrm) (σ : AState) : Option AState := nrmZ N.zs N.zo (gCells N.gc (gSlots N.gs σ))
theorem nrmN_ok {N : Nrm} {σ σ' : AState} (h : nrmN N σ = some σ') : Imp σ σ' := (gSlots_ok.trans gCells_ok).trans (nrmZ_ok h)

def tabN : List (List Nat × Nrm) → List Nat → AState → Option AState
  | [], _, σ => some σ
  | (q, N) :: t, p, σ => if p = q then nrmN N σ else tabN t p σ
theorem tabN_ok : ∀ (t : List (List Nat × Nrm)) (p : List Nat) (σ σ' : AState), tabN t p σ = some σ' → Imp σ σ'
  | [], _, σ, σ', h => by simp only [tabN, Option.some.injEq] at h; subst h; exact Imp.refl _
  | (q, N) :: t, p, σ, σ', h => by
    simp only [tabN] at h
    split at h
    · exact nrmN_ok h
    · exact tabN_ok t p σ σ' h

/-- Operations that may fail, with their failure in sight. -/
def ixA (σ : AState) (sz : Nat) (x i : AV) : Option Eff :=
  match x, i with
  | .lst _ sz' rows, .int _ n => if sz' = sz then (idxA rows n).bind fun r => some { val := .pp r } else none
  | .acc l m, .int _ n => match σ.heap[l]? with
    | some (.acc true sz' rows) => if sz' = sz ∧ rows.length = m then (idxA rows n).bind fun r => some { val := .pp r, rd := [l] } else none
    | some (.acc false sz' rows) => if sz' = sz ∧ rows.length = m then (idxA rows n).bind fun _ => some { val := .own l n.toNat m 0 sz, rd := [l] } else none
    | _ => none
  | _, _ => none

def idxB (s : ByteArray) (n : Int) : Option UInt8 := if 0 ≤ n then s[n.toNat]? else none
def ixS (x i : AV) : Option Eff :=
  match x, i with
  | .str s, .int _ n => (idxB s n).bind fun b => some { val := .int .u8 b.toNat }
  | _, _ => none

def ldA (P : Program) (σ : AState) (t : TypeId) (v : AV) : Option Eff :=
  match tinfo P t, v with
  | some (g, n), .ptr l off => match σ.heap[l]? with
    | some (.cells cs) => (loadAV g n (cs.drop off)).bind fun v => ldV σ.heap l v
    | _ => none
  | some (g, n), .pp cs => (loadAV g n cs).bind fun v => some { val := v }
  | some (g, n), .own l i m o sz => match σ.heap[l]? with
    | some (.acc false sz' rows) => if sz' = sz ∧ rows.length = m then rows[i]?.bind fun r => (loadAV g n (r.drop o)).bind fun v => some { val := v, rd := [l] } else none
    | _ => none
  | _, _ => none

def stA (P : Program) (σ : AState) (t : TypeId) (v : AV) (ys : Option (List AV)) : Option Eff :=
  match tinfo P t, v, ys with
  | some (_, n), .ptr l off, some ys => match σ.heap[l]? with
    | some (.cells cs) => if ys.length = n ∧ off + n ≤ cs.length then some { val := .any, rd := [l], up := [(l, .cells (splice cs off ys))] } else none
    | _ => none
  | some (_, n), .own l i m o sz, some ys => match σ.heap[l]? with
    | some (.acc false sz' rows) => if sz' = sz ∧ rows.length = m then rows[i]?.bind fun r => if ys.length = n ∧ o + n ≤ sz then some { val := .any, rd := [l], up := [(l, .acc false sz (rows.set i (splice r o ys)))] } else none else none
    | _ => none
  | _, _, _ => none

def opX (P : Program) (σ : AState) : Op → Option Eff
  | .indexAddr t x i => match telem P t with
    | some (_, sz, _) => ixA σ sz (σ.ev x) (σ.ev i)
    | none => opEff P σ (.indexAddr t x i)
  | .index t x i => if tstr P t = true then ixS (σ.ev x) (σ.ev i) else none
  | .binOp op t x y ty => match op with
    | .eql => opEff P σ (.binOp .eql t x y ty)
    | .neq => opEff P σ (.binOp .neq t x y ty)
    | op => (binAV op (σ.ev x) (σ.ev y)).bind fun v => some { val := v }
  | .load t x => ldA P σ t (σ.ev x)
  | .store t x y => stA P σ t (σ.ev x) (cellsOf (σ.ev y))
  | o => opEff P σ o

theorem vwL_of_nb (H : List AObj) : ∀ cs : List AV, nbL 0 cs → vwL H cs = some (cs, [])
  | [], _ => rfl
  | c :: cs, h => by
    have ih := vwL_of_nb H cs h.2
    cases c with
    | acc l n => exact absurd h.1 (Nat.not_lt_zero _)
    | _ => simp only [vwL, ih]

theorem opX_eq (P : Program) (σ : AState) (o : Op) : opEff P σ o = opX P σ o := by
  cases o with
  | indexAddr t x i =>
    simp only [opX]
    cases ht : telem P t with
    | none => rfl
    | some q =>
      obtain ⟨e, sz, b⟩ := q
      simp only [opEff, ht]
      cases hx : σ.ev x <;> cases hi : σ.ev i <;> simp only [ixA]
      · rename_i tt sz' rows k n
        by_cases h1 : sz' = sz
        · by_cases h2 : 0 ≤ n
          · simp only [h1, h2, and_self, if_true, idxA]
            cases rows[n.toNat]? <;> rfl
          · simp only [h1, h2, and_false, if_false, if_true, idxA]; rfl
        · simp only [h1, false_and, if_false]
      · rename_i l m k n
        cases hl : σ.heap[l]? with
        | none => rfl
        | some ob =>
          cases ob with
          | acc imm sz' rows =>
            cases imm with
            | false =>
              simp only
              by_cases h1 : sz' = sz
              · by_cases h3 : rows.length = m
                · by_cases h2 : 0 ≤ n
                  · by_cases h4 : n < m
                    · have h5 : n.toNat < rows.length := by omega
                      simp only [h1, h2, h3, h4, and_self, if_true, idxA, List.getElem?_eq_getElem h5]; rfl
                    · have h5 : rows.length ≤ n.toNat := by omega
                      simp only [h1, h2, h3, h4, and_false, if_false, and_self, if_true, idxA, List.getElem?_eq_none h5]; rfl
                  · simp only [h1, h2, h3, and_false, false_and, if_false, and_self, if_true, idxA]; rfl
                · simp only [h3, and_false, false_and, if_false]
              · simp only [h1, false_and, if_false]
            | true =>
              simp only
              by_cases h1 : sz' = sz
              · by_cases h3 : rows.length = m
                · by_cases h2 : 0 ≤ n
                  · simp only [h1, h2, h3, and_self, if_true, idxA]
                    cases rows[n.toNat]? <;> rfl
                  · simp only [h1, h2, h3, and_false, false_and, if_false, and_self, if_true, idxA]; rfl
                · simp only [h3, and_false, if_false]
              · simp only [h1, false_and, if_false]
          | _ => rfl
  | index t x i =>
    simp only [opX, opEff]
    cases ht : tstr P t
    · cases hx : σ.ev x <;> cases hi : σ.ev i <;> simp
    · cases hx : σ.ev x <;> cases hi : σ.ev i <;> simp only [ixS, if_true]
      rename_i s k n
      by_cases h2 : 0 ≤ n
      · simp only [h2, if_true, idxB]
        cases s[n.toNat]? <;> rfl
      · simp only [h2, if_false, idxB]; rfl
  | binOp op t x y ty =>
    cases op with
    | eql => rfl
    | neq => rfl
    | _ =>
      simp only [opX, opEff]
      generalize binAV _ (σ.ev x) (σ.ev y) = q
      cases q <;> rfl
  | load t x =>
    simp only [opX, opEff, ldA]
    cases ht : tinfo P t with
    | none => rfl
    | some q =>
      obtain ⟨g, n⟩ := q
      cases hx : σ.ev x with
      | ptr l off =>
        cases hl : σ.heap[l]? with
        | none => simp only [hl]
        | some ob =>
          cases ob with
          | cells cs =>
            simp only [hl]
            cases loadAV g n (cs.drop off) <;> rfl
          | _ => simp only [hl]
      | pp cs =>
        simp only
        cases loadAV g n cs <;> rfl
      | own l i m o sz =>
        cases hl : σ.heap[l]? with
        | none => simp only [hl]
        | some ob =>
          cases ob with
          | acc imm sz' rows =>
            cases imm with
            | true => simp only [hl]
            | false =>
              simp only [hl]
              split
              · cases rows[i]? with
                | none => rfl
                | some r =>
                  simp only [Option.bind_some]
                  cases loadAV g n (r.drop o) <;> rfl
              · rfl
          | _ => simp only [hl]
      | _ => rfl
  | store t x y =>
    simp only [opX, opEff, stA]
    cases ht : tinfo P t with
    | none => rfl
    | some q =>
      obtain ⟨g, n⟩ := q
      cases hx : σ.ev x with
      | ptr l off =>
        cases cellsOf (σ.ev y) with
        | none => rfl
        | some ys =>
          cases hl : σ.heap[l]? with
          | none => simp only [hl]
          | some ob => cases ob <;> simp only [hl]
      | own l i m o sz =>
        cases cellsOf (σ.ev y) with
        | none => rfl
        | some ys =>
          cases hl : σ.heap[l]? with
          | none => simp only [hl]
          | some ob =>
            cases ob with
            | acc imm sz' rows =>
              cases imm with
              | true => simp only [hl]
              | false =>
                simp only [hl]
                split
                · cases rows[i]? <;> rfl
                · rfl
            | _ => simp only [hl]
      | _ => rfl
  | _ => rfl
end Go.Abs

/- Variables that are never written again; function values and pointers as plain data. -/
namespace Go.Abs

section freeze
variable {C : Ctx} {φ : Nat → Value} {σ : AState} {a : Act} {w : World}

/-- A pointer to an object that is never written again. -/
def rp1 (l : Nat) (cs : List AV) : AV → AV
  | .ptr k off => if k = l then .pp (cs.drop off) else .ptr k off
  | x => x
def rpV (l : Nat) (cs : List AV) : AV → AV
  | .ptr k off => if k = l then .pp (cs.drop off) else .ptr k off
  | .func fn f c => .func fn (f.map (rp1 l cs)) (c.map (rp1 l cs))
  | x => x
def rpO (l : Nat) (cs : List AV) : AObj → AObj
  | .cells ds => .cells (ds.map (rpV l cs))
  | x => x

/-- An object that is never written again loses its name. -/
noncomputable def fzOne (l : Nat) (σ : AState) : Option AState :=
  match σ.heap[l]? with
  | some (.cells cs) => pcond (nbL 0 cs ∧ σ.low ≤ l) (some { slots := σ.slots.map (rpV l cs), heap := (σ.heap.map (rpO l cs)).set l .dead, low := σ.low })
  | _ => none

theorem rpO_muts {l : Nat} {cs : List AV} {x : AObj} {h : Value} {b o : Nat} : (rpO l cs x).muts h b o → x.muts h b o := by
  cases x with
  | cells ds => exact muts_cells
  | _ => exact id
theorem rpO_block {l : Nat} {cs : List AV} {x : AObj} {h : Value} {b : Nat} : (rpO l cs x).block h b → x.block h b := by
  cases x with
  | cells ds => exact block_cells
  | _ => exact id
theorem rpO_len {l : Nat} {cs : List AV} {x : AObj} : accLen (some (rpO l cs x)) = accLen (some x) := by
  cases x <;> rfl

theorem fz_get {H : List AObj} {l k : Nat} {cs : List AV} {y : AObj} (h : ((H.map (rpO l cs)).set l .dead)[k]? = some y) : (k = l ∧ y = .dead) ∨ (k ≠ l ∧ ∃ x, H[k]? = some x ∧ y = rpO l cs x) := by
  by_cases e : k = l
  · subst e
    by_cases hk : k < H.length
    · rw [List.getElem?_set_self (by simpa using hk)] at h; cases h; exact .inl ⟨rfl, rfl⟩
    · rw [List.getElem?_eq_none (by simp; omega)] at h; cases h
  · rw [List.getElem?_set_ne (fun h => e h.symm), List.getElem?_map] at h
    cases hx : H[k]? with
    | none => rw [hx] at h; cases h
    | some x => rw [hx] at h; cases h; exact .inr ⟨e, x, rfl, rfl⟩

theorem fzOne_ok {l : Nat} {σ σ' : AState} (h : fzOne l σ = some σ') : Imp σ σ' := by
  unfold fzOne at h
  split at h
  case h_2 => cases h
  rename_i cs hl
  rw [pcond_some] at h
  obtain ⟨⟨hnb, hlow⟩, h⟩ := h
  cases h
  intro C φ a w S
  refine ⟨φ, ?_⟩
  have hlt : l < σ.heap.length := (List.getElem?_eq_some_iff.1 hl).1
  obtain ⟨b0, c0, t0, hφ, hh, rl, hone⟩ := S.objs l _ hl
  let H' : List AObj := (σ.heap.map (rpO l cs)).set l .dead
  have hlen : H'.length = σ.heap.length := by simp [H']
  have hget : ∀ (k : Nat) (y : AObj), H'[k]? = some y → (k = l ∧ y = .dead) ∨ (k ≠ l ∧ ∃ x, σ.heap[k]? = some x ∧ y = rpO l cs x) := fun k y hy => fz_get hy
  have hmut : ∀ b o, Mut φ H' b o → Mut φ σ.heap b o := by
    rintro b o ⟨k, y, hy, hm⟩
    rcases hget k y hy with ⟨_, rfl⟩ | ⟨_, x, hx, rfl⟩
    · simp [AObj.muts] at hm
    · exact ⟨k, x, hx, rpO_muts hm⟩
  have hlenk : ∀ k : Nat, accLen H'[k]? = accLen σ.heap[k]? := by
    intro k
    by_cases e : k = l
    · subst e
      simp only [H']
      rw [List.getElem?_set_self (by simpa using hlt), hl]; rfl
    · simp only [H']
      rw [List.getElem?_set_ne (fun h => e h.symm), List.getElem?_map]
      cases σ.heap[k]? with
      | none => rfl
      | some x => exact rpO_len
  have le : (C.env φ σ.heap w).Le σ.heap.length (C.env φ H' w) :=
    Ctx.env_le (by rw [hlen]; exact Nat.le_refl _) (fun k _ => ⟨rfl, hlenk k⟩) (fun b o u hm hc => ⟨fun h => hm (h.imp (hmut b o) id), hc⟩)
  have hfree : ∀ o, ¬ (Mut φ H' b0 o ∨ C.A b0 o) := by
    rintro o (⟨k, y, hy, hm⟩ | hA)
    · rcases hget k y hy with ⟨_, rfl⟩ | ⟨hne, x, hx, rfl⟩
      · simp [AObj.muts] at hm
      · exact hne (S.apart k l x _ b0 hx hl (rpO_block (AObj.block_of_muts hm)) (by rw [hφ]; rfl))
    · exact S.notA l _ b0 o hl (by rw [hφ]; rfl) hA
  have rl' : RepL (C.env φ H' w) cs c0.toList := RepL.mono le _ _ (nbL_le (Nat.zero_le _) _ hnb) rl
  have hpp : ∀ (off : Nat) (v : Value), Rep (C.env φ σ.heap w) (.ptr l off) v → Rep (C.env φ H' w) (.pp (cs.drop off)) v := by
    rintro off v ⟨_, b, hb, rfl⟩
    have e : b0 = b := by
      have hb' : φ l = .pointer (some ⟨b, 0, none⟩) := hb
      rw [hφ] at hb'; simpa using hb'
    subst e
    refine ⟨b0, off, rfl, ?_⟩
    have hd := rl'.drop off
    have h1 : ∀ u ∈ c0.toList.drop off, u.oneCell' = true := fun u hu => hone u (List.mem_of_mem_drop hu)
    have hl2 := hd.length
    exact repMem_of_cells (E := C.env φ H' w) (c := c0) (t := t0) (fr := (0, 0)) hh _ off (fun o _ _ => hfree o) (by rw [List.take_of_length_le (by omega)]; exact hd) (by rw [List.take_of_length_le (by omega)]; exact h1)
  have h1 : ∀ (x : AV) (v : Value), Rep (C.env φ σ.heap w) x v → Rep (C.env φ H' w) (rp1 l cs x) v := by
    intro x v r
    cases x with
    | ptr k off =>
      simp only [rp1]
      split
      · rename_i e; subst e; exact hpp off v r
      · exact Rep.mono le _ _ (Rep.nb _ _ r) r
    | _ => exact Rep.mono le _ _ (Rep.nb _ _ r) r
  have hL1 : ∀ (xs : List AV) (vs : List Value), RepL (C.env φ σ.heap w) xs vs → RepL (C.env φ H' w) (xs.map (rp1 l cs)) vs := by
    intro xs
    induction xs with
    | nil => intro vs r; exact r
    | cons x xs ih => rintro _ ⟨u, us, rfl, r1, r2⟩; exact ⟨u, us, rfl, h1 x u r1, ih us r2⟩
  have hV : ∀ (x : AV) (v : Value), Rep (C.env φ σ.heap w) x v → Rep (C.env φ H' w) (rpV l cs x) v := by
    intro x v r
    cases x with
    | ptr k off =>
      simp only [rpV]
      split
      · rename_i e; subst e; exact hpp off v r
      · exact Rep.mono le _ _ (Rep.nb _ _ r) r
    | func fn f c =>
      obtain ⟨f', c', hv, r1, r2⟩ := r
      exact ⟨f', c', hv, hL1 _ _ r1, hL1 _ _ r2⟩
    | _ => exact Rep.mono le _ _ (Rep.nb _ _ r) r
  have hLV : ∀ (xs : List AV) (vs : List Value), RepL (C.env φ σ.heap w) xs vs → RepL (C.env φ H' w) (xs.map (rpV l cs)) vs := by
    intro xs
    induction xs with
    | nil => intro vs r; exact r
    | cons x xs ih => rintro _ ⟨u, us, rfl, r1, r2⟩; exact ⟨u, us, rfl, hV x u r1, ih us r2⟩
  refine { slots := hLV _ _ S.slots, defers := S.defers, objs := ?_, apart := ?_, notA := ?_, size := S.size, old := S.old, oldObj := S.oldObj, inM := ?_, froz := S.froz, rest := S.rest, low := ⟨S.low.1, by show σ.low ≤ H'.length; rw [hlen]; exact S.low.2⟩, names := ?_ }
  · intro k y hy
    rcases hget k y hy with ⟨_, rfl⟩ | ⟨_, x, hx, rfl⟩
    · exact trivial
    · have r := S.objs k x hx
      cases x with
      | cells ds =>
        obtain ⟨b, c, t, h1, h2, h3, h4⟩ := r
        exact ⟨b, c, t, h1, h2, hLV _ _ h3, h4⟩
      | _ => exact ObjRep.mono r le (fun _ _ => rfl)
  · intro k k' y y' b hy hy' hb hb'
    rcases hget k y hy with ⟨_, rfl⟩ | ⟨_, x, hx, rfl⟩
    · simp [AObj.block] at hb
    · rcases hget k' y' hy' with ⟨_, rfl⟩ | ⟨_, x', hx', rfl⟩
      · simp [AObj.block] at hb'
      · exact S.apart k k' x x' b hx hx' (rpO_block hb) (rpO_block hb')
  · intro k y b o hy hb
    rcases hget k y hy with ⟨_, rfl⟩ | ⟨_, x, hx, rfl⟩
    · simp [AObj.block] at hb
    · exact S.notA k x b o hx (rpO_block hb)
  · intro k y b o hy hm hb
    rcases hget k y hy with ⟨_, rfl⟩ | ⟨_, x, hx, rfl⟩
    · simp [AObj.muts] at hm
    · exact S.inM k x b o hx (rpO_muts hm) hb
  · intro k hk
    have := S.names k hk
    show (φ k = _ ∧ (accLen H'[k]? = _ ∨ accLen H'[k]? = none)) ∨ ((∃ q, _ ∧ ∀ k', accLen H'[k]? = some k' → q < k') ∧ _)
    rw [hlenk k]; exact this
end freeze

noncomputable def fzAll : List Nat → AState → Option AState
  | [], σ => some σ
  | l :: ls, σ => (fzOne l σ).bind (fzAll ls)
theorem fzAll_ok : ∀ {ls : List Nat} {σ σ' : AState}, fzAll ls σ = some σ' → Imp σ σ'
  | [], σ, σ', h => by simp only [fzAll, Option.some.injEq] at h; subst h; exact Imp.refl _
  | l :: ls, σ, σ', h => by
    simp only [fzAll, Option.bind_eq_some_iff] at h
    obtain ⟨σ1, h1, h2⟩ := h
    exact (fzOne_ok h1).trans (fzAll_ok h2)
noncomputable def tabF : List (List Nat × List Nat) → List Nat → AState → Option AState
  | [], _, σ => some σ
  | (q, ls) :: t, p, σ => if p = q then fzAll ls σ else tabF t p σ
theorem tabF_ok : ∀ (t : List (List Nat × List Nat)) (p : List Nat) (σ σ' : AState), tabF t p σ = some σ' → Imp σ σ'
  | [], _, σ, σ', h => by simp only [tabF, Option.some.injEq] at h; subst h; exact Imp.refl _
  | (q, ls) :: t, p, σ, σ', h => by
    simp only [tabF] at h
    split at h
    · exact fzAll_ok h
    · exact tabF_ok t p σ σ' h

-- single cells as structs
section cels
def cI (k : IntKind) : Cel Int where
  enc n := [.int k n]
  dec _ cs := dI1 k cs
  ok H n cs x h := by
    unfold dI1 at h
    split at h
    · exact CoL1.cons (dI_ok h) CoL1.nil
    · cases h
  nb _ _ := ⟨trivial, trivial⟩
def cB : Cel Bool where
  enc b := [.bool b]
  dec _ cs := dB1 cs
  ok H n cs x h := by
    unfold dB1 at h
    split at h
    · exact CoL1.cons (dB_ok h) CoL1.nil
    · cases h
  nb _ _ := ⟨trivial, trivial⟩
def cS : Cel Str where
  enc s := [.str (sb s)]
  dec _ cs := dS1 cs
  ok H n cs x h := by
    unfold dS1 at h
    split at h
    · exact CoL1.cons (dS_ok h) CoL1.nil
    · cases h
  nb _ _ := ⟨trivial, trivial⟩
variable {α β γ : Type}
def dL1 (r : Row α) (H : List AObj) : List AV → Option (List α)
  | [c] => dL r H c
  | _ => none
def cL (r : Row α) : Cel (List α) where
  enc xs := [.lst false r.sz (mp r.enc xs)]
  dec := dL1 r
  ok H n cs x h := by
    unfold dL1 at h
    split at h
    · exact CoL1.cons (dL_ok h) CoL1.nil
    · cases h
  nb n xs := ⟨nbR_rows xs, trivial⟩
def dF1 (f : FuncId) : List AV → Option Unit
  | [c] => dF f c
  | _ => none
def cF (f : FuncId) : Cel Unit where
  enc _ := [.func (.func f) [] []]
  dec _ cs := dF1 f cs
  ok H n cs x h := by
    unfold dF1 at h
    split at h
    · unfold dF at h
      split at h
      · split at h
        · rename_i e; subst e; exact CoL1.cons (Co1.sub (Sub.refl _) ⟨trivial, trivial⟩) CoL1.nil
        · cases h
      · cases h
    · cases h
  nb _ _ := ⟨⟨trivial, trivial⟩, trivial⟩
theorem cI_f {k : IntKind} : (∀ n, (cI k).enc n = [.int k n]) ∧ ∀ H cs, (cI k).dec H cs = dI1 k cs := ⟨fun _ => rfl, fun _ _ => rfl⟩
theorem cB_f : (∀ n, cB.enc n = [.bool n]) ∧ ∀ H cs, cB.dec H cs = dB1 cs := ⟨fun _ => rfl, fun _ _ => rfl⟩
theorem cS_f : (∀ n, cS.enc n = [.str (sb n)]) ∧ ∀ H cs, cS.dec H cs = dS1 cs := ⟨fun _ => rfl, fun _ _ => rfl⟩
theorem cL_f {r : Row α} : (∀ n, (cL r).enc n = [.lst false r.sz (mp r.enc n)]) ∧ ∀ H cs, (cL r).dec H cs = dL1 r H cs := ⟨fun _ => rfl, fun _ _ => rfl⟩
theorem cF_f {f : FuncId} : (∀ n, (cF f).enc n = [.func (.func f) [] []]) ∧ ∀ H cs, (cF f).dec H cs = dF1 f cs := ⟨fun _ => rfl, fun _ _ => rfl⟩

/-- A pointer to cells that are never written again. -/
def dP (c : Cel α) : AV → Option α
  | .pp cs => c.dec [] cs
  | _ => none
theorem dP_ok {c : Cel α} {v : AV} {x : α} (h : dP c v = some x) : Sub v (.pp (c.enc x)) := by
  unfold dP at h
  split at h
  · exact Sub.pp (c.ok [] 0 _ _ h).toSub.subM
  · cases h
def tyP (c : Cel α) : Ty α where
  enc x := .pp (c.enc x)
  dec _ := dP c
  ok H n v x h := Co.sub (dP_ok h) (c.nb n x)
  nb n x := c.nb n x
theorem tyP_enc {c : Cel α} {x : α} : (tyP c).enc x = .pp (c.enc x) := rfl
theorem tyP_dec {c : Cel α} {H : List AObj} {v : AV} : (tyP c).dec H v = dP c v := rfl

/-- A function value with captured variables. -/
def dK1 (f : FuncId) (a : Ty α) : AV → Option α
  | .func (.func g) [] [x] => if g = f then a.dec [] x else none
  | _ => none
def dK2 (f : FuncId) (a : Ty α) (b : Ty β) : AV → Option (α × β)
  | .func (.func g) [] [x, y] => if g = f then (a.dec [] x).bind fun u => (b.dec [] y).bind fun v => some (u, v) else none
  | _ => none
def dK3 (f : FuncId) (a : Ty α) (b : Ty β) (c : Ty γ) : AV → Option (α × β × γ)
  | .func (.func g) [] [x, y, z] => if g = f then (a.dec [] x).bind fun u => (b.dec [] y).bind fun v => (c.dec [] z).bind fun w => some (u, v, w) else none
  | _ => none
def tyK1 (f : FuncId) (a : Ty α) : Ty α where
  enc x := .func (.func f) [] [a.enc x]
  dec _ := dK1 f a
  ok H n v x h := by
    unfold dK1 at h
    split at h
    · split at h
      · rename_i e; subst e
        exact Co.sub (Sub.func SubL.nil (SubL.cons (a.ok [] 0 _ _ h).toSub SubL.nil)) ⟨trivial, a.nb n x, trivial⟩
      · cases h
    · cases h
  nb n x := ⟨trivial, a.nb n x, trivial⟩
def tyK2 (f : FuncId) (a : Ty α) (b : Ty β) : Ty (α × β) where
  enc x := .func (.func f) [] [a.enc x.1, b.enc x.2]
  dec _ := dK2 f a b
  ok H n v x h := by
    unfold dK2 at h
    split at h
    · split at h
      · rename_i e; subst e
        simp only [Option.bind_eq_some_iff, Option.some.injEq] at h
        obtain ⟨u, hu, w, hw, rfl⟩ := h
        exact Co.sub (Sub.func SubL.nil (SubL.cons (a.ok [] 0 _ _ hu).toSub (SubL.cons (b.ok [] 0 _ _ hw).toSub SubL.nil))) ⟨trivial, a.nb n u, b.nb n w, trivial⟩
      · cases h
    · cases h
  nb n x := ⟨trivial, a.nb n _, b.nb n _, trivial⟩
def tyK3 (f : FuncId) (a : Ty α) (b : Ty β) (c : Ty γ) : Ty (α × β × γ) where
  enc x := .func (.func f) [] [a.enc x.1, b.enc x.2.1, c.enc x.2.2]
  dec _ := dK3 f a b c
  ok H n v x h := by
    unfold dK3 at h
    split at h
    · split at h
      · rename_i e; subst e
        simp only [Option.bind_eq_some_iff, Option.some.injEq] at h
        obtain ⟨u, hu, w, hw, p, hp, rfl⟩ := h
        exact Co.sub (Sub.func SubL.nil (SubL.cons (a.ok [] 0 _ _ hu).toSub (SubL.cons (b.ok [] 0 _ _ hw).toSub (SubL.cons (c.ok [] 0 _ _ hp).toSub SubL.nil)))) ⟨trivial, a.nb n u, b.nb n w, c.nb n p, trivial⟩
      · cases h
    · cases h
  nb n x := ⟨trivial, a.nb n _, b.nb n _, c.nb n _, trivial⟩
theorem tyK1_f {f : FuncId} {a : Ty α} : (∀ x, (tyK1 f a).enc x = .func (.func f) [] [a.enc x]) ∧ ∀ H v, (tyK1 f a).dec H v = dK1 f a v := ⟨fun _ => rfl, fun _ _ => rfl⟩
theorem tyK2_f {f : FuncId} {a : Ty α} {b : Ty β} : (∀ x, (tyK2 f a b).enc x = .func (.func f) [] [a.enc x.1, b.enc x.2]) ∧ ∀ H v, (tyK2 f a b).dec H v = dK2 f a b v := ⟨fun _ => rfl, fun _ _ => rfl⟩
theorem tyK3_f {f : FuncId} {a : Ty α} {b : Ty β} {c : Ty γ} : (∀ x, (tyK3 f a b c).enc x = .func (.func f) [] [a.enc x.1, b.enc x.2.1, c.enc x.2.2]) ∧ ∀ H v, (tyK3 f a b c).dec H v = dK3 f a b c v := ⟨fun _ => rfl, fun _ _ => rfl⟩
end cels
end Go.Abs

/- Calls that hand over named objects, over plain data. -/
namespace Go.Abs

section objs
variable {α β γ : Type}

/-- A named object that holds plain data. -/
structure OTy (α : Type) where
  enc : α → AObj
  dec : List AObj → AObj → Option α
  ok : ∀ H n x y, dec H x = some y → CoObj H n x (enc y)
  ren : ∀ τ y, (enc y).ren τ = enc y
  nb : ∀ n y, objNb n (enc y)

def daT (imm : Bool) (r : Row α) : AObj → Option (List α)
  | .acc imm' sz rows => if imm' = imm ∧ sz = r.sz then mapO r.dec rows else none
  | _ => none
def oaT (imm : Bool) (r : Row α) : OTy (List α) where
  enc xs := .acc imm r.sz (mp r.enc xs)
  dec _ := daT imm r
  ok H n x y h := by
    unfold daT at h
    split at h
    · split at h
      · rename_i hc
        obtain ⟨rfl, rfl⟩ := hc
        exact .inr (.inr (.inr ⟨_, _, _, _, rfl, rfl, (mapO_rows h).2, nbR_rows y⟩))
      · cases h
    · cases h
  ren τ y := by simp only [AObj.ren]; rw [renR_of_nb τ _ (nbR_rows y)]
  nb n y := nbR_rows y
def dcT (c : Cel α) (H : List AObj) : AObj → Option α
  | .cells cs => c.dec H cs
  | _ => none
def ocT (c : Cel α) : OTy α where
  enc x := .cells (c.enc x)
  dec := dcT c
  ok H n x y h := by
    unfold dcT at h
    split at h
    · exact .inr (.inr (.inl ⟨_, _, rfl, rfl, (c.ok H n _ _ h).toCoL⟩))
    · cases h
  ren τ y := by simp only [AObj.ren]; rw [renL_of_nb τ _ (c.nb 0 y)]
  nb n y := c.nb n y
theorem oaT_f {imm : Bool} {r : Row α} : (∀ x, (oaT imm r).enc x = .acc imm r.sz (mp r.enc x)) ∧ ∀ H x, (oaT imm r).dec H x = daT imm r x := ⟨fun _ => rfl, fun _ _ => rfl⟩
theorem ocT_f {c : Cel α} : (∀ x, (ocT c).enc x = .cells (c.enc x)) ∧ ∀ H x, (ocT c).dec H x = dcT c H x := ⟨fun _ => rfl, fun _ _ => rfl⟩

/-- Several of them. -/
structure OSpec (β : Type) where
  enc : β → List AObj
  dec : List AObj → List AObj → Option β
  ok : ∀ H n xs b, dec H xs = some b → CoH H n xs (enc b) ∧ (enc b).length = xs.length
  ren : ∀ τ b, ∀ y ∈ enc b, y.ren τ = y
  nb : ∀ n b, ∀ y ∈ enc b, objNb n y
def osN : OSpec Unit where
  enc _ := []
  dec _
    | [] => some ()
    | _ => none
  ok H n xs b h := by
    split at h
    · exact ⟨CoH.nil, rfl⟩
    · cases h
  ren _ _ := by simp
  nb _ _ := by simp
def dosC (o : OTy γ) (s : OSpec β) (H : List AObj) : List AObj → Option (γ × β)
  | x :: xs => (o.dec H x).bind fun y => (s.dec H xs).bind fun b => some (y, b)
  | [] => none
def osC (o : OTy γ) (s : OSpec β) : OSpec (γ × β) where
  enc b := o.enc b.1 :: s.enc b.2
  dec := dosC o s
  ok H n xs b h := by
    unfold dosC at h
    split at h
    · simp only [Option.bind_eq_some_iff, Option.some.injEq] at h
      obtain ⟨y, hy, b, hb, rfl⟩ := h
      obtain ⟨h1, h2⟩ := s.ok H n _ _ hb
      exact ⟨⟨o.ok H n _ _ hy, h1⟩, by simp [h2]⟩
    · cases h
  ren τ b y hy := by
    simp only [List.mem_cons] at hy
    rcases hy with rfl | hy
    · exact o.ren τ _
    · exact s.ren τ _ y hy
  nb n b y hy := by
    simp only [List.mem_cons] at hy
    rcases hy with rfl | hy
    · exact o.nb n _
    · exact s.nb n _ y hy
theorem osN_f : (∀ b, osN.enc b = []) ∧ ∀ H, osN.dec H [] = some () := ⟨fun _ => rfl, fun _ => rfl⟩
theorem osC_f {o : OTy γ} {s : OSpec β} : (∀ b, (osC o s).enc b = o.enc b.1 :: s.enc b.2) ∧ ∀ H xs, (osC o s).dec H xs = dosC o s H xs := ⟨fun _ => rfl, fun _ _ => rfl⟩

/-- Results, some of which are named objects. -/
structure RSpec (β α : Type) where
  enc : β → α → List AV
  dec : β → List AObj → List AV → Option α
  need : Nat
  ok : ∀ b H n xs a, need ≤ n → dec b H xs = some a → CoL H n xs (enc b a)
def rsN : RSpec β Unit where
  enc _ _ := []
  dec _ _
    | [] => some ()
    | _ => none
  need := 0
  ok b H n xs a _ h := by
    split at h
    · exact CoL.nil
    · cases h
def drsT (t : Ty γ) (s : RSpec β α) (b : β) (H : List AObj) : List AV → Option (γ × α)
  | x :: xs => (t.dec H x).bind fun y => (s.dec b H xs).bind fun a => some (y, a)
  | [] => none
def rsT (t : Ty γ) (s : RSpec β α) : RSpec β (γ × α) where
  enc b a := t.enc a.1 :: s.enc b a.2
  dec := drsT t s
  need := s.need
  ok b H n xs a hn h := by
    unfold drsT at h
    split at h
    · simp only [Option.bind_eq_some_iff, Option.some.injEq] at h
      obtain ⟨y, hy, a, ha, rfl⟩ := h
      exact CoL.cons (t.ok H n _ _ hy) (s.ok b H n _ _ hn ha)
    · cases h
def drsA (k : Nat) (len : β → Nat) (s : RSpec β α) (b : β) (H : List AObj) : List AV → Option α
  | .acc l m :: xs => if l = k ∧ m = len b then s.dec b H xs else none
  | _ => none
def rsA (k : Nat) (len : β → Nat) (s : RSpec β α) : RSpec β α where
  enc b a := .acc k (len b) :: s.enc b a
  dec := drsA k len s
  need := max (k + 1) s.need
  ok b H n xs a hn h := by
    unfold drsA at h
    split at h
    · split at h
      · rename_i hc
        obtain ⟨rfl, rfl⟩ := hc
        exact CoL.cons (Co.same (show _ < n by omega)) (s.ok b H n _ _ (by omega) h)
      · cases h
    · cases h
theorem rsN_f : (∀ (b : β) a, rsN.enc b a = []) ∧ (∀ (b : β) H, rsN.dec b H [] = some ()) ∧ (rsN : RSpec β Unit).need = 0 := ⟨fun _ _ => rfl, fun _ _ => rfl, rfl⟩
theorem rsT_f {t : Ty γ} {s : RSpec β α} : (∀ b a, (rsT t s).enc b a = t.enc a.1 :: s.enc b a.2) ∧ (∀ b H xs, (rsT t s).dec b H xs = drsT t s b H xs) ∧ (rsT t s).need = s.need := ⟨fun _ _ => rfl, fun _ _ _ => rfl, rfl⟩
theorem rsA_f {k : Nat} {len : β → Nat} {s : RSpec β α} : (∀ b a, (rsA k len s).enc b a = .acc k (len b) :: s.enc b a) ∧ (∀ b H xs, (rsA k len s).dec b H xs = drsA k len s b H xs) ∧ (rsA k len s).need = max (k + 1) s.need := ⟨fun _ _ => rfl, fun _ _ _ => rfl, rfl⟩
end objs

def tupOf : List AV → AV
  | [y] => y
  | ys => .tup ys

theorem CoH.take {H : List AObj} {n : Nat} : ∀ {xs ys : List AObj} (k : Nat), CoH H n (xs.take k) ys → CoH H n xs ys
  | _, [], _, _ => CoH.nil
  | [], _ :: _, k, h => by cases k <;> exact h.elim
  | x :: xs, y :: ys, 0, h => h.elim
  | x :: xs, y :: ys, k + 1, h => ⟨h.1, CoH.take k h.2⟩

section runG
variable {R : Type} {M : Mach R}

/-- A contract with named objects, out of a run. -/
theorem fnG_run {f : FuncId} {fn : Func} {args : List AV} {H : List AObj} {ys : List AV} {H' : List AObj} {r : R} {n : Nat} {rs : List ResultVar} (G : Good M) (hf : M.P.funcs[f]? = some fn) (hb : fn.body = some M.body) (hne : (fn.name != "runtime.NumGoroutine") = true)
    (hnb : nbL H.length args) (hnbH : ∀ x ∈ H, objNb H.length x) (hn : fn.ntmps = n) (hrs : fn.results = rs.toArray)
    (hout : ∀ σ, M.out σ = some r → ∃ xs, resList M.P σ rs = some xs ∧ Imp ⟨xs, σ.heap, σ.low⟩ ⟨ys, H', σ.low⟩)
    (h : run M [.at []] { slots := args ++ List.replicate (n - args.length) .any, heap := H, low := H.length } = some r) : FnG M.P f args H (fun o H'' => o = .ret (tupOf ys) ∧ H'' = H') := by
  refine fnG_of_body hf hb hne hnb hnbH hn hrs ?_
  refine run_sound G h fun σ' hs => ?_
  obtain ⟨xs, hx, himp⟩ := hout σ' hs
  have key : ∃ x, resAV M.P σ' rs = some x ∧ ∃ r H'', Export σ' x r H'' ∧ ((AOut.ret r) = .ret (tupOf ys) ∧ H'' = H') := by
    have exp : ∀ (x : AV), (∀ C φ a w, Sim C φ σ' a w → ∀ v, Rep (C.env φ σ'.heap w) x v → ∃ vs : List Value, RepL (C.env φ σ'.heap w) xs vs ∧ ∀ E, RepL E ys vs → Rep E (tupOf ys) v) → Export σ' x (tupOf ys) H' := by
      intro x hx2 C φ a w S v hv
      obtain ⟨vs, hvs, hback⟩ := hx2 C φ a w S v hv
      have S0 : Sim C φ ⟨xs, σ'.heap, σ'.low⟩ { tmps := vs.toArray, defers := [] } w := { S with slots := by simpa using hvs, defers := rfl }
      obtain ⟨φ', S1⟩ := himp C φ _ w S0
      exact ⟨φ', { S1 with slots := rfl, defers := rfl }, hback _ (by simpa using S1.slots)⟩
    unfold resAV
    rw [hx]
    match xs, hx, exp with
    | [x], hx, exp =>
      refine ⟨x, rfl, _, _, exp x ?_, rfl, rfl⟩
      intro C φ a w S v hv
      refine ⟨[v], ⟨v, [], rfl, hv, rfl⟩, fun E hr => ?_⟩
      have := hr.length
      match ys, this, hr with
      | [y], _, ⟨u, us, he, h1, h2⟩ =>
        simp only [List.cons.injEq] at he
        obtain ⟨rfl, _⟩ := he
        exact h1
    | [], hx, exp =>
      refine ⟨.tup [], rfl, _, _, exp _ ?_, rfl, rfl⟩
      rintro C φ a w S v ⟨vs, rfl, hvs⟩
      refine ⟨vs.toList, hvs, fun E hr => ?_⟩
      have h1 := hr.length
      have h2 := hvs.length
      match ys, hr, h1 with
      | [], hr, _ => exact ⟨vs, rfl, hr⟩
      | [_], hr, h1 => rw [h1] at h2; simp at h2
      | _ :: _ :: _, hr, h1 => rw [h1] at h2; simp at h2
    | x :: x' :: xs, hx, exp =>
      refine ⟨.tup (x :: x' :: xs), rfl, _, _, exp _ ?_, rfl, rfl⟩
      rintro C φ a w S v ⟨vs, rfl, hvs⟩
      refine ⟨vs.toList, hvs, fun E hr => ?_⟩
      have h1 := hr.length
      have h2 := hvs.length
      match ys, hr, h1 with
      | [], hr, h1 => rw [h1] at h2; simp at h2
      | [_], hr, h1 => rw [h1] at h2; simp at h2
      | _ :: _ :: _, hr, _ => exact ⟨vs, rfl, hr⟩
  exact ⟨key, key⟩
end runG

section outG
variable {α β γ : Type}
/-- What is read off at a function's end: what has become of the objects that were handed over, and the results. -/
def outG (P : Program) (rs : List ResultVar) (os : OSpec β) (s : RSpec β α) (low : Nat) (σ : AState) : Option (β × α) :=
  (resList P σ rs).bind fun xs => (os.dec σ.heap (σ.heap.take low)).bind fun b => (s.dec b σ.heap xs).bind fun a => bif (σ.low == low) && decide (s.need ≤ low) && decide (low ≤ σ.heap.length) then some (b, a) else none

theorem outG_ok {P : Program} {rs : List ResultVar} {os : OSpec β} {s : RSpec β α} {low : Nat} {σ : AState} {r : β × α} (h : outG P rs os s low σ = some r) :
    ∃ xs, resList P σ rs = some xs ∧ Imp ⟨xs, σ.heap, σ.low⟩ ⟨s.enc r.1 r.2, os.enc r.1, σ.low⟩ := by
  unfold outG at h
  simp only [Option.bind_eq_some_iff] at h
  obtain ⟨xs, hx, b, hb, a, ha, h⟩ := h
  cases hc : ((σ.low == low) && decide (s.need ≤ low) && decide (low ≤ σ.heap.length)) with
  | false => simp [hc] at h
  | true =>
    simp only [hc, cond_true, Option.some.injEq] at h
    subst h
    simp only [Bool.and_eq_true, beq_iff_eq, decide_eq_true_eq] at hc
    obtain ⟨⟨h1, h2⟩, h3⟩ := hc
    refine ⟨xs, hx, Weak.imp ⟨⟨rfl, ?_⟩, ?_, ?_⟩⟩
    · obtain ⟨_, h5⟩ := os.ok σ.heap 0 _ _ hb
      show σ.low ≤ (os.enc b).length
      rw [h5, List.length_take]; omega
    · show CoL σ.heap (os.enc b).length xs (s.enc b a)
      obtain ⟨_, h5⟩ := os.ok σ.heap 0 _ _ hb
      exact s.ok b σ.heap _ xs a (by rw [h5, List.length_take]; omega) ha
    · show CoH σ.heap (os.enc b).length σ.heap (os.enc b)
      exact CoH.take low (os.ok σ.heap _ _ _ hb).1
end outG

section callG
theorem setAll_set : ∀ (ls : List Nat) (G : List AObj) (ys : List AObj) (l : Nat) (z : AObj), l ∉ ls → (setAll G ls ys).set l z = setAll (G.set l z) ls ys
  | [], _, _, _, _, _ => by simp [setAll]
  | _ :: _, _, [], _, _, _ => by simp [setAll]
  | k :: ls, G, y :: ys, l, z, h => by
    simp only [List.mem_cons, not_or] at h
    rw [setAll, setAll, setAll_set ls _ ys l z h.2, List.set_comm _ _ (fun e => h.1 e.symm)]
theorem setAll_setAll : ∀ (ls : List Nat) (G : List AObj) (ys ys' : List AObj), ls.Nodup → ls.length ≤ ys'.length → setAll (setAll G ls ys) ls ys' = setAll G ls ys'
  | [], _, _, _, _, _ => by simp [setAll]
  | _ :: _, _, _, [], _, h => by simp at h
  | l :: ls, G, [], y' :: ys', hnd, h => by simp [setAll]
  | l :: ls, G, y :: ys, y' :: ys', hnd, h => by
    rw [List.nodup_cons] at hnd
    simp only [List.length_cons, Nat.add_le_add_iff_right] at h
    simp only [setAll]
    rw [setAll_set ls _ ys l y' hnd.1, List.set_set, setAll_setAll ls _ ys ys' hnd.2 h]
theorem coH_of_get {H : List AObj} {n : Nat} : ∀ {xs ys : List AObj}, (∀ (k : Nat) (y : AObj), ys[k]? = some y → ∃ x, xs[k]? = some x ∧ CoObj H n x y) → CoH H n xs ys
  | _, [], _ => CoH.nil
  | [], y :: ys, h => by obtain ⟨x, hx, _⟩ := h 0 y (by simp); simp at hx
  | x :: xs, y :: ys, h => by
    obtain ⟨x', hx, hc⟩ := h 0 y (by simp)
    simp at hx; subst hx
    exact ⟨hc, coH_of_get fun k z hz => by have := h (k + 1) z (by simpa using hz); simpa using this⟩
theorem CoL.append {H : List AObj} {n : Nat} : ∀ {xs ys us vs : List AV}, CoL H n xs ys → CoL H n us vs → CoL H n (xs ++ us) (ys ++ vs)
  | [], _, _, _, rfl, h => h
  | _ :: _, _, _, _, ⟨y, zs, rfl, h, hs⟩, h2 => ⟨y, zs ++ _, rfl, h, CoL.append hs h2⟩

/-- A call that hands over named objects. -/
theorem callG {P : Program} {f : FuncId} {σ : AState} {cargs args : List AV} {Ys Ys' : List AObj} {r : AV} {ρ : List Nat} (hG : FnG P f args Ys (fun o H' => o = .ret r ∧ H' = Ys')) (hnd : ρ.Nodup) (hlen : ρ.length = Ys.length) (hlen' : ρ.length ≤ Ys'.length)
    (hobj : ∀ (i k : Nat), ρ[i]? = some k → ∃ x y, σ.heap[k]? = some x ∧ Ys[i]? = some y ∧ CoObj σ.heap σ.heap.length x y) (hargs : CoL σ.heap σ.heap.length cargs (renL (backTo ρ σ.heap.length) args))
    (hren : ∀ y ∈ Ys ++ Ys', ∀ τ, y.ren τ = y) : CallA P f cargs σ (fun o H' => o = .ret (r.ren (backTo ρ σ.heap.length)) ∧ H' = setAll σ.heap ρ Ys' ++ Ys'.drop ρ.length) := by
  refine ⟨hG.1, fun C φ a w hP S vs hr => ?_⟩
  let H1 := setAll σ.heap ρ Ys
  have hl1 : H1.length = σ.heap.length := setAll_length _ _ _
  have S0 : Sim C φ ⟨σ.slots ++ cargs, σ.heap, σ.low⟩ { tmps := a.tmps ++ vs, defers := [] } w := { S with slots := by simpa using S.slots.append hr, defers := rfl }
  have hat : ∀ (i k : Nat), ρ[i]? = some k → ∃ x y, σ.heap[k]? = some x ∧ Ys[i]? = some y ∧ CoObj σ.heap σ.heap.length x y ∧ H1[k]? = some y := by
    intro i k hi
    obtain ⟨x, y, hx, hy, hc⟩ := hobj i k hi
    exact ⟨x, y, hx, hy, hc, setAll_at ρ σ.heap Ys i k y hnd hi hy (List.getElem?_eq_some_iff.1 hx).1⟩
  have hw : Weak ⟨σ.slots ++ cargs, σ.heap, σ.low⟩ ⟨σ.slots ++ renL (backTo ρ σ.heap.length) args, H1, σ.low⟩ := by
    refine ⟨⟨rfl, by show σ.low ≤ H1.length; rw [hl1]; exact S.low.2⟩, ?_, ?_⟩
    · show CoL σ.heap H1.length _ _
      rw [hl1]
      exact CoL.append (CoL.same (RepL.nb _ _ S.slots)) hargs
    · show CoH σ.heap H1.length σ.heap H1
      rw [hl1]
      refine coH_of_get fun k y hy => ?_
      by_cases hk : k ∈ ρ
      · obtain ⟨i, hi⟩ := List.getElem?_of_mem hk
        obtain ⟨x, y', hx, _, hc, hy'⟩ := hat i k hi
        rw [hy'] at hy; cases hy
        exact ⟨x, hx, hc⟩
      · have hy2 : σ.heap[k]? = some y := by rw [← hy]; exact (setAll_other ρ σ.heap Ys k hk).symm
        exact ⟨y, hy2, .inr (.inl ⟨rfl, objNb_rep (S.objs k y hy2)⟩)⟩
  obtain ⟨φ', S1⟩ := hw.imp C φ _ w S0
  have hsl := S1.slots
  simp only [Array.toList_append] at hsl
  have hsz : a.tmps.toList.length = σ.slots.length := S.slots.length
  have h1 := hsl.take σ.slots.length
  have h2 := hsl.drop σ.slots.length
  rw [List.take_left' rfl, List.take_left' hsz] at h1
  rw [List.drop_left' rfl, List.drop_left' hsz] at h2
  have S2 : Sim C φ' { σ with heap := H1 } a w := { S1 with slots := h1, defers := S.defers }
  have hcall : CallA P f (renL (backTo ρ H1.length) args) { σ with heap := H1 } (fun o H' => o = .ret (r.ren (backTo ρ H1.length)) ∧ H' = setAll σ.heap ρ Ys' ++ Ys'.drop ρ.length) := by
    refine callA_of_fnG (σ := { σ with heap := H1 }) hG ρ hlen hnd (SubL.refl _) ?_ ?_
    · intro i k x hi hx
      obtain ⟨x', y, _, hy, _, hy'⟩ := hat i k hi
      rw [hy] at hx; cases hx
      show H1[k]? = some (x.ren _)
      rw [hy', hren x (List.mem_append.2 (.inl (List.mem_of_getElem? hy)))]
    · rintro o H' ⟨rfl, rfl⟩
      refine ⟨rfl, ?_⟩
      have hid : ∀ τ, H'.map (AObj.ren τ) = H' := by
        intro τ
        have : H'.map (AObj.ren τ) = H'.map id := List.map_congr_left fun y hy => hren y (List.mem_append.2 (.inr hy)) τ
        rw [this, List.map_id]
      have hid2 : ∀ τ, (H'.drop ρ.length).map (AObj.ren τ) = H'.drop ρ.length := by
        intro τ; rw [List.map_drop, hid]
      show heapBack ρ H1 H' = _
      unfold heapBack
      rw [hid, hid2]
      simp only [H1]
      rw [setAll_setAll ρ σ.heap Ys H' hnd hlen']
  rw [hl1] at hcall
  exact hcall.2 C φ' a w hP S2 vs h2
end callG
end Go.Abs

/- What callees answer that are handed named objects, or hand out new ones. -/
namespace Go.Abs

section args
variable {α β γ : Type}
/-- Arguments, some of which lead to named objects: as the callee sees them; out of the caller's. -/
structure ASpec (β α : Type) where
  enc : β → α → List AV
  dec : List Nat → β → List AObj → List AV → Option α
  ok : ∀ ρ b H xs a, dec ρ b H xs = some a → CoL H H.length xs (renL (backTo ρ H.length) (enc b a))
def asN : ASpec β Unit where
  enc _ _ := []
  dec _ _ _
    | [] => some ()
    | _ => none
  ok ρ b H xs a h := by
    split at h
    · exact CoL.nil
    · cases h
def dasT (t : Ty γ) (s : ASpec β α) (ρ : List Nat) (b : β) (H : List AObj) : List AV → Option (γ × α)
  | x :: xs => (t.dec H x).bind fun y => (s.dec ρ b H xs).bind fun a => some (y, a)
  | [] => none
def asT (t : Ty γ) (s : ASpec β α) : ASpec β (γ × α) where
  enc b a := t.enc a.1 :: s.enc b a.2
  dec := dasT t s
  ok ρ b H xs a h := by
    unfold dasT at h
    split at h
    · simp only [Option.bind_eq_some_iff, Option.some.injEq] at h
      obtain ⟨y, hy, a, ha, rfl⟩ := h
      refine CoL.cons ?_ (s.ok ρ b H _ _ ha)
      rw [ren_of_nb _ _ (t.nb 0 y)]
      exact t.ok H _ _ _ hy
    · cases h
def dasP (k : Nat) (s : ASpec β α) (ρ : List Nat) (b : β) (H : List AObj) : List AV → Option α
  | .ptr l off :: xs => if off = 0 ∧ ρ[k]? = some l ∧ l < H.length then s.dec ρ b H xs else none
  | _ => none
theorem backTo_at {ρ : List Nat} {n k l : Nat} (h : ρ[k]? = some l) : backTo ρ n k = l := by
  have hk : k < ρ.length := (List.getElem?_eq_some_iff.1 h).1
  unfold backTo
  rw [if_pos hk, List.getD, h]; rfl
def asP (k : Nat) (s : ASpec β α) : ASpec β α where
  enc b a := .ptr k 0 :: s.enc b a
  dec := dasP k s
  ok ρ b H xs a h := by
    unfold dasP at h
    split at h
    · split at h
      · rename_i hc
        obtain ⟨rfl, hc, hl⟩ := hc
        refine CoL.cons ?_ (s.ok ρ b H _ _ h)
        show Co H H.length _ (.ptr (backTo ρ H.length k) 0)
        rw [backTo_at hc]
        exact Co.same hl
      · cases h
    · cases h
def dasA (k : Nat) (len : β → Nat) (s : ASpec β α) (ρ : List Nat) (b : β) (H : List AObj) : List AV → Option α
  | .acc l m :: xs => if m = len b ∧ ρ[k]? = some l ∧ l < H.length then s.dec ρ b H xs else none
  | _ => none
def asA (k : Nat) (len : β → Nat) (s : ASpec β α) : ASpec β α where
  enc b a := .acc k (len b) :: s.enc b a
  dec := dasA k len s
  ok ρ b H xs a h := by
    unfold dasA at h
    split at h
    · split at h
      · rename_i hc
        obtain ⟨rfl, hc, hl⟩ := hc
        refine CoL.cons ?_ (s.ok ρ b H _ _ h)
        show Co H H.length _ (.acc (backTo ρ H.length k) _)
        rw [backTo_at hc]
        exact Co.same hl
      · cases h
    · cases h
theorem asN_f : (∀ (b : β) a, asN.enc b a = []) ∧ (∀ ρ (b : β) H, asN.dec ρ b H [] = some ()) := ⟨fun _ _ => rfl, fun _ _ _ => rfl⟩
theorem asT_f {t : Ty γ} {s : ASpec β α} : (∀ b a, (asT t s).enc b a = t.enc a.1 :: s.enc b a.2) ∧ (∀ ρ b H xs, (asT t s).dec ρ b H xs = dasT t s ρ b H xs) := ⟨fun _ _ => rfl, fun _ _ _ _ => rfl⟩
theorem asP_f {k : Nat} {s : ASpec β α} : (∀ b a, (asP k s).enc b a = .ptr k 0 :: s.enc b a) ∧ (∀ ρ b H xs, (asP k s).dec ρ b H xs = dasP k s ρ b H xs) := ⟨fun _ _ => rfl, fun _ _ _ _ => rfl⟩
theorem asA_f {k : Nat} {len : β → Nat} {s : ASpec β α} : (∀ b a, (asA k len s).enc b a = .acc k (len b) :: s.enc b a) ∧ (∀ ρ b H xs, (asA k len s).dec ρ b H xs = dasA k len s ρ b H xs) := ⟨fun _ _ => rfl, fun _ _ _ _ => rfl⟩
end args

/-- The name that an argument leads to. -/
def nameOf : AV → Option Nat
  | .ptr l _ => some l
  | .acc l _ => some l
  | _ => none
def nameAt (args : List AV) (i : Nat) : Option Nat := (args[i]?).bind nameOf
def nodupB : List Nat → Bool
  | [] => true
  | x :: xs => !xs.contains x && nodupB xs
theorem nodupB_ok : ∀ {xs : List Nat}, nodupB xs = true → xs.Nodup
  | [], _ => List.nodup_nil
  | x :: xs, h => by
    simp only [nodupB, Bool.and_eq_true, Bool.not_eq_true', List.contains_eq_mem, decide_eq_false_iff_not] at h
    exact List.nodup_cons.2 ⟨h.1, nodupB_ok h.2⟩
def getAt (H : List AObj) (k : Nat) : Option AObj := H[k]?

section entG
variable {α β α' β' : Type}
def entG (pos : List Nat) (os : OSpec β) (as : ASpec β α) (os' : OSpec β') (rs : RSpec β' α') (F : β → α → Option (β' × α')) : Ent := fun args H =>
  (mapO (nameAt args) pos).bind fun ρ => bif nodupB ρ then (mapO (getAt H) ρ).bind fun xs => (os.dec H xs).bind fun b => (as.dec ρ b H args).bind fun a => (F b a).bind fun r =>
    bif decide (ρ.length ≤ (os'.enc r.1).length) then some ((tupOf (rs.enc r.1 r.2)).ren (backTo ρ H.length), setAll H ρ (os'.enc r.1) ++ (os'.enc r.1).drop ρ.length) else none else none

theorem mapO_get {H : List AObj} : ∀ {ρ : List Nat} {xs : List AObj}, mapO (getAt H) ρ = some xs → ρ.length = xs.length ∧ ∀ (i k : Nat), ρ[i]? = some k → ∃ x, xs[i]? = some x ∧ H[k]? = some x
  | [], xs, h => by simp only [mapO, Option.some.injEq] at h; subst h; simp
  | k :: ρ, xs, h => by
    simp only [mapO, Option.bind_eq_some_iff, Option.some.injEq] at h
    obtain ⟨x, hx, ys, hys, rfl⟩ := h
    obtain ⟨h1, h2⟩ := mapO_get hys
    refine ⟨by simp [h1], fun i q hi => ?_⟩
    cases i with
    | zero => simp at hi; subst hi; exact ⟨x, by simp, hx⟩
    | succ i => simp at hi; obtain ⟨y, hy, hy'⟩ := h2 i q hi; exact ⟨y, by simpa using hy, hy'⟩

theorem entG_ok {P : Program} {f : FuncId} {pos : List Nat} {os : OSpec β} {as : ASpec β α} {os' : OSpec β'} {rs : RSpec β' α'} {F : β → α → Option (β' × α')}
    (h : ∀ b a r, F b a = some r → FnG P f (as.enc b a) (os.enc b) (fun o H' => o = .ret (tupOf (rs.enc r.1 r.2)) ∧ H' = os'.enc r.1)) : EntOK P f (entG pos os as os' rs F) := by
  intro args σ r H' he
  unfold entG at he
  simp only [Option.bind_eq_some_iff] at he
  obtain ⟨ρ, _, he⟩ := he
  cases hnd : nodupB ρ with
  | false => simp [hnd] at he
  | true =>
    simp only [hnd, cond_true, Option.bind_eq_some_iff] at he
    obtain ⟨xs, hxs, b, hb, a, ha, q, hq, he⟩ := he
    cases hl : decide (ρ.length ≤ (os'.enc q.1).length) with
    | false => simp [hl] at he
    | true =>
      simp only [hl, cond_true, Option.some.injEq, Prod.mk.injEq] at he
      obtain ⟨rfl, rfl⟩ := he
      obtain ⟨h1, h2⟩ := mapO_get hxs
      obtain ⟨h3, h4⟩ := os.ok σ.heap σ.heap.length _ _ hb
      refine callG (h b a q hq) (nodupB_ok hnd) (by rw [h1, h4]) (of_decide_eq_true hl) ?_ (as.ok ρ b σ.heap _ _ ha) ?_
      · intro i k hi
        obtain ⟨x, hx, hx'⟩ := h2 i k hi
        have hlt : i < (os.enc b).length := by rw [h4, ← h1]; exact (List.getElem?_eq_some_iff.1 hi).1
        obtain ⟨x2, hx2, hc⟩ := h3.get (List.getElem?_eq_getElem hlt)
        rw [hx] at hx2; cases hx2
        exact ⟨x, _, hx', List.getElem?_eq_getElem hlt, hc⟩
      · intro y hy τ
        rcases List.mem_append.1 hy with hy | hy
        · exact os.ren τ _ y hy
        · exact os'.ren τ _ y hy
end entG

section handout
variable {C : Ctx} {φ : Nat → Value} {σ : AState} {a : Act} {w : World}

/-- One object is handed out, the others are given up. -/
theorem imp_export_one {xs : List AV} {H : List AObj} {low l : Nat} {y : AObj} (hl : H[l]? = some y) (hlow : low ≤ l) (hnb : ∀ z ∈ H.take low, objNb low z) (hy : objNb low y) (hr : nbL (low + 1) (renL (outX low l) xs)) :
    Imp ⟨xs, H, low⟩ ⟨renL (outX low l) xs, H.take low ++ [y], low⟩ := by
  intro C φ a w S
  obtain ⟨φ', S', hrep⟩ := export_one (σ := ⟨xs, H, low⟩) (x := .tup xs) hl hlow hnb hy hr C φ a w S (.tuple a.tmps) ⟨a.tmps, rfl, S.slots⟩
  obtain ⟨vs, hv, rl⟩ := hrep
  simp only [Value.tuple.injEq] at hv
  subst hv
  exact ⟨φ', { S' with slots := rl, defers := S.defers }⟩

variable {α γ : Type}
/-- What is read off at the end of a function that hands out a new slice: result j. -/
noncomputable def outH (P : Program) (rs : List ResultVar) (j : Nat) (r : Row γ) (s : RSpec (List γ × Unit) α) (σ : AState) : Option ((List γ × Unit) × α) :=
  (resList P σ rs).bind fun xs => outH1 (gSlot j r.sz true ⟨xs, σ.heap, 0⟩) j r s σ.low
where
  outH1 (τ : AState) (j : Nat) (r : Row γ) (s : RSpec (List γ × Unit) α) (low : Nat) : Option ((List γ × Unit) × α) :=
    match τ.slots[j]? with
    | some (.acc l _) => match τ.heap[l]? with
      | some y => pcond (low = 0 ∧ objNb 0 y ∧ nbL 1 (renL (outX 0 l) τ.slots)) (((osC (oaT true r) osN).dec [y] [y]).bind fun b => (s.dec b [y] (renL (outX 0 l) τ.slots)).bind fun a => bif decide (s.need ≤ 1) then some (b, a) else none)
      | none => none
    | _ => none

theorem outH_ok {P : Program} {rs : List ResultVar} {j : Nat} {r : Row γ} {s : RSpec (List γ × Unit) α} {σ : AState} {q : (List γ × Unit) × α} (h : outH P rs j r s σ = some q) :
    ∃ xs, resList P σ rs = some xs ∧ Imp ⟨xs, σ.heap, σ.low⟩ ⟨s.enc q.1 q.2, (osC (oaT true r) osN).enc q.1, σ.low⟩ := by
  unfold outH at h
  simp only [Option.bind_eq_some_iff] at h
  obtain ⟨xs, hx, h⟩ := h
  refine ⟨xs, hx, ?_⟩
  unfold outH.outH1 at h
  split at h
  case h_2 => cases h
  rename_i l m hs
  split at h
  case h_2 => cases h
  rename_i y hl
  rw [pcond_some] at h
  obtain ⟨⟨hlow, h1, h2⟩, h⟩ := h
  simp only [Option.bind_eq_some_iff] at h
  obtain ⟨b, hb, a, ha, h⟩ := h
  cases hd : decide (s.need ≤ 1) with
  | false => simp [hd] at h
  | true =>
    simp only [hd, cond_true, Option.some.injEq] at h
    subst h
    rw [hlow]
    have i1 : Imp ⟨xs, σ.heap, 0⟩ (gSlot j r.sz true ⟨xs, σ.heap, 0⟩) := gSlot_ok
    have hlow0 : (gSlot j r.sz true ⟨xs, σ.heap, 0⟩).low = 0 := by unfold gSlot; split <;> rfl
    generalize hτ : gSlot j r.sz true ⟨xs, σ.heap, 0⟩ = τ at *
    have i2 : Imp ⟨τ.slots, τ.heap, 0⟩ ⟨renL (outX 0 l) τ.slots, τ.heap.take 0 ++ [y], 0⟩ := imp_export_one hl (Nat.zero_le _) (by simp) h1 h2
    have e : τ = ⟨τ.slots, τ.heap, 0⟩ := by cases τ; simp only at hlow0; subst hlow0; rfl
    rw [e] at i1
    refine (i1.trans i2).trans ?_
    simp only [List.take_zero, List.nil_append]
    obtain ⟨h5, h6⟩ := (osC (oaT true r) osN).ok [y] 1 _ _ hb
    refine Weak.imp ⟨⟨rfl, Nat.zero_le _⟩, ?_, ?_⟩
    · show CoL [y] ((osC (oaT true r) osN).enc b).length _ _
      rw [h6]
      exact s.ok b [y] 1 _ a (of_decide_eq_true hd) ha
    · show CoH [y] ((osC (oaT true r) osN).enc b).length [y] _
      rw [h6]
      exact h5
end handout
end Go.Abs

/- Entries for callees: nil slices that are handed over to be appended to; one of several. -/
namespace Go.Abs

/-- A nil slice among the arguments gets a name. -/
def entGh (i : Nat) (imm : Bool) (sz : Nat) (e : Ent) : Ent := fun args H =>
  match args[i]? with
  | some (.lst true _ []) => e (args.set i (.acc H.length 0)) (H ++ [.acc imm sz []])
  | _ => e args H

theorem entGh_ok {P : Program} {f : FuncId} {i : Nat} {imm : Bool} {sz : Nat} {e : Ent} (h : EntOK P f e) : EntOK P f (entGh i imm sz e) := by
  intro args σ r H' he
  unfold entGh at he
  split at he
  · rename_i s hi
    have hc := h (args.set i (.acc σ.heap.length 0)) { σ with heap := σ.heap ++ [.acc imm sz []] } r H' he
    refine ⟨hc.1, fun C φ a w hP S vs hr => ?_⟩
    have S0 : Sim C φ ⟨σ.slots ++ args, σ.heap, σ.low⟩ { tmps := a.tmps ++ vs, defers := [] } w := { S with slots := by simpa using S.slots.append hr, defers := rfl }
    have hget : (σ.slots ++ args)[σ.slots.length + i]? = some (.lst true s []) := by
      rw [List.getElem?_append_right (by omega), Nat.add_sub_cancel_left]; exact hi
    obtain ⟨φ', S1⟩ := ghostAcc (σ := ⟨σ.slots ++ args, σ.heap, σ.low⟩) (sz := sz) (imm := imm) hget C φ _ w S0
    have hset : (σ.slots ++ args).set (σ.slots.length + i) (.acc σ.heap.length 0) = σ.slots ++ args.set i (.acc σ.heap.length 0) := by
      rw [List.set_append_right _ _ (by omega), Nat.add_sub_cancel_left]
    have hsl := S1.slots
    simp only [hset, Array.toList_append] at hsl
    have hsz : a.tmps.toList.length = σ.slots.length := S.slots.length
    have h1 := hsl.take σ.slots.length
    have h2 := hsl.drop σ.slots.length
    rw [List.take_left' rfl, List.take_left' hsz] at h1
    rw [List.drop_left' rfl, List.drop_left' hsz] at h2
    have S2 : Sim C φ' { σ with heap := σ.heap ++ [.acc imm sz []] } a w := { S1 with slots := h1, defers := S.defers }
    exact hc.2 C φ' a w hP S2 vs h2
  · exact h args σ r H' he

/-- One of two. -/
def entAlt (e e' : Ent) : Ent := fun args H => (e args H).or (e' args H)
theorem entAlt_ok {P : Program} {f : FuncId} {e e' : Ent} (h : EntOK P f e) (h' : EntOK P f e') : EntOK P f (entAlt e e') := by
  intro args σ r H' he
  unfold entAlt at he
  rw [Option.or_eq_some_iff] at he
  rcases he with he | ⟨_, he⟩
  · exact h args σ r H' he
  · exact h' args σ r H' he
end Go.Abs

/- The rules by which bodies are carried out, as one set. -/
namespace Go.Abs

section
variable {R : Type} {M : Mach R} {k : List Kt} {σ : AState}
theorem stepC_opX {ops : Array Oper} {o : Oper} {rest : List Oper} : stepC M ops o rest k σ none = stepE M ops o.dst rest k σ (opX M.P σ o.op) := by rw [← opX_eq]; rfl
theorem stepDC_opX {p : List Nat} {o : Oper} {rest : List Oper} {j : Nat} {tr : List Tr} : stepDC M p o rest j tr k σ none = stepDE M p o.dst rest j tr k σ (opX M.P σ o.op) := by rw [← opX_eq]; rfl
end

section
variable {R : Type} {M : Mach R} {k : List Kt} {σ : AState}
theorem stepE_cond {ops : Array Oper} {dst : Option Tmp} {rest : List Oper} {b : Bool} {x y : Option Eff} : stepE M ops dst rest k σ (bif b then x else y) = bif b then stepE M ops dst rest k σ x else stepE M ops dst rest k σ y := by cases b <;> rfl
theorem stepA_cond {ops : Array Oper} {dst : Option Tmp} {rest : List Oper} {b : Bool} {x y : Option (AV × List AObj)} : stepA M ops dst rest k σ (bif b then x else y) = bif b then stepA M ops dst rest k σ x else stepA M ops dst rest k σ y := by cases b <;> rfl
theorem stepDE_cond {p : List Nat} {dst : Option Tmp} {rest : List Oper} {j : Nat} {tr : List Tr} {b : Bool} {x y : Option Eff} : stepDE M p dst rest j tr k σ (bif b then x else y) = bif b then stepDE M p dst rest j tr k σ x else stepDE M p dst rest j tr k σ y := by cases b <;> rfl
theorem stepDA_cond {p : List Nat} {dst : Option Tmp} {rest : List Oper} {j : Nat} {tr : List Tr} {b : Bool} {x y : Option AV} : stepDA M p dst rest j tr k σ (bif b then x else y) = bif b then stepDA M p dst rest j tr k σ x else stepDA M p dst rest j tr k σ y := by cases b <;> rfl
end
theorem undef_eq : undef = .tuple #[] := rfl
theorem not_true' : (¬ True) = False := by simp
theorem not_false' : (¬ False) = True := by simp
theorem int_nonneg (n : Nat) : (0 ≤ (n : Int)) = True := by simp
theorem int_nonneg0 : ((0 : Int) ≤ 0) = True := by simp
theorem cond_not' {α : Type} {b : Bool} {x y : α} : (bif !b then x else y) = bif b then y else x := by cases b <;> rfl
theorem cond_same {α : Type} {b : Bool} {x : α} : (bif b then x else x) = x := by cases b <;> rfl
theorem cond_tf {b : Bool} : (bif b then true else false) = b := by cases b <;> rfl
theorem cond_ft {b : Bool} : (bif b then false else true) = !b := by cases b <;> rfl
theorem beq_tt {b : Bool} : (b == true) = b := by cases b <;> rfl
theorem beq_ff {b : Bool} : (b == false) = !b := by cases b <;> rfl
theorem beq_tt' {b : Bool} : (true == b) = b := by cases b <;> rfl
theorem beq_ff' {b : Bool} : (false == b) = !b := by cases b <;> rfl
theorem bind_ite' {α β : Type} {p : Prop} [Decidable p] {a b : Option α} {f : α → Option β} : (if p then a else b).bind f = bif decide p then a.bind f else b.bind f := by
  by_cases h : p <;> simp [h]
theorem mp_get {α β : Type} (f : α → β) (xs : List α) (i : Nat) : (mp f xs)[i]? = Option.map f xs[i]? := by rw [mp_eq, List.getElem?_map]
theorem mp_set {α β : Type} (f : α → β) (xs : List α) (i : Nat) (x : α) : (mp f xs).set i (f x) = mp f (xs.set i x) := by rw [mp_eq, mp_eq, List.map_set]
theorem pcond_room {R : Type} {a b : Nat} {x : Option R} : pcond (room a b) x = bif decide (a * b ≤ 17592186044416) then x else none := by
  unfold room
  exact pcond_dec
theorem pcond_nat {R : Type} {a b : Nat} {x : Option R} : pcond (a < b) x = bif decide (a < b) then x else none := pcond_dec
theorem pcond_ror {R : Type} {a b : Nat} {x : Option R} : pcond (a = 0 ∨ 0 < b) x = bif decide (a = 0 ∨ 0 < b) then x else none := pcond_dec
theorem pcond_ilt {R : Type} {a b : Int} {x : Option R} : pcond (a < b) x = bif decide (a < b) then x else none := pcond_dec

-- bytes
theorem sb_size (s : Str) : (sb s).size = s.length := by simp [sb, ByteArray.size]
theorem sb_get (s : Str) (i : Nat) : (sb s)[i]? = s[i]? := by
  by_cases h : i < s.length
  · have h' : i < (sb s).size := by rw [sb_size]; exact h
    rw [List.getElem?_eq_getElem h, getElem?_pos (sb s) i h']
    rfl
  · have h' : ¬ i < (sb s).size := by rw [sb_size]; exact h
    rw [List.getElem?_eq_none (by omega), getElem?_neg (sb s) i h']
theorem sb_idx (s : Str) (n : Int) : idxB (sb s) n = idxA s n := by
  simp only [idxB, sb_get]; rfl
theorem sb_toList (s : Str) : (sb s).toList = s := by
  rw [ByteArray.toList_eq]; rfl
theorem sb_extract (s : Str) (a b : Nat) : (sb s).extract a b = sb ((s.take b).drop a) := by
  apply ByteArray.ext
  simp only [sb, ByteArray.data_extract]
  apply Array.ext'
  simp [Array.toList_extract, List.extract]
  rw [List.drop_take]
theorem sb_append (s t : Str) : sb s ++ sb t = sb (s ++ t) := by
  apply ByteArray.ext
  simp [sb]
theorem sb_empty : ByteArray.empty = sb [] := rfl
theorem sb_emptyL : (⟨#[]⟩ : ByteArray) = sb [] := rfl

attribute [go_sem] run_nil run_blk run_ops_nil run_dops_nil behind exitK_some exitK_none stepIf_true stepIf_false run_at stepN_skip stepN_region stepN_draw stepN_seq stepN_cond stepN_block stepN_loop stepN_exit stepN_scope stepN_label stepN_ret
  run_cut run_lp run_ops run_dops stepW_true stepW_false stepC_some stepC_opX stepE_none stepE_some stepE_bind stepE_ite stepA_some stepA_none stepA_bind stepDW_true stepDW_false stepDC_some stepDC_opX stepDE_none stepDE_idle stepDE_some stepDE_bind stepDE_ite stepDA_some stepDA_none stepDA_bind stepE_cond stepA_cond stepDE_cond stepDA_cond
  sub child setB gset pcond_true pcond_and pcond_room pcond_ror pcond_ilt
attribute [go_sem low] stepIf_sym stepW_sym stepDW_sym
attribute [go_sem] mapO_nil mapO_cons mapO_append bind_map' bind_bind' bind_cond bind_none' bind_some' idxA_mp mp_length mp_take mp_drop mp_get mp_set bind_ite'  mp_isEmpty idxA_zero idxA_one idxA_two szOK dL tyL_enc tyL_dec dS_sb dI_int dB_bool dS_empty dS_emptyL tyI_enc tyI_dec tyB_enc tyB_dec tyS_enc tyS_dec dF_lit tyF_enc tyF_dec
  dI1 dB1 dS1 rowI_f rowU_f rowB_f rowS_f mapO_cells1 dC tyC_enc tyC_dec tyU_enc tyU_dec d2 d3 d4 d5 ty2_enc ty2_dec ty3_enc ty3_dec ty4_enc ty4_dec ty5_enc ty5_dec outR ent0 ent1 ent2 ent3 ent4 ent5 ent6 entD tabA tabD zA_f zK_f zT_f zipZ oD_f oK_f oC_f oT_f oA_f zipO nrmZ gSlot gCell gSlots gCells nrmN tabN
  ixA ixS ldA ldV vwL stA opX cond_not' cond_same cond_tf cond_ft beq_tt beq_ff beq_tt' beq_ff' sb_size sb_idx sb_get sb_toList sb_append sb_extract sb_empty sb_emptyL
attribute [go_sem] fzOne fzAll tabF rp1 rpV rpO cI_f cB_f cS_f cL_f cF_f dL1 dF1 dP tyP_enc tyP_dec dK1 dK2 dK3 tyK1_f tyK2_f tyK3_f daT dcT oaT_f ocT_f osN_f osC_f dosC rsN_f rsT_f drsT rsA_f drsA tupOf outG
  asN_f asT_f dasT asP_f dasP asA_f dasA nameOf nameAt nodupB getAt entG entGh entAlt Option.or_none Option.none_or outH outH.outH1 setAll backTo AV.ren renL renR outX
attribute [go_sem] wantedA calleeOf opEff AState.ev AState.put applyUps AV.scalar constAV fillAV rowsOf binAV aggEff eqB eq1 bound tightOf sliceAV srcRows appendAV lenAV builtinEff
  resAV resList resOne frz frzL chunks undef_eq
attribute [go_sem] List.all_cons List.all_nil Bool.and_true Bool.true_and Bool.and_false Bool.false_and if_true if_false List.getD_cons_zero List.getD_cons_succ List.length_cons List.length_nil List.replicate List.cons_append List.nil_append
  List.set_cons_zero List.set_cons_succ reduceCtorEq and_true true_and List.append_nil Nat.zero_add List.getElem?_cons_zero List.getElem?_cons_succ List.getElem?_nil Option.bind_some List.drop_zero List.drop_succ_cons List.drop_nil
  List.take_succ_cons List.take_zero List.take_nil ne_eq not_true' not_false' Option.isSome_some Option.isSome_none Option.isNone_some Option.isNone_none List.map_cons List.map_nil List.getElem?_toArray Bool.not_true Bool.not_false cond_true cond_false
  Int.toNat_natCast int_nonneg int_nonneg0 true_or or_true and_self false_or or_false List.length_map List.set_nil decide_true decide_false Bool.not_not and_false false_and
  List.length_append List.length_set List.length_replicate beq_self_eq_true
attribute [go_sem] compatP_eq opsAt regOps Eff.idle pushTr indepB disjointB List.contains_cons List.contains_nil List.isEmpty_nil List.isEmpty_cons Bool.or_false Bool.false_or Bool.or_true Bool.true_or Nat.le_refl Bool.false_eq_true Int.cast_ofNat_Int Int.toNat_zero Int.toNat_one List.flatten_cons List.flatten_nil
  List.cons.injEq Option.map_some Option.map_none
theorem nbR_append {n : Nat} : ∀ {a b : List (List AV)}, nbR n (a ++ b) = (nbR n a ∧ nbR n b)
  | [], _ => by simp [nbR]
  | x :: a, b => by simp [nbR, nbR_append (a := a), and_assoc]
theorem loadAV_lit0 {n : Nat} {c : AV} {cs : List AV} : loadAV false n (c :: cs) = some c := rfl
theorem loadAV_lit1 {n : Nat} {c : AV} {cs : List AV} : loadAV true n (c :: cs) = if n ≤ (c :: cs).length then some (.agg ((c :: cs).take n)) else none := rfl
theorem cellsOf_lit {c : AV} {cs : List AV} : cellsOf (.agg (c :: cs)) = if (c :: cs).all AV.scalar then some (c :: cs) else none := rfl
theorem cellsOf_one : (∀ b, cellsOf (.bool b) = some [.bool b]) ∧ (∀ k n, cellsOf (.int k n) = some [.int k n]) ∧ (∀ s, cellsOf (.str s) = some [.str s]) ∧ (∀ t sz r, cellsOf (.lst t sz r) = some [.lst t sz r]) ∧
    (∀ l n, cellsOf (.acc l n) = some [.acc l n]) ∧ (∀ a b c d e, cellsOf (.own a b c d e) = some [.own a b c d e]) ∧ (∀ a b, cellsOf (.ptr a b) = some [.ptr a b]) ∧ (∀ a, cellsOf (.map a) = some [.map a]) ∧
    (∀ cs, cellsOf (.pp cs) = some [.pp cs]) ∧ (∀ fn f c, cellsOf (.func fn f c) = some [.func fn f c]) ∧ (∀ t x, cellsOf (.iface t x) = some [.iface t x]) ∧ cellsOf (.raw .nilFunc) = some [.raw .nilFunc] ∧ cellsOf (.raw .nilIface) = some [.raw .nilIface] ∧
    (∀ a, cellsOf (.raw (.pointer a)) = some [.raw (.pointer a)]) ∧ (∀ a, cellsOf (.raw (.map a)) = some [.raw (.map a)]) :=
  ⟨fun _ => rfl, fun _ _ => rfl, fun _ => rfl, fun _ _ _ => rfl, fun _ _ => rfl, fun _ _ _ _ _ => rfl, fun _ _ => rfl, fun _ => rfl, fun _ => rfl, fun _ _ _ => rfl, fun _ _ => rfl, rfl, rfl, fun _ => rfl, fun _ => rfl⟩
theorem splice_lit {c : AV} {cs : List AV} {o : Nat} {xs : List AV} : splice (c :: cs) o xs = (c :: cs).take o ++ xs ++ (c :: cs).drop (o + xs.length) := rfl
theorem splice_all {cs xs : List AV} (h : xs.length = cs.length) : splice cs 0 xs = xs := by
  simp only [splice, List.take_zero, List.nil_append, Nat.zero_add, h, List.drop_length, List.append_nil]
attribute [go_sem] loadAV_lit0 loadAV_lit1 cellsOf_lit cellsOf_one splice_all
attribute [go_sem low] splice_lit
attribute [go_sem] AV.nb nbL nbR objNb nbR_append
theorem nb_if {n : Nat} {c : Prop} [Decidable c] {a : AV} : AV.nb n (if c then a else .any) = (¬ c ∨ AV.nb n a) := by
  by_cases h : c <;> simp [h, AV.nb]
theorem dL_if {α : Type} {r : Row α} {H : List AObj} {c : Prop} [Decidable c] {a : AV} : dL r H (if c then a else .any) = bif decide c then dL r H a else none := by
  by_cases h : c <;> simp [h, dL]
attribute [go_sem high] nb_if dL_if
attribute [go_sem] or_true
end Go.Abs

/- Structs that are compared cell by cell. -/
namespace Go.Abs
/-- The cells of two structs that are compared cell by cell. -/
def flatFits (P : Program) : Nat → List Field → List AV → List AV → Prop
  | _, [], [], [] => True
  | o, f :: fs, c :: cs, d :: ds => (f.name ≠ "_" ∧ f.offset = o ∧ P.plainKey f.type = true ∧ (match c, d with
    | .int k _, .int k' _ => k = k' ∧ ∃ q, P.underlying f.type = some (.int q)
    | .bool _, .bool _ => P.underlying f.type = some .bool
    | .str _, .str _ => P.underlying f.type = some .string
    | _, _ => False)) ∧ flatFits P (o + 1) fs cs ds
  | _, _, _, _ => False

theorem eqFields_flat {P : Program} {E : Env} {vs us : Array Value} {w : World} {d : Nat} : ∀ (fs : List Field) (o : Nat) (cs ds : List AV), flatFits P o fs cs ds → RepL E cs (vs.toList.drop o) → RepL E ds (us.toList.drop o) →
    (Op.eqFields (d + 1) vs us fs).run P w = .ok (eqB cs ds) w
  | [], _, [], [], _, _, _ => by simp [Op.eqFields, eqB]
  | [], _, _ :: _, _, h, _, _ => h.elim
  | [], _, [], _ :: _, h, _, _ => h.elim
  | _ :: _, _, [], _, h, _, _ => h.elim
  | _ :: _, _, _ :: _, [], h, _, _ => h.elim
  | f :: fs, o, c :: cs, e :: ds, ⟨⟨h1, h2, h3, h4⟩, h5⟩, r1, r2 => by
    obtain ⟨u, us', e1, r1, r1'⟩ := r1
    obtain ⟨v, vs', e2, r2, r2'⟩ := r2
    have g1 : vs[f.offset]? = some u := by
      have := congrArg (fun l : List Value => l[0]?) e1
      rw [h2]; simpa using this
    have g2 : us[f.offset]? = some v := by
      have := congrArg (fun l : List Value => l[0]?) e2
      rw [h2]; simpa using this
    have t1 : vs.toList.drop (o + 1) = us' := by
      have := congrArg List.tail e1
      simpa using this
    have t2 : us.toList.drop (o + 1) = vs' := by
      have := congrArg List.tail e2
      simpa using this
    have ih := eqFields_flat (d := d) (w := w) fs (o + 1) cs ds h5 (by rw [t1]; exact r1') (by rw [t2]; exact r2')
    have hone : (Op.equalIn (d + 1) f.type u v).run P w = .ok (eq1 c e) w := by
      cases c <;> cases e <;> try exact h4.elim
      · cases r1; cases r2; exact run_equalIn_bool _ d f.type _ _ h4
      · obtain ⟨rfl, q, hq⟩ := h4
        cases r1; cases r2; exact run_equalIn_int _ d f.type _ q _ _ hq
      · cases r1; cases r2; exact run_equalIn_string _ d f.type _ _ h4
    simp only [Op.eqFields, h1, ne_eq, not_false_eq_true, if_true, Sem.run_bind, run_part_plain w h3 g1, run_part_plain w h3 g2, hone, Result.andThen_ok, eqB]
    cases eq1 c e
    · simp
    · simpa using ih

theorem aggEq_flat {P : Program} {t : TypeId} {cs ds : List AV} (ht : P.underlying t = some (.struct (P.fieldsOf t))) (hp : P.stoodInHeld t = false) (hg : P.eqGuardType P.depth t = false)
    (hf : flatFits P 0 (P.fieldsOf t).toList cs ds) : AggEq P t cs ds := by
  intro E vs us w x y h1 h2
  have hq : (Op.equal t (.agg vs) (.agg us)).run P w = .ok (eqB cs ds) w := by
    show (Op.equalIn (9999 + 1) t _ _).run P w = _
    rw [run_equalIn_struct w 9999 t vs us ht hp]
    exact eqFields_flat (d := 9998) _ 0 cs ds hf (by simpa using h1) (by simpa using h2)
  constructor
  · simp [eqGuard, binOp, hg, hq]
  · simp [eqGuard, binOp, hg, hq]

end Go.Abs

