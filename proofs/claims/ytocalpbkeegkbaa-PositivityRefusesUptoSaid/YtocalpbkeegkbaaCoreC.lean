/- A part of the proof: abstract states and the rules for them. -/
import Derived.Test.YtocalpbkeegkbaaCoreB
import Derived.Attr
import Derived.Laws.StructEq
import Derived.ChangeKeysEq
set_option linter.all false
namespace Go.Abs

def HSim (C : Ctx) (φ : Nat → Value) (H : List AObj) (w : World) : Prop := Sim C φ { slots := [], heap := H, low := H.length } { tmps := #[], defers := [] } w

def FnG (P : Program) (f : FuncId) (args : List AV) (H : List AObj) (V : AOut → List AObj → Prop) : Prop :=
  enters P f = true ∧ nbL H.length args ∧ (∀ x ∈ H, objNb H.length x) ∧ ∀ (C : Ctx) (φ : Nat → Value) (w : World), C.P = P → C.w0 = w → C.N0 = H.length → (∀ l, l < H.length → C.φ0 l = φ l ∧ C.ln0 l = accLen H[l]?) → (∀ b o, C.M0 b o ↔ Mut φ H b o) →
    HSim C φ H w → ∀ vs : Array Value, RepL (C.env φ H w) args vs.toList →
    Calls P f vs w fun e w' => ∃ o φ' H', V o H' ∧ Sim C φ' { slots := [], heap := H', low := H.length } { tmps := #[], defers := [] } w' ∧ o.rep (C.env φ' H' w') e

def setAll : List AObj → List Nat → List AObj → List AObj
  | H, l :: ls, x :: xs => setAll (H.set l x) ls xs
  | H, _, _ => H

def backTo (ρ : List Nat) (n : Nat) (l : Nat) : Nat := if l < ρ.length then ρ.getD l 0 else n + (l - ρ.length)

def heapBack (ρ : List Nat) (H H' : List AObj) : List AObj :=
  setAll H ρ (H'.map (AObj.ren (backTo ρ H.length))) ++ (H'.drop ρ.length).map (AObj.ren (backTo ρ H.length))

theorem setAll_length : ∀ (H : List AObj) (ls : List Nat) (xs : List AObj), (setAll H ls xs).length = H.length
  | _, [], _ => by simp [setAll]
  | _, _ :: _, [] => by simp [setAll]
  | H, l :: ls, x :: xs => by rw [setAll, setAll_length, List.length_set]

theorem setAll_other : ∀ (ls : List Nat) (H : List AObj) (xs : List AObj) (k : Nat), k ∉ ls → (setAll H ls xs)[k]? = H[k]?
  | [], _, _, _, _ => by simp [setAll]
  | _ :: _, _, [], _, _ => by simp [setAll]
  | l :: ls, H, x :: xs, k, h => by
    simp only [List.mem_cons, not_or] at h
    rw [setAll, setAll_other ls _ xs k h.2, List.getElem?_set_ne (fun e => h.1 e.symm)]

theorem setAll_at : ∀ (ls : List Nat) (H : List AObj) (xs : List AObj) (i k : Nat) (x : AObj), ls.Nodup → ls[i]? = some k → xs[i]? = some x → k < H.length → (setAll H ls xs)[k]? = some x
  | [], _, _, _, _, _, _, h, _, _ => by simp at h
  | _ :: _, _, [], _, _, _, _, _, h, _ => by simp at h
  | l :: ls, H, y :: ys, 0, k, x, hnd, h, hx, hk => by
    simp at h hx; subst h hx
    rw [List.nodup_cons] at hnd
    rw [setAll, setAll_other ls _ ys l hnd.1, List.getElem?_set_self hk]
  | l :: ls, H, y :: ys, i + 1, k, x, hnd, h, hx, hk => by
    simp at h hx
    rw [List.nodup_cons] at hnd
    rw [setAll]
    exact setAll_at ls _ ys i k x hnd.2 h hx (by rw [List.length_set]; exact hk)

def posIn : List Nat → Nat → Option Nat
  | [], _ => none
  | x :: xs, k => if x = k then some 0 else (posIn xs k).map (· + 1)

theorem posIn_at : ∀ (ρ : List Nat) (l k : Nat), ρ.Nodup → ρ[l]? = some k → posIn ρ k = some l
  | [], _, _, _, h => by simp at h
  | x :: xs, 0, k, _, h => by simp at h; subst h; simp [posIn]
  | x :: xs, l + 1, k, hnd, h => by
    simp at h
    rw [List.nodup_cons] at hnd
    have hne : x ≠ k := fun e => hnd.1 (e ▸ List.mem_of_getElem? h)
    simp [posIn, hne, posIn_at xs l k hnd.2 h]

theorem posIn_none : ∀ (ρ : List Nat) (k : Nat), k ∉ ρ → posIn ρ k = none
  | [], _, _ => rfl
  | x :: xs, k, h => by
    simp only [List.mem_cons, not_or] at h
    have hne : x ≠ k := fun e => h.1 e.symm
    simp [posIn, hne, posIn_none xs k h.2]

section call
variable {C : Ctx} {φ : Nat → Value} {σ : AState} {a : Act} {w : World}

structure TMono (T : Value → World → Array Value → (Ending → World → Prop) → Prop) : Prop where
  mono : ∀ h w vs R R', (∀ e w', R e w' → R' e w') → T h w vs R → T h w vs R'

def FnT (P : Program) (T : Value → World → Array Value → (Ending → World → Prop) → Prop) (args : List AV) (H : List AObj) (V : AOut → List AObj → Prop) : Prop :=
  nbL H.length args ∧ (∀ x ∈ H, objNb H.length x) ∧ ∀ (C : Ctx) (φ : Nat → Value) (w : World), C.P = P → C.w0 = w → C.N0 = H.length → (∀ l, l < H.length → C.φ0 l = φ l ∧ C.ln0 l = accLen H[l]?) → (∀ b o, C.M0 b o ↔ Mut φ H b o) →
    HSim C φ H w → ∀ vs : Array Value, RepL (C.env φ H w) args vs.toList →
    T (φ 0) w vs fun e w' => ∃ o φ' H', V o H' ∧ Sim C φ' { slots := [], heap := H', low := H.length } { tmps := #[], defers := [] } w' ∧ o.rep (C.env φ' H' w') e

def CallT (P : Program) (T : Value → World → Array Value → (Ending → World → Prop) → Prop) (l : Nat) (args : List AV) (σ : AState) (K : AOut → List AObj → Prop) : Prop :=
  ∀ (C : Ctx) (φ : Nat → Value) (a : Act) (w : World), C.P = P → Sim C φ σ a w → ∀ vs : Array Value, RepL (C.env φ σ.heap w) args vs.toList →
    T (φ l) w vs fun e w' => ∃ o φ' H', K o H' ∧ Sim C φ' { σ with heap := H' } a w' ∧ o.rep (C.env φ' H' w') e

theorem callT_of_fnT {P : Program} {T : Value → World → Array Value → (Ending → World → Prop) → Prop} (hT : TMono T) {l0 : Nat} {cargs args : List AV} {H : List AObj} {V : AOut → List AObj → Prop} {K : AOut → List AObj → Prop} (h : FnT P T args H V) (ρ : List Nat) (hlen : ρ.length = H.length) (hnd : ρ.Nodup)
    (hz : ∀ φ : Nat → Value, T (φ (backTo ρ σ.heap.length 0)) = T (φ l0))
    (hargs : SubL cargs (renL (backTo ρ σ.heap.length) args)) (hobj : ∀ (i : Nat) (k : Nat) (x : AObj), ρ[i]? = some k → H[i]? = some x → σ.heap[k]? = some (x.ren (backTo ρ σ.heap.length)))
    (hK : ∀ o H', V o H' → K (o.ren (backTo ρ σ.heap.length)) (heapBack ρ σ.heap H')) : CallT P T l0 cargs σ K := by
  obtain ⟨hnbA, hnbH, hc⟩ := h
  intro C φ a w hP S vs hr
  -- the callee's context
  let ρf : Nat → Nat := backTo ρ σ.heap.length
  have hρ : ∀ l, l < H.length → ρ[l]? = some (ρf l) := by
    intro l hl
    have hl' : l < ρ.length := by omega
    simp only [ρf, backTo, hl', if_true, List.getD, List.getElem?_eq_getElem hl', Option.getD_some]
  let φc : Nat → Value := fun l => φ (ρf l)
  have hfoot : ∀ (l : Nat) (x : AObj), H[l]? = some x → σ.heap[ρf l]? = some (x.ren ρf) := fun l x hx => hobj l _ x (hρ l (List.getElem?_eq_some_iff.1 hx).1) hx
  have hρlt : ∀ l, l < H.length → ρf l < σ.heap.length := by
    intro l hl
    have := hfoot l H[l] (List.getElem?_eq_getElem hl)
    exact (List.getElem?_eq_some_iff.1 this).1
  have hinj : ∀ l l', l < H.length → l' < H.length → ρf l = ρf l' → l = l' := by
    intro l l' hl hl' he
    have h1 := hρ l hl
    have h2 := hρ l' hl'
    rw [he] at h1
    obtain ⟨i1, e1⟩ := List.getElem?_eq_some_iff.1 h1
    obtain ⟨i2, e2⟩ := List.getElem?_eq_some_iff.1 h2
    exact (List.getElem_inj hnd).1 (by rw [e1, e2])
  have hMsub : ∀ b o, Mut φc H b o → Mut φ σ.heap b o := by
    rintro b o ⟨l, x, hx, hm⟩
    exact ⟨ρf l, _, hfoot l x hx, ren_muts.2 hm⟩
  have hA0 : ∀ b o, ((Mut φ σ.heap b o ∨ C.A b o) ∧ ¬ Mut φc H b o) → b < w.heap.size := by
    rintro b o ⟨⟨l, x, hx, hm⟩ | hA, _⟩
    · exact (S.objs l x hx).block_lt (AObj.block_of_muts hm)
    · exact Nat.lt_of_lt_of_le (C.hA b o hA) S.size
  let C' : Ctx := Ctx.mk C.P w (Mut φc H) (fun b o => (Mut φ σ.heap b o ∨ C.A b o) ∧ ¬ Mut φc H b o) hA0 (fun b o h => let ⟨v, h1, h2, h3⟩ := S.know b o h; ⟨v, h1, h2, fun hm => h3 (hMsub b o hm)⟩) H.length φc (fun l => accLen H[l]?)
  have hmuEq : ∀ b o, (Mut φc H b o ∨ C'.A b o) ↔ (Mut φ σ.heap b o ∨ C.A b o) := by
    intro b o
    constructor
    · rintro (h | h)
      · exact .inl (hMsub b o h)
      · exact h.1
    · intro h
      by_cases hm : Mut φc H b o
      · exact .inl hm
      · exact .inr ⟨h, hm⟩
  have un : UnLe H.length ρf (C.env φ σ.heap w) (C'.env φc H w) := by
    refine ⟨Nat.le_refl _, fun l hl => ⟨rfl, ?_⟩, fun b o u hm hcell => ⟨fun hh => hm ((hmuEq b o).1 hh), hcell⟩⟩
    simp only [Ctx.env]
    rw [hfoot l H[l] (List.getElem?_eq_getElem hl), ren_accLen, List.getElem?_eq_getElem hl]
  have hblk : ∀ (l : Nat) (x : AObj) (b : Nat), H[l]? = some x → x.block (φc l) b → ∃ y : AObj, σ.heap[ρf l]? = some y ∧ y.block (φ (ρf l)) b := fun l x b hx hb => ⟨_, hfoot l x hx, ren_block.2 hb⟩
  -- a block of a footprint's object is nobody else's
  have hown : ∀ (l : Nat) (x : AObj) (b : Nat), H[l]? = some x → x.block (φc l) b → ∀ o, Mut φ σ.heap b o → Mut φc H b o := by
    rintro l x b hx hb o ⟨k, y, hy, hm⟩
    obtain ⟨z, hz, hzb⟩ := hblk l x b hx hb
    have hk := S.apart k (ρf l) y z b hy hz (AObj.block_of_muts hm) hzb
    subst hk
    have hf := hfoot l x hx
    rw [hy] at hf
    cases hf
    exact ⟨l, x, hx, ren_muts.1 hm⟩
  have hS' : HSim C' φc H w := by
    refine { slots := rfl, defers := DefOK.nil, objs := ?_, apart := ?_, notA := ?_, size := Nat.le_refl _, old := fun _ _ _ _ => rfl, oldObj := fun _ _ _ => rfl, inM := ?_, froz := fun _ _ => rfl, rest := ⟨rfl, rfl⟩, low := ⟨rfl, Nat.le_refl _⟩, names := fun l hl => .inl ⟨rfl, .inl rfl⟩ }
    · intro l x hx
      exact ObjRep.unren un (hnbH x (List.mem_of_getElem? hx)) (fun _ _ => rfl) (S.objs (ρf l) _ (hfoot l x hx))
    · intro l l' x x' b hx hx' hb hb'
      obtain ⟨z, hz, hzb⟩ := hblk l x b hx hb
      obtain ⟨z', hz', hzb'⟩ := hblk l' x' b hx' hb'
      exact hinj l l' (List.getElem?_eq_some_iff.1 hx).1 (List.getElem?_eq_some_iff.1 hx').1 (S.apart _ _ z z' b hz hz' hzb hzb')
    · rintro l x b o hx hb ⟨hA | hA, hn⟩
      · exact hn (hown l x b hx hb o hA)
      · obtain ⟨z, hz, hzb⟩ := hblk l x b hx hb
        exact S.notA _ z b o hz hzb hA
    · intro l x b o hx hm _
      exact ⟨l, x, hx, hm⟩
  have hr' : RepL (C'.env φc H w) args vs.toList := RepL.unren un _ _ hnbA (hargs _ _ hr)
  have hcall := hc C' φc w hP rfl rfl (fun l _ => ⟨rfl, rfl⟩) (fun _ _ => Iff.rfl) hS' vs hr'
  rw [show φc 0 = φ (backTo ρ σ.heap.length 0) from rfl, hz φ] at hcall
  refine hT.mono _ _ _ _ _ ?_ hcall
  rintro e w' ⟨o, φ', H', hV, S', hrep⟩
  -- behind the call
  have hHle : H.length ≤ H'.length := S'.low.2
  let n := σ.heap.length
  have hcase : ∀ k, k < n → (∃ l, l < H.length ∧ ρf l = k) ∨ k ∉ ρ := by
    intro k _
    by_cases hm : k ∈ ρ
    · obtain ⟨i, hi⟩ := List.getElem?_of_mem hm
      have hil := (List.getElem?_eq_some_iff.1 hi).1
      left
      refine ⟨i, by omega, ?_⟩
      have := hρ i (by omega)
      rw [hi] at this; cases this; rfl
    · exact .inr hm
  let ix : Nat → Option Nat := posIn ρ
  have hix : ∀ l, l < H.length → ix (ρf l) = some l := by
    intro l hl
    exact posIn_at ρ l _ hnd (hρ l hl)
  have hix0 : ∀ k, k ∉ ρ → ix k = none := by
    intro k hk
    exact posIn_none ρ k hk
  let φ2 : Nat → Value := fun k => if k < n then (match ix k with | some l => φ' l | none => φ k) else φ' (H.length + (k - n))
  have hφ2f : ∀ l, l < H'.length → φ2 (ρf l) = φ' l := by
    intro l hl
    by_cases h1 : l < H.length
    · simp only [φ2]
      rw [if_pos (hρlt l h1), hix l h1]
    · have h2 : ρf l = n + (l - H.length) := by
        have : ¬ l < ρ.length := by omega
        show backTo ρ σ.heap.length l = _
        unfold backTo
        rw [if_neg this, hlen]
      simp only [φ2]
      rw [if_neg (by omega), h2]
      congr 1; omega
  have hφ2o : ∀ k, k < n → k ∉ ρ → φ2 k = φ k := by
    intro k hk hm
    simp only [φ2]
    rw [if_pos hk, hix0 k hm]
  let H2 : List AObj := heapBack ρ σ.heap H'
  have hH2f : ∀ (l : Nat) (hl : l < H'.length), H2[ρf l]? = some ((H'[l]).ren ρf) := by
    intro l hl
    simp only [H2, heapBack]
    by_cases h1 : l < H.length
    · have hlt := hρlt l h1
      rw [List.getElem?_append_left (by rw [setAll_length]; exact hlt)]
      exact setAll_at ρ σ.heap _ l (ρf l) _ hnd (hρ l h1) (by rw [List.getElem?_map, List.getElem?_eq_getElem hl]; rfl) hlt
    · have h2 : ρf l = n + (l - H.length) := by
        have : ¬ l < ρ.length := by omega
        show backTo ρ σ.heap.length l = _
        unfold backTo
        rw [if_neg this, hlen]
      rw [h2, List.getElem?_append_right (by rw [setAll_length]; omega), setAll_length]
      rw [List.getElem?_map, List.getElem?_drop, hlen]
      have e : H.length + (n + (l - H.length) - σ.heap.length) = l := by simp only [n]; omega
      rw [e, List.getElem?_eq_getElem hl]; rfl
  have hH2o : ∀ k, k < n → k ∉ ρ → H2[k]? = σ.heap[k]? := by
    intro k hk hm
    simp only [H2, heapBack]
    rw [List.getElem?_append_left (by rw [setAll_length]; exact hk)]
    exact setAll_other ρ _ _ k hm
  have hH2len : H2.length = n + (H'.length - H.length) := by
    simp only [H2, heapBack, List.length_append, setAll_length, List.length_map, List.length_drop, hlen]; rfl
  have hH2 : ∀ (k : Nat) (y : AObj), H2[k]? = some y → (∃ l, ∃ hl : l < H'.length, k = ρf l ∧ y = (H'[l]).ren ρf) ∨ (k < n ∧ k ∉ ρ ∧ σ.heap[k]? = some y) := by
    intro k y hy
    have hk : k < H2.length := (List.getElem?_eq_some_iff.1 hy).1
    by_cases h1 : k < n
    · rcases hcase k h1 with ⟨l, hl, rfl⟩ | hm
      · left
        have := hH2f l (by omega)
        rw [hy] at this; cases this
        exact ⟨l, by omega, rfl, rfl⟩
      · right
        rw [hH2o k h1 hm] at hy
        exact ⟨h1, hm, hy⟩
    · left
      have hl : H.length + (k - n) < H'.length := by omega
      have hk2 : ρf (H.length + (k - n)) = k := by
        have : ¬ H.length + (k - n) < ρ.length := by omega
        show backTo ρ σ.heap.length _ = _
        unfold backTo
        rw [if_neg this, hlen]
        simp only [n] at h1 ⊢; omega
      have := hH2f _ hl
      rw [hk2, hy] at this; cases this
      exact ⟨_, hl, hk2.symm, rfl⟩
  have hMut2 : ∀ b o, Mut φ2 H2 b o → Mut φ' H' b o ∨ ∃ (k : Nat) (y : AObj), k < n ∧ k ∉ ρ ∧ σ.heap[k]? = some y ∧ y.muts (φ k) b o := by
    rintro b o ⟨k, y, hy, hm⟩
    rcases hH2 k y hy with ⟨l, hl, rfl, rfl⟩ | ⟨h1, h2, h3⟩
    · left
      rw [hφ2f l hl] at hm
      exact ⟨l, _, List.getElem?_eq_getElem hl, ren_muts.1 hm⟩
    · right
      rw [hφ2o k h1 h2] at hm
      exact ⟨k, y, h1, h2, h3, hm⟩
  -- an object of the caller's that was not handed over shares no block with one that was
  have hsep : ∀ (k : Nat) (y : AObj) (b : Nat), k < n → k ∉ ρ → σ.heap[k]? = some y → y.block (φ k) b → ∀ o, ¬ Mut φc H b o := by
    rintro k y b hk hm hy hb o ⟨l, x, hx, hmu⟩
    obtain ⟨z, hz, hzb⟩ := hblk l x b hx (AObj.block_of_muts hmu)
    have e := S.apart k (ρf l) y z b hy hz hb hzb
    apply hm
    rw [e]
    exact List.mem_of_getElem? (hρ l (List.getElem?_eq_some_iff.1 hx).1)
  have hnewblk : ∀ (l : Nat) (hl : l < H'.length) (b : Nat), (H'[l]).block (φ' l) b → b < w.heap.size → ∃ (k : Nat) (x : AObj), H[k]? = some x ∧ x.block (φc k) b := by
    intro l hl b hb hlt
    obtain ⟨o, hmu⟩ := muts_of_block hb
    obtain ⟨k, x, hx, hmx⟩ := S'.inM l _ b o (List.getElem?_eq_getElem hl) hmu hlt
    exact ⟨k, x, hx, AObj.block_of_muts hmx⟩
  have le : (C.env φ σ.heap w).Le n (C.env φ2 H2 w') := by
    refine ⟨by simp only [Ctx.env]; omega, fun k hk => ?_, fun b o' u hm hcell => ?_⟩
    · rcases hcase k hk with ⟨l, hl, rfl⟩ | hm
      · have hn := S'.names l hl
        simp only [Ctx.env]
        rw [hφ2f l (by omega), hH2f l (by omega), ren_accLen, hfoot l H[l] (List.getElem?_eq_getElem hl), ren_accLen]
        have h1 : accLen H'[l]? = accLen (some H'[l]) := by rw [List.getElem?_eq_getElem (by omega)]
        have h2 : C'.ln0 l = accLen (some H[l]) := by show accLen H[l]? = _; rw [List.getElem?_eq_getElem hl]
        rw [h1, h2] at hn
        exact hn
      · left
        simp only [Ctx.env]
        rw [hφ2o k hk hm, hH2o k hk hm]
        exact ⟨rfl, .inl rfl⟩
    · have hb := cell_lt hcell
      simp only [Ctx.env] at hb hm ⊢
      have hnc : ¬ Mut φc H b o' := fun hh => hm (.inl (hMsub b o' hh))
      refine ⟨?_, by rw [S'.old b o' hb hnc]; exact hcell⟩
      rintro (hh | hh)
      · rcases hMut2 b o' hh with ⟨l, x, hx, hmu⟩ | ⟨k, y, _, _, hy, hmu⟩
        · exact hnc (S'.inM l x b o' hx hmu hb)
        · exact hm (.inl ⟨k, y, hy, hmu⟩)
      · exact hm (.inr hh)
  have ren : RenLe H'.length ρf (C'.env φ' H' w') (C.env φ2 H2 w') := by
    refine ⟨fun l hl => ?_, fun l hl => ?_, fun b o' u hm hcell => ⟨?_, hcell⟩⟩
    · have := hH2f l hl
      exact (List.getElem?_eq_some_iff.1 this).1
    · simp only [Ctx.env]
      rw [hφ2f l hl, hH2f l hl, ren_accLen, List.getElem?_eq_getElem hl]
      exact ⟨rfl, .inl rfl⟩
    · simp only [Ctx.env] at hm ⊢
      rintro (hh | hh)
      · rcases hMut2 b o' hh with h1 | ⟨k, y, hk, hkm, hy, hmu⟩
        · exact hm (.inl h1)
        · exact hm (.inr ⟨.inl ⟨k, y, hy, hmu⟩, hsep k y b hk hkm hy (AObj.block_of_muts hmu) o'⟩)
      · refine hm (.inr ⟨.inr hh, ?_⟩)
        rintro ⟨l, x, hx, hmu⟩
        obtain ⟨z, hz, hzb⟩ := hblk l x b hx (AObj.block_of_muts hmu)
        exact S.notA _ z b o' hz hzb hh
  have S2 : Sim C φ2 { σ with heap := H2 } a w' := by
    have hdef : DefOK C φ2 H2 w' σ.df a.defers := by
      refine S.defers.step le (fun b hb hno => S'.oldObj b hb (fun o' hh => ?_)) (fun k x b hx hb => ?_)
      · obtain ⟨l, x, hx, hmu⟩ := hh
        obtain ⟨z, hz', hzb⟩ := hblk l x b hx (AObj.block_of_muts hmu)
        exact hno _ z hz' hzb
      · by_cases hbs : b < w.heap.size
        · rcases hH2 k x hx with ⟨l, hl, rfl, rfl⟩ | ⟨h1, h2, h3⟩
          · rw [hφ2f l hl] at hb
            obtain ⟨q, z, hz', hzb⟩ := hnewblk l hl b (ren_block.1 hb) hbs
            obtain ⟨z', hz2, hzb'⟩ := hblk q z b hz' hzb
            exact .inl ⟨_, z', hz2, hzb'⟩
          · rw [hφ2o k h1 h2] at hb
            exact .inl ⟨k, x, h3, hb⟩
        · exact .inr (by omega)
    refine { slots := RepL.mono le _ _ (RepL.nb _ _ S.slots) S.slots, defers := hdef, objs := ?_, apart := ?_, notA := ?_, size := Nat.le_trans S.size S'.size, old := ?_, oldObj := ?_, inM := ?_, froz := fun x hx => (S'.froz x (Nat.lt_of_lt_of_le hx S.size)).trans (S.froz x hx), rest := ⟨S'.rest.1.trans S.rest.1, S'.rest.2.trans S.rest.2⟩, low := ⟨S.low.1, by have := S.low.2; show σ.low ≤ H2.length; omega⟩, names := ?_ }
    · intro k y hy
      rcases hH2 k y hy with ⟨l, hl, rfl, rfl⟩ | ⟨h1, h2, h3⟩
      · rw [hφ2f l hl]
        have r0 := S'.objs l _ (List.getElem?_eq_getElem hl)
        exact ObjRep.ren ren (objNb_rep r0) (fun _ _ => rfl) r0
      · rw [hφ2o k h1 h2]
        have r0 := S.objs k y h3
        exact ObjRep.mono r0 le (fun b hb => S'.oldObj b (r0.block_lt hb) (hsep k y b h1 h2 h3 hb))
    · intro k k' x x' b hx hx' hb hb'
      rcases hH2 k x hx with ⟨l, hl, rfl, rfl⟩ | ⟨h1, h2, h3⟩ <;> rcases hH2 k' x' hx' with ⟨l', hl', rfl, rfl⟩ | ⟨h1', h2', h3'⟩
      · rw [hφ2f l hl] at hb
        rw [hφ2f l' hl'] at hb'
        have := S'.apart l l' _ _ b (List.getElem?_eq_getElem hl) (List.getElem?_eq_getElem hl') (ren_block.1 hb) (ren_block.1 hb')
        rw [this]
      · rw [hφ2f l hl] at hb
        rw [hφ2o k' h1' h2'] at hb'
        exfalso
        obtain ⟨q, z, hz, hzb⟩ := hnewblk l hl b (ren_block.1 hb) ((S.objs k' x' h3').block_lt hb')
        obtain ⟨o'', hmu⟩ := muts_of_block hzb
        exact hsep k' x' b h1' h2' h3' hb' o'' ⟨q, z, hz, hmu⟩
      · rw [hφ2f l' hl'] at hb'
        rw [hφ2o k h1 h2] at hb
        exfalso
        obtain ⟨q, z, hz, hzb⟩ := hnewblk l' hl' b (ren_block.1 hb') ((S.objs k x h3).block_lt hb)
        obtain ⟨o'', hmu⟩ := muts_of_block hzb
        exact hsep k x b h1 h2 h3 hb o'' ⟨q, z, hz, hmu⟩
      · rw [hφ2o k h1 h2] at hb
        rw [hφ2o k' h1' h2'] at hb'
        exact S.apart k k' x x' b h3 h3' hb hb'
    · intro k x b o' hx hb
      rcases hH2 k x hx with ⟨l, hl, rfl, rfl⟩ | ⟨h1, h2, h3⟩
      · rw [hφ2f l hl] at hb
        intro hA
        have hbs : b < w.heap.size := Nat.lt_of_lt_of_le (C.hA b o' hA) S.size
        obtain ⟨q, z, hz, hzb⟩ := hnewblk l hl b (ren_block.1 hb) hbs
        obtain ⟨z', hz', hzb'⟩ := hblk q z b hz hzb
        exact S.notA _ z' b o' hz' hzb' hA
      · rw [hφ2o k h1 h2] at hb
        exact S.notA k x b o' h3 hb
    · intro b o' hb hm
      have hb' : b < w.heap.size := Nat.lt_of_lt_of_le hb S.size
      have hnc : ¬ Mut φc H b o' := by
        intro hh
        obtain ⟨k, y, hy, hmu⟩ := hMsub b o' hh
        exact hm (S.inM k y b o' hy hmu hb)
      exact (S'.old b o' hb' hnc).trans (S.old b o' hb hm)
    · intro b hb hm
      have hb' : b < w.heap.size := Nat.lt_of_lt_of_le hb S.size
      have hnc : ∀ o', ¬ Mut φc H b o' := by
        intro o' hh
        obtain ⟨k, y, hy, hmu⟩ := hMsub b o' hh
        exact hm o' (S.inM k y b o' hy hmu hb)
      exact (S'.oldObj b hb' hnc).trans (S.oldObj b hb hm)
    · intro k x b o' hx hmu hb
      rcases hH2 k x hx with ⟨l, hl, rfl, rfl⟩ | ⟨h1, h2, h3⟩
      · rw [hφ2f l hl] at hmu
        obtain ⟨q, z, hz, hmz⟩ := S'.inM l _ b o' (List.getElem?_eq_getElem hl) (ren_muts.1 hmu) (Nat.lt_of_lt_of_le hb S.size)
        obtain ⟨k2, y2, hy2, hmu2⟩ := hMsub b o' ⟨q, z, hz, hmz⟩
        exact S.inM k2 y2 b o' hy2 hmu2 hb
      · rw [hφ2o k h1 h2] at hmu
        exact S.inM k x b o' h3 hmu hb
    · intro k hk
      have hkn : k < n := by have := S.low; simp only [n]; omega
      have hn := S.names k hk
      show (φ2 k = _ ∧ _) ∨ _
      rcases hcase k hkn with ⟨l, hl, rfl⟩ | hm
      · have hn' := S'.names l hl
        rw [hφ2f l (by omega), hH2f l (by omega), ren_accLen]
        rw [hfoot l H[l] (List.getElem?_eq_getElem hl), ren_accLen] at hn
        have h1 : accLen H'[l]? = accLen (some H'[l]) := by rw [List.getElem?_eq_getElem (by omega)]
        have h2 : C'.ln0 l = accLen (some H[l]) := by show accLen H[l]? = _; rw [List.getElem?_eq_getElem hl]
        have h3 : C'.φ0 l = φ (ρf l) := rfl
        rw [h1, h2, h3] at hn'
        rcases hn' with ⟨ha, hb | hb⟩ | ⟨⟨q, hq, hlt⟩, hp, hmp⟩
        · rw [ha, hb]; exact hn
        · rw [hb]
          rcases hn with ⟨hc1, _⟩ | ⟨⟨q, hq, _⟩, hp, hmp⟩
          · exact .inl ⟨by rw [ha]; exact hc1, .inr rfl⟩
          · exact .inr ⟨⟨q, hq, fun k' hk' => by cases hk'⟩, hp, hmp⟩
        · right
          rcases hn with ⟨hc1, hc2 | hc2⟩ | ⟨⟨q2, hq2, hlt2⟩, hp2, hmp2⟩
          · rw [hq] at hc2
            exact ⟨⟨q, hc2.symm, hlt⟩, by rw [← hc1]; exact ⟨hp, hmp⟩⟩
          · rw [hq] at hc2; cases hc2
          · exact ⟨⟨q2, hq2, fun k' hk' => by have := hlt k' hk'; have := hlt2 q hq; omega⟩, hp2, hmp2⟩
      · rw [hφ2o k hkn hm, hH2o k hkn hm]; exact hn
  refine ⟨o.ren ρf, φ2, H2, hK o H' hV, S2, ?_⟩
  cases o with
  | ret r =>
    cases e with
    | returned v => exact Rep.ren ren r v (Rep.nb _ _ hrep) hrep
    | panicked chain => exact hrep.elim
    | outgrown => exact hrep.elim
  | panic x =>
    cases e with
    | returned v => exact hrep.elim
    | panicked chain =>
      obtain ⟨v, hv, hr⟩ := hrep
      exact ⟨v, hv, Rep.ren ren x v (Rep.nb _ _ hr) hr⟩
    | outgrown => exact hrep.elim

theorem calls_mono {P : Program} {f : FuncId} : TMono (fun _ w vs R => Calls P f vs w R) := ⟨fun _ _ _ _ _ hr h => Calls.mono h hr⟩
theorem rounds_mono {P : Program} : TMono (Rounds P) := ⟨fun _ _ _ _ _ hr h D rec h1 h2 => (h D rec h1 h2).mono hr⟩

theorem callA_of_fnG {P : Program} {f : FuncId} {cargs args : List AV} {H : List AObj} {V : AOut → List AObj → Prop} {K : AOut → List AObj → Prop} (h : FnG P f args H V) (ρ : List Nat) (hlen : ρ.length = H.length) (hnd : ρ.Nodup)
    (hargs : SubL cargs (renL (backTo ρ σ.heap.length) args)) (hobj : ∀ (i : Nat) (k : Nat) (x : AObj), ρ[i]? = some k → H[i]? = some x → σ.heap[k]? = some (x.ren (backTo ρ σ.heap.length)))
    (hK : ∀ o H', V o H' → K (o.ren (backTo ρ σ.heap.length)) (heapBack ρ σ.heap H')) : CallA P f cargs σ K :=
  ⟨h.1, callT_of_fnT (T := fun _ w vs R => Calls P f vs w R) (l0 := 0) calls_mono h.2 ρ hlen hnd (fun _ => rfl) hargs hobj hK⟩

end call

theorem ObjRep.monoN {E E' : Env} {N : Nat} {x : AObj} {hd : Value} (r : ObjRep E x hd) (h : E.Le N E') (hn : objNb N x) (hs : E'.w = E.w := by rfl) : ObjRep E' x hd := by
  cases x with
  | cells cs => obtain ⟨b, c, t, h1, h2, rl, h3⟩ := r; exact ⟨b, c, t, h1, by rw [hs]; exact h2, RepL.mono h _ _ hn rl, h3⟩
  | acc imm sz rows =>
    obtain ⟨base, cap, h1, h2, h3, h4, h5⟩ := r
    refine ⟨base, cap, h1, h2, h3, h4, fun a0 ha hc => ?_⟩
    obtain ⟨h6, c, t, h7, h8, rl, h9⟩ := h5 a0 ha hc
    exact ⟨h6, c, t, by rw [hs]; exact h7, h8, RepL.mono h _ _ (nbL_flatten hn) rl, h9⟩
  | map es => obtain ⟨r', en, cl, h1, h2, rp⟩ := r; exact ⟨r', en, cl, h1, by rw [hs]; exact h2, RepPairs.mono h hn rp⟩
  | loop k slots st pend => obtain ⟨D, rec, h1, h2, h3, h4, rl⟩ := r; exact ⟨D, rec, h1, by rw [hs]; exact h2, by rw [hs]; exact h3, h4, RepL.mono h _ _ hn rl⟩
  | iter s p => obtain ⟨b, h1, h2⟩ := r; exact ⟨b, h1, by rw [hs]; exact h2⟩
  | dead => trivial

def Export (σ : AState) (x r : AV) (H' : List AObj) : Prop :=
  ∀ (C : Ctx) (φ : Nat → Value) (a : Act) (w : World), Sim C φ σ a w → ∀ v, Rep (C.env φ σ.heap w) x v →
    ∃ φ', Sim C φ' { slots := [], heap := H', low := σ.low } { tmps := #[], defers := [] } w ∧ Rep (C.env φ' H' w) r v

def outX (low l k : Nat) : Nat := if k < low then k else if k = l then low else low + 1 + k

section export_
variable {σ : AState}

theorem Export.sub {x r r' : AV} {H' : List AObj} (h : Export σ x r H') (hs : Sub r r') : Export σ x r' H' := fun C φ a w S v hv =>
  let ⟨φ', S', hr⟩ := h C φ a w S v hv
  ⟨φ', S', hs _ _ hr⟩

theorem take_get {H : List AObj} {low l : Nat} (hl : l < low) : (H.take low)[l]? = H[l]? := by rw [List.getElem?_take, if_pos hl]

theorem export_one {x : AV} {l : Nat} {y : AObj} (hl : σ.heap[l]? = some y) (hlow : σ.low ≤ l) (hnb : ∀ z ∈ σ.heap.take σ.low, objNb σ.low z) (hy : objNb σ.low y) (hr : (x.ren (outX σ.low l)).nb (σ.low + 1)) :
    Export σ x (x.ren (outX σ.low l)) (σ.heap.take σ.low ++ [y]) := by
  intro C φ a w S v hv
  have hlowle := S.low.2
  have hHl : (σ.heap.take σ.low).length = σ.low := by rw [List.length_take]; omega
  let H' := σ.heap.take σ.low ++ [y]
  let φ' : Nat → Value := fun k => if k = σ.low then φ l else φ k
  have hφ' : ∀ k, k < σ.low → φ' k = φ k := fun k hk => by simp only [φ']; rw [if_neg (by omega)]
  have hφl : φ' σ.low = φ l := by simp [φ']
  have hget0 : ∀ k, k < σ.low → H'[k]? = σ.heap[k]? := by
    intro k hk
    simp only [H']
    rw [List.getElem?_append_left (by omega), take_get hk]
  have hgetl : H'[σ.low]? = some y := by
    simp only [H']
    rw [List.getElem?_append_right (by omega), hHl, Nat.sub_self]; rfl
  have hHlen : H'.length = σ.low + 1 := by simp only [H', List.length_append, hHl, List.length_cons, List.length_nil]
  have hget : ∀ (k : Nat) (z : AObj), H'[k]? = some z → (k < σ.low ∧ σ.heap[k]? = some z) ∨ (k = σ.low ∧ z = y) := by
    intro k z hz
    have hk : k < σ.low + 1 := by rw [← hHlen]; exact (List.getElem?_eq_some_iff.1 hz).1
    by_cases e : k = σ.low
    · subst e; rw [hgetl] at hz; cases hz; exact .inr ⟨rfl, rfl⟩
    · left
      rw [hget0 k (by omega)] at hz
      exact ⟨by omega, hz⟩
  -- the old name of an object that is handed out
  let old : Nat → Nat := fun k => if k = σ.low then l else k
  have hold : ∀ (k : Nat) (z : AObj), H'[k]? = some z → σ.heap[old k]? = some z ∧ φ' k = φ (old k) := by
    intro k z hz
    rcases hget k z hz with ⟨h1, h2⟩ | ⟨rfl, rfl⟩
    · simp only [old]; rw [if_neg (by omega)]; exact ⟨h2, hφ' k h1⟩
    · simp only [old, if_true]; exact ⟨hl, hφl⟩
  have holdinj : ∀ k k', k < σ.low + 1 → k' < σ.low + 1 → old k = old k' → k = k' := by
    intro k k' hk hk' he
    simp only [old] at he
    split at he <;> split at he <;> omega
  have hmut : ∀ b o, Mut φ' H' b o → Mut φ σ.heap b o := by
    rintro b o ⟨k, z, hz, hm⟩
    obtain ⟨h1, h2⟩ := hold k z hz
    rw [h2] at hm
    exact ⟨old k, z, h1, hm⟩
  have le : (C.env φ σ.heap w).Le σ.low (C.env φ' H' w) := by
    refine ⟨by simp only [Ctx.env]; omega, fun k hk => .inl ⟨hφ' k hk, .inl (by simp only [Ctx.env]; rw [hget0 k hk])⟩, fun b o u hm hc => ⟨fun h => hm (h.imp (hmut b o) id), hc⟩⟩
  refine ⟨φ', { slots := rfl, defers := DefOK.nil, objs := ?_, apart := ?_, notA := ?_, size := S.size, old := S.old, oldObj := S.oldObj, inM := ?_, froz := S.froz, rest := S.rest, low := ⟨S.low.1, by show σ.low ≤ H'.length; omega⟩, names := ?_ }, ?_⟩
  · intro k z hz
    show ObjRep (C.env φ' H' w) z (φ' k)
    obtain ⟨h1, h2⟩ := hold k z hz
    rw [h2]
    refine (S.objs (old k) z h1).monoN le ?_
    rcases hget k z hz with ⟨h3, h4⟩ | ⟨rfl, rfl⟩
    · exact hnb z (List.mem_of_getElem? ((take_get h3).trans h4))
    · exact hy
  · intro k k' z z' b hz hz' hb hb'
    obtain ⟨h1, h2⟩ := hold k z hz
    obtain ⟨h1', h2'⟩ := hold k' z' hz'
    rw [h2] at hb
    rw [h2'] at hb'
    have hk : k < σ.low + 1 := by rw [← hHlen]; exact (List.getElem?_eq_some_iff.1 hz).1
    have hk' : k' < σ.low + 1 := by rw [← hHlen]; exact (List.getElem?_eq_some_iff.1 hz').1
    exact holdinj k k' hk hk' (S.apart _ _ z z' b h1 h1' hb hb')
  · intro k z b o hz hb
    obtain ⟨h1, h2⟩ := hold k z hz
    rw [h2] at hb
    exact S.notA _ z b o h1 hb
  · intro k z b o hz hm hb
    obtain ⟨h1, h2⟩ := hold k z hz
    rw [h2] at hm
    exact S.inM _ z b o h1 hm hb
  · intro k hk
    have hk' : k < σ.low := by have := S.low.1; omega
    show (φ' k = _ ∧ (accLen H'[k]? = _ ∨ _)) ∨ _
    rw [hφ' k hk', hget0 k hk']
    exact S.names k hk
  · -- through an environment in which the other names are dead
    let E2 : Env := { w, mu := (C.env φ' H' w).mu, φ := fun k => if k < σ.low + 1 then φ' k else φ (k - (σ.low + 1)), ln := fun k => if k < σ.low + 1 then accLen H'[k]? else none, n := σ.low + 1 + σ.heap.length }
    have ren : RenLe σ.heap.length (outX σ.low l) (C.env φ σ.heap w) E2 := by
      refine ⟨fun k hk => ?_, fun k hk => ?_, fun b o u hm hc => ⟨fun h => hm (h.imp (hmut b o) id), hc⟩⟩
      · simp only [outX, E2]
        split
        · omega
        · split <;> omega
      · simp only [outX, E2, Ctx.env]
        split
        · rename_i h1
          rw [if_pos (by omega), if_pos (by omega), hφ' k h1, hget0 k h1]
          exact ⟨rfl, .inl rfl⟩
        · split
          · rename_i h1 h2
            subst h2
            rw [if_pos (by omega), if_pos (by omega), hφl, hgetl, hl]
            exact ⟨rfl, .inl rfl⟩
          · rw [if_neg (by omega), if_neg (by omega)]
            refine ⟨?_, .inr rfl⟩
            congr 1; omega
    have h1 := Rep.ren ren x v (Rep.nb _ _ hv) hv
    have le2 : E2.Le (σ.low + 1) (C.env φ' H' w) := by
      refine ⟨by simp only [Ctx.env]; show σ.low + 1 ≤ H'.length; omega, fun k hk => .inl ⟨?_, .inl ?_⟩, fun b o u hm hc => ⟨hm, hc⟩⟩
      · show φ' k = if k < σ.low + 1 then φ' k else _
        rw [if_pos hk]
      · show accLen H'[k]? = if k < σ.low + 1 then accLen H'[k]? else none
        rw [if_pos hk]
    exact Rep.mono le2 _ v hr h1

end export_

theorem callsDIn_mono {F : Fence} {n : Nat} {P : Program} {f : FuncId} {args : Array Value} {u : FrameMode} {w : World} {R R' : Ending → FrameMode → World → Prop} (h : CallsDIn F n P f args u w R) (hr : ∀ e u' w', R e u' w' → R' e u' w') : CallsDIn F n P f args u w R' := by
  refine ⟨h.1, fun c cs hc hroom => ?_⟩
  obtain ⟨e, u', w', fr, hR, hrest⟩ := h.2 c cs hc hroom
  exact ⟨e, u', w', fr, hr _ _ _ hR, hrest⟩

def TRet (P : Program) (f : FuncId) : Value → World → Array Value → (Ending → World → Prop) → Prop := fun _ w vs R =>
  CallsDIn Fence.wide 0 P f vs .returning w fun e u' w' => ∃ r, e = .returned r ∧ settle u' = .returning ∧ R (.returned r) w'
def TPan (P : Program) (f : FuncId) : Value → World → Array Value → (Ending → World → Prop) → Prop := fun _ w vs R => ∀ (vs0 : Array Value) (v : Value), vs = vs0.push v →
  CallsDIn Fence.wide 0 P f vs0 (.panicking [{ v, recovered := false }]) w fun e u' w' => ∃ r, e = .returned r ∧
    ((settle u' = .returning ∧ R (.returned r) w') ∨ ∃ v', settle u' = .panicking [{ v := v', recovered := false }] ∧ R (.panicked [{ v := v', recovered := false }]) w')
theorem tret_mono {P : Program} {f : FuncId} : TMono (TRet P f) := ⟨fun _ _ _ _ _ hr h => callsDIn_mono h fun _ _ _ ⟨r, h1, h2, h3⟩ => ⟨r, h1, h2, hr _ _ h3⟩⟩
theorem tpan_mono {P : Program} {f : FuncId} : TMono (TPan P f) := ⟨fun _ _ _ _ _ hr h vs0 v hv => callsDIn_mono (h vs0 v hv) fun _ _ _ ⟨r, h1, h2⟩ => ⟨r, h1, h2.imp (fun ⟨h3, h4⟩ => ⟨h3, hr _ _ h4⟩) fun ⟨v', h3, h4⟩ => ⟨v', h3, hr _ _ h4⟩⟩⟩

def unwA (P : Program) (fin : Option AV → AState → Prop) : List (FuncId × List AV) → Option AV → AState → Prop
  | [], m, σ => fin m σ
  | (f, args) :: ds, none, σ => enters P f = true ∧ CallT P (TRet P f) 0 args { σ with df := ds } (fun o H' => match o with
      | .ret _ => unwA P fin ds none { σ with heap := H', df := ds }
      | .panic _ => False)
  | (f, args) :: ds, some x, σ => enters P f = true ∧ CallT P (TPan P f) 0 (args ++ [x]) { σ with df := ds } (fun o H' => match o with
      | .ret _ => unwA P fin ds none { σ with heap := H', df := ds }
      | .panic x' => unwA P fin ds (some x') { σ with heap := H', df := ds })

section unw
variable {C : Ctx} {φ : Nat → Value} {σ : AState} {w : World} {tmps : Array Value} {ds : List Deferred}

theorem Sim.unpush {x : AV} {v : Value} (S : Sim C φ { σ with slots := σ.slots ++ [x] } { tmps := tmps.push v, defers := ds } w) (hl : σ.slots.length = tmps.size) : Sim C φ σ { tmps, defers := ds } w ∧ Rep (C.env φ σ.heap w) x v := by
  have h1 := S.slots.take σ.slots.length
  have h2 := S.slots.drop σ.slots.length
  have hlen : tmps.toList.length = σ.slots.length := by simp [hl]
  simp only [Array.toList_push] at h1 h2
  rw [List.take_left' rfl, List.take_left' hlen] at h1
  rw [List.drop_left' rfl, List.drop_left' hlen] at h2
  obtain ⟨u, us, he2, r1, _⟩ := h2
  simp only [List.cons.injEq] at he2
  obtain ⟨rfl, _⟩ := he2
  exact ⟨{ S with slots := h1, defers := S.defers }, r1⟩
theorem Sim.repush {x : AV} {v : Value} (S : Sim C φ σ { tmps, defers := ds } w) (h : Rep (C.env φ σ.heap w) x v) : Sim C φ { σ with slots := σ.slots ++ [x] } { tmps := tmps.push v, defers := ds } w := by
  refine { S with slots := ?_, defers := S.defers }
  have hv : RepL (C.env φ σ.heap w) [x] [v] := ⟨v, [], rfl, h, rfl⟩
  simp only [Array.toList_push]
  exact S.slots.append hv
theorem Sim.len (S : Sim C φ σ { tmps, defers := ds } w) : σ.slots.length = tmps.size := by
  have := S.slots.length
  simpa using this.symm
theorem Sim.lenP {x : AV} {v : Value} (S : Sim C φ { σ with slots := σ.slots ++ [x] } { tmps := tmps.push v, defers := ds } w) : σ.slots.length = tmps.size := by
  have := S.slots.length
  simp at this
  exact this.symm

theorem Sim.pop {d : Deferred} (S : Sim C φ σ { tmps, defers := d :: ds } w) (hm : isMk d = false) :
    ∃ f xs df' cap, σ.df = (f, xs) :: df' ∧ d.target = .fn (.func f) cap ∧ RepL (C.env φ σ.heap w) xs (d.args ++ cap).toList ∧ Sim C φ { σ with df := df' } { tmps, defers := ds } w := by
  obtain ⟨h1, h2, h3⟩ := S.defers
  simp only [List.filter_cons, hm, Bool.not_false, if_true, Bool.false_eq_true, if_false] at h1 h3
  cases hdf : σ.df with
  | nil => rw [hdf] at h3; cases h3
  | cons p df' =>
    obtain ⟨f, xs⟩ := p
    rw [hdf] at h3
    obtain ⟨d', s, cap, he, ht, hr, hrest⟩ := h3
    simp only [List.cons.injEq] at he
    obtain ⟨rfl, rfl⟩ := he
    exact ⟨f, xs, df', cap, rfl, ht, hr, { S with slots := S.slots, defers := ⟨h1, fun d' hd' => h2 d' (List.mem_cons_of_mem _ hd'), hrest⟩ }⟩

theorem invoke_run {P : Program} {d : Deferred} {f : FuncId} {cap : Array Value} (ht : d.target = .fn (.func f) cap) (he : enters P f = true) : (invoke d.target d.args).run P w = .ok (.enter f (d.args ++ cap)) w := by
  unfold enters at he
  split at he
  · rename_i fn hfn
    simp only [Bool.and_eq_true, bne_iff_ne, ne_eq] at he
    have hnone : fn.body ≠ none := by intro hb; simp [hb] at he
    simp [ht, invoke, callFunc, hfn, he.2, hnone]
  · cases he

theorem unwA_sound {fn : Func} {R : Ending → World → Prop} {fin : Option AV → AState → Prop}
    (hr : ∀ φ σ w, Sim C φ σ { tmps, defers := [] } w → fin none σ → ∃ v, (results fn tmps).run C.P w = .ok v w ∧ R (.returned v) w)
    (hp : ∀ φ σ x v w, Sim C φ σ { tmps, defers := [] } w → Rep (C.env φ σ.heap w) x v → fin (some x) σ → R (.panicked [{ v, recovered := false }]) w) :
    ∀ (ds : List Deferred),
      (∀ φ σ w, Sim C φ σ { tmps, defers := ds } w → unwA C.P fin σ.df none σ → LeavesInM Fence.wide 0 C.P fn tmps R ds .returning w) ∧
      (∀ φ σ x v w, Sim C φ { σ with slots := σ.slots ++ [x] } { tmps := tmps.push v, defers := ds } w → unwA C.P fin σ.df (some x) σ → LeavesInM Fence.wide 0 C.P fn tmps R ds (.panicking [{ v, recovered := false }]) w)
  | [] => by
    refine ⟨fun φ σ w S h => ?_, fun φ σ x v w S h => ?_⟩
    · have hd : σ.df = [] := by
        have := S.defers.2.2
        cases hdf : σ.df with
        | nil => rfl
        | cons p r => rw [hdf] at this; obtain ⟨_, _, _, h, _⟩ := this; cases h
      rw [hd] at h
      exact hr φ σ w S h
    · obtain ⟨S', hx⟩ := S.unpush S.lenP
      have hd : σ.df = [] := by
        have := S'.defers.2.2
        cases hdf : σ.df with
        | nil => rfl
        | cons p r => rw [hdf] at this; obtain ⟨_, _, _, h, _⟩ := this; cases h
      rw [hd] at h
      exact hp φ σ x v w S' hx h
  | d :: ds => by
    obtain ⟨ihr, ihp⟩ := unwA_sound hr hp ds
    refine ⟨fun φ σ w S h => ?_, fun φ σ x v w S h => ?_⟩
    · cases hm : isMk d with
      | true =>
        obtain ⟨D, hD, _⟩ := S.defers.2.1 d (List.mem_cons_self) hm
        subst hD
        obtain ⟨h1, S'⟩ := S.takeMark
        exact ⟨by simp, .inl ⟨D, _, rfl, run_takeDeferred h1, ihr φ σ _ S' h⟩⟩
      | false =>
        obtain ⟨f, xs, df', cap, hdf, ht, hxs, S'⟩ := S.pop hm
        rw [hdf] at h
        obtain ⟨he, hc⟩ := h
        refine ⟨by simp, .inr ⟨fun h => by simp [Fence.wide] at h, _, cap, f, d.args ++ cap, ht, invoke_run ht he, fun _ _ => trivial, ?_⟩⟩
        refine callsDIn_mono (hc C φ _ w rfl S' _ hxs) ?_
        rintro e u' w' ⟨r, rfl, hs, o, φ', H', hK, S2, hrep⟩
        cases o with
        | ret r' =>
          simp only
          rw [hs]
          exact ihr φ' _ w' S2 hK
        | panic _ => exact hK.elim
    · cases hm : isMk d with
      | true =>
        obtain ⟨D, hD, _⟩ := S.defers.2.1 d (List.mem_cons_self) hm
        subst hD
        obtain ⟨h1, S'⟩ := S.takeMark
        exact ⟨by simp, .inl ⟨D, _, rfl, run_takeDeferred h1, ihp φ σ x v _ S' h⟩⟩
      | false =>
        obtain ⟨S1, hx⟩ := S.unpush S.lenP
        obtain ⟨f, xs, df', cap, hdf, ht, hxs, S'⟩ := S1.pop hm
        rw [hdf] at h
        obtain ⟨he, hc⟩ := h
        refine ⟨by simp, .inr ⟨fun h => by simp [Fence.wide] at h, _, cap, f, d.args ++ cap, ht, invoke_run ht he, fun _ _ => trivial, ?_⟩⟩
        have hargs : RepL (C.env φ σ.heap w) (xs ++ [x]) ((d.args ++ cap).push v).toList := by
          have hv : RepL (C.env φ σ.heap w) [x] [v] := ⟨v, [], rfl, hx, rfl⟩
          rw [Array.toList_push]
          exact hxs.append hv
        refine callsDIn_mono (hc C φ _ w rfl S' _ hargs _ v rfl) ?_
        rintro e u' w' ⟨r, rfl, ⟨hs, o, φ', H', hK, S2, hrep⟩ | ⟨v', hs, o, φ', H', hK, S2, hrep⟩⟩
        · cases o with
          | ret r' =>
            simp only
            rw [hs]
            exact ihr φ' _ w' S2 hK
          | panic _ => exact hrep.elim
        · cases o with
          | ret r' => exact hrep.elim
          | panic x' =>
            simp only
            rw [hs]
            obtain ⟨v2, hv2, hr2⟩ := hrep
            simp only [List.cons.injEq, PanicEntry.mk.injEq, and_true] at hv2
            subst hv2
            exact ihp φ' _ x' _ w' (S2.repush hr2) hK
end unw

def gEnd (P : Program) (rs : List ResultVar) (V : AOut → List AObj → Prop) : Option AV → AState → Prop
  | none, σ => ∃ x, resAV P σ rs = some x ∧ ∃ r H', Export σ x r H' ∧ V (.ret r) H'
  | some x, σ => ∃ r H', Export σ x r H' ∧ V (.panic r) H'
def gPost (P : Program) (rs : List ResultVar) (V : AOut → List AObj → Prop) : AExit → AState → Prop
  | .normal, σ => unwA P (gEnd P rs V) σ.df none σ
  | .ret, σ => unwA P (gEnd P rs V) σ.df none σ
  | .panic x, σ => unwA P (gEnd P rs V) σ.df (some x) σ
  | _, _ => False
theorem fnG_of_body {P : Program} {f : FuncId} {fn : Func} {c : Code} {args : List AV} {H : List AObj} {V : AOut → List AObj → Prop} (hf : P.funcs[f]? = some fn) (hb : fn.body = some c) (hne : (fn.name != "runtime.NumGoroutine") = true) (hnb : nbL H.length args)
    (hnbH : ∀ x ∈ H, objNb H.length x) {n : Nat} (hn : fn.ntmps = n) {rs : List ResultVar} (hrs : fn.results = rs.toArray)
    (h : awp P c (gPost P rs V) { slots := args ++ List.replicate (n - args.length) .any, heap := H, low := H.length }) : FnG P f args H V := by
  refine ⟨?_, hnb, hnbH, fun C φ w hP h0 hN0 hφ0 hM HS vs hr => ?_⟩
  · unfold enters; rw [hf]; simp only [hb, Option.isSome_some, Bool.true_and]; exact hne
  · subst hP
    refine (callsIn_wide (n := 0)).1 (callsIn_of_wp_marks hf hb trivial ?_)
    have hsz : vs.size = args.length := by have := hr.length; simpa using this
    have S : Sim C φ { slots := args ++ List.replicate (n - args.length) .any, heap := H, low := H.length } { tmps := vs ++ Array.replicate (fn.ntmps - vs.size) undef, defers := [] } w := by
      refine { HS with slots := ?_, defers := DefOK.nil }
      simp only [Array.toList_append, Array.toList_replicate]
      refine hr.append ?_
      rw [hsz, hn]
      have := RepL.replicate_any (E := C.env φ H w) (List.replicate (n - args.length) undef)
      simpa using this
    refine wpIn_mono (awp_sound (ro := none) c _ φ _ _ w (.inl rfl) h S) ?_
    intro e a' w' hq
    have hlow : ∀ {φ' : Nat → Value} {σ' : AState} {a'' : Act} {w'' : World}, Sim C φ' σ' a'' w'' → σ'.low = H.length := fun S' => by rw [← S'.low.1]; exact hN0
    have fin := unwA_sound (C := C) (tmps := a'.tmps) (fn := fn) (R := fun e w' => ∃ o φ' H', V o H' ∧ Sim C φ' { slots := [], heap := H', low := H.length } { tmps := #[], defers := [] } w' ∧ o.rep (C.env φ' H' w') e) (fin := gEnd C.P rs V)
      (by
        rintro φ' σ' w' S' ⟨x, hx, r, H', hex, hV⟩
        obtain ⟨v, hv, rv⟩ := resAV_sound (fn := fn) S' (by rw [hrs]; exact hx)
        obtain ⟨φ2, S2, hr2⟩ := hex C φ' _ w' S' v rv
        rw [hlow S'] at S2
        exact ⟨v, hv, .ret r, φ2, H', hV, S2, hr2⟩)
      (by
        rintro φ' σ' x v w' S' hx ⟨r, H', hex, hV⟩
        obtain ⟨φ2, S2, hr2⟩ := hex C φ' _ w' S' v hx
        rw [hlow S'] at S2
        exact ⟨.panic r, φ2, H', hV, S2, v, rfl, hr2⟩) a'.defers
    cases e with
    | normal => obtain ⟨φ', σ', S', hq⟩ := hq; exact fin.1 φ' σ' w' S' hq
    | ret => obtain ⟨φ', σ', S', hq⟩ := hq; exact fin.1 φ' σ' w' S' hq
    | exit id => obtain ⟨_, _, _, hq⟩ := hq; exact hq.elim
    | goto l => obtain ⟨_, _, _, hq⟩ := hq; exact hq.elim
    | panic chain =>
      obtain ⟨φ', σ', x, v, S', hq, hch, hrep⟩ := hq
      subst hch
      exact fin.2 φ' σ' x v w' (Sim.repush (tmps := a'.tmps) (ds := a'.defers) S' hrep) hq
    | outgrown => exact hq.elim

def cEnd (P : Program) (rs : List ResultVar) (V : AV → Prop) : Option AV → AState → Prop
  | none, σ => endV V σ.heap (resAV P σ rs)
  | some _, _ => False
def retPostU (P : Program) (rs : List ResultVar) (V : AV → Prop) : AExit → AState → Prop
  | .normal, σ => unwA P (cEnd P rs V) σ.df none σ
  | .ret, σ => unwA P (cEnd P rs V) σ.df none σ
  | .panic x, σ => unwA P (cEnd P rs V) σ.df (some x) σ
  | _, _ => False
theorem fnC_of_bodyU {P : Program} {f : FuncId} {fn : Func} {c : Code} {args : List AV} {V : AV → Prop} (hf : P.funcs[f]? = some fn) (hb : fn.body = some c) (hne : (fn.name != "runtime.NumGoroutine") = true) (hnb : nbL 0 args)
    (h : awp P c (retPostU P fn.results.toList V) { slots := args ++ List.replicate (fn.ntmps - args.length) .any, heap := [] }) : FnC P f args V := by
  refine ⟨?_, hnb, fun C φ w hP h0 hN hM vs hr => ?_⟩
  · unfold enters; rw [hf]; simp only [hb, Option.isSome_some, Bool.true_and]; exact hne
  · subst hP
    refine (callsIn_wide (n := 0)).1 (callsIn_of_wp_marks hf hb trivial ?_)
    have hsz : vs.size = args.length := by have := hr.length; simpa using this
    have S : Sim C φ { slots := args ++ List.replicate (fn.ntmps - args.length) .any, heap := [] } { tmps := vs ++ Array.replicate (fn.ntmps - vs.size) undef, defers := [] } w := by
      refine { slots := ?_, defers := DefOK.nil, objs := by simp, apart := by simp, notA := by simp, size := by rw [h0]; exact Nat.le_refl _, old := fun b o _ _ => by rw [h0], oldObj := fun b _ _ => by rw [h0], inM := by simp, froz := fun x _ => by rw [h0], rest := by rw [h0]; exact ⟨rfl, rfl⟩, low := ⟨hN, Nat.le_refl _⟩, names := fun l hl => by rw [hN] at hl; exact absurd hl (Nat.not_lt_zero _) }
      simp only [Array.toList_append, Array.toList_replicate]
      refine hr.append ?_
      rw [hsz]
      have := RepL.replicate_any (E := C.env φ [] w) (List.replicate (fn.ntmps - args.length) undef)
      simpa using this
    refine wpIn_mono (awp_sound (ro := none) c _ φ _ _ w (.inl rfl) h S) ?_
    intro e a' w' hq
    have fin := unwA_sound (C := C) (tmps := a'.tmps) (fn := fn) (R := fun e w' => ∃ r v φ', V r ∧ e = .returned v ∧ Rep (C.env φ' [] w') r v ∧ w.heap.size ≤ w'.heap.size ∧ (∀ b, b < w.heap.size → w'.heap[b]? = w.heap[b]?) ∧
          (∀ x, x.block < w.heap.size → w'.frozen? x = w.frozen? x) ∧ w'.output = w.output ∧ w'.os = w.os) (fin := cEnd C.P fn.results.toList V)
      (by
        intro φ' σ' w' S' hend
        simp only [cEnd] at hend
        cases hx : resAV C.P σ' fn.results.toList with
        | none => rw [hx] at hend; exact hend.elim
        | some x =>
        rw [hx] at hend
        obtain ⟨hn, r0, hsub, hV⟩ := hend
        obtain ⟨v, hv, rv⟩ := resAV_sound S' hx
        refine ⟨v, hv, _, v, φ', hV, rfl, hsub _ _ (by have := frz_sound S' (S'.drops (by rw [← S'.low.1]; exact hN)) x v; rw [← S'.low.1, hN] at this; exact this hn rv), ?_, ?_, ?_, ?_⟩
        · rw [← h0]; exact S'.size
        · intro b hb; rw [← h0]; exact S'.oldObj b (by rw [h0]; exact hb) (fun o => hM b o)
        · intro y hy; rw [← h0]; exact S'.froz y (by rw [h0]; exact hy)
        · rw [← h0]; exact S'.rest)
      (by
        intro φ' σ' x v w' S' hx hend
        exact hend.elim) a'.defers
    cases e with
    | normal => obtain ⟨φ', σ', S', hq⟩ := hq; exact fin.1 φ' σ' w' S' hq
    | ret => obtain ⟨φ', σ', S', hq⟩ := hq; exact fin.1 φ' σ' w' S' hq
    | exit id => obtain ⟨_, _, _, hq⟩ := hq; exact hq.elim
    | goto l => obtain ⟨_, _, _, hq⟩ := hq; exact hq.elim
    | panic chain =>
      obtain ⟨φ', σ', x, v, S', hq, hch, hrep⟩ := hq
      subst hch
      exact fin.2 φ' σ' x v w' (Sim.repush (tmps := a'.tmps) (ds := a'.defers) S' hrep) hq
    | outgrown => exact hq.elim

attribute [go_sem] AV.ren renL renR AObj.ren AOut.ren backTo heapBack setAll outX gPost
end Go.Abs
namespace Go.Abs

def setPs : List AV → List Tmp → List AV → List AV
  | s, p :: ps, x :: xs => setPs (s.set p x) ps xs
  | s, _, _ => s
theorem setPs_rep {E : Env} : ∀ {ps : List Tmp} {xs : List AV} {vs : List Value} {s : List AV} {t : Array Value}, RepL E xs vs → RepL E s t.toList →
    RepL E (setPs s ps xs) ((ps.zip vs).foldl (fun t (p : Tmp × Value) => t.setIfInBounds p.1 p.2) t).toList
  | [], _, _, _, _, _, h => by simpa [setPs] using h
  | _ :: _, [], _, _, _, rfl, h => by simpa [setPs] using h
  | p :: ps, x :: xs, _, s, t, ⟨u, us, rfl, r1, r2⟩, h => by
    simp only [setPs, List.zip_cons_cons, List.foldl_cons]
    refine setPs_rep r2 ?_
    have := h.set (i := p) r1
    simpa [Array.toList_setIfInBounds] using this

def jumpE : AExit → Option (Option Code)
  | .normal => some none
  | .ret => some (some .ret)
  | .exit id => some (some (.exit id))
  | _ => none

def rPost (V : AOut → List AObj → Prop) (e : AExit) (σ : AState) : Prop :=
  ∃ j k s, jumpE e = some (pendOf k.js j) ∧ σ.heap[0]? = some (.loop k s .busy 0) ∧ ∃ r H', Export { σ with heap := σ.heap.set 0 (.loop k s (stP (pendOf k.js j)) j) } (.bool (pendOf k.js j).isNone) r H' ∧ V (.ret r) H'

theorem fnT_of_round {P : Program} {k : LoopC} {slots args : List AV} {H : List AObj} {V : AOut → List AObj → Prop} (hH : H[0]? = some (.loop k slots .ready 0))
    (hnb : nbL H.length args) (hnbH : ∀ x ∈ H, objNb H.length x) (hn : noRange k.assign = true ∧ noRange k.body = true)
    (h : awp P k.assign (AExit.then (fun σ1 => ∃ k1 s1, σ1.heap[0]? = some (.loop k1 s1 .ready 0) ∧ awp P k.body (rPost V) { σ1 with heap := σ1.heap.set 0 (.loop k1 s1 .busy 0) }) (fun _ _ => False))
      { slots := setPs slots k.ps.toList args, heap := H, low := H.length }) : FnT P (Rounds P) args H V := by
  refine ⟨hnb, hnbH, fun C φ w hP h0 hN hφ0 hM HS vs hr D rec hφ hw => ?_⟩
  subst hP
  have hpos : 0 < H.length := (List.getElem?_eq_some_iff.1 hH).1
  -- the handle stays
  have hstay : ∀ {φ' : Nat → Value} {σ' : AState} {a' : Act} {w' : World}, Sim C φ' σ' a' w' → φ' 0 = .func (.yield (D + 1)) #[] #[] := by
    intro φ' σ' a' w' S'
    rcases S'.names 0 (by omega) with ⟨h1, _⟩ | ⟨⟨n, h1, _⟩, _⟩
    · rw [h1, (hφ0 0 hpos).1]; exact hφ
    · rw [(hφ0 0 hpos).2, hH] at h1; cases h1
  have hlow : ∀ {φ' : Nat → Value} {σ' : AState} {a' : Act} {w' : World}, Sim C φ' σ' a' w' → σ'.low = H.length := fun S' => by rw [← S'.low.1]; exact hN
  have hobj : ∀ {φ' : Nat → Value} {σ' : AState} {a' : Act} {w' : World} {k : LoopC} {s : List AV} {st : LoopState} {c : Int}, Sim C φ' σ' a' w' → σ'.heap[0]? = some (.loop k s st c) →
      ∃ rec', w'.heap[D + 1]? = some (.loop rec') ∧ (rec'.params = k.ps ∧ rec'.assign = k.assign ∧ rec'.body = k.body ∧ rec'.state = st ∧ rec'.pending = pendOf k.js c ∧ rec'.defers = D) ∧ RepL (C.env φ' σ'.heap w') s rec'.tmps.toList := by
    intro φ' σ' a' w' k s st c S' h0
    obtain ⟨D', rec', e1, g1, g2, g3, rl⟩ := S'.objs 0 _ h0
    rw [hstay S'] at e1
    simp only [Value.func.injEq, Fn.yield.injEq, Nat.add_right_cancel_iff, and_true] at e1
    subst e1
    exact ⟨rec', g1, g3, rl⟩
  obtain ⟨rec0, g1, g3, rl⟩ := hobj HS hH
  rw [hw] at g1; cases g1
  rw [g3.1, g3.2.1, g3.2.2.1]
  refine roundIn_of_wpIn (F := Fence.wide) trivial ?_
  have S : Sim C φ { slots := setPs slots k.ps.toList args, heap := H, low := H.length } { tmps := (k.ps.zip vs).foldl (fun tmps (t, a) => tmps.setIfInBounds t a) rec.tmps, defers := [] } w := by
    refine { HS with slots := ?_, defers := DefOK.nil }
    have := setPs_rep (ps := k.ps.toList) hr rl
    simpa only [← Array.foldl_toList, Array.toList_zip] using this
  refine wpIn_mono (awp_sound (ro := some (D + 1)) k.assign _ φ _ _ w (.inr hn.1) h S) ?_
  intro e a1 w1 hq
  cases e with
  | exit id => obtain ⟨_, _, _, hq⟩ := hq; exact hq.elim
  | goto l => obtain ⟨_, _, _, hq⟩ := hq; exact hq.elim
  | ret => obtain ⟨_, _, _, hq⟩ := hq; exact hq.elim
  | panic ch => obtain ⟨_, _, _, _, _, hq, _⟩ := hq; exact hq.elim
  | outgrown => exact hq.elim
  | normal =>
    obtain ⟨φ1, σ1, S1, k1, s1, hH1, hbody⟩ := hq
    obtain ⟨rec1, kk, k3, _⟩ := hobj S1 hH1
    refine ⟨_, run_beginRound kk k3.2.2.2.1, ?_⟩
    have S2 := S1.setLoop (st' := .busy) (pend' := 0) hH1 (hstay S1) kk
    have e2 : ({ rec1 with state := .busy, pending := pendOf k1.js 0 } : Loop) = { rec1 with state := .busy } := by
      rw [← k3.2.2.2.2.1]
    rw [e2] at S2
    refine wpIn_mono (awp_sound (ro := some (D + 1)) k.body _ _ _ _ _ (.inr hn.2) hbody S2) ?_
    have fin : ∀ (e : AExit) (c : Option Code) (φ2 : Nat → Value) (σ2 : AState) (a2 : Act) (w3 : World), jumpE e = some c → Sim C φ2 σ2 a2 w3 → rPost V e σ2 →
        ∃ v w', (Instr.endRound (D + 1) c).run C.P w3 = .ok v w' ∧ ∃ o φ' H', V o H' ∧ Sim C φ' { slots := [], heap := H', low := H.length } { tmps := #[], defers := [] } w' ∧ o.rep (C.env φ' H' w') (.returned v) := by
      rintro e c φ2 σ2 a2 w3 hj S3 ⟨j, k2, s2, hj', hH2, r, H', hex, hV⟩
      rw [hj] at hj'
      obtain rfl : c = pendOf k2.js j := Option.some.inj hj'
      obtain ⟨rec2, m1, m3, _⟩ := hobj S3 hH2
      have S4 := S3.setLoop (st' := stP (pendOf k2.js j)) (pend' := j) hH2 (hstay S3) m1
      have hend := run_endRound (P := C.P) (pendOf k2.js j) m1
      have est : (if (pendOf k2.js j).isNone then LoopState.ready else .done) = stP (pendOf k2.js j) := by cases pendOf k2.js j <;> rfl
      rw [est] at hend
      obtain ⟨φ5, S5, hr5⟩ := hex C φ2 a2 _ S4 (.bool (pendOf k2.js j).isNone) rfl
      rw [show σ2.low = H.length from hlow S3] at S5
      exact ⟨_, _, hend, .ret r, φ5, H', hV, S5, hr5⟩
    intro e a2 w3 hq
    cases e with
    | normal => obtain ⟨φ2, σ2, S3, hq⟩ := hq; exact fin .normal none φ2 σ2 a2 w3 rfl S3 hq
    | ret => obtain ⟨φ2, σ2, S3, hq⟩ := hq; exact fin .ret _ φ2 σ2 a2 w3 rfl S3 hq
    | exit id => obtain ⟨φ2, σ2, S3, hq⟩ := hq; exact fin (.exit id) _ φ2 σ2 a2 w3 rfl S3 hq
    | goto l => obtain ⟨_, _, _, _, _, _, hq, _⟩ := hq; cases hq
    | panic ch => obtain ⟨_, _, _, _, _, ⟨_, _, _, hq, _⟩, _⟩ := hq; cases hq
    | outgrown => exact hq.elim
end Go.Abs
namespace Go.Abs

def child : Nat → Code → Code
  | 0, .seq x _ => x
  | 1, .seq _ y => y
  | 0, .cond _ x _ => x
  | 1, .cond _ _ y => y
  | 0, .block _ x => x
  | 0, .loop x => x
  | 0, .scope x => x
  | _, _ => .skip

def sub : List Nat → Code → Code
  | [], c => c
  | d :: p, c => child d (sub p c)

inductive Kt where
  | at (p : List Nat)
  | cut (p : List Nat)
  | ops (ops : Array Oper) (rest : List Oper)
  | dops (p : List Nat) (rest : List Oper) (j : Nat) (tr : List Tr)
  | blk (id : Nat)
  | lp (m : Nat) (p : List Nat)
  | lq (m : Nat) (p : List Nat)
  | rb
  | rd

def beginO (σ : AState) : Option AObj → Option AState
  | some (.loop k s .ready 0) => some { σ with heap := σ.heap.set 0 (.loop k s .busy 0) }
  | _ => none
def beginX (σ : AState) : Option AState := beginO σ σ.heap[0]?

section
variable {R : Type}

def regOps : Code → Array Oper
  | .region _ ops _ => ops
  | _ => #[]
def opsAt (M : Mach R) (p : List Nat) : Array Oper := regOps (sub p M.body)

noncomputable def itemX (M : Mach R) : Kt → AState → Option (AExit × AState)
  | .at p, σ => exec M (sub p M.body) p σ
  | .cut p, σ => (M.cut p σ).map fun σ' => (.normal, σ')
  | .ops ops rest, σ => execOps M ops rest σ
  | .dops p rest j tr, σ => execD M (opsAt M p) rest j tr σ
  | .blk _, σ => some (.normal, σ)
  | .lp m p, σ => (M.nrm p σ).bind (lqN (M.nrm p) (exec M (sub (0 :: p) M.body) (0 :: p)) m)
  | .lq m p, σ => lqN (M.nrm p) (exec M (sub (0 :: p) M.body) (0 :: p)) m σ
  | .rb, σ => (beginX σ).map fun σ' => (.normal, σ')
  | .rd, _ => none

noncomputable def fin (M : Mach R) : List Kt → AExit → AState → Option R
  | [], .normal, σ => M.out σ
  | [], .ret, σ => M.out σ
  | [], .panic x, σ => M.outP x σ
  | [], _, _ => none
  | .rd :: _, e, σ => M.outR e σ
  | .blk id :: k, .exit id', σ => if id' = id then fin M k .normal σ else fin M k (.exit id') σ
  | x :: k, .normal, σ => match itemX M x σ with
    | some (e, σ') => fin M k e σ'
    | none => none
  | _ :: k, e, σ => fin M k e σ

noncomputable def run (M : Mach R) (k : List Kt) (σ : AState) : Option R := fin M k .normal σ

variable {M : Mach R} {k : List Kt} {σ : AState}

theorem run_nil : run M [] σ = M.out σ := rfl
theorem run_blk {id : Nat} : run M (.blk id :: k) σ = run M k σ := rfl
theorem fin_item {x : Kt} (h : ∀ id, x ≠ .blk id) (h2 : x ≠ .rd := by simp) : fin M (x :: k) .normal σ = match itemX M x σ with
    | some (e, σ') => fin M k e σ'
    | none => none := by
  cases x <;> first | rfl | exact absurd rfl (h _) | exact absurd rfl h2

theorem run_ops_nil {ops : Array Oper} : run M (.ops ops [] :: k) σ = run M k σ := rfl
theorem run_dops_nil {p : List Nat} {j : Nat} {tr : List Tr} : run M (.dops p [] j tr :: k) σ = run M k σ := rfl

def behind (id : Nat) : List Kt → Option (List Kt)
  | [] => none
  | .blk id' :: k => if id = id' then some k else behind id k
  | .rd :: _ => none
  | _ :: k => behind id k

def isRd : Kt → Bool
  | .rd => true
  | _ => false
def rdIn : List Kt → Bool
  | [] => false
  | x :: k => isRd x || rdIn k

theorem fin_exit {id : Nat} : ∀ {k k' : List Kt}, behind id k = some k' → fin M k (.exit id) σ = run M k' σ
  | [], _, h => by simp [behind] at h
  | .blk id' :: k, k', h => by
    simp only [behind] at h
    split at h
    · rename_i e
      cases h
      subst e
      simp only [fin, if_true]; rfl
    · rename_i e
      simp only [fin, e, if_false]
      exact fin_exit h
  | .at _ :: k, k', h => fin_exit (k := k) (by simpa [behind] using h)
  | .cut _ :: k, k', h => fin_exit (k := k) (by simpa [behind] using h)
  | .ops _ _ :: k, k', h => fin_exit (k := k) (by simpa [behind] using h)
  | .dops _ _ _ _ :: k, k', h => fin_exit (k := k) (by simpa [behind] using h)
  | .lp _ _ :: k, k', h => fin_exit (k := k) (by simpa [behind] using h)
  | .lq _ _ :: k, k', h => fin_exit (k := k) (by simpa [behind] using h)
  | .rb :: k, k', h => fin_exit (k := k) (by simpa [behind] using h)
  | .rd :: k, k', h => by simp [behind] at h

theorem fin_none {id : Nat} : ∀ {k : List Kt}, behind id k = none → fin M k (.exit id) σ = bif rdIn k then M.outR (.exit id) σ else none
  | [], _ => rfl
  | .blk id' :: k, h => by
    simp only [behind] at h
    split at h
    · cases h
    · rename_i e
      simp only [fin, e, if_false]
      exact fin_none h
  | .rb :: k, h => fin_none (k := k) (by simpa [behind] using h)
  | .rd :: k, h => rfl
  | .at _ :: k, h => fin_none (k := k) (by simpa [behind] using h)
  | .cut _ :: k, h => fin_none (k := k) (by simpa [behind] using h)
  | .ops _ _ :: k, h => fin_none (k := k) (by simpa [behind] using h)
  | .dops _ _ _ _ :: k, h => fin_none (k := k) (by simpa [behind] using h)
  | .lp _ _ :: k, h => fin_none (k := k) (by simpa [behind] using h)
  | .lq _ _ :: k, h => fin_none (k := k) (by simpa [behind] using h)

theorem fin_ret : ∀ {k : List Kt}, fin M k .ret σ = bif rdIn k then M.outR .ret σ else M.out σ
  | [] => rfl
  | .rb :: k => fin_ret (k := k)
  | .rd :: k => rfl
  | .blk _ :: k => fin_ret (k := k)
  | .at _ :: k => fin_ret (k := k)
  | .cut _ :: k => fin_ret (k := k)
  | .ops _ _ :: k => fin_ret (k := k)
  | .dops _ _ _ _ :: k => fin_ret (k := k)
  | .lp _ _ :: k => fin_ret (k := k)
  | .lq _ _ :: k => fin_ret (k := k)

noncomputable def panK (M : Mach R) (x : AV) (σ : AState) (k : List Kt) : Option R := bif rdIn k then M.outR (.panic x) σ else M.outP x σ
theorem fin_panic {x : AV} : ∀ {k : List Kt}, fin M k (.panic x) σ = panK M x σ k
  | [] => rfl
  | .rb :: k => fin_panic (k := k)
  | .rd :: k => rfl
  | .blk _ :: k => fin_panic (k := k)
  | .at _ :: k => fin_panic (k := k)
  | .cut _ :: k => fin_panic (k := k)
  | .ops _ _ :: k => fin_panic (k := k)
  | .dops _ _ _ _ :: k => fin_panic (k := k)
  | .lp _ _ :: k => fin_panic (k := k)
  | .lq _ _ :: k => fin_panic (k := k)

noncomputable def exitK (M : Mach R) (σ : AState) (id : Nat) (k : List Kt) : Option (List Kt) → Option R
  | some k => run M k σ
  | none => bif rdIn k then M.outR (.exit id) σ else none
theorem exitK_some {id : Nat} {k k' : List Kt} : exitK M σ id k (some k') = run M k' σ := rfl
theorem exitK_none {id : Nat} {k : List Kt} : exitK M σ id k none = bif rdIn k then M.outR (.exit id) σ else none := rfl
noncomputable def retK (M : Mach R) (σ : AState) (k : List Kt) : Option R := bif rdIn k then M.outR .ret σ else M.out σ

noncomputable def stepJ (M : Mach R) (k : List Kt) (σ : AState) : Option Code → Option R
  | none => run M k σ
  | some .ret => retK M σ k
  | some (.exit id) => exitK M σ id k (behind id k)
  | _ => none
noncomputable def stepR2 (M : Mach R) (k : List Kt) (σ : AState) (H' : List AObj) : Option AObj → Option R
  | some (.loop lk _ st pend) => pcond (st = stP (pendOf lk.js pend)) (stepJ M k { σ with heap := H'.set σ.heap.length .dead } (pendOf lk.js pend))
  | _ => none
noncomputable def stepR1 (M : Mach R) (k : List Kt) (σ : AState) : Option (AV × List AObj) → Option R
  | some (_, H') => stepR2 M k σ H' H'[σ.heap.length]?
  | none => none
noncomputable def stepR (M : Mach R) (lk : LoopC) (k : List Kt) (σ : AState) : AV → Option R
  | .func (.func f) first cap => stepR1 M k σ (M.cl f (first ++ [.map σ.heap.length] ++ cap) (σ.heap ++ [.loop lk σ.slots .ready 0]))
  | _ => none
theorem stepJ_none : stepJ M k σ none = run M k σ := rfl
theorem stepJ_ret : stepJ M k σ (some .ret) = retK M σ k := rfl
theorem stepJ_exit {id : Nat} : stepJ M k σ (some (.exit id)) = exitK M σ id k (behind id k) := rfl
theorem stepJ_cond {b : Bool} {x y : Option Code} : stepJ M k σ (bif b then x else y) = bif b then stepJ M k σ x else stepJ M k σ y := by cases b <;> rfl
theorem stepR2_some {H' : List AObj} {lk : LoopC} {s : List AV} {st : LoopState} {pend : Int} : stepR2 M k σ H' (some (.loop lk s st pend)) = pcond (st = stP (pendOf lk.js pend)) (stepJ M k { σ with heap := H'.set σ.heap.length .dead } (pendOf lk.js pend)) := rfl
theorem stepR1_some {r : AV} {H' : List AObj} : stepR1 M k σ (some (r, H')) = stepR2 M k σ H' H'[σ.heap.length]? := rfl
theorem stepR1_none : stepR1 M k σ none = none := rfl
theorem stepR1_bind {α : Type} {o : Option α} {f : α → Option (AV × List AObj)} : stepR1 M k σ (o.bind f) = o.bind fun x => stepR1 M k σ (f x) := by cases o <;> rfl
theorem stepR1_cond {b : Bool} {x y : Option (AV × List AObj)} : stepR1 M k σ (bif b then x else y) = bif b then stepR1 M k σ x else stepR1 M k σ y := by cases b <;> rfl
theorem stepR_func {lk : LoopC} {f : FuncId} {first cap : List AV} : stepR M lk k σ (.func (.func f) first cap) = stepR1 M k σ (M.cl f (first ++ [.map σ.heap.length] ++ cap) (σ.heap ++ [.loop lk σ.slots .ready 0])) := rfl

noncomputable def stepIf (M : Mach R) (c : Operand) (p : List Nat) (k : List Kt) (σ : AState) : AV → Option R
  | .bool b => bif b then run M (.at (0 :: p) :: k) (setB c true σ) else run M (.at (1 :: p) :: k) (setB c false σ)
  | _ => none
theorem stepIf_true {c : Operand} {p : List Nat} : stepIf M c p k σ (.bool true) = run M (.at (0 :: p) :: k) (setB c true σ) := rfl
theorem stepIf_false {c : Operand} {p : List Nat} : stepIf M c p k σ (.bool false) = run M (.at (1 :: p) :: k) (setB c false σ) := rfl
theorem stepIf_sym {c : Operand} {p : List Nat} {b : Bool} : stepIf M c p k σ (.bool b) = bif b then run M (.at (0 :: p) :: k) (setB c true σ) else run M (.at (1 :: p) :: k) (setB c false σ) := rfl

def drawP (M : Mach R) (p : List Nat) : Bool :=
  match sub p M.body with
  | .region _ ops _ => drawOK ops
  | _ => false

def lkAt (js : List (Int × Code)) : Code → LoopC
  | .rangeFunc _ ps as body => ⟨ps, as, body, js⟩
  | _ => ⟨#[], .skip, .skip, []⟩
def lkM (M : Mach R) (p : List Nat) : LoopC := lkAt (M.js p) (sub p M.body)

noncomputable def stepN (M : Mach R) (p : List Nat) (k : List Kt) (σ : AState) : Code → Option R
  | .skip => run M k σ
  | .region _ ops false => run M (.ops ops ops.toList :: k) σ
  | .region _ ops true => pcond (M.P.follows .mixedOrders = true ∧ drawP M p = true) (run M (.dops p ops.toList 0 [] :: k) σ)
  | .seq _ _ => run M (.at (0 :: p) :: .cut (1 :: p) :: .at (1 :: p) :: k) σ
  | .cond c _ _ => stepIf M c p k σ (σ.ev c)
  | .block id _ => run M (.at (0 :: p) :: .blk id :: k) σ
  | .loop _ => run M (.lp M.n p :: k) σ
  | .exit id => exitK M σ id k (behind id k)
  | .scope _ => run M (.at (0 :: p) :: k) σ
  | .label _ => run M k σ
  | .ret => retK M σ k
  | .rangeFunc g _ _ _ => stepR M (lkM M p) k σ (σ.ev g)
  | _ => none

theorem fin_block {id : Nat} {e : AExit} : fin M (.blk id :: k) e σ = match (match e with
    | .exit id' => if id' = id then (AExit.normal, σ) else (.exit id', σ)
    | e => (e, σ)) with
    | (e, σ) => fin M k e σ := by
  cases e with
  | exit id' =>
    simp only [fin]
    split <;> rfl
  | _ => rfl

theorem fin_skip {x : Kt} {e : AExit} (h : ∀ id, x ≠ .blk id) (he : e ≠ .normal) (h2 : x ≠ .rd := by simp) : fin M (x :: k) e σ = fin M k e σ := by
  cases x <;> cases e <;> first | rfl | exact absurd rfl (h _) | exact absurd rfl he | exact absurd rfl h2

theorem run_at {p : List Nat} : run M (.at p :: k) σ = stepN M p k σ (sub p M.body) := by
  show fin M (.at p :: k) .normal σ = _
  rw [fin_item (by simp)]
  simp only [itemX]
  cases hc : sub p M.body with
  | skip => rfl
  | region id ops b =>
    cases b with
    | false =>
      simp only [exec, stepN]
      show _ = fin M (.ops ops ops.toList :: k) .normal σ
      rw [fin_item (by simp)]
      simp only [itemX]
    | true =>
      simp only [exec, stepN]
      show _ = pcond _ (fin M (.dops p ops.toList 0 [] :: k) .normal σ)
      rw [fin_item (by simp)]
      simp only [itemX]
      have hd : drawP M p = drawOK ops := by simp only [drawP, hc]
      have ho : opsAt M p = ops := by simp only [opsAt, hc, regOps]
      rw [hd, ho]
      by_cases hp : M.P.follows .mixedOrders = true ∧ drawOK ops = true
      · simp only [pcond, if_pos hp]
      · simp only [pcond, if_neg hp]
  | seq x y =>
    simp only [exec, stepN]
    show _ = fin M (.at (0 :: p) :: .cut (1 :: p) :: .at (1 :: p) :: k) .normal σ
    rw [fin_item (by simp)]
    have h0 : sub (0 :: p) M.body = x := by simp [sub, hc, child]
    have h1 : sub (1 :: p) M.body = y := by simp [sub, hc, child]
    simp only [itemX, h0]
    cases hx : exec M x (0 :: p) σ with
    | none => rfl
    | some r =>
      obtain ⟨e1, σ1⟩ := r
      cases e1 with
      | normal =>
        simp only
        rw [fin_item (by simp)]
        simp only [itemX]
        cases hcut : M.cut (1 :: p) σ1 with
        | none => rfl
        | some σ2 =>
          simp only [Option.bind_some, Option.map_some]
          rw [fin_item (by simp)]
          simp only [itemX, h1]
      | _ =>
        simp only
        rw [fin_skip (by simp) (by simp), fin_skip (by simp) (by simp)]
  | cond c x y =>
    simp only [exec, stepN]
    have h0 : sub (0 :: p) M.body = x := by simp [sub, hc, child]
    have h1 : sub (1 :: p) M.body = y := by simp [sub, hc, child]
    cases hv : σ.ev c with
    | bool b =>
      simp only [stepIf]
      cases b with
      | true =>
        simp only [cond_true]
        show _ = fin M (.at (0 :: p) :: k) .normal _
        rw [fin_item (by simp)]
        simp only [itemX, h0]
      | false =>
        simp only [cond_false]
        show _ = fin M (.at (1 :: p) :: k) .normal _
        rw [fin_item (by simp)]
        simp only [itemX, h1]
    | _ => rfl
  | block id x =>
    simp only [exec, stepN]
    have h0 : sub (0 :: p) M.body = x := by simp [sub, hc, child]
    show _ = fin M (.at (0 :: p) :: .blk id :: k) .normal σ
    rw [fin_item (by simp)]
    simp only [itemX, h0]
    cases hx : exec M x (0 :: p) σ with
    | none => rfl
    | some r =>
      obtain ⟨e1, σ1⟩ := r
      simp only
      rw [fin_block]
      cases e1 with
      | exit id' =>
        by_cases he : id' = id
        · simp only [he, if_true]
        · simp only [he, if_false]
      | _ => rfl
  | loop x =>
    simp only [exec, stepN]
    have h0 : sub (0 :: p) M.body = x := by simp [sub, hc, child]
    show _ = fin M (.lp M.n p :: k) .normal σ
    rw [fin_item (by simp)]
    simp only [itemX, h0]
  | exit id =>
    simp only [exec, stepN]
    cases hb : behind id k with
    | none => exact fin_none hb
    | some k' => exact fin_exit hb
  | scope x =>
    simp only [exec, stepN]
    have h0 : sub (0 :: p) M.body = x := by simp [sub, hc, child]
    show _ = fin M (.at (0 :: p) :: k) .normal σ
    rw [fin_item (by simp)]
    simp only [itemX, h0]
  | label l => rfl
  | ret => exact fin_ret
  | goto l => rfl
  | rangeFunc g ps as body =>
    have hlk : lkM M p = ⟨ps, as, body, M.js p⟩ := by simp only [lkM, hc, lkAt]
    simp only [exec, stepN, hlk]
    cases hv : σ.ev g with
    | func fn first cap =>
      cases fn with
      | func f =>
        simp only [rngX, stepR]
        cases hcl : M.cl f (first ++ [.map σ.heap.length] ++ cap) (σ.heap ++ [.loop ⟨ps, as, body, M.js p⟩ σ.slots .ready 0]) with
        | none => rfl
        | some q =>
          obtain ⟨r, H'⟩ := q
          simp only [stepR1]
          cases hH : H'[σ.heap.length]? with
          | none => rfl
          | some x =>
            cases x with
            | loop lk s st pend =>
              simp only [endX, stepR2]
              by_cases hst : st = stP (pendOf lk.js pend)
              · simp only [pcond, if_pos hst]
                generalize pendOf lk.js pend = pc
                cases pc with
                | none => rfl
                | some c =>
                  cases c with
                  | ret => exact fin_ret
                  | exit id =>
                    simp only [jumpX, stepJ]
                    cases hb : behind id k with
                    | none => exact fin_none hb
                    | some k' => exact fin_exit hb
                  | _ => rfl
              · simp only [pcond, if_neg hst]
            | _ => rfl
      | _ => rfl
    | _ => rfl
  | refuse s => rfl

theorem stepN_skip {p : List Nat} : stepN M p k σ .skip = run M k σ := rfl
theorem stepN_region {p : List Nat} {id : Nat} {ops : Array Oper} : stepN M p k σ (.region id ops false) = run M (.ops ops ops.toList :: k) σ := rfl
theorem stepN_draw {p : List Nat} {id : Nat} {ops : Array Oper} : stepN M p k σ (.region id ops true) = pcond (M.P.follows .mixedOrders = true) (pcond (drawP M p = true) (run M (.dops p ops.toList 0 [] :: k) σ)) := by
  rw [← pcond_and]; rfl
theorem stepN_seq {p : List Nat} {x y : Code} : stepN M p k σ (.seq x y) = run M (.at (0 :: p) :: .cut (1 :: p) :: .at (1 :: p) :: k) σ := rfl
theorem stepN_cond {p : List Nat} {c : Operand} {x y : Code} : stepN M p k σ (.cond c x y) = stepIf M c p k σ (σ.ev c) := rfl
theorem stepN_block {p : List Nat} {id : Nat} {x : Code} : stepN M p k σ (.block id x) = run M (.at (0 :: p) :: .blk id :: k) σ := rfl
theorem stepN_loop {p : List Nat} {x : Code} : stepN M p k σ (.loop x) = run M (.lp M.n p :: k) σ := rfl
theorem stepN_exit {p : List Nat} {id : Nat} : stepN M p k σ (.exit id) = exitK M σ id k (behind id k) := rfl
theorem stepN_range {p : List Nat} {g : Operand} {ps : Array Tmp} {as body : Code} : stepN M p k σ (.rangeFunc g ps as body) = stepR M (lkM M p) k σ (σ.ev g) := rfl
theorem stepN_scope {p : List Nat} {x : Code} : stepN M p k σ (.scope x) = run M (.at (0 :: p) :: k) σ := rfl
theorem stepN_label {p : List Nat} {l : Nat} : stepN M p k σ (.label l) = run M k σ := rfl
theorem stepN_ret {p : List Nat} : stepN M p k σ .ret = retK M σ k := rfl
theorem run_rb : run M (.rb :: k) σ = (beginX σ).bind fun σ' => run M k σ' := by
  show fin M (.rb :: k) .normal σ = _
  rw [fin_item (by simp)]
  simp only [itemX]
  cases beginX σ <;> rfl
theorem run_rd : run M (.rd :: k) σ = M.outR .normal σ := rfl

theorem run_cut {p : List Nat} : run M (.cut p :: k) σ = (M.cut p σ).bind fun σ' => run M k σ' := by
  show fin M (.cut p :: k) .normal σ = _
  rw [fin_item (by simp)]
  simp only [itemX]
  cases M.cut p σ <;> rfl
theorem run_lp {m : Nat} {p : List Nat} : run M (.lp m p :: k) σ = (M.nrm p σ).bind fun σ' => run M (.lq m p :: k) σ' := by
  show fin M (.lp m p :: k) .normal σ = _
  rw [fin_item (by simp)]
  simp only [itemX]
  cases h : M.nrm p σ with
  | none => rfl
  | some σ' =>
    simp only [Option.bind_some]
    show _ = fin M (.lq m p :: k) .normal σ'
    rw [fin_item (by simp)]
    simp only [itemX]
theorem run_lq_zero {p : List Nat} : run M (.lq 0 p :: k) σ = none := by
  show fin M (.lq 0 p :: k) .normal σ = _
  rw [fin_item (by simp)]
  simp only [itemX, lqN]
theorem run_lq_succ {m : Nat} {p : List Nat} : run M (.lq (m + 1) p :: k) σ = run M (.at (0 :: p) :: .lp m p :: k) σ := by
  show fin M (.lq (m + 1) p :: k) .normal σ = fin M (.at (0 :: p) :: .lp m p :: k) .normal σ
  rw [fin_item (by simp), fin_item (by simp)]
  simp only [itemX, lqN]
  cases hx : exec M (sub (0 :: p) M.body) (0 :: p) σ with
  | none => rfl
  | some r =>
    obtain ⟨e1, σ1⟩ := r
    cases e1 with
    | normal =>
      simp only
      rw [fin_item (by simp)]
      simp only [itemX]
    | _ =>
      simp only
      rw [fin_skip (by simp) (by simp)]

-- operations
noncomputable def stepE (M : Mach R) (ops : Array Oper) (dst : Option Tmp) (rest : List Oper) (k : List Kt) (σ : AState) : Option Eff → Option R
  | some e => pcond e.pre (run M (.ops ops rest :: k) (σ.app dst e))
  | none => none
noncomputable def stepA (M : Mach R) (ops : Array Oper) (dst : Option Tmp) (rest : List Oper) (k : List Kt) (σ : AState) : Option (AV × List AObj) → Option R
  | some (r, H') => run M (.ops ops rest :: k) (AState.put { σ with heap := H' } dst r)
  | none => none
noncomputable def stepP (M : Mach R) (ops : Array Oper) (dst : Option Tmp) (rest : List Oper) (k : List Kt) (σ : AState) : Option (AOut × List AObj) → Option R
  | some (.ret r, H') => run M (.ops ops rest :: k) (AState.put { σ with heap := H' } dst r)
  | some (.panic x, H') => panK M x { σ with heap := H' } k
  | none => none
noncomputable def stepF (M : Mach R) (ops : Array Oper) (dst : Option Tmp) (rest : List Oper) (k : List Kt) (σ : AState) : Option (FuncId × List AV) → Option R
  | some p => run M (.ops ops rest :: k) (σ.dfr p dst)
  | none => none
noncomputable def stepQ (M : Mach R) (k : List Kt) (σ : AState) : Option AV → Option R
  | some x => panK M x σ k
  | none => none
noncomputable def stepZ (M : Mach R) (ops : Array Oper) (dst : Option Tmp) (rest : List Oper) (k : List Kt) (σ : AState) : Op → Option R
  | .defer c => stepF M ops dst rest k σ (deferOf σ (.defer c))
  | .panic x => stepQ M k σ (panOf σ (.panic x))
  | o => stepE M ops dst rest k σ (opEff M.P σ o)
noncomputable def stepY (M : Mach R) (ops : Array Oper) (o : Oper) (rest : List Oper) (k : List Kt) (σ : AState) : Option (Nat × List AV) → Option R
  | some (l, args) => stepA M ops o.dst rest k σ (M.cy l args σ.heap)
  | none => stepZ M ops o.dst rest k σ o.op
noncomputable def stepC (M : Mach R) (ops : Array Oper) (o : Oper) (rest : List Oper) (k : List Kt) (σ : AState) : Option (FuncId × List AV) → Option R
  | some (f, args) => bif M.isP f then stepP M ops o.dst rest k σ (M.cp f args σ.heap) else stepA M ops o.dst rest k σ (M.cl f args σ.heap)
  | none => stepY M ops o rest k σ (yieldOf σ o.op)
noncomputable def stepW (M : Mach R) (ops : Array Oper) (o : Oper) (rest : List Oper) (k : List Kt) (σ : AState) : Option Bool → Option R
  | none => none
  | some b => bif b then stepC M ops o rest k (gset ops o true σ) (calleeOf (gset ops o true σ) o.op) else run M (.ops ops rest :: k) ((gset ops o false σ).put o.dst (.raw undef))

theorem run_ops {ops : Array Oper} {o : Oper} {rest : List Oper} : run M (.ops ops (o :: rest) :: k) σ = stepW M ops o rest k σ (wantedA ops o σ) := by
  have hr : ∀ σ, run M (.ops ops rest :: k) σ = match execOps M ops rest σ with | some (e, σ') => fin M k e σ' | none => none := by
    intro σ
    show fin M (.ops ops rest :: k) .normal σ = _
    rw [fin_item (by simp)]
    simp only [itemX]
  have hl : run M (.ops ops (o :: rest) :: k) σ = match execOps M ops (o :: rest) σ with | some (e, σ') => fin M k e σ' | none => none := by
    show fin M (.ops ops (o :: rest) :: k) .normal σ = _
    rw [fin_item (by simp)]
    simp only [itemX]
  rw [hl]
  simp only [execOps]
  cases hw : wantedA ops o σ with
  | none => rfl
  | some b =>
    simp only [stepW]
    cases b with
    | false => simp only [cond_false, hr]
    | true =>
      simp only [cond_true]
      cases hc : calleeOf (gset ops o true σ) o.op with
      | some q =>
        obtain ⟨f, args⟩ := q
        simp only [stepC]
        cases hi : M.isP f with
        | true =>
          simp only [cond_true]
          cases ha : M.cp f args (gset ops o true σ).heap with
          | none => simp only [stepP]
          | some q =>
            obtain ⟨r, H'⟩ := q
            cases r with
            | ret r => simp only [stepP, hr]
            | panic x => simp only [stepP, fin_panic]
        | false =>
          simp only [cond_false]
          cases ha : M.cl f args (gset ops o true σ).heap with
          | none => simp only [stepA]
          | some q => obtain ⟨r, H'⟩ := q; simp only [stepA, hr]
      | none =>
        simp only [stepC]
        cases hy : yieldOf (gset ops o true σ) o.op with
        | some q =>
          obtain ⟨l, args⟩ := q
          simp only [stepY]
          cases ha : M.cy l args (gset ops o true σ).heap with
          | none => simp only [stepA]
          | some q => obtain ⟨r, H'⟩ := q; simp only [stepA, hr]
        | none =>
          simp only [stepY]
          have key : (∀ c, o.op ≠ .defer c) → (∀ x, o.op ≠ .panic x) → stepZ M ops o.dst rest k (gset ops o true σ) o.op = stepE M ops o.dst rest k (gset ops o true σ) (opEff M.P (gset ops o true σ) o.op) := by
            intro h1 h2
            unfold stepZ
            split
            · rename_i hh; exact absurd hh (h1 _)
            · rename_i hh; exact absurd hh (h2 _)
            · rfl
          by_cases h1 : ∃ c, o.op = .defer c
          · obtain ⟨c, hc'⟩ := h1
            simp only [hc', opEff, stepZ]
            cases deferOf (gset ops o true σ) (.defer c) with
            | some p => simp only [stepF, hr]
            | none => simp only [stepF, panOf]
          · by_cases h2 : ∃ x, o.op = .panic x
            · obtain ⟨x, hx⟩ := h2
              simp only [hx, opEff, stepZ, deferOf]
              cases panOf (gset ops o true σ) (.panic x) with
              | some p => simp only [stepQ, fin_panic]
              | none => simp only [stepQ]
            · rw [key (fun c hc' => h1 ⟨c, hc'⟩) (fun x hx => h2 ⟨x, hx⟩)]
              cases he : opEff M.P (gset ops o true σ) o.op with
              | none =>
                simp only [stepE]
                have e1 : deferOf (gset ops o true σ) o.op = none := by
                  unfold deferOf
                  split
                  · rename_i hh; exact absurd ⟨_, hh⟩ h1
                  · rfl
                have e2 : panOf (gset ops o true σ) o.op = none := by
                  unfold panOf
                  split
                  · rename_i hh; exact absurd ⟨_, hh⟩ h2
                  · rfl
                simp only [e1, e2]
              | some e =>
                simp only [stepE, hr]
                by_cases hp : e.pre
                · simp only [pcond, if_pos hp]
                · simp only [pcond, if_neg hp]

theorem stepW_true {ops : Array Oper} {o : Oper} {rest : List Oper} : stepW M ops o rest k σ (some true) = stepC M ops o rest k (gset ops o true σ) (calleeOf (gset ops o true σ) o.op) := rfl
theorem stepW_false {ops : Array Oper} {o : Oper} {rest : List Oper} : stepW M ops o rest k σ (some false) = run M (.ops ops rest :: k) ((gset ops o false σ).put o.dst (.raw undef)) := rfl
theorem stepW_sym {ops : Array Oper} {o : Oper} {rest : List Oper} {b : Bool} : stepW M ops o rest k σ (some b) = bif b then stepC M ops o rest k (gset ops o true σ) (calleeOf (gset ops o true σ) o.op) else run M (.ops ops rest :: k) ((gset ops o false σ).put o.dst (.raw undef)) := rfl
theorem stepC_some {ops : Array Oper} {o : Oper} {rest : List Oper} {f : FuncId} {args : List AV} : stepC M ops o rest k σ (some (f, args)) = bif M.isP f then stepP M ops o.dst rest k σ (M.cp f args σ.heap) else stepA M ops o.dst rest k σ (M.cl f args σ.heap) := rfl
theorem stepP_ret {ops : Array Oper} {dst : Option Tmp} {rest : List Oper} {r : AV} {H' : List AObj} : stepP M ops dst rest k σ (some (.ret r, H')) = run M (.ops ops rest :: k) (AState.put { σ with heap := H' } dst r) := rfl
theorem stepP_pan {ops : Array Oper} {dst : Option Tmp} {rest : List Oper} {x : AV} {H' : List AObj} : stepP M ops dst rest k σ (some (.panic x, H')) = panK M x { σ with heap := H' } k := rfl
theorem stepP_none {ops : Array Oper} {dst : Option Tmp} {rest : List Oper} : stepP M ops dst rest k σ none = none := rfl
theorem stepP_bind {ops : Array Oper} {dst : Option Tmp} {rest : List Oper} {α : Type} {o : Option α} {f : α → Option (AOut × List AObj)} : stepP M ops dst rest k σ (o.bind f) = o.bind fun x => stepP M ops dst rest k σ (f x) := by
  cases o <;> rfl
theorem stepP_cond {ops : Array Oper} {dst : Option Tmp} {rest : List Oper} {b : Bool} {x y : Option (AOut × List AObj)} : stepP M ops dst rest k σ (bif b then x else y) = bif b then stepP M ops dst rest k σ x else stepP M ops dst rest k σ y := by cases b <;> rfl
theorem stepF_some {ops : Array Oper} {dst : Option Tmp} {rest : List Oper} {p : FuncId × List AV} : stepF M ops dst rest k σ (some p) = run M (.ops ops rest :: k) (σ.dfr p dst) := rfl
theorem stepQ_some {x : AV} : stepQ M k σ (some x) = panK M x σ k := rfl
theorem stepC_none {ops : Array Oper} {o : Oper} {rest : List Oper} : stepC M ops o rest k σ none = stepY M ops o rest k σ (yieldOf σ o.op) := rfl
theorem stepY_some {ops : Array Oper} {o : Oper} {rest : List Oper} {l : Nat} {args : List AV} : stepY M ops o rest k σ (some (l, args)) = stepA M ops o.dst rest k σ (M.cy l args σ.heap) := rfl
theorem stepY_none {ops : Array Oper} {o : Oper} {rest : List Oper} : stepY M ops o rest k σ none = stepZ M ops o.dst rest k σ o.op := rfl
theorem stepE_none {ops : Array Oper} {dst : Option Tmp} {rest : List Oper} : stepE M ops dst rest k σ none = none := rfl
theorem stepE_some {ops : Array Oper} {dst : Option Tmp} {rest : List Oper} {x : AV} {rd : List Nat} {up : List (Nat × AObj)} {nw : List AObj} {p : Prop} :
    stepE M ops dst rest k σ (some { val := x, rd, up, nw, pre := p }) = pcond p (run M (.ops ops rest :: k) { σ.put dst x with heap := applyUps σ.heap up ++ nw }) := rfl
theorem stepE_bind {ops : Array Oper} {dst : Option Tmp} {rest : List Oper} {α : Type} {o : Option α} {f : α → Option Eff} : stepE M ops dst rest k σ (o.bind f) = o.bind fun x => stepE M ops dst rest k σ (f x) := by
  cases o <;> rfl
theorem stepE_ite {ops : Array Oper} {dst : Option Tmp} {rest : List Oper} {p : Prop} [Decidable p] {a b : Option Eff} : stepE M ops dst rest k σ (if p then a else b) = bif decide p then stepE M ops dst rest k σ a else stepE M ops dst rest k σ b := by
  by_cases h : p <;> simp [h]
theorem stepA_some {ops : Array Oper} {dst : Option Tmp} {rest : List Oper} {r : AV} {H' : List AObj} : stepA M ops dst rest k σ (some (r, H')) = run M (.ops ops rest :: k) (AState.put { σ with heap := H' } dst r) := rfl
theorem stepA_none {ops : Array Oper} {dst : Option Tmp} {rest : List Oper} : stepA M ops dst rest k σ none = none := rfl
theorem stepA_bind {ops : Array Oper} {dst : Option Tmp} {rest : List Oper} {α : Type} {o : Option α} {f : α → Option (AV × List AObj)} : stepA M ops dst rest k σ (o.bind f) = o.bind fun x => stepA M ops dst rest k σ (f x) := by
  cases o <;> rfl

def compatP (M : Mach R) (p : List Nat) (tr : List Tr) (j : Nat) (e : Eff) : Prop := compatC (opsAt M p) tr j e
def ordP (M : Mach R) (p : List Nat) (i j : Nat) : Bool := ordB (opsAt M p) i j
theorem compatP_eq {p : List Nat} {tr : List Tr} {j : Nat} {e : Eff} : compatP M p tr j e = (e.idle = true ∨ (tr.all fun t => indepB t e || ordP M p t.j j) = true) := rfl

noncomputable def stepDE (M : Mach R) (p : List Nat) (dst : Option Tmp) (rest : List Oper) (j : Nat) (tr : List Tr) (k : List Kt) (σ : AState) : Option Eff → Option R
  | some e => pcond (e.pre ∧ compatP M p tr j e) (run M (.dops p rest (j + 1) (pushTr tr j σ.heap.length e) :: k) (σ.app dst e))
  | none => none
noncomputable def stepDA (M : Mach R) (p : List Nat) (dst : Option Tmp) (rest : List Oper) (j : Nat) (tr : List Tr) (k : List Kt) (σ : AState) : Option AV → Option R
  | some r => run M (.dops p rest (j + 1) tr :: k) (σ.put dst r)
  | none => none
def restP (M : Mach R) (p : List Nat) (c : Nat) (rest : List Oper) (j : Nat) (σ : AState) : Prop := restI M.P (opsAt M p) c rest j σ
noncomputable def stepDP (M : Mach R) (p : List Nat) (dst : Option Tmp) (rest : List Oper) (j : Nat) (tr : List Tr) (k : List Kt) (σ : AState) : Option CO → Option R
  | some (.ret e) => stepDE M p dst rest j tr k σ (some e)
  | some (.pan x H') => pcond (trIdle tr = true ∧ restP M p j rest (j + 1) (σ.put dst (.raw undef))) (panK M x { σ with slots := wipe (opsAt M p) σ.slots, heap := H' } k)
  | none => none
noncomputable def stepDC (M : Mach R) (p : List Nat) (o : Oper) (rest : List Oper) (j : Nat) (tr : List Tr) (k : List Kt) (σ : AState) : Option (FuncId × List AV) → Option R
  | some (f, args) => bif M.isC f then stepDP M p o.dst rest j tr k σ (M.co f args σ.heap) else bif M.isE f then stepDE M p o.dst rest j tr k σ (M.ce f args σ.heap) else stepDA M p o.dst rest j tr k σ (M.cd f args)
  | none => stepDE M p o.dst rest j tr k σ (opEff M.P σ o.op)
noncomputable def stepDW (M : Mach R) (p : List Nat) (o : Oper) (rest : List Oper) (j : Nat) (tr : List Tr) (k : List Kt) (σ : AState) : Option Bool → Option R
  | none => none
  | some b => bif b then stepDC M p o rest j tr k (gset (opsAt M p) o true σ) (calleeOf (gset (opsAt M p) o true σ) o.op) else run M (.dops p rest (j + 1) tr :: k) ((gset (opsAt M p) o false σ).put o.dst (.raw undef))

theorem run_dops {p : List Nat} {o : Oper} {rest : List Oper} {j : Nat} {tr : List Tr} : run M (.dops p (o :: rest) j tr :: k) σ = stepDW M p o rest j tr k σ (wantedA (opsAt M p) o σ) := by
  have hr : ∀ j tr σ, run M (.dops p rest j tr :: k) σ = match execD M (opsAt M p) rest j tr σ with | some (e, σ') => fin M k e σ' | none => none := by
    intro j tr σ
    show fin M (.dops p rest j tr :: k) .normal σ = _
    rw [fin_item (by simp)]
    simp only [itemX]
  have hl : run M (.dops p (o :: rest) j tr :: k) σ = match execD M (opsAt M p) (o :: rest) j tr σ with | some (e, σ') => fin M k e σ' | none => none := by
    show fin M (.dops p (o :: rest) j tr :: k) .normal σ = _
    rw [fin_item (by simp)]
    simp only [itemX]
  rw [hl]
  simp only [execD]
  cases hw : wantedA (opsAt M p) o σ with
  | none => rfl
  | some b =>
    simp only [stepDW]
    cases b with
    | false => simp only [cond_false, hr]
    | true =>
      simp only [cond_true]
      cases hc : calleeOf (gset (opsAt M p) o true σ) o.op with
      | some q =>
        obtain ⟨f, args⟩ := q
        simp only [stepDC]
        cases hic : M.isC f with
        | true =>
          simp only [cond_true]
          cases he : M.co f args (gset (opsAt M p) o true σ).heap with
          | none => simp only [stepDP]
          | some q =>
            cases q with
            | ret e =>
              simp only [stepDP, stepDE, hr]
              have hpe : (e.pre ∧ compatP M p tr j e) = (e.pre ∧ compatC (opsAt M p) tr j e) := rfl
              rw [hpe]
              by_cases hp : e.pre ∧ compatC (opsAt M p) tr j e
              · simp only [pcond, if_pos hp]
              · simp only [pcond, if_neg hp]
            | pan x H' =>
              simp only [stepDP, restP]
              by_cases hp : trIdle tr = true ∧ restI M.P (opsAt M p) j rest (j + 1) ((gset (opsAt M p) o true σ).put o.dst (.raw undef))
              · simp only [pcond, if_pos hp, fin_panic]
              · simp only [pcond, if_neg hp]
        | false =>
        simp only [cond_false]
        cases hi : M.isE f with
        | true =>
          simp only [cond_true]
          cases he : M.ce f args (gset (opsAt M p) o true σ).heap with
          | none => simp only [stepDE]
          | some e =>
            simp only [stepDE, hr]
            have hpe : (e.pre ∧ compatP M p tr j e) = (e.pre ∧ compatC (opsAt M p) tr j e) := rfl
            rw [hpe]
            by_cases hp : e.pre ∧ compatC (opsAt M p) tr j e
            · simp only [pcond, if_pos hp]
            · simp only [pcond, if_neg hp]
        | false =>
          simp only [cond_false]
          cases ha : M.cd f args with
          | none => simp only [stepDA]
          | some r => simp only [stepDA, hr]
      | none =>
        simp only [stepDC]
        cases he : opEff M.P (gset (opsAt M p) o true σ) o.op with
        | none => simp only [stepDE]
        | some e =>
          simp only [stepDE, hr]
          have hpe : (e.pre ∧ compatP M p tr j e) = (e.pre ∧ compatC (opsAt M p) tr j e) := rfl
          rw [hpe]
          by_cases hp : e.pre ∧ compatC (opsAt M p) tr j e
          · simp only [pcond, if_pos hp]
          · simp only [pcond, if_neg hp]

theorem stepDW_true {p : List Nat} {o : Oper} {rest : List Oper} {j : Nat} {tr : List Tr} : stepDW M p o rest j tr k σ (some true) = stepDC M p o rest j tr k (gset (opsAt M p) o true σ) (calleeOf (gset (opsAt M p) o true σ) o.op) := rfl
theorem stepDW_false {p : List Nat} {o : Oper} {rest : List Oper} {j : Nat} {tr : List Tr} : stepDW M p o rest j tr k σ (some false) = run M (.dops p rest (j + 1) tr :: k) ((gset (opsAt M p) o false σ).put o.dst (.raw undef)) := rfl
theorem stepDW_sym {p : List Nat} {o : Oper} {rest : List Oper} {j : Nat} {tr : List Tr} {b : Bool} : stepDW M p o rest j tr k σ (some b) = bif b then stepDC M p o rest j tr k (gset (opsAt M p) o true σ) (calleeOf (gset (opsAt M p) o true σ) o.op) else run M (.dops p rest (j + 1) tr :: k) ((gset (opsAt M p) o false σ).put o.dst (.raw undef)) := rfl
theorem stepDC_some {p : List Nat} {o : Oper} {rest : List Oper} {j : Nat} {tr : List Tr} {f : FuncId} {args : List AV} : stepDC M p o rest j tr k σ (some (f, args)) = bif M.isC f then stepDP M p o.dst rest j tr k σ (M.co f args σ.heap) else bif M.isE f then stepDE M p o.dst rest j tr k σ (M.ce f args σ.heap) else stepDA M p o.dst rest j tr k σ (M.cd f args) := rfl
theorem stepDP_ret {p : List Nat} {dst : Option Tmp} {rest : List Oper} {j : Nat} {tr : List Tr} {e : Eff} : stepDP M p dst rest j tr k σ (some (.ret e)) = stepDE M p dst rest j tr k σ (some e) := rfl
theorem stepDP_pan {p : List Nat} {dst : Option Tmp} {rest : List Oper} {j : Nat} {tr : List Tr} {x : AV} {H' : List AObj} : stepDP M p dst rest j tr k σ (some (.pan x H')) = pcond (trIdle tr = true) (pcond (restP M p j rest (j + 1) (σ.put dst (.raw undef))) (panK M x { σ with slots := wipe (opsAt M p) σ.slots, heap := H' } k)) := by
  rw [← pcond_and]; rfl
theorem stepDP_none {p : List Nat} {dst : Option Tmp} {rest : List Oper} {j : Nat} {tr : List Tr} : stepDP M p dst rest j tr k σ none = none := rfl
theorem stepDP_bind {p : List Nat} {dst : Option Tmp} {rest : List Oper} {j : Nat} {tr : List Tr} {α : Type} {o : Option α} {f : α → Option CO} : stepDP M p dst rest j tr k σ (o.bind f) = o.bind fun x => stepDP M p dst rest j tr k σ (f x) := by
  cases o <;> rfl
theorem restP_nil {p : List Nat} {c j : Nat} : restP M p c [] j σ = True := rfl
def ordQ (M : Mach R) (p : List Nat) (c j : Nat) : Bool := orderedB (opsAt M p) c j
theorem restP_skip {p : List Nat} {c j : Nat} {o : Oper} {rest : List Oper} (h : ordQ M p c j = true) : restP M p c (o :: rest) j σ = restP M p c rest (j + 1) (σ.put o.dst (.raw undef)) := by
  unfold ordQ at h
  show restI M.P (opsAt M p) c (o :: rest) j σ = restI M.P (opsAt M p) c rest (j + 1) (σ.put o.dst (.raw undef))
  simp only [restI, h]
theorem stepDE_none {p : List Nat} {dst : Option Tmp} {rest : List Oper} {j : Nat} {tr : List Tr} : stepDE M p dst rest j tr k σ none = none := rfl
theorem stepDE_idle {p : List Nat} {dst : Option Tmp} {rest : List Oper} {j : Nat} {tr : List Tr} {x : AV} {pr : Prop} :
    stepDE M p dst rest j tr k σ (some { val := x, rd := [], up := [], nw := [], pre := pr }) = pcond pr (run M (.dops p rest (j + 1) tr :: k) (σ.put dst x)) := by
  simp only [stepDE, compatP, compatC, Eff.idle, pushTr, List.isEmpty_nil, Bool.and_true, Bool.not_false, true_or, and_true, cond_true]
  rw [app_val]
theorem stepDE_some {p : List Nat} {dst : Option Tmp} {rest : List Oper} {j : Nat} {tr : List Tr} {x : AV} {rd : List Nat} {up : List (Nat × AObj)} {nw : List AObj} {pr : Prop} :
    stepDE M p dst rest j tr k σ (some { val := x, rd, up, nw, pre := pr }) = pcond pr (pcond (compatP M p tr j { val := x, rd, up, nw, pre := pr }) (run M (.dops p rest (j + 1) (pushTr tr j σ.heap.length { val := x, rd, up, nw, pre := pr }) :: k) { σ.put dst x with heap := applyUps σ.heap up ++ nw })) := by
  rw [← pcond_and]; rfl
theorem stepDE_bind {p : List Nat} {dst : Option Tmp} {rest : List Oper} {j : Nat} {tr : List Tr} {α : Type} {o : Option α} {f : α → Option Eff} : stepDE M p dst rest j tr k σ (o.bind f) = o.bind fun x => stepDE M p dst rest j tr k σ (f x) := by
  cases o <;> rfl
theorem stepDE_ite {p : List Nat} {dst : Option Tmp} {rest : List Oper} {j : Nat} {tr : List Tr} {pr : Prop} [Decidable pr] {a b : Option Eff} : stepDE M p dst rest j tr k σ (if pr then a else b) = bif decide pr then stepDE M p dst rest j tr k σ a else stepDE M p dst rest j tr k σ b := by
  by_cases h : pr <;> simp [h]
theorem stepDA_some {p : List Nat} {dst : Option Tmp} {rest : List Oper} {j : Nat} {tr : List Tr} {r : AV} : stepDA M p dst rest j tr k σ (some r) = run M (.dops p rest (j + 1) tr :: k) (σ.put dst r) := rfl
theorem stepDA_none {p : List Nat} {dst : Option Tmp} {rest : List Oper} {j : Nat} {tr : List Tr} : stepDA M p dst rest j tr k σ none = none := rfl
theorem stepDA_bind {p : List Nat} {dst : Option Tmp} {rest : List Oper} {j : Nat} {tr : List Tr} {α : Type} {o : Option α} {f : α → Option AV} : stepDA M p dst rest j tr k σ (o.bind f) = o.bind fun x => stepDA M p dst rest j tr k σ (f x) := by
  cases o <;> rfl

theorem run_soundP (G : Good M) {r : R} {Q : AExit → AState → Prop} (h : run M [.at []] σ = some r) (hQ : ∀ σ', M.out σ' = some r → Q .normal σ' ∧ Q .ret σ') (hP : ∀ x σ', M.outP x σ' = some r → Q (.panic x) σ') : awp M.P M.body Q σ := by
  have h' : fin M [.at []] .normal σ = some r := h
  rw [fin_item (by simp)] at h'
  simp only [itemX, sub] at h'
  cases hx : exec M M.body [] σ with
  | none => simp only [hx] at h'; cases h'
  | some q =>
    obtain ⟨e, σ'⟩ := q
    simp only [hx] at h'
    refine exec_sound G _ [] Q σ e σ' hx ?_
    cases e with
    | normal => exact (hQ σ' h').1
    | ret => exact (hQ σ' h').2
    | panic x => exact hP x σ' h'
    | _ => simp only [fin] at h'; cases h'
theorem run_sound (G : Good M) {r : R} {Q : AExit → AState → Prop} (h : run M [.at []] σ = some r) (hQ : ∀ σ', M.out σ' = some r → Q .normal σ' ∧ Q .ret σ') (hP : ∀ x σ', M.outP x σ' = none) : awp M.P M.body Q σ :=
  run_soundP G h hQ fun x σ' hx => by rw [hP x σ'] at hx; cases hx

def calmO : Op → Bool
  | .call { callee := .value _, .. } => false
  | .panic _ => false
  | _ => true
def plainC : Code → Bool
  | .skip => true
  | .region _ ops _ => ops.toList.all fun o => calmO o.op
  | .seq x y => plainC x && plainC y
  | _ => false
theorem calm_callee {σ : AState} {o : Op} (h : calmO o = true) : calleeOf σ o = none := by
  unfold calleeOf
  split
  · cases h
  · rfl
theorem calm_pan {σ : AState} {o : Op} (h : calmO o = true) : panOf σ o = none := by
  unfold panOf
  split
  · cases h
  · rfl
theorem execOps_calm {M : Mach R} {ops : Array Oper} : ∀ (rest : List Oper) (σ : AState) (e : AExit) (σ' : AState), rest.all (fun o => calmO o.op) = true → execOps M ops rest σ = some (e, σ') → e = .normal
  | [], σ, e, σ', _, h => by simp only [execOps, Option.some.injEq, Prod.mk.injEq] at h; exact h.1.symm
  | o :: rest, σ, e, σ', hc, h => by
    rw [List.all_cons, Bool.and_eq_true] at hc
    have ih := fun σ => execOps_calm (M := M) (ops := ops) rest σ e σ' hc.2
    simp only [execOps] at h
    split at h
    · cases h
    · rename_i b _
      cases b with
      | false => simp only [cond_false] at h; exact ih _ h
      | true =>
        simp only [cond_true, calm_callee hc.1, calm_pan hc.1] at h
        split at h
        · split at h
          · exact ih _ h
          · cases h
        · split at h
          · rw [pcond_some] at h; exact ih _ h.2
          · split at h
            · exact ih _ h
            · cases h
theorem execD_calm {M : Mach R} {ops : Array Oper} : ∀ (rest : List Oper) (j : Nat) (tr : List Tr) (σ : AState) (e : AExit) (σ' : AState), rest.all (fun o => calmO o.op) = true → execD M ops rest j tr σ = some (e, σ') → e = .normal
  | [], _, _, σ, e, σ', _, h => by simp only [execD, Option.some.injEq, Prod.mk.injEq] at h; exact h.1.symm
  | o :: rest, j, tr, σ, e, σ', hc, h => by
    rw [List.all_cons, Bool.and_eq_true] at hc
    have ih := fun tr σ => execD_calm (M := M) (ops := ops) rest (j + 1) tr σ e σ' hc.2
    simp only [execD] at h
    split at h
    · cases h
    · rename_i b _
      cases b with
      | false => simp only [cond_false] at h; exact ih _ _ h
      | true =>
        simp only [cond_true, calm_callee hc.1] at h
        split at h
        · rw [pcond_some] at h; exact ih _ _ h.2
        · cases h
theorem plainC_ok {M : Mach R} : ∀ (c : Code) (p : List Nat) (σ : AState) (e : AExit) (σ' : AState), plainC c = true → exec M c p σ = some (e, σ') → e = .normal
  | .skip, _, _, e, _, _, h => by simp only [exec, Option.some.injEq, Prod.mk.injEq] at h; exact h.1.symm
  | .region _ ops false, _, _, e, _, hp, h => by
    simp only [exec] at h
    exact execOps_calm _ _ _ _ hp h
  | .region _ ops true, _, _, e, _, hp, h => by
    simp only [exec] at h
    rw [pcond_some] at h
    exact execD_calm _ _ _ _ _ _ hp h.2
  | .seq x y, p, σ, e, σ', hp, h => by
    simp only [plainC, Bool.and_eq_true] at hp
    simp only [exec] at h
    cases hx : exec M x (0 :: p) σ with
    | none => simp only [hx] at h; cases h
    | some r =>
      obtain ⟨e1, σ1⟩ := r
      have := plainC_ok x _ _ _ _ hp.1 hx
      subst this
      simp only [hx] at h
      cases hc : M.cut (1 :: p) σ1 with
      | none => simp only [hc, Option.bind_none] at h; cases h
      | some σ2 =>
        simp only [hc, Option.bind_some] at h
        exact plainC_ok y _ _ _ _ hp.2 h
  | .cond _ _ _, _, _, _, _, hp, _ => by cases hp
  | .block _ _, _, _, _, _, hp, _ => by cases hp
  | .loop _, _, _, _, _, hp, _ => by cases hp
  | .exit _, _, _, _, _, hp, _ => by cases hp
  | .scope _, _, _, _, _, hp, _ => by cases hp
  | .label _, _, _, _, _, hp, _ => by cases hp
  | .ret, _, _, _, _, hp, _ => by cases hp
  | .goto _, _, _, _, _, hp, _ => by cases hp
  | .rangeFunc _ _ _ _, _, _, _, _, hp, _ => by cases hp
  | .refuse _, _, _, _, _, hp, _ => by cases hp

theorem fnT_run {lk : LoopC} {slots args : List AV} {H : List AObj} {V : AOut → List AObj → Prop} {r : R} (G : Good M) (hbody : M.body = .seq lk.assign lk.body) (hp : plainC lk.assign = true) (hn : noRange lk.assign = true ∧ noRange lk.body = true)
    (hH : H[0]? = some (.loop lk slots .ready 0)) (hnb : nbL H.length args) (hnbH : ∀ x ∈ H, objNb H.length x) (hout : ∀ e σ, M.outR e σ = some r → rPost V e σ)
    (h : run M [.at [0], .rb, .at [1], .rd] { slots := setPs slots lk.ps.toList args, heap := H, low := H.length } = some r) : FnT M.P (Rounds M.P) args H V := by
  refine fnT_of_round hH hnb hnbH hn ?_
  have h0 : sub [0] M.body = lk.assign := by rw [hbody]; rfl
  have h1 : sub [1] M.body = lk.body := by rw [hbody]; rfl
  have h' : fin M [.at [0], .rb, .at [1], .rd] .normal { slots := setPs slots lk.ps.toList args, heap := H, low := H.length } = some r := h
  rw [fin_item (by simp)] at h'
  simp only [itemX, h0] at h'
  cases hx : exec M lk.assign [0] { slots := setPs slots lk.ps.toList args, heap := H, low := H.length } with
  | none => simp only [hx] at h'; cases h'
  | some q =>
    obtain ⟨e, σ'⟩ := q
    have := plainC_ok _ _ _ _ _ hp hx
    subst this
    simp only [hx] at h'
    refine exec_sound G _ [0] _ _ .normal σ' hx ?_
    rw [fin_item (by simp)] at h'
    simp only [itemX] at h'
    cases hb : beginX σ' with
    | none => simp only [hb, Option.map_none] at h'; cases h'
    | some σ2 =>
      simp only [hb, Option.map_some] at h'
      unfold beginX beginO at hb
      split at hb
      · rename_i k s hk
        simp only [Option.some.injEq] at hb
        subst hb
        refine ⟨k, s, hk, ?_⟩
        rw [fin_item (by simp)] at h'
        simp only [itemX, h1] at h'
        cases hx2 : exec M lk.body [1] { σ' with heap := σ'.heap.set 0 (.loop k s .busy 0) } with
        | none => simp only [hx2] at h'; cases h'
        | some q =>
          obtain ⟨e2, σ3⟩ := q
          simp only [hx2] at h'
          refine exec_sound G _ [1] _ _ e2 σ3 hx2 ?_
          exact hout e2 σ3 (by cases e2 <;> exact h')
      · cases hb

theorem fnC_run {f : FuncId} {fn : Func} {args : List AV} {V : AV → Prop} {r : R} {n : Nat} {rs : List ResultVar} (G : Good M) (hf : M.P.funcs[f]? = some fn) (hb : fn.body = some M.body) (hne : (fn.name != "runtime.NumGoroutine") = true) (hnb : nbL 0 args)
    (hn : fn.ntmps = n) (hrs : fn.results = rs.toArray) (hout : ∀ σ, M.out σ = some r → σ.df = [] ∧ endV V σ.heap (resAV M.P σ rs))
    (h : run M [.at []] { slots := args ++ List.replicate (n - args.length) .any, heap := [] } = some r) (hP : ∀ x σ', M.outP x σ' = none := by intros; rfl) : FnC M.P f args V := by
  refine fnC_of_body hf hb hne hnb ?_
  rw [hrs, hn]
  refine run_sound G h (fun σ' hs => ?_) hP
  have := hout σ' hs
  exact ⟨this, this⟩
end
end Go.Abs
namespace Go.Abs

section lists
variable {α β γ : Type}

def mapO (f : β → Option α) : List β → Option (List α)
  | [] => some []
  | x :: xs => (f x).bind fun y => (mapO f xs).bind fun ys => some (y :: ys)

theorem mapO_nil (f : β → Option α) : mapO f [] = some [] := rfl
theorem mapO_cons (f : β → Option α) (x : β) (xs : List β) : mapO f (x :: xs) = (f x).bind fun y => (mapO f xs).bind fun ys => some (y :: ys) := rfl
theorem mapO_append (f : β → Option α) : ∀ a b : List β, mapO f (a ++ b) = (mapO f a).bind fun x => (mapO f b).bind fun y => some (x ++ y)
  | [], b => by cases h : mapO f b <;> simp [mapO, h]
  | x :: a, b => by
    simp only [List.cons_append, mapO, mapO_append f a b]
    cases f x <;> simp
    cases mapO f a <;> simp
    cases mapO f b <;> simp
theorem mapO_map {f : β → Option α} {g : α → β} (h : ∀ x, f (g x) = some x) : ∀ xs : List α, mapO f (xs.map g) = some xs
  | [] => rfl
  | x :: xs => by simp [mapO, h x, mapO_map h xs]

def mp (f : α → β) (xs : List α) : List β := xs.map f
theorem mp_eq (f : α → β) (xs : List α) : mp f xs = xs.map f := rfl
attribute [irreducible] mp
theorem mp_length (f : α → β) (xs : List α) : (mp f xs).length = xs.length := by rw [mp_eq, List.length_map]
theorem mp_take (f : α → β) (xs : List α) (n : Nat) : (mp f xs).take n = mp f (xs.take n) := by rw [mp_eq, mp_eq, List.map_take]
theorem mp_drop (f : α → β) (xs : List α) (n : Nat) : (mp f xs).drop n = mp f (xs.drop n) := by rw [mp_eq, mp_eq, List.map_drop]
theorem mp_isEmpty (f : α → β) (xs : List α) : (mp f xs).isEmpty = xs.isEmpty := by rw [mp_eq]; cases xs <;> rfl
theorem mapO_mp {f : β → Option α} {g : α → β} (h : ∀ x, f (g x) = some x) (xs : List α) : mapO f (mp g xs) = some xs := by rw [mp_eq]; exact mapO_map h xs

theorem bind_map' {f : α → β} {g : β → Option γ} {o : Option α} : (Option.map f o).bind g = o.bind fun x => g (f x) := by cases o <;> rfl
theorem bind_bind' {f : α → Option β} {g : β → Option γ} {o : Option α} : (o.bind f).bind g = o.bind fun x => (f x).bind g := by cases o <;> rfl
theorem bind_cond {f : α → Option β} {b : Bool} {x y : Option α} : (bif b then x else y).bind f = bif b then x.bind f else y.bind f := by cases b <;> rfl
theorem bind_none' {f : α → Option β} : (none : Option α).bind f = none := rfl
theorem bind_some' {f : α → Option β} {x : α} : (some x).bind f = f x := rfl

def idxA (xs : List α) (n : Int) : Option α := if 0 ≤ n then xs[n.toNat]? else none
theorem idxA_mp {f : α → β} {xs : List α} {n : Int} : idxA (mp f xs) n = Option.map f (idxA xs n) := by
  rw [mp_eq]; unfold idxA; split <;> simp
theorem idxA_zero {x : α} {xs : List α} : idxA (x :: xs) 0 = some x := rfl
theorem idxA_one {x y : α} {xs : List α} : idxA (x :: y :: xs) 1 = some y := rfl
theorem idxA_two {x y z : α} {xs : List α} : idxA (x :: y :: z :: xs) 2 = some z := rfl
end lists

def SubE : List AV → List AV → Prop
  | [], ys => ys = []
  | x :: xs, ys => ∃ y zs, ys = y :: zs ∧ Sub x y ∧ SubE xs zs
theorem SubE.nil : SubE [] [] := rfl
theorem SubE.cons {x y : AV} {xs ys : List AV} (h : Sub x y) (hs : SubE xs ys) : SubE (x :: xs) (y :: ys) := ⟨y, ys, rfl, h, hs⟩
theorem SubE.subL : ∀ {xs ys : List AV}, SubE xs ys → SubL xs ys
  | [], _, rfl => SubL.nil
  | _ :: _, _, ⟨_, _, rfl, h, hs⟩ => SubL.cons h (SubE.subL hs)
theorem SubE.subM : ∀ {xs ys : List AV}, SubE xs ys → SubM xs ys
  | [], _, rfl => SubM.nil
  | _ :: _, _, ⟨_, _, rfl, h, hs⟩ => SubM.cons h (SubE.subM hs)
theorem SubE.length : ∀ {xs ys : List AV}, SubE xs ys → xs.length = ys.length
  | [], _, rfl => rfl
  | _ :: _, _, ⟨_, _, rfl, _, hs⟩ => by simp [SubE.length hs]
theorem SubE.append : ∀ {xs ys us vs : List AV}, SubE xs ys → SubE us vs → SubE (xs ++ us) (ys ++ vs)
  | [], _, _, _, rfl, h => h
  | _ :: _, _, _, _, ⟨y, zs, rfl, h, hs⟩, h2 => ⟨y, zs ++ _, rfl, h, SubE.append hs h2⟩
theorem CoL1.nil {H : List AObj} {n : Nat} : CoL1 H n [] [] := rfl
theorem CoL1.cons {H : List AObj} {n : Nat} {x y : AV} {xs ys : List AV} (h : Co1 H n x y) (hs : CoL1 H n xs ys) : CoL1 H n (x :: xs) (y :: ys) := ⟨y, ys, rfl, h, hs⟩
theorem CoL1.append {H : List AObj} {n : Nat} : ∀ {xs ys us vs : List AV}, CoL1 H n xs ys → CoL1 H n us vs → CoL1 H n (xs ++ us) (ys ++ vs)
  | [], _, _, _, rfl, h => h
  | _ :: _, _, _, _, ⟨y, zs, rfl, h, hs⟩, h2 => ⟨y, zs ++ _, rfl, h, CoL1.append hs h2⟩
theorem Co1.toSub {n : Nat} {x y : AV} (h : Co1 [] n x y) : Sub x y := by
  rcases h with h | ⟨l, m, sz, rows, _, hl, _⟩
  · exact h.1
  · simp at hl
theorem CoL1.toSub {n : Nat} : ∀ {xs ys : List AV}, CoL1 [] n xs ys → SubE xs ys
  | [], _, rfl => rfl
  | _ :: _, _, ⟨y, zs, rfl, h, hs⟩ => ⟨y, zs, rfl, h.toSub, CoL1.toSub hs⟩
theorem Co.toSub {n : Nat} {x y : AV} (h : Co [] n x y) : Sub x y := by
  rcases h with h | ⟨cs, ds, rfl, rfl, h⟩
  · exact h.toSub
  · exact Sub.agg h.toSub.subL
theorem CoL1.toCoL {H : List AObj} {n : Nat} : ∀ {xs ys : List AV}, CoL1 H n xs ys → CoL H n xs ys
  | [], _, rfl => rfl
  | _ :: _, _, ⟨y, zs, rfl, h, hs⟩ => ⟨y, zs, rfl, .inl h, CoL1.toCoL hs⟩

structure Row (α : Type) where
  enc : α → List AV
  dec : List AV → Option α
  sz : Nat
  ok : ∀ r x, dec r = some x → SubE r (enc x)
  nb : ∀ n x, nbL n (enc x)

structure Ty (α : Type) where
  enc : α → AV
  dec : List AObj → AV → Option α
  ok : ∀ H n v x, dec H v = some x → Co H n v (enc x)
  nb : ∀ n x, (enc x).nb n

section rows
variable {α : Type}

def szOK (sz k : Nat) (rows : List (List AV)) : Bool := sz == k || rows.isEmpty

def dL (r : Row α) (H : List AObj) : AV → Option (List α)
  | .lst _ sz rows => bif szOK sz r.sz rows then mapO r.dec rows else none
  | .acc l n => match H[l]? with
    | some (.acc true sz rows) => bif (rows.length == n) && szOK sz r.sz rows then mapO r.dec rows else none
    | _ => none
  | _ => none

theorem mapO_rows {r : Row α} : ∀ {rows : List (List AV)} {xs : List α}, mapO r.dec rows = some xs → SubR rows (mp r.enc xs) ∧ RowsSub rows (mp r.enc xs)
  | [], xs, h => by
    simp only [mapO, Option.some.injEq] at h
    subst h
    rw [mp_eq]
    exact ⟨SubR.nil, rfl⟩
  | c :: rows, xs, h => by
    simp only [mapO, Option.bind_eq_some_iff, Option.some.injEq] at h
    obtain ⟨y, hy, ys, hys, rfl⟩ := h
    obtain ⟨h1, h2⟩ := mapO_rows hys
    have h3 := r.ok _ _ hy
    rw [mp_eq] at h1 h2 ⊢
    exact ⟨SubR.cons h3.subM h1, _, _, rfl, ⟨h3.length, h3.subL⟩, h2⟩

theorem nbR_rows {r : Row α} {n : Nat} : ∀ xs : List α, nbR n (mp r.enc xs)
  | [] => by rw [mp_eq]; trivial
  | x :: xs => by have := nbR_rows (r := r) (n := n) xs; rw [mp_eq] at this ⊢; exact ⟨r.nb n x, this⟩

theorem sub_lst_sz {t : Bool} {sz k : Nat} {rows rows' : List (List AV)} (h : szOK sz k rows = true) (hs : SubR rows rows') : Sub (.lst t sz rows) (.lst false k rows') := by
  unfold szOK at h
  simp only [Bool.or_eq_true, beq_iff_eq, List.isEmpty_iff] at h
  rcases h with rfl | rfl
  · exact Sub.lst hs
  · have : rows' = [] := List.eq_nil_of_length_eq_zero hs.1.symm
    subst this
    exact Sub.empty _ _ _

theorem dL_ok {r : Row α} {H : List AObj} {n : Nat} {v : AV} {xs : List α} (h : dL r H v = some xs) : Co1 H n v (.lst false r.sz (mp r.enc xs)) := by
  unfold dL at h
  split at h
  · rename_i t sz rows
    cases hs : szOK sz r.sz rows with
    | false => simp [hs] at h
    | true =>
      simp only [hs, cond_true] at h
      exact .inl ⟨sub_lst_sz hs (mapO_rows h).1, nbR_rows xs⟩
  · rename_i l m
    split at h
    · rename_i sz rows hl
      cases hs : szOK sz r.sz rows with
      | false => simp [hs] at h
      | true =>
        cases hm : (rows.length == m) with
        | false => simp [hm] at h
        | true =>
          simp only [hs, hm, Bool.and_self, cond_true] at h
          exact .inr ⟨l, m, sz, rows, rfl, hl, by simpa using hm, sub_lst_sz hs (mapO_rows h).1, nbR_rows xs⟩
    · cases h
  · cases h

def tyL (r : Row α) : Ty (List α) where
  enc xs := .lst false r.sz (mp r.enc xs)
  dec := dL r
  ok _ _ _ _ h := .inl (dL_ok h)
  nb _ xs := nbR_rows xs
theorem tyL_enc {r : Row α} {xs : List α} : (tyL r).enc xs = .lst false r.sz (mp r.enc xs) := rfl
theorem tyL_dec {r : Row α} {H : List AObj} {v : AV} : (tyL r).dec H v = dL r H v := rfl
end rows

def sb (s : List UInt8) : ByteArray := ⟨s.toArray⟩
abbrev Str := List UInt8

def dI (k : IntKind) : AV → Option Int
  | .int k' n => if k' = k then some n else none
  | _ => none
def dB : AV → Option Bool
  | .bool b => some b
  | _ => none
def dS : AV → Option Str
  | .str b => some b.data.toList
  | _ => none
theorem dI_ok {k : IntKind} {H : List AObj} {n : Nat} {v : AV} {x : Int} (h : dI k v = some x) : Co1 H n v (.int k x) := by
  unfold dI at h
  split at h
  · split at h
    · cases h; rename_i e; subst e; exact Co1.sub (Sub.refl _) trivial
    · cases h
  · cases h
theorem dB_ok {H : List AObj} {n : Nat} {v : AV} {x : Bool} (h : dB v = some x) : Co1 H n v (.bool x) := by
  unfold dB at h
  split at h
  · cases h; exact Co1.sub (Sub.refl _) trivial
  · cases h
theorem sb_data (b : ByteArray) : sb b.data.toList = b := by
  cases b; rfl
theorem dS_ok {H : List AObj} {n : Nat} {v : AV} {x : Str} (h : dS v = some x) : Co1 H n v (.str (sb x)) := by
  unfold dS at h
  split at h
  · cases h; rw [sb_data]; exact Co1.sub (Sub.refl _) trivial
  · cases h
theorem dS_sb (s : Str) : dS (.str (sb s)) = some s := rfl
theorem dI_int (k : IntKind) (n : Int) : dI k (.int k n) = some n := by simp [dI]
theorem dB_bool (b : Bool) : dB (.bool b) = some b := rfl
theorem dS_empty : dS (.str ByteArray.empty) = some [] := rfl
theorem dS_emptyL : dS (.str ⟨#[]⟩) = some [] := rfl

def tyI (k : IntKind) : Ty Int := ⟨.int k, fun _ => dI k, fun _ _ _ _ h => .inl (dI_ok h), fun _ _ => trivial⟩
def tyB : Ty Bool := ⟨.bool, fun _ => dB, fun _ _ _ _ h => .inl (dB_ok h), fun _ _ => trivial⟩
def tyS : Ty Str := ⟨fun s => .str (sb s), fun _ => dS, fun _ _ _ _ h => .inl (dS_ok h), fun _ _ => trivial⟩
theorem tyI_enc {k : IntKind} {x : Int} : (tyI k).enc x = .int k x := rfl
theorem tyI_dec {k : IntKind} {H : List AObj} {v : AV} : (tyI k).dec H v = dI k v := rfl
theorem tyB_enc {x : Bool} : tyB.enc x = .bool x := rfl
theorem tyB_dec {H : List AObj} {v : AV} : tyB.dec H v = dB v := rfl
theorem tyS_enc {x : Str} : tyS.enc x = .str (sb x) := rfl
theorem tyS_dec {H : List AObj} {v : AV} : tyS.dec H v = dS v := rfl

def dF (f : FuncId) : AV → Option Unit
  | .func (.func g) [] [] => if g = f then some () else none
  | _ => none
theorem dF_lit (f : FuncId) : dF f (.func (.func f) [] []) = some () := by simp [dF]
def tyF (f : FuncId) : Ty Unit where
  enc _ := .func (.func f) [] []
  dec _ := dF f
  ok H n v x h := by
    unfold dF at h
    split at h
    · split at h
      · rename_i e; subst e; exact Co.same ⟨trivial, trivial⟩
      · cases h
    · cases h
  nb _ _ := ⟨trivial, trivial⟩
theorem tyF_enc {f : FuncId} {x : Unit} : (tyF f).enc x = .func (.func f) [] [] := rfl
theorem tyF_dec {f : FuncId} {H : List AObj} {v : AV} : (tyF f).dec H v = dF f v := rfl

def icell (n : Int) : List AV := [.int .i64 n]
def scell (s : Str) : List AV := [.str (sb s)]
def bcell (b : Bool) : List AV := [.bool b]
def ucell (n : Int) : List AV := [.int .u8 n]
def dI1 (k : IntKind) : List AV → Option Int
  | [c] => dI k c
  | _ => none
def dB1 : List AV → Option Bool
  | [c] => dB c
  | _ => none
def dS1 : List AV → Option Str
  | [c] => dS c
  | _ => none
def rowI : Row Int where
  enc := icell
  dec := dI1 .i64
  sz := 1
  ok r x h := by
    unfold dI1 at h
    split at h
    · exact SubE.cons (dI_ok (H := []) (n := 0) h).toSub SubE.nil
    · cases h
  nb _ _ := ⟨trivial, trivial⟩
def rowU : Row Int where
  enc := ucell
  dec := dI1 .u8
  sz := 1
  ok r x h := by
    unfold dI1 at h
    split at h
    · exact SubE.cons (dI_ok (H := []) (n := 0) h).toSub SubE.nil
    · cases h
  nb _ _ := ⟨trivial, trivial⟩
def rowB : Row Bool where
  enc := bcell
  dec := dB1
  sz := 1
  ok r x h := by
    unfold dB1 at h
    split at h
    · exact SubE.cons (dB_ok (H := []) (n := 0) h).toSub SubE.nil
    · cases h
  nb _ _ := ⟨trivial, trivial⟩
def rowS : Row Str where
  enc := scell
  dec := dS1
  sz := 1
  ok r x h := by
    unfold dS1 at h
    split at h
    · exact SubE.cons (dS_ok (H := []) (n := 0) h).toSub SubE.nil
    · cases h
  nb _ _ := ⟨trivial, trivial⟩
theorem rowI_f : rowI.enc = icell ∧ rowI.dec = dI1 .i64 ∧ rowI.sz = 1 := ⟨rfl, rfl, rfl⟩
theorem rowU_f : rowU.enc = ucell ∧ rowU.dec = dI1 .u8 ∧ rowU.sz = 1 := ⟨rfl, rfl, rfl⟩
theorem rowB_f : rowB.enc = bcell ∧ rowB.dec = dB1 ∧ rowB.sz = 1 := ⟨rfl, rfl, rfl⟩
theorem rowS_f : rowS.enc = scell ∧ rowS.dec = dS1 ∧ rowS.sz = 1 := ⟨rfl, rfl, rfl⟩
theorem mapO_cells1 : (∀ xs : List Int, mapO (dI1 .i64) (mp icell xs) = some xs) ∧ (∀ xs : List Int, mapO (dI1 .u8) (mp ucell xs) = some xs) ∧ (∀ xs : List Bool, mapO dB1 (mp bcell xs) = some xs) ∧ ∀ xs : List Str, mapO dS1 (mp scell xs) = some xs :=
  ⟨mapO_mp fun x => by simp [dI1, icell, dI], mapO_mp fun x => by simp [dI1, ucell, dI], mapO_mp fun x => rfl, mapO_mp fun x => rfl⟩

structure Cel (α : Type) where
  enc : α → List AV
  dec : List AObj → List AV → Option α
  ok : ∀ H n cs x, dec H cs = some x → CoL1 H n cs (enc x)
  nb : ∀ n x, nbL n (enc x)

section cel
variable {α : Type}
def dC (c : Cel α) (H : List AObj) : AV → Option α
  | .agg cs => c.dec H cs
  | _ => none
def tyC (c : Cel α) : Ty α where
  enc x := .agg (c.enc x)
  dec := dC c
  ok H n v x h := by
    unfold dC at h
    split at h
    · exact .inr ⟨_, _, rfl, rfl, c.ok H n _ _ h⟩
    · cases h
  nb n x := c.nb n x
theorem tyC_enc {c : Cel α} {x : α} : (tyC c).enc x = .agg (c.enc x) := rfl
theorem tyC_dec {c : Cel α} {H : List AObj} {v : AV} : (tyC c).dec H v = dC c H v := rfl
end cel

def tyU : Ty Unit where
  enc _ := .tup []
  dec _
    | .tup [] => some ()
    | _ => none
  ok H n v x h := by
    split at h
    · exact Co.same trivial
    · cases h
  nb _ _ := trivial
theorem tyU_enc {x : Unit} : tyU.enc x = .tup [] := rfl
theorem tyU_dec {H : List AObj} : tyU.dec H (.tup []) = some () := rfl

section tuples
variable {α β γ δ ε : Type}
def d2 (a : Ty α) (b : Ty β) : AV → Option (α × β)
  | .tup [x, y] => (a.dec [] x).bind fun u => (b.dec [] y).bind fun v => some (u, v)
  | _ => none
def d3 (a : Ty α) (b : Ty β) (c : Ty γ) : AV → Option (α × β × γ)
  | .tup [x, y, z] => (a.dec [] x).bind fun u => (b.dec [] y).bind fun v => (c.dec [] z).bind fun w => some (u, v, w)
  | _ => none
def d4 (a : Ty α) (b : Ty β) (c : Ty γ) (d : Ty δ) : AV → Option (α × β × γ × δ)
  | .tup [x, y, z, p] => (a.dec [] x).bind fun u => (b.dec [] y).bind fun v => (c.dec [] z).bind fun w => (d.dec [] p).bind fun q => some (u, v, w, q)
  | _ => none
def d5 (a : Ty α) (b : Ty β) (c : Ty γ) (d : Ty δ) (e : Ty ε) : AV → Option (α × β × γ × δ × ε)
  | .tup [x, y, z, p, s] => (a.dec [] x).bind fun u => (b.dec [] y).bind fun v => (c.dec [] z).bind fun w => (d.dec [] p).bind fun q => (e.dec [] s).bind fun t => some (u, v, w, q, t)
  | _ => none
def ty2 (a : Ty α) (b : Ty β) : Ty (α × β) where
  enc x := .tup [a.enc x.1, b.enc x.2]
  dec _ := d2 a b
  ok H n v x h := by
    unfold d2 at h
    split at h
    · simp only [Option.bind_eq_some_iff, Option.some.injEq] at h
      obtain ⟨u, hu, w, hw, rfl⟩ := h
      exact Co.sub (Sub.tup (SubL.cons (a.ok [] 0 _ _ hu).toSub (SubL.cons (b.ok [] 0 _ _ hw).toSub SubL.nil))) ⟨a.nb n u, b.nb n w, trivial⟩
    · cases h
  nb n x := ⟨a.nb n _, b.nb n _, trivial⟩
def ty3 (a : Ty α) (b : Ty β) (c : Ty γ) : Ty (α × β × γ) where
  enc x := .tup [a.enc x.1, b.enc x.2.1, c.enc x.2.2]
  dec _ := d3 a b c
  ok H n v x h := by
    unfold d3 at h
    split at h
    · simp only [Option.bind_eq_some_iff, Option.some.injEq] at h
      obtain ⟨u, hu, w, hw, p, hp, rfl⟩ := h
      exact Co.sub (Sub.tup (SubL.cons (a.ok [] 0 _ _ hu).toSub (SubL.cons (b.ok [] 0 _ _ hw).toSub (SubL.cons (c.ok [] 0 _ _ hp).toSub SubL.nil)))) ⟨a.nb n u, b.nb n w, c.nb n p, trivial⟩
    · cases h
  nb n x := ⟨a.nb n _, b.nb n _, c.nb n _, trivial⟩
def ty4 (a : Ty α) (b : Ty β) (c : Ty γ) (d : Ty δ) : Ty (α × β × γ × δ) where
  enc x := .tup [a.enc x.1, b.enc x.2.1, c.enc x.2.2.1, d.enc x.2.2.2]
  dec _ := d4 a b c d
  ok H n v x h := by
    unfold d4 at h
    split at h
    · simp only [Option.bind_eq_some_iff, Option.some.injEq] at h
      obtain ⟨u, hu, w, hw, p, hp, q, hq, rfl⟩ := h
      exact Co.sub (Sub.tup (SubL.cons (a.ok [] 0 _ _ hu).toSub (SubL.cons (b.ok [] 0 _ _ hw).toSub (SubL.cons (c.ok [] 0 _ _ hp).toSub (SubL.cons (d.ok [] 0 _ _ hq).toSub SubL.nil))))) ⟨a.nb n u, b.nb n w, c.nb n p, d.nb n q, trivial⟩
    · cases h
  nb n x := ⟨a.nb n _, b.nb n _, c.nb n _, d.nb n _, trivial⟩
def ty5 (a : Ty α) (b : Ty β) (c : Ty γ) (d : Ty δ) (e : Ty ε) : Ty (α × β × γ × δ × ε) where
  enc x := .tup [a.enc x.1, b.enc x.2.1, c.enc x.2.2.1, d.enc x.2.2.2.1, e.enc x.2.2.2.2]
  dec _ := d5 a b c d e
  ok H n v x h := by
    unfold d5 at h
    split at h
    · simp only [Option.bind_eq_some_iff, Option.some.injEq] at h
      obtain ⟨u, hu, w, hw, p, hp, q, hq, s, hs, rfl⟩ := h
      exact Co.sub (Sub.tup (SubL.cons (a.ok [] 0 _ _ hu).toSub (SubL.cons (b.ok [] 0 _ _ hw).toSub (SubL.cons (c.ok [] 0 _ _ hp).toSub (SubL.cons (d.ok [] 0 _ _ hq).toSub (SubL.cons (e.ok [] 0 _ _ hs).toSub SubL.nil)))))) ⟨a.nb n u, b.nb n w, c.nb n p, d.nb n q, e.nb n s, trivial⟩
    · cases h
  nb n x := ⟨a.nb n _, b.nb n _, c.nb n _, d.nb n _, e.nb n _, trivial⟩
theorem ty2_enc {a : Ty α} {b : Ty β} {x : α × β} : (ty2 a b).enc x = .tup [a.enc x.1, b.enc x.2] := rfl
theorem ty2_dec {a : Ty α} {b : Ty β} {H : List AObj} {v : AV} : (ty2 a b).dec H v = d2 a b v := rfl
theorem ty3_enc {a : Ty α} {b : Ty β} {c : Ty γ} {x : α × β × γ} : (ty3 a b c).enc x = .tup [a.enc x.1, b.enc x.2.1, c.enc x.2.2] := rfl
theorem ty3_dec {a : Ty α} {b : Ty β} {c : Ty γ} {H : List AObj} {v : AV} : (ty3 a b c).dec H v = d3 a b c v := rfl
theorem ty4_enc {a : Ty α} {b : Ty β} {c : Ty γ} {d : Ty δ} {x : α × β × γ × δ} : (ty4 a b c d).enc x = .tup [a.enc x.1, b.enc x.2.1, c.enc x.2.2.1, d.enc x.2.2.2] := rfl
theorem ty4_dec {a : Ty α} {b : Ty β} {c : Ty γ} {d : Ty δ} {H : List AObj} {v : AV} : (ty4 a b c d).dec H v = d4 a b c d v := rfl
theorem ty5_enc {a : Ty α} {b : Ty β} {c : Ty γ} {d : Ty δ} {e : Ty ε} {x : α × β × γ × δ × ε} : (ty5 a b c d e).enc x = .tup [a.enc x.1, b.enc x.2.1, c.enc x.2.2.1, d.enc x.2.2.2.1, e.enc x.2.2.2.2] := rfl
theorem ty5_dec {a : Ty α} {b : Ty β} {c : Ty γ} {d : Ty δ} {e : Ty ε} {H : List AObj} {v : AV} : (ty5 a b c d e).dec H v = d5 a b c d e v := rfl
end tuples

noncomputable def outR {ρ : Type} (P : Program) (rs : List ResultVar) (t : Ty ρ) (σ : AState) : Option ρ :=
  bif σ.df.isEmpty then (resAV P σ rs).bind fun x => pcond ((frz 0 σ.heap x).nb 0) (t.dec [] (frz 0 σ.heap x)) else none

theorem outR_ok {ρ : Type} {P : Program} {rs : List ResultVar} {t : Ty ρ} {σ : AState} {r : ρ} (h : outR P rs t σ = some r) : σ.df = [] ∧ endV (fun v => v = t.enc r) σ.heap (resAV P σ rs) := by
  unfold outR at h
  cases hd : σ.df with
  | cons p q => rw [hd] at h; cases h
  | nil =>
  rw [hd] at h
  simp only [List.isEmpty_nil, cond_true] at h
  refine ⟨rfl, ?_⟩
  cases hx : resAV P σ rs with
  | none => rw [hx] at h; cases h
  | some x =>
    rw [hx] at h
    simp only [Option.bind_some] at h
    rw [pcond_some] at h
    exact ⟨h.1, _, (t.ok [] 0 _ _ h.2).toSub, rfl⟩

-- what callees answer
abbrev Ent := List AV → List AObj → Option (AV × List AObj)
abbrev EntD := List AV → Option AV

section entries
variable {α β γ δ ε ζ ρ : Type}
def ent0 (t : Ty ρ) (F : Option ρ) : Ent
  | [], H => F.bind fun r => some (t.enc r, H)
  | _, _ => none
def ent1 (a : Ty α) (t : Ty ρ) (F : α → Option ρ) : Ent
  | [x], H => (a.dec H x).bind fun x => (F x).bind fun r => some (t.enc r, H)
  | _, _ => none
def ent2 (a : Ty α) (b : Ty β) (t : Ty ρ) (F : α → β → Option ρ) : Ent
  | [x, y], H => (a.dec H x).bind fun x => (b.dec H y).bind fun y => (F x y).bind fun r => some (t.enc r, H)
  | _, _ => none
def ent3 (a : Ty α) (b : Ty β) (c : Ty γ) (t : Ty ρ) (F : α → β → γ → Option ρ) : Ent
  | [x, y, z], H => (a.dec H x).bind fun x => (b.dec H y).bind fun y => (c.dec H z).bind fun z => (F x y z).bind fun r => some (t.enc r, H)
  | _, _ => none
def ent4 (a : Ty α) (b : Ty β) (c : Ty γ) (d : Ty δ) (t : Ty ρ) (F : α → β → γ → δ → Option ρ) : Ent
  | [x, y, z, u], H => (a.dec H x).bind fun x => (b.dec H y).bind fun y => (c.dec H z).bind fun z => (d.dec H u).bind fun u => (F x y z u).bind fun r => some (t.enc r, H)
  | _, _ => none
def ent5 (a : Ty α) (b : Ty β) (c : Ty γ) (d : Ty δ) (e : Ty ε) (t : Ty ρ) (F : α → β → γ → δ → ε → Option ρ) : Ent
  | [x, y, z, u, v], H => (a.dec H x).bind fun x => (b.dec H y).bind fun y => (c.dec H z).bind fun z => (d.dec H u).bind fun u => (e.dec H v).bind fun v => (F x y z u v).bind fun r => some (t.enc r, H)
  | _, _ => none
def ent6 (a : Ty α) (b : Ty β) (c : Ty γ) (d : Ty δ) (e : Ty ε) (f : Ty ζ) (t : Ty ρ) (F : α → β → γ → δ → ε → ζ → Option ρ) : Ent
  | [x, y, z, u, v, w], H => (a.dec H x).bind fun x => (b.dec H y).bind fun y => (c.dec H z).bind fun z => (d.dec H u).bind fun u => (e.dec H v).bind fun v => (f.dec H w).bind fun w => (F x y z u v w).bind fun r => some (t.enc r, H)
  | _, _ => none
noncomputable def entD (e : Ent) : EntD := fun args => pcond (nbL 0 args) ((e args []).bind fun r => some r.1)

def EntOK (P : Program) (f : FuncId) (e : Ent) : Prop := ∀ args σ r H', e args σ.heap = some (r, H') → CallA P f args σ (fun o H'' => o = .ret r ∧ H'' = H')
def EntDOK (P : Program) (f : FuncId) (e : EntD) : Prop := ∀ args r, e args = some r → FnC P f args (fun v => v = r)

variable {P : Program} {f : FuncId} {a : Ty α} {b : Ty β} {c : Ty γ} {d : Ty δ} {e : Ty ε} {g : Ty ζ} {t : Ty ρ}

theorem ent0_ok {F : Option ρ} (h : ∀ r, F = some r → FnC P f [] (fun v => v = t.enc r)) : EntOK P f (ent0 t F) := by
  intro args σ r H' he
  unfold ent0 at he
  split at he
  · simp only [Option.bind_eq_some_iff, Option.some.injEq, Prod.mk.injEq] at he
    obtain ⟨r', hr, rfl, rfl⟩ := he
    exact callA_co (n := 0) (h r' hr) CoL.nil
  · cases he
theorem ent1_ok {F : α → Option ρ} (h : ∀ x r, F x = some r → FnC P f [a.enc x] (fun v => v = t.enc r)) : EntOK P f (ent1 a t F) := by
  intro args σ r H' he
  unfold ent1 at he
  split at he
  · simp only [Option.bind_eq_some_iff, Option.some.injEq, Prod.mk.injEq] at he
    obtain ⟨x, hx, r', hr, rfl, rfl⟩ := he
    exact callA_co (n := 0) (h x r' hr) (CoL.cons (a.ok _ 0 _ _ hx) CoL.nil)
  · cases he
theorem ent2_ok {F : α → β → Option ρ} (h : ∀ x y r, F x y = some r → FnC P f [a.enc x, b.enc y] (fun v => v = t.enc r)) : EntOK P f (ent2 a b t F) := by
  intro args σ r H' he
  unfold ent2 at he
  split at he
  · simp only [Option.bind_eq_some_iff, Option.some.injEq, Prod.mk.injEq] at he
    obtain ⟨x, hx, y, hy, r', hr, rfl, rfl⟩ := he
    exact callA_co (n := 0) (h x y r' hr) (CoL.cons (a.ok _ 0 _ _ hx) (CoL.cons (b.ok _ 0 _ _ hy) CoL.nil))
  · cases he
theorem ent3_ok {F : α → β → γ → Option ρ} (h : ∀ x y z r, F x y z = some r → FnC P f [a.enc x, b.enc y, c.enc z] (fun v => v = t.enc r)) : EntOK P f (ent3 a b c t F) := by
  intro args σ r H' he
  unfold ent3 at he
  split at he
  · simp only [Option.bind_eq_some_iff, Option.some.injEq, Prod.mk.injEq] at he
    obtain ⟨x, hx, y, hy, z, hz, r', hr, rfl, rfl⟩ := he
    exact callA_co (n := 0) (h x y z r' hr) (CoL.cons (a.ok _ 0 _ _ hx) (CoL.cons (b.ok _ 0 _ _ hy) (CoL.cons (c.ok _ 0 _ _ hz) CoL.nil)))
  · cases he
theorem ent5_ok {F : α → β → γ → δ → ε → Option ρ} (h : ∀ x y z u v r, F x y z u v = some r → FnC P f [a.enc x, b.enc y, c.enc z, d.enc u, e.enc v] (fun w => w = t.enc r)) : EntOK P f (ent5 a b c d e t F) := by
  intro args σ r H' he
  unfold ent5 at he
  split at he
  · simp only [Option.bind_eq_some_iff, Option.some.injEq, Prod.mk.injEq] at he
    obtain ⟨x, hx, y, hy, z, hz, u, hu, v, hv, r', hr, rfl, rfl⟩ := he
    exact callA_co (n := 0) (h x y z u v r' hr) (CoL.cons (a.ok _ 0 _ _ hx) (CoL.cons (b.ok _ 0 _ _ hy) (CoL.cons (c.ok _ 0 _ _ hz) (CoL.cons (d.ok _ 0 _ _ hu) (CoL.cons (e.ok _ 0 _ _ hv) CoL.nil)))))
  · cases he
theorem ent6_ok {F : α → β → γ → δ → ε → ζ → Option ρ} (h : ∀ x y z u v w r, F x y z u v w = some r → FnC P f [a.enc x, b.enc y, c.enc z, d.enc u, e.enc v, g.enc w] (fun w => w = t.enc r)) : EntOK P f (ent6 a b c d e g t F) := by
  intro args σ r H' he
  unfold ent6 at he
  split at he
  · simp only [Option.bind_eq_some_iff, Option.some.injEq, Prod.mk.injEq] at he
    obtain ⟨x, hx, y, hy, z, hz, u, hu, v, hv, w, hw, r', hr, rfl, rfl⟩ := he
    exact callA_co (n := 0) (h x y z u v w r' hr) (CoL.cons (a.ok _ 0 _ _ hx) (CoL.cons (b.ok _ 0 _ _ hy) (CoL.cons (c.ok _ 0 _ _ hz) (CoL.cons (d.ok _ 0 _ _ hu) (CoL.cons (e.ok _ 0 _ _ hv) (CoL.cons (g.ok _ 0 _ _ hw) CoL.nil))))))
  · cases he
theorem ent1_okD {F : α → Option ρ} (h : ∀ x r, F x = some r → FnC P f [a.enc x] (fun w => w = t.enc r)) : EntDOK P f (entD (ent1 a t F)) := by
  intro args r he
  unfold entD at he
  rw [pcond_some] at he
  obtain ⟨hnb, he⟩ := he
  unfold ent1 at he
  split at he
  · simp only [Option.bind_eq_some_iff, Option.some.injEq, Prod.exists, Prod.mk.injEq] at he
    obtain ⟨_, _, ⟨x, hx, r', hr, rfl, rfl⟩, rfl⟩ := he
    exact fnC_sub (h x r' hr) (SubL.cons (a.ok _ 0 _ _ hx).toSub SubL.nil) hnb
  · cases he
theorem ent2_okD {F : α → β → Option ρ} (h : ∀ x y r, F x y = some r → FnC P f [a.enc x, b.enc y] (fun w => w = t.enc r)) : EntDOK P f (entD (ent2 a b t F)) := by
  intro args r he
  unfold entD at he
  rw [pcond_some] at he
  obtain ⟨hnb, he⟩ := he
  unfold ent2 at he
  split at he
  · simp only [Option.bind_eq_some_iff, Option.some.injEq, Prod.exists, Prod.mk.injEq] at he
    obtain ⟨_, _, ⟨x, hx, y, hy, r', hr, rfl, rfl⟩, rfl⟩ := he
    exact fnC_sub (h x y r' hr) (SubL.cons (a.ok _ 0 _ _ hx).toSub (SubL.cons (b.ok _ 0 _ _ hy).toSub SubL.nil)) hnb
  · cases he
theorem ent3_okD {F : α → β → γ → Option ρ} (h : ∀ x y z r, F x y z = some r → FnC P f [a.enc x, b.enc y, c.enc z] (fun w => w = t.enc r)) : EntDOK P f (entD (ent3 a b c t F)) := by
  intro args r he
  unfold entD at he
  rw [pcond_some] at he
  obtain ⟨hnb, he⟩ := he
  unfold ent3 at he
  split at he
  · simp only [Option.bind_eq_some_iff, Option.some.injEq, Prod.exists, Prod.mk.injEq] at he
    obtain ⟨_, _, ⟨x, hx, y, hy, z, hz, r', hr, rfl, rfl⟩, rfl⟩ := he
    exact fnC_sub (h x y z r' hr) (SubL.cons (a.ok _ 0 _ _ hx).toSub (SubL.cons (b.ok _ 0 _ _ hy).toSub (SubL.cons (c.ok _ 0 _ _ hz).toSub SubL.nil))) hnb
  · cases he
theorem ent5_okD {F : α → β → γ → δ → ε → Option ρ} (h : ∀ x y z u v r, F x y z u v = some r → FnC P f [a.enc x, b.enc y, c.enc z, d.enc u, e.enc v] (fun w => w = t.enc r)) : EntDOK P f (entD (ent5 a b c d e t F)) := by
  intro args r he
  unfold entD at he
  rw [pcond_some] at he
  obtain ⟨hnb, he⟩ := he
  unfold ent5 at he
  split at he
  · simp only [Option.bind_eq_some_iff, Option.some.injEq, Prod.exists, Prod.mk.injEq] at he
    obtain ⟨_, _, ⟨x, hx, y, hy, z, hz, u, hu, v, hv, r', hr, rfl, rfl⟩, rfl⟩ := he
    exact fnC_sub (h x y z u v r' hr) (SubL.cons (a.ok _ 0 _ _ hx).toSub (SubL.cons (b.ok _ 0 _ _ hy).toSub (SubL.cons (c.ok _ 0 _ _ hz).toSub (SubL.cons (d.ok _ 0 _ _ hu).toSub (SubL.cons (e.ok _ 0 _ _ hv).toSub SubL.nil))))) hnb
  · cases he
theorem ent6_okD {F : α → β → γ → δ → ε → ζ → Option ρ} (h : ∀ x y z u v w r, F x y z u v w = some r → FnC P f [a.enc x, b.enc y, c.enc z, d.enc u, e.enc v, g.enc w] (fun w => w = t.enc r)) : EntDOK P f (entD (ent6 a b c d e g t F)) := by
  intro args r he
  unfold entD at he
  rw [pcond_some] at he
  obtain ⟨hnb, he⟩ := he
  unfold ent6 at he
  split at he
  · simp only [Option.bind_eq_some_iff, Option.some.injEq, Prod.exists, Prod.mk.injEq] at he
    obtain ⟨_, _, ⟨x, hx, y, hy, z, hz, u, hu, v, hv, w, hw, r', hr, rfl, rfl⟩, rfl⟩ := he
    exact fnC_sub (h x y z u v w r' hr) (SubL.cons (a.ok _ 0 _ _ hx).toSub (SubL.cons (b.ok _ 0 _ _ hy).toSub (SubL.cons (c.ok _ 0 _ _ hz).toSub (SubL.cons (d.ok _ 0 _ _ hu).toSub (SubL.cons (e.ok _ 0 _ _ hv).toSub (SubL.cons (g.ok _ 0 _ _ hw).toSub SubL.nil)))))) hnb
  · cases he
end entries

def tabA : List (Nat × Ent) → FuncId → List AV → List AObj → Option (AV × List AObj)
  | [], _, _, _ => none
  | (g, e) :: t, f, args, H => if f = g then e args H else tabA t f args H
def tabD : List (Nat × EntD) → FuncId → List AV → Option AV
  | [], _, _ => none
  | (g, e) :: t, f, args => if f = g then e args else tabD t f args
theorem tabA_nil_ok {P : Program} : ∀ f args (σ : AState) r H', tabA [] f args σ.heap = some (r, H') → CallA P f args σ (fun o H'' => o = .ret r ∧ H'' = H') := by
  intro f args σ r H' h; cases h
theorem tabA_cons_ok {P : Program} {g : Nat} {e : Ent} {t : List (Nat × Ent)} (h1 : EntOK P g e) (h2 : ∀ f args (σ : AState) r H', tabA t f args σ.heap = some (r, H') → CallA P f args σ (fun o H'' => o = .ret r ∧ H'' = H')) :
    ∀ f args (σ : AState) r H', tabA ((g, e) :: t) f args σ.heap = some (r, H') → CallA P f args σ (fun o H'' => o = .ret r ∧ H'' = H') := by
  intro f args σ r H' h
  simp only [tabA] at h
  split at h
  · rename_i hg; subst hg; exact h1 _ _ _ _ h
  · exact h2 _ _ _ _ _ h
theorem tabD_nil_ok {P : Program} : ∀ f args r, tabD [] f args = some r → FnC P f args (fun v => v = r) := by
  intro f args r h; cases h
theorem tabD_cons_ok {P : Program} {g : Nat} {e : EntD} {t : List (Nat × EntD)} (h1 : EntDOK P g e) (h2 : ∀ f args r, tabD t f args = some r → FnC P f args (fun v => v = r)) :
    ∀ f args r, tabD ((g, e) :: t) f args = some r → FnC P f args (fun v => v = r) := by
  intro f args r h
  simp only [tabD] at h
  split at h
  · rename_i hg; subst hg; exact h1 _ _ h
  · exact h2 _ _ _ h

-- canonical forms
structure NZ where
  f : List AObj → Nat → AV → Option AV
  ok : ∀ H n v v', f H n v = some v' → Co H n v v'
structure ZO where
  f : List AObj → Nat → AObj → Option AObj
  ok : ∀ H n x y, f H n x = some y → CoObj H n x y

def zA : NZ := ⟨fun _ _ _ => some .any, fun _ _ _ _ h => by cases h; exact Co.any⟩
noncomputable def zK : NZ := ⟨fun _ n v => pcond (v.nb n) (some v), fun _ _ _ _ h => by rw [pcond_some] at h; obtain ⟨h1, h2⟩ := h; cases h2; exact Co.same h1⟩
def zT {α : Type} (t : Ty α) : NZ := ⟨fun H _ v => (t.dec H v).bind fun x => some (t.enc x), fun H n v v' h => by
  simp only [Option.bind_eq_some_iff, Option.some.injEq] at h
  obtain ⟨x, hx, rfl⟩ := h
  exact t.ok H n v x hx⟩
theorem sub_lst_true {sz : Nat} {rows rows' : List (List AV)} (hs : SubR rows rows') : Sub (.lst true sz rows) (.lst true sz rows') := by
  rintro E v ⟨base, cap, hv, h1, h2, h3, h4, h5⟩
  refine ⟨base, cap, by rw [← hs.1]; exact hv, by rw [← hs.1]; exact h1, fun _ => by rw [← hs.1]; exact h2 rfl, h3, fun a ha hne => h4 a ha ?_, fun a ha => hs.2 E sz _ _ (h5 a ha)⟩
  rintro rfl
  exact hne (List.eq_nil_of_length_eq_zero hs.1.symm)
def dLt {α : Type} (r : Row α) : AV → Option (List α)
  | .lst true sz rows => bif sz == r.sz then mapO r.dec rows else none
  | _ => none
def zL {α : Type} (r : Row α) : NZ := ⟨fun _ _ v => (dLt r v).bind fun x => some (.lst true r.sz (mp r.enc x)), fun H n v v' h => by
  simp only [Option.bind_eq_some_iff, Option.some.injEq] at h
  obtain ⟨x, hx, rfl⟩ := h
  unfold dLt at hx
  split at hx
  · rename_i sz rows
    cases hz : (sz == r.sz) with
    | false => rw [hz] at hx; cases hx
    | true =>
      rw [hz, cond_true] at hx
      obtain rfl := beq_iff_eq.1 hz
      exact .inl (.inl ⟨sub_lst_true (mapO_rows hx).1, nbR_rows x⟩)
  · cases hx⟩
theorem zL_f {α : Type} {r : Row α} {H : List AObj} {n : Nat} {v : AV} : (zL r).f H n v = (dLt r v).bind fun x => some (.lst true r.sz (mp r.enc x)) := rfl
theorem zA_f {H : List AObj} {n : Nat} {v : AV} : zA.f H n v = some .any := rfl
theorem zK_f {H : List AObj} {n : Nat} {v : AV} : zK.f H n v = pcond (v.nb n) (some v) := rfl
theorem zT_f {α : Type} {t : Ty α} {H : List AObj} {n : Nat} {v : AV} : (zT t).f H n v = (t.dec H v).bind fun x => some (t.enc x) := rfl

def zipZ : List NZ → List AObj → Nat → List AV → Option (List AV)
  | [], _, _, [] => some []
  | z :: zs, H, n, v :: vs => (z.f H n v).bind fun u => (zipZ zs H n vs).bind fun us => some (u :: us)
  | _, _, _, _ => none
theorem zipZ_ok : ∀ {zs : List NZ} {H : List AObj} {n : Nat} {vs us : List AV}, zipZ zs H n vs = some us → CoL H n vs us
  | [], _, _, [], us, h => by simp only [zipZ, Option.some.injEq] at h; subst h; rfl
  | z :: zs, H, n, v :: vs, us, h => by
    simp only [zipZ, Option.bind_eq_some_iff, Option.some.injEq] at h
    obtain ⟨u, hu, ws, hws, rfl⟩ := h
    exact CoL.cons (z.ok _ _ _ _ hu) (zipZ_ok hws)
  | [], _, _, _ :: _, _, h => by simp [zipZ] at h
  | _ :: _, _, _, [], _, h => by simp [zipZ] at h

def oD : ZO := ⟨fun _ _ _ => some .dead, fun _ _ _ _ h => by cases h; exact .inl rfl⟩
noncomputable def oK : ZO := ⟨fun _ n x => pcond (objNb n x) (some x), fun _ _ _ _ h => by rw [pcond_some] at h; obtain ⟨h1, h2⟩ := h; cases h2; exact .inr (.inl ⟨rfl, h1⟩)⟩
def oCf (zs : List NZ) (H : List AObj) (n : Nat) : AObj → Option AObj
  | .cells cs => (zipZ zs H n cs).bind fun ds => some (.cells ds)
  | _ => none
def oC (zs : List NZ) : ZO := ⟨oCf zs, fun H n x y h => by
  unfold oCf at h
  split at h
  · simp only [Option.bind_eq_some_iff, Option.some.injEq] at h
    obtain ⟨ds, hd, rfl⟩ := h
    exact .inr (.inr (.inl ⟨_, _, rfl, rfl, zipZ_ok hd⟩))
  · cases h⟩
def oTf {α : Type} (c : Cel α) (H : List AObj) : AObj → Option AObj
  | .cells cs => (c.dec H cs).bind fun x => some (.cells (c.enc x))
  | _ => none
def oT {α : Type} (c : Cel α) : ZO := ⟨fun H _ => oTf c H, fun H n x y h => by
  unfold oTf at h
  split at h
  · simp only [Option.bind_eq_some_iff, Option.some.injEq] at h
    obtain ⟨z, hz, rfl⟩ := h
    exact .inr (.inr (.inl ⟨_, _, rfl, rfl, (c.ok H n _ _ hz).toCoL⟩))
  · cases h⟩
def oAf {α : Type} (r : Row α) : AObj → Option AObj
  | .acc imm sz rows => (mapO r.dec rows).bind fun xs => some (.acc imm sz (mp r.enc xs))
  | _ => none
def oA {α : Type} (r : Row α) : ZO := ⟨fun _ _ => oAf r, fun H n x y h => by
  unfold oAf at h
  split at h
  · simp only [Option.bind_eq_some_iff, Option.some.injEq] at h
    obtain ⟨xs, hx, rfl⟩ := h
    exact .inr (.inr (.inr (.inl ⟨_, _, _, _, rfl, rfl, (mapO_rows hx).2, nbR_rows xs⟩)))
  · cases h⟩
theorem oD_f {H : List AObj} {n : Nat} {x : AObj} : oD.f H n x = some .dead := rfl
theorem oK_f {H : List AObj} {n : Nat} {x : AObj} : oK.f H n x = pcond (objNb n x) (some x) := rfl
theorem oC_f {zs : List NZ} {H : List AObj} {n : Nat} {cs : List AV} : (oC zs).f H n (.cells cs) = (zipZ zs H n cs).bind fun ds => some (.cells ds) := rfl
theorem oT_f {α : Type} {c : Cel α} {H : List AObj} {n : Nat} {cs : List AV} : (oT c).f H n (.cells cs) = (c.dec H cs).bind fun x => some (.cells (c.enc x)) := rfl
theorem oA_f {α : Type} {r : Row α} {H : List AObj} {n : Nat} {imm : Bool} {sz : Nat} {rows : List (List AV)} : (oA r).f H n (.acc imm sz rows) = (mapO r.dec rows).bind fun xs => some (.acc imm sz (mp r.enc xs)) := rfl

def zipO : List ZO → List AObj → Nat → List AObj → Option (List AObj)
  | [], _, _, _ => some []
  | z :: zs, H, n, v :: vs => (z.f H n v).bind fun u => (zipO zs H n vs).bind fun us => some (u :: us)
  | _ :: _, _, _, [] => none
theorem zipO_ok : ∀ {zs : List ZO} {H : List AObj} {n : Nat} {vs us : List AObj}, zipO zs H n vs = some us → CoH H n vs us ∧ us.length = zs.length
  | [], _, _, vs, us, h => by simp only [zipO, Option.some.injEq] at h; subst h; exact ⟨CoH.nil, rfl⟩
  | z :: zs, H, n, v :: vs, us, h => by
    simp only [zipO, Option.bind_eq_some_iff, Option.some.injEq] at h
    obtain ⟨u, hu, ws, hws, rfl⟩ := h
    obtain ⟨h1, h2⟩ := zipO_ok hws
    exact ⟨⟨z.ok _ _ _ _ hu, h1⟩, by simp [h2]⟩
  | _ :: _, _, _, [], _, h => by simp [zipO] at h

theorem dfNb_nil_eq {n : Nat} : dfNb n [] = True := eq_true dfNb_nil
theorem dfNb_cons_eq {n : Nat} {p : FuncId × List AV} {r : List (FuncId × List AV)} : dfNb n (p :: r) = (nbL n p.2 ∧ dfNb n r) := by
  apply propext
  constructor
  · intro h; exact ⟨h p (by simp), fun q hq => h q (by simp [hq])⟩
  · rintro ⟨h1, h2⟩ q hq
    rcases List.mem_cons.1 hq with rfl | hq
    · exact h1
    · exact h2 q hq
noncomputable def nrmZ (zs : List NZ) (zo : List ZO) (σ : AState) : Option AState :=
  (zipZ zs σ.heap zo.length σ.slots).bind fun ss => (zipO zo σ.heap zo.length σ.heap).bind fun hs => bif decide (σ.low ≤ zo.length) then pcond (dfNb zo.length σ.df) (some ⟨ss, hs, σ.low, σ.df⟩) else none
theorem nrmZ_ok {zs : List NZ} {zo : List ZO} {σ σ' : AState} (h : nrmZ zs zo σ = some σ') : Imp σ σ' := by
  unfold nrmZ at h
  simp only [Option.bind_eq_some_iff] at h
  obtain ⟨ss, h1, hs, h2, h3⟩ := h
  cases hl : decide (σ.low ≤ zo.length) with
  | false => simp [hl] at h3
  | true =>
    simp only [hl, cond_true] at h3
    rw [pcond_some] at h3
    obtain ⟨hdf, h3⟩ := h3
    simp only [Option.some.injEq] at h3
    subst h3
    obtain ⟨h4, h5⟩ := zipO_ok h2
    have hle : σ.low ≤ hs.length := by rw [h5]; exact of_decide_eq_true hl
    refine Weak.imp ⟨⟨⟨rfl, hle⟩, rfl, by rw [h5]; exact hdf⟩, ?_, ?_⟩
    · show CoL σ.heap hs.length σ.slots ss
      rw [h5]; exact zipZ_ok h1
    · show CoH σ.heap hs.length σ.heap hs
      rw [h5]; exact h4

def gSlot (i sz : Nat) (imm : Bool) (σ : AState) : AState :=
  match σ.slots[i]? with
  | some (.lst true _ []) => { slots := σ.slots.set i (.acc σ.heap.length 0), heap := σ.heap ++ [.acc imm sz []], low := σ.low, df := σ.df }
  | _ => σ
theorem gSlot_ok {i sz : Nat} {imm : Bool} {σ : AState} : Imp σ (gSlot i sz imm σ) := by
  unfold gSlot
  split
  · rename_i s h
    exact ghostAcc h
  · exact Imp.refl σ
end Go.Abs
namespace Go.Abs

section ghost
variable {C : Ctx} {φ : Nat → Value} {σ : AState} {a : Act} {w : World}

theorem muts_cells {cs ds : List AV} {h : Value} {b o : Nat} : (AObj.cells cs).muts h b o → (AObj.cells ds).muts h b o := by
  intro hm
  cases h with
  | pointer p => cases p <;> exact hm
  | _ => exact hm
theorem block_cells {cs ds : List AV} {h : Value} {b : Nat} : (AObj.cells cs).block h b → (AObj.cells ds).block h b := by
  intro hm
  cases h with
  | pointer p => cases p <;> exact hm
  | _ => exact hm

theorem set_get {H : List AObj} {l : Nat} {cs ds : List AV} (hl : H[l]? = some (.cells cs)) {k : Nat} {x : AObj} (hx : (H.set l (.cells ds))[k]? = some x) : (k = l ∧ x = .cells ds) ∨ (k ≠ l ∧ H[k]? = some x) := by
  by_cases e : k = l
  · subst e
    have hlt : k < H.length := (List.getElem?_eq_some_iff.1 hl).1
    rw [List.getElem?_set_self hlt] at hx
    cases hx; exact .inl ⟨rfl, rfl⟩
  · rw [List.getElem?_set_ne (fun h => e h.symm)] at hx
    exact .inr ⟨e, hx⟩

theorem recell_env {l : Nat} {cs ds : List AV} (hl : σ.heap[l]? = some (.cells cs)) : C.env φ (σ.heap.set l (.cells ds)) w = C.env φ σ.heap w := by
  have hlt : l < σ.heap.length := (List.getElem?_eq_some_iff.1 hl).1
  have hmu : ∀ b o, Mut φ (σ.heap.set l (.cells ds)) b o ↔ Mut φ σ.heap b o := by
    intro b o
    constructor
    · rintro ⟨k, x, hx, hm⟩
      rcases set_get hl hx with ⟨rfl, rfl⟩ | ⟨_, hx⟩
      · exact ⟨k, _, hl, muts_cells hm⟩
      · exact ⟨k, x, hx, hm⟩
    · rintro ⟨k, x, hx, hm⟩
      by_cases e : k = l
      · subst e
        rw [hl] at hx; cases hx
        exact ⟨k, _, List.getElem?_set_self hlt, muts_cells hm⟩
      · exact ⟨k, x, by rw [List.getElem?_set_ne (fun h => e h.symm)]; exact hx, hm⟩
  unfold Ctx.env
  congr 1
  · funext b o
    exact propext (or_congr (hmu b o) Iff.rfl)
  · funext k
    by_cases e : k = l
    · subst e; rw [List.getElem?_set_self hlt, hl]; rfl
    · rw [List.getElem?_set_ne (fun h => e h.symm)]
  · exact List.length_set

theorem Sim.recell (S : Sim C φ σ a w) {l : Nat} {cs ds : List AV} (hl : σ.heap[l]? = some (.cells cs)) (h : ∀ b c t, φ l = .pointer (some ⟨b, 0, none⟩) → w.heap[b]? = some (.cells c t (0, 0)) → RepL (C.env φ σ.heap w) cs c.toList → RepL (C.env φ σ.heap w) ds c.toList) :
    Sim C φ { σ with heap := σ.heap.set l (.cells ds) } a w := by
  have hlt : l < σ.heap.length := (List.getElem?_eq_some_iff.1 hl).1
  have henv : C.env φ (σ.heap.set l (.cells ds)) w = C.env φ σ.heap w := recell_env hl
  have hdef : DefOK C φ (σ.heap.set l (.cells ds)) w σ.df a.defers := S.defers.step' (fun xs vs _ r => by rw [henv]; exact r) (fun _ _ _ => rfl) (fun k x b hx hb => by
    rcases set_get hl hx with ⟨rfl, rfl⟩ | ⟨_, hx⟩
    · exact .inl ⟨k, _, hl, block_cells hb⟩
    · exact .inl ⟨k, x, hx, hb⟩)
  refine { slots := ?_, defers := hdef, objs := ?_, apart := ?_, notA := ?_, size := S.size, old := S.old, oldObj := S.oldObj, inM := ?_, froz := S.froz, rest := S.rest, low := ⟨S.low.1, by show σ.low ≤ (σ.heap.set l (.cells ds)).length; rw [List.length_set]; exact S.low.2⟩, names := ?_ }
  · show RepL (C.env φ (σ.heap.set l (.cells ds)) w) σ.slots a.tmps.toList
    rw [henv]; exact S.slots
  · intro k x hx
    show ObjRep (C.env φ (σ.heap.set l (.cells ds)) w) x (φ k)
    rw [henv]
    rcases set_get hl hx with ⟨rfl, rfl⟩ | ⟨_, hx⟩
    · obtain ⟨b, c, t, h1, h2, h3, h4⟩ := S.objs k _ hl
      exact ⟨b, c, t, h1, h2, h b c t h1 h2 h3, h4⟩
    · exact S.objs k x hx
  · intro k k' x x' b hx hx' hb hb'
    rcases set_get hl hx with ⟨e1, rfl⟩ | ⟨_, h2⟩ <;> rcases set_get hl hx' with ⟨e2, rfl⟩ | ⟨_, h3⟩
    · rw [e1, e2]
    · rw [e1] at hb ⊢; exact S.apart _ _ _ _ b hl h3 (block_cells hb) hb'
    · rw [e2] at hb' ⊢; exact S.apart _ _ _ _ b h2 hl hb (block_cells hb')
    · exact S.apart _ _ _ _ b h2 h3 hb hb'
  · intro k x b o hx hb
    rcases set_get hl hx with ⟨rfl, rfl⟩ | ⟨_, hx⟩
    · exact S.notA _ _ b o hl (block_cells hb)
    · exact S.notA _ _ b o hx hb
  · intro k x b o hx hm hb
    rcases set_get hl hx with ⟨rfl, rfl⟩ | ⟨_, hx⟩
    · exact S.inM _ _ b o hl (muts_cells hm) hb
    · exact S.inM _ _ b o hx hm hb
  · intro k hk
    have := S.names k hk
    show (φ k = _ ∧ (accLen (σ.heap.set l (.cells ds))[k]? = _ ∨ accLen (σ.heap.set l (.cells ds))[k]? = none)) ∨ ((∃ q, _ ∧ ∀ k', accLen (σ.heap.set l (.cells ds))[k]? = some k' → q < k') ∧ _)
    have e : accLen (σ.heap.set l (.cells ds))[k]? = accLen σ.heap[k]? := by
      by_cases e : k = l
      · subst e; rw [List.getElem?_set_self hlt, hl]; rfl
      · rw [List.getElem?_set_ne (fun h => e h.symm)]
    rw [e]; exact this

theorem ghostCell {l off s sz : Nat} {cs : List AV} (hl : σ.heap[l]? = some (.cells cs)) (hc : cs[off]? = some (.lst true s [])) :
    Imp σ { slots := σ.slots, heap := σ.heap.set l (.cells (cs.set off (.acc σ.heap.length 0))) ++ [.acc true sz []], low := σ.low, df := σ.df } := by
  intro C φ a w S
  have hlt : l < σ.heap.length := (List.getElem?_eq_some_iff.1 hl).1
  obtain ⟨b, c, t, hφ, hh, rl, h1⟩ := S.objs l _ hl
  obtain ⟨v, hv, base, cap, rfl, _, hcap, _⟩ := rl.get hc
  have hcap : cap = 0 := hcap rfl
  subst hcap
  have S' := S.nameAcc (imm := true) (sz := sz) (rows := []) (w' := w) (h' := .slice base 0 0) (Nat.le_refl _) (fun _ _ => rfl) (fun _ => rfl) ⟨rfl, rfl⟩ (by
    intro b hb
    cases base <;> simp [AObj.block] at hb) (fun E' _ _ => ⟨base, 0, rfl, Nat.le_refl _, fun _ => rfl, by simp, fun b _ h0 => absurd rfl h0⟩)
  refine ⟨(fun k => if k = σ.heap.length then .slice base 0 0 else φ k), ?_⟩
  have hl' : (σ.heap ++ [AObj.acc true sz []])[l]? = some (.cells cs) := by rw [List.getElem?_append_left hlt]; exact hl
  have S2 := S'.recell (l := l) (cs := cs) (ds := cs.set off (.acc σ.heap.length 0)) hl' (by
    intro b2 c2 t2 h3 h4 r
    have e1 : b2 = b := by
      have h3' : (if l = σ.heap.length then Value.slice base 0 0 else φ l) = .pointer (some ⟨b2, 0, none⟩) := h3
      rw [if_neg (by omega), hφ] at h3'
      simpa using h3'.symm
    subst e1
    rw [show w.heap[b2]? = some (.cells c t (0, 0)) from hh] at h4
    simp only [Option.some.injEq, Obj.cells.injEq] at h4
    obtain ⟨rfl, _⟩ := h4
    have hset := RepL.set (i := off) (c := .acc σ.heap.length 0) (v := .slice base 0 0) r ⟨by simp [Ctx.env], ⟨_, _, _, rfl⟩, fun k hk => by
      simp only [Ctx.env, List.getElem?_append_right (Nat.le_refl _), Nat.sub_self, List.getElem?_cons_zero, accLen, Option.some.injEq] at hk
      exact ⟨by simp, fun _ => by simp [Ctx.env]⟩⟩
    have hsame : c.toList.set off (.slice base 0 0) = c.toList := by
      obtain ⟨hlt2, he⟩ := List.getElem?_eq_some_iff.1 hv
      have he' : c.toList[off] = .slice base 0 0 := he
      rw [← he', List.set_getElem_self]
    rw [hsame] at hset
    exact hset)
  have hset : (σ.heap ++ [AObj.acc true sz []]).set l (.cells (cs.set off (.acc σ.heap.length 0))) = σ.heap.set l (.cells (cs.set off (.acc σ.heap.length 0))) ++ [.acc true sz []] := by
    rw [List.set_append_left _ _ hlt]
  rw [hset] at S2
  exact S2

def gCell (l off sz : Nat) (σ : AState) : AState :=
  match σ.heap[l]? with
  | some (.cells cs) => match cs[off]? with
    | some (.lst true _ []) => { slots := σ.slots, heap := σ.heap.set l (.cells (cs.set off (.acc σ.heap.length 0))) ++ [.acc true sz []], low := σ.low, df := σ.df }
    | _ => σ
  | _ => σ
theorem gCell_ok {l off sz : Nat} {σ : AState} : Imp σ (gCell l off sz σ) := by
  unfold gCell
  split
  · rename_i cs hl
    split
    · rename_i s hc
      exact ghostCell hl hc
    · exact Imp.refl σ
  · exact Imp.refl σ
end ghost

structure Nrm where
  gs : List (Nat × Nat × Bool)
  gc : List (Nat × Nat × Nat)
  zs : List NZ
  zo : List ZO
  sel : Option Nat
  selm : Option (Nat × Nat)

def isLstS : Option AV → Bool
  | some (.lst _ _ _) => true
  | _ => false
def selO : Option Nat → AState → Bool
  | none, _ => true
  | some i, σ => isLstS σ.slots[i]?

def isMapS (k : Nat) : Option AV → Bool
  | some (.map k') => k' == k
  | _ => false
def selM : Option (Nat × Nat) → AState → Bool
  | none, _ => true
  | some (i, k), σ => isMapS k σ.slots[i]?
def gSlots : List (Nat × Nat × Bool) → AState → AState
  | [], σ => σ
  | (i, sz, b) :: r, σ => gSlots r (gSlot i sz b σ)
def gCells : List (Nat × Nat × Nat) → AState → AState
  | [], σ => σ
  | (l, o, sz) :: r, σ => gCells r (gCell l o sz σ)
theorem gSlots_ok : ∀ {g : List (Nat × Nat × Bool)} {σ : AState}, Imp σ (gSlots g σ)
  | [], σ => Imp.refl σ
  | (_, _, _) :: _, _ => gSlot_ok.trans gSlots_ok
theorem gCells_ok : ∀ {g : List (Nat × Nat × Nat)} {σ : AState}, Imp σ (gCells g σ)
  | [], σ => Imp.refl σ
  | (_, _, _) :: _, _ => gCell_ok.trans gCells_ok

noncomputable def nrmN (N : Nrm) (σ : AState) : Option AState := nrmZ N.zs N.zo (gCells N.gc (gSlots N.gs σ))
theorem nrmN_ok {N : Nrm} {σ σ' : AState} (h : nrmN N σ = some σ') : Imp σ σ' := (gSlots_ok.trans gCells_ok).trans (nrmZ_ok h)

noncomputable def tabN : List (List Nat × Nrm) → List Nat → AState → Option AState
  | [], _, σ => some σ
  | (q, N) :: t, p, σ => if p = q then (bif selO N.sel σ && selM N.selm σ then nrmN N σ else tabN t p σ) else tabN t p σ
theorem tabN_ok : ∀ (t : List (List Nat × Nrm)) (p : List Nat) (σ σ' : AState), tabN t p σ = some σ' → Imp σ σ'
  | [], _, σ, σ', h => by simp only [tabN, Option.some.injEq] at h; subst h; exact Imp.refl _
  | (q, N) :: t, p, σ, σ', h => by
    simp only [tabN] at h
    split at h
    · cases hs : (selO N.sel σ && selM N.selm σ) with
      | true => rw [hs] at h; exact nrmN_ok h
      | false => rw [hs] at h; exact tabN_ok t p σ σ' h
    · exact tabN_ok t p σ σ' h

def ixA (σ : AState) (sz : Nat) (x i : AV) : Option Eff :=
  match x, i with
  | .lst _ sz' rows, .int _ n => if sz' = sz then (idxA rows n).bind fun r => some { val := .pp r } else none
  | .acc l m, .int _ n => match σ.heap[l]? with
    | some (.acc true sz' rows) => if sz' = sz ∧ rows.length = m then (idxA rows n).bind fun r => some { val := .pp r, rd := [l] } else none
    | some (.acc false sz' rows) => if sz' = sz ∧ rows.length = m then (idxA rows n).bind fun _ => some { val := .own l n.toNat m 0 sz, rd := [l] } else none
    | _ => none
  | _, _ => none

def idxB (s : ByteArray) (n : Int) : Option UInt8 := if 0 ≤ n then s[n.toNat]? else none
def ixS (x i : AV) : Option Eff :=
  match x, i with
  | .str s, .int _ n => (idxB s n).bind fun b => some { val := .int .u8 b.toNat }
  | _, _ => none

def ldA (P : Program) (σ : AState) (t : TypeId) (v : AV) : Option Eff :=
  match tinfo P t, v with
  | some (g, n), .ptr l off => match σ.heap[l]? with
    | some (.cells cs) => (loadAV g n (cs.drop off)).bind fun v => ldV σ.heap l v
    | _ => none
  | some (g, n), .pp cs => (loadAV g n cs).bind fun v => some { val := v }
  | some (g, n), .own l i m o sz => match σ.heap[l]? with
    | some (.acc false sz' rows) => if sz' = sz ∧ rows.length = m then rows[i]?.bind fun r => (loadAV g n (r.drop o)).bind fun v => some { val := v, rd := [l] } else none
    | _ => none
  | some (false, _), .raw v => rawLd v
  | _, _ => none

def stA (P : Program) (σ : AState) (t : TypeId) (v : AV) (ys : Option (List AV)) : Option Eff :=
  match tinfo P t, v, ys with
  | some (_, n), .ptr l off, some ys => match σ.heap[l]? with
    | some (.cells cs) => if ys.length = n ∧ off + n ≤ cs.length then some { val := .any, rd := [l], up := [(l, .cells (splice cs off ys))] } else none
    | _ => none
  | some (_, n), .own l i m o sz, some ys => match σ.heap[l]? with
    | some (.acc false sz' rows) => if sz' = sz ∧ rows.length = m then rows[i]?.bind fun r => if ys.length = n ∧ o + n ≤ sz then some { val := .any, rd := [l], up := [(l, .acc false sz (rows.set i (splice r o ys)))] } else none else none
    | _ => none
  | _, _, _ => none

def selI (n : Int) (f : Nat → Option Eff) : Nat → Nat → Option Eff
  | 0, _ => none
  | c + 1, i => bif n == (i : Int) then f i else selI n f c (i + 1)
theorem selI_eq {n : Int} {f : Nat → Option Eff} : ∀ (c i : Nat), selI n f c i = if (i : Int) ≤ n ∧ n < (i : Int) + c then f n.toNat else none
  | 0, i => by rw [if_neg (by omega)]; rfl
  | c + 1, i => by
    rw [selI, selI_eq c (i + 1)]
    cases h : n == (i : Int) with
    | true =>
      have := beq_iff_eq.1 h
      subst this
      rw [cond_true, if_pos (by omega : (i : Int) ≤ (i : Int) ∧ (i : Int) < (i : Int) + ((c + 1 : Nat) : Int)), Int.toNat_natCast]
    | false =>
      have := beq_eq_false_iff_ne.1 h
      rw [cond_false]
      by_cases h2 : (i : Int) ≤ n ∧ n < (i : Int) + ((c + 1 : Nat) : Int)
      · rw [if_pos h2, if_pos (by omega)]
      · rw [if_neg h2, if_neg (by omega)]
def ixP (len sz : Nat) (x i : AV) : Option Eff :=
  match x, i with
  | .ptr l off, .int _ n => if len ≤ 8 then selI n (fun i => some { val := .ptr l (off + i * sz) }) len 0 else if 0 ≤ n ∧ n < len then some { val := .ptr l (off + n.toNat * sz) } else none
  | .pp cs, .int _ n => if 0 ≤ n ∧ n < len then (chunkA sz n.toNat cs).bind fun ds => some { val := .pp ds } else none
  | .raw (.pointer (some ⟨b, o, none⟩)), .int _ n => if 0 ≤ n ∧ n < len then some { val := .raw (.pointer (some ⟨b, o + n.toNat * sz, none⟩)) } else none
  | _, _ => none
def opX (P : Program) (σ : AState) : Op → Option Eff
  | .indexAddr t x i => match telem P t with
    | some (_, sz, _) => ixA σ sz (σ.ev x) (σ.ev i)
    | none => match tarr P t with
      | some (len, sz) => ixP len sz (σ.ev x) (σ.ev i)
      | none => none
  | .index t x i => if tstr P t = true then ixS (σ.ev x) (σ.ev i) else none
  | .binOp op t x y ty => match op with
    | .eql => opEff P σ (.binOp .eql t x y ty)
    | .neq => opEff P σ (.binOp .neq t x y ty)
    | op => (binAV op (σ.ev x) (σ.ev y)).bind fun v => some { val := v }
  | .load t x => ldA P σ t (σ.ev x)
  | .store t x y => stA P σ t (σ.ev x) (cellsOf (σ.ev y))
  | o => opEff P σ o

theorem vwL_of_nb (H : List AObj) : ∀ cs : List AV, nbL 0 cs → vwL H cs = some (cs, [])
  | [], _ => rfl
  | c :: cs, h => by
    have ih := vwL_of_nb H cs h.2
    cases c with
    | acc l n => exact absurd h.1 (Nat.not_lt_zero _)
    | _ => simp only [vwL, ih]

theorem opX_eq (P : Program) (σ : AState) (o : Op) : opEff P σ o = opX P σ o := by
  cases o with
  | indexAddr t x i =>
    simp only [opX]
    cases ht : telem P t with
    | none =>
      simp only [opEff, ht]
      cases hr : tarr P t with
      | none => rfl
      | some q =>
        obtain ⟨len, sz⟩ := q
        simp only
        unfold ixP
        split
        · rename_i l off k n hx hi
          simp only [hx, hi]
          by_cases h8 : len ≤ 8
          · rw [if_pos h8, selI_eq]; simp
          · rw [if_neg h8]
        · rename_i cs k n hx hi
          simp only [hx, hi]
        · rename_i b o k n hx hi
          simp only [hx, hi]
        · rename_i h1 h2 h3
          split
          · rename_i l off k n hx hi; exact absurd hi (h1 l off k n hx)
          · rename_i cs k n hx hi; exact absurd hi (h2 cs k n hx)
          · rename_i b o k n hx hi; exact absurd hi (h3 b o k n hx)
          · rfl
    | some q =>
      obtain ⟨e, sz, b⟩ := q
      simp only [opEff, ht]
      cases hx : σ.ev x <;> cases hi : σ.ev i <;> simp only [ixA]
      · rename_i tt sz' rows k n
        by_cases h1 : sz' = sz
        · by_cases h2 : 0 ≤ n
          · simp only [h1, h2, and_self, if_true, idxA]
            cases rows[n.toNat]? <;> rfl
          · simp only [h1, h2, and_false, if_false, if_true, idxA]; rfl
        · simp only [h1, false_and, if_false]
      · rename_i l m k n
        cases hl : σ.heap[l]? with
        | none => rfl
        | some ob =>
          cases ob with
          | acc imm sz' rows =>
            cases imm with
            | false =>
              simp only
              by_cases h1 : sz' = sz
              · by_cases h3 : rows.length = m
                · by_cases h2 : 0 ≤ n
                  · by_cases h4 : n < m
                    · have h5 : n.toNat < rows.length := by omega
                      simp only [h1, h2, h3, h4, and_self, if_true, idxA, List.getElem?_eq_getElem h5]; rfl
                    · have h5 : rows.length ≤ n.toNat := by omega
                      simp only [h1, h2, h3, h4, and_false, if_false, and_self, if_true, idxA, List.getElem?_eq_none h5]; rfl
                  · simp only [h1, h2, h3, and_false, false_and, if_false, and_self, if_true, idxA]; rfl
                · simp only [h3, and_false, false_and, if_false]
              · simp only [h1, false_and, if_false]
            | true =>
              simp only
              by_cases h1 : sz' = sz
              · by_cases h3 : rows.length = m
                · by_cases h2 : 0 ≤ n
                  · simp only [h1, h2, h3, and_self, if_true, idxA]
                    cases rows[n.toNat]? <;> rfl
                  · simp only [h1, h2, h3, and_false, false_and, if_false, and_self, if_true, idxA]; rfl
                · simp only [h3, and_false, if_false]
              · simp only [h1, false_and, if_false]
          | _ => rfl
  | index t x i =>
    simp only [opX, opEff]
    cases ht : tstr P t
    · cases hx : σ.ev x <;> cases hi : σ.ev i <;> simp
    · cases hx : σ.ev x <;> cases hi : σ.ev i <;> simp only [ixS, if_true]
      rename_i s k n
      by_cases h2 : 0 ≤ n
      · simp only [h2, if_true, idxB]
        cases s[n.toNat]? <;> rfl
      · simp only [h2, if_false, idxB]; rfl
  | binOp op t x y ty =>
    cases op with
    | eql => rfl
    | neq => rfl
    | _ =>
      simp only [opX, opEff]
      generalize binAV _ (σ.ev x) (σ.ev y) = q
      cases q <;> rfl
  | load t x =>
    simp only [opX, opEff, ldA]
    cases ht : tinfo P t with
    | none => rfl
    | some q =>
      obtain ⟨g, n⟩ := q
      cases hx : σ.ev x with
      | ptr l off =>
        cases hl : σ.heap[l]? with
        | none => simp only [hl]
        | some ob =>
          cases ob with
          | cells cs =>
            simp only [hl]
            cases loadAV g n (cs.drop off) <;> rfl
          | _ => simp only [hl]
      | pp cs =>
        simp only
        cases loadAV g n cs <;> rfl
      | own l i m o sz =>
        cases hl : σ.heap[l]? with
        | none => simp only [hl]
        | some ob =>
          cases ob with
          | acc imm sz' rows =>
            cases imm with
            | true => simp only [hl]
            | false =>
              simp only [hl]
              split
              · cases rows[i]? with
                | none => rfl
                | some r =>
                  simp only [Option.bind_some]
                  cases loadAV g n (r.drop o) <;> rfl
              · rfl
          | _ => simp only [hl]
      | raw v => cases g <;> rfl
      | _ => rfl
  | store t x y =>
    simp only [opX, opEff, stA]
    cases ht : tinfo P t with
    | none => rfl
    | some q =>
      obtain ⟨g, n⟩ := q
      cases hx : σ.ev x with
      | ptr l off =>
        cases cellsOf (σ.ev y) with
        | none => rfl
        | some ys =>
          cases hl : σ.heap[l]? with
          | none => simp only [hl]
          | some ob => cases ob <;> simp only [hl]
      | own l i m o sz =>
        cases cellsOf (σ.ev y) with
        | none => rfl
        | some ys =>
          cases hl : σ.heap[l]? with
          | none => simp only [hl]
          | some ob =>
            cases ob with
            | acc imm sz' rows =>
              cases imm with
              | true => simp only [hl]
              | false =>
                simp only [hl]
                split
                · cases rows[i]? <;> rfl
                · rfl
            | _ => simp only [hl]
      | _ => rfl
  | _ => rfl
end Go.Abs
namespace Go.Abs

section freeze
variable {C : Ctx} {φ : Nat → Value} {σ : AState} {a : Act} {w : World}

def rp1 (l : Nat) (cs : List AV) : AV → AV
  | .ptr k off => if k = l then .pp (cs.drop off) else .ptr k off
  | x => x
def rpV (l : Nat) (cs : List AV) : AV → AV
  | .ptr k off => if k = l then .pp (cs.drop off) else .ptr k off
  | .func fn f c => .func fn (f.map (rp1 l cs)) (c.map (rp1 l cs))
  | x => x
def rpO (l : Nat) (cs : List AV) : AObj → AObj
  | .cells ds => .cells (ds.map (rpV l cs))
  | x => x

noncomputable def fzOne (l : Nat) (σ : AState) : Option AState :=
  match σ.heap[l]? with
  | some (.cells cs) => pcond (nbL 0 cs ∧ σ.low ≤ l) (some { slots := σ.slots.map (rpV l cs), heap := (σ.heap.map (rpO l cs)).set l .dead, low := σ.low, df := σ.df })
  | _ => none

theorem rpO_muts {l : Nat} {cs : List AV} {x : AObj} {h : Value} {b o : Nat} : (rpO l cs x).muts h b o → x.muts h b o := by
  cases x with
  | cells ds => exact muts_cells
  | _ => exact id
theorem rpO_block {l : Nat} {cs : List AV} {x : AObj} {h : Value} {b : Nat} : (rpO l cs x).block h b → x.block h b := by
  cases x with
  | cells ds => exact block_cells
  | _ => exact id
theorem rpO_len {l : Nat} {cs : List AV} {x : AObj} : accLen (some (rpO l cs x)) = accLen (some x) := by
  cases x <;> rfl

theorem fz_get {H : List AObj} {l k : Nat} {cs : List AV} {y : AObj} (h : ((H.map (rpO l cs)).set l .dead)[k]? = some y) : (k = l ∧ y = .dead) ∨ (k ≠ l ∧ ∃ x, H[k]? = some x ∧ y = rpO l cs x) := by
  by_cases e : k = l
  · subst e
    by_cases hk : k < H.length
    · rw [List.getElem?_set_self (by simpa using hk)] at h; cases h; exact .inl ⟨rfl, rfl⟩
    · rw [List.getElem?_eq_none (by simp; omega)] at h; cases h
  · rw [List.getElem?_set_ne (fun h => e h.symm), List.getElem?_map] at h
    cases hx : H[k]? with
    | none => rw [hx] at h; cases h
    | some x => rw [hx] at h; cases h; exact .inr ⟨e, x, rfl, rfl⟩

theorem fzOne_ok {l : Nat} {σ σ' : AState} (h : fzOne l σ = some σ') : Imp σ σ' := by
  unfold fzOne at h
  split at h
  case h_2 => cases h
  rename_i cs hl
  rw [pcond_some] at h
  obtain ⟨⟨hnb, hlow⟩, h⟩ := h
  cases h
  intro C φ a w S
  refine ⟨φ, ?_⟩
  have hlt : l < σ.heap.length := (List.getElem?_eq_some_iff.1 hl).1
  obtain ⟨b0, c0, t0, hφ, hh, rl, hone⟩ := S.objs l _ hl
  let H' : List AObj := (σ.heap.map (rpO l cs)).set l .dead
  have hlen : H'.length = σ.heap.length := by simp [H']
  have hget : ∀ (k : Nat) (y : AObj), H'[k]? = some y → (k = l ∧ y = .dead) ∨ (k ≠ l ∧ ∃ x, σ.heap[k]? = some x ∧ y = rpO l cs x) := fun k y hy => fz_get hy
  have hmut : ∀ b o, Mut φ H' b o → Mut φ σ.heap b o := by
    rintro b o ⟨k, y, hy, hm⟩
    rcases hget k y hy with ⟨_, rfl⟩ | ⟨_, x, hx, rfl⟩
    · simp [AObj.muts] at hm
    · exact ⟨k, x, hx, rpO_muts hm⟩
  have hlenk : ∀ k : Nat, accLen H'[k]? = accLen σ.heap[k]? := by
    intro k
    by_cases e : k = l
    · subst e
      simp only [H']
      rw [List.getElem?_set_self (by simpa using hlt), hl]; rfl
    · simp only [H']
      rw [List.getElem?_set_ne (fun h => e h.symm), List.getElem?_map]
      cases σ.heap[k]? with
      | none => rfl
      | some x => exact rpO_len
  have le : (C.env φ σ.heap w).Le σ.heap.length (C.env φ H' w) :=
    Ctx.env_le (by rw [hlen]; exact Nat.le_refl _) (fun k _ => ⟨rfl, hlenk k⟩) (fun b o u hm hc => ⟨fun h => hm (h.imp (hmut b o) id), hc⟩)
  have hfree : ∀ o, ¬ (Mut φ H' b0 o ∨ C.A b0 o) := by
    rintro o (⟨k, y, hy, hm⟩ | hA)
    · rcases hget k y hy with ⟨_, rfl⟩ | ⟨hne, x, hx, rfl⟩
      · simp [AObj.muts] at hm
      · exact hne (S.apart k l x _ b0 hx hl (rpO_block (AObj.block_of_muts hm)) (by rw [hφ]; rfl))
    · exact S.notA l _ b0 o hl (by rw [hφ]; rfl) hA
  have rl' : RepL (C.env φ H' w) cs c0.toList := RepL.mono le _ _ (nbL_le (Nat.zero_le _) _ hnb) rl
  have hpp : ∀ (off : Nat) (v : Value), Rep (C.env φ σ.heap w) (.ptr l off) v → Rep (C.env φ H' w) (.pp (cs.drop off)) v := by
    rintro off v ⟨_, b, hb, rfl⟩
    have e : b0 = b := by
      have hb' : φ l = .pointer (some ⟨b, 0, none⟩) := hb
      rw [hφ] at hb'; simpa using hb'
    subst e
    refine ⟨b0, off, rfl, ?_⟩
    have hd := rl'.drop off
    have h1 : ∀ u ∈ c0.toList.drop off, u.oneCell' = true := fun u hu => hone u (List.mem_of_mem_drop hu)
    have hl2 := hd.length
    exact repMem_of_cells (E := C.env φ H' w) (c := c0) (t := t0) (fr := (0, 0)) hh _ off (fun o _ _ => hfree o) (by rw [List.take_of_length_le (by omega)]; exact hd) (by rw [List.take_of_length_le (by omega)]; exact h1)
  have h1 : ∀ (x : AV) (v : Value), Rep (C.env φ σ.heap w) x v → Rep (C.env φ H' w) (rp1 l cs x) v := by
    intro x v r
    cases x with
    | ptr k off =>
      simp only [rp1]
      split
      · rename_i e; subst e; exact hpp off v r
      · exact Rep.mono le _ _ (Rep.nb _ _ r) r
    | _ => exact Rep.mono le _ _ (Rep.nb _ _ r) r
  have hL1 : ∀ (xs : List AV) (vs : List Value), RepL (C.env φ σ.heap w) xs vs → RepL (C.env φ H' w) (xs.map (rp1 l cs)) vs := by
    intro xs
    induction xs with
    | nil => intro vs r; exact r
    | cons x xs ih => rintro _ ⟨u, us, rfl, r1, r2⟩; exact ⟨u, us, rfl, h1 x u r1, ih us r2⟩
  have hV : ∀ (x : AV) (v : Value), Rep (C.env φ σ.heap w) x v → Rep (C.env φ H' w) (rpV l cs x) v := by
    intro x v r
    cases x with
    | ptr k off =>
      simp only [rpV]
      split
      · rename_i e; subst e; exact hpp off v r
      · exact Rep.mono le _ _ (Rep.nb _ _ r) r
    | func fn f c =>
      obtain ⟨f', c', hv, r1, r2⟩ := r
      exact ⟨f', c', hv, hL1 _ _ r1, hL1 _ _ r2⟩
    | _ => exact Rep.mono le _ _ (Rep.nb _ _ r) r
  have hLV : ∀ (xs : List AV) (vs : List Value), RepL (C.env φ σ.heap w) xs vs → RepL (C.env φ H' w) (xs.map (rpV l cs)) vs := by
    intro xs
    induction xs with
    | nil => intro vs r; exact r
    | cons x xs ih => rintro _ ⟨u, us, rfl, r1, r2⟩; exact ⟨u, us, rfl, hV x u r1, ih us r2⟩
  have hdef : DefOK C φ H' w σ.df a.defers := S.defers.step le (fun _ _ _ => rfl) (fun k y b hy hb => by
    rcases hget k y hy with ⟨_, rfl⟩ | ⟨_, x, hx, rfl⟩
    · simp [AObj.block] at hb
    · exact .inl ⟨k, x, hx, rpO_block hb⟩)
  refine { slots := hLV _ _ S.slots, defers := hdef, objs := ?_, apart := ?_, notA := ?_, size := S.size, old := S.old, oldObj := S.oldObj, inM := ?_, froz := S.froz, rest := S.rest, low := ⟨S.low.1, by show σ.low ≤ H'.length; rw [hlen]; exact S.low.2⟩, names := ?_ }
  · intro k y hy
    rcases hget k y hy with ⟨_, rfl⟩ | ⟨_, x, hx, rfl⟩
    · exact trivial
    · have r := S.objs k x hx
      cases x with
      | cells ds =>
        obtain ⟨b, c, t, h1, h2, h3, h4⟩ := r
        exact ⟨b, c, t, h1, h2, hLV _ _ h3, h4⟩
      | _ => exact ObjRep.mono r le (fun _ _ => rfl)
  · intro k k' y y' b hy hy' hb hb'
    rcases hget k y hy with ⟨_, rfl⟩ | ⟨_, x, hx, rfl⟩
    · simp [AObj.block] at hb
    · rcases hget k' y' hy' with ⟨_, rfl⟩ | ⟨_, x', hx', rfl⟩
      · simp [AObj.block] at hb'
      · exact S.apart k k' x x' b hx hx' (rpO_block hb) (rpO_block hb')
  · intro k y b o hy hb
    rcases hget k y hy with ⟨_, rfl⟩ | ⟨_, x, hx, rfl⟩
    · simp [AObj.block] at hb
    · exact S.notA k x b o hx (rpO_block hb)
  · intro k y b o hy hm hb
    rcases hget k y hy with ⟨_, rfl⟩ | ⟨_, x, hx, rfl⟩
    · simp [AObj.muts] at hm
    · exact S.inM k x b o hx (rpO_muts hm) hb
  · intro k hk
    have := S.names k hk
    show (φ k = _ ∧ (accLen H'[k]? = _ ∨ accLen H'[k]? = none)) ∨ ((∃ q, _ ∧ ∀ k', accLen H'[k]? = some k' → q < k') ∧ _)
    rw [hlenk k]; exact this
theorem imm_muts {sz : Nat} {rows : List (List AV)} {h : Value} {b o : Nat} : (AObj.acc true sz rows).muts h b o → (AObj.acc false sz rows).muts h b o := by
  intro hm
  cases h with
  | slice base n cap =>
    cases base with
    | none => exact hm
    | some a => exact ⟨hm.1, fun h => by cases h⟩
  | _ => exact hm
theorem Sim.imm {C : Ctx} {φ : Nat → Value} {a : Act} {w : World} {σ : AState} {l sz : Nat} {rows : List (List AV)} (hl : σ.heap[l]? = some (.acc false sz rows)) (S : Sim C φ σ a w) : Sim C φ { σ with heap := σ.heap.set l (.acc true sz rows) } a w := by
  have hlt : l < σ.heap.length := (List.getElem?_eq_some_iff.1 hl).1
  let H' : List AObj := σ.heap.set l (.acc true sz rows)
  have hlen : H'.length = σ.heap.length := by simp [H']
  have hget : ∀ (k : Nat) (y : AObj), H'[k]? = some y → (k = l ∧ y = .acc true sz rows) ∨ σ.heap[k]? = some y := by
    intro k y hy
    by_cases e : k = l
    · subst e
      simp only [H'] at hy
      rw [List.getElem?_set_self hlt] at hy; cases hy; exact .inl ⟨rfl, rfl⟩
    · simp only [H'] at hy
      rw [List.getElem?_set_ne (fun h => e h.symm)] at hy; exact .inr hy
  have hmut : ∀ b o, Mut φ H' b o → Mut φ σ.heap b o := by
    rintro b o ⟨k, y, hy, hm⟩
    rcases hget k y hy with ⟨rfl, rfl⟩ | hx
    · exact ⟨k, _, hl, imm_muts hm⟩
    · exact ⟨k, y, hx, hm⟩
  have hlenk : ∀ k : Nat, accLen H'[k]? = accLen σ.heap[k]? := by
    intro k
    by_cases e : k = l
    · subst e
      simp only [H']
      rw [List.getElem?_set_self hlt, hl]; rfl
    · simp only [H']
      rw [List.getElem?_set_ne (fun h => e h.symm)]
  have le : (C.env φ σ.heap w).Le σ.heap.length (C.env φ H' w) :=
    Ctx.env_le (by rw [hlen]; exact Nat.le_refl _) (fun k _ => ⟨rfl, hlenk k⟩) (fun b o u hm hc => ⟨fun h => hm (h.imp (hmut b o) id), hc⟩)
  have hblk : ∀ {h : Value} {b : Nat}, (AObj.acc true sz rows).block h b → (AObj.acc false sz rows).block h b := by
    intro h b hb
    cases h with
    | slice base n cap => cases base <;> exact hb
    | _ => exact hb
  have hblk2 : ∀ (k : Nat) (y : AObj) (b : Nat), H'[k]? = some y → y.block (φ k) b → ∃ x, σ.heap[k]? = some x ∧ x.block (φ k) b := by
    intro k y b hy hb
    rcases hget k y hy with ⟨rfl, rfl⟩ | hx
    · exact ⟨_, hl, hblk hb⟩
    · exact ⟨y, hx, hb⟩
  have hdef : DefOK C φ H' w σ.df a.defers := S.defers.step le (fun _ _ _ => rfl) (fun k y b hy hb => by
    obtain ⟨x, hx, hb'⟩ := hblk2 k y b hy hb
    exact .inl ⟨k, x, hx, hb'⟩)
  refine { slots := RepL.mono le _ _ (RepL.nb _ _ S.slots) S.slots, defers := hdef, objs := ?_, apart := ?_, notA := ?_, size := S.size, old := S.old, oldObj := S.oldObj, inM := ?_, froz := S.froz, rest := S.rest, low := ⟨S.low.1, by show σ.low ≤ H'.length; rw [hlen]; exact S.low.2⟩, names := ?_ }
  · intro k y hy
    rcases hget k y hy with ⟨rfl, rfl⟩ | hx
    · have r : ObjRep (C.env φ H' w) (.acc false sz rows) (φ k) := ObjRep.mono (S.objs k _ hl) le (fun _ _ => rfl)
      exact r
    · exact ObjRep.mono (S.objs k y hx) le (fun _ _ => rfl)
  · intro k k' y y' b hy hy' hb hb'
    obtain ⟨x, hx, hb1⟩ := hblk2 k y b hy hb
    obtain ⟨x', hx', hb2⟩ := hblk2 k' y' b hy' hb'
    exact S.apart k k' x x' b hx hx' hb1 hb2
  · intro k y b o hy hb
    obtain ⟨x, hx, hb1⟩ := hblk2 k y b hy hb
    exact S.notA k x b o hx hb1
  · intro k y b o hy hm hb
    rcases hget k y hy with ⟨rfl, rfl⟩ | hx
    · exact S.inM k _ b o hl (imm_muts hm) hb
    · exact S.inM k y b o hx hm hb
  · intro k hk
    have := S.names k hk
    show (φ k = _ ∧ (accLen H'[k]? = _ ∨ accLen H'[k]? = none)) ∨ ((∃ q, _ ∧ ∀ k', accLen H'[k]? = some k' → q < k') ∧ _)
    rw [hlenk k]; exact this
theorem imp_imm {σ : AState} {l sz : Nat} {rows : List (List AV)} (hl : σ.heap[l]? = some (.acc false sz rows)) : Imp σ { σ with heap := σ.heap.set l (.acc true sz rows) } := fun _ φ _ _ S => ⟨φ, Sim.imm hl S⟩
def immO (σ : AState) (l : Nat) : Option AObj → AState
  | some (.acc false sz rows) => { σ with heap := σ.heap.set l (.acc true sz rows) }
  | _ => σ
theorem immO_ok {σ : AState} {l : Nat} : Imp σ (immO σ l σ.heap[l]?) := by
  unfold immO
  split
  · rename_i h; exact imp_imm h
  · exact Imp.refl _
def immV (σ : AState) : Option AV → AState
  | some (.acc l _) => immO σ l σ.heap[l]?
  | _ => σ
theorem immV_ok {σ : AState} {x : Option AV} : Imp σ (immV σ x) := by
  unfold immV
  split
  · exact immO_ok
  · exact Imp.refl _
theorem immV_low {σ : AState} {x : Option AV} : (immV σ x).low = σ.low := by
  unfold immV immO
  split
  · split <;> rfl
  · rfl
theorem immV_df {σ : AState} {x : Option AV} : (immV σ x).df = σ.df := by
  unfold immV immO
  split
  · split <;> rfl
  · rfl
theorem immV_f {σ : AState} : (∀ l n, immV σ (some (.acc l n)) = immO σ l σ.heap[l]?) := fun _ _ => rfl
theorem immO_f {σ : AState} {l : Nat} : (∀ sz rows, immO σ l (some (.acc false sz rows)) = { σ with heap := σ.heap.set l (.acc true sz rows) }) ∧ (∀ sz rows, immO σ l (some (.acc true sz rows)) = σ) := ⟨fun _ _ => rfl, fun _ _ => rfl⟩
end freeze

noncomputable def fzX (l : Nat) (σ : AState) : Option AObj → Option AState
  | some (.acc _ _ _) => some (immO σ l σ.heap[l]?)
  | _ => fzOne l σ
theorem fzX_ok {l : Nat} {σ σ' : AState} {x : Option AObj} (h : fzX l σ x = some σ') : Imp σ σ' := by
  unfold fzX at h
  split at h
  · simp only [Option.some.injEq] at h; subst h; exact immO_ok
  · exact fzOne_ok h
noncomputable def fzAll : List Nat → AState → Option AState
  | [], σ => some σ
  | l :: ls, σ => (fzX l σ σ.heap[l]?).bind (fzAll ls)
theorem fzX_f {l : Nat} {σ : AState} : (∀ i s r, fzX l σ (some (.acc i s r)) = some (immO σ l σ.heap[l]?)) ∧ (∀ cs, fzX l σ (some (.cells cs)) = fzOne l σ) := ⟨fun _ _ _ => rfl, fun _ => rfl⟩
theorem fzAll_ok : ∀ {ls : List Nat} {σ σ' : AState}, fzAll ls σ = some σ' → Imp σ σ'
  | [], σ, σ', h => by simp only [fzAll, Option.some.injEq] at h; subst h; exact Imp.refl _
  | l :: ls, σ, σ', h => by
    simp only [fzAll, Option.bind_eq_some_iff] at h
    obtain ⟨σ1, h1, h2⟩ := h
    exact (fzX_ok h1).trans (fzAll_ok h2)
noncomputable def tabF : List (List Nat × List Nat) → List Nat → AState → Option AState
  | [], _, σ => some σ
  | (q, ls) :: t, p, σ => if p = q then fzAll ls σ else tabF t p σ
theorem tabF_ok : ∀ (t : List (List Nat × List Nat)) (p : List Nat) (σ σ' : AState), tabF t p σ = some σ' → Imp σ σ'
  | [], _, σ, σ', h => by simp only [tabF, Option.some.injEq] at h; subst h; exact Imp.refl _
  | (q, ls) :: t, p, σ, σ', h => by
    simp only [tabF] at h
    split at h
    · exact fzAll_ok h
    · exact tabF_ok t p σ σ' h

-- single cells as structs
section cels
def cI (k : IntKind) : Cel Int where
  enc n := [.int k n]
  dec _ cs := dI1 k cs
  ok H n cs x h := by
    unfold dI1 at h
    split at h
    · exact CoL1.cons (dI_ok h) CoL1.nil
    · cases h
  nb _ _ := ⟨trivial, trivial⟩
def cB : Cel Bool where
  enc b := [.bool b]
  dec _ cs := dB1 cs
  ok H n cs x h := by
    unfold dB1 at h
    split at h
    · exact CoL1.cons (dB_ok h) CoL1.nil
    · cases h
  nb _ _ := ⟨trivial, trivial⟩
def cS : Cel Str where
  enc s := [.str (sb s)]
  dec _ cs := dS1 cs
  ok H n cs x h := by
    unfold dS1 at h
    split at h
    · exact CoL1.cons (dS_ok h) CoL1.nil
    · cases h
  nb _ _ := ⟨trivial, trivial⟩
variable {α β γ : Type}
def dL1 (r : Row α) (H : List AObj) : List AV → Option (List α)
  | [c] => dL r H c
  | _ => none
def cL (r : Row α) : Cel (List α) where
  enc xs := [.lst false r.sz (mp r.enc xs)]
  dec := dL1 r
  ok H n cs x h := by
    unfold dL1 at h
    split at h
    · exact CoL1.cons (dL_ok h) CoL1.nil
    · cases h
  nb n xs := ⟨nbR_rows xs, trivial⟩
def dF1 (f : FuncId) : List AV → Option Unit
  | [c] => dF f c
  | _ => none
def cF (f : FuncId) : Cel Unit where
  enc _ := [.func (.func f) [] []]
  dec _ cs := dF1 f cs
  ok H n cs x h := by
    unfold dF1 at h
    split at h
    · unfold dF at h
      split at h
      · split at h
        · rename_i e; subst e; exact CoL1.cons (Co1.sub (Sub.refl _) ⟨trivial, trivial⟩) CoL1.nil
        · cases h
      · cases h
    · cases h
  nb _ _ := ⟨⟨trivial, trivial⟩, trivial⟩
theorem cI_f {k : IntKind} : (∀ n, (cI k).enc n = [.int k n]) ∧ ∀ H cs, (cI k).dec H cs = dI1 k cs := ⟨fun _ => rfl, fun _ _ => rfl⟩
theorem cB_f : (∀ n, cB.enc n = [.bool n]) ∧ ∀ H cs, cB.dec H cs = dB1 cs := ⟨fun _ => rfl, fun _ _ => rfl⟩
theorem cS_f : (∀ n, cS.enc n = [.str (sb n)]) ∧ ∀ H cs, cS.dec H cs = dS1 cs := ⟨fun _ => rfl, fun _ _ => rfl⟩
theorem cL_f {r : Row α} : (∀ n, (cL r).enc n = [.lst false r.sz (mp r.enc n)]) ∧ ∀ H cs, (cL r).dec H cs = dL1 r H cs := ⟨fun _ => rfl, fun _ _ => rfl⟩
theorem cF_f {f : FuncId} : (∀ n, (cF f).enc n = [.func (.func f) [] []]) ∧ ∀ H cs, (cF f).dec H cs = dF1 f cs := ⟨fun _ => rfl, fun _ _ => rfl⟩

def dP (c : Cel α) : AV → Option α
  | .pp cs => c.dec [] cs
  | _ => none
theorem dP_ok {c : Cel α} {v : AV} {x : α} (h : dP c v = some x) : Sub v (.pp (c.enc x)) := by
  unfold dP at h
  split at h
  · exact Sub.pp (c.ok [] 0 _ _ h).toSub.subM
  · cases h
def tyP (c : Cel α) : Ty α where
  enc x := .pp (c.enc x)
  dec _ := dP c
  ok H n v x h := Co.sub (dP_ok h) (c.nb n x)
  nb n x := c.nb n x
theorem tyP_enc {c : Cel α} {x : α} : (tyP c).enc x = .pp (c.enc x) := rfl
theorem tyP_dec {c : Cel α} {H : List AObj} {v : AV} : (tyP c).dec H v = dP c v := rfl

def dK1 (f : FuncId) (a : Ty α) : AV → Option α
  | .func (.func g) [] [x] => if g = f then a.dec [] x else none
  | _ => none
def dK2 (f : FuncId) (a : Ty α) (b : Ty β) : AV → Option (α × β)
  | .func (.func g) [] [x, y] => if g = f then (a.dec [] x).bind fun u => (b.dec [] y).bind fun v => some (u, v) else none
  | _ => none
def dK3 (f : FuncId) (a : Ty α) (b : Ty β) (c : Ty γ) : AV → Option (α × β × γ)
  | .func (.func g) [] [x, y, z] => if g = f then (a.dec [] x).bind fun u => (b.dec [] y).bind fun v => (c.dec [] z).bind fun w => some (u, v, w) else none
  | _ => none
def tyK1 (f : FuncId) (a : Ty α) : Ty α where
  enc x := .func (.func f) [] [a.enc x]
  dec _ := dK1 f a
  ok H n v x h := by
    unfold dK1 at h
    split at h
    · split at h
      · rename_i e; subst e
        exact Co.sub (Sub.func SubL.nil (SubL.cons (a.ok [] 0 _ _ h).toSub SubL.nil)) ⟨trivial, a.nb n x, trivial⟩
      · cases h
    · cases h
  nb n x := ⟨trivial, a.nb n x, trivial⟩
def tyK2 (f : FuncId) (a : Ty α) (b : Ty β) : Ty (α × β) where
  enc x := .func (.func f) [] [a.enc x.1, b.enc x.2]
  dec _ := dK2 f a b
  ok H n v x h := by
    unfold dK2 at h
    split at h
    · split at h
      · rename_i e; subst e
        simp only [Option.bind_eq_some_iff, Option.some.injEq] at h
        obtain ⟨u, hu, w, hw, rfl⟩ := h
        exact Co.sub (Sub.func SubL.nil (SubL.cons (a.ok [] 0 _ _ hu).toSub (SubL.cons (b.ok [] 0 _ _ hw).toSub SubL.nil))) ⟨trivial, a.nb n u, b.nb n w, trivial⟩
      · cases h
    · cases h
  nb n x := ⟨trivial, a.nb n _, b.nb n _, trivial⟩
def tyK3 (f : FuncId) (a : Ty α) (b : Ty β) (c : Ty γ) : Ty (α × β × γ) where
  enc x := .func (.func f) [] [a.enc x.1, b.enc x.2.1, c.enc x.2.2]
  dec _ := dK3 f a b c
  ok H n v x h := by
    unfold dK3 at h
    split at h
    · split at h
      · rename_i e; subst e
        simp only [Option.bind_eq_some_iff, Option.some.injEq] at h
        obtain ⟨u, hu, w, hw, p, hp, rfl⟩ := h
        exact Co.sub (Sub.func SubL.nil (SubL.cons (a.ok [] 0 _ _ hu).toSub (SubL.cons (b.ok [] 0 _ _ hw).toSub (SubL.cons (c.ok [] 0 _ _ hp).toSub SubL.nil)))) ⟨trivial, a.nb n u, b.nb n w, c.nb n p, trivial⟩
      · cases h
    · cases h
  nb n x := ⟨trivial, a.nb n _, b.nb n _, c.nb n _, trivial⟩
theorem tyK1_f {f : FuncId} {a : Ty α} : (∀ x, (tyK1 f a).enc x = .func (.func f) [] [a.enc x]) ∧ ∀ H v, (tyK1 f a).dec H v = dK1 f a v := ⟨fun _ => rfl, fun _ _ => rfl⟩
theorem tyK2_f {f : FuncId} {a : Ty α} {b : Ty β} : (∀ x, (tyK2 f a b).enc x = .func (.func f) [] [a.enc x.1, b.enc x.2]) ∧ ∀ H v, (tyK2 f a b).dec H v = dK2 f a b v := ⟨fun _ => rfl, fun _ _ => rfl⟩
theorem tyK3_f {f : FuncId} {a : Ty α} {b : Ty β} {c : Ty γ} : (∀ x, (tyK3 f a b c).enc x = .func (.func f) [] [a.enc x.1, b.enc x.2.1, c.enc x.2.2]) ∧ ∀ H v, (tyK3 f a b c).dec H v = dK3 f a b c v := ⟨fun _ => rfl, fun _ _ => rfl⟩
end cels
end Go.Abs
namespace Go.Abs

section objs
variable {α β γ : Type}

structure OTy (α : Type) where
  enc : α → AObj
  dec : List AObj → AObj → Option α
  ok : ∀ H n x y, dec H x = some y → CoObj H n x (enc y)
  ren : ∀ τ y, (enc y).ren τ = enc y
  nb : ∀ n y, objNb n (enc y)

def daT (imm : Bool) (r : Row α) : AObj → Option (List α)
  | .acc imm' sz rows => if imm' = imm ∧ sz = r.sz then mapO r.dec rows else none
  | _ => none
def oaT (imm : Bool) (r : Row α) : OTy (List α) where
  enc xs := .acc imm r.sz (mp r.enc xs)
  dec _ := daT imm r
  ok H n x y h := by
    unfold daT at h
    split at h
    · split at h
      · rename_i hc
        obtain ⟨rfl, rfl⟩ := hc
        exact .inr (.inr (.inr (.inl ⟨_, _, _, _, rfl, rfl, (mapO_rows h).2, nbR_rows y⟩)))
      · cases h
    · cases h
  ren τ y := by simp only [AObj.ren]; rw [renR_of_nb τ _ (nbR_rows y)]
  nb n y := nbR_rows y
def dcT (c : Cel α) (H : List AObj) : AObj → Option α
  | .cells cs => c.dec H cs
  | _ => none
def ocT (c : Cel α) : OTy α where
  enc x := .cells (c.enc x)
  dec := dcT c
  ok H n x y h := by
    unfold dcT at h
    split at h
    · exact .inr (.inr (.inl ⟨_, _, rfl, rfl, (c.ok H n _ _ h).toCoL⟩))
    · cases h
  ren τ y := by simp only [AObj.ren]; rw [renL_of_nb τ _ (c.nb 0 y)]
  nb n y := c.nb n y
theorem oaT_f {imm : Bool} {r : Row α} : (∀ x, (oaT imm r).enc x = .acc imm r.sz (mp r.enc x)) ∧ ∀ H x, (oaT imm r).dec H x = daT imm r x := ⟨fun _ => rfl, fun _ _ => rfl⟩
theorem ocT_f {c : Cel α} : (∀ x, (ocT c).enc x = .cells (c.enc x)) ∧ ∀ H x, (ocT c).dec H x = dcT c H x := ⟨fun _ => rfl, fun _ _ => rfl⟩

structure OSpec (β : Type) where
  enc : β → List AObj
  dec : List AObj → List AObj → Option β
  ok : ∀ H n xs b, dec H xs = some b → CoH H n xs (enc b) ∧ (enc b).length = xs.length
  ren : ∀ τ b, ∀ y ∈ enc b, y.ren τ = y
  nb : ∀ n b, ∀ y ∈ enc b, objNb n y
def osN : OSpec Unit where
  enc _ := []
  dec _
    | [] => some ()
    | _ => none
  ok H n xs b h := by
    split at h
    · exact ⟨CoH.nil, rfl⟩
    · cases h
  ren _ _ := by simp
  nb _ _ := by simp
def dosC (o : OTy γ) (s : OSpec β) (H : List AObj) : List AObj → Option (γ × β)
  | x :: xs => (o.dec H x).bind fun y => (s.dec H xs).bind fun b => some (y, b)
  | [] => none
def osC (o : OTy γ) (s : OSpec β) : OSpec (γ × β) where
  enc b := o.enc b.1 :: s.enc b.2
  dec := dosC o s
  ok H n xs b h := by
    unfold dosC at h
    split at h
    · simp only [Option.bind_eq_some_iff, Option.some.injEq] at h
      obtain ⟨y, hy, b, hb, rfl⟩ := h
      obtain ⟨h1, h2⟩ := s.ok H n _ _ hb
      exact ⟨⟨o.ok H n _ _ hy, h1⟩, by simp [h2]⟩
    · cases h
  ren τ b y hy := by
    simp only [List.mem_cons] at hy
    rcases hy with rfl | hy
    · exact o.ren τ _
    · exact s.ren τ _ y hy
  nb n b y hy := by
    simp only [List.mem_cons] at hy
    rcases hy with rfl | hy
    · exact o.nb n _
    · exact s.nb n _ y hy
theorem osN_f : (∀ b, osN.enc b = []) ∧ ∀ H, osN.dec H [] = some () := ⟨fun _ => rfl, fun _ => rfl⟩
theorem osC_f {o : OTy γ} {s : OSpec β} : (∀ b, (osC o s).enc b = o.enc b.1 :: s.enc b.2) ∧ ∀ H xs, (osC o s).dec H xs = dosC o s H xs := ⟨fun _ => rfl, fun _ _ => rfl⟩

structure RSpec (β α : Type) where
  enc : β → α → List AV
  dec : β → List AObj → List AV → Option α
  need : Nat
  ok : ∀ b H n xs a, need ≤ n → dec b H xs = some a → CoL H n xs (enc b a)
def rsN : RSpec β Unit where
  enc _ _ := []
  dec _ _
    | [] => some ()
    | _ => none
  need := 0
  ok b H n xs a _ h := by
    split at h
    · exact CoL.nil
    · cases h
def drsT (t : Ty γ) (s : RSpec β α) (b : β) (H : List AObj) : List AV → Option (γ × α)
  | x :: xs => (t.dec H x).bind fun y => (s.dec b H xs).bind fun a => some (y, a)
  | [] => none
def rsT (t : Ty γ) (s : RSpec β α) : RSpec β (γ × α) where
  enc b a := t.enc a.1 :: s.enc b a.2
  dec := drsT t s
  need := s.need
  ok b H n xs a hn h := by
    unfold drsT at h
    split at h
    · simp only [Option.bind_eq_some_iff, Option.some.injEq] at h
      obtain ⟨y, hy, a, ha, rfl⟩ := h
      exact CoL.cons (t.ok H n _ _ hy) (s.ok b H n _ _ hn ha)
    · cases h
def drsA (k : Nat) (len : β → Nat) (s : RSpec β α) (b : β) (H : List AObj) : List AV → Option α
  | .acc l m :: xs => if l = k ∧ m = len b then s.dec b H xs else none
  | _ => none
def rsA (k : Nat) (len : β → Nat) (s : RSpec β α) : RSpec β α where
  enc b a := .acc k (len b) :: s.enc b a
  dec := drsA k len s
  need := max (k + 1) s.need
  ok b H n xs a hn h := by
    unfold drsA at h
    split at h
    · split at h
      · rename_i hc
        obtain ⟨rfl, rfl⟩ := hc
        exact CoL.cons (Co.same (show _ < n by omega)) (s.ok b H n _ _ (by omega) h)
      · cases h
    · cases h
theorem rsN_f : (∀ (b : β) a, rsN.enc b a = []) ∧ (∀ (b : β) H, rsN.dec b H [] = some ()) ∧ (rsN : RSpec β Unit).need = 0 := ⟨fun _ _ => rfl, fun _ _ => rfl, rfl⟩
theorem rsT_f {t : Ty γ} {s : RSpec β α} : (∀ b a, (rsT t s).enc b a = t.enc a.1 :: s.enc b a.2) ∧ (∀ b H xs, (rsT t s).dec b H xs = drsT t s b H xs) ∧ (rsT t s).need = s.need := ⟨fun _ _ => rfl, fun _ _ _ => rfl, rfl⟩
theorem rsA_f {k : Nat} {len : β → Nat} {s : RSpec β α} : (∀ b a, (rsA k len s).enc b a = .acc k (len b) :: s.enc b a) ∧ (∀ b H xs, (rsA k len s).dec b H xs = drsA k len s b H xs) ∧ (rsA k len s).need = max (k + 1) s.need := ⟨fun _ _ => rfl, fun _ _ _ => rfl, rfl⟩
end objs

def tupOf : List AV → AV
  | [y] => y
  | ys => .tup ys

theorem CoH.take {H : List AObj} {n : Nat} : ∀ {xs ys : List AObj} (k : Nat), CoH H n (xs.take k) ys → CoH H n xs ys
  | _, [], _, _ => CoH.nil
  | [], _ :: _, k, h => by cases k <;> exact h.elim
  | x :: xs, y :: ys, 0, h => h.elim
  | x :: xs, y :: ys, k + 1, h => ⟨h.1, CoH.take k h.2⟩

section runG
variable {R : Type} {M : Mach R}

def ImpE (σ σ' : AState) : Prop := ∀ (C : Ctx) (φ : Nat → Value) (tmps : Array Value) (w : World), Sim C φ σ { tmps, defers := [] } w → ∃ φ', Sim C φ' σ' { tmps, defers := [] } w
theorem Imp.e {σ σ' : AState} (h : Imp σ σ') : ImpE σ σ' := fun C φ tmps w S => h C φ _ w S
theorem ImpE.trans {σ σ' σ'' : AState} (h : ImpE σ σ') (h' : ImpE σ' σ'') : ImpE σ σ'' := fun C φ tmps w S =>
  let ⟨φ', S'⟩ := h C φ tmps w S
  h' C φ' tmps w S'
theorem gEnd_ret {P : Program} {rs : List ResultVar} {σ' : AState} {xs ys : List AV} {H' : List AObj} (hx : resList P σ' rs = some xs) (himp : ImpE ⟨xs, σ'.heap, σ'.low, []⟩ ⟨ys, H', σ'.low, []⟩) : gEnd P rs (fun o H'' => o = .ret (tupOf ys) ∧ H'' = H') none σ' := by
  have key : ∃ x, resAV P σ' rs = some x ∧ ∃ r H'', Export σ' x r H'' ∧ ((AOut.ret r) = .ret (tupOf ys) ∧ H'' = H') := by
    have exp : ∀ (x : AV), (∀ C φ a w, Sim C φ σ' a w → ∀ v, Rep (C.env φ σ'.heap w) x v → ∃ vs : List Value, RepL (C.env φ σ'.heap w) xs vs ∧ ∀ E, RepL E ys vs → Rep E (tupOf ys) v) → Export σ' x (tupOf ys) H' := by
      intro x hx2 C φ a w S v hv
      obtain ⟨vs, hvs, hback⟩ := hx2 C φ a w S v hv
      have S0 : Sim C φ ⟨xs, σ'.heap, σ'.low, []⟩ { tmps := vs.toArray, defers := [] } w := { S with slots := by simpa using hvs, defers := DefOK.nil }
      obtain ⟨φ', S1⟩ := himp C φ vs.toArray w S0
      exact ⟨φ', { S1 with slots := rfl, defers := DefOK.nil }, hback _ (by simpa using S1.slots)⟩
    unfold resAV
    rw [hx]
    match xs, hx, exp with
    | [x], hx, exp =>
      refine ⟨x, rfl, _, _, exp x ?_, rfl, rfl⟩
      intro C φ a w S v hv
      refine ⟨[v], ⟨v, [], rfl, hv, rfl⟩, fun E hr => ?_⟩
      have := hr.length
      match ys, this, hr with
      | [y], _, ⟨u, us, he, h1, h2⟩ =>
        simp only [List.cons.injEq] at he
        obtain ⟨rfl, _⟩ := he
        exact h1
    | [], hx, exp =>
      refine ⟨.tup [], rfl, _, _, exp _ ?_, rfl, rfl⟩
      rintro C φ a w S v ⟨vs, rfl, hvs⟩
      refine ⟨vs.toList, hvs, fun E hr => ?_⟩
      have h1 := hr.length
      have h2 := hvs.length
      match ys, hr, h1 with
      | [], hr, _ => exact ⟨vs, rfl, hr⟩
      | [_], hr, h1 => rw [h1] at h2; simp at h2
      | _ :: _ :: _, hr, h1 => rw [h1] at h2; simp at h2
    | x :: x' :: xs, hx, exp =>
      refine ⟨.tup (x :: x' :: xs), rfl, _, _, exp _ ?_, rfl, rfl⟩
      rintro C φ a w S v ⟨vs, rfl, hvs⟩
      refine ⟨vs.toList, hvs, fun E hr => ?_⟩
      have h1 := hr.length
      have h2 := hvs.length
      match ys, hr, h1 with
      | [], hr, h1 => rw [h1] at h2; simp at h2
      | [_], hr, h1 => rw [h1] at h2; simp at h2
      | _ :: _ :: _, hr, _ => exact ⟨vs, rfl, hr⟩
  exact key
theorem gEnd_pan {P : Program} {rs : List ResultVar} {σ' : AState} {x y : AV} {H' : List AObj} (himp : ImpE ⟨[x], σ'.heap, σ'.low, []⟩ ⟨[y], H', σ'.low, []⟩) : gEnd P rs (fun o H'' => o = .panic y ∧ H'' = H') (some x) σ' := by
  refine ⟨y, H', ?_, rfl, rfl⟩
  intro C φ a w S v hv
  have S0 : Sim C φ ⟨[x], σ'.heap, σ'.low, []⟩ { tmps := [v].toArray, defers := [] } w := { S with slots := ⟨v, [], rfl, hv, rfl⟩, defers := DefOK.nil }
  obtain ⟨φ', S1⟩ := himp C φ _ w S0
  obtain ⟨u, us, he, h1, _⟩ := S1.slots
  simp only [List.cons.injEq] at he
  obtain ⟨rfl, _⟩ := he
  exact ⟨φ', { S1 with slots := rfl, defers := DefOK.nil }, h1⟩
theorem fnG_runV {f : FuncId} {fn : Func} {args : List AV} {H : List AObj} {V : AOut → List AObj → Prop} {r : R} {n : Nat} {rs : List ResultVar} (G : Good M) (hf : M.P.funcs[f]? = some fn) (hb : fn.body = some M.body) (hne : (fn.name != "runtime.NumGoroutine") = true)
    (hnb : nbL H.length args) (hnbH : ∀ x ∈ H, objNb H.length x) (hn : fn.ntmps = n) (hrs : fn.results = rs.toArray)
    (hout : ∀ σ, M.out σ = some r → unwA M.P (gEnd M.P rs V) σ.df none σ) (houtP : ∀ x σ, M.outP x σ = some r → unwA M.P (gEnd M.P rs V) σ.df (some x) σ)
    (h : run M [.at []] { slots := args ++ List.replicate (n - args.length) .any, heap := H, low := H.length } = some r) : FnG M.P f args H V := by
  refine fnG_of_body hf hb hne hnb hnbH hn hrs ?_
  exact run_soundP G h (fun σ' hs => ⟨hout σ' hs, hout σ' hs⟩) houtP
theorem fnG_run {f : FuncId} {fn : Func} {args : List AV} {H : List AObj} {ys : List AV} {H' : List AObj} {r : R} {n : Nat} {rs : List ResultVar} (G : Good M) (hf : M.P.funcs[f]? = some fn) (hb : fn.body = some M.body) (hne : (fn.name != "runtime.NumGoroutine") = true)
    (hnb : nbL H.length args) (hnbH : ∀ x ∈ H, objNb H.length x) (hn : fn.ntmps = n) (hrs : fn.results = rs.toArray)
    (hout : ∀ σ, M.out σ = some r → σ.df = [] ∧ ∃ xs, resList M.P σ rs = some xs ∧ ImpE ⟨xs, σ.heap, σ.low, []⟩ ⟨ys, H', σ.low, []⟩)
    (h : run M [.at []] { slots := args ++ List.replicate (n - args.length) .any, heap := H, low := H.length } = some r) (hP : ∀ x σ', M.outP x σ' = none := by intros; rfl) : FnG M.P f args H (fun o H'' => o = .ret (tupOf ys) ∧ H'' = H') := by
  refine fnG_runV G hf hb hne hnb hnbH hn hrs (fun σ' hs => ?_) (fun x σ' hx => by rw [hP x σ'] at hx; cases hx) h
  obtain ⟨hd, xs, hx, himp⟩ := hout σ' hs
  rw [hd]
  exact gEnd_ret hx himp
end runG

section outG
variable {α β γ : Type}
def outG (P : Program) (rs : List ResultVar) (os : OSpec β) (s : RSpec β α) (low : Nat) (σ : AState) : Option (β × α) :=
  (resList P σ rs).bind fun xs => (os.dec σ.heap (σ.heap.take low)).bind fun b => (s.dec b σ.heap xs).bind fun a => bif (σ.low == low) && decide (s.need ≤ low) && decide (low ≤ σ.heap.length) && σ.df.isEmpty then some (b, a) else none

theorem outG_ok {P : Program} {rs : List ResultVar} {os : OSpec β} {s : RSpec β α} {low : Nat} {σ : AState} {r : β × α} (h : outG P rs os s low σ = some r) :
    σ.df = [] ∧ ∃ xs, resList P σ rs = some xs ∧ ImpE ⟨xs, σ.heap, σ.low, []⟩ ⟨s.enc r.1 r.2, os.enc r.1, σ.low, []⟩ := by
  unfold outG at h
  simp only [Option.bind_eq_some_iff] at h
  obtain ⟨xs, hx, b, hb, a, ha, h⟩ := h
  cases hc : ((σ.low == low) && decide (s.need ≤ low) && decide (low ≤ σ.heap.length) && σ.df.isEmpty) with
  | false => simp [hc] at h
  | true =>
    simp only [hc, cond_true, Option.some.injEq] at h
    subst h
    simp only [Bool.and_eq_true, beq_iff_eq, decide_eq_true_eq] at hc
    obtain ⟨⟨⟨h1, h2⟩, h3⟩, h4⟩ := hc
    refine ⟨by simpa using h4, xs, hx, Imp.e (Weak.imp (σ := ⟨xs, σ.heap, σ.low, []⟩) (σ' := ⟨s.enc b a, os.enc b, σ.low, []⟩) ⟨⟨⟨rfl, ?_⟩, rfl, dfNb_nil⟩, ?_, ?_⟩)⟩
    · obtain ⟨_, h5⟩ := os.ok σ.heap 0 _ _ hb
      show σ.low ≤ (os.enc b).length
      rw [h5, List.length_take]; omega
    · show CoL σ.heap (os.enc b).length xs (s.enc b a)
      obtain ⟨_, h5⟩ := os.ok σ.heap 0 _ _ hb
      exact s.ok b σ.heap _ xs a (by rw [h5, List.length_take]; omega) ha
    · show CoH σ.heap (os.enc b).length σ.heap (os.enc b)
      exact CoH.take low (os.ok σ.heap _ _ _ hb).1
end outG

section callG
theorem setAll_set : ∀ (ls : List Nat) (G : List AObj) (ys : List AObj) (l : Nat) (z : AObj), l ∉ ls → (setAll G ls ys).set l z = setAll (G.set l z) ls ys
  | [], _, _, _, _, _ => by simp [setAll]
  | _ :: _, _, [], _, _, _ => by simp [setAll]
  | k :: ls, G, y :: ys, l, z, h => by
    simp only [List.mem_cons, not_or] at h
    rw [setAll, setAll, setAll_set ls _ ys l z h.2, List.set_comm _ _ (fun e => h.1 e.symm)]
theorem setAll_setAll : ∀ (ls : List Nat) (G : List AObj) (ys ys' : List AObj), ls.Nodup → ls.length ≤ ys'.length → setAll (setAll G ls ys) ls ys' = setAll G ls ys'
  | [], _, _, _, _, _ => by simp [setAll]
  | _ :: _, _, _, [], _, h => by simp at h
  | l :: ls, G, [], y' :: ys', hnd, h => by simp [setAll]
  | l :: ls, G, y :: ys, y' :: ys', hnd, h => by
    rw [List.nodup_cons] at hnd
    simp only [List.length_cons, Nat.add_le_add_iff_right] at h
    simp only [setAll]
    rw [setAll_set ls _ ys l y' hnd.1, List.set_set, setAll_setAll ls _ ys ys' hnd.2 h]
theorem coH_of_get {H : List AObj} {n : Nat} : ∀ {xs ys : List AObj}, (∀ (k : Nat) (y : AObj), ys[k]? = some y → ∃ x, xs[k]? = some x ∧ CoObj H n x y) → CoH H n xs ys
  | _, [], _ => CoH.nil
  | [], y :: ys, h => by obtain ⟨x, hx, _⟩ := h 0 y (by simp); simp at hx
  | x :: xs, y :: ys, h => by
    obtain ⟨x', hx, hc⟩ := h 0 y (by simp)
    simp at hx; subst hx
    exact ⟨hc, coH_of_get fun k z hz => by have := h (k + 1) z (by simpa using hz); simpa using this⟩
theorem CoL.append {H : List AObj} {n : Nat} : ∀ {xs ys us vs : List AV}, CoL H n xs ys → CoL H n us vs → CoL H n (xs ++ us) (ys ++ vs)
  | [], _, _, _, rfl, h => h
  | _ :: _, _, _, _, ⟨y, zs, rfl, h, hs⟩, h2 => ⟨y, zs ++ _, rfl, h, CoL.append hs h2⟩

theorem callG {P : Program} {f : FuncId} {σ : AState} {cargs args : List AV} {Ys Ys' : List AObj} {r : AV} {ρ : List Nat} (hG : FnG P f args Ys (fun o H' => o = .ret r ∧ H' = Ys')) (hnd : ρ.Nodup) (hlen : ρ.length = Ys.length) (hlen' : ρ.length ≤ Ys'.length)
    (hobj : ∀ (i k : Nat), ρ[i]? = some k → ∃ x y, σ.heap[k]? = some x ∧ Ys[i]? = some y ∧ CoObj σ.heap σ.heap.length x y) (hargs : CoL σ.heap σ.heap.length cargs (renL (backTo ρ σ.heap.length) args))
    (hren : ∀ y ∈ Ys ++ Ys', ∀ τ, y.ren τ = y) : CallA P f cargs σ (fun o H' => o = .ret (r.ren (backTo ρ σ.heap.length)) ∧ H' = setAll σ.heap ρ Ys' ++ Ys'.drop ρ.length) := by
  refine ⟨hG.1, fun C φ a w hP S vs hr => ?_⟩
  let H1 := setAll σ.heap ρ Ys
  have hl1 : H1.length = σ.heap.length := setAll_length _ _ _
  have S0 : Sim C φ ⟨σ.slots ++ cargs, σ.heap, σ.low, σ.df⟩ { tmps := a.tmps ++ vs, defers := a.defers } w := { S with slots := by simpa using S.slots.append hr, defers := S.defers }
  have hat : ∀ (i k : Nat), ρ[i]? = some k → ∃ x y, σ.heap[k]? = some x ∧ Ys[i]? = some y ∧ CoObj σ.heap σ.heap.length x y ∧ H1[k]? = some y := by
    intro i k hi
    obtain ⟨x, y, hx, hy, hc⟩ := hobj i k hi
    exact ⟨x, y, hx, hy, hc, setAll_at ρ σ.heap Ys i k y hnd hi hy (List.getElem?_eq_some_iff.1 hx).1⟩
  have hw : Weak ⟨σ.slots ++ cargs, σ.heap, σ.low, σ.df⟩ ⟨σ.slots ++ renL (backTo ρ σ.heap.length) args, H1, σ.low, σ.df⟩ := by
    refine ⟨⟨⟨rfl, by show σ.low ≤ H1.length; rw [hl1]; exact S.low.2⟩, rfl, by show dfNb H1.length σ.df; rw [hl1]; exact RepDf.nb S.defers.2.2⟩, ?_, ?_⟩
    · show CoL σ.heap H1.length _ _
      rw [hl1]
      exact CoL.append (CoL.same (RepL.nb _ _ S.slots)) hargs
    · show CoH σ.heap H1.length σ.heap H1
      rw [hl1]
      refine coH_of_get fun k y hy => ?_
      by_cases hk : k ∈ ρ
      · obtain ⟨i, hi⟩ := List.getElem?_of_mem hk
        obtain ⟨x, y', hx, _, hc, hy'⟩ := hat i k hi
        rw [hy'] at hy; cases hy
        exact ⟨x, hx, hc⟩
      · have hy2 : σ.heap[k]? = some y := by rw [← hy]; exact (setAll_other ρ σ.heap Ys k hk).symm
        exact ⟨y, hy2, .inr (.inl ⟨rfl, objNb_rep (S.objs k y hy2)⟩)⟩
  obtain ⟨φ', S1⟩ := hw.imp C φ _ w S0
  have hsl := S1.slots
  simp only [Array.toList_append] at hsl
  have hsz : a.tmps.toList.length = σ.slots.length := S.slots.length
  have h1 := hsl.take σ.slots.length
  have h2 := hsl.drop σ.slots.length
  rw [List.take_left' rfl, List.take_left' hsz] at h1
  rw [List.drop_left' rfl, List.drop_left' hsz] at h2
  have S2 : Sim C φ' { σ with heap := H1 } a w := { S1 with slots := h1, defers := S1.defers }
  have hcall : CallA P f (renL (backTo ρ H1.length) args) { σ with heap := H1 } (fun o H' => o = .ret (r.ren (backTo ρ H1.length)) ∧ H' = setAll σ.heap ρ Ys' ++ Ys'.drop ρ.length) := by
    refine callA_of_fnG (σ := { σ with heap := H1 }) hG ρ hlen hnd (SubL.refl _) ?_ ?_
    · intro i k x hi hx
      obtain ⟨x', y, _, hy, _, hy'⟩ := hat i k hi
      rw [hy] at hx; cases hx
      show H1[k]? = some (x.ren _)
      rw [hy', hren x (List.mem_append.2 (.inl (List.mem_of_getElem? hy)))]
    · rintro o H' ⟨rfl, rfl⟩
      refine ⟨rfl, ?_⟩
      have hid : ∀ τ, H'.map (AObj.ren τ) = H' := by
        intro τ
        have : H'.map (AObj.ren τ) = H'.map id := List.map_congr_left fun y hy => hren y (List.mem_append.2 (.inr hy)) τ
        rw [this, List.map_id]
      have hid2 : ∀ τ, (H'.drop ρ.length).map (AObj.ren τ) = H'.drop ρ.length := by
        intro τ; rw [List.map_drop, hid]
      show heapBack ρ H1 H' = _
      unfold heapBack
      rw [hid, hid2]
      simp only [H1]
      rw [setAll_setAll ρ σ.heap Ys H' hnd hlen']
  rw [hl1] at hcall
  exact hcall.2 C φ' a w hP S2 vs h2
end callG
end Go.Abs
namespace Go.Abs

section args
variable {α β γ : Type}
structure ASpec (β α : Type) where
  enc : β → α → List AV
  dec : List Nat → β → List AObj → List AV → Option α
  ok : ∀ ρ b H xs a, dec ρ b H xs = some a → CoL H H.length xs (renL (backTo ρ H.length) (enc b a))
def asN : ASpec β Unit where
  enc _ _ := []
  dec _ _ _
    | [] => some ()
    | _ => none
  ok ρ b H xs a h := by
    split at h
    · exact CoL.nil
    · cases h
def dasT (t : Ty γ) (s : ASpec β α) (ρ : List Nat) (b : β) (H : List AObj) : List AV → Option (γ × α)
  | x :: xs => (t.dec H x).bind fun y => (s.dec ρ b H xs).bind fun a => some (y, a)
  | [] => none
def asT (t : Ty γ) (s : ASpec β α) : ASpec β (γ × α) where
  enc b a := t.enc a.1 :: s.enc b a.2
  dec := dasT t s
  ok ρ b H xs a h := by
    unfold dasT at h
    split at h
    · simp only [Option.bind_eq_some_iff, Option.some.injEq] at h
      obtain ⟨y, hy, a, ha, rfl⟩ := h
      refine CoL.cons ?_ (s.ok ρ b H _ _ ha)
      rw [ren_of_nb _ _ (t.nb 0 y)]
      exact t.ok H _ _ _ hy
    · cases h
def dasP (k : Nat) (s : ASpec β α) (ρ : List Nat) (b : β) (H : List AObj) : List AV → Option α
  | .ptr l off :: xs => if off = 0 ∧ ρ[k]? = some l ∧ l < H.length then s.dec ρ b H xs else none
  | _ => none
theorem backTo_at {ρ : List Nat} {n k l : Nat} (h : ρ[k]? = some l) : backTo ρ n k = l := by
  have hk : k < ρ.length := (List.getElem?_eq_some_iff.1 h).1
  unfold backTo
  rw [if_pos hk, List.getD, h]; rfl
def asP (k : Nat) (s : ASpec β α) : ASpec β α where
  enc b a := .ptr k 0 :: s.enc b a
  dec := dasP k s
  ok ρ b H xs a h := by
    unfold dasP at h
    split at h
    · split at h
      · rename_i hc
        obtain ⟨rfl, hc, hl⟩ := hc
        refine CoL.cons ?_ (s.ok ρ b H _ _ h)
        show Co H H.length _ (.ptr (backTo ρ H.length k) 0)
        rw [backTo_at hc]
        exact Co.same hl
      · cases h
    · cases h
def dasA (k : Nat) (len : β → Nat) (s : ASpec β α) (ρ : List Nat) (b : β) (H : List AObj) : List AV → Option α
  | .acc l m :: xs => if m = len b ∧ ρ[k]? = some l ∧ l < H.length then s.dec ρ b H xs else none
  | _ => none
def asA (k : Nat) (len : β → Nat) (s : ASpec β α) : ASpec β α where
  enc b a := .acc k (len b) :: s.enc b a
  dec := dasA k len s
  ok ρ b H xs a h := by
    unfold dasA at h
    split at h
    · split at h
      · rename_i hc
        obtain ⟨rfl, hc, hl⟩ := hc
        refine CoL.cons ?_ (s.ok ρ b H _ _ h)
        show Co H H.length _ (.acc (backTo ρ H.length k) _)
        rw [backTo_at hc]
        exact Co.same hl
      · cases h
    · cases h
theorem asN_f : (∀ (b : β) a, asN.enc b a = []) ∧ (∀ ρ (b : β) H, asN.dec ρ b H [] = some ()) := ⟨fun _ _ => rfl, fun _ _ _ => rfl⟩
theorem asT_f {t : Ty γ} {s : ASpec β α} : (∀ b a, (asT t s).enc b a = t.enc a.1 :: s.enc b a.2) ∧ (∀ ρ b H xs, (asT t s).dec ρ b H xs = dasT t s ρ b H xs) := ⟨fun _ _ => rfl, fun _ _ _ _ => rfl⟩
theorem asP_f {k : Nat} {s : ASpec β α} : (∀ b a, (asP k s).enc b a = .ptr k 0 :: s.enc b a) ∧ (∀ ρ b H xs, (asP k s).dec ρ b H xs = dasP k s ρ b H xs) := ⟨fun _ _ => rfl, fun _ _ _ _ => rfl⟩
theorem asA_f {k : Nat} {len : β → Nat} {s : ASpec β α} : (∀ b a, (asA k len s).enc b a = .acc k (len b) :: s.enc b a) ∧ (∀ ρ b H xs, (asA k len s).dec ρ b H xs = dasA k len s ρ b H xs) := ⟨fun _ _ => rfl, fun _ _ _ _ => rfl⟩
end args

def nameOf : AV → Option Nat
  | .ptr l _ => some l
  | .acc l _ => some l
  | _ => none
def nameAt (args : List AV) (i : Nat) : Option Nat := (args[i]?).bind nameOf
def nodupB : List Nat → Bool
  | [] => true
  | x :: xs => !xs.contains x && nodupB xs
theorem nodupB_ok : ∀ {xs : List Nat}, nodupB xs = true → xs.Nodup
  | [], _ => List.nodup_nil
  | x :: xs, h => by
    simp only [nodupB, Bool.and_eq_true, Bool.not_eq_true', List.contains_eq_mem, decide_eq_false_iff_not] at h
    exact List.nodup_cons.2 ⟨h.1, nodupB_ok h.2⟩
def getAt (H : List AObj) (k : Nat) : Option AObj := H[k]?

section entG
variable {α β α' β' : Type}
def entG (pos : List Nat) (os : OSpec β) (as : ASpec β α) (os' : OSpec β') (rs : RSpec β' α') (F : β → α → Option (β' × α')) : Ent := fun args H =>
  (mapO (nameAt args) pos).bind fun ρ => bif nodupB ρ then (mapO (getAt H) ρ).bind fun xs => (os.dec H xs).bind fun b => (as.dec ρ b H args).bind fun a => (F b a).bind fun r =>
    bif decide (ρ.length ≤ (os'.enc r.1).length) then some ((tupOf (rs.enc r.1 r.2)).ren (backTo ρ H.length), setAll H ρ (os'.enc r.1) ++ (os'.enc r.1).drop ρ.length) else none else none

theorem mapO_get {H : List AObj} : ∀ {ρ : List Nat} {xs : List AObj}, mapO (getAt H) ρ = some xs → ρ.length = xs.length ∧ ∀ (i k : Nat), ρ[i]? = some k → ∃ x, xs[i]? = some x ∧ H[k]? = some x
  | [], xs, h => by simp only [mapO, Option.some.injEq] at h; subst h; simp
  | k :: ρ, xs, h => by
    simp only [mapO, Option.bind_eq_some_iff, Option.some.injEq] at h
    obtain ⟨x, hx, ys, hys, rfl⟩ := h
    obtain ⟨h1, h2⟩ := mapO_get hys
    refine ⟨by simp [h1], fun i q hi => ?_⟩
    cases i with
    | zero => simp at hi; subst hi; exact ⟨x, by simp, hx⟩
    | succ i => simp at hi; obtain ⟨y, hy, hy'⟩ := h2 i q hi; exact ⟨y, by simpa using hy, hy'⟩

theorem entG_ok {P : Program} {f : FuncId} {pos : List Nat} {os : OSpec β} {as : ASpec β α} {os' : OSpec β'} {rs : RSpec β' α'} {F : β → α → Option (β' × α')}
    (h : ∀ b a r, F b a = some r → FnG P f (as.enc b a) (os.enc b) (fun o H' => o = .ret (tupOf (rs.enc r.1 r.2)) ∧ H' = os'.enc r.1)) : EntOK P f (entG pos os as os' rs F) := by
  intro args σ r H' he
  unfold entG at he
  simp only [Option.bind_eq_some_iff] at he
  obtain ⟨ρ, _, he⟩ := he
  cases hnd : nodupB ρ with
  | false => simp [hnd] at he
  | true =>
    simp only [hnd, cond_true, Option.bind_eq_some_iff] at he
    obtain ⟨xs, hxs, b, hb, a, ha, q, hq, he⟩ := he
    cases hl : decide (ρ.length ≤ (os'.enc q.1).length) with
    | false => simp [hl] at he
    | true =>
      simp only [hl, cond_true, Option.some.injEq, Prod.mk.injEq] at he
      obtain ⟨rfl, rfl⟩ := he
      obtain ⟨h1, h2⟩ := mapO_get hxs
      obtain ⟨h3, h4⟩ := os.ok σ.heap σ.heap.length _ _ hb
      refine callG (h b a q hq) (nodupB_ok hnd) (by rw [h1, h4]) (of_decide_eq_true hl) ?_ (as.ok ρ b σ.heap _ _ ha) ?_
      · intro i k hi
        obtain ⟨x, hx, hx'⟩ := h2 i k hi
        have hlt : i < (os.enc b).length := by rw [h4, ← h1]; exact (List.getElem?_eq_some_iff.1 hi).1
        obtain ⟨x2, hx2, hc⟩ := h3.get (List.getElem?_eq_getElem hlt)
        rw [hx] at hx2; cases hx2
        exact ⟨x, _, hx', List.getElem?_eq_getElem hlt, hc⟩
      · intro y hy τ
        rcases List.mem_append.1 hy with hy | hy
        · exact os.ren τ _ y hy
        · exact os'.ren τ _ y hy
end entG

abbrev EntE := List AV → List AObj → Option Eff
section entE
variable {α α' β' : Type}
theorem Co1L.toSub {n : Nat} : ∀ {xs ys : List AV}, CoL [] n xs ys → SubL xs ys
  | [], _, rfl => SubL.nil
  | _ :: _, _, ⟨y, zs, rfl, h, hs⟩ => SubL.cons h.toSub (Co1L.toSub hs)
noncomputable def entE (as : ASpec Unit α) (os' : OSpec β') (rs : RSpec β' α') (F : α → Option (β' × α')) : EntE := fun args H =>
  pcond (nbL 0 args) ((as.dec [] () [] args).bind fun a => (F a).bind fun r => bif (os'.enc r.1).isEmpty then none else some { val := (tupOf (rs.enc r.1 r.2)).ren (backTo [] H.length), nw := os'.enc r.1 })
theorem entE_ok {P : Program} {f : FuncId} {as : ASpec Unit α} {os' : OSpec β'} {rs : RSpec β' α'} {F : α → Option (β' × α')} (hnb : ∀ a, nbL 0 (as.enc () a))
    (h : ∀ a r, F a = some r → FnG P f (as.enc () a) [] (fun o H' => o = .ret (tupOf (rs.enc r.1 r.2)) ∧ H' = os'.enc r.1)) :
    ∀ args σ e, entE as os' rs F args σ.heap = some e → CallL P f args σ e := by
  intro args σ e he
  unfold entE at he
  rw [pcond_some] at he
  obtain ⟨hb, he⟩ := he
  simp only [Option.bind_eq_some_iff] at he
  obtain ⟨a, ha, r, hr, he⟩ := he
  cases hemp : (os'.enc r.1).isEmpty with
  | true => rw [hemp] at he; cases he
  | false =>
    rw [hemp, cond_false, Option.some.injEq] at he
    subst he
    have hne : os'.enc r.1 ≠ [] := by intro hn; rw [hn] at hemp; cases hemp
    refine ⟨⟨by simp, by simp⟩, fun σ' _ hlen _ => ?_⟩
    have hlen := hlen hne
    have hsub : SubL args (as.enc () a) := by
      have := Co1L.toSub (as.ok [] () [] args a ha)
      rw [renL_of_nb _ _ (hnb a)] at this
      exact this
    have hG := h a r hr
    have hG' : FnG P f args [] (fun o H' => o = .ret (tupOf (rs.enc r.1 r.2)) ∧ H' = os'.enc r.1) :=
      ⟨hG.1, hb, hG.2.2.1, fun C φ w hP h0 hN hφ hM HS vs hr => hG.2.2.2 C φ w hP h0 hN hφ hM HS vs (hsub _ _ hr)⟩
    have := callG (σ := σ') (cargs := args) (ρ := []) hG' List.nodup_nil rfl (Nat.zero_le _) (by simp) (by rw [renL_of_nb _ _ hb]; exact CoL.same (nbL_le (Nat.zero_le _) _ hb)) (by
      intro y hy τ
      simp only [List.nil_append] at hy
      exact os'.ren τ _ y hy)
    rw [hlen] at this
    refine CallA.mono this ?_
    rintro o H ⟨rfl, rfl⟩
    refine ⟨rfl, ?_⟩
    show setAll σ'.heap [] (os'.enc r.1) ++ _ = σ'.heap ++ os'.enc r.1
    cases os'.enc r.1 <;> rfl
noncomputable def entR (e : EntD) : EntE := fun args H => (vwL H args).bind fun p => (e p.1).bind fun r => some { val := r, rd := p.2 }
theorem entR_ok {P : Program} {f : FuncId} {e : EntD} (h : EntDOK P f e) : ∀ (args : List AV) (σ : AState) (ef : Eff), entR e args σ.heap = some ef → CallL P f args σ ef := by
  intro args σ ef he
  simp only [entR, Option.bind_eq_some_iff] at he
  obtain ⟨⟨ds, ns⟩, hv, r, hr, he⟩ := he
  cases he
  refine ⟨⟨fun l hl => vwL_lt hv l hl, by simp⟩, fun σ' hrd _ _ => ?_⟩
  have hv' := vwL_local hv hrd
  obtain ⟨hen, hc⟩ := callA_of_fnC (σ := σ') (K := fun o H' => o = .ret r ∧ H' = σ'.heap) (h ds r hr) (by rintro _ rfl; exact ⟨rfl, rfl⟩)
  refine ⟨hen, fun C φ a w hP S vs hrep => (hc C φ a w hP S vs (vwL_sound S hv' hrep)).mono ?_⟩
  rintro e' w' ⟨o, φ', H', ⟨rfl, rfl⟩, h1, h2⟩
  exact ⟨_, φ', _, ⟨rfl, by simp [applyUps]⟩, h1, h2⟩
def tabE : List (Nat × EntE) → FuncId → List AV → List AObj → Option Eff
  | [], _, _, _ => none
  | (g, e) :: t, f, args, H => if f = g then e args H else tabE t f args H
def tabI : List Nat → FuncId → Bool
  | [], _ => false
  | g :: t, f => f == g || tabI t f
theorem noE_ok {P : Program} : ∀ (f : FuncId) (args : List AV) (σ : AState) (e : Eff), (fun _ _ _ => none : FuncId → List AV → List AObj → Option Eff) f args σ.heap = some e → CallL P f args σ e := by
  intro f args σ e h; cases h
theorem tabE_cons_ok {P : Program} {g : Nat} {e : EntE} {t : List (Nat × EntE)} (h1 : ∀ args σ ef, e args σ.heap = some ef → CallL P g args σ ef)
    (h2 : ∀ (f : FuncId) (args : List AV) (σ : AState) (ef : Eff), tabE t f args σ.heap = some ef → CallL P f args σ ef) : ∀ (f : FuncId) (args : List AV) (σ : AState) (ef : Eff), tabE ((g, e) :: t) f args σ.heap = some ef → CallL P f args σ ef := by
  intro f args σ ef h
  simp only [tabE] at h
  split at h
  · rename_i hg; subst hg; exact h1 _ _ _ h
  · exact h2 _ _ _ _ h
end entE

section handout
variable {C : Ctx} {φ : Nat → Value} {σ : AState} {a : Act} {w : World}

theorem imp_export_one {xs : List AV} {H : List AObj} {low l : Nat} {y : AObj} (hl : H[l]? = some y) (hlow : low ≤ l) (hnb : ∀ z ∈ H.take low, objNb low z) (hy : objNb low y) (hr : nbL (low + 1) (renL (outX low l) xs)) :
    ImpE ⟨xs, H, low, []⟩ ⟨renL (outX low l) xs, H.take low ++ [y], low, []⟩ := by
  intro C φ tmps w S
  obtain ⟨φ', S', hrep⟩ := export_one (σ := ⟨xs, H, low, []⟩) (x := .tup xs) hl hlow hnb hy hr C φ _ w S (.tuple tmps) ⟨tmps, rfl, S.slots⟩
  obtain ⟨vs, hv, rl⟩ := hrep
  simp only [Value.tuple.injEq] at hv
  subst hv
  exact ⟨φ', { S' with slots := rl, defers := DefOK.nil }⟩

variable {α γ : Type}
noncomputable def outH (P : Program) (rs : List ResultVar) (j : Nat) (r : Row γ) (s : RSpec (List γ × Unit) α) (σ : AState) : Option ((List γ × Unit) × α) :=
  bif σ.df.isEmpty then (resList P σ rs).bind fun xs => outH1 (immV (gSlot j r.sz true ⟨xs, σ.heap, 0, []⟩) (gSlot j r.sz true ⟨xs, σ.heap, 0, []⟩).slots[j]?) j r s σ.low else none
where
  outH1 (τ : AState) (j : Nat) (r : Row γ) (s : RSpec (List γ × Unit) α) (low : Nat) : Option ((List γ × Unit) × α) :=
    match τ.slots[j]? with
    | some (.acc l _) => match τ.heap[l]? with
      | some y => pcond (low = 0 ∧ objNb 0 y ∧ nbL 1 (renL (outX 0 l) τ.slots)) (((osC (oaT true r) osN).dec [y] [y]).bind fun b => (s.dec b [y] (renL (outX 0 l) τ.slots)).bind fun a => bif decide (s.need ≤ 1) then some (b, a) else none)
      | none => none
    | _ => none

theorem outH_ok {P : Program} {rs : List ResultVar} {j : Nat} {r : Row γ} {s : RSpec (List γ × Unit) α} {σ : AState} {q : (List γ × Unit) × α} (h : outH P rs j r s σ = some q) :
    σ.df = [] ∧ ∃ xs, resList P σ rs = some xs ∧ ImpE ⟨xs, σ.heap, σ.low, []⟩ ⟨s.enc q.1 q.2, (osC (oaT true r) osN).enc q.1, σ.low, []⟩ := by
  unfold outH at h
  cases hd0 : σ.df with
  | cons p q => rw [hd0] at h; cases h
  | nil =>
  rw [hd0] at h
  simp only [List.isEmpty_nil, cond_true] at h
  simp only [Option.bind_eq_some_iff] at h
  obtain ⟨xs, hx, h⟩ := h
  refine ⟨rfl, xs, hx, ?_⟩
  unfold outH.outH1 at h
  split at h
  case h_2 => cases h
  rename_i l m hs
  split at h
  case h_2 => cases h
  rename_i y hl
  rw [pcond_some] at h
  obtain ⟨⟨hlow, h1, h2⟩, h⟩ := h
  simp only [Option.bind_eq_some_iff] at h
  obtain ⟨b, hb, a, ha, h⟩ := h
  cases hd : decide (s.need ≤ 1) with
  | false => simp [hd] at h
  | true =>
    simp only [hd, cond_true, Option.some.injEq] at h
    subst h
    rw [hlow]
    have i1 : Imp ⟨xs, σ.heap, 0, []⟩ (immV (gSlot j r.sz true ⟨xs, σ.heap, 0, []⟩) (gSlot j r.sz true ⟨xs, σ.heap, 0, []⟩).slots[j]?) := gSlot_ok.trans immV_ok
    have hlow0 : (immV (gSlot j r.sz true ⟨xs, σ.heap, 0, []⟩) (gSlot j r.sz true ⟨xs, σ.heap, 0, []⟩).slots[j]?).low = 0 := by rw [immV_low]; unfold gSlot; split <;> rfl
    have hdf0 : (immV (gSlot j r.sz true ⟨xs, σ.heap, 0, []⟩) (gSlot j r.sz true ⟨xs, σ.heap, 0, []⟩).slots[j]?).df = [] := by rw [immV_df]; unfold gSlot; split <;> rfl
    generalize hτ : immV (gSlot j r.sz true ⟨xs, σ.heap, 0, []⟩) (gSlot j r.sz true ⟨xs, σ.heap, 0, []⟩).slots[j]? = τ at *
    have i2 : ImpE ⟨τ.slots, τ.heap, 0, []⟩ ⟨renL (outX 0 l) τ.slots, τ.heap.take 0 ++ [y], 0, []⟩ := imp_export_one hl (Nat.zero_le _) (by simp) h1 h2
    have e : τ = ⟨τ.slots, τ.heap, 0, []⟩ := by cases τ; simp only at hlow0 hdf0; subst hlow0 hdf0; rfl
    rw [e] at i1
    refine (i1.e.trans i2).trans ?_
    simp only [List.take_zero, List.nil_append]
    obtain ⟨h5, h6⟩ := (osC (oaT true r) osN).ok [y] 1 _ _ hb
    refine Imp.e (Weak.imp (σ := ⟨renL (outX 0 l) τ.slots, [y], 0, []⟩) (σ' := ⟨s.enc b a, (osC (oaT true r) osN).enc b, 0, []⟩) ⟨⟨⟨rfl, Nat.zero_le _⟩, rfl, dfNb_nil⟩, ?_, ?_⟩)
    · show CoL [y] ((osC (oaT true r) osN).enc b).length _ _
      rw [h6]
      exact s.ok b [y] 1 _ a (of_decide_eq_true hd) ha
    · show CoH [y] ((osC (oaT true r) osN).enc b).length [y] _
      rw [h6]
      exact h5
end handout
end Go.Abs
namespace Go.Abs

def entGh (i : Nat) (imm : Bool) (sz : Nat) (e : Ent) : Ent := fun args H =>
  match args[i]? with
  | some (.lst true _ []) => e (args.set i (.acc H.length 0)) (H ++ [.acc imm sz []])
  | _ => e args H

theorem entGh_ok {P : Program} {f : FuncId} {i : Nat} {imm : Bool} {sz : Nat} {e : Ent} (h : EntOK P f e) : EntOK P f (entGh i imm sz e) := by
  intro args σ r H' he
  unfold entGh at he
  split at he
  · rename_i s hi
    have hc := h (args.set i (.acc σ.heap.length 0)) { σ with heap := σ.heap ++ [.acc imm sz []] } r H' he
    refine ⟨hc.1, fun C φ a w hP S vs hr => ?_⟩
    have S0 : Sim C φ ⟨σ.slots ++ args, σ.heap, σ.low, σ.df⟩ { tmps := a.tmps ++ vs, defers := a.defers } w := { S with slots := by simpa using S.slots.append hr, defers := S.defers }
    have hget : (σ.slots ++ args)[σ.slots.length + i]? = some (.lst true s []) := by
      rw [List.getElem?_append_right (by omega), Nat.add_sub_cancel_left]; exact hi
    obtain ⟨φ', S1⟩ := ghostAcc (σ := ⟨σ.slots ++ args, σ.heap, σ.low, σ.df⟩) (sz := sz) (imm := imm) hget C φ _ w S0
    have hset : (σ.slots ++ args).set (σ.slots.length + i) (.acc σ.heap.length 0) = σ.slots ++ args.set i (.acc σ.heap.length 0) := by
      rw [List.set_append_right _ _ (by omega), Nat.add_sub_cancel_left]
    have hsl := S1.slots
    simp only [hset, Array.toList_append] at hsl
    have hsz : a.tmps.toList.length = σ.slots.length := S.slots.length
    have h1 := hsl.take σ.slots.length
    have h2 := hsl.drop σ.slots.length
    rw [List.take_left' rfl, List.take_left' hsz] at h1
    rw [List.drop_left' rfl, List.drop_left' hsz] at h2
    have S2 : Sim C φ' { σ with heap := σ.heap ++ [.acc imm sz []] } a w := { S1 with slots := h1, defers := S1.defers }
    exact hc.2 C φ' a w hP S2 vs h2
  · exact h args σ r H' he

def entAlt (e e' : Ent) : Ent := fun args H => (e args H).or (e' args H)
theorem entAlt_ok {P : Program} {f : FuncId} {e e' : Ent} (h : EntOK P f e) (h' : EntOK P f e') : EntOK P f (entAlt e e') := by
  intro args σ r H' he
  unfold entAlt at he
  rw [Option.or_eq_some_iff] at he
  rcases he with he | ⟨_, he⟩
  · exact h args σ r H' he
  · exact h' args σ r H' he
end Go.Abs
namespace Go.Abs

section
variable {R : Type} {M : Mach R} {k : List Kt} {σ : AState}
theorem stepZ_move {ops : Array Oper} {dst : Option Tmp} {rest : List Oper} {x} : stepZ M ops dst rest k σ (.move x) = stepE M ops dst rest k σ (opX M.P σ (.move x)) := by rw [← opX_eq]; rfl
theorem stepZ_assign {ops : Array Oper} {dst : Option Tmp} {rest : List Oper} {x} : stepZ M ops dst rest k σ (.assign x) = stepE M ops dst rest k σ (opX M.P σ (.assign x)) := by rw [← opX_eq]; rfl
theorem stepZ_pick {ops : Array Oper} {dst : Option Tmp} {rest : List Oper} {c} {a} {b} : stepZ M ops dst rest k σ (.pick c a b) = stepE M ops dst rest k σ (opX M.P σ (.pick c a b)) := by rw [← opX_eq]; rfl
theorem stepZ_alloc {ops : Array Oper} {dst : Option Tmp} {rest : List Oper} {t} : stepZ M ops dst rest k σ (.alloc t) = stepE M ops dst rest k σ (opX M.P σ (.alloc t)) := by rw [← opX_eq]; rfl
theorem stepZ_box {ops : Array Oper} {dst : Option Tmp} {rest : List Oper} {t} {v} : stepZ M ops dst rest k σ (.box t v) = stepE M ops dst rest k σ (opX M.P σ (.box t v)) := by rw [← opX_eq]; rfl
theorem stepZ_build {ops : Array Oper} {dst : Option Tmp} {rest : List Oper} {t} {ps} : stepZ M ops dst rest k σ (.build t ps) = stepE M ops dst rest k σ (opX M.P σ (.build t ps)) := by rw [← opX_eq]; rfl
theorem stepZ_buildSlice {ops : Array Oper} {dst : Option Tmp} {rest : List Oper} {t} {n} {ps} : stepZ M ops dst rest k σ (.buildSlice t n ps) = stepE M ops dst rest k σ (opX M.P σ (.buildSlice t n ps)) := by rw [← opX_eq]; rfl
theorem stepZ_insert {ops : Array Oper} {dst : Option Tmp} {rest : List Oper} {m} {a} {b} {c} : stepZ M ops dst rest k σ (.insert m a b c) = stepE M ops dst rest k σ (opX M.P σ (.insert m a b c)) := by rw [← opX_eq]; rfl
theorem stepZ_load {ops : Array Oper} {dst : Option Tmp} {rest : List Oper} {t} {a} : stepZ M ops dst rest k σ (.load t a) = stepE M ops dst rest k σ (opX M.P σ (.load t a)) := by rw [← opX_eq]; rfl
theorem stepZ_store {ops : Array Oper} {dst : Option Tmp} {rest : List Oper} {t} {a} {v} : stepZ M ops dst rest k σ (.store t a v) = stepE M ops dst rest k σ (opX M.P σ (.store t a v)) := by rw [← opX_eq]; rfl
theorem stepZ_ready {ops : Array Oper} {dst : Option Tmp} {rest : List Oper} {g} : stepZ M ops dst rest k σ (.ready g) = stepE M ops dst rest k σ (opX M.P σ (.ready g)) := by rw [← opX_eq]; rfl
theorem stepZ_waits {ops : Array Oper} {dst : Option Tmp} {rest : List Oper} {g} : stepZ M ops dst rest k σ (.waits g) = stepE M ops dst rest k σ (opX M.P σ (.waits g)) := by rw [← opX_eq]; rfl
theorem stepZ_nilCheck {ops : Array Oper} {dst : Option Tmp} {rest : List Oper} {x} : stepZ M ops dst rest k σ (.nilCheck x) = stepE M ops dst rest k σ (opX M.P σ (.nilCheck x)) := by rw [← opX_eq]; rfl
theorem stepZ_binOp {ops : Array Oper} {dst : Option Tmp} {rest : List Oper} {o} {t} {x} {y} {u} : stepZ M ops dst rest k σ (.binOp o t x y u) = stepE M ops dst rest k σ (opX M.P σ (.binOp o t x y u)) := by rw [← opX_eq]; rfl
theorem stepZ_unOp {ops : Array Oper} {dst : Option Tmp} {rest : List Oper} {o} {t} {x} : stepZ M ops dst rest k σ (.unOp o t x) = stepE M ops dst rest k σ (opX M.P σ (.unOp o t x)) := by rw [← opX_eq]; rfl
theorem stepZ_convert {ops : Array Oper} {dst : Option Tmp} {rest : List Oper} {s} {d} {x} : stepZ M ops dst rest k σ (.convert s d x) = stepE M ops dst rest k σ (opX M.P σ (.convert s d x)) := by rw [← opX_eq]; rfl
theorem stepZ_sliceToArrayPointer {ops : Array Oper} {dst : Option Tmp} {rest : List Oper} {d} {x} : stepZ M ops dst rest k σ (.sliceToArrayPointer d x) = stepE M ops dst rest k σ (opX M.P σ (.sliceToArrayPointer d x)) := by rw [← opX_eq]; rfl
theorem stepZ_makeInterface {ops : Array Oper} {dst : Option Tmp} {rest : List Oper} {t} {x} : stepZ M ops dst rest k σ (.makeInterface t x) = stepE M ops dst rest k σ (opX M.P σ (.makeInterface t x)) := by rw [← opX_eq]; rfl
theorem stepZ_makeFunc {ops : Array Oper} {dst : Option Tmp} {rest : List Oper} {f} {a} {b} : stepZ M ops dst rest k σ (.makeFunc f a b) = stepE M ops dst rest k σ (opX M.P σ (.makeFunc f a b)) := by rw [← opX_eq]; rfl
theorem stepZ_makeMap {ops : Array Oper} {dst : Option Tmp} {rest : List Oper} {t} {r} : stepZ M ops dst rest k σ (.makeMap t r) = stepE M ops dst rest k σ (opX M.P σ (.makeMap t r)) := by rw [← opX_eq]; rfl
theorem stepZ_makeChan {ops : Array Oper} {dst : Option Tmp} {rest : List Oper} {t} {x} : stepZ M ops dst rest k σ (.makeChan t x) = stepE M ops dst rest k σ (opX M.P σ (.makeChan t x)) := by rw [← opX_eq]; rfl
theorem stepZ_makeSlice {ops : Array Oper} {dst : Option Tmp} {rest : List Oper} {t} {l} {c} : stepZ M ops dst rest k σ (.makeSlice t l c) = stepE M ops dst rest k σ (opX M.P σ (.makeSlice t l c)) := by rw [← opX_eq]; rfl
theorem stepZ_slice {ops : Array Oper} {dst : Option Tmp} {rest : List Oper} {t} {x} {l} {h} {m} : stepZ M ops dst rest k σ (.slice t x l h m) = stepE M ops dst rest k σ (opX M.P σ (.slice t x l h m)) := by rw [← opX_eq]; rfl
theorem stepZ_fieldAddr {ops : Array Oper} {dst : Option Tmp} {rest : List Oper} {t} {x} {f} : stepZ M ops dst rest k σ (.fieldAddr t x f) = stepE M ops dst rest k σ (opX M.P σ (.fieldAddr t x f)) := by rw [← opX_eq]; rfl
theorem stepZ_field {ops : Array Oper} {dst : Option Tmp} {rest : List Oper} {t} {x} {f} : stepZ M ops dst rest k σ (.field t x f) = stepE M ops dst rest k σ (opX M.P σ (.field t x f)) := by rw [← opX_eq]; rfl
theorem stepZ_indexAddr {ops : Array Oper} {dst : Option Tmp} {rest : List Oper} {t} {x} {i} : stepZ M ops dst rest k σ (.indexAddr t x i) = stepE M ops dst rest k σ (opX M.P σ (.indexAddr t x i)) := by rw [← opX_eq]; rfl
theorem stepZ_index {ops : Array Oper} {dst : Option Tmp} {rest : List Oper} {t} {x} {i} : stepZ M ops dst rest k σ (.index t x i) = stepE M ops dst rest k σ (opX M.P σ (.index t x i)) := by rw [← opX_eq]; rfl
theorem stepZ_lookup {ops : Array Oper} {dst : Option Tmp} {rest : List Oper} {t} {x} {i} {b} : stepZ M ops dst rest k σ (.lookup t x i b) = stepE M ops dst rest k σ (opX M.P σ (.lookup t x i b)) := by rw [← opX_eq]; rfl
theorem stepZ_mapUpdate {ops : Array Oper} {dst : Option Tmp} {rest : List Oper} {t} {m} {kk} {v} : stepZ M ops dst rest k σ (.mapUpdate t m kk v) = stepE M ops dst rest k σ (opX M.P σ (.mapUpdate t m kk v)) := by rw [← opX_eq]; rfl
theorem stepZ_mapEntry {ops : Array Oper} {dst : Option Tmp} {rest : List Oper} {t} {m} {kk} : stepZ M ops dst rest k σ (.mapEntry t m kk) = stepE M ops dst rest k σ (opX M.P σ (.mapEntry t m kk)) := by rw [← opX_eq]; rfl
theorem stepZ_entryStore {ops : Array Oper} {dst : Option Tmp} {rest : List Oper} {t} {m} {s} {v} : stepZ M ops dst rest k σ (.entryStore t m s v) = stepE M ops dst rest k σ (opX M.P σ (.entryStore t m s v)) := by rw [← opX_eq]; rfl
theorem stepZ_range {ops : Array Oper} {dst : Option Tmp} {rest : List Oper} {t} {x} : stepZ M ops dst rest k σ (.range t x) = stepE M ops dst rest k σ (opX M.P σ (.range t x)) := by rw [← opX_eq]; rfl
theorem stepZ_next {ops : Array Oper} {dst : Option Tmp} {rest : List Oper} {i} {b} : stepZ M ops dst rest k σ (.next i b) = stepE M ops dst rest k σ (opX M.P σ (.next i b)) := by rw [← opX_eq]; rfl
theorem stepZ_entry {ops : Array Oper} {dst : Option Tmp} {rest : List Oper} {i} : stepZ M ops dst rest k σ (.entry i) = stepE M ops dst rest k σ (opX M.P σ (.entry i)) := by rw [← opX_eq]; rfl
theorem stepZ_typeAssert {ops : Array Oper} {dst : Option Tmp} {rest : List Oper} {x} {t} {u} {b} : stepZ M ops dst rest k σ (.typeAssert x t u b) = stepE M ops dst rest k σ (opX M.P σ (.typeAssert x t u b)) := by rw [← opX_eq]; rfl
theorem stepZ_extract {ops : Array Oper} {dst : Option Tmp} {rest : List Oper} {t} {i} : stepZ M ops dst rest k σ (.extract t i) = stepE M ops dst rest k σ (opX M.P σ (.extract t i)) := by rw [← opX_eq]; rfl
theorem stepZ_call {ops : Array Oper} {dst : Option Tmp} {rest : List Oper} {c} : stepZ M ops dst rest k σ (.call c) = stepE M ops dst rest k σ (opX M.P σ (.call c)) := by rw [← opX_eq]; rfl
theorem stepZ_go {ops : Array Oper} {dst : Option Tmp} {rest : List Oper} {c} : stepZ M ops dst rest k σ (.go c) = stepE M ops dst rest k σ (opX M.P σ (.go c)) := by rw [← opX_eq]; rfl
theorem stepZ_send {ops : Array Oper} {dst : Option Tmp} {rest : List Oper} {c} {x} : stepZ M ops dst rest k σ (.send c x) = stepE M ops dst rest k σ (opX M.P σ (.send c x)) := by rw [← opX_eq]; rfl
theorem stepZ_recv {ops : Array Oper} {dst : Option Tmp} {rest : List Oper} {t} {c} {b} : stepZ M ops dst rest k σ (.recv t c b) = stepE M ops dst rest k σ (opX M.P σ (.recv t c b)) := by rw [← opX_eq]; rfl
theorem stepZ_select {ops : Array Oper} {dst : Option Tmp} {rest : List Oper} {c} {b} : stepZ M ops dst rest k σ (.select c b) = stepE M ops dst rest k σ (opX M.P σ (.select c b)) := by rw [← opX_eq]; rfl
theorem stepZ_defer {ops : Array Oper} {dst : Option Tmp} {rest : List Oper} {c : Call} : stepZ M ops dst rest k σ (.defer c) = stepF M ops dst rest k σ (deferOf σ (.defer c)) := rfl
theorem stepZ_panic {ops : Array Oper} {dst : Option Tmp} {rest : List Oper} {x : Operand} : stepZ M ops dst rest k σ (.panic x) = stepQ M k σ (panOf σ (.panic x)) := rfl
theorem pcond_refl {α : Type} {a : α} {x : Option R} : pcond (a = a) x = x := by simp [pcond]
theorem stepDC_opX {p : List Nat} {o : Oper} {rest : List Oper} {j : Nat} {tr : List Tr} : stepDC M p o rest j tr k σ none = stepDE M p o.dst rest j tr k σ (opX M.P σ o.op) := by rw [← opX_eq]; rfl
end

section
variable {R : Type} {M : Mach R} {k : List Kt} {σ : AState}
theorem stepE_cond {ops : Array Oper} {dst : Option Tmp} {rest : List Oper} {b : Bool} {x y : Option Eff} : stepE M ops dst rest k σ (bif b then x else y) = bif b then stepE M ops dst rest k σ x else stepE M ops dst rest k σ y := by cases b <;> rfl
theorem stepA_cond {ops : Array Oper} {dst : Option Tmp} {rest : List Oper} {b : Bool} {x y : Option (AV × List AObj)} : stepA M ops dst rest k σ (bif b then x else y) = bif b then stepA M ops dst rest k σ x else stepA M ops dst rest k σ y := by cases b <;> rfl
theorem stepDE_cond {p : List Nat} {dst : Option Tmp} {rest : List Oper} {j : Nat} {tr : List Tr} {b : Bool} {x y : Option Eff} : stepDE M p dst rest j tr k σ (bif b then x else y) = bif b then stepDE M p dst rest j tr k σ x else stepDE M p dst rest j tr k σ y := by cases b <;> rfl
theorem stepDA_cond {p : List Nat} {dst : Option Tmp} {rest : List Oper} {j : Nat} {tr : List Tr} {b : Bool} {x y : Option AV} : stepDA M p dst rest j tr k σ (bif b then x else y) = bif b then stepDA M p dst rest j tr k σ x else stepDA M p dst rest j tr k σ y := by cases b <;> rfl
end
theorem undef_eq : undef = .tuple #[] := rfl
theorem not_true' : (¬ True) = False := by simp
theorem not_false' : (¬ False) = True := by simp
theorem int_nonneg (n : Nat) : (0 ≤ (n : Int)) = True := by simp
theorem int_nonneg0 : ((0 : Int) ≤ 0) = True := by simp
theorem cond_not' {α : Type} {b : Bool} {x y : α} : (bif !b then x else y) = bif b then y else x := by cases b <;> rfl
theorem cond_same {α : Type} {b : Bool} {x : α} : (bif b then x else x) = x := by cases b <;> rfl
theorem cond_tf {b : Bool} : (bif b then true else false) = b := by cases b <;> rfl
theorem cond_ft {b : Bool} : (bif b then false else true) = !b := by cases b <;> rfl
theorem beq_tt {b : Bool} : (b == true) = b := by cases b <;> rfl
theorem beq_ff {b : Bool} : (b == false) = !b := by cases b <;> rfl
theorem beq_tt' {b : Bool} : (true == b) = b := by cases b <;> rfl
theorem beq_ff' {b : Bool} : (false == b) = !b := by cases b <;> rfl
theorem bind_ite' {α β : Type} {p : Prop} [Decidable p] {a b : Option α} {f : α → Option β} : (if p then a else b).bind f = bif decide p then a.bind f else b.bind f := by
  by_cases h : p <;> simp [h]
theorem mp_get {α β : Type} (f : α → β) (xs : List α) (i : Nat) : (mp f xs)[i]? = Option.map f xs[i]? := by rw [mp_eq, List.getElem?_map]
theorem mp_set {α β : Type} (f : α → β) (xs : List α) (i : Nat) (x : α) : (mp f xs).set i (f x) = mp f (xs.set i x) := by rw [mp_eq, mp_eq, List.map_set]
theorem pcond_room {R : Type} {a b : Nat} {x : Option R} : pcond (room a b) x = bif decide (a * b ≤ 17592186044416) then x else none := by
  unfold room
  exact pcond_dec
theorem pcond_ror {R : Type} {a b : Nat} {x : Option R} : pcond (a = 0 ∨ 0 < b) x = bif decide (a = 0 ∨ 0 < b) then x else none := pcond_dec
theorem pcond_ilt {R : Type} {a b : Int} {x : Option R} : pcond (a < b) x = bif decide (a < b) then x else none := pcond_dec

-- bytes
theorem sb_size (s : Str) : (sb s).size = s.length := by simp [sb, ByteArray.size]
theorem sb_get (s : Str) (i : Nat) : (sb s)[i]? = s[i]? := by
  by_cases h : i < s.length
  · have h' : i < (sb s).size := by rw [sb_size]; exact h
    rw [List.getElem?_eq_getElem h, getElem?_pos (sb s) i h']
    rfl
  · have h' : ¬ i < (sb s).size := by rw [sb_size]; exact h
    rw [List.getElem?_eq_none (by omega), getElem?_neg (sb s) i h']
theorem sb_idx (s : Str) (n : Int) : idxB (sb s) n = idxA s n := by
  simp only [idxB, sb_get]; rfl
theorem sb_toList (s : Str) : (sb s).toList = s := by
  rw [ByteArray.toList_eq]; rfl
theorem sb_extract (s : Str) (a b : Nat) : (sb s).extract a b = sb ((s.take b).drop a) := by
  apply ByteArray.ext
  simp only [sb, ByteArray.data_extract]
  apply Array.ext'
  simp [Array.toList_extract, List.extract]
  rw [List.drop_take]
theorem sb_append (s t : Str) : sb s ++ sb t = sb (s ++ t) := by
  apply ByteArray.ext
  simp [sb]
theorem sb_empty : ByteArray.empty = sb [] := rfl
theorem sb_emptyL : (⟨#[]⟩ : ByteArray) = sb [] := rfl
theorem sb_lit (l : List UInt8) : (⟨l.toArray⟩ : ByteArray) = sb l := rfl

attribute [go_sem] run_nil run_blk run_ops_nil run_dops_nil behind exitK_some exitK_none stepIf_true stepIf_false run_at stepN_skip stepN_region stepN_draw stepN_seq stepN_cond stepN_block stepN_loop stepN_exit stepN_scope stepN_label stepN_ret stepN_range stepR_func stepR1_some stepR1_none stepR1_bind stepR1_cond stepJ_none stepJ_ret stepJ_exit stepJ_cond retK rdIn isRd run_rb run_rd beginX beginO stP setPs pcond_refl
  run_cut run_lp run_ops run_dops stepW_true stepW_false stepC_some stepC_none stepY_some stepY_none stepZ_move stepZ_assign stepZ_pick stepZ_alloc stepZ_box stepZ_build stepZ_buildSlice stepZ_insert stepZ_load stepZ_store stepZ_ready stepZ_waits stepZ_nilCheck stepZ_binOp stepZ_unOp stepZ_convert stepZ_sliceToArrayPointer stepZ_makeInterface stepZ_makeFunc stepZ_makeMap stepZ_makeChan stepZ_makeSlice stepZ_slice stepZ_fieldAddr stepZ_field stepZ_indexAddr stepZ_index stepZ_lookup stepZ_mapUpdate stepZ_mapEntry stepZ_entryStore stepZ_range stepZ_next stepZ_entry stepZ_typeAssert stepZ_extract stepZ_call stepZ_go stepZ_send stepZ_recv stepZ_select stepZ_defer stepZ_panic stepP_ret stepP_pan stepP_none stepP_bind stepP_cond stepF_some stepQ_some panK deferOf panOf AState.dfr dfNb_nil_eq dfNb_cons_eq stepDP_ret stepDP_pan stepDP_none stepDP_bind trIdle restP_nil yieldOf stepE_none stepE_some stepE_bind stepE_ite stepA_some stepA_none stepA_bind stepDW_true stepDW_false stepDC_some stepDC_opX stepDE_none stepDE_idle stepDE_some stepDE_bind stepDE_ite stepDA_some stepDA_none stepDA_bind stepE_cond stepA_cond stepDE_cond stepDA_cond
  sub child setB gset pcond_true pcond_and pcond_room pcond_ror pcond_ilt
attribute [go_sem low] stepIf_sym stepW_sym stepDW_sym
attribute [go_sem] mapO_nil mapO_cons mapO_append bind_map' bind_bind' bind_cond bind_none' bind_some' idxA_mp mp_length mp_take mp_drop mp_get mp_set bind_ite'  mp_isEmpty idxA_zero idxA_one idxA_two szOK dL tyL_enc tyL_dec dS_sb dI_int dB_bool dS_empty dS_emptyL tyI_enc tyI_dec tyB_enc tyB_dec tyS_enc tyS_dec dF_lit tyF_enc tyF_dec
  dI1 dB1 dS1 rowI_f rowU_f rowB_f rowS_f mapO_cells1 dC tyC_enc tyC_dec tyU_enc tyU_dec d2 d3 d4 d5 ty2_enc ty2_dec ty3_enc ty3_dec ty4_enc ty4_dec ty5_enc ty5_dec outR ent0 ent1 ent2 ent3 ent4 ent5 ent6 entD tabA tabD zA_f zK_f zT_f zL_f dLt zipZ oD_f oK_f oC_f oT_f oA_f zipO nrmZ gSlot gCell gSlots gCells nrmN tabN selO isLstS selM isMapS
  ixA ixS ldA ldV vwL stA opX cond_not' cond_same cond_tf cond_ft beq_tt beq_ff beq_tt' beq_ff' sb_size sb_idx sb_get sb_toList sb_append sb_extract sb_empty sb_emptyL sb_lit
attribute [go_sem] rawLd ixP selI ktab kcell nextEff
attribute [go_sem] immV_f immO_f fzX_f entE entR tabE tabI fzOne fzAll tabF rp1 rpV rpO cI_f cB_f cS_f cL_f cF_f dL1 dF1 dP tyP_enc tyP_dec dK1 dK2 dK3 tyK1_f tyK2_f tyK3_f daT dcT oaT_f ocT_f osN_f osC_f dosC rsN_f rsT_f drsT rsA_f drsA tupOf outG
  asN_f asT_f dasT asP_f dasP asA_f dasA nameOf nameAt nodupB getAt entG entGh entAlt Option.or_none Option.none_or outH outH.outH1 setAll backTo AV.ren renL renR outX
attribute [go_sem] wantedA calleeOf opEff AState.ev AState.put applyUps AV.scalar constAV fillAV rowsOf binAV nilEff eqEff aggEff eqB eq1 bound tightOf sliceAV srcRows appendAV lenAV builtinEff
  resAV resList resOne frz frzL chunks undef_eq
attribute [go_sem] List.all_cons List.all_nil Bool.and_true Bool.true_and Bool.and_false Bool.false_and if_true if_false List.getD_cons_zero List.getD_cons_succ List.length_cons List.length_nil List.replicate List.cons_append List.nil_append
  List.set_cons_zero List.set_cons_succ reduceCtorEq and_true true_and List.append_nil Nat.zero_add List.getElem?_cons_zero List.getElem?_cons_succ List.getElem?_nil Option.bind_some List.drop_zero List.drop_succ_cons List.drop_nil
  List.take_succ_cons List.take_zero List.take_nil ne_eq not_true' not_false' Option.isSome_some Option.isSome_none Option.isNone_some Option.isNone_none List.map_cons List.map_nil List.getElem?_toArray Bool.not_true Bool.not_false cond_true cond_false
  Int.toNat_natCast int_nonneg int_nonneg0 true_or or_true and_self false_or or_false List.length_map List.set_nil decide_true decide_false Bool.not_not and_false false_and
  List.length_append List.length_set List.length_replicate beq_self_eq_true
attribute [go_sem] compatP_eq opsAt regOps Eff.idle pushTr indepB disjointB List.contains_cons List.contains_nil List.isEmpty_nil List.isEmpty_cons Bool.or_false Bool.false_or Bool.or_true Bool.true_or Nat.le_refl Bool.false_eq_true Int.cast_ofNat_Int Int.toNat_zero Int.toNat_one List.flatten_cons List.flatten_nil
  List.cons.injEq Option.map_some Option.map_none
theorem nbR_append {n : Nat} : ∀ {a b : List (List AV)}, nbR n (a ++ b) = (nbR n a ∧ nbR n b)
  | [], _ => by simp [nbR]
  | x :: a, b => by simp [nbR, nbR_append (a := a), and_assoc]
theorem loadAV_lit0 {n : Nat} {c : AV} {cs : List AV} : loadAV false n (c :: cs) = some c := rfl
theorem loadAV_lit1 {n : Nat} {c : AV} {cs : List AV} : loadAV true n (c :: cs) = if n ≤ (c :: cs).length then some (.agg ((c :: cs).take n)) else none := rfl
theorem cellsOf_lit {c : AV} {cs : List AV} : cellsOf (.agg (c :: cs)) = if (c :: cs).all AV.scalar then some (c :: cs) else none := rfl
theorem cellsOf_one : (∀ b, cellsOf (.bool b) = some [.bool b]) ∧ (∀ k n, cellsOf (.int k n) = some [.int k n]) ∧ (∀ s, cellsOf (.str s) = some [.str s]) ∧ (∀ t sz r, cellsOf (.lst t sz r) = some [.lst t sz r]) ∧
    (∀ l n, cellsOf (.acc l n) = some [.acc l n]) ∧ (∀ a b c d e, cellsOf (.own a b c d e) = some [.own a b c d e]) ∧ (∀ a b, cellsOf (.ptr a b) = some [.ptr a b]) ∧ (∀ a, cellsOf (.map a) = some [.map a]) ∧
    (∀ cs, cellsOf (.pp cs) = some [.pp cs]) ∧ (∀ fn f c, cellsOf (.func fn f c) = some [.func fn f c]) ∧ (∀ t x, cellsOf (.iface t x) = some [.iface t x]) ∧ cellsOf (.raw .nilFunc) = some [.raw .nilFunc] ∧ cellsOf (.raw .nilIface) = some [.raw .nilIface] ∧
    (∀ a, cellsOf (.raw (.pointer a)) = some [.raw (.pointer a)]) ∧ (∀ a, cellsOf (.raw (.map a)) = some [.raw (.map a)]) :=
  ⟨fun _ => rfl, fun _ _ => rfl, fun _ => rfl, fun _ _ _ => rfl, fun _ _ => rfl, fun _ _ _ _ _ => rfl, fun _ _ => rfl, fun _ => rfl, fun _ => rfl, fun _ _ _ => rfl, fun _ _ => rfl, rfl, rfl, fun _ => rfl, fun _ => rfl⟩
theorem splice_lit {c : AV} {cs : List AV} {o : Nat} {xs : List AV} : splice (c :: cs) o xs = (c :: cs).take o ++ xs ++ (c :: cs).drop (o + xs.length) := rfl
theorem splice_all {cs xs : List AV} (h : xs.length = cs.length) : splice cs 0 xs = xs := by
  simp only [splice, List.take_zero, List.nil_append, Nat.zero_add, h, List.drop_length, List.append_nil]
attribute [go_sem] loadAV_lit0 loadAV_lit1 cellsOf_lit cellsOf_one splice_all
attribute [go_sem low] splice_lit
attribute [go_sem] AV.nb nbL nbR objNb nbR_append
theorem nb_if {n : Nat} {c : Prop} [Decidable c] {a : AV} : AV.nb n (if c then a else .any) = (¬ c ∨ AV.nb n a) := by
  by_cases h : c <;> simp [h, AV.nb]
theorem dL_if {α : Type} {r : Row α} {H : List AObj} {c : Prop} [Decidable c] {a : AV} : dL r H (if c then a else .any) = bif decide c then dL r H a else none := by
  by_cases h : c <;> simp [h, dL]
attribute [go_sem high] nb_if dL_if
attribute [go_sem] or_true
theorem rp1_of_nb {l : Nat} {cs : List AV} : ∀ x : AV, x.nb 0 → rp1 l cs x = x
  | .ptr _ _, h => absurd h (Nat.not_lt_zero _)
  | .any, _ | .bool _, _ | .int _ _, _ | .str _, _ | .raw _, _ | .agg _, _ | .tup _, _ | .lst _ _ _, _ | .acc _ _, _ | .own _ _ _ _ _, _ | .map _, _ | .pp _, _ | .func _ _ _, _ | .iface _ _, _ => rfl
theorem rp1L_of_nb {l : Nat} {cs : List AV} : ∀ xs : List AV, nbL 0 xs → xs.map (rp1 l cs) = xs
  | [], _ => rfl
  | x :: xs, h => by rw [List.map_cons, rp1_of_nb x h.1, rp1L_of_nb xs h.2]
theorem rpV_of_nb {l : Nat} {cs : List AV} : ∀ x : AV, x.nb 0 → rpV l cs x = x
  | .ptr _ _, h => absurd h (Nat.not_lt_zero _)
  | .func _ f c, h => by simp only [rpV]; rw [rp1L_of_nb f h.1, rp1L_of_nb c h.2]
  | .any, _ | .bool _, _ | .int _ _, _ | .str _, _ | .raw _, _ | .agg _, _ | .tup _, _ | .lst _ _ _, _ | .acc _ _, _ | .own _ _ _ _ _, _ | .map _, _ | .pp _, _ | .iface _ _, _ => rfl
theorem rpVL_of_nb {l : Nat} {cs : List AV} : ∀ xs : List AV, nbL 0 xs → xs.map (rpV l cs) = xs
  | [], _ => rfl
  | x :: xs, h => by rw [List.map_cons, rpV_of_nb x h.1, rpVL_of_nb xs h.2]
end Go.Abs
namespace Go.Abs
def flatFits (P : Program) : Nat → List Field → List AV → List AV → Prop
  | _, [], [], [] => True
  | o, f :: fs, c :: cs, d :: ds => (f.name ≠ "_" ∧ f.offset = o ∧ P.plainKey f.type = true ∧ (match c, d with
    | .int k _, .int k' _ => k = k' ∧ ∃ q, P.underlying f.type = some (.int q)
    | .bool _, .bool _ => P.underlying f.type = some .bool
    | .str _, .str _ => P.underlying f.type = some .string
    | _, _ => False)) ∧ flatFits P (o + 1) fs cs ds
  | _, _, _, _ => False

theorem eqFields_flat {P : Program} {E : Env} {vs us : Array Value} {w : World} {d : Nat} : ∀ (fs : List Field) (o : Nat) (cs ds : List AV), flatFits P o fs cs ds → RepL E cs (vs.toList.drop o) → RepL E ds (us.toList.drop o) →
    (Op.eqFields (d + 1) vs us fs).run P w = .ok (eqB cs ds) w
  | [], _, [], [], _, _, _ => by simp [Op.eqFields, eqB]
  | [], _, _ :: _, _, h, _, _ => h.elim
  | [], _, [], _ :: _, h, _, _ => h.elim
  | _ :: _, _, [], _, h, _, _ => h.elim
  | _ :: _, _, _ :: _, [], h, _, _ => h.elim
  | f :: fs, o, c :: cs, e :: ds, ⟨⟨h1, h2, h3, h4⟩, h5⟩, r1, r2 => by
    obtain ⟨u, us', e1, r1, r1'⟩ := r1
    obtain ⟨v, vs', e2, r2, r2'⟩ := r2
    have g1 : vs[f.offset]? = some u := by
      have := congrArg (fun l : List Value => l[0]?) e1
      rw [h2]; simpa using this
    have g2 : us[f.offset]? = some v := by
      have := congrArg (fun l : List Value => l[0]?) e2
      rw [h2]; simpa using this
    have t1 : vs.toList.drop (o + 1) = us' := by
      have := congrArg List.tail e1
      simpa using this
    have t2 : us.toList.drop (o + 1) = vs' := by
      have := congrArg List.tail e2
      simpa using this
    have ih := eqFields_flat (d := d) (w := w) fs (o + 1) cs ds h5 (by rw [t1]; exact r1') (by rw [t2]; exact r2')
    have hone : (Op.equalIn (d + 1) f.type u v).run P w = .ok (eq1 c e) w := by
      cases c <;> cases e <;> try exact h4.elim
      · cases r1; cases r2; exact run_equalIn_bool _ d f.type _ _ h4
      · obtain ⟨rfl, q, hq⟩ := h4
        cases r1; cases r2; exact run_equalIn_int _ d f.type _ q _ _ hq
      · cases r1; cases r2; exact run_equalIn_string _ d f.type _ _ h4
    simp only [Op.eqFields, h1, ne_eq, not_false_eq_true, if_true, Sem.run_bind, run_part_plain w h3 g1, run_part_plain w h3 g2, hone, Result.andThen_ok, eqB]
    cases eq1 c e
    · simp
    · simpa using ih

theorem aggEq_flat {P : Program} {t : TypeId} {cs ds : List AV} (ht : P.underlying t = some (.struct (P.fieldsOf t))) (hp : P.stoodInHeld t = false) (hg : P.eqGuardType P.depth t = false)
    (hf : flatFits P 0 (P.fieldsOf t).toList cs ds) : AggEq P t cs ds := by
  intro E vs us w x y h1 h2
  have hq : (Op.equal t (.agg vs) (.agg us)).run P w = .ok (eqB cs ds) w := by
    show (Op.equalIn (9999 + 1) t _ _).run P w = _
    rw [run_equalIn_struct w 9999 t vs us ht hp]
    exact eqFields_flat (d := 9998) _ 0 cs ds hf (by simpa using h1) (by simpa using h2)
  constructor
  · simp [eqGuard, binOp, hg, hq]
  · simp [eqGuard, binOp, hg, hq]

end Go.Abs
namespace Go.Abs

mutual
theorem ren_congr {τ τ' : Nat → Nat} {n : Nat} (h : ∀ l, l < n → τ l = τ' l) : ∀ x : AV, x.nb n → x.ren τ = x.ren τ'
  | .agg cs, k | .tup cs, k | .pp cs, k => by simp only [AV.ren]; rw [renL_congr h cs k]
  | .lst _ _ rows, k => by simp only [AV.ren]; rw [renR_congr h rows k]
  | .acc l _, k | .own l _ _ _ _, k | .ptr l _, k | .map l, k => by simp only [AV.ren]; rw [h l k]
  | .func _ f c, k => by simp only [AV.ren]; rw [renL_congr h f k.1, renL_congr h c k.2]
  | .iface _ x, k => by simp only [AV.ren]; rw [ren_congr h x k]
  | .any, _ | .bool _, _ | .int _ _, _ | .str _, _ | .raw _, _ => rfl
theorem renL_congr {τ τ' : Nat → Nat} {n : Nat} (h : ∀ l, l < n → τ l = τ' l) : ∀ xs : List AV, nbL n xs → renL τ xs = renL τ' xs
  | [], _ => rfl
  | x :: xs, k => by simp only [renL]; rw [ren_congr h x k.1, renL_congr h xs k.2]
theorem renR_congr {τ τ' : Nat → Nat} {n : Nat} (h : ∀ l, l < n → τ l = τ' l) : ∀ xs : List (List AV), nbR n xs → renR τ xs = renR τ' xs
  | [], _ => rfl
  | x :: xs, k => by simp only [renR]; rw [renL_congr h x k.1, renR_congr h xs k.2]
end
mutual
theorem nb_ren {τ : Nat → Nat} {n m : Nat} (h : ∀ l, l < n → τ l < m) : ∀ x : AV, x.nb n → (x.ren τ).nb m
  | .agg cs, k | .tup cs, k | .pp cs, k => nbL_ren h cs k
  | .lst _ _ rows, k => nbR_ren h rows k
  | .acc l _, k | .own l _ _ _ _, k | .ptr l _, k | .map l, k => h l k
  | .func _ f c, k => ⟨nbL_ren h f k.1, nbL_ren h c k.2⟩
  | .iface _ x, k => nb_ren h x k
  | .any, _ | .bool _, _ | .int _ _, _ | .str _, _ | .raw _, _ => trivial
theorem nbL_ren {τ : Nat → Nat} {n m : Nat} (h : ∀ l, l < n → τ l < m) : ∀ xs : List AV, nbL n xs → nbL m (renL τ xs)
  | [], _ => trivial
  | x :: xs, k => ⟨nb_ren h x k.1, nbL_ren h xs k.2⟩
theorem nbR_ren {τ : Nat → Nat} {n m : Nat} (h : ∀ l, l < n → τ l < m) : ∀ xs : List (List AV), nbR n xs → nbR m (renR τ xs)
  | [], _ => trivial
  | x :: xs, k => ⟨nbL_ren h x k.1, nbR_ren h xs k.2⟩
end
theorem objRen_congr {τ τ' : Nat → Nat} {n : Nat} (h : ∀ l, l < n → τ l = τ' l) (x : AObj) (k : objNb n x) : x.ren τ = x.ren τ' := by
  cases x with
  | cells cs => simp only [AObj.ren]; rw [renL_congr h cs k]
  | acc imm sz rows => simp only [AObj.ren]; rw [renR_congr h rows k]
  | map es =>
    simp only [AObj.ren]
    congr 1
    refine List.map_congr_left fun p hp => ?_
    rw [ren_congr h _ (k p hp).1, ren_congr h _ (k p hp).2]
  | loop lk slots st pend => simp only [AObj.ren]; rw [renL_congr h slots k]
  | iter s p => rfl
  | dead => rfl
theorem Co1.sub_nil {n : Nat} {x y : AV} (h : Co1 [] n x y) : Sub x y := by
  rcases h with h | ⟨l, m, sz, rows, _, h, _⟩
  · exact h.1
  · simp at h
theorem CoL1.sub_nil {n : Nat} : ∀ {xs ys : List AV}, CoL1 [] n xs ys → SubL xs ys
  | [], _, rfl => SubL.nil
  | _ :: _, _, ⟨_, _, rfl, h, hs⟩ => SubL.cons h.sub_nil hs.sub_nil
theorem Co.sub_nil {n : Nat} {x y : AV} (h : Co [] n x y) : Sub x y := by
  rcases h with h | ⟨cs, ds, rfl, rfl, h⟩
  · exact h.sub_nil
  · rintro E v ⟨vs, rfl, hv⟩
    exact ⟨vs, rfl, h.sub_nil E _ hv⟩
theorem SubL.func {f : Fn} {xs ys : List AV} (h : SubL xs ys) : Sub (.func f [] xs) (.func f [] ys) := by
  rintro E v ⟨a, b, rfl, h1, h2⟩
  exact ⟨a, b, rfl, h1, h E _ h2⟩

abbrev Lens := Nat → Nat
def atN (ρ : List Nat) (k : Nat) : Nat := ρ.getD k 0
def Cov (ρ : List Nat) (need n : Nat) : Prop := ∀ k, k < need → ∃ l, ρ[k]? = some l ∧ l < n
theorem Cov.mono {ρ : List Nat} {a b n : Nat} (h : Cov ρ b n) (k : a ≤ b) : Cov ρ a n := fun i hi => h i (by omega)
theorem Cov.lt {ρ : List Nat} {a n : Nat} (h : Cov ρ a n) : ∀ l, l < a → atN ρ l < n := by
  intro l hl
  obtain ⟨k, hk, hn⟩ := h l hl
  unfold atN; rw [List.getD, hk]; exact hn
theorem atN_of {ρ : List Nat} {k l : Nat} (h : ρ[k]? = some l) : atN ρ k = l := by unfold atN; rw [List.getD, h]; rfl

section specs
variable {α β γ δ : Type}
structure VL (γ : Type) where
  enc : Lens → γ → List AV
  dec : List Nat → Lens → List AV → Option γ
  need : Nat
  nb : ∀ L g, nbL need (enc L g)
  ok : ∀ ρ L vs g, dec ρ L vs = some g → SubL vs (renL (atN ρ) (enc L g))
def dvlN : List AV → Option Unit
  | [] => some ()
  | _ => none
def vlN : VL Unit where
  enc _ _ := []
  dec _ _ := dvlN
  need := 0
  nb _ _ := trivial
  ok ρ L vs g h := by
    unfold dvlN at h
    split at h
    · exact SubL.nil
    · cases h
def dvlT (t : Ty γ) (s : VL δ) (ρ : List Nat) (L : Lens) : List AV → Option (γ × δ)
  | x :: xs => (t.dec [] x).bind fun y => (s.dec ρ L xs).bind fun a => some (y, a)
  | [] => none
def vlT (t : Ty γ) (s : VL δ) : VL (γ × δ) where
  enc L g := t.enc g.1 :: s.enc L g.2
  dec := dvlT t s
  need := s.need
  nb L g := ⟨t.nb _ _, s.nb L g.2⟩
  ok ρ L vs g h := by
    unfold dvlT at h
    split at h
    · simp only [Option.bind_eq_some_iff, Option.some.injEq] at h
      obtain ⟨y, hy, a, ha, rfl⟩ := h
      refine SubL.cons ?_ (s.ok ρ L _ _ ha)
      rw [ren_of_nb _ _ (t.nb 0 y)]
      exact (t.ok [] 0 _ _ hy).sub_nil
    · cases h
def dvlP (k : Nat) (s : VL δ) (ρ : List Nat) (L : Lens) : List AV → Option δ
  | .ptr l off :: xs => bif decide (off = 0 ∧ ρ[k]? = some l) then s.dec ρ L xs else none
  | _ => none
def vlP (k : Nat) (s : VL δ) : VL δ where
  enc L g := .ptr k 0 :: s.enc L g
  dec := dvlP k s
  need := max (k + 1) s.need
  nb L g := ⟨show k < _ by omega, nbL_le (by omega) _ (s.nb L g)⟩
  ok ρ L vs g h := by
    unfold dvlP at h
    split at h
    · rename_i l off xs
      cases hc : decide (off = 0 ∧ ρ[k]? = some l) with
      | false => simp [hc] at h
      | true =>
        simp only [hc, cond_true] at h
        obtain ⟨rfl, hc'⟩ := of_decide_eq_true hc
        refine SubL.cons ?_ (s.ok ρ L _ _ h)
        simp only [AV.ren, atN_of hc']
        exact Sub.refl _
    · cases h
def dvlM (k : Nat) (s : VL δ) (ρ : List Nat) (L : Lens) : List AV → Option δ
  | .map l :: xs => bif decide (ρ[k]? = some l) then s.dec ρ L xs else none
  | _ => none
def vlM (k : Nat) (s : VL δ) : VL δ where
  enc L g := .map k :: s.enc L g
  dec := dvlM k s
  need := max (k + 1) s.need
  nb L g := ⟨show k < _ by omega, nbL_le (by omega) _ (s.nb L g)⟩
  ok ρ L vs g h := by
    unfold dvlM at h
    split at h
    · rename_i l xs
      cases hc : decide (ρ[k]? = some l) with
      | false => simp [hc] at h
      | true =>
        simp only [hc, cond_true] at h
        have hc := of_decide_eq_true hc
        refine SubL.cons ?_ (s.ok ρ L _ _ h)
        simp only [AV.ren, atN_of hc]
        exact Sub.refl _
    · cases h
def dvlF (f : FuncId) (c : VL γ) (s : VL δ) (ρ : List Nat) (L : Lens) : List AV → Option (γ × δ)
  | .func (.func f') [] cs :: xs => bif decide (f' = f) then (c.dec ρ L cs).bind fun y => (s.dec ρ L xs).bind fun a => some (y, a) else none
  | _ => none
def vlF (f : FuncId) (c : VL γ) (s : VL δ) : VL (γ × δ) where
  enc L g := .func (.func f) [] (c.enc L g.1) :: s.enc L g.2
  dec := dvlF f c s
  need := max c.need s.need
  nb L g := ⟨⟨trivial, nbL_le (by omega) _ (c.nb L g.1)⟩, nbL_le (by omega) _ (s.nb L g.2)⟩
  ok ρ L vs g h := by
    unfold dvlF at h
    split at h
    · rename_i f' cs xs
      cases hc : decide (f' = f) with
      | false => simp [hc] at h
      | true =>
        simp only [hc, cond_true, Option.bind_eq_some_iff, Option.some.injEq] at h
        obtain ⟨y, hy, a, ha, rfl⟩ := h
        obtain rfl := of_decide_eq_true hc
        refine SubL.cons ?_ (s.ok ρ L _ _ ha)
        simp only [AV.ren, renL]
        exact (c.ok ρ L _ _ hy).func
    · cases h
theorem vlN_f : (∀ L g, vlN.enc L g = []) ∧ ∀ ρ L xs, vlN.dec ρ L xs = dvlN xs := ⟨fun _ _ => rfl, fun _ _ _ => rfl⟩
theorem vlT_f {t : Ty γ} {s : VL δ} : (∀ L g, (vlT t s).enc L g = t.enc g.1 :: s.enc L g.2) ∧ ∀ ρ L xs, (vlT t s).dec ρ L xs = dvlT t s ρ L xs := ⟨fun _ _ => rfl, fun _ _ _ => rfl⟩
theorem vlP_f {k : Nat} {s : VL δ} : (∀ L g, (vlP k s).enc L g = .ptr k 0 :: s.enc L g) ∧ ∀ ρ L xs, (vlP k s).dec ρ L xs = dvlP k s ρ L xs := ⟨fun _ _ => rfl, fun _ _ _ => rfl⟩
theorem vlM_f {k : Nat} {s : VL δ} : (∀ L g, (vlM k s).enc L g = .map k :: s.enc L g) ∧ ∀ ρ L xs, (vlM k s).dec ρ L xs = dvlM k s ρ L xs := ⟨fun _ _ => rfl, fun _ _ _ => rfl⟩
theorem vlF_f {f : FuncId} {c : VL γ} {s : VL δ} : (∀ L g, (vlF f c s).enc L g = .func (.func f) [] (c.enc L g.1) :: s.enc L g.2) ∧ ∀ ρ L xs, (vlF f c s).dec ρ L xs = dvlF f c s ρ L xs := ⟨fun _ _ => rfl, fun _ _ _ => rfl⟩

structure AL (γ : Type) where
  enc : Lens → γ → List AV
  dec : List Nat → Lens → List AObj → List AV → Option γ
  need : Nat
  nb : ∀ L g, nbL need (enc L g)
  ok : ∀ ρ L H n vs g, Cov ρ need n → dec ρ L H vs = some g → CoL H n vs (renL (atN ρ) (enc L g))
def alN : AL Unit where
  enc _ _ := []
  dec _ _ _ := dvlN
  need := 0
  nb _ _ := trivial
  ok ρ L H n vs g _ h := by
    unfold dvlN at h
    split at h
    · exact CoL.nil
    · cases h
def dalT (t : Ty γ) (s : AL δ) (ρ : List Nat) (L : Lens) (H : List AObj) : List AV → Option (γ × δ)
  | x :: xs => (t.dec H x).bind fun y => (s.dec ρ L H xs).bind fun a => some (y, a)
  | [] => none
def alT (t : Ty γ) (s : AL δ) : AL (γ × δ) where
  enc L g := t.enc g.1 :: s.enc L g.2
  dec := dalT t s
  need := s.need
  nb L g := ⟨t.nb _ _, s.nb L g.2⟩
  ok ρ L H n vs g hc h := by
    unfold dalT at h
    split at h
    · simp only [Option.bind_eq_some_iff, Option.some.injEq] at h
      obtain ⟨y, hy, a, ha, rfl⟩ := h
      refine CoL.cons ?_ (s.ok ρ L H n _ _ hc ha)
      rw [ren_of_nb _ _ (t.nb 0 y)]
      exact t.ok H n _ _ hy
    · cases h
def dalC (c : Cel γ) (k : Nat) (s : AL δ) (ρ : List Nat) (L : Lens) (H : List AObj) (xs : List AV) : Option (γ × δ) :=
  (c.dec H (xs.take k)).bind fun y => (s.dec ρ L H (xs.drop k)).bind fun a => some (y, a)
theorem CoL1.append' {H : List AObj} {n : Nat} : ∀ {xs ys us vs : List AV}, CoL1 H n xs ys → CoL H n us vs → CoL H n (xs ++ us) (ys ++ vs)
  | [], _, _, _, rfl, h => h
  | _ :: _, _, _, _, ⟨y, zs, rfl, h, hs⟩, h2 => ⟨y, zs ++ _, rfl, .inl h, CoL1.append' hs h2⟩
def alC (c : Cel γ) (k : Nat) (s : AL δ) : AL (γ × δ) where
  enc L g := c.enc g.1 ++ s.enc L g.2
  dec := dalC c k s
  need := s.need
  nb L g := nbL_append (c.nb _ _) (s.nb L g.2)
  ok ρ L H n vs g hc h := by
    unfold dalC at h
    simp only [Option.bind_eq_some_iff, Option.some.injEq] at h
    obtain ⟨y, hy, a, ha, rfl⟩ := h
    rw [renL_append, renL_of_nb _ _ (c.nb 0 y), ← List.take_append_drop k vs]
    exact CoL1.append' (c.ok H n _ _ hy) (s.ok ρ L H n _ _ hc ha)
def dalP (k : Nat) (s : AL δ) (ρ : List Nat) (L : Lens) (H : List AObj) : List AV → Option δ
  | .ptr l off :: xs => bif decide (off = 0 ∧ ρ[k]? = some l) then s.dec ρ L H xs else none
  | _ => none
def alP (k : Nat) (s : AL δ) : AL δ where
  enc L g := .ptr k 0 :: s.enc L g
  dec := dalP k s
  need := max (k + 1) s.need
  nb L g := ⟨show k < _ by omega, nbL_le (by omega) _ (s.nb L g)⟩
  ok ρ L H n vs g hv h := by
    unfold dalP at h
    split at h
    · rename_i l off xs
      cases hc : decide (off = 0 ∧ ρ[k]? = some l) with
      | false => simp [hc] at h
      | true =>
        simp only [hc, cond_true] at h
        obtain ⟨rfl, hc'⟩ := of_decide_eq_true hc
        refine CoL.cons ?_ (s.ok ρ L H n _ _ (hv.mono (by omega)) h)
        have hl := hv.lt k (by omega)
        simp only [AV.ren]
        rw [atN_of hc'] at hl ⊢
        exact Co.same hl
    · cases h
def dalM (k : Nat) (s : AL δ) (ρ : List Nat) (L : Lens) (H : List AObj) : List AV → Option δ
  | .map l :: xs => bif decide (ρ[k]? = some l) then s.dec ρ L H xs else none
  | _ => none
def alM (k : Nat) (s : AL δ) : AL δ where
  enc L g := .map k :: s.enc L g
  dec := dalM k s
  need := max (k + 1) s.need
  nb L g := ⟨show k < _ by omega, nbL_le (by omega) _ (s.nb L g)⟩
  ok ρ L H n vs g hv h := by
    unfold dalM at h
    split at h
    · rename_i l xs
      cases hc : decide (ρ[k]? = some l) with
      | false => simp [hc] at h
      | true =>
        simp only [hc, cond_true] at h
        have hc' := of_decide_eq_true hc
        refine CoL.cons ?_ (s.ok ρ L H n _ _ (hv.mono (by omega)) h)
        have hl := hv.lt k (by omega)
        simp only [AV.ren]
        rw [atN_of hc'] at hl ⊢
        exact Co.same hl
    · cases h
def dalA (k : Nat) (s : AL δ) (ρ : List Nat) (L : Lens) (H : List AObj) : List AV → Option δ
  | .acc l m :: xs => bif decide (m = L k ∧ ρ[k]? = some l) then s.dec ρ L H xs else none
  | _ => none
def alA (k : Nat) (s : AL δ) : AL δ where
  enc L g := .acc k (L k) :: s.enc L g
  dec := dalA k s
  need := max (k + 1) s.need
  nb L g := ⟨show k < _ by omega, nbL_le (by omega) _ (s.nb L g)⟩
  ok ρ L H n vs g hv h := by
    unfold dalA at h
    split at h
    · rename_i l m xs
      cases hc : decide (m = L k ∧ ρ[k]? = some l) with
      | false => simp [hc] at h
      | true =>
        simp only [hc, cond_true] at h
        obtain ⟨rfl, hc'⟩ := of_decide_eq_true hc
        refine CoL.cons ?_ (s.ok ρ L H n _ _ (hv.mono (by omega)) h)
        have hl := hv.lt k (by omega)
        simp only [AV.ren]
        rw [atN_of hc'] at hl ⊢
        exact Co.same hl
    · cases h
def dalF (f : FuncId) (c : VL γ) (s : AL δ) (ρ : List Nat) (L : Lens) (H : List AObj) : List AV → Option (γ × δ)
  | .func (.func f') [] cs :: xs => bif decide (f' = f) then (c.dec ρ L cs).bind fun y => (s.dec ρ L H xs).bind fun a => some (y, a) else none
  | _ => none
def alF (f : FuncId) (c : VL γ) (s : AL δ) : AL (γ × δ) where
  enc L g := .func (.func f) [] (c.enc L g.1) :: s.enc L g.2
  dec := dalF f c s
  need := max c.need s.need
  nb L g := ⟨⟨trivial, nbL_le (by omega) _ (c.nb L g.1)⟩, nbL_le (by omega) _ (s.nb L g.2)⟩
  ok ρ L H n vs g hv h := by
    unfold dalF at h
    split at h
    · rename_i f' cs xs
      cases hc : decide (f' = f) with
      | false => simp [hc] at h
      | true =>
        simp only [hc, cond_true, Option.bind_eq_some_iff, Option.some.injEq] at h
        obtain ⟨y, hy, a, ha, rfl⟩ := h
        obtain rfl := of_decide_eq_true hc
        refine CoL.cons ?_ (s.ok ρ L H n _ _ (hv.mono (by omega)) ha)
        simp only [AV.ren, renL]
        exact Co.sub (c.ok ρ L _ _ hy).func ⟨trivial, nbL_ren (hv.mono (a := c.need) (by omega)).lt _ (c.nb L y)⟩
    · cases h
def dalZ (s : AL δ) (ρ : List Nat) (L : Lens) (H : List AObj) : List AV → Option δ
  | _ :: xs => s.dec ρ L H xs
  | _ => none
def alZ (s : AL δ) : AL δ where
  enc L g := .any :: s.enc L g
  dec := dalZ s
  need := s.need
  nb L g := ⟨trivial, s.nb L g⟩
  ok ρ L H n vs g hv h := by
    unfold dalZ at h
    split at h
    · exact CoL.cons Co.any (s.ok ρ L H n _ _ hv h)
    · cases h
def alZs : Nat → AL δ → AL δ
  | 0, s => s
  | n + 1, s => alZ (alZs n s)
theorem alN_f : (∀ L g, alN.enc L g = []) ∧ (∀ ρ L H xs, alN.dec ρ L H xs = dvlN xs) ∧ alN.need = 0 := ⟨fun _ _ => rfl, fun _ _ _ _ => rfl, rfl⟩
theorem alT_f {t : Ty γ} {s : AL δ} : (∀ L g, (alT t s).enc L g = t.enc g.1 :: s.enc L g.2) ∧ (∀ ρ L H xs, (alT t s).dec ρ L H xs = dalT t s ρ L H xs) ∧ (alT t s).need = s.need := ⟨fun _ _ => rfl, fun _ _ _ _ => rfl, rfl⟩
theorem alC_f {c : Cel γ} {k : Nat} {s : AL δ} : (∀ L g, (alC c k s).enc L g = c.enc g.1 ++ s.enc L g.2) ∧ (∀ ρ L H xs, (alC c k s).dec ρ L H xs = dalC c k s ρ L H xs) ∧ (alC c k s).need = s.need := ⟨fun _ _ => rfl, fun _ _ _ _ => rfl, rfl⟩
theorem alP_f {k : Nat} {s : AL δ} : (∀ L g, (alP k s).enc L g = .ptr k 0 :: s.enc L g) ∧ (∀ ρ L H xs, (alP k s).dec ρ L H xs = dalP k s ρ L H xs) ∧ (alP k s).need = max (k + 1) s.need := ⟨fun _ _ => rfl, fun _ _ _ _ => rfl, rfl⟩
theorem alM_f {k : Nat} {s : AL δ} : (∀ L g, (alM k s).enc L g = .map k :: s.enc L g) ∧ (∀ ρ L H xs, (alM k s).dec ρ L H xs = dalM k s ρ L H xs) ∧ (alM k s).need = max (k + 1) s.need := ⟨fun _ _ => rfl, fun _ _ _ _ => rfl, rfl⟩
theorem alA_f {k : Nat} {s : AL δ} : (∀ L g, (alA k s).enc L g = .acc k (L k) :: s.enc L g) ∧ (∀ ρ L H xs, (alA k s).dec ρ L H xs = dalA k s ρ L H xs) ∧ (alA k s).need = max (k + 1) s.need := ⟨fun _ _ => rfl, fun _ _ _ _ => rfl, rfl⟩
theorem alF_f {f : FuncId} {c : VL γ} {s : AL δ} : (∀ L g, (alF f c s).enc L g = .func (.func f) [] (c.enc L g.1) :: s.enc L g.2) ∧ (∀ ρ L H xs, (alF f c s).dec ρ L H xs = dalF f c s ρ L H xs) ∧ (alF f c s).need = max c.need s.need := ⟨fun _ _ => rfl, fun _ _ _ _ => rfl, rfl⟩
theorem alZ_f {s : AL δ} : (∀ L g, (alZ s).enc L g = .any :: s.enc L g) ∧ (∀ ρ L H xs, (alZ s).dec ρ L H xs = dalZ s ρ L H xs) ∧ (alZ s).need = s.need := ⟨fun _ _ => rfl, fun _ _ _ _ => rfl, rfl⟩
end specs
end Go.Abs
namespace Go.Abs

theorem objNb_le' {n m : Nat} (h : n ≤ m) (x : AObj) (k : objNb n x) : objNb m x := by
  cases x with
  | cells cs => exact nbL_le h _ k
  | acc imm sz rows => exact nbR_le h _ k
  | map es => exact fun p hp => ⟨AV.nb_le h _ (k p hp).1, AV.nb_le h _ (k p hp).2⟩
  | loop lk slots st pend => exact nbL_le h _ k
  | iter s p => trivial
  | dead => trivial
theorem imp_select {ys : List AV} {H Ys : List AObj} {ρ : List Nat} {low : Nat} (hlen : ρ.length = Ys.length) (hnd : ρ.Nodup) (hid : ∀ k, k < low → ρ[k]? = some k)
    (hl : low ≤ Ys.length) (hnb : nbL Ys.length ys) (hnbH : ∀ y ∈ Ys, objNb Ys.length y)
    (hobj : ∀ (i k : Nat) (y : AObj), ρ[i]? = some k → Ys[i]? = some y → H[k]? = some (y.ren (atN ρ))) :
    Imp ⟨renL (atN ρ) ys, H, low, []⟩ ⟨ys, Ys, low, []⟩ := by
  intro C φ a w S
  let φ' : Nat → Value := fun k => φ (atN ρ k)
  have hρ : ∀ k, k < Ys.length → ρ[k]? = some (atN ρ k) := by
    intro k hk
    have hk' : k < ρ.length := by omega
    rw [atN_of (List.getElem?_eq_getElem hk')]
    exact List.getElem?_eq_getElem hk'
  have hget : ∀ (k : Nat) (y : AObj), Ys[k]? = some y → k < Ys.length ∧ H[atN ρ k]? = some (y.ren (atN ρ)) := by
    intro k y hy
    have hk := (List.getElem?_eq_some_iff.1 hy).1
    exact ⟨hk, hobj k _ y (hρ k hk) hy⟩
  have hfix : ∀ k, k < low → atN ρ k = k := fun k hk => atN_of (hid k hk)
  have hinj : ∀ k k', k < Ys.length → k' < Ys.length → atN ρ k = atN ρ k' → k = k' := by
    intro k k' hk hk' he
    have h1 := hρ k hk
    have h2 := hρ k' hk'
    rw [← he] at h2
    have e1 := posIn_at ρ k _ hnd h1
    have e2 := posIn_at ρ k' _ hnd h2
    rw [e1] at e2; exact Option.some.inj e2
  have hmut : ∀ b o, Mut φ' Ys b o → Mut φ H b o := by
    rintro b o ⟨k, z, hz, hm⟩
    exact ⟨_, _, (hget k z hz).2, ren_muts.2 hm⟩
  have un : UnLe Ys.length (atN ρ) (C.env φ H w) (C.env φ' Ys w) := by
    refine ⟨Nat.le_refl _, fun k hk => ⟨rfl, ?_⟩, fun b o u hm hc => ⟨fun h => hm (h.imp (hmut b o) id), hc⟩⟩
    show accLen Ys[k]? = accLen H[atN ρ k]?
    have hy := List.getElem?_eq_getElem hk
    rw [(hget k _ hy).2, hy, ren_accLen]
  have hdef : DefOK C φ' Ys w [] a.defers := S.defers.step' (fun xs vs ⟨f, hf⟩ _ => (by cases hf)) (fun _ _ _ => rfl) (fun k z b hz hb => .inl ⟨_, _, (hget k z hz).2, ren_block.2 hb⟩)
  refine ⟨φ', { slots := RepL.unren un _ _ hnb S.slots, defers := hdef, objs := ?_, apart := ?_, notA := ?_, size := S.size, old := S.old, oldObj := S.oldObj, inM := ?_, froz := S.froz, rest := S.rest, low := ⟨S.low.1, hl⟩, names := ?_ }⟩
  · intro k z hz
    exact ObjRep.unren un (hnbH z (List.mem_of_getElem? hz)) (fun _ _ => rfl) (S.objs _ _ (hget k z hz).2)
  · intro k k' z z' b hz hz' hb hb'
    refine hinj k k' (hget k z hz).1 (hget k' z' hz').1 (S.apart _ _ _ _ b (hget k z hz).2 (hget k' z' hz').2 (ren_block.2 hb) (ren_block.2 hb'))
  · intro k z b o hz hb
    exact S.notA _ _ b o (hget k z hz).2 (ren_block.2 hb)
  · intro k z b o hz hm hb
    exact S.inM _ _ b o (hget k z hz).2 (ren_muts.2 hm) hb
  · intro k hk
    have hk' : k < low := by have := S.low.1; simp only at this; omega
    have hn := S.names k hk
    have e1 : φ' k = φ k := by show φ (atN ρ k) = φ k; rw [hfix k hk']
    have e2 : accLen Ys[k]? = accLen H[k]? := by
      have hy := List.getElem?_eq_getElem (show k < Ys.length by omega)
      have := (hget k _ hy).2
      rw [hfix k hk'] at this
      rw [this, hy, ren_accLen]
    show (φ' k = _ ∧ (accLen Ys[k]? = _ ∨ accLen Ys[k]? = none)) ∨ ((∃ m, _ ∧ ∀ m', accLen Ys[k]? = some m' → _) ∧ _)
    rw [e1, e2]
    exact hn

section objs
variable {α β γ δ : Type}
structure OG (γ : Type) where
  enc : Lens → γ → AObj
  dec : List Nat → Lens → List AObj → AObj → Option γ
  len : γ → Nat
  need : Nat
  nb : ∀ L g, objNb need (enc L g)
  ok : ∀ ρ L H n x g, Cov ρ need n → dec ρ L H x = some g → CoObj H n x ((enc L g).ren (atN ρ))
  lenOK : ∀ ρ L H x g, dec ρ L H x = some g → len g = (accLen (some x)).getD 0
theorem mapO_length {α β : Type} {f : α → Option β} : ∀ {xs : List α} {ys : List β}, mapO f xs = some ys → ys.length = xs.length
  | [], ys, h => by simp only [mapO, Option.some.injEq] at h; subst h; rfl
  | x :: xs, ys, h => by
    simp only [mapO, Option.bind_eq_some_iff, Option.some.injEq] at h
    obtain ⟨y, hy, zs, hz, rfl⟩ := h
    simp [mapO_length hz]
def ogA (imm : Bool) (r : Row α) : OG (List α) where
  enc _ xs := .acc imm r.sz (mp r.enc xs)
  dec _ _ _ := daT imm r
  len xs := xs.length
  need := 0
  nb L g := nbR_rows g
  ok ρ L H n x g _ h := by
    have := (oaT imm r).ok H n x g h
    rw [show (AObj.acc imm r.sz (mp r.enc g)).ren (atN ρ) = .acc imm r.sz (mp r.enc g) from (oaT imm r).ren _ g]
    exact this
  lenOK ρ L H x g h := by
    unfold daT at h
    split at h
    · split at h
      · exact mapO_length h
      · cases h
    · cases h
def docC (c : AL γ) (ρ : List Nat) (L : Lens) (H : List AObj) : AObj → Option γ
  | .cells cs => c.dec ρ L H cs
  | _ => none
def ogC (c : AL γ) : OG γ where
  enc L g := .cells (c.enc L g)
  dec := docC c
  len _ := 0
  need := c.need
  nb L g := c.nb L g
  ok ρ L H n x g hv h := by
    unfold docC at h
    split at h
    · exact .inr (.inr (.inl ⟨_, _, rfl, rfl, c.ok ρ L H n _ _ hv h⟩))
    · cases h
  lenOK ρ L H x g h := by
    unfold docC at h
    split at h
    · rfl
    · cases h
theorem ogA_f {imm : Bool} {r : Row α} : (∀ L g, (ogA imm r).enc L g = .acc imm r.sz (mp r.enc g)) ∧ (∀ ρ L H x, (ogA imm r).dec ρ L H x = daT imm r x) ∧ (∀ g, (ogA imm r).len g = g.length) ∧ (ogA imm r).need = 0 := ⟨fun _ _ => rfl, fun _ _ _ _ => rfl, fun _ => rfl, rfl⟩
theorem ogC_f {c : AL γ} : (∀ L g, (ogC c).enc L g = .cells (c.enc L g)) ∧ (∀ ρ L H x, (ogC c).dec ρ L H x = docC c ρ L H x) ∧ (∀ g, (ogC c).len g = 0) ∧ (ogC c).need = c.need := ⟨fun _ _ => rfl, fun _ _ _ _ => rfl, fun _ => rfl, rfl⟩

structure OL (β : Type) where
  enc : Lens → β → List AObj
  dec : List Nat → Lens → List AObj → List AObj → Option β
  lens : β → Lens
  size : Nat
  need : Nat
  sz : ∀ L b, (enc L b).length = size
  nb : ∀ L b, ∀ y ∈ enc L b, objNb need y
  ok : ∀ ρ L H n xs b, Cov ρ need n → dec ρ L H xs = some b → xs.length = size ∧ ∀ (i : Nat) (y : AObj), (enc L b)[i]? = some y → ∃ x, xs[i]? = some x ∧ CoObj H n x (y.ren (atN ρ))
  szOK : ∀ ρ L H xs b, dec ρ L H xs = some b → xs.length = size
  lensOK : ∀ ρ L H xs b, dec ρ L H xs = some b → ∀ k, lens b k = (accLen xs[k]?).getD 0
def dolN : List AObj → Option Unit
  | [] => some ()
  | _ => none
def olN : OL Unit where
  enc _ _ := []
  dec _ _ _ := dolN
  lens _ _ := 0
  size := 0
  need := 0
  sz _ _ := rfl
  nb _ _ := by simp
  ok ρ L H n xs b _ h := by
    unfold dolN at h
    split at h
    · exact ⟨rfl, by simp⟩
    · cases h
  szOK ρ L H xs b h := by
    unfold dolN at h
    split at h
    · rfl
    · cases h
  lensOK ρ L H xs b h k := by
    unfold dolN at h
    split at h
    · rfl
    · cases h
def dolC (o : OG γ) (s : OL β) (ρ : List Nat) (L : Lens) (H : List AObj) : List AObj → Option (γ × β)
  | x :: xs => (o.dec ρ L H x).bind fun y => (s.dec ρ L H xs).bind fun b => some (y, b)
  | [] => none
def lolC (a : Nat) (f : Lens) : Lens
  | 0 => a
  | k + 1 => f k
def olC (o : OG γ) (s : OL β) : OL (γ × β) where
  enc L b := o.enc L b.1 :: s.enc L b.2
  dec := dolC o s
  lens b := lolC (o.len b.1) (s.lens b.2)
  size := s.size + 1
  need := max o.need s.need
  sz L b := by rw [List.length_cons, s.sz]
  nb L b y hy := by
    simp only [List.mem_cons] at hy
    rcases hy with rfl | hy
    · exact objNb_le' (by omega) _ (o.nb L _)
    · exact objNb_le' (by omega) _ (s.nb L _ y hy)
  ok ρ L H n xs b hv h := by
    unfold dolC at h
    split at h
    · rename_i x xs
      simp only [Option.bind_eq_some_iff, Option.some.injEq] at h
      obtain ⟨y, hy, b, hb, rfl⟩ := h
      obtain ⟨h1, h2⟩ := s.ok ρ L H n _ _ (hv.mono (by omega)) hb
      refine ⟨by rw [List.length_cons, h1], fun i z hz => ?_⟩
      cases i with
      | zero => simp at hz; subst hz; exact ⟨x, by simp, o.ok ρ L H n _ _ (hv.mono (by omega)) hy⟩
      | succ i => simp at hz; obtain ⟨q, hq, hc⟩ := h2 i z hz; exact ⟨q, by simpa using hq, hc⟩
    · cases h
  szOK ρ L H xs b h := by
    unfold dolC at h
    split at h
    · simp only [Option.bind_eq_some_iff, Option.some.injEq] at h
      obtain ⟨y, hy, b, hb, rfl⟩ := h
      rw [List.length_cons, s.szOK _ _ _ _ _ hb]
    · cases h
  lensOK ρ L H xs b h k := by
    unfold dolC at h
    split at h
    · simp only [Option.bind_eq_some_iff, Option.some.injEq] at h
      obtain ⟨y, hy, b, hb, rfl⟩ := h
      cases k with
      | zero => simp only [lolC, List.getElem?_cons_zero]; exact o.lenOK ρ L H _ _ hy
      | succ k => simp only [lolC, List.getElem?_cons_succ]; exact s.lensOK ρ L H _ _ hb k
    · cases h
theorem olN_f : (∀ L b, olN.enc L b = []) ∧ (∀ ρ L H xs, olN.dec ρ L H xs = dolN xs) ∧ (∀ b k, olN.lens b k = 0) ∧ olN.size = 0 ∧ olN.need = 0 := ⟨fun _ _ => rfl, fun _ _ _ _ => rfl, fun _ _ => rfl, rfl, rfl⟩
theorem olC_f {o : OG γ} {s : OL β} : (∀ L b, (olC o s).enc L b = o.enc L b.1 :: s.enc L b.2) ∧ (∀ ρ L H xs, (olC o s).dec ρ L H xs = dolC o s ρ L H xs) ∧ (∀ b, (olC o s).lens b = lolC (o.len b.1) (s.lens b.2)) ∧ (olC o s).size = s.size + 1 ∧ (olC o s).need = max o.need s.need := ⟨fun _ _ => rfl, fun _ _ _ _ => rfl, fun _ => rfl, rfl, rfl⟩
end objs
end Go.Abs
