/- A part of the proof: abstract states and the rules for them. -/
import Derived.Test.YtgimdhmoloobkaaCoreB
set_option linter.all false
namespace Go.Abs

mutual
theorem ren_congr {τ τ' : Nat → Nat} {n : Nat} (h : ∀ l, l < n → τ l = τ' l) : ∀ x : AV, x.nb n → x.ren τ = x.ren τ'
  | .agg cs, k | .tup cs, k | .pp cs, k => by simp only [AV.ren]; rw [renL_congr h cs k]
  | .lst _ _ rows, k => by simp only [AV.ren]; rw [renR_congr h rows k]
  | .acc l _, k | .own l _ _ _ _, k | .ptr l _, k | .map l, k => by simp only [AV.ren]; rw [h l k]
  | .func _ f c, k => by simp only [AV.ren]; rw [renL_congr h f k.1, renL_congr h c k.2]
  | .iface _ x, k => by simp only [AV.ren]; rw [ren_congr h x k]
  | .any, _ | .bool _, _ | .int _ _, _ | .str _, _ | .raw _, _ => rfl
theorem renL_congr {τ τ' : Nat → Nat} {n : Nat} (h : ∀ l, l < n → τ l = τ' l) : ∀ xs : List AV, nbL n xs → renL τ xs = renL τ' xs
  | [], _ => rfl
  | x :: xs, k => by simp only [renL]; rw [ren_congr h x k.1, renL_congr h xs k.2]
theorem renR_congr {τ τ' : Nat → Nat} {n : Nat} (h : ∀ l, l < n → τ l = τ' l) : ∀ xs : List (List AV), nbR n xs → renR τ xs = renR τ' xs
  | [], _ => rfl
  | x :: xs, k => by simp only [renR]; rw [renL_congr h x k.1, renR_congr h xs k.2]
end
mutual
theorem nb_ren {τ : Nat → Nat} {n m : Nat} (h : ∀ l, l < n → τ l < m) : ∀ x : AV, x.nb n → (x.ren τ).nb m
  | .agg cs, k | .tup cs, k | .pp cs, k => nbL_ren h cs k
  | .lst _ _ rows, k => nbR_ren h rows k
  | .acc l _, k | .own l _ _ _ _, k | .ptr l _, k | .map l, k => h l k
  | .func _ f c, k => ⟨nbL_ren h f k.1, nbL_ren h c k.2⟩
  | .iface _ x, k => nb_ren h x k
  | .any, _ | .bool _, _ | .int _ _, _ | .str _, _ | .raw _, _ => trivial
theorem nbL_ren {τ : Nat → Nat} {n m : Nat} (h : ∀ l, l < n → τ l < m) : ∀ xs : List AV, nbL n xs → nbL m (renL τ xs)
  | [], _ => trivial
  | x :: xs, k => ⟨nb_ren h x k.1, nbL_ren h xs k.2⟩
theorem nbR_ren {τ : Nat → Nat} {n m : Nat} (h : ∀ l, l < n → τ l < m) : ∀ xs : List (List AV), nbR n xs → nbR m (renR τ xs)
  | [], _ => trivial
  | x :: xs, k => ⟨nbL_ren h x k.1, nbR_ren h xs k.2⟩
end
theorem objRen_congr {τ τ' : Nat → Nat} {n : Nat} (h : ∀ l, l < n → τ l = τ' l) (x : AObj) (k : objNb n x) : x.ren τ = x.ren τ' := by
  cases x with
  | cells cs => simp only [AObj.ren]; rw [renL_congr h cs k]
  | acc imm sz rows => simp only [AObj.ren]; rw [renR_congr h rows k]
  | map es =>
    simp only [AObj.ren]
    congr 1
    refine List.map_congr_left fun p hp => ?_
    rw [ren_congr h _ (k p hp).1, ren_congr h _ (k p hp).2]
  | dead => rfl
theorem objNb_ren {τ : Nat → Nat} {n m : Nat} (h : ∀ l, l < n → τ l < m) (x : AObj) (k : objNb n x) : objNb m (x.ren τ) := by
  cases x with
  | cells cs => exact nbL_ren h cs k
  | acc imm sz rows => exact nbR_ren h rows k
  | map es =>
    intro p hp
    obtain ⟨q, hq, rfl⟩ := List.mem_map.1 hp
    exact ⟨nb_ren h _ (k q hq).1, nb_ren h _ (k q hq).2⟩
  | dead => trivial
theorem Co1.sub_nil {n : Nat} {x y : AV} (h : Co1 [] n x y) : Sub x y := by
  rcases h with h | ⟨l, m, sz, rows, _, h, _⟩
  · exact h.1
  · simp at h
theorem CoL1.sub_nil {n : Nat} : ∀ {xs ys : List AV}, CoL1 [] n xs ys → SubL xs ys
  | [], _, rfl => SubL.nil
  | _ :: _, _, ⟨_, _, rfl, h, hs⟩ => SubL.cons h.sub_nil hs.sub_nil
theorem Co.sub_nil {n : Nat} {x y : AV} (h : Co [] n x y) : Sub x y := by
  rcases h with h | ⟨cs, ds, rfl, rfl, h⟩
  · exact h.sub_nil
  · rintro E v ⟨vs, rfl, hv⟩
    exact ⟨vs, rfl, h.sub_nil E _ hv⟩
theorem SubL.func {f : Fn} {xs ys : List AV} (h : SubL xs ys) : Sub (.func f [] xs) (.func f [] ys) := by
  rintro E v ⟨a, b, rfl, h1, h2⟩
  exact ⟨a, b, rfl, h1, h E _ h2⟩

abbrev Lens := Nat → Nat
def atN (ρ : List Nat) (k : Nat) : Nat := ρ.getD k 0
def Cov (ρ : List Nat) (need n : Nat) : Prop := ∀ k, k < need → ∃ l, ρ[k]? = some l ∧ l < n
theorem Cov.mono {ρ : List Nat} {a b n : Nat} (h : Cov ρ b n) (k : a ≤ b) : Cov ρ a n := fun i hi => h i (by omega)
theorem Cov.lt {ρ : List Nat} {a n : Nat} (h : Cov ρ a n) : ∀ l, l < a → atN ρ l < n := by
  intro l hl
  obtain ⟨k, hk, hn⟩ := h l hl
  unfold atN; rw [List.getD, hk]; exact hn
theorem atN_of {ρ : List Nat} {k l : Nat} (h : ρ[k]? = some l) : atN ρ k = l := by unfold atN; rw [List.getD, h]; rfl

section specs
variable {α β γ δ : Type}
structure VL (γ : Type) where
  enc : Lens → γ → List AV
  dec : List Nat → Lens → List AV → Option γ
  need : Nat
  nb : ∀ L g, nbL need (enc L g)
  ok : ∀ ρ L vs g, dec ρ L vs = some g → SubL vs (renL (atN ρ) (enc L g))
def dvlN : List AV → Option Unit
  | [] => some ()
  | _ => none
def vlN : VL Unit where
  enc _ _ := []
  dec _ _ := dvlN
  need := 0
  nb _ _ := trivial
  ok ρ L vs g h := by
    unfold dvlN at h
    split at h
    · exact SubL.nil
    · cases h
def dvlT (t : Ty γ) (s : VL δ) (ρ : List Nat) (L : Lens) : List AV → Option (γ × δ)
  | x :: xs => (t.dec [] x).bind fun y => (s.dec ρ L xs).bind fun a => some (y, a)
  | [] => none
def vlT (t : Ty γ) (s : VL δ) : VL (γ × δ) where
  enc L g := t.enc g.1 :: s.enc L g.2
  dec := dvlT t s
  need := s.need
  nb L g := ⟨t.nb _ _, s.nb L g.2⟩
  ok ρ L vs g h := by
    unfold dvlT at h
    split at h
    · simp only [Option.bind_eq_some_iff, Option.some.injEq] at h
      obtain ⟨y, hy, a, ha, rfl⟩ := h
      refine SubL.cons ?_ (s.ok ρ L _ _ ha)
      rw [ren_of_nb _ _ (t.nb 0 y)]
      exact (t.ok [] 0 _ _ hy).sub_nil
    · cases h
def dvlP (k : Nat) (s : VL δ) (ρ : List Nat) (L : Lens) : List AV → Option δ
  | .ptr l off :: xs => bif decide (off = 0 ∧ ρ[k]? = some l) then s.dec ρ L xs else none
  | _ => none
def vlP (k : Nat) (s : VL δ) : VL δ where
  enc L g := .ptr k 0 :: s.enc L g
  dec := dvlP k s
  need := max (k + 1) s.need
  nb L g := ⟨show k < _ by omega, nbL_le (by omega) _ (s.nb L g)⟩
  ok ρ L vs g h := by
    unfold dvlP at h
    split at h
    · rename_i l off xs
      cases hc : decide (off = 0 ∧ ρ[k]? = some l) with
      | false => simp [hc] at h
      | true =>
        simp only [hc, cond_true] at h
        obtain ⟨rfl, hc'⟩ := of_decide_eq_true hc
        refine SubL.cons ?_ (s.ok ρ L _ _ h)
        simp only [AV.ren, atN_of hc']
        exact Sub.refl _
    · cases h
def dvlM (k : Nat) (s : VL δ) (ρ : List Nat) (L : Lens) : List AV → Option δ
  | .map l :: xs => bif decide (ρ[k]? = some l) then s.dec ρ L xs else none
  | _ => none
def vlM (k : Nat) (s : VL δ) : VL δ where
  enc L g := .map k :: s.enc L g
  dec := dvlM k s
  need := max (k + 1) s.need
  nb L g := ⟨show k < _ by omega, nbL_le (by omega) _ (s.nb L g)⟩
  ok ρ L vs g h := by
    unfold dvlM at h
    split at h
    · rename_i l xs
      cases hc : decide (ρ[k]? = some l) with
      | false => simp [hc] at h
      | true =>
        simp only [hc, cond_true] at h
        have hc := of_decide_eq_true hc
        refine SubL.cons ?_ (s.ok ρ L _ _ h)
        simp only [AV.ren, atN_of hc]
        exact Sub.refl _
    · cases h
def dvlF (f : FuncId) (c : VL γ) (s : VL δ) (ρ : List Nat) (L : Lens) : List AV → Option (γ × δ)
  | .func (.func f') [] cs :: xs => bif decide (f' = f) then (c.dec ρ L cs).bind fun y => (s.dec ρ L xs).bind fun a => some (y, a) else none
  | _ => none
def vlF (f : FuncId) (c : VL γ) (s : VL δ) : VL (γ × δ) where
  enc L g := .func (.func f) [] (c.enc L g.1) :: s.enc L g.2
  dec := dvlF f c s
  need := max c.need s.need
  nb L g := ⟨⟨trivial, nbL_le (by omega) _ (c.nb L g.1)⟩, nbL_le (by omega) _ (s.nb L g.2)⟩
  ok ρ L vs g h := by
    unfold dvlF at h
    split at h
    · rename_i f' cs xs
      cases hc : decide (f' = f) with
      | false => simp [hc] at h
      | true =>
        simp only [hc, cond_true, Option.bind_eq_some_iff, Option.some.injEq] at h
        obtain ⟨y, hy, a, ha, rfl⟩ := h
        obtain rfl := of_decide_eq_true hc
        refine SubL.cons ?_ (s.ok ρ L _ _ ha)
        simp only [AV.ren, renL]
        exact (c.ok ρ L _ _ hy).func
    · cases h
theorem vlN_f : (∀ L g, vlN.enc L g = []) ∧ ∀ ρ L xs, vlN.dec ρ L xs = dvlN xs := ⟨fun _ _ => rfl, fun _ _ _ => rfl⟩
theorem vlT_f {t : Ty γ} {s : VL δ} : (∀ L g, (vlT t s).enc L g = t.enc g.1 :: s.enc L g.2) ∧ ∀ ρ L xs, (vlT t s).dec ρ L xs = dvlT t s ρ L xs := ⟨fun _ _ => rfl, fun _ _ _ => rfl⟩
theorem vlP_f {k : Nat} {s : VL δ} : (∀ L g, (vlP k s).enc L g = .ptr k 0 :: s.enc L g) ∧ ∀ ρ L xs, (vlP k s).dec ρ L xs = dvlP k s ρ L xs := ⟨fun _ _ => rfl, fun _ _ _ => rfl⟩
theorem vlM_f {k : Nat} {s : VL δ} : (∀ L g, (vlM k s).enc L g = .map k :: s.enc L g) ∧ ∀ ρ L xs, (vlM k s).dec ρ L xs = dvlM k s ρ L xs := ⟨fun _ _ => rfl, fun _ _ _ => rfl⟩
theorem vlF_f {f : FuncId} {c : VL γ} {s : VL δ} : (∀ L g, (vlF f c s).enc L g = .func (.func f) [] (c.enc L g.1) :: s.enc L g.2) ∧ ∀ ρ L xs, (vlF f c s).dec ρ L xs = dvlF f c s ρ L xs := ⟨fun _ _ => rfl, fun _ _ _ => rfl⟩

structure AL (γ : Type) where
  enc : Lens → γ → List AV
  dec : List Nat → Lens → List AObj → List AV → Option γ
  need : Nat
  nb : ∀ L g, nbL need (enc L g)
  ok : ∀ ρ L H n vs g, Cov ρ need n → dec ρ L H vs = some g → CoL H n vs (renL (atN ρ) (enc L g))
def alN : AL Unit where
  enc _ _ := []
  dec _ _ _ := dvlN
  need := 0
  nb _ _ := trivial
  ok ρ L H n vs g _ h := by
    unfold dvlN at h
    split at h
    · exact CoL.nil
    · cases h
def dalT (t : Ty γ) (s : AL δ) (ρ : List Nat) (L : Lens) (H : List AObj) : List AV → Option (γ × δ)
  | x :: xs => (t.dec H x).bind fun y => (s.dec ρ L H xs).bind fun a => some (y, a)
  | [] => none
def alT (t : Ty γ) (s : AL δ) : AL (γ × δ) where
  enc L g := t.enc g.1 :: s.enc L g.2
  dec := dalT t s
  need := s.need
  nb L g := ⟨t.nb _ _, s.nb L g.2⟩
  ok ρ L H n vs g hc h := by
    unfold dalT at h
    split at h
    · simp only [Option.bind_eq_some_iff, Option.some.injEq] at h
      obtain ⟨y, hy, a, ha, rfl⟩ := h
      refine CoL.cons ?_ (s.ok ρ L H n _ _ hc ha)
      rw [ren_of_nb _ _ (t.nb 0 y)]
      exact t.ok H n _ _ hy
    · cases h
def dalC (c : Cel γ) (k : Nat) (s : AL δ) (ρ : List Nat) (L : Lens) (H : List AObj) (xs : List AV) : Option (γ × δ) :=
  (c.dec H (xs.take k)).bind fun y => (s.dec ρ L H (xs.drop k)).bind fun a => some (y, a)
theorem CoL1.append' {H : List AObj} {n : Nat} : ∀ {xs ys us vs : List AV}, CoL1 H n xs ys → CoL H n us vs → CoL H n (xs ++ us) (ys ++ vs)
  | [], _, _, _, rfl, h => h
  | _ :: _, _, _, _, ⟨y, zs, rfl, h, hs⟩, h2 => ⟨y, zs ++ _, rfl, .inl h, CoL1.append' hs h2⟩
def alC (c : Cel γ) (k : Nat) (s : AL δ) : AL (γ × δ) where
  enc L g := c.enc g.1 ++ s.enc L g.2
  dec := dalC c k s
  need := s.need
  nb L g := nbL_append (c.nb _ _) (s.nb L g.2)
  ok ρ L H n vs g hc h := by
    unfold dalC at h
    simp only [Option.bind_eq_some_iff, Option.some.injEq] at h
    obtain ⟨y, hy, a, ha, rfl⟩ := h
    rw [renL_append, renL_of_nb _ _ (c.nb 0 y), ← List.take_append_drop k vs]
    exact CoL1.append' (c.ok H n _ _ hy) (s.ok ρ L H n _ _ hc ha)
def dalP (k : Nat) (s : AL δ) (ρ : List Nat) (L : Lens) (H : List AObj) : List AV → Option δ
  | .ptr l off :: xs => bif decide (off = 0 ∧ ρ[k]? = some l) then s.dec ρ L H xs else none
  | _ => none
def alP (k : Nat) (s : AL δ) : AL δ where
  enc L g := .ptr k 0 :: s.enc L g
  dec := dalP k s
  need := max (k + 1) s.need
  nb L g := ⟨show k < _ by omega, nbL_le (by omega) _ (s.nb L g)⟩
  ok ρ L H n vs g hv h := by
    unfold dalP at h
    split at h
    · rename_i l off xs
      cases hc : decide (off = 0 ∧ ρ[k]? = some l) with
      | false => simp [hc] at h
      | true =>
        simp only [hc, cond_true] at h
        obtain ⟨rfl, hc'⟩ := of_decide_eq_true hc
        refine CoL.cons ?_ (s.ok ρ L H n _ _ (hv.mono (by omega)) h)
        have hl := hv.lt k (by omega)
        simp only [AV.ren]
        rw [atN_of hc'] at hl ⊢
        exact Co.same hl
    · cases h
def dalM (k : Nat) (s : AL δ) (ρ : List Nat) (L : Lens) (H : List AObj) : List AV → Option δ
  | .map l :: xs => bif decide (ρ[k]? = some l) then s.dec ρ L H xs else none
  | _ => none
def alM (k : Nat) (s : AL δ) : AL δ where
  enc L g := .map k :: s.enc L g
  dec := dalM k s
  need := max (k + 1) s.need
  nb L g := ⟨show k < _ by omega, nbL_le (by omega) _ (s.nb L g)⟩
  ok ρ L H n vs g hv h := by
    unfold dalM at h
    split at h
    · rename_i l xs
      cases hc : decide (ρ[k]? = some l) with
      | false => simp [hc] at h
      | true =>
        simp only [hc, cond_true] at h
        have hc' := of_decide_eq_true hc
        refine CoL.cons ?_ (s.ok ρ L H n _ _ (hv.mono (by omega)) h)
        have hl := hv.lt k (by omega)
        simp only [AV.ren]
        rw [atN_of hc'] at hl ⊢
        exact Co.same hl
    · cases h
def dalA (k : Nat) (s : AL δ) (ρ : List Nat) (L : Lens) (H : List AObj) : List AV → Option δ
  | .acc l m :: xs => bif decide (m = L k ∧ ρ[k]? = some l) then s.dec ρ L H xs else none
  | _ => none
def alA (k : Nat) (s : AL δ) : AL δ where
  enc L g := .acc k (L k) :: s.enc L g
  dec := dalA k s
  need := max (k + 1) s.need
  nb L g := ⟨show k < _ by omega, nbL_le (by omega) _ (s.nb L g)⟩
  ok ρ L H n vs g hv h := by
    unfold dalA at h
    split at h
    · rename_i l m xs
      cases hc : decide (m = L k ∧ ρ[k]? = some l) with
      | false => simp [hc] at h
      | true =>
        simp only [hc, cond_true] at h
        obtain ⟨rfl, hc'⟩ := of_decide_eq_true hc
        refine CoL.cons ?_ (s.ok ρ L H n _ _ (hv.mono (by omega)) h)
        have hl := hv.lt k (by omega)
        simp only [AV.ren]
        rw [atN_of hc'] at hl ⊢
        exact Co.same hl
    · cases h
def dalF (f : FuncId) (c : VL γ) (s : AL δ) (ρ : List Nat) (L : Lens) (H : List AObj) : List AV → Option (γ × δ)
  | .func (.func f') [] cs :: xs => bif decide (f' = f) then (c.dec ρ L cs).bind fun y => (s.dec ρ L H xs).bind fun a => some (y, a) else none
  | _ => none
def alF (f : FuncId) (c : VL γ) (s : AL δ) : AL (γ × δ) where
  enc L g := .func (.func f) [] (c.enc L g.1) :: s.enc L g.2
  dec := dalF f c s
  need := max c.need s.need
  nb L g := ⟨⟨trivial, nbL_le (by omega) _ (c.nb L g.1)⟩, nbL_le (by omega) _ (s.nb L g.2)⟩
  ok ρ L H n vs g hv h := by
    unfold dalF at h
    split at h
    · rename_i f' cs xs
      cases hc : decide (f' = f) with
      | false => simp [hc] at h
      | true =>
        simp only [hc, cond_true, Option.bind_eq_some_iff, Option.some.injEq] at h
        obtain ⟨y, hy, a, ha, rfl⟩ := h
        obtain rfl := of_decide_eq_true hc
        refine CoL.cons ?_ (s.ok ρ L H n _ _ (hv.mono (by omega)) ha)
        simp only [AV.ren, renL]
        exact Co.sub (c.ok ρ L _ _ hy).func ⟨trivial, nbL_ren (hv.mono (a := c.need) (by omega)).lt _ (c.nb L y)⟩
    · cases h
def dalZ (s : AL δ) (ρ : List Nat) (L : Lens) (H : List AObj) : List AV → Option δ
  | _ :: xs => s.dec ρ L H xs
  | _ => none
def alZ (s : AL δ) : AL δ where
  enc L g := .any :: s.enc L g
  dec := dalZ s
  need := s.need
  nb L g := ⟨trivial, s.nb L g⟩
  ok ρ L H n vs g hv h := by
    unfold dalZ at h
    split at h
    · exact CoL.cons Co.any (s.ok ρ L H n _ _ hv h)
    · cases h
theorem alN_f : (∀ L g, alN.enc L g = []) ∧ (∀ ρ L H xs, alN.dec ρ L H xs = dvlN xs) ∧ alN.need = 0 := ⟨fun _ _ => rfl, fun _ _ _ _ => rfl, rfl⟩
theorem alT_f {t : Ty γ} {s : AL δ} : (∀ L g, (alT t s).enc L g = t.enc g.1 :: s.enc L g.2) ∧ (∀ ρ L H xs, (alT t s).dec ρ L H xs = dalT t s ρ L H xs) ∧ (alT t s).need = s.need := ⟨fun _ _ => rfl, fun _ _ _ _ => rfl, rfl⟩
theorem alC_f {c : Cel γ} {k : Nat} {s : AL δ} : (∀ L g, (alC c k s).enc L g = c.enc g.1 ++ s.enc L g.2) ∧ (∀ ρ L H xs, (alC c k s).dec ρ L H xs = dalC c k s ρ L H xs) ∧ (alC c k s).need = s.need := ⟨fun _ _ => rfl, fun _ _ _ _ => rfl, rfl⟩
theorem alP_f {k : Nat} {s : AL δ} : (∀ L g, (alP k s).enc L g = .ptr k 0 :: s.enc L g) ∧ (∀ ρ L H xs, (alP k s).dec ρ L H xs = dalP k s ρ L H xs) ∧ (alP k s).need = max (k + 1) s.need := ⟨fun _ _ => rfl, fun _ _ _ _ => rfl, rfl⟩
theorem alM_f {k : Nat} {s : AL δ} : (∀ L g, (alM k s).enc L g = .map k :: s.enc L g) ∧ (∀ ρ L H xs, (alM k s).dec ρ L H xs = dalM k s ρ L H xs) ∧ (alM k s).need = max (k + 1) s.need := ⟨fun _ _ => rfl, fun _ _ _ _ => rfl, rfl⟩
theorem alA_f {k : Nat} {s : AL δ} : (∀ L g, (alA k s).enc L g = .acc k (L k) :: s.enc L g) ∧ (∀ ρ L H xs, (alA k s).dec ρ L H xs = dalA k s ρ L H xs) ∧ (alA k s).need = max (k + 1) s.need := ⟨fun _ _ => rfl, fun _ _ _ _ => rfl, rfl⟩
theorem alF_f {f : FuncId} {c : VL γ} {s : AL δ} : (∀ L g, (alF f c s).enc L g = .func (.func f) [] (c.enc L g.1) :: s.enc L g.2) ∧ (∀ ρ L H xs, (alF f c s).dec ρ L H xs = dalF f c s ρ L H xs) ∧ (alF f c s).need = max c.need s.need := ⟨fun _ _ => rfl, fun _ _ _ _ => rfl, rfl⟩
theorem alZ_f {s : AL δ} : (∀ L g, (alZ s).enc L g = .any :: s.enc L g) ∧ (∀ ρ L H xs, (alZ s).dec ρ L H xs = dalZ s ρ L H xs) ∧ (alZ s).need = s.need := ⟨fun _ _ => rfl, fun _ _ _ _ => rfl, rfl⟩
end specs
end Go.Abs
namespace Go.Abs

theorem objNb_le' {n m : Nat} (h : n ≤ m) (x : AObj) (k : objNb n x) : objNb m x := by
  cases x with
  | cells cs => exact nbL_le h _ k
  | acc imm sz rows => exact nbR_le h _ k
  | map es => exact fun p hp => ⟨AV.nb_le h _ (k p hp).1, AV.nb_le h _ (k p hp).2⟩
  | dead => trivial
theorem imp_select {ys : List AV} {H Ys : List AObj} {ρ : List Nat} {low : Nat} (hlen : ρ.length = Ys.length) (hnd : ρ.Nodup) (hid : ∀ k, k < low → ρ[k]? = some k)
    (hl : low ≤ Ys.length) (hnb : nbL Ys.length ys) (hnbH : ∀ y ∈ Ys, objNb Ys.length y)
    (hobj : ∀ (i k : Nat) (y : AObj), ρ[i]? = some k → Ys[i]? = some y → H[k]? = some (y.ren (atN ρ))) :
    Imp ⟨renL (atN ρ) ys, H, low⟩ ⟨ys, Ys, low⟩ := by
  intro C φ a w S
  let φ' : Nat → Value := fun k => φ (atN ρ k)
  have hρ : ∀ k, k < Ys.length → ρ[k]? = some (atN ρ k) := by
    intro k hk
    have hk' : k < ρ.length := by omega
    rw [atN_of (List.getElem?_eq_getElem hk')]
    exact List.getElem?_eq_getElem hk'
  have hget : ∀ (k : Nat) (y : AObj), Ys[k]? = some y → k < Ys.length ∧ H[atN ρ k]? = some (y.ren (atN ρ)) := by
    intro k y hy
    have hk := (List.getElem?_eq_some_iff.1 hy).1
    exact ⟨hk, hobj k _ y (hρ k hk) hy⟩
  have hfix : ∀ k, k < low → atN ρ k = k := fun k hk => atN_of (hid k hk)
  have hinj : ∀ k k', k < Ys.length → k' < Ys.length → atN ρ k = atN ρ k' → k = k' := by
    intro k k' hk hk' he
    have h1 := hρ k hk
    have h2 := hρ k' hk'
    rw [← he] at h2
    have e1 := posIn_at ρ k _ hnd h1
    have e2 := posIn_at ρ k' _ hnd h2
    rw [e1] at e2; exact Option.some.inj e2
  have hmut : ∀ b o, Mut φ' Ys b o → Mut φ H b o := by
    rintro b o ⟨k, z, hz, hm⟩
    exact ⟨_, _, (hget k z hz).2, ren_muts.2 hm⟩
  have un : UnLe Ys.length (atN ρ) (C.env φ H w) (C.env φ' Ys w) := by
    refine ⟨Nat.le_refl _, fun k hk => ⟨rfl, ?_⟩, fun b o u hm hc => ⟨fun h => hm (h.imp (hmut b o) id), hc⟩⟩
    show accLen Ys[k]? = accLen H[atN ρ k]?
    have hy := List.getElem?_eq_getElem hk
    rw [(hget k _ hy).2, hy, ren_accLen]
  refine ⟨φ', { slots := RepL.unren un _ _ hnb S.slots, defers := S.defers, objs := ?_, apart := ?_, notA := ?_, size := S.size, old := S.old, oldObj := S.oldObj, inM := ?_, froz := S.froz, rest := S.rest, low := ⟨S.low.1, hl⟩, names := ?_ }⟩
  · intro k z hz
    exact ObjRep.unren un (hnbH z (List.mem_of_getElem? hz)) (fun _ _ => rfl) (S.objs _ _ (hget k z hz).2)
  · intro k k' z z' b hz hz' hb hb'
    refine hinj k k' (hget k z hz).1 (hget k' z' hz').1 (S.apart _ _ _ _ b (hget k z hz).2 (hget k' z' hz').2 (ren_block.2 hb) (ren_block.2 hb'))
  · intro k z b o hz hb
    exact S.notA _ _ b o (hget k z hz).2 (ren_block.2 hb)
  · intro k z b o hz hm hb
    exact S.inM _ _ b o (hget k z hz).2 (ren_muts.2 hm) hb
  · intro k hk
    have hk' : k < low := by have := S.low.1; simp only at this; omega
    have hn := S.names k hk
    have e1 : φ' k = φ k := by show φ (atN ρ k) = φ k; rw [hfix k hk']
    have e2 : accLen Ys[k]? = accLen H[k]? := by
      have hy := List.getElem?_eq_getElem (show k < Ys.length by omega)
      have := (hget k _ hy).2
      rw [hfix k hk'] at this
      rw [this, hy, ren_accLen]
    show (φ' k = _ ∧ (accLen Ys[k]? = _ ∨ accLen Ys[k]? = none)) ∨ ((∃ m, _ ∧ ∀ m', accLen Ys[k]? = some m' → _) ∧ _)
    rw [e1, e2]
    exact hn

section objs
variable {α β γ δ : Type}
structure OG (γ : Type) where
  enc : Lens → γ → AObj
  dec : List Nat → Lens → List AObj → AObj → Option γ
  len : γ → Nat
  need : Nat
  nb : ∀ L g, objNb need (enc L g)
  ok : ∀ ρ L H n x g, Cov ρ need n → dec ρ L H x = some g → CoObj H n x ((enc L g).ren (atN ρ))
  lenOK : ∀ ρ L H x g, dec ρ L H x = some g → len g = (accLen (some x)).getD 0
theorem mapO_length {α β : Type} {f : α → Option β} : ∀ {xs : List α} {ys : List β}, mapO f xs = some ys → ys.length = xs.length
  | [], ys, h => by simp only [mapO, Option.some.injEq] at h; subst h; rfl
  | x :: xs, ys, h => by
    simp only [mapO, Option.bind_eq_some_iff, Option.some.injEq] at h
    obtain ⟨y, hy, zs, hz, rfl⟩ := h
    simp [mapO_length hz]
def ogA (imm : Bool) (r : Row α) : OG (List α) where
  enc _ xs := .acc imm r.sz (mp r.enc xs)
  dec _ _ _ := daT imm r
  len xs := xs.length
  need := 0
  nb L g := nbR_rows g
  ok ρ L H n x g _ h := by
    have := (oaT imm r).ok H n x g h
    rw [show (AObj.acc imm r.sz (mp r.enc g)).ren (atN ρ) = .acc imm r.sz (mp r.enc g) from (oaT imm r).ren _ g]
    exact this
  lenOK ρ L H x g h := by
    unfold daT at h
    split at h
    · split at h
      · exact mapO_length h
      · cases h
    · cases h
def docC (c : AL γ) (ρ : List Nat) (L : Lens) (H : List AObj) : AObj → Option γ
  | .cells cs => c.dec ρ L H cs
  | _ => none
def ogC (c : AL γ) : OG γ where
  enc L g := .cells (c.enc L g)
  dec := docC c
  len _ := 0
  need := c.need
  nb L g := c.nb L g
  ok ρ L H n x g hv h := by
    unfold docC at h
    split at h
    · exact .inr (.inr (.inl ⟨_, _, rfl, rfl, c.ok ρ L H n _ _ hv h⟩))
    · cases h
  lenOK ρ L H x g h := by
    unfold docC at h
    split at h
    · rfl
    · cases h
theorem ogA_f {imm : Bool} {r : Row α} : (∀ L g, (ogA imm r).enc L g = .acc imm r.sz (mp r.enc g)) ∧ (∀ ρ L H x, (ogA imm r).dec ρ L H x = daT imm r x) ∧ (∀ g, (ogA imm r).len g = g.length) ∧ (ogA imm r).need = 0 := ⟨fun _ _ => rfl, fun _ _ _ _ => rfl, fun _ => rfl, rfl⟩
theorem ogC_f {c : AL γ} : (∀ L g, (ogC c).enc L g = .cells (c.enc L g)) ∧ (∀ ρ L H x, (ogC c).dec ρ L H x = docC c ρ L H x) ∧ (∀ g, (ogC c).len g = 0) ∧ (ogC c).need = c.need := ⟨fun _ _ => rfl, fun _ _ _ _ => rfl, fun _ => rfl, rfl⟩

structure OL (β : Type) where
  enc : Lens → β → List AObj
  dec : List Nat → Lens → List AObj → List AObj → Option β
  lens : β → Lens
  size : Nat
  need : Nat
  sz : ∀ L b, (enc L b).length = size
  nb : ∀ L b, ∀ y ∈ enc L b, objNb need y
  ok : ∀ ρ L H n xs b, Cov ρ need n → dec ρ L H xs = some b → xs.length = size ∧ ∀ (i : Nat) (y : AObj), (enc L b)[i]? = some y → ∃ x, xs[i]? = some x ∧ CoObj H n x (y.ren (atN ρ))
  szOK : ∀ ρ L H xs b, dec ρ L H xs = some b → xs.length = size
  lensOK : ∀ ρ L H xs b, dec ρ L H xs = some b → ∀ k, lens b k = (accLen xs[k]?).getD 0
def dolN : List AObj → Option Unit
  | [] => some ()
  | _ => none
def olN : OL Unit where
  enc _ _ := []
  dec _ _ _ := dolN
  lens _ _ := 0
  size := 0
  need := 0
  sz _ _ := rfl
  nb _ _ := by simp
  ok ρ L H n xs b _ h := by
    unfold dolN at h
    split at h
    · exact ⟨rfl, by simp⟩
    · cases h
  szOK ρ L H xs b h := by
    unfold dolN at h
    split at h
    · rfl
    · cases h
  lensOK ρ L H xs b h k := by
    unfold dolN at h
    split at h
    · rfl
    · cases h
def dolC (o : OG γ) (s : OL β) (ρ : List Nat) (L : Lens) (H : List AObj) : List AObj → Option (γ × β)
  | x :: xs => (o.dec ρ L H x).bind fun y => (s.dec ρ L H xs).bind fun b => some (y, b)
  | [] => none
def lolC (a : Nat) (f : Lens) : Lens
  | 0 => a
  | k + 1 => f k
def olC (o : OG γ) (s : OL β) : OL (γ × β) where
  enc L b := o.enc L b.1 :: s.enc L b.2
  dec := dolC o s
  lens b := lolC (o.len b.1) (s.lens b.2)
  size := s.size + 1
  need := max o.need s.need
  sz L b := by rw [List.length_cons, s.sz]
  nb L b y hy := by
    simp only [List.mem_cons] at hy
    rcases hy with rfl | hy
    · exact objNb_le' (by omega) _ (o.nb L _)
    · exact objNb_le' (by omega) _ (s.nb L _ y hy)
  ok ρ L H n xs b hv h := by
    unfold dolC at h
    split at h
    · rename_i x xs
      simp only [Option.bind_eq_some_iff, Option.some.injEq] at h
      obtain ⟨y, hy, b, hb, rfl⟩ := h
      obtain ⟨h1, h2⟩ := s.ok ρ L H n _ _ (hv.mono (by omega)) hb
      refine ⟨by rw [List.length_cons, h1], fun i z hz => ?_⟩
      cases i with
      | zero => simp at hz; subst hz; exact ⟨x, by simp, o.ok ρ L H n _ _ (hv.mono (by omega)) hy⟩
      | succ i => simp at hz; obtain ⟨q, hq, hc⟩ := h2 i z hz; exact ⟨q, by simpa using hq, hc⟩
    · cases h
  szOK ρ L H xs b h := by
    unfold dolC at h
    split at h
    · simp only [Option.bind_eq_some_iff, Option.some.injEq] at h
      obtain ⟨y, hy, b, hb, rfl⟩ := h
      rw [List.length_cons, s.szOK _ _ _ _ _ hb]
    · cases h
  lensOK ρ L H xs b h k := by
    unfold dolC at h
    split at h
    · simp only [Option.bind_eq_some_iff, Option.some.injEq] at h
      obtain ⟨y, hy, b, hb, rfl⟩ := h
      cases k with
      | zero => simp only [lolC, List.getElem?_cons_zero]; exact o.lenOK ρ L H _ _ hy
      | succ k => simp only [lolC, List.getElem?_cons_succ]; exact s.lensOK ρ L H _ _ hb k
    · cases h
theorem olN_f : (∀ L b, olN.enc L b = []) ∧ (∀ ρ L H xs, olN.dec ρ L H xs = dolN xs) ∧ (∀ b k, olN.lens b k = 0) ∧ olN.size = 0 ∧ olN.need = 0 := ⟨fun _ _ => rfl, fun _ _ _ _ => rfl, fun _ _ => rfl, rfl, rfl⟩
theorem olC_f {o : OG γ} {s : OL β} : (∀ L b, (olC o s).enc L b = o.enc L b.1 :: s.enc L b.2) ∧ (∀ ρ L H xs, (olC o s).dec ρ L H xs = dolC o s ρ L H xs) ∧ (∀ b, (olC o s).lens b = lolC (o.len b.1) (s.lens b.2)) ∧ (olC o s).size = s.size + 1 ∧ (olC o s).need = max o.need s.need := ⟨fun _ _ => rfl, fun _ _ _ _ => rfl, fun _ => rfl, rfl, rfl⟩
end objs
end Go.Abs
namespace Go.Abs

inductive Loc where
  | arg (i : Nat) (cs : List Nat)
  | obj (k c : Nat) (cs : List Nat)
def nameV : AV → Option Nat
  | .ptr l _ => some l
  | .acc l _ => some l
  | .map l => some l
  | _ => none
def down : List Nat → AV → Option AV
  | [], v => some v
  | i :: is, .func _ _ cap => match cap[i]? with
    | some u => down is u
    | none => none
  | _ :: _, _ => none
def cellAt (c : Nat) : Option AObj → Option AV
  | some (.cells xs) => xs[c]?
  | _ => none
def locN (args : List AV) (H : List AObj) (ρ : List Nat) : Loc → Option Nat
  | .arg i cs => (args[i]?).bind fun v => (down cs v).bind nameV
  | .obj k c cs => (ρ[k]?).bind fun l => (cellAt c H[l]?).bind fun v => (down cs v).bind nameV
def locs (args : List AV) (H : List AObj) : List Loc → List Nat → Option (List Nat)
  | [], ρ => some ρ
  | p :: ps, ρ => (locN args H ρ p).bind fun l => locs args H ps (ρ ++ [l])
theorem locs_pre {args : List AV} {H : List AObj} : ∀ {ps : List Loc} {ρ ρ' : List Nat}, locs args H ps ρ = some ρ' → ∃ ls, ρ' = ρ ++ ls
  | [], ρ, ρ', h => by simp only [locs, Option.some.injEq] at h; exact ⟨[], by rw [h, List.append_nil]⟩
  | p :: ps, ρ, ρ', h => by
    simp only [locs, Option.bind_eq_some_iff] at h
    obtain ⟨l, _, h⟩ := h
    obtain ⟨ls, hl⟩ := locs_pre h
    exact ⟨l :: ls, by rw [hl, List.append_assoc]; rfl⟩
def lnOf (xs : List AObj) (k : Nat) : Nat := (accLen xs[k]?).getD 0

theorem callX {P : Program} {f : FuncId} {σ : AState} {cargs args : List AV} {Ys Ys' : List AObj} {r : AV} {ρ : List Nat} (hG : FnG P f args Ys (fun o H' => o = .ret r ∧ H' = Ys')) (hnd : ρ.Nodup) (hlen : ρ.length = Ys.length) (hlen' : ρ.length ≤ Ys'.length)
    (hobj : ∀ (i k : Nat), ρ[i]? = some k → ∃ x y, σ.heap[k]? = some x ∧ Ys[i]? = some y ∧ CoObj σ.heap σ.heap.length x (y.ren (backTo ρ σ.heap.length))) (hargs : CoL σ.heap σ.heap.length cargs (renL (backTo ρ σ.heap.length) args)) :
    CallA P f cargs σ (fun o H' => o = .ret (r.ren (backTo ρ σ.heap.length)) ∧ H' = heapBack ρ σ.heap Ys') := by
  refine ⟨hG.1, fun C φ a w hP S vs hr => ?_⟩
  let H1 := setAll σ.heap ρ (Ys.map (AObj.ren (backTo ρ σ.heap.length)))
  have hl1 : H1.length = σ.heap.length := setAll_length _ _ _
  have S0 : Sim C φ ⟨σ.slots ++ cargs, σ.heap, σ.low⟩ { tmps := a.tmps ++ vs, defers := a.defers } w := { S with slots := by simpa using S.slots.append hr, defers := S.defers }
  have hat : ∀ (i k : Nat), ρ[i]? = some k → ∃ x y, σ.heap[k]? = some x ∧ Ys[i]? = some y ∧ CoObj σ.heap σ.heap.length x (y.ren (backTo ρ σ.heap.length)) ∧ H1[k]? = some (y.ren (backTo ρ σ.heap.length)) := by
    intro i k hi
    obtain ⟨x, y, hx, hy, hc⟩ := hobj i k hi
    exact ⟨x, y, hx, hy, hc, setAll_at ρ σ.heap _ i k _ hnd hi (by rw [List.getElem?_map, hy]; rfl) (List.getElem?_eq_some_iff.1 hx).1⟩
  have hw : Weak ⟨σ.slots ++ cargs, σ.heap, σ.low⟩ ⟨σ.slots ++ renL (backTo ρ σ.heap.length) args, H1, σ.low⟩ := by
    refine ⟨⟨rfl, by show σ.low ≤ H1.length; rw [hl1]; exact S.low.2⟩, ?_, ?_⟩
    · show CoL σ.heap H1.length _ _
      rw [hl1]
      exact CoL.append (CoL.same (RepL.nb _ _ S.slots)) hargs
    · show CoH σ.heap H1.length σ.heap H1
      rw [hl1]
      refine coH_of_get fun k y hy => ?_
      by_cases hk : k ∈ ρ
      · obtain ⟨i, hi⟩ := List.getElem?_of_mem hk
        obtain ⟨x, y', hx, _, hc, hy'⟩ := hat i k hi
        rw [hy'] at hy; cases hy
        exact ⟨x, hx, hc⟩
      · have hy2 : σ.heap[k]? = some y := by rw [← hy]; exact (setAll_other ρ σ.heap _ k hk).symm
        exact ⟨y, hy2, .inr (.inl ⟨rfl, objNb_rep (S.objs k y hy2)⟩)⟩
  obtain ⟨φ', S1⟩ := hw.imp C φ _ w S0
  have hsl := S1.slots
  simp only [Array.toList_append] at hsl
  have hsz : a.tmps.toList.length = σ.slots.length := S.slots.length
  have h1 := hsl.take σ.slots.length
  have h2 := hsl.drop σ.slots.length
  rw [List.take_left' rfl, List.take_left' hsz] at h1
  rw [List.drop_left' rfl, List.drop_left' hsz] at h2
  have S2 : Sim C φ' { σ with heap := H1 } a w := { S1 with slots := h1, defers := S.defers }
  have hcall : CallA P f (renL (backTo ρ H1.length) args) { σ with heap := H1 } (fun o H' => o = .ret (r.ren (backTo ρ H1.length)) ∧ H' = heapBack ρ σ.heap Ys') := by
    refine callA_of_fnG (σ := { σ with heap := H1 }) hG ρ hlen hnd (SubL.refl _) ?_ ?_
    · intro i k x hi hx
      obtain ⟨x', y, _, hy, _, hy'⟩ := hat i k hi
      rw [hy] at hx; cases hx
      show H1[k]? = some (x.ren (backTo ρ H1.length))
      rw [hy', hl1]
    · rintro o H' ⟨rfl, rfl⟩
      refine ⟨rfl, ?_⟩
      show heapBack ρ H1 H' = _
      unfold heapBack
      rw [hl1]
      simp only [H1]
      rw [setAll_setAll ρ σ.heap _ _ hnd (by rw [List.length_map]; exact hlen')]
  rw [hl1] at hcall
  exact hcall.2 C φ' a w hP S2 vs h2

section entX
variable {α β α' β' : Type}
def entX (pos : List Loc) (os : OL β) (as : AL α) (os' : OL β') (rs : AL α') (F : β → α → Option (β' × α')) : Ent := fun args H =>
  (locs args H pos []).bind fun ρ => bif nodupB ρ && (decide (os.need ≤ ρ.length) && (decide (as.need ≤ ρ.length) && decide (ρ.length ≤ os'.size))) then
    (mapO (getAt H) ρ).bind fun xs => (os.dec ρ (lnOf xs) H xs).bind fun b => (as.dec ρ (lnOf xs) H args).bind fun a => (F b a).bind fun r =>
      some ((tupOf (rs.enc (os'.lens r.1) r.2)).ren (backTo ρ H.length), heapBack ρ H (os'.enc (os'.lens r.1) r.1)) else none

theorem entX_ok {P : Program} {f : FuncId} {pos : List Loc} {os : OL β} {as : AL α} {os' : OL β'} {rs : AL α'} {F : β → α → Option (β' × α')}
    (h : ∀ b a r, F b a = some r → FnG P f (as.enc (os.lens b) a) (os.enc (os.lens b) b) (fun o H' => o = .ret (tupOf (rs.enc (os'.lens r.1) r.2)) ∧ H' = os'.enc (os'.lens r.1) r.1)) : EntOK P f (entX pos os as os' rs F) := by
  intro args σ r H' he
  unfold entX at he
  simp only [Option.bind_eq_some_iff] at he
  obtain ⟨ρ, _, he⟩ := he
  cases hc : (nodupB ρ && (decide (os.need ≤ ρ.length) && (decide (as.need ≤ ρ.length) && decide (ρ.length ≤ os'.size)))) with
  | false => simp [hc] at he
  | true =>
    simp only [hc, cond_true, Option.bind_eq_some_iff, Option.some.injEq, Prod.mk.injEq] at he
    obtain ⟨xs, hxs, b, hb, a, ha, q, hq, rfl, rfl⟩ := he
    simp only [Bool.and_eq_true, decide_eq_true_eq] at hc
    obtain ⟨hnd, n1, n2, n3⟩ := hc
    obtain ⟨h1, h2⟩ := mapO_get hxs
    have hcov : ∀ m, m ≤ ρ.length → Cov ρ m σ.heap.length := by
      intro m hm k hk
      have hk' : k < ρ.length := by omega
      obtain ⟨x, hx, hx'⟩ := h2 k _ (List.getElem?_eq_getElem hk')
      exact ⟨_, List.getElem?_eq_getElem hk', (List.getElem?_eq_some_iff.1 hx').1⟩
    have hL : os.lens b = lnOf xs := funext fun k => os.lensOK ρ _ _ _ _ hb k
    obtain ⟨h3, h4⟩ := os.ok ρ _ σ.heap σ.heap.length _ _ (hcov _ n1) hb
    have hback : ∀ l, l < ρ.length → atN ρ l = backTo ρ σ.heap.length l := fun l hl => by unfold backTo atN; rw [if_pos hl]
    rw [← hL] at ha h4
    refine callX (h b a q hq) (nodupB_ok hnd) (by rw [h1, h3, os.sz]) (by rw [os'.sz]; exact n3) ?_ ?_
    · intro i k hi
      obtain ⟨x, hx, hx'⟩ := h2 i k hi
      have hlt : i < (os.enc (os.lens b) b).length := by rw [os.sz, ← h3, ← h1]; exact (List.getElem?_eq_some_iff.1 hi).1
      have hy := List.getElem?_eq_getElem hlt
      obtain ⟨x2, hx2, hcc⟩ := h4 i _ hy
      rw [hx] at hx2; cases hx2
      refine ⟨x, _, hx', hy, ?_⟩
      rw [← objRen_congr (n := os.need) (fun l hl => hback l (by omega)) _ (os.nb _ _ _ (List.mem_of_getElem? hy))]
      exact hcc
    · rw [← renL_congr (n := as.need) (fun l hl => hback l (by omega)) _ (as.nb _ _)]
      exact as.ok ρ _ σ.heap _ _ _ (hcov _ n2) ha
end entX

section outX
variable {α β γ : Type}
def outS (P : Program) (rs : List ResultVar) (pos : List Loc) (base : List Nat) (low : Nat) (os : OL β) (s : AL α) (σ : AState) : Option (β × α) :=
  (resList P σ rs).bind fun xs => (locs xs σ.heap pos base).bind fun ρ => bif nodupB ρ && ((σ.low == low) && (decide (low ≤ os.size) && (decide (os.need ≤ os.size) && decide (s.need ≤ os.size)))) then
    (mapO (getAt σ.heap) ρ).bind fun ys => (os.dec ρ (lnOf ys) σ.heap ys).bind fun b => (s.dec ρ (lnOf ys) σ.heap xs).bind fun a => some (b, a) else none

theorem outS_ok {P : Program} {rs : List ResultVar} {pos : List Loc} {base : List Nat} {low : Nat} {os : OL β} {s : AL α} {σ : AState} {r : β × α} (hbase : base = List.range low) (h : outS P rs pos base low os s σ = some r) :
    ∃ xs, resList P σ rs = some xs ∧ Imp ⟨xs, σ.heap, σ.low⟩ ⟨s.enc (os.lens r.1) r.2, os.enc (os.lens r.1) r.1, σ.low⟩ := by
  unfold outS at h
  simp only [Option.bind_eq_some_iff] at h
  obtain ⟨xs, hx, ρ, hρ, h⟩ := h
  cases hc : (nodupB ρ && ((σ.low == low) && (decide (low ≤ os.size) && (decide (os.need ≤ os.size) && decide (s.need ≤ os.size))))) with
  | false => simp [hc] at h
  | true =>
    simp only [hc, cond_true, Option.bind_eq_some_iff, Option.some.injEq] at h
    obtain ⟨ys, hys, b, hb, a, ha, rfl⟩ := h
    simp only [Bool.and_eq_true, decide_eq_true_eq, beq_iff_eq] at hc
    obtain ⟨hnd, h1, n1, n2, n3⟩ := hc
    obtain ⟨ls, hls⟩ := locs_pre hρ
    obtain ⟨g1, g2⟩ := mapO_get hys
    have hL : os.lens b = lnOf ys := funext fun k => os.lensOK ρ _ _ _ _ hb k
    rw [← hL] at hb ha
    have hsize : ρ.length = os.size := by
      have : ys.length = os.size := os.szOK _ _ _ _ _ hb
      rw [g1, this]
    refine ⟨xs, hx, fun C φ a' w S => ?_⟩
    have hcov : ∀ m, m ≤ ρ.length → Cov ρ m σ.heap.length := by
      intro m hm k hk
      have hk' : k < ρ.length := by omega
      obtain ⟨x, hx, hx'⟩ := g2 k _ (List.getElem?_eq_getElem hk')
      exact ⟨_, List.getElem?_eq_getElem hk', (List.getElem?_eq_some_iff.1 hx').1⟩
    let Ys := os.enc (os.lens b) b
    have hYl : Ys.length = os.size := os.sz _ _
    let H1 := setAll σ.heap ρ (Ys.map (AObj.ren (atN ρ)))
    have hl1 : H1.length = σ.heap.length := setAll_length _ _ _
    obtain ⟨_, h4⟩ := os.ok ρ _ σ.heap σ.heap.length _ _ (hcov _ (by omega)) hb
    have hat : ∀ (i k : Nat) (y : AObj), ρ[i]? = some k → Ys[i]? = some y → ∃ x, σ.heap[k]? = some x ∧ CoObj σ.heap σ.heap.length x (y.ren (atN ρ)) ∧ H1[k]? = some (y.ren (atN ρ)) := by
      intro i k y hi hy
      obtain ⟨x, hx, hx'⟩ := g2 i k hi
      obtain ⟨x2, hx2, hcc⟩ := h4 i y hy
      rw [hx] at hx2; cases hx2
      exact ⟨x, hx', hcc, setAll_at ρ σ.heap _ i k _ (nodupB_ok hnd) hi (by rw [List.getElem?_map, hy]; rfl) (List.getElem?_eq_some_iff.1 hx').1⟩
    have hw : Weak ⟨xs, σ.heap, σ.low⟩ ⟨renL (atN ρ) (s.enc (os.lens b) a), H1, σ.low⟩ := by
      refine ⟨⟨rfl, by show σ.low ≤ H1.length; rw [hl1]; exact S.low.2⟩, ?_, ?_⟩
      · show CoL σ.heap H1.length _ _
        rw [hl1]
        exact s.ok ρ _ σ.heap _ _ _ (hcov _ (by omega)) ha
      · show CoH σ.heap H1.length σ.heap H1
        rw [hl1]
        refine coH_of_get fun k y hy => ?_
        by_cases hk : k ∈ ρ
        · obtain ⟨i, hi⟩ := List.getElem?_of_mem hk
          have hlt : i < Ys.length := by rw [hYl, ← hsize]; exact (List.getElem?_eq_some_iff.1 hi).1
          obtain ⟨x, hx, hc, hy'⟩ := hat i k _ hi (List.getElem?_eq_getElem hlt)
          rw [hy'] at hy; cases hy
          exact ⟨x, hx, hc⟩
        · have hy2 : σ.heap[k]? = some y := by rw [← hy]; exact (setAll_other ρ σ.heap _ k hk).symm
          exact ⟨y, hy2, .inr (.inl ⟨rfl, objNb_rep (S.objs k y hy2)⟩)⟩
    obtain ⟨φ', S1⟩ := hw.imp C φ _ w S
    refine imp_select (ρ := ρ) (Ys := Ys) (by rw [hsize, hYl]) (nodupB_ok hnd) ?_ (by rw [hYl]; omega) (nbL_le (by omega) _ (s.nb _ _)) (fun y hy => objNb_le' (by omega) _ (os.nb _ _ y hy)) ?_ C φ' a' w S1
    · intro k hk
      rw [hls, hbase, List.getElem?_append_left (by rw [List.length_range]; omega), List.getElem?_range (by omega)]
    · intro i k y hi hy
      obtain ⟨x, _, _, hy'⟩ := hat i k y hi hy
      exact hy'
end outX
end Go.Abs
namespace Go.Abs
theorem max_le_dec {a b c : Nat} : decide (max a b ≤ c) = (decide (a ≤ c) && decide (b ≤ c)) := by
  rw [Bool.eq_iff_iff]
  simp only [decide_eq_true_eq, Bool.and_eq_true]
  exact Nat.max_le
theorem lnOf_def {xs : List AObj} {k : Nat} : lnOf xs k = (accLen xs[k]?).getD 0 := rfl
theorem accLen_f : (∀ i s r, accLen (some (.acc i s r)) = some r.length) ∧ (∀ c, accLen (some (.cells c)) = none) ∧ (∀ e, accLen (some (.map e)) = none) ∧ accLen (some .dead) = none ∧ accLen none = none := ⟨fun _ _ _ => rfl, fun _ => rfl, fun _ => rfl, rfl, rfl⟩
theorem lolC_f {a : Nat} {f : Lens} : lolC a f 0 = a ∧ ∀ k, lolC a f (k + 1) = f k := ⟨rfl, fun _ => rfl⟩
theorem lolC_1 {a : Nat} {f : Lens} : lolC a f 1 = f 0 := rfl
theorem lolC_2 {a : Nat} {f : Lens} : lolC a f 2 = f 1 := rfl
theorem lolC_3 {a : Nat} {f : Lens} : lolC a f 3 = f 2 := rfl
theorem lolC_4 {a : Nat} {f : Lens} : lolC a f 4 = f 3 := rfl
theorem lolC_5 {a : Nat} {f : Lens} : lolC a f 5 = f 4 := rfl
theorem lolC_6 {a : Nat} {f : Lens} : lolC a f 6 = f 5 := rfl
theorem renObj_f {τ : Nat → Nat} : (∀ cs, (AObj.cells cs).ren τ = .cells (renL τ cs)) ∧ (∀ i s r, (AObj.acc i s r).ren τ = .acc i s (renR τ r)) ∧ AObj.dead.ren τ = .dead := ⟨fun _ => rfl, fun _ _ _ => rfl, rfl⟩
theorem vlN_n : vlN.need = 0 := rfl
theorem vlT_n {α β : Type} {t : Ty α} {s : VL β} : (vlT t s).need = s.need := rfl
theorem vlP_n {β : Type} {k : Nat} {s : VL β} : (vlP k s).need = max (k + 1) s.need := rfl
theorem vlM_n {β : Type} {k : Nat} {s : VL β} : (vlM k s).need = max (k + 1) s.need := rfl
theorem vlF_n {α β : Type} {f : FuncId} {c : VL α} {s : VL β} : (vlF f c s).need = max c.need s.need := rfl
attribute [go_sem] vlN_n vlT_n vlP_n vlM_n vlF_n vlN_f vlT_f vlP_f vlM_f vlF_f alN_f alT_f alC_f alP_f alM_f alA_f alF_f alZ_f ogA_f ogC_f olN_f olC_f dvlN dvlT dvlP dvlM dvlF dalT dalC dalP dalM dalA dalF dalZ docC dolN dolC
  entX outS locs locN nameV down cellAt lnOf_def accLen_f Option.getD_some Option.getD_none lolC_f lolC_1 lolC_2 lolC_3 lolC_4 lolC_5 lolC_6 max_le_dec Option.some.injEq
end Go.Abs
