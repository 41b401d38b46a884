/- A part of the proof: abstract states and the rules for them. -/
import Derived.Test.YtgimdhmoloobkaaCoreA
import Derived.Attr
import Derived.Laws.StructEq
import Derived.ChangeKeysEq
set_option linter.all false
namespace Go.Abs

mutual
def AV.ren (ρ : Nat → Nat) : AV → AV
  | .agg cs => .agg (renL ρ cs)
  | .tup cs => .tup (renL ρ cs)
  | .pp cs => .pp (renL ρ cs)
  | .lst t sz rows => .lst t sz (renR ρ rows)
  | .acc l n => .acc (ρ l) n
  | .own l off len cap sz => .own (ρ l) off len cap sz
  | .ptr l off => .ptr (ρ l) off
  | .map l => .map (ρ l)
  | .func fn f c => .func fn (renL ρ f) (renL ρ c)
  | .iface t x => .iface t (x.ren ρ)
  | .any => .any
  | .bool b => .bool b
  | .int k n => .int k n
  | .str s => .str s
  | .raw v => .raw v
def renL (ρ : Nat → Nat) : List AV → List AV
  | [] => []
  | c :: cs => c.ren ρ :: renL ρ cs
def renR (ρ : Nat → Nat) : List (List AV) → List (List AV)
  | [] => []
  | r :: rs => renL ρ r :: renR ρ rs
end

theorem renL_length (ρ : Nat → Nat) : ∀ cs : List AV, (renL ρ cs).length = cs.length
  | [] => rfl
  | _ :: cs => by simp [renL, renL_length ρ cs]
theorem renR_length (ρ : Nat → Nat) : ∀ cs : List (List AV), (renR ρ cs).length = cs.length
  | [] => rfl
  | _ :: cs => by simp [renR, renR_length ρ cs]
theorem renL_append (ρ : Nat → Nat) : ∀ a b : List AV, renL ρ (a ++ b) = renL ρ a ++ renL ρ b
  | [], _ => rfl
  | _ :: a, b => by simp [renL, renL_append ρ a b]
theorem renR_flatten (ρ : Nat → Nat) : ∀ rs : List (List AV), (renR ρ rs).flatten = renL ρ rs.flatten
  | [] => rfl
  | r :: rs => by simp [renR, renL_append, renR_flatten ρ rs]

mutual
theorem ren_of_nb (ρ : Nat → Nat) : ∀ x : AV, x.nb 0 → x.ren ρ = x
  | .acc _ _, h => absurd h (Nat.not_lt_zero _)
  | .own _ _ _ _ _, h => absurd h (Nat.not_lt_zero _)
  | .ptr _ _, h => absurd h (Nat.not_lt_zero _)
  | .map _, h => absurd h (Nat.not_lt_zero _)
  | .agg cs, h => by rw [AV.ren, renL_of_nb ρ cs h]
  | .tup cs, h => by rw [AV.ren, renL_of_nb ρ cs h]
  | .pp cs, h => by rw [AV.ren, renL_of_nb ρ cs h]
  | .lst _ _ rows, h => by rw [AV.ren, renR_of_nb ρ rows h]
  | .func _ f c, h => by rw [AV.ren, renL_of_nb ρ f h.1, renL_of_nb ρ c h.2]
  | .iface _ x, h => by rw [AV.ren, ren_of_nb ρ x h]
  | .any, _ | .bool _, _ | .int _ _, _ | .str _, _ | .raw _, _ => by rw [AV.ren]
theorem renL_of_nb (ρ : Nat → Nat) : ∀ xs : List AV, nbL 0 xs → renL ρ xs = xs
  | [], _ => rfl
  | x :: xs, h => by rw [renL, ren_of_nb ρ x h.1, renL_of_nb ρ xs h.2]
theorem renR_of_nb (ρ : Nat → Nat) : ∀ xs : List (List AV), nbR 0 xs → renR ρ xs = xs
  | [], _ => rfl
  | x :: xs, h => by rw [renR, renL_of_nb ρ x h.1, renR_of_nb ρ xs h.2]
end

def AObj.ren (ρ : Nat → Nat) : AObj → AObj
  | .cells cs => .cells (renL ρ cs)
  | .acc imm sz rows => .acc imm sz (renR ρ rows)
  | .map es => .map (es.map fun p => (p.1.ren ρ, p.2.ren ρ))
  | .dead => .dead

def AOut.ren (ρ : Nat → Nat) : AOut → AOut
  | .ret r => .ret (r.ren ρ)
  | .panic x => .panic (x.ren ρ)

structure RenLe (N : Nat) (ρ : Nat → Nat) (E E' : Env) : Prop where
  n : ∀ l, l < N → ρ l < E'.n
  names : ∀ l, l < N → E'.φ (ρ l) = E.φ l ∧ (E'.ln (ρ l) = E.ln l ∨ E'.ln (ρ l) = none)
  mem : ∀ b o u, ¬ E.mu b o → E.w.cell? ⟨b, o, none⟩ = some u → ¬ E'.mu b o ∧ E'.w.cell? ⟨b, o, none⟩ = some u

section
variable {E E' : Env} {N : Nat} {ρ : Nat → Nat}
mutual
theorem Rep.ren (h : RenLe N ρ E E') : ∀ (x : AV) (v : Value), x.nb N → Rep E x v → Rep E' (x.ren ρ) v
  | .any, _, _, _ => trivial
  | .bool _, _, _, r => r
  | .int _ _, _, _, r => r
  | .str _, _, _, r => r
  | .raw _, _, _, r => r
  | .agg cs, _, hb, ⟨vs, hv, hr⟩ => ⟨vs, hv, RepL.ren h cs _ hb hr⟩
  | .tup cs, _, hb, ⟨vs, hv, hr⟩ => ⟨vs, hv, RepL.ren h cs _ hb hr⟩
  | .lst t sz rows, _, hb, ⟨base, cap, h1, h2, h3, h4, h5, h6⟩ =>
    ⟨base, cap, by rw [renR_length]; exact h1, by rw [renR_length]; exact h2, fun e => by rw [renR_length]; exact h3 e, h4, fun a ha hne => h5 a ha (fun e => hne (by rw [e]; rfl)), fun a ha => RepRows.ren h rows _ hb (h6 a ha)⟩
  | .acc l n, v, hb, ⟨_, hsl, r⟩ => ⟨h.n l hb, hsl, fun k hk => by
      rcases (h.names l hb).2 with e | e
      · rw [e] at hk; rw [(h.names l hb).1]; exact r k hk
      · rw [e] at hk; cases hk⟩
  | .own l i n o sz, v, hb, ⟨_, hsl, r⟩ => ⟨h.n l hb, hsl, fun k hk => by
      rcases (h.names l hb).2 with e | e
      · rw [e] at hk; rw [(h.names l hb).1]; exact r k hk
      · rw [e] at hk; cases hk⟩
  | .ptr l off, v, hb, ⟨_, b, hφ, hv⟩ => ⟨h.n l hb, b, by rw [(h.names l hb).1]; exact hφ, hv⟩
  | .map l, v, hb, ⟨_, hv, r, hφ⟩ => ⟨h.n l hb, by rw [(h.names l hb).1]; exact hv, r, by rw [(h.names l hb).1]; exact hφ⟩
  | .pp cs, _, hb, ⟨b, off, hv, r⟩ => ⟨b, off, hv, RepMem.ren h cs _ hb r⟩
  | .func _ f c, _, hb, ⟨f', c', hv, r1, r2⟩ => ⟨f', c', hv, RepL.ren h f _ hb.1 r1, RepL.ren h c _ hb.2 r2⟩
  | .iface _ x, _, hb, ⟨u, hv, r⟩ => ⟨u, hv, Rep.ren h x _ hb r⟩
theorem RepL.ren (h : RenLe N ρ E E') : ∀ (cs : List AV) (vs : List Value), nbL N cs → RepL E cs vs → RepL E' (renL ρ cs) vs
  | [], _, _, r => r
  | c :: cs, _, hb, ⟨u, us, hv, r1, r2⟩ => ⟨u, us, hv, Rep.ren h c _ hb.1 r1, RepL.ren h cs _ hb.2 r2⟩
theorem RepMem.ren (h : RenLe N ρ E E') {b : Nat} : ∀ (cs : List AV) (off : Nat), nbL N cs → RepMem E b off cs → RepMem E' b off (renL ρ cs)
  | [], _, _, _ => trivial
  | c :: cs, off, hb, ⟨⟨hm, u, hu, h1, r1⟩, r2⟩ =>
    let ⟨m, c'⟩ := h.mem b off u hm hu
    ⟨⟨m, u, c', h1, Rep.ren h c _ hb.1 r1⟩, RepMem.ren h cs _ hb.2 r2⟩
theorem RepRows.ren (h : RenLe N ρ E E') {sz b : Nat} : ∀ (rs : List (List AV)) (off : Nat), nbR N rs → RepRows E sz b off rs → RepRows E' sz b off (renR ρ rs)
  | [], _, _, _ => trivial
  | r :: rs, off, hb, ⟨hl, r1, r2⟩ => ⟨by rw [renL_length]; exact hl, RepMem.ren h r _ hb.1 r1, RepRows.ren h rs _ hb.2 r2⟩
end

structure UnLe (N : Nat) (ρ : Nat → Nat) (E' E : Env) : Prop where
  n : N ≤ E.n
  names : ∀ l, l < N → E.φ l = E'.φ (ρ l) ∧ E.ln l = E'.ln (ρ l)
  mem : ∀ b o u, ¬ E'.mu b o → E'.w.cell? ⟨b, o, none⟩ = some u → ¬ E.mu b o ∧ E.w.cell? ⟨b, o, none⟩ = some u

mutual
theorem Rep.unren (h : UnLe N ρ E' E) : ∀ (x : AV) (v : Value), x.nb N → Rep E' (x.ren ρ) v → Rep E x v
  | .any, _, _, _ => trivial
  | .bool _, _, _, r => r
  | .int _ _, _, _, r => r
  | .str _, _, _, r => r
  | .raw _, _, _, r => r
  | .agg cs, _, hb, ⟨vs, hv, hr⟩ => ⟨vs, hv, RepL.unren h cs _ hb hr⟩
  | .tup cs, _, hb, ⟨vs, hv, hr⟩ => ⟨vs, hv, RepL.unren h cs _ hb hr⟩
  | .lst t sz rows, _, hb, ⟨base, cap, h1, h2, h3, h4, h5, h6⟩ => by
    rw [renR_length] at h1 h2 h3
    refine ⟨base, cap, h1, h2, h3, h4, fun a ha hne => h5 a ha (fun e => hne ?_), fun a ha => RepRows.unren h rows _ hb (h6 a ha)⟩
    have := congrArg List.length e
    rw [renR_length] at this
    exact List.eq_nil_of_length_eq_zero this
  | .acc l n, v, hb, ⟨_, hsl, r⟩ => ⟨Nat.lt_of_lt_of_le hb h.n, hsl, fun k hk => by rw [(h.names l hb).2] at hk; rw [(h.names l hb).1]; exact r k hk⟩
  | .own l i n o sz, v, hb, ⟨_, hsl, r⟩ => ⟨Nat.lt_of_lt_of_le hb h.n, hsl, fun k hk => by rw [(h.names l hb).2] at hk; rw [(h.names l hb).1]; exact r k hk⟩
  | .ptr l off, v, hb, ⟨_, b, hφ, hv⟩ => ⟨Nat.lt_of_lt_of_le hb h.n, b, by rw [(h.names l hb).1]; exact hφ, hv⟩
  | .map l, v, hb, ⟨_, hv, r, hφ⟩ => ⟨Nat.lt_of_lt_of_le hb h.n, by rw [(h.names l hb).1]; exact hv, r, by rw [(h.names l hb).1]; exact hφ⟩
  | .pp cs, _, hb, ⟨b, off, hv, r⟩ => ⟨b, off, hv, RepMem.unren h cs _ hb r⟩
  | .func _ f c, _, hb, ⟨f', c', hv, r1, r2⟩ => ⟨f', c', hv, RepL.unren h f _ hb.1 r1, RepL.unren h c _ hb.2 r2⟩
  | .iface _ x, _, hb, ⟨u, hv, r⟩ => ⟨u, hv, Rep.unren h x _ hb r⟩
theorem RepL.unren (h : UnLe N ρ E' E) : ∀ (cs : List AV) (vs : List Value), nbL N cs → RepL E' (renL ρ cs) vs → RepL E cs vs
  | [], _, _, r => r
  | c :: cs, _, hb, ⟨u, us, hv, r1, r2⟩ => ⟨u, us, hv, Rep.unren h c _ hb.1 r1, RepL.unren h cs _ hb.2 r2⟩
theorem RepMem.unren (h : UnLe N ρ E' E) {b : Nat} : ∀ (cs : List AV) (off : Nat), nbL N cs → RepMem E' b off (renL ρ cs) → RepMem E b off cs
  | [], _, _, _ => trivial
  | c :: cs, off, hb, ⟨⟨hm, u, hu, h1, r1⟩, r2⟩ =>
    let ⟨m, c'⟩ := h.mem b off u hm hu
    ⟨⟨m, u, c', h1, Rep.unren h c _ hb.1 r1⟩, RepMem.unren h cs _ hb.2 r2⟩
theorem RepRows.unren (h : UnLe N ρ E' E) {sz b : Nat} : ∀ (rs : List (List AV)) (off : Nat), nbR N rs → RepRows E' sz b off (renR ρ rs) → RepRows E sz b off rs
  | [], _, _, _ => trivial
  | r :: rs, off, hb, ⟨hl, r1, r2⟩ => ⟨by rw [renL_length] at hl; exact hl, RepMem.unren h r _ hb.1 r1, RepRows.unren h rs _ hb.2 r2⟩
end
end

theorem renPairs {E E' : Env} {N : Nat} {ρ : Nat → Nat} (h : RenLe N ρ E E') : ∀ {es : List (AV × AV)} {xs : List MapEntry}, (∀ p ∈ es, p.1.nb N ∧ p.2.nb N) → RepPairs E es xs → RepPairs E' (es.map fun p => (p.1.ren ρ, p.2.ren ρ)) xs
  | [], _, _, r => r
  | (k, v) :: _, _, hb, ⟨e, s, he, r1, r2, r3⟩ =>
    ⟨e, s, he, Rep.ren h k _ (hb (k, v) (by simp)).1 r1, Rep.ren h v _ (hb (k, v) (by simp)).2 r2, renPairs h (fun p hp => hb p (by simp [hp])) r3⟩

theorem unrenPairs {E E' : Env} {N : Nat} {ρ : Nat → Nat} (h : UnLe N ρ E' E) : ∀ {es : List (AV × AV)} {xs : List MapEntry}, (∀ p ∈ es, p.1.nb N ∧ p.2.nb N) → RepPairs E' (es.map fun p => (p.1.ren ρ, p.2.ren ρ)) xs → RepPairs E es xs
  | [], _, _, r => r
  | (k, v) :: _, _, hb, ⟨e, s, he, r1, r2, r3⟩ =>
    ⟨e, s, he, Rep.unren h k _ (hb (k, v) (by simp)).1 r1, Rep.unren h v _ (hb (k, v) (by simp)).2 r2, unrenPairs h (fun p hp => hb p (by simp [hp])) r3⟩

theorem ObjRep.ren {E E' : Env} {N : Nat} {ρ : Nat → Nat} (h : RenLe N ρ E E') {x : AObj} {hd : Value} (hb : objNb N x) (hw : ∀ b, x.block hd b → E'.w.heap[b]? = E.w.heap[b]?) (r : ObjRep E x hd) : ObjRep E' (x.ren ρ) hd := by
  cases x with
  | cells cs =>
    obtain ⟨b, c, t, rfl, h2, rl, h3⟩ := r
    exact ⟨b, c, t, rfl, by rw [hw b rfl]; exact h2, RepL.ren h _ _ hb rl, h3⟩
  | acc imm sz rows =>
    obtain ⟨base, cap, rfl, h2, h3, h4, h5⟩ := r
    refine ⟨base, cap, by rw [renR_length], by rw [renR_length]; exact h2, h3, ?_, fun a0 ha hc => ?_⟩
    · have key : ∀ rs : List (List AV), (∀ r ∈ rs, r.length = sz) → ∀ r ∈ renR ρ rs, r.length = sz := by
        intro rs
        induction rs with
        | nil => intro _ r hr; simp [renR] at hr
        | cons q rs ih =>
          intro hl r hr
          simp only [renR, List.mem_cons] at hr
          rcases hr with rfl | hr
          · rw [renL_length]; exact hl q (by simp)
          · exact ih (fun p hp => hl p (by simp [hp])) r hr
      exact key rows h4
    · obtain ⟨h6, c, t, h7, h8, rl, h9⟩ := h5 a0 ha hc
      subst ha
      rw [renR_length, renR_flatten]
      exact ⟨h6, c, t, by rw [hw _ ⟨rfl, hc⟩]; exact h7, h8, RepL.ren h _ _ (nbL_flatten hb) rl, h9⟩
  | map es =>
    obtain ⟨r', en, cl, rfl, h2, rp⟩ := r
    exact ⟨r', en, cl, rfl, by rw [hw r' rfl]; exact h2, renPairs h hb rp⟩
  | dead => trivial

theorem ObjRep.unren {E E' : Env} {N : Nat} {ρ : Nat → Nat} (h : UnLe N ρ E' E) {x : AObj} {hd : Value} (hb : objNb N x) (hw : ∀ b, (x.ren ρ).block hd b → E.w.heap[b]? = E'.w.heap[b]?) (r : ObjRep E' (x.ren ρ) hd) : ObjRep E x hd := by
  cases x with
  | cells cs =>
    obtain ⟨b, c, t, rfl, h2, rl, h3⟩ := r
    exact ⟨b, c, t, rfl, by rw [hw b rfl]; exact h2, RepL.unren h _ _ hb rl, h3⟩
  | acc imm sz rows =>
    obtain ⟨base, cap, rfl, h2, h3, h4, h5⟩ := r
    rw [renR_length] at h2 hw
    refine ⟨base, cap, by rw [renR_length], h2, h3, ?_, fun a0 ha hc => ?_⟩
    · have key : ∀ rs : List (List AV), (∀ r ∈ renR ρ rs, r.length = sz) → ∀ r ∈ rs, r.length = sz := by
        intro rs
        induction rs with
        | nil => intro _ r hr; simp at hr
        | cons q rs ih =>
          intro hl r hr
          simp only [List.mem_cons] at hr
          rcases hr with rfl | hr
          · have := hl (renL ρ r) (by simp [renR]); rw [renL_length] at this; exact this
          · exact ih (fun p hp => hl p (by simp [renR, hp])) r hr
      exact key rows h4
    · obtain ⟨h6, c, t, h7, h8, rl, h9⟩ := h5 a0 ha hc
      subst ha
      rw [renR_length] at rl h9
      rw [renR_flatten] at rl
      exact ⟨h6, c, t, by rw [hw _ ⟨rfl, hc⟩]; exact h7, h8, RepL.unren h _ _ (nbL_flatten hb) rl, h9⟩
  | map es =>
    obtain ⟨r', en, cl, rfl, h2, rp⟩ := r
    exact ⟨r', en, cl, rfl, by rw [hw r' rfl]; exact h2, unrenPairs h hb rp⟩
  | dead => trivial

theorem ren_muts {ρ : Nat → Nat} {x : AObj} {h : Value} {b o : Nat} : (x.ren ρ).muts h b o ↔ x.muts h b o := by
  cases x with
  | cells cs => cases h with
    | pointer p => cases p <;> exact Iff.rfl
    | _ => exact Iff.rfl
  | acc imm sz rows => cases h with
    | slice p n c => cases p <;> exact Iff.rfl
    | _ => exact Iff.rfl
  | map es => cases h with
    | map p => cases p <;> exact Iff.rfl
    | _ => exact Iff.rfl
  | dead => exact Iff.rfl
theorem ren_block {ρ : Nat → Nat} {x : AObj} {h : Value} {b : Nat} : (x.ren ρ).block h b ↔ x.block h b := by
  cases x with
  | cells cs => cases h with
    | pointer p => cases p <;> exact Iff.rfl
    | _ => exact Iff.rfl
  | acc imm sz rows => cases h with
    | slice p n c => cases p <;> exact Iff.rfl
    | _ => exact Iff.rfl
  | map es => cases h with
    | map p => cases p <;> exact Iff.rfl
    | _ => exact Iff.rfl
  | dead => exact Iff.rfl
theorem ren_accLen {ρ : Nat → Nat} {x : AObj} : accLen (some (x.ren ρ)) = accLen (some x) := by
  cases x <;> simp [accLen, AObj.ren, renR_length]

theorem muts_of_block {x : AObj} {h : Value} {b : Nat} (hb : x.block h b) : ∃ o, x.muts h b o := by
  cases x with
  | cells cs =>
    cases h with
    | pointer p => cases p with
      | none => exact absurd hb id
      | some a => exact ⟨0, hb⟩
    | _ => exact absurd hb id
  | acc imm sz rows =>
    cases h with
    | slice base n cap => cases base with
      | none => exact absurd hb id
      | some a => exact ⟨a.off + n * sz, hb, fun _ => Nat.le_refl _⟩
    | _ => exact absurd hb id
  | map es =>
    cases h with
    | map r => cases r with
      | none => exact absurd hb id
      | some a => exact ⟨0, hb⟩
    | _ => exact absurd hb id
  | dead => exact absurd hb id

end Go.Abs
namespace Go.Abs
set_option linter.unusedVariables false

theorem quiet_nw {P : Program} {σ : AState} {op : Op} {e : Eff} (hq : quiet op = true) (h : opEff P σ op = some e) : e.nw = [] := by
  cases op with
  | move x => cases h; rfl
  | assign x => cases h; rfl
  | pick c x y => simp only [opEff] at h; split at h <;> cases h; rfl
  | unOp op t x => simp only [opEff] at h; split at h <;> cases h <;> rfl
  | fieldAddr t x i => simp only [opEff] at h; split at h <;> cases h <;> rfl
  | extract x i =>
    simp only [opEff] at h
    split at h
    · split at h <;> cases h; rfl
    · cases h
  | binOp op t x y u =>
    simp only [opEff] at h
    split at h
    · cases h; rfl
    · unfold aggEff at h
      split at h <;> cases h <;> rfl
  | load t x =>
    simp only [opEff] at h
    split at h
    · split at h
      · split at h
        · unfold ldV at h
          split at h
          · split at h <;> cases h; rfl
          · cases h; rfl
        · cases h
      · cases h
    · split at h <;> cases h; rfl
    · split at h
      · split at h
        · split at h
          · split at h <;> cases h; rfl
          · cases h
        · cases h
      · cases h
    · cases h
  | store t x y =>
    simp only [opEff] at h
    split at h
    · split at h
      · split at h <;> cases h; rfl
      · cases h
    · split at h
      · split at h
        · split at h
          · split at h <;> cases h; rfl
          · cases h
        · cases h
      · cases h
    · cases h
  | field t x i =>
    simp only [opEff] at h
    split at h
    · split at h
      · split at h <;> cases h; rfl
      · cases h
    · cases h
  | index t x i =>
    simp only [opEff] at h
    split at h
    · split at h
      · split at h <;> cases h; rfl
      · cases h
    · cases h
  | indexAddr t x i =>
    simp only [opEff] at h
    split at h
    · split at h
      · split at h
        · split at h <;> cases h; rfl
        · cases h
      · split at h
        · split at h
          · split at h <;> cases h; rfl
          · cases h
        · split at h <;> cases h; rfl
        · cases h
      · cases h
    · split at h
      · split at h
        · split at h <;> cases h; rfl
        · cases h
      · cases h
  | _ => simp [quiet] at hq

mutual
theorem ren_fix {ρ : Nat → Nat} {n : Nat} (hf : ∀ l, l < n → ρ l = l) : ∀ x : AV, x.nb n → x.ren ρ = x
  | .acc l _, h => by rw [AV.ren, hf l h]
  | .own l _ _ _ _, h => by rw [AV.ren, hf l h]
  | .ptr l _, h => by rw [AV.ren, hf l h]
  | .map l, h => by rw [AV.ren, hf l h]
  | .agg cs, h => by rw [AV.ren, renL_fix hf cs h]
  | .tup cs, h => by rw [AV.ren, renL_fix hf cs h]
  | .pp cs, h => by rw [AV.ren, renL_fix hf cs h]
  | .lst _ _ rows, h => by rw [AV.ren, renR_fix hf rows h]
  | .func _ f c, h => by rw [AV.ren, renL_fix hf f h.1, renL_fix hf c h.2]
  | .iface _ x, h => by rw [AV.ren, ren_fix hf x h]
  | .any, _ | .bool _, _ | .int _ _, _ | .str _, _ | .raw _, _ => by rw [AV.ren]
theorem renL_fix {ρ : Nat → Nat} {n : Nat} (hf : ∀ l, l < n → ρ l = l) : ∀ xs : List AV, nbL n xs → renL ρ xs = xs
  | [], _ => rfl
  | x :: xs, h => by rw [renL, ren_fix hf x h.1, renL_fix hf xs h.2]
theorem renR_fix {ρ : Nat → Nat} {n : Nat} (hf : ∀ l, l < n → ρ l = l) : ∀ xs : List (List AV), nbR n xs → renR ρ xs = xs
  | [], _ => rfl
  | x :: xs, h => by rw [renR, renL_fix hf x h.1, renR_fix hf xs h.2]
end
theorem obj_fix {ρ : Nat → Nat} {n : Nat} (hf : ∀ l, l < n → ρ l = l) (x : AObj) (h : objNb n x) : x.ren ρ = x := by
  cases x with
  | cells cs => simp only [AObj.ren, renL_fix hf cs h]
  | acc imm sz rows => simp only [AObj.ren, renR_fix hf rows h]
  | map es =>
    simp only [AObj.ren, AObj.map.injEq]
    have h : ∀ p ∈ es, p.1.nb n ∧ p.2.nb n := h
    induction es with
    | nil => rfl
    | cons p es ih =>
      have hp := h p (by simp)
      rw [List.map_cons, ih (fun q hq => h q (by simp [hq])) (fun q hq => h q (by simp [hq])), ren_fix hf _ hp.1, ren_fix hf _ hp.2]
  | dead => rfl
theorem objNb_le {n m : Nat} (h : n ≤ m) (x : AObj) (hx : objNb n x) : objNb m x := by
  cases x with
  | cells cs => exact nbL_le h _ hx
  | acc imm sz rows => exact nbR_le h _ hx
  | map es => exact fun p hp => ⟨AV.nb_le h _ (hx p hp).1, AV.nb_le h _ (hx p hp).2⟩
  | dead => trivial

def tau (n l : Nat) : Nat := if l = n then n + 1 else if l = n + 1 then n else l
theorem tau_tau (n l : Nat) : tau n (tau n l) = l := by unfold tau; split <;> (try split) <;> (try split) <;> (try split) <;> omega
theorem tau_low {n l : Nat} (h : l < n) : tau n l = l := by unfold tau; split <;> (try split) <;> omega
theorem tau_lt {n l : Nat} (h : l < n + 2) : tau n l < n + 2 := by unfold tau; split <;> (try split) <;> omega

theorem tau_get {α : Type} {H : List α} {x y z : α} {l : Nat} (h : (H ++ [x] ++ [y])[l]? = some z) : (H ++ [y] ++ [x])[tau H.length l]? = some z := by
  have hl : l < H.length + 2 := by have := (List.getElem?_eq_some_iff.1 h).1; simpa using this
  rw [List.append_assoc] at h ⊢
  by_cases h1 : l < H.length
  · rw [tau_low h1, List.getElem?_append_left h1]
    rwa [List.getElem?_append_left h1] at h
  · rw [List.getElem?_append_right (by omega)] at h
    by_cases h2 : l = H.length
    · subst h2
      simp only [Nat.sub_self, List.cons_append, List.getElem?_cons_zero] at h
      simp only [tau, if_true]
      rw [List.getElem?_append_right (by omega)]
      simpa using h
    · have h3 : l = H.length + 1 := by omega
      subst h3
      simp only [show H.length + 1 - H.length = 1 by omega, List.cons_append, List.nil_append, List.getElem?_cons_succ, List.getElem?_cons_zero] at h
      simp only [tau, if_true, Nat.add_eq_left, Nat.one_ne_zero, if_false]
      rw [List.getElem?_append_right (by omega)]
      simpa using h

theorem Sim.swap {C : Ctx} {φ : Nat → Value} {a : Act} {w : World} {s : List AV} {H : List AObj} {x y : AObj} {low : Nat} (hlow : low ≤ H.length) (hH : ∀ z ∈ H, objNb H.length z) (hx : objNb 0 x) (hy : objNb 0 y)
    (S : Sim C φ ⟨s, H ++ [x] ++ [y], low⟩ a w) : Sim C (fun l => φ (tau H.length l)) ⟨renL (tau H.length) s, H ++ [y] ++ [x], low⟩ a w := by
  have hobj : ∀ z ∈ H ++ [x] ++ [y], objNb H.length z := by
    intro z hz
    simp only [List.mem_append, List.mem_singleton] at hz
    rcases hz with (hz | rfl) | rfl
    · exact hH z hz
    · exact objNb_le (Nat.zero_le _) _ hx
    · exact objNb_le (Nat.zero_le _) _ hy
  have back : ∀ (l : Nat) (z : AObj), (H ++ [y] ++ [x])[l]? = some z → (H ++ [x] ++ [y])[tau H.length l]? = some z := fun l z h => tau_get h
  have fwd : ∀ (l : Nat) (z : AObj), (H ++ [x] ++ [y])[l]? = some z → (H ++ [y] ++ [x])[tau H.length l]? = some z := fun l z h => tau_get h
  have hmut : ∀ b o, Mut (fun l => φ (tau H.length l)) (H ++ [y] ++ [x]) b o ↔ Mut φ (H ++ [x] ++ [y]) b o := by
    intro b o
    constructor
    · rintro ⟨l, z, hz, hm⟩
      exact ⟨_, z, back l z hz, hm⟩
    · rintro ⟨l, z, hz, hm⟩
      refine ⟨_, z, fwd l z hz, ?_⟩
      simp only [tau_tau]; exact hm
  have ren : RenLe (H.length + 2) (tau H.length) (C.env φ (H ++ [x] ++ [y]) w) (C.env (fun l => φ (tau H.length l)) (H ++ [y] ++ [x]) w) := by
    refine ⟨fun l hl => ?_, fun l hl => ?_, fun b o u hm hc => ⟨?_, hc⟩⟩
    · simp only [Ctx.env, List.length_append, List.length_singleton]; exact tau_lt hl
    · simp only [Ctx.env, tau_tau, true_and]
      have hl' : l < (H ++ [x] ++ [y]).length := by simpa using hl
      have h1 := List.getElem?_eq_getElem hl'
      rw [h1, fwd l _ h1]
      exact .inl rfl
    · simp only [Ctx.env] at hm ⊢
      rw [hmut]; exact hm
  refine { slots := ?_, defers := S.defers, objs := ?_, apart := ?_, notA := ?_, size := S.size, old := S.old, oldObj := S.oldObj, inM := ?_, froz := S.froz, rest := S.rest, low := ⟨S.low.1, by simp only [List.length_append, List.length_singleton]; omega⟩, names := ?_ }
  · refine RepL.ren ren _ _ ?_ S.slots
    have := RepL.nb _ _ S.slots
    simpa [Ctx.env] using this
  · intro l z hz
    have h1 := back l z hz
    have hm := hobj z (List.mem_of_getElem? h1)
    have := ObjRep.ren ren (objNb_le (by omega) _ hm) (fun _ _ => rfl) (S.objs _ z h1)
    rw [obj_fix (fun l hl => tau_low hl) z hm] at this
    exact this
  · intro l l' z z' b hz hz' hb hb'
    have := S.apart _ _ z z' b (back l z hz) (back l' z' hz') hb hb'
    have h2 := congrArg (tau H.length) this
    simpa only [tau_tau] using h2
  · intro l z b o hz hb
    exact S.notA _ z b o (back l z hz) hb
  · intro l z b o hz hm
    exact S.inM _ z b o (back l z hz) hm
  · intro l hl
    have hN : C.N0 = low := S.low.1
    have hlt : l < H.length := by omega
    have := S.names l hl
    have e1 : (H ++ [y] ++ [x])[l]? = (H ++ [x] ++ [y])[l]? := by
      rw [List.append_assoc, List.append_assoc, List.getElem?_append_left hlt, List.getElem?_append_left hlt]
    simp only [tau_low hlt] at this ⊢
    rw [e1]
    exact this

theorem objNb_of_rep {E : Env} {x : AObj} {h : Value} (r : ObjRep E x h) (hx : ∀ imm sz rows, x = .acc imm sz rows → (∃ base n cap, h = .slice base n cap ∧ cap ≠ 0 ∧ base ≠ none) ∨ rows = []) : objNb E.n x := by
  cases x with
  | cells cs => obtain ⟨_, _, _, _, _, rl, _⟩ := r; exact RepL.nb _ _ rl
  | acc imm sz rows =>
    rcases hx imm sz rows rfl with ⟨base, n, cap, rfl, hc, hb⟩ | rfl
    · obtain ⟨base', cap', h1, h2, h3, h4, h5⟩ := r
      simp only [Value.slice.injEq] at h1
      obtain ⟨rfl, rfl, rfl⟩ := h1
      cases base with
      | none => exact absurd rfl hb
      | some a0 =>
        obtain ⟨_, c, t, _, _, rl, _⟩ := h5 a0 rfl hc
        have hn := RepL.nb _ _ rl
        have key : ∀ rows : List (List AV), nbL E.n rows.flatten → nbR E.n rows := by
          intro rows
          induction rows with
          | nil => intro _; trivial
          | cons q rs ih =>
            intro this
            simp only [List.flatten_cons] at this
            have split : ∀ (p q : List AV), nbL E.n (p ++ q) → nbL E.n p ∧ nbL E.n q := by
              intro p
              induction p with
              | nil => intro q h; exact ⟨trivial, h⟩
              | cons z p ihp => intro q h; exact ⟨⟨h.1, (ihp q h.2).1⟩, (ihp q h.2).2⟩
            exact ⟨(split _ _ this).1, ih (split _ _ this).2⟩
        exact key rows hn
    · trivial
  | map es => obtain ⟨_, _, _, _, _, rp⟩ := r; exact RepPairs.nb rp
  | dead => trivial

theorem objNb_rep {E : Env} {x : AObj} {h : Value} (r : ObjRep E x h) : objNb E.n x := by
  refine objNb_of_rep r ?_
  rintro imm sz rows rfl
  obtain ⟨base, cap, rfl, h2, h3, _⟩ := r
  cases base with
  | none =>
    right
    have := h3 rfl
    exact List.eq_nil_of_length_eq_zero (by omega)
  | some a0 =>
    by_cases hc : cap = 0
    · right; exact List.eq_nil_of_length_eq_zero (by omega)
    · exact .inl ⟨_, _, _, rfl, hc, by simp⟩

theorem tzero_nb {P : Program} {t : TypeId} {z : List AV} (w : World) (h : tzero P t = some z) : nbL 0 z := by
  obtain ⟨v, _, hr, _⟩ := tzero_run (w := w) h
  exact RepL.nb _ _ (hr { w, mu := fun _ _ => False, φ := fun _ => .tuple #[], ln := fun _ => none, n := 0 })
end Go.Abs
namespace Go.Abs
set_option linter.unusedVariables false
section
variable {P : Program} {ops : Array Oper}
theorem plainAlloc_spec {o : Oper} (h : plainAlloc o = true) : ∃ t, o.op = .alloc t ∧ o.guard = none := by
  unfold plainAlloc at h
  simp only [Bool.and_eq_true, Option.isNone_iff_eq_none] at h
  obtain ⟨h1, h2⟩ := h
  cases ho : o.op with
  | alloc t => exact ⟨t, rfl, h2⟩
  | _ => simp [ho] at h1
def newEff (n : Nat) (z : List AV) : Eff := { val := .ptr n 0, nw := [.cells z] }
theorem stepS_alloc {o : Oper} {σ : AState} {t : TypeId} {z : List AV} (ho : o.op = .alloc t) (hg : o.guard = none) (hz : tzero P t = some z) : StepS P ops o σ (fun e => e = newEff σ.heap.length z) := by
  refine .inr (.inl ⟨?_, ?_, newEff σ.heap.length z, ?_, ?_, fun _ => Iff.rfl⟩)
  · unfold wantedA; rw [hg]
  · rw [ho]; rfl
  · rw [ho]; simp only [opEff, hz]; rfl
  · exact trivial
theorem stepS_alloc_inv {o : Oper} {σ : AState} {t : TypeId} {S : Eff → Prop} (ho : o.op = .alloc t) (hg : o.guard = none) (h : StepS P ops o σ S) : ∃ z, tzero P t = some z ∧ ∀ e, S e ↔ e = newEff σ.heap.length z := by
  rcases h with ⟨hw, _⟩ | ⟨_, _, e, he, _, h⟩ | ⟨_, f, args, V, hc, _⟩
  · unfold wantedA at hw; rw [hg] at hw; cases hw
  · rw [ho] at he
    simp only [opEff] at he
    split at he
    · rename_i z hz
      cases he
      exact ⟨z, hz, h⟩
    · cases he
  · rw [ho] at hc; cases hc
theorem twinB_spec {p q : Nat} (h : twinB ops p q = true) : p < q ∧ (∃ op oq tp tq, ops[p]? = some op ∧ ops[q]? = some oq ∧ op.op = .alloc tp ∧ oq.op = .alloc tq ∧ op.guard = none ∧ oq.guard = none ∧ depsOf op = [] ∧ depsOf oq = []) ∧
    ∀ k o, ops[k]? = some o → k ≠ p → k ≠ q → quiet o.op = true ∧ orderedB ops p k = orderedB ops q k := by
  unfold twinB at h
  split at h
  · rename_i op oq hp hq
    simp only [Bool.and_eq_true, decide_eq_true_eq, List.isEmpty_iff] at h
    obtain ⟨⟨⟨⟨⟨h1, h2⟩, h3⟩, h4⟩, h5⟩, h6⟩ := h
    obtain ⟨tp, a1, a2⟩ := plainAlloc_spec h1
    obtain ⟨tq, b1, b2⟩ := plainAlloc_spec h2
    refine ⟨h5, ⟨op, oq, tp, tq, hp, hq, a1, b1, a2, b2, h3, h4⟩, fun k o hk n1 n2 => ?_⟩
    rw [List.all_eq_true] at h6
    have := h6 k (by simpa using (Array.getElem?_eq_some_iff.1 hk).1)
    simp only [hk, Bool.or_eq_true, beq_iff_eq, Bool.and_eq_true] at this
    rcases this with (h | h) | h
    · exact absurd h n1
    · exact absurd h n2
    · exact h
  · cases h
theorem ordB_right {i j : Nat} (h1 : orderedB ops i j = false) (h2 : twinB ops i j = false) : ordB ops i j = false := by
  unfold ordB; rw [h1, h2]; rfl
theorem quiet_not_alloc {op : Op} {t : TypeId} (h : quiet op = true) : op ≠ .alloc t := by
  rintro rfl; cases h
theorem quiet_not_call {op : Op} (h : quiet op = true) : isCall op = false := by
  cases op <;> first | rfl | (simp [quiet] at h)
end

section region
variable {C : Ctx} {ops : Array Oper} {Q : AExit → AState → Prop}

theorem depsReady (o : Oper) (listed : Array Bool) : (o.after.all fun e => !Region.binds .any e || listed.getD e.on false) = true ↔ ∀ d ∈ depsOf o, listed.getD d false = true := by
  rw [Array.all_eq_true_iff_forall_mem]
  constructor
  · intro h d hd
    unfold depsOf at hd
    simp only [List.mem_map, List.mem_filter] at hd
    obtain ⟨e, ⟨he, hb⟩, rfl⟩ := hd
    have := h e (by simpa using he)
    simpa [hb] using this
  · intro h e he
    cases hb : Region.binds .any e with
    | false => simp
    | true =>
      have := h e.on (by unfold depsOf; simp only [List.mem_map, List.mem_filter]; exact ⟨e, ⟨by simpa using he, hb⟩, rfl⟩)
      simpa using this
theorem readyMem (listed : Array Bool) (i : Nat) (hsz : listed.size = ops.size) : i ∈ Region.ready .any ops listed ↔ i < ops.size ∧ listed.getD i false = false ∧ ∃ o, ops[i]? = some o ∧ ∀ d ∈ depsOf o, listed.getD d false = true := by
  unfold Region.ready
  simp only [List.mem_filter, List.mem_range]
  constructor
  · rintro ⟨h1, h2⟩
    rw [Bool.and_eq_true] at h2
    have ho : ops[i]? = some ops[i] := Array.getElem?_eq_getElem h1
    refine ⟨h1, ?_, ops[i], ho, ?_⟩
    · have h3 := h2.1
      have hlt : i < listed.size := by omega
      simp only [Array.getD, hlt, dif_pos] at h3 ⊢
      simpa using h3
    · have h3 := h2.2
      rw [ho] at h3
      simp only [Option.map_some, Option.getD_some] at h3
      exact (depsReady _ _).1 h3
  · rintro ⟨h1, h2, o, ho, h3⟩
    refine ⟨h1, ?_⟩
    rw [Bool.and_eq_true]
    constructor
    · have hlt : i < listed.size := by omega
      simp only [Array.getD, hlt, dif_pos] at h2 ⊢
      simpa using h2
    · rw [ho]
      simp only [Option.map_some, Option.getD_some]
      exact (depsReady _ _).2 h3
theorem order_listed (hok : drawOK ops = true) {listed : Array Bool} (hcl : ∀ j o, ops[j]? = some o → listed.getD j false = true → ∀ d ∈ depsOf o, listed.getD d false = true) {i r : Nat} {oi : Oper} (hoi : ops[i]? = some oi)
    (hdeps : ∀ d ∈ depsOf oi, listed.getD d false = true) (hq : orderedB ops r i = true) : listed.getD r false = true := by
  obtain ⟨_, hspec⟩ := drawOK_spec hok
  exact reachM_spec (L := fun d => listed.getD d false = true) (all := ops.toList) (fun j o hj hL => hcl j o (by simpa using hj) hL) ops.toList [] (by simp) (by simp) (fun k o hk => (hspec k o (by simpa using hk)).1) i oi (by simpa using hoi) hdeps r hq
theorem listed_next {listed : Array Bool} {i : Nat} {oi : Oper} (hoi : ops[i]? = some oi) (hdeps : ∀ d ∈ depsOf oi, listed.getD d false = true) (hcl : ∀ j o, ops[j]? = some o → listed.getD j false = true → ∀ d ∈ depsOf o, listed.getD d false = true) :
    ∀ j o, ops[j]? = some o → (listed.setIfInBounds i true).getD j false = true → ∀ d ∈ depsOf o, (listed.setIfInBounds i true).getD d false = true := by
  intro j o' hj hL d hd
  by_cases e : j = i
  · subst e
    rw [hoi] at hj; cases hj
    exact getD_set_true (hdeps d hd)
  · rw [getD_set_ne false (fun e' => e e'.symm)] at hL
    exact getD_set_true (hcl j o' hj hL d hd)
theorem listed_at {listed : Array Bool} {i : Nat} (h : i < listed.size) : (listed.setIfInBounds i true).getD i false = true := by
  simp [Array.getD, h]

structure Front (ops : Array Oper) (R : List Nat) (listed : Array Bool) : Prop where
  pw : R.Pairwise (· < ·)
  sz : listed.size = ops.size
  mem : ∀ i, i ∈ R ↔ i < ops.size ∧ listed.getD i false = false
  cl : ∀ j o, ops[j]? = some o → listed.getD j false = true → ∀ d ∈ depsOf o, listed.getD d false = true

theorem Front.next {R : List Nat} {listed : Array Bool} (F : Front ops R listed) {i : Nat} {oi : Oper} (hoi : ops[i]? = some oi) (hdeps : ∀ d ∈ depsOf oi, listed.getD d false = true) : Front ops (R.erase i) (listed.setIfInBounds i true) := by
  refine ⟨F.pw.erase i, by simpa using F.sz, fun k => ?_, listed_next hoi hdeps F.cl⟩
  have hnd : R.Nodup := F.pw.imp (fun h => Nat.ne_of_lt h)
  have hi : i < listed.size := by have := (Array.getElem?_eq_some_iff.1 hoi).1; rw [F.sz]; exact this
  rw [hnd.mem_erase_iff, F.mem k]
  constructor
  · rintro ⟨hne, h1, h2⟩
    refine ⟨h1, ?_⟩
    rw [getD_set_ne false (fun e => hne e.symm)]; exact h2
  · rintro ⟨h1, h2⟩
    have hne : k ≠ i := by
      intro e
      subst e
      rw [listed_at hi] at h2; cases h2
    refine ⟨hne, h1, ?_⟩
    rw [getD_set_ne false (fun e => hne e.symm)] at h2; exact h2

theorem draw_pend (hok : drawOK ops = true) {p q : Nat} (htw : twinB ops p q = true) (fuel : Nat)
    (back : ∀ (f : Nat) (R : List Nat) (listed : Array Bool) (φ : Nat → Value) (σ : AState) (a : Act) (w : World), f ≤ fuel → R.length = f → Front ops R listed → (p ∉ R) → Sim C φ σ a w → awpD C.P ops (Q .normal) R [] σ → wpAny C.P .any ops (QC C Q) f listed a w)
    {oq : Oper} {tq : TypeId} {zq : List AV} (hoq : ops[q]? = some oq) (htq : oq.op = .alloc tq) (hgq : oq.guard = none) (hzq : tzero C.P tq = some zq) :
    ∀ (f : Nat) (R : List Nat) (listed : Array Bool) (φ φ0 : Nat → Value) (σ : AState) (a a0 : Act) (w w0 : World), f ≤ fuel → R.length = f + 1 → R.Pairwise (· < ·) → listed.size = ops.size → p ∈ R → q ∈ R → listed.getD q false = true →
    (∀ i, i ∈ R ↔ i < ops.size ∧ (listed.getD i false = false ∨ i = q)) → (∀ j o, ops[j]? = some o → listed.getD j false = true → ∀ d ∈ depsOf o, listed.getD d false = true) →
    Sim C φ (σ.app oq.dst (newEff σ.heap.length zq)) a w → Sim C φ0 σ a0 w0 → awpD C.P ops (Q .normal) R [] σ → wpAny C.P .any ops (QC C Q) f listed a w := by
  obtain ⟨hpq, ⟨op, oq', tp, tq', hop, hoq', htp, htq', hgp, hgq', hdp, hdq⟩, hoth⟩ := twinB_spec htw
  rw [hoq] at hoq'; cases hoq'
  obtain ⟨_, hspec⟩ := drawOK_spec hok
  intro f
  induction f with
  | zero =>
    intro R listed φ φ0 σ a a0 w w0 hf hlen hpw hsz hpR hqR hlq hR hcl S S0 h
    exfalso
    match R, hlen with
    | [x], _ =>
      simp only [List.mem_singleton] at hpR hqR
      omega
  | succ f ih =>
    intro R listed φ φ0 σ a a0 w w0 hf hlen hpw hsz hpR hqR hlq hR hcl S S0 h
    have hnd : R.Nodup := hpw.imp (fun h => Nat.ne_of_lt h)
    have hpl : listed.getD p false = false := by
      rcases ((hR p).1 hpR).2 with h | h
      · exact h
      · omega
    have hps : p < ops.size := ((hR p).1 hpR).1
    refine ⟨?_, ?_⟩
    · intro hempty
      exfalso
      have : p ∈ Region.ready .any ops listed := (readyMem listed p hsz).2 ⟨hps, hpl, op, hop, by rw [hdp]; intro d hd; cases hd⟩
      rw [hempty] at this; cases this
    · intro i hi
      rw [readyMem listed i hsz] at hi
      obtain ⟨hi1, hi2, oi, hoi, hdeps⟩ := hi
      have hiq : i ≠ q := by rintro rfl; rw [hlq] at hi2; cases hi2
      have hiR : i ∈ R := (hR i).2 ⟨hi1, .inl hi2⟩
      have hnoO : ∀ r ∈ R, orderedB ops r i = false := by
        intro r hr
        cases hq' : orderedB ops r i with
        | false => rfl
        | true =>
          exfalso
          have hl := order_listed hok hcl hoi hdeps hq'
          rcases ((hR r).1 hr).2 with h | h
          · rw [hl] at h; cases h
          · subst h
            by_cases e : i = p
            · subst e
              rw [hop] at hoi; cases hoi
              have := order_listed hok (listed := Array.replicate ops.size false) (by intro j o _ hj; rw [getD_replicate_false'] at hj; cases hj) hop (by rw [hdp]; intro d hd; cases hd) hq'
              rw [getD_replicate_false'] at this; cases this
            · have := (hoth i oi hoi e hiq).2
              rw [hq'] at this
              have hl := order_listed hok hcl hoi hdeps this
              rw [hpl] at hl; cases hl
      by_cases eip : i = p
      · -- the first one at last
        subst eip
        rw [hop] at hoi; cases hoi
        have hno : ∀ r ∈ R, r < i → ordB ops r i = false := by
          intro r hr hlt
          refine ordB_right (hnoO r hr) ?_
          cases ht : twinB ops r i with
          | false => rfl
          | true =>
            exfalso
            obtain ⟨_, ⟨o1, _, t1, _, ho1, _, ht1, _⟩, _⟩ := twinB_spec ht
            exact quiet_not_alloc (hoth r o1 ho1 (by omega) (by omega)).1 ht1
        obtain ⟨o1, E1, ho1, hst1, hE1⟩ := pull hok h hiR hpw hno
        rw [hop] at ho1; cases ho1
        obtain ⟨zp, hzp, hd1⟩ := stepS_alloc_inv htp hgp hst1
        obtain ⟨_, h1⟩ := hE1 _ ((hd1 _).2 rfl)
        have hqR' : q ∈ R.erase i := (hnd.mem_erase_iff).2 ⟨by omega, hqR⟩
        obtain ⟨o2, E2, ho2, hst2, hE2⟩ := pull hok h1 hqR' (hpw.erase i) (by
          intro r hr hlt
          have hr' := List.mem_of_mem_erase hr
          have hri : r ≠ i := fun e => by subst e; exact (hnd.not_mem_erase) hr
          refine ordB_right ?_ ?_
          · cases ho' : orderedB ops r q with
            | false => rfl
            | true =>
              exfalso
              have := order_listed hok (listed := Array.replicate ops.size false) (by intro j o _ hj; rw [getD_replicate_false'] at hj; cases hj) hoq (by rw [hdq]; intro d hd; cases hd) ho'
              rw [getD_replicate_false'] at this; cases this
          · cases ht : twinB ops r q with
            | false => rfl
            | true =>
              exfalso
              obtain ⟨_, ⟨o1, _, t1, _, ho1, _, ht1, _⟩, _⟩ := twinB_spec ht
              exact quiet_not_alloc (hoth r o1 ho1 hri (by omega)).1 ht1)
        rw [hoq] at ho2; cases ho2
        obtain ⟨zq', hzq', hd2⟩ := stepS_alloc_inv htq hgq hst2
        rw [hzq] at hzq'; cases hzq'
        obtain ⟨_, h2⟩ := hE2 _ ((hd2 _).2 rfl)
        refine step_sound S hop (stepS_alloc htp hgp hzp) ?_
        rintro e φ' v w' rfl S'
        have hoQ : orderedB ops i q = false := by
          cases ho' : orderedB ops i q with
          | false => rfl
          | true =>
            exfalso
            have := order_listed hok (listed := Array.replicate ops.size false) (by intro j o _ hj; rw [getD_replicate_false'] at hj; cases hj) hoq (by rw [hdq]; intro d hd; cases hd) ho'
            rw [getD_replicate_false'] at this; cases this
        obtain ⟨hapart, _⟩ := (hspec q oq hoq).2 i op hpq hop hoQ
        obtain ⟨_, ap2, _⟩ := Oper.apart_spec hapart
        have hsl : nbL σ.heap.length σ.slots := RepL.nb _ _ S0.slots
        have hob : ∀ z ∈ σ.heap, objNb σ.heap.length z := by
          intro z hz
          obtain ⟨l, hl⟩ := List.getElem?_of_mem hz
          exact objNb_rep (S0.objs l z hl)
        have S2 := Sim.swap (s := ((σ.app oq.dst (newEff σ.heap.length zq)).app op.dst (newEff (σ.app oq.dst (newEff σ.heap.length zq)).heap.length zp)).slots) (H := σ.heap) (x := .cells zq) (y := .cells zp) (low := σ.low) S0.low.2 hob (tzero_nb w0 hzq) (tzero_nb w0 hzp) (by
          have e : (σ.app oq.dst (newEff σ.heap.length zq)).app op.dst (newEff (σ.app oq.dst (newEff σ.heap.length zq)).heap.length zp) = ⟨((σ.app oq.dst (newEff σ.heap.length zq)).app op.dst (newEff (σ.app oq.dst (newEff σ.heap.length zq)).heap.length zp)).slots, σ.heap ++ [.cells zq] ++ [.cells zp], σ.low⟩ := by
            cases oq.dst <;> cases op.dst <;> simp [AState.app, AState.put, newEff, applyUps]
          rw [← e]; exact S')
        have e2 : (⟨renL (tau σ.heap.length) ((σ.app oq.dst (newEff σ.heap.length zq)).app op.dst (newEff (σ.app oq.dst (newEff σ.heap.length zq)).heap.length zp)).slots, σ.heap ++ [.cells zp] ++ [.cells zq], σ.low⟩ : AState)
            = (σ.app op.dst (newEff σ.heap.length zp)).app oq.dst (newEff (σ.app op.dst (newEff σ.heap.length zp)).heap.length zq) := by
          have hren := renL_fix (ρ := tau σ.heap.length) (fun l hl => tau_low hl) σ.slots hsl
          have hset : ∀ (d : Nat) (c : AV) (cs : List AV), renL (tau σ.heap.length) (cs.set d c) = (renL (tau σ.heap.length) cs).set d (c.ren (tau σ.heap.length)) := by
            intro d c cs
            induction cs generalizing d with
            | nil => simp [renL]
            | cons x cs ih => cases d with
              | zero => simp [renL]
              | succ d => simp [renL, ih]
          have hlen1 : (σ.app oq.dst (newEff σ.heap.length zq)).heap.length = σ.heap.length + 1 := by simp [AState.app, newEff, applyUps]
          have hlen2 : (σ.app op.dst (newEff σ.heap.length zp)).heap.length = σ.heap.length + 1 := by simp [AState.app, newEff, applyUps]
          have t0 : tau σ.heap.length σ.heap.length = σ.heap.length + 1 := by simp [tau]
          have t1 : tau σ.heap.length (σ.heap.length + 1) = σ.heap.length := by simp [tau]
          rw [hlen1, hlen2]
          cases h1 : oq.dst with
          | none => cases h2 : op.dst with
            | none => simp [AState.app, AState.put, newEff, applyUps, hren]
            | some dp => simp [AState.app, AState.put, newEff, applyUps, hren, hset, AV.ren, t0, t1]
          | some dq => cases h2 : op.dst with
            | none => simp [AState.app, AState.put, newEff, applyUps, hren, hset, AV.ren, t0, t1]
            | some dp =>
              have hne : dp ≠ dq := fun e => ap2 dp h2 (by rw [h1, e])
              simp only [AState.app, AState.put, newEff, applyUps, hren, hset, AV.ren, t0, t1, List.nil_append, List.append_nil]
              rw [List.set_comm _ _ hne]
        rw [e2] at S2
        have hF : Front ops ((R.erase i).erase q) (listed.setIfInBounds i true) := by
          refine ⟨(hpw.erase i).erase q, by simpa using hsz, fun k => ?_, listed_next hop hdeps hcl⟩
          have hnd' : (R.erase i).Nodup := hnd.erase i
          rw [hnd'.mem_erase_iff, hnd.mem_erase_iff, hR k]
          constructor
          · rintro ⟨hne, hne2, h1, h2⟩
            refine ⟨h1, ?_⟩
            rw [getD_set_ne false (fun e => hne2 e.symm)]
            rcases h2 with h2 | h2
            · exact h2
            · exact absurd h2 hne
          · rintro ⟨h1, h2⟩
            have hne : k ≠ i := by
              intro e
              subst e
              rw [listed_at (by rw [hsz]; exact hi1)] at h2; cases h2
            rw [getD_set_ne false (fun e => hne e.symm)] at h2
            refine ⟨?_, hne, h1, .inl h2⟩
            intro ekq
            rw [ekq, hlq] at h2; cases h2
        refine back f _ _ _ _ _ w' (by omega) ?_ hF ?_ S2 (awpD_sub (by simp) h2)
        · rw [List.length_erase_of_mem hqR', List.length_erase_of_mem hiR]; omega
        · intro hm
          exact (hnd.not_mem_erase) (List.mem_of_mem_erase hm)
      · -- another one
        obtain ⟨hqi, _⟩ := hoth i oi hoi eip hiq
        have hno : ∀ r ∈ R, r < i → ordB ops r i = false := by
          intro r hr hlt
          refine ordB_right (hnoO r hr) ?_
          cases ht : twinB ops r i with
          | false => rfl
          | true =>
            exfalso
            obtain ⟨_, ⟨_, o1, _, t1, _, ho1, _, ht1, _⟩, _⟩ := twinB_spec ht
            rw [hoi] at ho1; cases ho1
            exact quiet_not_alloc hqi ht1
        obtain ⟨o1, E1, ho1, hst1, hE1⟩ := pull hok h hiR hpw hno
        rw [hoi] at ho1; cases ho1
        have hnw : ∀ e, E1 e → e.nw = [] := by
          intro e he
          rcases hst1 with ⟨_, h⟩ | ⟨_, _, e', he', _, h⟩ | ⟨_, f', args, V, hc, _, _, _⟩
          · rw [(h e).1 he]
          · rw [(h e).1 he]; exact quiet_nw hqi he'
          · exfalso
            have := quiet_not_call hqi
            unfold calleeOf at hc
            split at hc
            · rename_i ho'; rw [ho'] at this; simp [isCall] at this
            · cases hc
        have hap : (∀ d, oq.dst = some d → d ∉ oi.looksAt ops) ∧ (∀ d, oi.dst = some d → oq.dst ≠ some d) := by
          rcases Nat.lt_or_gt_of_ne hiq with hlt | hgt
          · have ho' : orderedB ops i q = false := by
              cases ho' : orderedB ops i q with
              | false => rfl
              | true =>
                exfalso
                have := order_listed hok (listed := Array.replicate ops.size false) (by intro j o _ hj; rw [getD_replicate_false'] at hj; cases hj) hoq (by rw [hdq]; intro d hd; cases hd) ho'
                rw [getD_replicate_false'] at this; cases this
            obtain ⟨hap, _⟩ := (hspec q oq hoq).2 i oi hlt hoi ho'
            obtain ⟨x1, x2, x3⟩ := Oper.apart_spec hap
            exact ⟨x3, x2⟩
          · obtain ⟨hap, _⟩ := (hspec i oi hoi).2 q oq hgt hoq (hnoO q hqR)
            obtain ⟨x1, x2, x3⟩ := Oper.apart_spec hap
            exact ⟨x1, fun d hd hd' => x2 d hd' hd⟩
        have hind : ∀ e, E1 e → indepB ⟨i, σ.heap.length, e⟩ (newEff σ.heap.length zq) = true := by
          intro e he
          simp [indepB, newEff, disjointB, hnw e he]
        have hfw : StepS C.P ops oi (σ.app oq.dst (newEff σ.heap.length zq)) E1 := hst1.fwd (j := i) hap.1 hind
        refine step_sound S hoi hfw ?_
        intro e φ' v w' he S'
        obtain ⟨_, hrest⟩ := hE1 e he
        have hcomm := app_comm (d := oi.dst) (d' := oq.dst) (j := i) hap.2 (hind e he) (hst1.lt he).2 (by simp [newEff])
        have hle : (σ.app oi.dst e).heap.length = σ.heap.length := by simp [AState.app, hnw e he, applyUps_length]
        rw [← hcomm] at S'
        have hg : ∃ φ1 a1 w1, Sim C φ1 (σ.app oi.dst e) a1 w1 := by
          rcases hst1 with ⟨_, h⟩ | ⟨_, _, e', he', hp, h⟩ | ⟨_, f', args, V, hc, _, _, _⟩
          · rw [(h e).1 he, app_val]
            exact ⟨φ0, _, w0, S0.put oi.dst (v := undef) rfl⟩
          · rw [(h e).1 he]
            obtain ⟨_, v1, w1, φ1, _, _, S1⟩ := opEff_sound S0 he' hp
            exact ⟨φ1, _, w1, S1⟩
          · exfalso
            have := quiet_not_call hqi
            unfold calleeOf at hc
            split at hc
            · rename_i ho'; rw [ho'] at this; simp [isCall] at this
            · cases hc
        obtain ⟨φ1, a1, w1, S1⟩ := hg
        rw [← hle] at S'
        refine ih (R.erase i) _ φ' φ1 (σ.app oi.dst e) _ a1 w' w1 (by omega) ?_ (hpw.erase i) (by simpa using hsz) ((hnd.mem_erase_iff).2 ⟨fun e' => eip e'.symm, hpR⟩) ((hnd.mem_erase_iff).2 ⟨fun e' => hiq e'.symm, hqR⟩) ?_ ?_ (listed_next hoi hdeps hcl) S' S1 hrest
        · rw [List.length_erase_of_mem hiR]; omega
        · exact getD_set_true hlq
        · intro k
          rw [hnd.mem_erase_iff, hR k]
          constructor
          · rintro ⟨hne, h1, h2⟩
            refine ⟨h1, ?_⟩
            rw [getD_set_ne false (fun e => hne e.symm)]; exact h2
          · rintro ⟨h1, h2⟩
            have hne : k ≠ i := by
              intro e'
              subst e'
              rcases h2 with h2 | h2
              · rw [listed_at (by rw [hsz]; exact hi1)] at h2; cases h2
              · exact hiq h2
            refine ⟨hne, h1, ?_⟩
            rw [getD_set_ne false (fun e => hne e.symm)] at h2; exact h2

theorem draw_any (hok : drawOK ops = true) : ∀ (fuel : Nat) (R : List Nat) (listed : Array Bool) (φ : Nat → Value) (σ : AState) (a : Act) (w : World), R.length = fuel → Front ops R listed →
    Sim C φ σ a w → awpD C.P ops (Q .normal) R [] σ → wpAny C.P .any ops (QC C Q) fuel listed a w := by
  obtain ⟨_, hspec⟩ := drawOK_spec hok
  intro fuel
  induction fuel using Nat.strongRecOn with
  | ind fuel ih =>
    intro R listed φ σ a w hl F S h
    have hpw := F.pw
    have hsz := F.sz
    have hR := F.mem
    have hnd : R.Nodup := hpw.imp (fun h => Nat.ne_of_lt h)
    cases fuel with
    | zero =>
      have hR0 : R = [] := List.eq_nil_of_length_eq_zero hl
      subst hR0
      refine ⟨?_, φ, σ, S, h⟩
      rw [List.eq_nil_iff_forall_not_mem]
      intro i hi
      rw [readyMem listed i hsz] at hi
      have := (hR i).2 ⟨hi.1, hi.2.1⟩
      simp at this
    | succ fuel =>
      refine ⟨?_, ?_⟩
      · intro hempty
        exfalso
        cases R with
        | nil => simp at hl
        | cons r R =>
          have hr := (hR r).1 (by simp)
          have ho : ops[r]? = some ops[r] := Array.getElem?_eq_getElem hr.1
          have : r ∈ Region.ready .any ops listed := by
            rw [readyMem listed r hsz]
            refine ⟨hr.1, hr.2, _, ho, fun d hd => ?_⟩
            have hdr := (hspec r _ ho).1 d hd
            cases hld : listed.getD d false with
            | true => rfl
            | false =>
              have hdR := (hR d).2 ⟨by omega, hld⟩
              rw [List.pairwise_cons] at hpw
              simp only [List.mem_cons] at hdR
              rcases hdR with rfl | hdR
              · omega
              · have := hpw.1 d hdR; omega
          rw [hempty] at this
          simp at this
      · intro i hi
        rw [readyMem listed i hsz] at hi
        obtain ⟨hi1, hi2, oi, hoi, hdeps⟩ := hi
        have hiR := (hR i).2 ⟨hi1, hi2⟩
        have hnoO : ∀ r ∈ R, orderedB ops r i = false := by
          intro r hr
          cases hq : orderedB ops r i with
          | false => rfl
          | true =>
            exfalso
            have := order_listed hok F.cl hoi hdeps hq
            have hr' := ((hR r).1 hr).2
            rw [hr'] at this; cases this
        by_cases htw : ∃ p ∈ R, twinB ops p i = true
        · obtain ⟨p, hpR, htw⟩ := htw
          obtain ⟨hpi, ⟨op, oq, tp, tq, hop, hoq, htp, htq, hgp, hgq, hdp, hdq⟩, hoth⟩ := twinB_spec htw
          rw [hoi] at hoq; cases hoq
          have hpl := ((hR p).1 hpR).2
          -- both can be made: the first one first
          obtain ⟨o1, E1, ho1, hst1, hE1⟩ := pull hok h hpR hpw (by
            intro r hr hlt
            refine ordB_right ?_ ?_
            · cases ho' : orderedB ops r p with
              | false => rfl
              | true =>
                exfalso
                have := order_listed hok (listed := Array.replicate ops.size false) (by intro j o _ hj; rw [getD_replicate_false'] at hj; cases hj) hop (by rw [hdp]; intro d hd; cases hd) ho'
                rw [getD_replicate_false'] at this; cases this
            · cases ht : twinB ops r p with
              | false => rfl
              | true =>
                exfalso
                obtain ⟨_, ⟨o1, _, t1, _, ho1, _, ht1, _⟩, _⟩ := twinB_spec ht
                exact quiet_not_alloc (hoth r o1 ho1 (by omega) (by omega)).1 ht1)
          rw [hop] at ho1; cases ho1
          obtain ⟨zp, hzp, hd1⟩ := stepS_alloc_inv htp hgp hst1
          obtain ⟨_, h1⟩ := hE1 _ ((hd1 _).2 rfl)
          have hqR' : i ∈ R.erase p := (hnd.mem_erase_iff).2 ⟨by omega, hiR⟩
          obtain ⟨o2, E2, ho2, hst2, hE2⟩ := pull hok h1 hqR' (hpw.erase p) (by
            intro r hr hlt
            have hr' := List.mem_of_mem_erase hr
            have hrp : r ≠ p := fun e => by subst e; exact (hnd.not_mem_erase) hr
            refine ordB_right (hnoO r hr') ?_
            cases ht : twinB ops r i with
            | false => rfl
            | true =>
              exfalso
              obtain ⟨_, ⟨o1, _, t1, _, ho1, _, ht1, _⟩, _⟩ := twinB_spec ht
              exact quiet_not_alloc (hoth r o1 ho1 hrp (by omega)).1 ht1)
          rw [hoi] at ho2; cases ho2
          obtain ⟨zq, hzq, _⟩ := stepS_alloc_inv htq hgq hst2
          refine step_sound S hoi (stepS_alloc htq hgq hzq) ?_
          rintro e φ' v w' rfl S'
          refine draw_pend hok htw fuel (fun f R' listed' φ' σ' a' w' hf hl' F' _ S' h' => ih f (by omega) R' listed' φ' σ' a' w' hl' F' S' h') hoi htq hgq hzq fuel R _ φ' φ σ _ a w' w (Nat.le_refl _) hl hpw (by simpa using hsz) hpR hiR (listed_at (by rw [hsz]; exact hi1)) ?_ (listed_next hoi hdeps F.cl) S' S h
          intro k
          rw [hR k]
          by_cases hk : k = i
          · subst hk
            constructor
            · rintro ⟨h1, _⟩; exact ⟨h1, .inr rfl⟩
            · rintro ⟨h1, _⟩; exact ⟨h1, hi2⟩
          · rw [getD_set_ne false (fun e => hk e.symm)]
            constructor
            · rintro ⟨h1, h2⟩; exact ⟨h1, .inl h2⟩
            · rintro ⟨h1, h2 | h2⟩
              · exact ⟨h1, h2⟩
              · exact absurd h2 hk
        · have hno : ∀ r ∈ R, r < i → ordB ops r i = false := by
            intro r hr _
            refine ordB_right (hnoO r hr) ?_
            cases ht : twinB ops r i with
            | false => rfl
            | true => exact absurd ⟨r, hr, ht⟩ htw
          obtain ⟨o, E, ho, hst, hE⟩ := pull hok h hiR hpw hno
          refine step_sound S ho hst ?_
          intro e φ' v w' he S'
          obtain ⟨_, hrest⟩ := hE e he
          refine ih fuel (by omega) (R.erase i) _ φ' _ _ w' ?_ (F.next hoi hdeps) S' hrest
          rw [List.length_erase_of_mem hiR]; omega

theorem awpD_sound {φ : Nat → Value} {σ : AState} {a : Act} {w : World} {id : Nat} (hm : C.P.follows .mixedOrders = true) (hok : drawOK ops = true) (h : awpD C.P ops (Q .normal) (List.range ops.size) [] σ) (S : Sim C φ σ a w) :
    (Code.region id ops true).wp C.P (QC C Q) a w := by
  refine wp_region_any hm ?_
  refine draw_any hok ops.size (List.range ops.size) _ φ σ a _ (by simp) ⟨List.pairwise_lt_range, by simp, ?_, ?_⟩ (S.drew _) h
  · intro i
    simp only [List.mem_range]
    constructor
    · intro hi; exact ⟨hi, getD_replicate_false' _ _⟩
    · exact fun h => h.1
  · intro j o hj hL
    rw [getD_replicate_false'] at hL; cases hL
end region
end Go.Abs
namespace Go.Abs

def AExit.then (next : AState → Prop) (Q : AExit → AState → Prop) : AExit → AState → Prop
  | .normal, σ => next σ
  | e, σ => Q e σ

def AExit.inBlock (id : Nat) (Q : AExit → AState → Prop) : AExit → AState → Prop
  | .exit id', σ => if id' = id then Q .normal σ else Q (.exit id') σ
  | e, σ => Q e σ

def AExit.noGoto (Q : AExit → AState → Prop) : AExit → AState → Prop
  | .goto _, _ => False
  | e, σ => Q e σ

def Eff.idle (e : Eff) : Bool := e.rd.isEmpty && e.up.isEmpty && e.nw.isEmpty

def pushTr (tr : List Tr) (j n : Nat) (e : Eff) : List Tr := bif e.idle then tr else tr ++ [⟨j, n, e⟩]

def compatC (ops : Array Oper) (tr : List Tr) (j : Nat) (e : Eff) : Prop := e.idle = true ∨ compatB ops tr j e = true

def awpDc (P : Program) (ops : Array Oper) (K : AState → Prop) : List Oper → Nat → List Tr → AState → Prop
  | [], _, _, σ => K σ
  | o :: rest, j, tr, σ => match wantedA ops o σ with
    | none => False
    | some b => (b = true → match calleeOf σ o.op with
        | some (f, args) => ∃ V, FnC P f args V ∧ (∃ r, V r) ∧ ∀ r, V r → awpDc P ops K rest (j + 1) tr (σ.put o.dst r)
        | none => match opEff P σ o.op with
          | some e => e.pre ∧ compatC ops tr j e ∧ awpDc P ops K rest (j + 1) (pushTr tr j σ.heap.length e) (σ.app o.dst e)
          | none => False) ∧
      (b = false → awpDc P ops K rest (j + 1) tr (σ.put o.dst (.raw undef)))

def awp (P : Program) : Code → (AExit → AState → Prop) → AState → Prop
  | .skip, Q, σ => Q .normal σ
  | .region _ ops false, Q, σ => awpOps P ops ops.toList Q σ
  | .region _ ops true, Q, σ => (P.follows .mixedOrders = true ∧ drawOK ops = true) ∧ awpDc P ops (Q .normal) ops.toList 0 [] σ
  | .seq x y, Q, σ => awp P x (AExit.then (fun σ1 => ∃ σ2, Imp σ1 σ2 ∧ awp P y Q σ2) Q) σ
  | .cond c x y, Q, σ => match σ.ev c with
    | .bool b => (b = true → awp P x Q σ) ∧ (b = false → awp P y Q σ)
    | _ => False
  | .block id x, Q, σ => awp P x (AExit.inBlock id Q) σ
  | .loop x, Q, σ => ∃ (I : Nat → AState → Prop) (n : Nat) (σ' : AState), Imp σ σ' ∧ I n σ' ∧
      ∀ n σ, I n σ → awp P x (AExit.then (fun σ1 => ∃ n' σ', n' < n ∧ Imp σ1 σ' ∧ I n' σ') Q) σ
  | .exit id, Q, σ => Q (.exit id) σ
  | .scope x, Q, σ => awp P x (AExit.noGoto Q) σ
  | .label _, Q, σ => Q .normal σ
  | .ret, Q, σ => Q .ret σ
  | .goto _, _, _ => False
  | .rangeFunc _ _ _ _, _, _ => False
  | .refuse _, _, _ => False

theorem indepB_idle_right {t : Tr} {e : Eff} (h : e.idle = true) : indepB t e = true := by
  unfold Eff.idle at h
  simp only [Bool.and_eq_true, List.isEmpty_iff] at h
  obtain ⟨⟨h1, h2⟩, h3⟩ := h
  unfold indepB disjointB
  simp [h1, h2, h3]

theorem indepB_idle_left {t : Tr} {e : Eff} (h : t.e.idle = true) : indepB t e = true := by
  unfold Eff.idle at h
  simp only [Bool.and_eq_true, List.isEmpty_iff] at h
  obtain ⟨⟨h1, h2⟩, h3⟩ := h
  unfold indepB disjointB
  simp [h1, h2, h3]

theorem awpD_of_awpDc {P : Program} {ops : Array Oper} {K : AState → Prop} : ∀ (rest : List Oper) (j : Nat) (tr tr' : List Tr) (σ : AState), ops.toList.drop j = rest → (∀ t ∈ tr', t ∈ tr ∨ t.e.idle = true) →
    awpDc P ops K rest j tr σ → awpD P ops K (List.range' j rest.length) tr' σ
  | [], _, _, _, _, _, _, h => h
  | o :: rest, j, tr, tr', σ, hd, htr, h => by
    have ho : ops[j]? = some o := by
      have := congrArg (fun l : List Oper => l[0]?) hd
      simpa using this
    have hrest : ops.toList.drop (j + 1) = rest := by
      have := congrArg List.tail hd
      simpa [List.tail_drop] using this
    have hcompat : ∀ e, compatC ops tr j e → compatB ops tr' j e = true := by
      intro e he
      unfold compatB
      rw [List.all_eq_true]
      intro t ht
      rcases he with he | he
      · rw [indepB_idle_right he]; rfl
      · rcases htr t ht with h1 | h1
        · unfold compatB at he
          rw [List.all_eq_true] at he
          exact he t h1
        · rw [indepB_idle_left h1]; rfl
    have hpush : ∀ n e, ∀ t ∈ tr' ++ [⟨j, n, e⟩], t ∈ pushTr tr j n e ∨ t.e.idle = true := by
      intro n e t ht
      unfold pushTr
      rcases List.mem_append.1 ht with ht | ht
      · rcases htr t ht with h1 | h1
        · left
          cases e.idle
          · exact List.mem_append.2 (.inl h1)
          · exact h1
        · exact .inr h1
      · simp only [List.mem_singleton] at ht
        subst ht
        cases hi : e.idle
        · left; simp
        · right; rfl
    have hidle : ∀ x : AV, ({ val := x } : Eff).idle = true := fun _ => rfl
    have hpush' : ∀ n x, ∀ t ∈ tr' ++ [⟨j, n, { val := x }⟩], t ∈ tr ∨ t.e.idle = true := by
      intro n x t ht
      have := hpush n { val := x } t ht
      simpa [pushTr, hidle] using this
    simp only [awpDc] at h
    simp only [List.length_cons, List.range'_succ]
    split at h
    · exact h.elim
    · rename_i b hb
      cases b with
      | false =>
        refine ⟨o, fun e => e = { val := .raw undef }, ho, .inl ⟨hb, fun _ => Iff.rfl⟩, fun e he => ?_⟩
        subst he
        refine ⟨hcompat _ (.inl rfl), ?_⟩
        rw [app_val]
        exact awpD_of_awpDc rest (j + 1) tr _ _ hrest (hpush' _ _) (h.2 rfl)
      | true =>
        have h := h.1 rfl
        split at h
        · rename_i f args hc
          obtain ⟨V, hf, hne, hK⟩ := h
          refine ⟨o, fun e => ∃ r, V r ∧ e = { val := r }, ho, .inr (.inr ⟨hb, f, args, V, hc, hf, hne, fun _ => Iff.rfl⟩), ?_⟩
          rintro e ⟨r, hr, rfl⟩
          refine ⟨hcompat _ (.inl rfl), ?_⟩
          rw [app_val]
          exact awpD_of_awpDc rest (j + 1) tr _ _ hrest (hpush' _ _) (hK r hr)
        · rename_i hc
          split at h
          · rename_i e he
            refine ⟨o, fun e' => e' = e, ho, .inr (.inl ⟨hb, hc, e, he, h.1, fun _ => Iff.rfl⟩), ?_⟩
            rintro e' rfl
            exact ⟨hcompat _ h.2.1, awpD_of_awpDc rest (j + 1) _ _ _ hrest (hpush _ _) h.2.2⟩
          · exact h.elim

section sound
variable {C : Ctx}

theorem QC_then {Q : AExit → AState → Prop} {next : AState → Prop} {nextC : Act → World → Prop} (h : ∀ φ σ a w, Sim C φ σ a w → next σ → nextC a w) {e : Exit} {a : Act} {w : World}
    (hq : QC C (AExit.then next Q) e a w) : Exit.then nextC (QC C Q) e a w := by
  cases e with
  | normal => obtain ⟨φ, σ, S, hn⟩ := hq; exact h φ σ a w S hn
  | exit id => exact hq
  | goto l => exact hq
  | ret => exact hq
  | panic chain => exact hq
  | outgrown => exact hq

theorem QC_inBlock {Q : AExit → AState → Prop} {id : Nat} {e : Exit} {a : Act} {w : World} (hq : QC C (AExit.inBlock id Q) e a w) : Exit.inBlock id (QC C Q) e a w := by
  cases e with
  | exit id' =>
    obtain ⟨φ, σ, S, h⟩ := hq
    simp only [AExit.inBlock] at h
    simp only [Exit.inBlock]
    split at h
    · rename_i e; rw [if_pos e]; exact ⟨φ, σ, S, h⟩
    · rename_i e; rw [if_neg e]; exact ⟨φ, σ, S, h⟩
  | normal => exact hq
  | goto l => exact hq
  | ret => exact hq
  | panic chain => exact hq
  | outgrown => exact hq

theorem QC_noGoto {Q : AExit → AState → Prop} {e : Exit} {a : Act} {w : World} (hq : QC C (AExit.noGoto Q) e a w) : Exit.noGoto (QC C Q) e a w := by
  cases e with
  | goto l => obtain ⟨φ, σ, S, h⟩ := hq; exact h.elim
  | normal => exact hq
  | exit id => exact hq
  | ret => exact hq
  | panic chain => exact hq
  | outgrown => exact hq

theorem awp_sound : ∀ (c : Code) (Q : AExit → AState → Prop) (φ : Nat → Value) (σ : AState) (a : Act) (w : World), awp C.P c Q σ → Sim C φ σ a w → c.wp C.P (QC C Q) a w
  | .skip, Q, φ, σ, a, w, h, S => wp_skip ⟨φ, σ, S, h⟩
  | .region id ops false, Q, φ, σ, a, w, h, S => by
    have := awpOps_sound rfl ops.toList 0 (by simp) φ σ a w h S
    refine wp_region ?_
    rw [List.range_eq_range']
    simpa using this
  | .region id ops true, Q, φ, σ, a, w, h, S => by
    obtain ⟨⟨hm, hok⟩, h⟩ := h
    have := awpD_of_awpDc ops.toList 0 [] [] σ (by simp) (by simp) h
    refine awpD_sound hm hok ?_ S
    rw [List.range_eq_range']
    simpa using this
  | .seq x y, Q, φ, σ, a, w, h, S =>
    wp_seq (wp_mono (awp_sound x _ φ σ a w h S) fun _ _ _ hq => QC_then (fun φ' σ' a' w' S' h' => by
      obtain ⟨σ2, himp, h2⟩ := h'
      obtain ⟨φ2, S2⟩ := himp C φ' a' w' S'
      exact awp_sound y Q φ2 σ2 a' w' h2 S2) hq)
  | .cond c x y, Q, φ, σ, a, w, h, S => by
    simp only [awp] at h
    have hc := S.ev c
    split at h
    · rename_i b hb
      rw [hb] at hc
      simp only [Rep] at hc
      refine wp_cond hc ?_
      cases b with
      | true => exact awp_sound x Q φ σ a w (h.1 rfl) S
      | false => exact awp_sound y Q φ σ a w (h.2 rfl) S
    · exact h.elim
  | .block id x, Q, φ, σ, a, w, h, S => wp_block (wp_mono (awp_sound x _ φ σ a w h S) fun _ _ _ hq => QC_inBlock hq)
  | .loop x, Q, φ, σ, a, w, h, S => by
    obtain ⟨I, n, σ', himp, hI, hround⟩ := h
    obtain ⟨φ', S'⟩ := himp C φ a w S
    refine wp_loop_ghost (fun n a w => ∃ φ σ, I n σ ∧ Sim C φ σ a w) n ⟨φ', σ', hI, S'⟩ ?_
    rintro n a w ⟨φ, σ, hI, S⟩
    refine wp_mono (awp_sound x _ φ σ a w (hround n σ hI) S) fun _ _ _ hq => QC_then ?_ hq
    rintro φ1 σ1 a1 w1 S1 ⟨n', σ2, hlt, himp, hI'⟩
    obtain ⟨φ2, S2⟩ := himp C φ1 a1 w1 S1
    exact ⟨n', hlt, φ2, σ2, hI', S2⟩
  | .exit id, Q, φ, σ, a, w, h, S => wp_exit ⟨φ, σ, S, h⟩
  | .scope x, Q, φ, σ, a, w, h, S => wp_scope_straight (wp_mono (awp_sound x _ φ σ a w h S) fun _ _ _ hq => QC_noGoto hq)
  | .label l, Q, φ, σ, a, w, h, S => wp_label ⟨φ, σ, S, h⟩
  | .ret, Q, φ, σ, a, w, h, S => wp_ret ⟨φ, σ, S, h⟩
  | .goto l, Q, φ, σ, a, w, h, S => h.elim
  | .rangeFunc f p x y, Q, φ, σ, a, w, h, S => h.elim
  | .refuse s, Q, φ, σ, a, w, h, S => h.elim

end sound

def resOne (P : Program) (σ : AState) : ResultVar → Option AV
  | .tmp t => some (σ.slots.getD t .any)
  | .cell d t => match tinfo P t, σ.slots.getD d .any with
    | some (g, n), .ptr l off => match σ.heap[l]? with
      | some (.cells cs) => loadAV g n (cs.drop off)
      | _ => none
    | _, _ => none

def resList (P : Program) (σ : AState) : List ResultVar → Option (List AV)
  | [] => some []
  | r :: rs => match resOne P σ r, resList P σ rs with
    | some x, some xs => some (x :: xs)
    | _, _ => none

def resAV (P : Program) (σ : AState) (rs : List ResultVar) : Option AV :=
  match resList P σ rs with
  | some [x] => some x
  | some xs => some (.tup xs)
  | none => none

section results
variable {C : Ctx} {φ : Nat → Value} {σ : AState} {a : Act} {w : World}

theorem resOne_sound (S : Sim C φ σ a w) {r : ResultVar} {x : AV} (h : resOne C.P σ r = some x) :
    ∃ v, (match r with | .tmp t => pure (a.tmps.getD t undef) | .cell d t => (do loadVar t (← asAddr (a.tmps.getD d undef))) : Sem Value).run C.P w = .ok v w ∧ Rep (C.env φ σ.heap w) x v := by
  cases r with
  | tmp t =>
    simp only [resOne, Option.some.injEq] at h
    subst h
    exact ⟨_, rfl, S.ev (.tmp t)⟩
  | cell d t =>
    simp only [resOne] at h
    have hd := S.ev (.tmp d)
    simp only [AState.ev] at hd
    split at h
    · rename_i g n l off ht hp
      rw [hp] at hd
      split at h
      · rename_i cs hl
        obtain ⟨u, hu, ru⟩ := load_ptr S ht hl h hd
        obtain ⟨_, b, _, hv⟩ := hd
        refine ⟨u, ?_, ru⟩
        have hv' : a.tmps.getD d undef = .pointer (some ⟨b, off, none⟩) := hv
        rw [show a.eval (.tmp d) = a.tmps.getD d undef from rfl, hv'] at hu
        simp only [hv', asAddr, Sem.run_bind, Sem.run_pure, Result.andThen_ok]
        simpa [Instr.loadAt, Instr.sureAddr] using hu
      · cases h
    · cases h

theorem resList_sound (S : Sim C φ σ a w) : ∀ {rs : List ResultVar} {xs : List AV}, resList C.P σ rs = some xs →
    ∃ vs : List Value, (rs.mapM fun | .tmp t => pure (a.tmps.getD t undef) | .cell d t => (do loadVar t (← asAddr (a.tmps.getD d undef))) : Sem (List Value)).run C.P w = .ok vs w ∧ RepL (C.env φ σ.heap w) xs vs
  | [], _, h => by simp only [resList, Option.some.injEq] at h; subst h; exact ⟨[], rfl, rfl⟩
  | r :: rs, xs, h => by
    simp only [resList] at h
    split at h
    · rename_i x ys h1 h2
      cases h
      obtain ⟨v, hv, rv⟩ := resOne_sound S h1
      obtain ⟨vs, hvs, rvs⟩ := resList_sound S h2
      refine ⟨v :: vs, ?_, v, vs, rfl, rv, rvs⟩
      rw [List.mapM_cons]
      simp only [Sem.run_bind, hv, hvs, Result.andThen_ok, Sem.run_pure]
    · cases h

theorem resAV_sound (S : Sim C φ σ a w) {fn : Func} {x : AV} (h : resAV C.P σ fn.results.toList = some x) : ∃ v, (results fn a.tmps).run C.P w = .ok v w ∧ Rep (C.env φ σ.heap w) x v := by
  unfold resAV at h
  have key : ∀ xs, resList C.P σ fn.results.toList = some xs → ∃ vs : List Value, (results fn a.tmps).run C.P w = .ok (if hh : vs.toArray.size = 1 then vs.toArray[0] else .tuple vs.toArray) w ∧ RepL (C.env φ σ.heap w) xs vs := by
    intro xs hx
    obtain ⟨vs, hvs, rvs⟩ := resList_sound S hx
    refine ⟨vs, ?_, rvs⟩
    unfold results
    rw [Array.mapM_eq_mapM_toList]
    simp only [Sem.run_bind, Sem.run_map, Sem.run_pure]
    generalize hq : Sem.run C.P (List.mapM _ fn.results.toList) w = q
    have hq' : q = .ok vs w := by rw [← hq]; exact hvs
    subst hq'
    simp
  split at h
  · rename_i y hy
    cases h
    obtain ⟨vs, hv, u, us, rfl, r1, r2⟩ := key _ hy
    simp only [RepL] at r2
    subst r2
    exact ⟨_, hv, by simpa using r1⟩
  · rename_i xs hne hx
    cases h
    obtain ⟨vs, hv, rl⟩ := key _ hx
    refine ⟨_, hv, ?_⟩
    have hlen := rl.length
    have hn1 : ¬ vs.toArray.size = 1 := by
      intro h1
      have h2 : xs.length = 1 := by simp at h1; omega
      match xs, h2 with
      | [y], _ => exact hne y rfl
    rw [dif_neg hn1]
    exact ⟨vs.toArray, rfl, rl⟩
  · cases h

end results

theorem callA_fn {P : Program} {σ : AState} {f : FuncId} {args args' : List AV} {V : AV → Prop} {K : AOut → List AObj → Prop} (h : FnC P f args' V) (hs : SubL args args') (hK : ∀ r, V r → K (.ret r) σ.heap) : CallA P f args σ K := by
  obtain ⟨he, hc⟩ := callA_of_fnC (K := K) h hK
  exact ⟨he, fun C φ a w hP S vs hr => hc C φ a w hP S vs (hs _ _ hr)⟩

theorem fnC_sub {P : Program} {f : FuncId} {args args' : List AV} {V : AV → Prop} (h : FnC P f args' V) (hs : SubL args args') (hn : nbL 0 args) : FnC P f args V := by
  obtain ⟨he, _, hc⟩ := h
  exact ⟨he, hn, fun C φ w hP h0 hN hM vs hr => hc C φ w hP h0 hN hM vs (hs _ _ hr)⟩

def endV (V : AV → Prop) (H : List AObj) : Option AV → Prop
  | some x => (frz 0 H x).nb 0 ∧ ∃ r, Sub (frz 0 H x) r ∧ V r
  | none => False

theorem endV_some {V : AV → Prop} {H : List AObj} {x : AV} : endV V H (some x) = ((frz 0 H x).nb 0 ∧ ∃ r, Sub (frz 0 H x) r ∧ V r) := rfl

def retPost (P : Program) (rs : List ResultVar) (V : AV → Prop) : AExit → AState → Prop
  | .normal, σ => endV V σ.heap (resAV P σ rs)
  | .ret, σ => endV V σ.heap (resAV P σ rs)
  | _, _ => False

theorem fnC_of_body {P : Program} {f : FuncId} {fn : Func} {c : Code} {args : List AV} {V : AV → Prop} (hf : P.funcs[f]? = some fn) (hb : fn.body = some c) (hne : (fn.name != "runtime.NumGoroutine") = true) (hnb : nbL 0 args)
    (h : awp P c (retPost P fn.results.toList V) { slots := args ++ List.replicate (fn.ntmps - args.length) .any, heap := [] }) : FnC P f args V := by
  refine ⟨?_, hnb, fun C φ w hP h0 hN hM vs hr => ?_⟩
  · unfold enters; rw [hf]; simp only [hb, Option.isSome_some, Bool.true_and]; exact hne
  · subst hP
    refine calls_of_wp hf hb ?_
    have hsz : vs.size = args.length := by have := hr.length; simpa using this
    have S : Sim C φ { slots := args ++ List.replicate (fn.ntmps - args.length) .any, heap := [] } { tmps := vs ++ Array.replicate (fn.ntmps - vs.size) undef, defers := [] } w := by
      refine { slots := ?_, defers := rfl, objs := by simp, apart := by simp, notA := by simp, size := by rw [h0]; exact Nat.le_refl _, old := fun b o _ _ => by rw [h0], oldObj := fun b _ _ => by rw [h0], inM := by simp, froz := fun x => by rw [h0], rest := by rw [h0]; exact ⟨rfl, rfl⟩, low := ⟨hN, Nat.le_refl _⟩, names := fun l hl => by rw [hN] at hl; exact absurd hl (Nat.not_lt_zero _) }
      simp only [Array.toList_append, Array.toList_replicate]
      refine hr.append ?_
      rw [hsz]
      have := RepL.replicate_any (E := C.env φ [] w) (List.replicate (fn.ntmps - args.length) undef)
      simpa using this
    refine wp_mono (awp_sound c _ φ _ _ w h S) ?_
    intro e a' w' hq
    have fin : ∀ φ' σ', Sim C φ' σ' a' w' → endV V σ'.heap (resAV C.P σ' fn.results.toList) →
        a'.defers = [] ∧ ∃ v, (results fn a'.tmps).run C.P w' = .ok v w' ∧ ∃ r v' φ', V r ∧ Ending.returned v = .returned v' ∧ Rep (C.env φ' [] w') r v' ∧ w.heap.size ≤ w'.heap.size ∧ (∀ b, b < w.heap.size → w'.heap[b]? = w.heap[b]?) ∧
          (∀ x, w'.frozen? x = w.frozen? x) ∧ w'.output = w.output ∧ w'.os = w.os := by
      intro φ' σ' S' hend
      cases hx : resAV C.P σ' fn.results.toList with
      | none => rw [hx] at hend; exact hend.elim
      | some x =>
      rw [hx] at hend
      obtain ⟨hn, r0, hsub, hV⟩ := hend
      obtain ⟨v, hv, rv⟩ := resAV_sound S' hx
      refine ⟨S'.defers, v, hv, _, v, φ', hV, rfl, hsub _ _ (by have := frz_sound S' (S'.drops (by rw [← S'.low.1]; exact hN)) x v; rw [← S'.low.1, hN] at this; exact this hn rv), ?_, ?_, ?_, ?_⟩
      · rw [← h0]; exact S'.size
      · intro b hb; rw [← h0]; exact S'.oldObj b (by rw [h0]; exact hb) (fun o => hM b o)
      · intro y; rw [← h0]; exact S'.froz y
      · rw [← h0]; exact S'.rest
    cases e with
    | normal => obtain ⟨φ', σ', S', hq⟩ := hq; exact fin φ' σ' S' hq
    | ret => obtain ⟨φ', σ', S', hq⟩ := hq; exact fin φ' σ' S' hq
    | exit id => obtain ⟨_, _, _, hq⟩ := hq; exact hq.elim
    | goto l => obtain ⟨_, _, _, hq⟩ := hq; exact hq.elim
    | panic chain => obtain ⟨_, _, _, _, _, hq, _⟩ := hq; exact hq.elim
    | outgrown => exact hq.elim

end Go.Abs
namespace Go.Abs
def CallD (P : Program) (f : FuncId) (args : List AV) (K : AV → Prop) : Prop := ∃ V, FnC P f args V ∧ (∃ r, V r) ∧ ∀ r, V r → K r
theorem callA_eq {P : Program} {σ : AState} {f : FuncId} {args args' : List AV} {X : AV} {K : AOut → List AObj → Prop} (h : FnC P f args' (fun r => r = X)) (hs : SubL args args') (hK : K (.ret X) σ.heap) : CallA P f args σ K :=
  callA_fn h hs (fun r hr => hr ▸ hK)

theorem callD_fn {P : Program} {f : FuncId} {args args' : List AV} {V : AV → Prop} {K : AV → Prop} (h : FnC P f args' V) (hs : SubL args args') (hn : nbL 0 args) (hne : ∃ r, V r) (hK : ∀ r, V r → K r) : CallD P f args K :=
  ⟨V, fnC_sub h hs hn, hne, hK⟩

theorem callD_eq {P : Program} {f : FuncId} {args args' : List AV} {X : AV} {K : AV → Prop} (h : FnC P f args' (fun r => r = X)) (hs : SubL args args') (hn : nbL 0 args) (hK : K X) : CallD P f args K :=
  ⟨_, fnC_sub h hs hn, ⟨X, rfl⟩, fun _ hr => hr ▸ hK⟩

section co
variable {H : List AObj} {n : Nat}
theorem Co1.sub {x y : AV} (h : Sub x y) (hn : y.nb n) : Co1 H n x y := .inl ⟨h, hn⟩
theorem Co.any {x : AV} : Co H n x .any := .inl (.inl ⟨Sub.any _, trivial⟩)
theorem Co.same {x : AV} (h : x.nb n) : Co H n x x := .inl (.inl ⟨Sub.refl _, h⟩)
theorem Co.sub {x y : AV} (h : Sub x y) (hn : y.nb n) : Co H n x y := .inl (.inl ⟨h, hn⟩)
theorem CoL.nil : CoL H n [] [] := rfl
theorem CoL.cons {x y : AV} {xs ys : List AV} (h : Co H n x y) (hs : CoL H n xs ys) : CoL H n (x :: xs) (y :: ys) := ⟨y, ys, rfl, h, hs⟩
theorem CoL.any {x : AV} {xs ys : List AV} (hs : CoL H n xs ys) : CoL H n (x :: xs) (.any :: ys) := ⟨.any, ys, rfl, Co.any, hs⟩
theorem CoH.nil {xs : List AObj} : CoH H n xs [] := by cases xs <;> trivial
theorem CoH.same {x : AObj} {xs ys : List AObj} (h : objNb n x) (hs : CoH H n xs ys) : CoH H n (x :: xs) (x :: ys) := ⟨.inr (.inl ⟨rfl, h⟩), hs⟩
theorem CoH.cells {cs ds : List AV} {xs ys : List AObj} (h : CoL H n cs ds) (hs : CoH H n xs ys) : CoH H n (.cells cs :: xs) (.cells ds :: ys) := ⟨.inr (.inr (.inl ⟨cs, ds, rfl, rfl, h⟩)), hs⟩
theorem CoH.dead {x : AObj} {xs ys : List AObj} (hs : CoH H n xs ys) : CoH H n (x :: xs) (.dead :: ys) := ⟨.inl rfl, hs⟩
theorem CoL.same {xs : List AV} (h : nbL n xs) : CoL H n xs xs := by
  induction xs with
  | nil => rfl
  | cons x xs ih => exact CoL.cons (Co.same h.1) (ih h.2)
end co
theorem callA_co {P : Program} {σ : AState} {f : FuncId} {args args' : List AV} {X : AV} {n : Nat} (h : FnC P f args' (fun r => r = X)) (hs : CoL σ.heap n args args') : CallA P f args σ (fun o H => o = .ret X ∧ H = σ.heap) := by
  obtain ⟨he, hc⟩ := callA_of_fnC (σ := σ) (K := fun o H => o = .ret X ∧ H = σ.heap) h (fun r hr => ⟨by rw [hr], rfl⟩)
  exact ⟨he, fun C φ a w hP S vs hr => hc C φ a w hP S vs (CoL.repS S hs hr)⟩
theorem weak_imp {s0 slots : List AV} {h0 heap : List AObj} {low : Nat} (hl : low ≤ heap.length) (h1 : CoL h0 heap.length s0 slots) (h2 : CoH h0 heap.length h0 heap) : Imp ⟨s0, h0, low⟩ ⟨slots, heap, low⟩ := Weak.imp ⟨⟨rfl, hl⟩, h1, h2⟩
end Go.Abs
namespace Go.Abs

structure Mach (R : Type) where
  P : Program
  body : Code
  cl : FuncId → List AV → List AObj → Option (AV × List AObj)
  cd : FuncId → List AV → Option AV
  nrm : List Nat → AState → Option AState
  cut : List Nat → AState → Option AState
  n : Nat
  out : AState → Option R

noncomputable def pcond {R : Type} (p : Prop) (x : Option R) : Option R := @ite _ p (Classical.propDecidable p) x none
theorem pcond_some {R : Type} {p : Prop} {x : Option R} {r : R} : pcond p x = some r ↔ p ∧ x = some r := by
  unfold pcond
  split
  · rename_i h; simp [h]
  · rename_i h; simp [h]
theorem pcond_true {R : Type} {x : Option R} : pcond True x = x := by simp [pcond]
theorem pcond_and {R : Type} {p q : Prop} {x : Option R} : pcond (p ∧ q) x = pcond p (pcond q x) := by
  unfold pcond
  by_cases hp : p <;> by_cases hq : q <;> simp [hp, hq]
theorem pcond_dec {R : Type} {p : Prop} [Decidable p] {x : Option R} : pcond p x = bif decide p then x else none := by
  unfold pcond
  by_cases hp : p <;> simp [hp]

def setB (x : Operand) (b : Bool) (σ : AState) : AState :=
  match x with
  | .tmp t => { σ with slots := σ.slots.set t (.bool b) }
  | _ => σ

theorem setB_eq {x : Operand} {b : Bool} {σ : AState} (h : σ.ev x = .bool b) : setB x b σ = σ := by
  cases x with
  | tmp t =>
    simp only [AState.ev, List.getD] at h
    cases hg : σ.slots[t]? with
    | none => rw [hg] at h; simp at h
    | some v =>
      rw [hg] at h
      simp only [Option.getD_some] at h
      subst h
      obtain ⟨hlt, he⟩ := List.getElem?_eq_some_iff.1 hg
      simp only [setB]
      rw [← he, List.set_getElem_self]
  | _ => rfl

def gset (ops : Array Oper) (o : Oper) (b : Bool) (σ : AState) : AState :=
  match o.guard with
  | none => σ
  | some (j, want) => match (ops[j]?).bind (·.dst) with
    | some d => match σ.slots[d]? with
      | some (.bool _) => { σ with slots := σ.slots.set d (.bool (b == want)) }
      | _ => σ
    | none => σ

theorem gset_eq {ops : Array Oper} {o : Oper} {b : Bool} {σ : AState} (h : wantedA ops o σ = some b) : gset ops o b σ = σ := by
  unfold wantedA at h
  unfold gset
  split
  · rfl
  · rename_i j want hg
    simp only [hg] at h
    split
    · rename_i d hd
      simp only [hd] at h
      split
      · rename_i c hc
        simp only [hc, Option.some.injEq] at h
        have : (b == want) = c := by subst h; cases c <;> cases want <;> rfl
        rw [this]
        obtain ⟨hlt, he⟩ := List.getElem?_eq_some_iff.1 hc
        rw [← he, List.set_getElem_self]
      · rfl
    · rfl

section
variable {R : Type}

noncomputable def execOps (M : Mach R) (ops : Array Oper) : List Oper → AState → Option AState
  | [], σ => some σ
  | o :: rest, σ => match wantedA ops o σ with
    | none => none
    | some b => bif b then (match calleeOf (gset ops o true σ) o.op with
        | some (f, args) => match M.cl f args (gset ops o true σ).heap with
          | some (r, H') => execOps M ops rest (AState.put { gset ops o true σ with heap := H' } o.dst r)
          | none => none
        | none => match opEff M.P (gset ops o true σ) o.op with
          | some e => pcond e.pre (execOps M ops rest ((gset ops o true σ).app o.dst e))
          | none => none)
      else execOps M ops rest ((gset ops o false σ).put o.dst (.raw undef))

noncomputable def execD (M : Mach R) (ops : Array Oper) : List Oper → Nat → List Tr → AState → Option AState
  | [], _, _, σ => some σ
  | o :: rest, j, tr, σ => match wantedA ops o σ with
    | none => none
    | some b => bif b then (match calleeOf (gset ops o true σ) o.op with
        | some (f, args) => match M.cd f args with
          | some r => execD M ops rest (j + 1) tr ((gset ops o true σ).put o.dst r)
          | none => none
        | none => match opEff M.P (gset ops o true σ) o.op with
          | some e => pcond (e.pre ∧ compatC ops tr j e) (execD M ops rest (j + 1) (pushTr tr j (gset ops o true σ).heap.length e) ((gset ops o true σ).app o.dst e))
          | none => none)
      else execD M ops rest (j + 1) tr ((gset ops o false σ).put o.dst (.raw undef))

def lqN (nrm : AState → Option AState) (body : AState → Option (AExit × AState)) : Nat → AState → Option (AExit × AState)
  | 0, _ => none
  | m + 1, σ => match body σ with
    | some (.normal, σ') => (nrm σ').bind (lqN nrm body m)
    | r => r

noncomputable def exec (M : Mach R) : Code → List Nat → AState → Option (AExit × AState)
  | .skip, _, σ => some (.normal, σ)
  | .region _ ops false, _, σ => (execOps M ops ops.toList σ).map fun σ' => (.normal, σ')
  | .region _ ops true, _, σ => pcond (M.P.follows .mixedOrders = true ∧ drawOK ops = true) ((execD M ops ops.toList 0 [] σ).map fun σ' => (.normal, σ'))
  | .seq x y, p, σ => match exec M x (0 :: p) σ with
    | some (.normal, σ') => (M.cut (1 :: p) σ').bind (exec M y (1 :: p))
    | r => r
  | .cond c x y, p, σ => match σ.ev c with
    | .bool b => bif b then exec M x (0 :: p) (setB c true σ) else exec M y (1 :: p) (setB c false σ)
    | _ => none
  | .block id x, p, σ => match exec M x (0 :: p) σ with
    | some (.exit id', σ') => if id' = id then some (.normal, σ') else some (.exit id', σ')
    | r => r
  | .loop x, p, σ => (M.nrm p σ).bind (lqN (M.nrm p) (exec M x (0 :: p)) M.n)
  | .exit id, _, σ => some (.exit id, σ)
  | .scope x, p, σ => exec M x (0 :: p) σ
  | .label _, _, σ => some (.normal, σ)
  | .ret, _, σ => some (.ret, σ)
  | .goto _, _, _ => none
  | .rangeFunc _ _ _ _, _, _ => none
  | .refuse _, _, _ => none

structure Good (M : Mach R) : Prop where
  cl : ∀ f args σ r H', M.cl f args σ.heap = some (r, H') → CallA M.P f args σ (fun o H'' => o = .ret r ∧ H'' = H')
  cd : ∀ f args r, M.cd f args = some r → FnC M.P f args (fun v => v = r)
  nrm : ∀ p σ σ', M.nrm p σ = some σ' → Imp σ σ'
  cut : ∀ p σ σ', M.cut p σ = some σ' → Imp σ σ'

theorem CallA.mono {P : Program} {f : FuncId} {args : List AV} {σ : AState} {K K' : AOut → List AObj → Prop} (h : CallA P f args σ K) (hk : ∀ o H, K o H → K' o H) : CallA P f args σ K' := by
  obtain ⟨he, hc⟩ := h
  refine ⟨he, fun C φ a w hP S vs hr => (hc C φ a w hP S vs hr).mono ?_⟩
  rintro e w' ⟨o, φ', H', h1, h2⟩
  exact ⟨o, φ', H', hk _ _ h1, h2⟩

theorem execOps_sound {M : Mach R} (G : Good M) {ops : Array Oper} {Q : AExit → AState → Prop} : ∀ (rest : List Oper) (σ σ' : AState), execOps M ops rest σ = some σ' → Q .normal σ' → awpOps M.P ops rest Q σ
  | [], σ, σ', h, hq => by simp only [execOps, Option.some.injEq] at h; subst h; exact hq
  | o :: rest, σ, σ', h, hq => by
    simp only [execOps] at h
    simp only [awpOps]
    cases hw : wantedA ops o σ with
    | none => simp only [hw] at h; cases h
    | some b =>
      simp only [hw] at h
      have hg := gset_eq hw
      cases b with
      | false =>
        refine ⟨fun h => (by cases h), fun _ => ?_⟩
        simp only [cond_false, hg] at h
        exact execOps_sound G rest _ σ' h hq
      | true =>
        refine ⟨fun _ => ?_, fun h => by cases h⟩
        simp only [cond_true, hg] at h
        cases hc : calleeOf σ o.op with
        | some p =>
          obtain ⟨f, args⟩ := p
          simp only [hc] at h ⊢
          cases ha : M.cl f args σ.heap with
          | none => simp only [ha] at h; cases h
          | some q =>
            obtain ⟨r, H'⟩ := q
            simp only [ha] at h
            refine (G.cl f args σ r H' ha).mono ?_
            rintro o' H'' ⟨rfl, rfl⟩
            exact execOps_sound G rest _ σ' h hq
        | none =>
          simp only [hc] at h ⊢
          cases he : opEff M.P σ o.op with
          | none => simp only [he] at h; cases h
          | some e =>
            simp only [he] at h
            rw [pcond_some] at h
            exact ⟨h.1, execOps_sound G rest _ σ' h.2 hq⟩

theorem execD_sound {M : Mach R} (G : Good M) {ops : Array Oper} {K : AState → Prop} : ∀ (rest : List Oper) (j : Nat) (tr : List Tr) (σ σ' : AState), execD M ops rest j tr σ = some σ' → K σ' → awpDc M.P ops K rest j tr σ
  | [], _, _, σ, σ', h, hq => by simp only [execD, Option.some.injEq] at h; subst h; exact hq
  | o :: rest, j, tr, σ, σ', h, hq => by
    simp only [execD] at h
    simp only [awpDc]
    cases hw : wantedA ops o σ with
    | none => simp only [hw] at h; cases h
    | some b =>
      simp only [hw] at h
      have hg := gset_eq hw
      cases b with
      | false =>
        refine ⟨fun h => (by cases h), fun _ => ?_⟩
        simp only [cond_false, hg] at h
        exact execD_sound G rest _ _ _ σ' h hq
      | true =>
        refine ⟨fun _ => ?_, fun h => (by cases h)⟩
        simp only [cond_true, hg] at h
        cases hc : calleeOf σ o.op with
        | some p =>
          obtain ⟨f, args⟩ := p
          simp only [hc] at h ⊢
          cases ha : M.cd f args with
          | none => simp only [ha] at h; cases h
          | some r =>
            simp only [ha] at h
            refine ⟨_, G.cd f args r ha, ⟨r, rfl⟩, ?_⟩
            rintro _ rfl
            exact execD_sound G rest _ _ _ σ' h hq
        | none =>
          simp only [hc] at h ⊢
          cases he : opEff M.P σ o.op with
          | none => simp only [he] at h; cases h
          | some e =>
            simp only [he] at h
            rw [pcond_some] at h
            exact ⟨h.1.1, h.1.2, execD_sound G rest _ _ _ σ' h.2 hq⟩

theorem no_goto_lq {nrm : AState → Option AState} {body : AState → Option (AExit × AState)} (hb : ∀ σ l σ', body σ ≠ some (.goto l, σ')) : ∀ (m : Nat) (σ : AState) (l : Nat) (σ' : AState), lqN nrm body m σ ≠ some (.goto l, σ')
  | 0, _, _, _ => by simp [lqN]
  | m + 1, σ, l, σ' => by
    intro h
    simp only [lqN] at h
    cases hx : body σ with
    | none => simp only [hx] at h; cases h
    | some r =>
      obtain ⟨e1, σ1⟩ := r
      cases e1 with
      | normal =>
        simp only [hx] at h
        cases hn : nrm σ1 with
        | none => simp only [hn, Option.bind_none] at h; cases h
        | some σ2 => simp only [hn, Option.bind_some] at h; exact no_goto_lq hb m σ2 l σ' h
      | goto l' => exact hb _ _ _ hx
      | _ => simp only [hx, Option.some.injEq, Prod.mk.injEq, reduceCtorEq, false_and] at h

theorem no_goto (M : Mach R) : ∀ (c : Code) (p : List Nat) (σ : AState) (l : Nat) (σ' : AState), exec M c p σ ≠ some (.goto l, σ')
  | .skip, _, _, _, _ => by simp [exec]
  | .label _, _, _, _, _ => by simp [exec]
  | .ret, _, _, _, _ => by simp [exec]
  | .exit id, _, _, _, _ => by simp [exec]
  | .region _ ops false, _, _, _, _ => by simp [exec]
  | .region _ ops true, _, _, _, _ => by
    intro h
    simp only [exec] at h
    rw [pcond_some] at h
    simp at h
  | .seq x y, p, σ, l, σ' => by
    intro h
    simp only [exec] at h
    cases hx : exec M x (0 :: p) σ with
    | none => simp only [hx] at h; cases h
    | some r =>
      obtain ⟨e1, σ1⟩ := r
      cases e1 with
      | normal =>
        simp only [hx] at h
        cases hc : M.cut (1 :: p) σ1 with
        | none => simp only [hc, Option.bind_none] at h; cases h
        | some σ2 => simp only [hc, Option.bind_some] at h; exact no_goto M y _ _ _ _ h
      | goto l' => exact no_goto M x _ _ _ _ hx
      | _ => simp only [hx, Option.some.injEq, Prod.mk.injEq, reduceCtorEq, false_and] at h
  | .cond c x y, p, σ, l, σ' => by
    intro h
    simp only [exec] at h
    cases hv : σ.ev c with
    | bool b =>
      simp only [hv] at h
      cases b with
      | true => exact no_goto M x _ _ _ _ h
      | false => exact no_goto M y _ _ _ _ h
    | _ => simp only [hv] at h; cases h
  | .block id x, p, σ, l, σ' => by
    intro h
    simp only [exec] at h
    cases hx : exec M x (0 :: p) σ with
    | none => simp only [hx] at h; cases h
    | some r =>
      obtain ⟨e1, σ1⟩ := r
      cases e1 with
      | exit id' =>
        simp only [hx] at h
        split at h <;> simp at h
      | goto l' => exact no_goto M x _ _ _ _ hx
      | _ => simp only [hx, Option.some.injEq, Prod.mk.injEq, reduceCtorEq, false_and] at h
  | .loop x, p, σ, l, σ' => by
    intro h
    simp only [exec] at h
    cases hn : M.nrm p σ with
    | none => simp only [hn, Option.bind_none] at h; cases h
    | some σ1 =>
      simp only [hn, Option.bind_some] at h
      exact no_goto_lq (fun _ _ _ => no_goto M x _ _ _ _) _ _ _ _ h
  | .scope x, p, σ, l, σ' => by
    intro h
    simp only [exec] at h
    exact no_goto M x _ _ _ _ h
  | .goto _, _, _, _, _ => by simp [exec]
  | .rangeFunc _ _ _ _, _, _, _, _ => by simp [exec]
  | .refuse _, _, _, _, _ => by simp [exec]

theorem exec_sound {M : Mach R} (G : Good M) : ∀ (c : Code) (p : List Nat) (Q : AExit → AState → Prop) (σ : AState) (e : AExit) (σ' : AState), exec M c p σ = some (e, σ') → Q e σ' → awp M.P c Q σ
  | .skip, _, Q, σ, e, σ', h, hq => by simp only [exec, Option.some.injEq, Prod.mk.injEq] at h; obtain ⟨rfl, rfl⟩ := h; exact hq
  | .label _, _, Q, σ, e, σ', h, hq => by simp only [exec, Option.some.injEq, Prod.mk.injEq] at h; obtain ⟨rfl, rfl⟩ := h; exact hq
  | .ret, _, Q, σ, e, σ', h, hq => by simp only [exec, Option.some.injEq, Prod.mk.injEq] at h; obtain ⟨rfl, rfl⟩ := h; exact hq
  | .exit id, _, Q, σ, e, σ', h, hq => by simp only [exec, Option.some.injEq, Prod.mk.injEq] at h; obtain ⟨rfl, rfl⟩ := h; exact hq
  | .region _ ops false, _, Q, σ, e, σ', h, hq => by
    simp only [exec, Option.map_eq_some_iff, Prod.mk.injEq] at h
    obtain ⟨σ1, h1, rfl, rfl⟩ := h
    exact execOps_sound G _ _ _ h1 hq
  | .region _ ops true, _, Q, σ, e, σ', h, hq => by
    simp only [exec] at h
    rw [pcond_some] at h
    obtain ⟨hp, h⟩ := h
    simp only [Option.map_eq_some_iff, Prod.mk.injEq] at h
    obtain ⟨σ1, h1, rfl, rfl⟩ := h
    exact ⟨hp, execD_sound G _ _ _ _ _ h1 hq⟩
  | .seq x y, p, Q, σ, e, σ', h, hq => by
    simp only [exec] at h
    cases hx : exec M x (0 :: p) σ with
    | none => simp only [hx] at h; cases h
    | some r =>
      obtain ⟨e1, σ1⟩ := r
      refine exec_sound G x (0 :: p) _ σ e1 σ1 hx ?_
      cases e1 with
      | normal =>
        simp only [hx] at h
        cases hc : M.cut (1 :: p) σ1 with
        | none => simp only [hc, Option.bind_none] at h; cases h
        | some σ2 =>
          simp only [hc, Option.bind_some] at h
          exact ⟨σ2, G.cut _ _ _ hc, exec_sound G y (1 :: p) Q σ2 e σ' h hq⟩
      | _ =>
        simp only [hx, Option.some.injEq, Prod.mk.injEq] at h
        obtain ⟨rfl, rfl⟩ := h
        exact hq
  | .cond c x y, p, Q, σ, e, σ', h, hq => by
    simp only [exec] at h
    simp only [awp]
    cases hv : σ.ev c with
    | bool b =>
      simp only [hv] at h ⊢
      cases b with
      | true => simp only [cond_true, setB_eq hv] at h; exact ⟨fun _ => exec_sound G x (0 :: p) Q σ e σ' h hq, fun h => (by cases h)⟩
      | false => simp only [cond_false, setB_eq hv] at h; exact ⟨fun h => (by cases h), fun _ => exec_sound G y (1 :: p) Q σ e σ' h hq⟩
    | _ => simp only [hv] at h; cases h
  | .block id x, p, Q, σ, e, σ', h, hq => by
    simp only [exec] at h
    cases hx : exec M x (0 :: p) σ with
    | none => simp only [hx] at h; cases h
    | some r =>
      obtain ⟨e1, σ1⟩ := r
      refine exec_sound G x (0 :: p) _ σ e1 σ1 hx ?_
      cases e1 with
      | exit id' =>
        simp only [hx] at h
        simp only [AExit.inBlock]
        split at h
        · rename_i he
          simp only [Option.some.injEq, Prod.mk.injEq] at h
          obtain ⟨rfl, rfl⟩ := h
          rw [if_pos he]; exact hq
        · rename_i he
          simp only [Option.some.injEq, Prod.mk.injEq] at h
          obtain ⟨rfl, rfl⟩ := h
          rw [if_neg he]; exact hq
      | _ =>
        simp only [hx, Option.some.injEq, Prod.mk.injEq] at h
        obtain ⟨rfl, rfl⟩ := h
        exact hq
  | .loop x, p, Q, σ, e, σ', h, hq => by
    simp only [exec] at h
    cases hn : M.nrm p σ with
    | none => simp only [hn, Option.bind_none] at h; cases h
    | some σ1 =>
      simp only [hn, Option.bind_some] at h
      refine ⟨fun m σ2 => lqN (M.nrm p) (exec M x (0 :: p)) m σ2 = some (e, σ'), M.n, σ1, G.nrm _ _ _ hn, h, ?_⟩
      intro m σ2 h2
      cases m with
      | zero => simp only [lqN] at h2; cases h2
      | succ m =>
        simp only [lqN] at h2
        cases hx : exec M x (0 :: p) σ2 with
        | none => simp only [hx] at h2; cases h2
        | some r =>
          obtain ⟨e1, σ3⟩ := r
          refine exec_sound G x (0 :: p) _ σ2 e1 σ3 hx ?_
          cases e1 with
          | normal =>
            simp only [hx] at h2
            cases hn2 : M.nrm p σ3 with
            | none => simp only [hn2, Option.bind_none] at h2; cases h2
            | some σ4 =>
              simp only [hn2, Option.bind_some] at h2
              exact ⟨m, σ4, Nat.lt_succ_self _, G.nrm _ _ _ hn2, h2⟩
          | _ =>
            simp only [hx, Option.some.injEq, Prod.mk.injEq] at h2
            obtain ⟨rfl, rfl⟩ := h2
            exact hq
  | .scope x, p, Q, σ, e, σ', h, hq => by
    simp only [exec] at h
    refine exec_sound G x (0 :: p) _ σ e σ' h ?_
    cases e with
    | goto l => exact absurd h (by
        intro h
        exact no_goto M x (0 :: p) σ _ _ h)
    | _ => exact hq
  | .goto _, _, _, _, _, _, h, _ => by simp only [exec] at h; cases h
  | .rangeFunc _ _ _ _, _, _, _, _, _, h, _ => by simp only [exec] at h; cases h
  | .refuse _, _, _, _, _, _, h, _ => by simp only [exec] at h; cases h
end
end Go.Abs
namespace Go.Abs

def HSim (C : Ctx) (φ : Nat → Value) (H : List AObj) (w : World) : Prop := Sim C φ { slots := [], heap := H, low := H.length } { tmps := #[], defers := [] } w

def FnG (P : Program) (f : FuncId) (args : List AV) (H : List AObj) (V : AOut → List AObj → Prop) : Prop :=
  enters P f = true ∧ nbL H.length args ∧ (∀ x ∈ H, objNb H.length x) ∧ ∀ (C : Ctx) (φ : Nat → Value) (w : World), C.P = P → C.w0 = w → C.N0 = H.length → (∀ l, l < H.length → C.φ0 l = φ l ∧ C.ln0 l = accLen H[l]?) → (∀ b o, C.M0 b o ↔ Mut φ H b o) →
    HSim C φ H w → ∀ vs : Array Value, RepL (C.env φ H w) args vs.toList →
    Calls P f vs w fun e w' => ∃ o φ' H', V o H' ∧ Sim C φ' { slots := [], heap := H', low := H.length } { tmps := #[], defers := [] } w' ∧ o.rep (C.env φ' H' w') e

def setAll : List AObj → List Nat → List AObj → List AObj
  | H, l :: ls, x :: xs => setAll (H.set l x) ls xs
  | H, _, _ => H

def backTo (ρ : List Nat) (n : Nat) (l : Nat) : Nat := if l < ρ.length then ρ.getD l 0 else n + (l - ρ.length)

def heapBack (ρ : List Nat) (H H' : List AObj) : List AObj :=
  setAll H ρ (H'.map (AObj.ren (backTo ρ H.length))) ++ (H'.drop ρ.length).map (AObj.ren (backTo ρ H.length))

theorem setAll_length : ∀ (H : List AObj) (ls : List Nat) (xs : List AObj), (setAll H ls xs).length = H.length
  | _, [], _ => by simp [setAll]
  | _, _ :: _, [] => by simp [setAll]
  | H, l :: ls, x :: xs => by rw [setAll, setAll_length, List.length_set]

theorem setAll_other : ∀ (ls : List Nat) (H : List AObj) (xs : List AObj) (k : Nat), k ∉ ls → (setAll H ls xs)[k]? = H[k]?
  | [], _, _, _, _ => by simp [setAll]
  | _ :: _, _, [], _, _ => by simp [setAll]
  | l :: ls, H, x :: xs, k, h => by
    simp only [List.mem_cons, not_or] at h
    rw [setAll, setAll_other ls _ xs k h.2, List.getElem?_set_ne (fun e => h.1 e.symm)]

theorem setAll_at : ∀ (ls : List Nat) (H : List AObj) (xs : List AObj) (i k : Nat) (x : AObj), ls.Nodup → ls[i]? = some k → xs[i]? = some x → k < H.length → (setAll H ls xs)[k]? = some x
  | [], _, _, _, _, _, _, h, _, _ => by simp at h
  | _ :: _, _, [], _, _, _, _, _, h, _ => by simp at h
  | l :: ls, H, y :: ys, 0, k, x, hnd, h, hx, hk => by
    simp at h hx; subst h hx
    rw [List.nodup_cons] at hnd
    rw [setAll, setAll_other ls _ ys l hnd.1, List.getElem?_set_self hk]
  | l :: ls, H, y :: ys, i + 1, k, x, hnd, h, hx, hk => by
    simp at h hx
    rw [List.nodup_cons] at hnd
    rw [setAll]
    exact setAll_at ls _ ys i k x hnd.2 h hx (by rw [List.length_set]; exact hk)

def posIn : List Nat → Nat → Option Nat
  | [], _ => none
  | x :: xs, k => if x = k then some 0 else (posIn xs k).map (· + 1)

theorem posIn_at : ∀ (ρ : List Nat) (l k : Nat), ρ.Nodup → ρ[l]? = some k → posIn ρ k = some l
  | [], _, _, _, h => by simp at h
  | x :: xs, 0, k, _, h => by simp at h; subst h; simp [posIn]
  | x :: xs, l + 1, k, hnd, h => by
    simp at h
    rw [List.nodup_cons] at hnd
    have hne : x ≠ k := fun e => hnd.1 (e ▸ List.mem_of_getElem? h)
    simp [posIn, hne, posIn_at xs l k hnd.2 h]

theorem posIn_none : ∀ (ρ : List Nat) (k : Nat), k ∉ ρ → posIn ρ k = none
  | [], _, _ => rfl
  | x :: xs, k, h => by
    simp only [List.mem_cons, not_or] at h
    have hne : x ≠ k := fun e => h.1 e.symm
    simp [posIn, hne, posIn_none xs k h.2]

section call
variable {C : Ctx} {φ : Nat → Value} {σ : AState} {a : Act} {w : World}

theorem callA_of_fnG {P : Program} {f : FuncId} {cargs args : List AV} {H : List AObj} {V : AOut → List AObj → Prop} {K : AOut → List AObj → Prop} (h : FnG P f args H V) (ρ : List Nat) (hlen : ρ.length = H.length) (hnd : ρ.Nodup)
    (hargs : SubL cargs (renL (backTo ρ σ.heap.length) args)) (hobj : ∀ (i : Nat) (k : Nat) (x : AObj), ρ[i]? = some k → H[i]? = some x → σ.heap[k]? = some (x.ren (backTo ρ σ.heap.length)))
    (hK : ∀ o H', V o H' → K (o.ren (backTo ρ σ.heap.length)) (heapBack ρ σ.heap H')) : CallA P f cargs σ K := by
  obtain ⟨hent, hnbA, hnbH, hc⟩ := h
  refine ⟨hent, fun C φ a w hP S vs hr => ?_⟩
  -- the callee's context
  let ρf : Nat → Nat := backTo ρ σ.heap.length
  have hρ : ∀ l, l < H.length → ρ[l]? = some (ρf l) := by
    intro l hl
    have hl' : l < ρ.length := by omega
    simp only [ρf, backTo, hl', if_true, List.getD, List.getElem?_eq_getElem hl', Option.getD_some]
  let φc : Nat → Value := fun l => φ (ρf l)
  have hfoot : ∀ (l : Nat) (x : AObj), H[l]? = some x → σ.heap[ρf l]? = some (x.ren ρf) := fun l x hx => hobj l _ x (hρ l (List.getElem?_eq_some_iff.1 hx).1) hx
  have hρlt : ∀ l, l < H.length → ρf l < σ.heap.length := by
    intro l hl
    have := hfoot l H[l] (List.getElem?_eq_getElem hl)
    exact (List.getElem?_eq_some_iff.1 this).1
  have hinj : ∀ l l', l < H.length → l' < H.length → ρf l = ρf l' → l = l' := by
    intro l l' hl hl' he
    have h1 := hρ l hl
    have h2 := hρ l' hl'
    rw [he] at h1
    obtain ⟨i1, e1⟩ := List.getElem?_eq_some_iff.1 h1
    obtain ⟨i2, e2⟩ := List.getElem?_eq_some_iff.1 h2
    exact (List.getElem_inj hnd).1 (by rw [e1, e2])
  have hMsub : ∀ b o, Mut φc H b o → Mut φ σ.heap b o := by
    rintro b o ⟨l, x, hx, hm⟩
    exact ⟨ρf l, _, hfoot l x hx, ren_muts.2 hm⟩
  have hA0 : ∀ b o, ((Mut φ σ.heap b o ∨ C.A b o) ∧ ¬ Mut φc H b o) → b < w.heap.size := by
    rintro b o ⟨⟨l, x, hx, hm⟩ | hA, _⟩
    · exact (S.objs l x hx).block_lt (AObj.block_of_muts hm)
    · exact Nat.lt_of_lt_of_le (C.hA b o hA) S.size
  let C' : Ctx := Ctx.mk C.P w (Mut φc H) (fun b o => (Mut φ σ.heap b o ∨ C.A b o) ∧ ¬ Mut φc H b o) hA0 H.length φc (fun l => accLen H[l]?)
  have hmuEq : ∀ b o, (Mut φc H b o ∨ C'.A b o) ↔ (Mut φ σ.heap b o ∨ C.A b o) := by
    intro b o
    constructor
    · rintro (h | h)
      · exact .inl (hMsub b o h)
      · exact h.1
    · intro h
      by_cases hm : Mut φc H b o
      · exact .inl hm
      · exact .inr ⟨h, hm⟩
  have un : UnLe H.length ρf (C.env φ σ.heap w) (C'.env φc H w) := by
    refine ⟨Nat.le_refl _, fun l hl => ⟨rfl, ?_⟩, fun b o u hm hcell => ⟨fun hh => hm ((hmuEq b o).1 hh), hcell⟩⟩
    simp only [Ctx.env]
    rw [hfoot l H[l] (List.getElem?_eq_getElem hl), ren_accLen, List.getElem?_eq_getElem hl]
  have hblk : ∀ (l : Nat) (x : AObj) (b : Nat), H[l]? = some x → x.block (φc l) b → ∃ y : AObj, σ.heap[ρf l]? = some y ∧ y.block (φ (ρf l)) b := fun l x b hx hb => ⟨_, hfoot l x hx, ren_block.2 hb⟩
  -- a block of a footprint's object is nobody else's
  have hown : ∀ (l : Nat) (x : AObj) (b : Nat), H[l]? = some x → x.block (φc l) b → ∀ o, Mut φ σ.heap b o → Mut φc H b o := by
    rintro l x b hx hb o ⟨k, y, hy, hm⟩
    obtain ⟨z, hz, hzb⟩ := hblk l x b hx hb
    have hk := S.apart k (ρf l) y z b hy hz (AObj.block_of_muts hm) hzb
    subst hk
    have hf := hfoot l x hx
    rw [hy] at hf
    cases hf
    exact ⟨l, x, hx, ren_muts.1 hm⟩
  have hS' : HSim C' φc H w := by
    refine { slots := rfl, defers := rfl, objs := ?_, apart := ?_, notA := ?_, size := Nat.le_refl _, old := fun _ _ _ _ => rfl, oldObj := fun _ _ _ => rfl, inM := ?_, froz := fun _ => rfl, rest := ⟨rfl, rfl⟩, low := ⟨rfl, Nat.le_refl _⟩, names := fun l hl => .inl ⟨rfl, .inl rfl⟩ }
    · intro l x hx
      exact ObjRep.unren un (hnbH x (List.mem_of_getElem? hx)) (fun _ _ => rfl) (S.objs (ρf l) _ (hfoot l x hx))
    · intro l l' x x' b hx hx' hb hb'
      obtain ⟨z, hz, hzb⟩ := hblk l x b hx hb
      obtain ⟨z', hz', hzb'⟩ := hblk l' x' b hx' hb'
      exact hinj l l' (List.getElem?_eq_some_iff.1 hx).1 (List.getElem?_eq_some_iff.1 hx').1 (S.apart _ _ z z' b hz hz' hzb hzb')
    · rintro l x b o hx hb ⟨hA | hA, hn⟩
      · exact hn (hown l x b hx hb o hA)
      · obtain ⟨z, hz, hzb⟩ := hblk l x b hx hb
        exact S.notA _ z b o hz hzb hA
    · intro l x b o hx hm _
      exact ⟨l, x, hx, hm⟩
  have hr' : RepL (C'.env φc H w) args vs.toList := RepL.unren un _ _ hnbA (hargs _ _ hr)
  refine (hc C' φc w hP rfl rfl (fun l _ => ⟨rfl, rfl⟩) (fun _ _ => Iff.rfl) hS' vs hr').mono ?_
  rintro e w' ⟨o, φ', H', hV, S', hrep⟩
  -- behind the call
  have hHle : H.length ≤ H'.length := S'.low.2
  let n := σ.heap.length
  have hcase : ∀ k, k < n → (∃ l, l < H.length ∧ ρf l = k) ∨ k ∉ ρ := by
    intro k _
    by_cases hm : k ∈ ρ
    · obtain ⟨i, hi⟩ := List.getElem?_of_mem hm
      have hil := (List.getElem?_eq_some_iff.1 hi).1
      left
      refine ⟨i, by omega, ?_⟩
      have := hρ i (by omega)
      rw [hi] at this; cases this; rfl
    · exact .inr hm
  let ix : Nat → Option Nat := posIn ρ
  have hix : ∀ l, l < H.length → ix (ρf l) = some l := by
    intro l hl
    exact posIn_at ρ l _ hnd (hρ l hl)
  have hix0 : ∀ k, k ∉ ρ → ix k = none := by
    intro k hk
    exact posIn_none ρ k hk
  let φ2 : Nat → Value := fun k => if k < n then (match ix k with | some l => φ' l | none => φ k) else φ' (H.length + (k - n))
  have hφ2f : ∀ l, l < H'.length → φ2 (ρf l) = φ' l := by
    intro l hl
    by_cases h1 : l < H.length
    · simp only [φ2]
      rw [if_pos (hρlt l h1), hix l h1]
    · have h2 : ρf l = n + (l - H.length) := by
        have : ¬ l < ρ.length := by omega
        show backTo ρ σ.heap.length l = _
        unfold backTo
        rw [if_neg this, hlen]
      simp only [φ2]
      rw [if_neg (by omega), h2]
      congr 1; omega
  have hφ2o : ∀ k, k < n → k ∉ ρ → φ2 k = φ k := by
    intro k hk hm
    simp only [φ2]
    rw [if_pos hk, hix0 k hm]
  let H2 : List AObj := heapBack ρ σ.heap H'
  have hH2f : ∀ (l : Nat) (hl : l < H'.length), H2[ρf l]? = some ((H'[l]).ren ρf) := by
    intro l hl
    simp only [H2, heapBack]
    by_cases h1 : l < H.length
    · have hlt := hρlt l h1
      rw [List.getElem?_append_left (by rw [setAll_length]; exact hlt)]
      exact setAll_at ρ σ.heap _ l (ρf l) _ hnd (hρ l h1) (by rw [List.getElem?_map, List.getElem?_eq_getElem hl]; rfl) hlt
    · have h2 : ρf l = n + (l - H.length) := by
        have : ¬ l < ρ.length := by omega
        show backTo ρ σ.heap.length l = _
        unfold backTo
        rw [if_neg this, hlen]
      rw [h2, List.getElem?_append_right (by rw [setAll_length]; omega), setAll_length]
      rw [List.getElem?_map, List.getElem?_drop, hlen]
      have e : H.length + (n + (l - H.length) - σ.heap.length) = l := by simp only [n]; omega
      rw [e, List.getElem?_eq_getElem hl]; rfl
  have hH2o : ∀ k, k < n → k ∉ ρ → H2[k]? = σ.heap[k]? := by
    intro k hk hm
    simp only [H2, heapBack]
    rw [List.getElem?_append_left (by rw [setAll_length]; exact hk)]
    exact setAll_other ρ _ _ k hm
  have hH2len : H2.length = n + (H'.length - H.length) := by
    simp only [H2, heapBack, List.length_append, setAll_length, List.length_map, List.length_drop, hlen]; rfl
  have hH2 : ∀ (k : Nat) (y : AObj), H2[k]? = some y → (∃ l, ∃ hl : l < H'.length, k = ρf l ∧ y = (H'[l]).ren ρf) ∨ (k < n ∧ k ∉ ρ ∧ σ.heap[k]? = some y) := by
    intro k y hy
    have hk : k < H2.length := (List.getElem?_eq_some_iff.1 hy).1
    by_cases h1 : k < n
    · rcases hcase k h1 with ⟨l, hl, rfl⟩ | hm
      · left
        have := hH2f l (by omega)
        rw [hy] at this; cases this
        exact ⟨l, by omega, rfl, rfl⟩
      · right
        rw [hH2o k h1 hm] at hy
        exact ⟨h1, hm, hy⟩
    · left
      have hl : H.length + (k - n) < H'.length := by omega
      have hk2 : ρf (H.length + (k - n)) = k := by
        have : ¬ H.length + (k - n) < ρ.length := by omega
        show backTo ρ σ.heap.length _ = _
        unfold backTo
        rw [if_neg this, hlen]
        simp only [n] at h1 ⊢; omega
      have := hH2f _ hl
      rw [hk2, hy] at this; cases this
      exact ⟨_, hl, hk2.symm, rfl⟩
  have hMut2 : ∀ b o, Mut φ2 H2 b o → Mut φ' H' b o ∨ ∃ (k : Nat) (y : AObj), k < n ∧ k ∉ ρ ∧ σ.heap[k]? = some y ∧ y.muts (φ k) b o := by
    rintro b o ⟨k, y, hy, hm⟩
    rcases hH2 k y hy with ⟨l, hl, rfl, rfl⟩ | ⟨h1, h2, h3⟩
    · left
      rw [hφ2f l hl] at hm
      exact ⟨l, _, List.getElem?_eq_getElem hl, ren_muts.1 hm⟩
    · right
      rw [hφ2o k h1 h2] at hm
      exact ⟨k, y, h1, h2, h3, hm⟩
  -- an object of the caller's that was not handed over shares no block with one that was
  have hsep : ∀ (k : Nat) (y : AObj) (b : Nat), k < n → k ∉ ρ → σ.heap[k]? = some y → y.block (φ k) b → ∀ o, ¬ Mut φc H b o := by
    rintro k y b hk hm hy hb o ⟨l, x, hx, hmu⟩
    obtain ⟨z, hz, hzb⟩ := hblk l x b hx (AObj.block_of_muts hmu)
    have e := S.apart k (ρf l) y z b hy hz hb hzb
    apply hm
    rw [e]
    exact List.mem_of_getElem? (hρ l (List.getElem?_eq_some_iff.1 hx).1)
  have hnewblk : ∀ (l : Nat) (hl : l < H'.length) (b : Nat), (H'[l]).block (φ' l) b → b < w.heap.size → ∃ (k : Nat) (x : AObj), H[k]? = some x ∧ x.block (φc k) b := by
    intro l hl b hb hlt
    obtain ⟨o, hmu⟩ := muts_of_block hb
    obtain ⟨k, x, hx, hmx⟩ := S'.inM l _ b o (List.getElem?_eq_getElem hl) hmu hlt
    exact ⟨k, x, hx, AObj.block_of_muts hmx⟩
  have le : (C.env φ σ.heap w).Le n (C.env φ2 H2 w') := by
    refine ⟨by simp only [Ctx.env]; omega, fun k hk => ?_, fun b o' u hm hcell => ?_⟩
    · rcases hcase k hk with ⟨l, hl, rfl⟩ | hm
      · have hn := S'.names l hl
        simp only [Ctx.env]
        rw [hφ2f l (by omega), hH2f l (by omega), ren_accLen, hfoot l H[l] (List.getElem?_eq_getElem hl), ren_accLen]
        have h1 : accLen H'[l]? = accLen (some H'[l]) := by rw [List.getElem?_eq_getElem (by omega)]
        have h2 : C'.ln0 l = accLen (some H[l]) := by show accLen H[l]? = _; rw [List.getElem?_eq_getElem hl]
        rw [h1, h2] at hn
        exact hn
      · left
        simp only [Ctx.env]
        rw [hφ2o k hk hm, hH2o k hk hm]
        exact ⟨rfl, .inl rfl⟩
    · have hb := cell_lt hcell
      simp only [Ctx.env] at hb hm ⊢
      have hnc : ¬ Mut φc H b o' := fun hh => hm (.inl (hMsub b o' hh))
      refine ⟨?_, by rw [S'.old b o' hb hnc]; exact hcell⟩
      rintro (hh | hh)
      · rcases hMut2 b o' hh with ⟨l, x, hx, hmu⟩ | ⟨k, y, _, _, hy, hmu⟩
        · exact hnc (S'.inM l x b o' hx hmu hb)
        · exact hm (.inl ⟨k, y, hy, hmu⟩)
      · exact hm (.inr hh)
  have ren : RenLe H'.length ρf (C'.env φ' H' w') (C.env φ2 H2 w') := by
    refine ⟨fun l hl => ?_, fun l hl => ?_, fun b o' u hm hcell => ⟨?_, hcell⟩⟩
    · have := hH2f l hl
      exact (List.getElem?_eq_some_iff.1 this).1
    · simp only [Ctx.env]
      rw [hφ2f l hl, hH2f l hl, ren_accLen, List.getElem?_eq_getElem hl]
      exact ⟨rfl, .inl rfl⟩
    · simp only [Ctx.env] at hm ⊢
      rintro (hh | hh)
      · rcases hMut2 b o' hh with h1 | ⟨k, y, hk, hkm, hy, hmu⟩
        · exact hm (.inl h1)
        · exact hm (.inr ⟨.inl ⟨k, y, hy, hmu⟩, hsep k y b hk hkm hy (AObj.block_of_muts hmu) o'⟩)
      · refine hm (.inr ⟨.inr hh, ?_⟩)
        rintro ⟨l, x, hx, hmu⟩
        obtain ⟨z, hz, hzb⟩ := hblk l x b hx (AObj.block_of_muts hmu)
        exact S.notA _ z b o' hz hzb hh
  have S2 : Sim C φ2 { σ with heap := H2 } a w' := by
    refine { slots := RepL.mono le _ _ (RepL.nb _ _ S.slots) S.slots, defers := S.defers, objs := ?_, apart := ?_, notA := ?_, size := Nat.le_trans S.size S'.size, old := ?_, oldObj := ?_, inM := ?_, froz := fun x => (S'.froz x).trans (S.froz x), rest := ⟨S'.rest.1.trans S.rest.1, S'.rest.2.trans S.rest.2⟩, low := ⟨S.low.1, by have := S.low.2; show σ.low ≤ H2.length; omega⟩, names := ?_ }
    · intro k y hy
      rcases hH2 k y hy with ⟨l, hl, rfl, rfl⟩ | ⟨h1, h2, h3⟩
      · rw [hφ2f l hl]
        have r0 := S'.objs l _ (List.getElem?_eq_getElem hl)
        exact ObjRep.ren ren (objNb_rep r0) (fun _ _ => rfl) r0
      · rw [hφ2o k h1 h2]
        have r0 := S.objs k y h3
        exact ObjRep.mono r0 le (fun b hb => S'.oldObj b (r0.block_lt hb) (hsep k y b h1 h2 h3 hb))
    · intro k k' x x' b hx hx' hb hb'
      rcases hH2 k x hx with ⟨l, hl, rfl, rfl⟩ | ⟨h1, h2, h3⟩ <;> rcases hH2 k' x' hx' with ⟨l', hl', rfl, rfl⟩ | ⟨h1', h2', h3'⟩
      · rw [hφ2f l hl] at hb
        rw [hφ2f l' hl'] at hb'
        have := S'.apart l l' _ _ b (List.getElem?_eq_getElem hl) (List.getElem?_eq_getElem hl') (ren_block.1 hb) (ren_block.1 hb')
        rw [this]
      · rw [hφ2f l hl] at hb
        rw [hφ2o k' h1' h2'] at hb'
        exfalso
        obtain ⟨q, z, hz, hzb⟩ := hnewblk l hl b (ren_block.1 hb) ((S.objs k' x' h3').block_lt hb')
        obtain ⟨o'', hmu⟩ := muts_of_block hzb
        exact hsep k' x' b h1' h2' h3' hb' o'' ⟨q, z, hz, hmu⟩
      · rw [hφ2f l' hl'] at hb'
        rw [hφ2o k h1 h2] at hb
        exfalso
        obtain ⟨q, z, hz, hzb⟩ := hnewblk l' hl' b (ren_block.1 hb') ((S.objs k x h3).block_lt hb)
        obtain ⟨o'', hmu⟩ := muts_of_block hzb
        exact hsep k x b h1 h2 h3 hb o'' ⟨q, z, hz, hmu⟩
      · rw [hφ2o k h1 h2] at hb
        rw [hφ2o k' h1' h2'] at hb'
        exact S.apart k k' x x' b h3 h3' hb hb'
    · intro k x b o' hx hb
      rcases hH2 k x hx with ⟨l, hl, rfl, rfl⟩ | ⟨h1, h2, h3⟩
      · rw [hφ2f l hl] at hb
        intro hA
        have hbs : b < w.heap.size := Nat.lt_of_lt_of_le (C.hA b o' hA) S.size
        obtain ⟨q, z, hz, hzb⟩ := hnewblk l hl b (ren_block.1 hb) hbs
        obtain ⟨z', hz', hzb'⟩ := hblk q z b hz hzb
        exact S.notA _ z' b o' hz' hzb' hA
      · rw [hφ2o k h1 h2] at hb
        exact S.notA k x b o' h3 hb
    · intro b o' hb hm
      have hb' : b < w.heap.size := Nat.lt_of_lt_of_le hb S.size
      have hnc : ¬ Mut φc H b o' := by
        intro hh
        obtain ⟨k, y, hy, hmu⟩ := hMsub b o' hh
        exact hm (S.inM k y b o' hy hmu hb)
      exact (S'.old b o' hb' hnc).trans (S.old b o' hb hm)
    · intro b hb hm
      have hb' : b < w.heap.size := Nat.lt_of_lt_of_le hb S.size
      have hnc : ∀ o', ¬ Mut φc H b o' := by
        intro o' hh
        obtain ⟨k, y, hy, hmu⟩ := hMsub b o' hh
        exact hm o' (S.inM k y b o' hy hmu hb)
      exact (S'.oldObj b hb' hnc).trans (S.oldObj b hb hm)
    · intro k x b o' hx hmu hb
      rcases hH2 k x hx with ⟨l, hl, rfl, rfl⟩ | ⟨h1, h2, h3⟩
      · rw [hφ2f l hl] at hmu
        obtain ⟨q, z, hz, hmz⟩ := S'.inM l _ b o' (List.getElem?_eq_getElem hl) (ren_muts.1 hmu) (Nat.lt_of_lt_of_le hb S.size)
        obtain ⟨k2, y2, hy2, hmu2⟩ := hMsub b o' ⟨q, z, hz, hmz⟩
        exact S.inM k2 y2 b o' hy2 hmu2 hb
      · rw [hφ2o k h1 h2] at hmu
        exact S.inM k x b o' h3 hmu hb
    · intro k hk
      have hkn : k < n := by have := S.low; simp only [n]; omega
      have hn := S.names k hk
      show (φ2 k = _ ∧ _) ∨ _
      rcases hcase k hkn with ⟨l, hl, rfl⟩ | hm
      · have hn' := S'.names l hl
        rw [hφ2f l (by omega), hH2f l (by omega), ren_accLen]
        rw [hfoot l H[l] (List.getElem?_eq_getElem hl), ren_accLen] at hn
        have h1 : accLen H'[l]? = accLen (some H'[l]) := by rw [List.getElem?_eq_getElem (by omega)]
        have h2 : C'.ln0 l = accLen (some H[l]) := by show accLen H[l]? = _; rw [List.getElem?_eq_getElem hl]
        have h3 : C'.φ0 l = φ (ρf l) := rfl
        rw [h1, h2, h3] at hn'
        rcases hn' with ⟨ha, hb | hb⟩ | ⟨⟨q, hq, hlt⟩, hp, hmp⟩
        · rw [ha, hb]; exact hn
        · rw [hb]
          rcases hn with ⟨hc1, _⟩ | ⟨⟨q, hq, _⟩, hp, hmp⟩
          · exact .inl ⟨by rw [ha]; exact hc1, .inr rfl⟩
          · exact .inr ⟨⟨q, hq, fun k' hk' => by cases hk'⟩, hp, hmp⟩
        · right
          rcases hn with ⟨hc1, hc2 | hc2⟩ | ⟨⟨q2, hq2, hlt2⟩, hp2, hmp2⟩
          · rw [hq] at hc2
            exact ⟨⟨q, hc2.symm, hlt⟩, by rw [← hc1]; exact ⟨hp, hmp⟩⟩
          · rw [hq] at hc2; cases hc2
          · exact ⟨⟨q2, hq2, fun k' hk' => by have := hlt k' hk'; have := hlt2 q hq; omega⟩, hp2, hmp2⟩
      · rw [hφ2o k hkn hm, hH2o k hkn hm]; exact hn
  refine ⟨o.ren ρf, φ2, H2, hK o H' hV, S2, ?_⟩
  cases o with
  | ret r =>
    cases e with
    | returned v => exact Rep.ren ren r v (Rep.nb _ _ hrep) hrep
    | panicked chain => exact hrep.elim
    | outgrown => exact hrep.elim
  | panic x =>
    cases e with
    | returned v => exact hrep.elim
    | panicked chain =>
      obtain ⟨v, hv, hr⟩ := hrep
      exact ⟨v, hv, Rep.ren ren x v (Rep.nb _ _ hr) hr⟩
    | outgrown => exact hrep.elim

end call

theorem ObjRep.monoN {E E' : Env} {N : Nat} {x : AObj} {hd : Value} (r : ObjRep E x hd) (h : E.Le N E') (hn : objNb N x) (hs : E'.w = E.w := by rfl) : ObjRep E' x hd := by
  cases x with
  | cells cs => obtain ⟨b, c, t, h1, h2, rl, h3⟩ := r; exact ⟨b, c, t, h1, by rw [hs]; exact h2, RepL.mono h _ _ hn rl, h3⟩
  | acc imm sz rows =>
    obtain ⟨base, cap, h1, h2, h3, h4, h5⟩ := r
    refine ⟨base, cap, h1, h2, h3, h4, fun a0 ha hc => ?_⟩
    obtain ⟨h6, c, t, h7, h8, rl, h9⟩ := h5 a0 ha hc
    exact ⟨h6, c, t, by rw [hs]; exact h7, h8, RepL.mono h _ _ (nbL_flatten hn) rl, h9⟩
  | map es => obtain ⟨r', en, cl, h1, h2, rp⟩ := r; exact ⟨r', en, cl, h1, by rw [hs]; exact h2, RepPairs.mono h hn rp⟩
  | dead => trivial

def Export (σ : AState) (x r : AV) (H' : List AObj) : Prop :=
  ∀ (C : Ctx) (φ : Nat → Value) (a : Act) (w : World), Sim C φ σ a w → ∀ v, Rep (C.env φ σ.heap w) x v →
    ∃ φ', Sim C φ' { slots := [], heap := H', low := σ.low } { tmps := #[], defers := [] } w ∧ Rep (C.env φ' H' w) r v

def outX (low l k : Nat) : Nat := if k < low then k else if k = l then low else low + 1 + k

section export_
variable {σ : AState}

theorem Export.sub {x r r' : AV} {H' : List AObj} (h : Export σ x r H') (hs : Sub r r') : Export σ x r' H' := fun C φ a w S v hv =>
  let ⟨φ', S', hr⟩ := h C φ a w S v hv
  ⟨φ', S', hs _ _ hr⟩

theorem take_get {H : List AObj} {low l : Nat} (hl : l < low) : (H.take low)[l]? = H[l]? := by rw [List.getElem?_take, if_pos hl]

theorem export_frz {x : AV} (hnb : ∀ y ∈ σ.heap.take σ.low, objNb σ.low y) (hx : (frz σ.low σ.heap x).nb σ.low) : Export σ x (frz σ.low σ.heap x) (σ.heap.take σ.low) := by
  intro C φ a w S v hv
  have hlow := S.low.2
  have hHl : (σ.heap.take σ.low).length = σ.low := by rw [List.length_take]; omega
  have hget' : ∀ (l : Nat) (y : AObj), (σ.heap.take σ.low)[l]? = some y → l < σ.low ∧ σ.heap[l]? = some y := by
    intro l y hy
    have hl : l < σ.low := by rw [← hHl]; exact (List.getElem?_eq_some_iff.1 hy).1
    rw [take_get hl] at hy; exact ⟨hl, hy⟩
  have hmut : ∀ b o, Mut φ (σ.heap.take σ.low) b o → Mut φ σ.heap b o := by
    rintro b o ⟨l, y, hy, hm⟩; exact ⟨l, y, (hget' l y hy).2, hm⟩
  have le : (C.env φ σ.heap w).Le σ.low (C.env φ (σ.heap.take σ.low) w) := by
    refine ⟨by simp only [Ctx.env]; omega, fun l hl => .inl ⟨rfl, .inl (by simp only [Ctx.env]; rw [take_get hl])⟩, fun b o u hm hc => ⟨fun h => hm (h.imp (hmut b o) id), hc⟩⟩
  refine ⟨φ, { slots := rfl, defers := rfl, objs := ?_, apart := ?_, notA := ?_, size := S.size, old := S.old, oldObj := S.oldObj, inM := ?_, froz := S.froz, rest := S.rest, low := ⟨S.low.1, by show σ.low ≤ (σ.heap.take σ.low).length; omega⟩, names := ?_ }, ?_⟩
  · intro l y hy
    obtain ⟨hl, hy'⟩ := hget' l y hy
    exact (S.objs l y hy').monoN le (hnb y (List.mem_of_getElem? hy))
  · intro l l' y y' b hy hy' hb hb'
    exact S.apart l l' y y' b (hget' l y hy).2 (hget' l' y' hy').2 hb hb'
  · intro l y b o hy hb; exact S.notA l y b o (hget' l y hy).2 hb
  · intro l y b o hy hm hb; exact S.inM l y b o (hget' l y hy).2 hm hb
  · intro l hl
    rw [take_get (by have := S.low.1; omega)]
    exact S.names l hl
  · refine frz_sound S ⟨le, rfl, fun l y b o hl hy hb => ?_⟩ x v hx hv
    simp only [Ctx.env]
    rintro (⟨l', y', hy', hm⟩ | hA)
    · obtain ⟨h1, h2⟩ := hget' l' y' hy'
      have := S.apart l l' y y' b hy h2 hb (AObj.block_of_muts hm)
      omega
    · exact S.notA l y b o hy hb hA

theorem export_one {x : AV} {l : Nat} {y : AObj} (hl : σ.heap[l]? = some y) (hlow : σ.low ≤ l) (hnb : ∀ z ∈ σ.heap.take σ.low, objNb σ.low z) (hy : objNb σ.low y) (hr : (x.ren (outX σ.low l)).nb (σ.low + 1)) :
    Export σ x (x.ren (outX σ.low l)) (σ.heap.take σ.low ++ [y]) := by
  intro C φ a w S v hv
  have hlowle := S.low.2
  have hHl : (σ.heap.take σ.low).length = σ.low := by rw [List.length_take]; omega
  let H' := σ.heap.take σ.low ++ [y]
  let φ' : Nat → Value := fun k => if k = σ.low then φ l else φ k
  have hφ' : ∀ k, k < σ.low → φ' k = φ k := fun k hk => by simp only [φ']; rw [if_neg (by omega)]
  have hφl : φ' σ.low = φ l := by simp [φ']
  have hget0 : ∀ k, k < σ.low → H'[k]? = σ.heap[k]? := by
    intro k hk
    simp only [H']
    rw [List.getElem?_append_left (by omega), take_get hk]
  have hgetl : H'[σ.low]? = some y := by
    simp only [H']
    rw [List.getElem?_append_right (by omega), hHl, Nat.sub_self]; rfl
  have hHlen : H'.length = σ.low + 1 := by simp only [H', List.length_append, hHl, List.length_cons, List.length_nil]
  have hget : ∀ (k : Nat) (z : AObj), H'[k]? = some z → (k < σ.low ∧ σ.heap[k]? = some z) ∨ (k = σ.low ∧ z = y) := by
    intro k z hz
    have hk : k < σ.low + 1 := by rw [← hHlen]; exact (List.getElem?_eq_some_iff.1 hz).1
    by_cases e : k = σ.low
    · subst e; rw [hgetl] at hz; cases hz; exact .inr ⟨rfl, rfl⟩
    · left
      rw [hget0 k (by omega)] at hz
      exact ⟨by omega, hz⟩
  -- the old name of an object that is handed out
  let old : Nat → Nat := fun k => if k = σ.low then l else k
  have hold : ∀ (k : Nat) (z : AObj), H'[k]? = some z → σ.heap[old k]? = some z ∧ φ' k = φ (old k) := by
    intro k z hz
    rcases hget k z hz with ⟨h1, h2⟩ | ⟨rfl, rfl⟩
    · simp only [old]; rw [if_neg (by omega)]; exact ⟨h2, hφ' k h1⟩
    · simp only [old, if_true]; exact ⟨hl, hφl⟩
  have holdinj : ∀ k k', k < σ.low + 1 → k' < σ.low + 1 → old k = old k' → k = k' := by
    intro k k' hk hk' he
    simp only [old] at he
    split at he <;> split at he <;> omega
  have hmut : ∀ b o, Mut φ' H' b o → Mut φ σ.heap b o := by
    rintro b o ⟨k, z, hz, hm⟩
    obtain ⟨h1, h2⟩ := hold k z hz
    rw [h2] at hm
    exact ⟨old k, z, h1, hm⟩
  have le : (C.env φ σ.heap w).Le σ.low (C.env φ' H' w) := by
    refine ⟨by simp only [Ctx.env]; omega, fun k hk => .inl ⟨hφ' k hk, .inl (by simp only [Ctx.env]; rw [hget0 k hk])⟩, fun b o u hm hc => ⟨fun h => hm (h.imp (hmut b o) id), hc⟩⟩
  refine ⟨φ', { slots := rfl, defers := rfl, objs := ?_, apart := ?_, notA := ?_, size := S.size, old := S.old, oldObj := S.oldObj, inM := ?_, froz := S.froz, rest := S.rest, low := ⟨S.low.1, by show σ.low ≤ H'.length; omega⟩, names := ?_ }, ?_⟩
  · intro k z hz
    show ObjRep (C.env φ' H' w) z (φ' k)
    obtain ⟨h1, h2⟩ := hold k z hz
    rw [h2]
    refine (S.objs (old k) z h1).monoN le ?_
    rcases hget k z hz with ⟨h3, h4⟩ | ⟨rfl, rfl⟩
    · exact hnb z (List.mem_of_getElem? ((take_get h3).trans h4))
    · exact hy
  · intro k k' z z' b hz hz' hb hb'
    obtain ⟨h1, h2⟩ := hold k z hz
    obtain ⟨h1', h2'⟩ := hold k' z' hz'
    rw [h2] at hb
    rw [h2'] at hb'
    have hk : k < σ.low + 1 := by rw [← hHlen]; exact (List.getElem?_eq_some_iff.1 hz).1
    have hk' : k' < σ.low + 1 := by rw [← hHlen]; exact (List.getElem?_eq_some_iff.1 hz').1
    exact holdinj k k' hk hk' (S.apart _ _ z z' b h1 h1' hb hb')
  · intro k z b o hz hb
    obtain ⟨h1, h2⟩ := hold k z hz
    rw [h2] at hb
    exact S.notA _ z b o h1 hb
  · intro k z b o hz hm hb
    obtain ⟨h1, h2⟩ := hold k z hz
    rw [h2] at hm
    exact S.inM _ z b o h1 hm hb
  · intro k hk
    have hk' : k < σ.low := by have := S.low.1; omega
    show (φ' k = _ ∧ (accLen H'[k]? = _ ∨ _)) ∨ _
    rw [hφ' k hk', hget0 k hk']
    exact S.names k hk
  · -- through an environment in which the other names are dead
    let E2 : Env := { w, mu := (C.env φ' H' w).mu, φ := fun k => if k < σ.low + 1 then φ' k else φ (k - (σ.low + 1)), ln := fun k => if k < σ.low + 1 then accLen H'[k]? else none, n := σ.low + 1 + σ.heap.length }
    have ren : RenLe σ.heap.length (outX σ.low l) (C.env φ σ.heap w) E2 := by
      refine ⟨fun k hk => ?_, fun k hk => ?_, fun b o u hm hc => ⟨fun h => hm (h.imp (hmut b o) id), hc⟩⟩
      · simp only [outX, E2]
        split
        · omega
        · split <;> omega
      · simp only [outX, E2, Ctx.env]
        split
        · rename_i h1
          rw [if_pos (by omega), if_pos (by omega), hφ' k h1, hget0 k h1]
          exact ⟨rfl, .inl rfl⟩
        · split
          · rename_i h1 h2
            subst h2
            rw [if_pos (by omega), if_pos (by omega), hφl, hgetl, hl]
            exact ⟨rfl, .inl rfl⟩
          · rw [if_neg (by omega), if_neg (by omega)]
            refine ⟨?_, .inr rfl⟩
            congr 1; omega
    have h1 := Rep.ren ren x v (Rep.nb _ _ hv) hv
    have le2 : E2.Le (σ.low + 1) (C.env φ' H' w) := by
      refine ⟨by simp only [Ctx.env]; show σ.low + 1 ≤ H'.length; omega, fun k hk => .inl ⟨?_, .inl ?_⟩, fun b o u hm hc => ⟨hm, hc⟩⟩
      · show φ' k = if k < σ.low + 1 then φ' k else _
        rw [if_pos hk]
      · show accLen H'[k]? = if k < σ.low + 1 then accLen H'[k]? else none
        rw [if_pos hk]
    exact Rep.mono le2 _ v hr h1

end export_

def gPost (P : Program) (rs : List ResultVar) (V : AOut → List AObj → Prop) : AExit → AState → Prop
  | .normal, σ => ∃ x, resAV P σ rs = some x ∧ ∃ r H', Export σ x r H' ∧ V (.ret r) H'
  | .ret, σ => ∃ x, resAV P σ rs = some x ∧ ∃ r H', Export σ x r H' ∧ V (.ret r) H'
  | .panic x, σ => ∃ r H', Export σ x r H' ∧ V (.panic r) H'
  | _, _ => False

theorem fnG_of_body {P : Program} {f : FuncId} {fn : Func} {c : Code} {args : List AV} {H : List AObj} {V : AOut → List AObj → Prop} (hf : P.funcs[f]? = some fn) (hb : fn.body = some c) (hne : (fn.name != "runtime.NumGoroutine") = true) (hnb : nbL H.length args)
    (hnbH : ∀ x ∈ H, objNb H.length x) {n : Nat} (hn : fn.ntmps = n) {rs : List ResultVar} (hrs : fn.results = rs.toArray)
    (h : awp P c (gPost P rs V) { slots := args ++ List.replicate (n - args.length) .any, heap := H, low := H.length }) : FnG P f args H V := by
  refine ⟨?_, hnb, hnbH, fun C φ w hP h0 hN0 hφ0 hM HS vs hr => ?_⟩
  · unfold enters; rw [hf]; simp only [hb, Option.isSome_some, Bool.true_and]; exact hne
  · subst hP
    refine calls_of_wp hf hb ?_
    have hsz : vs.size = args.length := by have := hr.length; simpa using this
    have S : Sim C φ { slots := args ++ List.replicate (n - args.length) .any, heap := H, low := H.length } { tmps := vs ++ Array.replicate (fn.ntmps - vs.size) undef, defers := [] } w := by
      refine { HS with slots := ?_, defers := rfl }
      simp only [Array.toList_append, Array.toList_replicate]
      refine hr.append ?_
      rw [hsz, hn]
      have := RepL.replicate_any (E := C.env φ H w) (List.replicate (n - args.length) undef)
      simpa using this
    refine wp_mono (awp_sound c _ φ _ _ w h S) ?_
    intro e a' w' hq
    have hlow : ∀ {φ' : Nat → Value} {σ' : AState}, Sim C φ' σ' a' w' → σ'.low = H.length := fun S' => by rw [← S'.low.1]; exact hN0
    have fin : ∀ φ' σ', Sim C φ' σ' a' w' → (∃ x, resAV C.P σ' rs = some x ∧ ∃ r H', Export σ' x r H' ∧ V (.ret r) H') →
        a'.defers = [] ∧ ∃ v, (results fn a'.tmps).run C.P w' = .ok v w' ∧ ∃ o φ' H', V o H' ∧ Sim C φ' { slots := [], heap := H', low := H.length } { tmps := #[], defers := [] } w' ∧ o.rep (C.env φ' H' w') (.returned v) := by
      rintro φ' σ' S' ⟨x, hx, r, H', hex, hV⟩
      obtain ⟨v, hv, rv⟩ := resAV_sound (fn := fn) S' (by rw [hrs]; exact hx)
      obtain ⟨φ2, S2, hr2⟩ := hex C φ' a' w' S' v rv
      rw [hlow S'] at S2
      exact ⟨S'.defers, v, hv, .ret r, φ2, H', hV, S2, hr2⟩
    cases e with
    | normal => obtain ⟨φ', σ', S', hq⟩ := hq; exact fin φ' σ' S' hq
    | ret => obtain ⟨φ', σ', S', hq⟩ := hq; exact fin φ' σ' S' hq
    | exit id => obtain ⟨_, _, _, hq⟩ := hq; exact hq.elim
    | goto l => obtain ⟨_, _, _, hq⟩ := hq; exact hq.elim
    | panic chain =>
      obtain ⟨φ', σ', x, v, S', ⟨r, H', hex, hV⟩, hch, hrep⟩ := hq
      obtain ⟨φ2, S2, hr2⟩ := hex C φ' a' w' S' v hrep
      rw [hlow S'] at S2
      exact ⟨S'.defers, .panic r, φ2, H', hV, S2, v, hch, hr2⟩
    | outgrown => exact hq.elim

theorem FnC.toG {P : Program} {f : FuncId} {args : List AV} {V : AV → Prop} (h : FnC P f args V) : FnG P f args [] (fun o H' => H' = [] ∧ ∃ r, o = .ret r ∧ V r) := by
  obtain ⟨he, hn, hc⟩ := h
  refine ⟨he, hn, by simp, fun C φ w hP h0 hN0 hφ0 hM HS vs hr => (hc C φ w hP h0 hN0 (fun b o hm => ?_) vs hr).mono ?_⟩
  · obtain ⟨l, x, hx, _⟩ := (hM b o).1 hm
    simp at hx
  · rintro e w' ⟨r, v, φ', hV, rfl, rep, hs, hh, hf, ho⟩
    refine ⟨.ret r, φ', [], ⟨rfl, r, rfl, hV⟩, ?_, rep⟩
    have S2 := Sim.grown HS hs hh hf ho
    exact { S2 with objs := by simp, apart := by simp, notA := by simp, inM := by simp, slots := rfl, names := fun l hl => by rw [hN0] at hl; exact absurd hl (Nat.not_lt_zero _) }

attribute [go_sem] AV.ren renL renR AObj.ren AOut.ren backTo heapBack setAll outX gPost
end Go.Abs
namespace Go.Abs

def child : Nat → Code → Code
  | 0, .seq x _ => x
  | 1, .seq _ y => y
  | 0, .cond _ x _ => x
  | 1, .cond _ _ y => y
  | 0, .block _ x => x
  | 0, .loop x => x
  | 0, .scope x => x
  | _, _ => .skip

def sub : List Nat → Code → Code
  | [], c => c
  | d :: p, c => child d (sub p c)

inductive Kt where
  | at (p : List Nat)
  | cut (p : List Nat)
  | ops (ops : Array Oper) (rest : List Oper)
  | dops (p : List Nat) (rest : List Oper) (j : Nat) (tr : List Tr)
  | blk (id : Nat)
  | lp (m : Nat) (p : List Nat)
  | lq (m : Nat) (p : List Nat)

section
variable {R : Type}

def regOps : Code → Array Oper
  | .region _ ops _ => ops
  | _ => #[]
def opsAt (M : Mach R) (p : List Nat) : Array Oper := regOps (sub p M.body)

noncomputable def itemX (M : Mach R) : Kt → AState → Option (AExit × AState)
  | .at p, σ => exec M (sub p M.body) p σ
  | .cut p, σ => (M.cut p σ).map fun σ' => (.normal, σ')
  | .ops ops rest, σ => (execOps M ops rest σ).map fun σ' => (.normal, σ')
  | .dops p rest j tr, σ => (execD M (opsAt M p) rest j tr σ).map fun σ' => (.normal, σ')
  | .blk _, σ => some (.normal, σ)
  | .lp m p, σ => (M.nrm p σ).bind (lqN (M.nrm p) (exec M (sub (0 :: p) M.body) (0 :: p)) m)
  | .lq m p, σ => lqN (M.nrm p) (exec M (sub (0 :: p) M.body) (0 :: p)) m σ

noncomputable def fin (M : Mach R) : List Kt → AExit → AState → Option R
  | [], .normal, σ => M.out σ
  | [], .ret, σ => M.out σ
  | [], _, _ => none
  | .blk id :: k, .exit id', σ => if id' = id then fin M k .normal σ else fin M k (.exit id') σ
  | x :: k, .normal, σ => match itemX M x σ with
    | some (e, σ') => fin M k e σ'
    | none => none
  | _ :: k, e, σ => fin M k e σ

noncomputable def run (M : Mach R) (k : List Kt) (σ : AState) : Option R := fin M k .normal σ

variable {M : Mach R} {k : List Kt} {σ : AState}

theorem run_nil : run M [] σ = M.out σ := rfl
theorem run_blk {id : Nat} : run M (.blk id :: k) σ = run M k σ := rfl
theorem fin_item {x : Kt} (h : ∀ id, x ≠ .blk id) : fin M (x :: k) .normal σ = match itemX M x σ with
    | some (e, σ') => fin M k e σ'
    | none => none := by
  cases x <;> first | rfl | exact absurd rfl (h _)

theorem run_ops_nil {ops : Array Oper} : run M (.ops ops [] :: k) σ = run M k σ := rfl
theorem run_dops_nil {p : List Nat} {j : Nat} {tr : List Tr} : run M (.dops p [] j tr :: k) σ = run M k σ := rfl

def behind (id : Nat) : List Kt → Option (List Kt)
  | [] => none
  | .blk id' :: k => if id = id' then some k else behind id k
  | _ :: k => behind id k

theorem fin_exit {id : Nat} : ∀ {k k' : List Kt}, behind id k = some k' → fin M k (.exit id) σ = run M k' σ
  | [], _, h => by simp [behind] at h
  | .blk id' :: k, k', h => by
    simp only [behind] at h
    split at h
    · rename_i e
      cases h
      subst e
      simp only [fin, if_true]; rfl
    · rename_i e
      simp only [fin, e, if_false]
      exact fin_exit h
  | .at _ :: k, k', h => fin_exit (k := k) (by simpa [behind] using h)
  | .cut _ :: k, k', h => fin_exit (k := k) (by simpa [behind] using h)
  | .ops _ _ :: k, k', h => fin_exit (k := k) (by simpa [behind] using h)
  | .dops _ _ _ _ :: k, k', h => fin_exit (k := k) (by simpa [behind] using h)
  | .lp _ _ :: k, k', h => fin_exit (k := k) (by simpa [behind] using h)
  | .lq _ _ :: k, k', h => fin_exit (k := k) (by simpa [behind] using h)

theorem fin_none {id : Nat} : ∀ {k : List Kt}, behind id k = none → fin M k (.exit id) σ = none
  | [], _ => rfl
  | .blk id' :: k, h => by
    simp only [behind] at h
    split at h
    · cases h
    · rename_i e
      simp only [fin, e, if_false]
      exact fin_none h
  | .at _ :: k, h => fin_none (k := k) (by simpa [behind] using h)
  | .cut _ :: k, h => fin_none (k := k) (by simpa [behind] using h)
  | .ops _ _ :: k, h => fin_none (k := k) (by simpa [behind] using h)
  | .dops _ _ _ _ :: k, h => fin_none (k := k) (by simpa [behind] using h)
  | .lp _ _ :: k, h => fin_none (k := k) (by simpa [behind] using h)
  | .lq _ _ :: k, h => fin_none (k := k) (by simpa [behind] using h)

theorem fin_ret : ∀ {k : List Kt}, fin M k .ret σ = M.out σ
  | [] => rfl
  | .blk _ :: k => fin_ret (k := k)
  | .at _ :: k => fin_ret (k := k)
  | .cut _ :: k => fin_ret (k := k)
  | .ops _ _ :: k => fin_ret (k := k)
  | .dops _ _ _ _ :: k => fin_ret (k := k)
  | .lp _ _ :: k => fin_ret (k := k)
  | .lq _ _ :: k => fin_ret (k := k)

noncomputable def exitK (M : Mach R) (σ : AState) : Option (List Kt) → Option R
  | some k => run M k σ
  | none => none
theorem exitK_some {k' : List Kt} : exitK M σ (some k') = run M k' σ := rfl
theorem exitK_none : exitK M σ none = none := rfl

noncomputable def stepIf (M : Mach R) (c : Operand) (p : List Nat) (k : List Kt) (σ : AState) : AV → Option R
  | .bool b => bif b then run M (.at (0 :: p) :: k) (setB c true σ) else run M (.at (1 :: p) :: k) (setB c false σ)
  | _ => none
theorem stepIf_true {c : Operand} {p : List Nat} : stepIf M c p k σ (.bool true) = run M (.at (0 :: p) :: k) (setB c true σ) := rfl
theorem stepIf_false {c : Operand} {p : List Nat} : stepIf M c p k σ (.bool false) = run M (.at (1 :: p) :: k) (setB c false σ) := rfl
theorem stepIf_sym {c : Operand} {p : List Nat} {b : Bool} : stepIf M c p k σ (.bool b) = bif b then run M (.at (0 :: p) :: k) (setB c true σ) else run M (.at (1 :: p) :: k) (setB c false σ) := rfl

def drawP (M : Mach R) (p : List Nat) : Bool :=
  match sub p M.body with
  | .region _ ops _ => drawOK ops
  | _ => false

noncomputable def stepN (M : Mach R) (p : List Nat) (k : List Kt) (σ : AState) : Code → Option R
  | .skip => run M k σ
  | .region _ ops false => run M (.ops ops ops.toList :: k) σ
  | .region _ ops true => pcond (M.P.follows .mixedOrders = true ∧ drawP M p = true) (run M (.dops p ops.toList 0 [] :: k) σ)
  | .seq _ _ => run M (.at (0 :: p) :: .cut (1 :: p) :: .at (1 :: p) :: k) σ
  | .cond c _ _ => stepIf M c p k σ (σ.ev c)
  | .block id _ => run M (.at (0 :: p) :: .blk id :: k) σ
  | .loop _ => run M (.lp M.n p :: k) σ
  | .exit id => exitK M σ (behind id k)
  | .scope _ => run M (.at (0 :: p) :: k) σ
  | .label _ => run M k σ
  | .ret => M.out σ
  | _ => none

theorem fin_block {id : Nat} {e : AExit} : fin M (.blk id :: k) e σ = match (match e with
    | .exit id' => if id' = id then (AExit.normal, σ) else (.exit id', σ)
    | e => (e, σ)) with
    | (e, σ) => fin M k e σ := by
  cases e with
  | exit id' =>
    simp only [fin]
    split <;> rfl
  | _ => rfl

theorem fin_skip {x : Kt} {e : AExit} (h : ∀ id, x ≠ .blk id) (he : e ≠ .normal) : fin M (x :: k) e σ = fin M k e σ := by
  cases x <;> cases e <;> first | rfl | exact absurd rfl (h _) | exact absurd rfl he

theorem run_at {p : List Nat} : run M (.at p :: k) σ = stepN M p k σ (sub p M.body) := by
  show fin M (.at p :: k) .normal σ = _
  rw [fin_item (by simp)]
  simp only [itemX]
  cases hc : sub p M.body with
  | skip => rfl
  | region id ops b =>
    cases b with
    | false =>
      simp only [exec, stepN]
      show _ = fin M (.ops ops ops.toList :: k) .normal σ
      rw [fin_item (by simp)]
      simp only [itemX]
    | true =>
      simp only [exec, stepN]
      show _ = pcond _ (fin M (.dops p ops.toList 0 [] :: k) .normal σ)
      rw [fin_item (by simp)]
      simp only [itemX]
      have hd : drawP M p = drawOK ops := by simp only [drawP, hc]
      have ho : opsAt M p = ops := by simp only [opsAt, hc, regOps]
      rw [hd, ho]
      by_cases hp : M.P.follows .mixedOrders = true ∧ drawOK ops = true
      · simp only [pcond, if_pos hp]
      · simp only [pcond, if_neg hp]
  | seq x y =>
    simp only [exec, stepN]
    show _ = fin M (.at (0 :: p) :: .cut (1 :: p) :: .at (1 :: p) :: k) .normal σ
    rw [fin_item (by simp)]
    have h0 : sub (0 :: p) M.body = x := by simp [sub, hc, child]
    have h1 : sub (1 :: p) M.body = y := by simp [sub, hc, child]
    simp only [itemX, h0]
    cases hx : exec M x (0 :: p) σ with
    | none => rfl
    | some r =>
      obtain ⟨e1, σ1⟩ := r
      cases e1 with
      | normal =>
        simp only
        rw [fin_item (by simp)]
        simp only [itemX]
        cases hcut : M.cut (1 :: p) σ1 with
        | none => rfl
        | some σ2 =>
          simp only [Option.bind_some, Option.map_some]
          rw [fin_item (by simp)]
          simp only [itemX, h1]
      | _ =>
        simp only
        rw [fin_skip (by simp) (by simp), fin_skip (by simp) (by simp)]
  | cond c x y =>
    simp only [exec, stepN]
    have h0 : sub (0 :: p) M.body = x := by simp [sub, hc, child]
    have h1 : sub (1 :: p) M.body = y := by simp [sub, hc, child]
    cases hv : σ.ev c with
    | bool b =>
      simp only [stepIf]
      cases b with
      | true =>
        simp only [cond_true]
        show _ = fin M (.at (0 :: p) :: k) .normal _
        rw [fin_item (by simp)]
        simp only [itemX, h0]
      | false =>
        simp only [cond_false]
        show _ = fin M (.at (1 :: p) :: k) .normal _
        rw [fin_item (by simp)]
        simp only [itemX, h1]
    | _ => rfl
  | block id x =>
    simp only [exec, stepN]
    have h0 : sub (0 :: p) M.body = x := by simp [sub, hc, child]
    show _ = fin M (.at (0 :: p) :: .blk id :: k) .normal σ
    rw [fin_item (by simp)]
    simp only [itemX, h0]
    cases hx : exec M x (0 :: p) σ with
    | none => rfl
    | some r =>
      obtain ⟨e1, σ1⟩ := r
      simp only
      rw [fin_block]
      cases e1 with
      | exit id' =>
        by_cases he : id' = id
        · simp only [he, if_true]
        · simp only [he, if_false]
      | _ => rfl
  | loop x =>
    simp only [exec, stepN]
    have h0 : sub (0 :: p) M.body = x := by simp [sub, hc, child]
    show _ = fin M (.lp M.n p :: k) .normal σ
    rw [fin_item (by simp)]
    simp only [itemX, h0]
  | exit id =>
    simp only [exec, stepN]
    cases hb : behind id k with
    | none => exact fin_none hb
    | some k' => exact fin_exit hb
  | scope x =>
    simp only [exec, stepN]
    have h0 : sub (0 :: p) M.body = x := by simp [sub, hc, child]
    show _ = fin M (.at (0 :: p) :: k) .normal σ
    rw [fin_item (by simp)]
    simp only [itemX, h0]
  | label l => rfl
  | ret => exact fin_ret
  | goto l => rfl
  | rangeFunc a b c d => rfl
  | refuse s => rfl

theorem stepN_skip {p : List Nat} : stepN M p k σ .skip = run M k σ := rfl
theorem stepN_region {p : List Nat} {id : Nat} {ops : Array Oper} : stepN M p k σ (.region id ops false) = run M (.ops ops ops.toList :: k) σ := rfl
theorem stepN_draw {p : List Nat} {id : Nat} {ops : Array Oper} : stepN M p k σ (.region id ops true) = pcond (M.P.follows .mixedOrders = true) (pcond (drawP M p = true) (run M (.dops p ops.toList 0 [] :: k) σ)) := by
  rw [← pcond_and]; rfl
theorem stepN_seq {p : List Nat} {x y : Code} : stepN M p k σ (.seq x y) = run M (.at (0 :: p) :: .cut (1 :: p) :: .at (1 :: p) :: k) σ := rfl
theorem stepN_cond {p : List Nat} {c : Operand} {x y : Code} : stepN M p k σ (.cond c x y) = stepIf M c p k σ (σ.ev c) := rfl
theorem stepN_block {p : List Nat} {id : Nat} {x : Code} : stepN M p k σ (.block id x) = run M (.at (0 :: p) :: .blk id :: k) σ := rfl
theorem stepN_loop {p : List Nat} {x : Code} : stepN M p k σ (.loop x) = run M (.lp M.n p :: k) σ := rfl
theorem stepN_exit {p : List Nat} {id : Nat} : stepN M p k σ (.exit id) = exitK M σ (behind id k) := rfl
theorem stepN_scope {p : List Nat} {x : Code} : stepN M p k σ (.scope x) = run M (.at (0 :: p) :: k) σ := rfl
theorem stepN_label {p : List Nat} {l : Nat} : stepN M p k σ (.label l) = run M k σ := rfl
theorem stepN_ret {p : List Nat} : stepN M p k σ .ret = M.out σ := rfl

theorem run_cut {p : List Nat} : run M (.cut p :: k) σ = (M.cut p σ).bind fun σ' => run M k σ' := by
  show fin M (.cut p :: k) .normal σ = _
  rw [fin_item (by simp)]
  simp only [itemX]
  cases M.cut p σ <;> rfl
theorem run_lp {m : Nat} {p : List Nat} : run M (.lp m p :: k) σ = (M.nrm p σ).bind fun σ' => run M (.lq m p :: k) σ' := by
  show fin M (.lp m p :: k) .normal σ = _
  rw [fin_item (by simp)]
  simp only [itemX]
  cases h : M.nrm p σ with
  | none => rfl
  | some σ' =>
    simp only [Option.bind_some]
    show _ = fin M (.lq m p :: k) .normal σ'
    rw [fin_item (by simp)]
    simp only [itemX]
theorem run_lq_zero {p : List Nat} : run M (.lq 0 p :: k) σ = none := by
  show fin M (.lq 0 p :: k) .normal σ = _
  rw [fin_item (by simp)]
  simp only [itemX, lqN]
theorem run_lq_succ {m : Nat} {p : List Nat} : run M (.lq (m + 1) p :: k) σ = run M (.at (0 :: p) :: .lp m p :: k) σ := by
  show fin M (.lq (m + 1) p :: k) .normal σ = fin M (.at (0 :: p) :: .lp m p :: k) .normal σ
  rw [fin_item (by simp), fin_item (by simp)]
  simp only [itemX, lqN]
  cases hx : exec M (sub (0 :: p) M.body) (0 :: p) σ with
  | none => rfl
  | some r =>
    obtain ⟨e1, σ1⟩ := r
    cases e1 with
    | normal =>
      simp only
      rw [fin_item (by simp)]
      simp only [itemX]
    | _ =>
      simp only
      rw [fin_skip (by simp) (by simp)]

-- operations
noncomputable def stepE (M : Mach R) (ops : Array Oper) (dst : Option Tmp) (rest : List Oper) (k : List Kt) (σ : AState) : Option Eff → Option R
  | some e => pcond e.pre (run M (.ops ops rest :: k) (σ.app dst e))
  | none => none
noncomputable def stepA (M : Mach R) (ops : Array Oper) (dst : Option Tmp) (rest : List Oper) (k : List Kt) (σ : AState) : Option (AV × List AObj) → Option R
  | some (r, H') => run M (.ops ops rest :: k) (AState.put { σ with heap := H' } dst r)
  | none => none
noncomputable def stepC (M : Mach R) (ops : Array Oper) (o : Oper) (rest : List Oper) (k : List Kt) (σ : AState) : Option (FuncId × List AV) → Option R
  | some (f, args) => stepA M ops o.dst rest k σ (M.cl f args σ.heap)
  | none => stepE M ops o.dst rest k σ (opEff M.P σ o.op)
noncomputable def stepW (M : Mach R) (ops : Array Oper) (o : Oper) (rest : List Oper) (k : List Kt) (σ : AState) : Option Bool → Option R
  | none => none
  | some b => bif b then stepC M ops o rest k (gset ops o true σ) (calleeOf (gset ops o true σ) o.op) else run M (.ops ops rest :: k) ((gset ops o false σ).put o.dst (.raw undef))

theorem run_ops {ops : Array Oper} {o : Oper} {rest : List Oper} : run M (.ops ops (o :: rest) :: k) σ = stepW M ops o rest k σ (wantedA ops o σ) := by
  have hr : ∀ σ, run M (.ops ops rest :: k) σ = match execOps M ops rest σ with | some σ' => fin M k .normal σ' | none => none := by
    intro σ
    show fin M (.ops ops rest :: k) .normal σ = _
    rw [fin_item (by simp)]
    simp only [itemX]
    cases execOps M ops rest σ <;> rfl
  have hl : run M (.ops ops (o :: rest) :: k) σ = match execOps M ops (o :: rest) σ with | some σ' => fin M k .normal σ' | none => none := by
    show fin M (.ops ops (o :: rest) :: k) .normal σ = _
    rw [fin_item (by simp)]
    simp only [itemX]
    cases execOps M ops (o :: rest) σ <;> rfl
  rw [hl]
  simp only [execOps]
  cases hw : wantedA ops o σ with
  | none => rfl
  | some b =>
    simp only [stepW]
    cases b with
    | false => simp only [cond_false, hr]
    | true =>
      simp only [cond_true]
      cases hc : calleeOf (gset ops o true σ) o.op with
      | some q =>
        obtain ⟨f, args⟩ := q
        simp only [stepC]
        cases ha : M.cl f args (gset ops o true σ).heap with
        | none => simp only [stepA]
        | some q => obtain ⟨r, H'⟩ := q; simp only [stepA, hr]
      | none =>
        simp only [stepC]
        cases he : opEff M.P (gset ops o true σ) o.op with
        | none => simp only [stepE]
        | some e =>
          simp only [stepE, hr]
          by_cases hp : e.pre
          · simp only [pcond, if_pos hp]
          · simp only [pcond, if_neg hp]

theorem stepW_true {ops : Array Oper} {o : Oper} {rest : List Oper} : stepW M ops o rest k σ (some true) = stepC M ops o rest k (gset ops o true σ) (calleeOf (gset ops o true σ) o.op) := rfl
theorem stepW_false {ops : Array Oper} {o : Oper} {rest : List Oper} : stepW M ops o rest k σ (some false) = run M (.ops ops rest :: k) ((gset ops o false σ).put o.dst (.raw undef)) := rfl
theorem stepW_sym {ops : Array Oper} {o : Oper} {rest : List Oper} {b : Bool} : stepW M ops o rest k σ (some b) = bif b then stepC M ops o rest k (gset ops o true σ) (calleeOf (gset ops o true σ) o.op) else run M (.ops ops rest :: k) ((gset ops o false σ).put o.dst (.raw undef)) := rfl
theorem stepC_some {ops : Array Oper} {o : Oper} {rest : List Oper} {f : FuncId} {args : List AV} : stepC M ops o rest k σ (some (f, args)) = stepA M ops o.dst rest k σ (M.cl f args σ.heap) := rfl
theorem stepC_none {ops : Array Oper} {o : Oper} {rest : List Oper} : stepC M ops o rest k σ none = stepE M ops o.dst rest k σ (opEff M.P σ o.op) := rfl
theorem stepE_none {ops : Array Oper} {dst : Option Tmp} {rest : List Oper} : stepE M ops dst rest k σ none = none := rfl
theorem stepE_some {ops : Array Oper} {dst : Option Tmp} {rest : List Oper} {x : AV} {rd : List Nat} {up : List (Nat × AObj)} {nw : List AObj} {p : Prop} :
    stepE M ops dst rest k σ (some { val := x, rd, up, nw, pre := p }) = pcond p (run M (.ops ops rest :: k) { σ.put dst x with heap := applyUps σ.heap up ++ nw }) := rfl
theorem stepE_bind {ops : Array Oper} {dst : Option Tmp} {rest : List Oper} {α : Type} {o : Option α} {f : α → Option Eff} : stepE M ops dst rest k σ (o.bind f) = o.bind fun x => stepE M ops dst rest k σ (f x) := by
  cases o <;> rfl
theorem stepE_ite {ops : Array Oper} {dst : Option Tmp} {rest : List Oper} {p : Prop} [Decidable p] {a b : Option Eff} : stepE M ops dst rest k σ (if p then a else b) = bif decide p then stepE M ops dst rest k σ a else stepE M ops dst rest k σ b := by
  by_cases h : p <;> simp [h]
theorem stepA_some {ops : Array Oper} {dst : Option Tmp} {rest : List Oper} {r : AV} {H' : List AObj} : stepA M ops dst rest k σ (some (r, H')) = run M (.ops ops rest :: k) (AState.put { σ with heap := H' } dst r) := rfl
theorem stepA_none {ops : Array Oper} {dst : Option Tmp} {rest : List Oper} : stepA M ops dst rest k σ none = none := rfl
theorem stepA_bind {ops : Array Oper} {dst : Option Tmp} {rest : List Oper} {α : Type} {o : Option α} {f : α → Option (AV × List AObj)} : stepA M ops dst rest k σ (o.bind f) = o.bind fun x => stepA M ops dst rest k σ (f x) := by
  cases o <;> rfl

def compatP (M : Mach R) (p : List Nat) (tr : List Tr) (j : Nat) (e : Eff) : Prop := compatC (opsAt M p) tr j e
def ordP (M : Mach R) (p : List Nat) (i j : Nat) : Bool := ordB (opsAt M p) i j
theorem compatP_eq {p : List Nat} {tr : List Tr} {j : Nat} {e : Eff} : compatP M p tr j e = (e.idle = true ∨ (tr.all fun t => indepB t e || ordP M p t.j j) = true) := rfl

noncomputable def stepDE (M : Mach R) (p : List Nat) (dst : Option Tmp) (rest : List Oper) (j : Nat) (tr : List Tr) (k : List Kt) (σ : AState) : Option Eff → Option R
  | some e => pcond (e.pre ∧ compatP M p tr j e) (run M (.dops p rest (j + 1) (pushTr tr j σ.heap.length e) :: k) (σ.app dst e))
  | none => none
noncomputable def stepDA (M : Mach R) (p : List Nat) (dst : Option Tmp) (rest : List Oper) (j : Nat) (tr : List Tr) (k : List Kt) (σ : AState) : Option AV → Option R
  | some r => run M (.dops p rest (j + 1) tr :: k) (σ.put dst r)
  | none => none
noncomputable def stepDC (M : Mach R) (p : List Nat) (o : Oper) (rest : List Oper) (j : Nat) (tr : List Tr) (k : List Kt) (σ : AState) : Option (FuncId × List AV) → Option R
  | some (f, args) => stepDA M p o.dst rest j tr k σ (M.cd f args)
  | none => stepDE M p o.dst rest j tr k σ (opEff M.P σ o.op)
noncomputable def stepDW (M : Mach R) (p : List Nat) (o : Oper) (rest : List Oper) (j : Nat) (tr : List Tr) (k : List Kt) (σ : AState) : Option Bool → Option R
  | none => none
  | some b => bif b then stepDC M p o rest j tr k (gset (opsAt M p) o true σ) (calleeOf (gset (opsAt M p) o true σ) o.op) else run M (.dops p rest (j + 1) tr :: k) ((gset (opsAt M p) o false σ).put o.dst (.raw undef))

theorem run_dops {p : List Nat} {o : Oper} {rest : List Oper} {j : Nat} {tr : List Tr} : run M (.dops p (o :: rest) j tr :: k) σ = stepDW M p o rest j tr k σ (wantedA (opsAt M p) o σ) := by
  have hr : ∀ j tr σ, run M (.dops p rest j tr :: k) σ = match execD M (opsAt M p) rest j tr σ with | some σ' => fin M k .normal σ' | none => none := by
    intro j tr σ
    show fin M (.dops p rest j tr :: k) .normal σ = _
    rw [fin_item (by simp)]
    simp only [itemX]
    cases execD M (opsAt M p) rest j tr σ <;> rfl
  have hl : run M (.dops p (o :: rest) j tr :: k) σ = match execD M (opsAt M p) (o :: rest) j tr σ with | some σ' => fin M k .normal σ' | none => none := by
    show fin M (.dops p (o :: rest) j tr :: k) .normal σ = _
    rw [fin_item (by simp)]
    simp only [itemX]
    cases execD M (opsAt M p) (o :: rest) j tr σ <;> rfl
  rw [hl]
  simp only [execD]
  cases hw : wantedA (opsAt M p) o σ with
  | none => rfl
  | some b =>
    simp only [stepDW]
    cases b with
    | false => simp only [cond_false, hr]
    | true =>
      simp only [cond_true]
      cases hc : calleeOf (gset (opsAt M p) o true σ) o.op with
      | some q =>
        obtain ⟨f, args⟩ := q
        simp only [stepDC]
        cases ha : M.cd f args with
        | none => simp only [stepDA]
        | some r => simp only [stepDA, hr]
      | none =>
        simp only [stepDC]
        cases he : opEff M.P (gset (opsAt M p) o true σ) o.op with
        | none => simp only [stepDE]
        | some e =>
          simp only [stepDE, hr]
          have hpe : (e.pre ∧ compatP M p tr j e) = (e.pre ∧ compatC (opsAt M p) tr j e) := rfl
          rw [hpe]
          by_cases hp : e.pre ∧ compatC (opsAt M p) tr j e
          · simp only [pcond, if_pos hp]
          · simp only [pcond, if_neg hp]

theorem stepDW_true {p : List Nat} {o : Oper} {rest : List Oper} {j : Nat} {tr : List Tr} : stepDW M p o rest j tr k σ (some true) = stepDC M p o rest j tr k (gset (opsAt M p) o true σ) (calleeOf (gset (opsAt M p) o true σ) o.op) := rfl
theorem stepDW_false {p : List Nat} {o : Oper} {rest : List Oper} {j : Nat} {tr : List Tr} : stepDW M p o rest j tr k σ (some false) = run M (.dops p rest (j + 1) tr :: k) ((gset (opsAt M p) o false σ).put o.dst (.raw undef)) := rfl
theorem stepDW_sym {p : List Nat} {o : Oper} {rest : List Oper} {j : Nat} {tr : List Tr} {b : Bool} : stepDW M p o rest j tr k σ (some b) = bif b then stepDC M p o rest j tr k (gset (opsAt M p) o true σ) (calleeOf (gset (opsAt M p) o true σ) o.op) else run M (.dops p rest (j + 1) tr :: k) ((gset (opsAt M p) o false σ).put o.dst (.raw undef)) := rfl
theorem stepDC_some {p : List Nat} {o : Oper} {rest : List Oper} {j : Nat} {tr : List Tr} {f : FuncId} {args : List AV} : stepDC M p o rest j tr k σ (some (f, args)) = stepDA M p o.dst rest j tr k σ (M.cd f args) := rfl
theorem stepDC_none {p : List Nat} {o : Oper} {rest : List Oper} {j : Nat} {tr : List Tr} : stepDC M p o rest j tr k σ none = stepDE M p o.dst rest j tr k σ (opEff M.P σ o.op) := rfl
theorem stepDE_none {p : List Nat} {dst : Option Tmp} {rest : List Oper} {j : Nat} {tr : List Tr} : stepDE M p dst rest j tr k σ none = none := rfl
theorem stepDE_idle {p : List Nat} {dst : Option Tmp} {rest : List Oper} {j : Nat} {tr : List Tr} {x : AV} {pr : Prop} :
    stepDE M p dst rest j tr k σ (some { val := x, rd := [], up := [], nw := [], pre := pr }) = pcond pr (run M (.dops p rest (j + 1) tr :: k) (σ.put dst x)) := by
  simp only [stepDE, compatP, compatC, Eff.idle, pushTr, List.isEmpty_nil, Bool.and_true, true_or, and_true, cond_true]
  rw [app_val]
theorem stepDE_some {p : List Nat} {dst : Option Tmp} {rest : List Oper} {j : Nat} {tr : List Tr} {x : AV} {rd : List Nat} {up : List (Nat × AObj)} {nw : List AObj} {pr : Prop} :
    stepDE M p dst rest j tr k σ (some { val := x, rd, up, nw, pre := pr }) = pcond pr (pcond (compatP M p tr j { val := x, rd, up, nw, pre := pr }) (run M (.dops p rest (j + 1) (pushTr tr j σ.heap.length { val := x, rd, up, nw, pre := pr }) :: k) { σ.put dst x with heap := applyUps σ.heap up ++ nw })) := by
  rw [← pcond_and]; rfl
theorem stepDE_bind {p : List Nat} {dst : Option Tmp} {rest : List Oper} {j : Nat} {tr : List Tr} {α : Type} {o : Option α} {f : α → Option Eff} : stepDE M p dst rest j tr k σ (o.bind f) = o.bind fun x => stepDE M p dst rest j tr k σ (f x) := by
  cases o <;> rfl
theorem stepDE_ite {p : List Nat} {dst : Option Tmp} {rest : List Oper} {j : Nat} {tr : List Tr} {pr : Prop} [Decidable pr] {a b : Option Eff} : stepDE M p dst rest j tr k σ (if pr then a else b) = bif decide pr then stepDE M p dst rest j tr k σ a else stepDE M p dst rest j tr k σ b := by
  by_cases h : pr <;> simp [h]
theorem stepDA_some {p : List Nat} {dst : Option Tmp} {rest : List Oper} {j : Nat} {tr : List Tr} {r : AV} : stepDA M p dst rest j tr k σ (some r) = run M (.dops p rest (j + 1) tr :: k) (σ.put dst r) := rfl
theorem stepDA_none {p : List Nat} {dst : Option Tmp} {rest : List Oper} {j : Nat} {tr : List Tr} : stepDA M p dst rest j tr k σ none = none := rfl
theorem stepDA_bind {p : List Nat} {dst : Option Tmp} {rest : List Oper} {j : Nat} {tr : List Tr} {α : Type} {o : Option α} {f : α → Option AV} : stepDA M p dst rest j tr k σ (o.bind f) = o.bind fun x => stepDA M p dst rest j tr k σ (f x) := by
  cases o <;> rfl

theorem run_sound (G : Good M) {r : R} {Q : AExit → AState → Prop} (h : run M [.at []] σ = some r) (hQ : ∀ σ', M.out σ' = some r → Q .normal σ' ∧ Q .ret σ') : awp M.P M.body Q σ := by
  have h' : fin M [.at []] .normal σ = some r := h
  rw [fin_item (by simp)] at h'
  simp only [itemX, sub] at h'
  cases hx : exec M M.body [] σ with
  | none => simp only [hx] at h'; cases h'
  | some q =>
    obtain ⟨e, σ'⟩ := q
    simp only [hx] at h'
    refine exec_sound G _ [] Q σ e σ' hx ?_
    cases e with
    | normal => exact (hQ σ' h').1
    | ret => exact (hQ σ' h').2
    | _ => simp only [fin] at h'; cases h'

theorem fnC_run {f : FuncId} {fn : Func} {args : List AV} {V : AV → Prop} {r : R} {n : Nat} {rs : List ResultVar} (G : Good M) (hf : M.P.funcs[f]? = some fn) (hb : fn.body = some M.body) (hne : (fn.name != "runtime.NumGoroutine") = true) (hnb : nbL 0 args)
    (hn : fn.ntmps = n) (hrs : fn.results = rs.toArray) (hout : ∀ σ, M.out σ = some r → endV V σ.heap (resAV M.P σ rs))
    (h : run M [.at []] { slots := args ++ List.replicate (n - args.length) .any, heap := [] } = some r) : FnC M.P f args V := by
  refine fnC_of_body hf hb hne hnb ?_
  rw [hrs, hn]
  refine run_sound G h fun σ' hs => ?_
  have := hout σ' hs
  exact ⟨this, this⟩
end
end Go.Abs
namespace Go.Abs

section lists
variable {α β γ : Type}

def mapO (f : β → Option α) : List β → Option (List α)
  | [] => some []
  | x :: xs => (f x).bind fun y => (mapO f xs).bind fun ys => some (y :: ys)

theorem mapO_nil (f : β → Option α) : mapO f [] = some [] := rfl
theorem mapO_cons (f : β → Option α) (x : β) (xs : List β) : mapO f (x :: xs) = (f x).bind fun y => (mapO f xs).bind fun ys => some (y :: ys) := rfl
theorem mapO_append (f : β → Option α) : ∀ a b : List β, mapO f (a ++ b) = (mapO f a).bind fun x => (mapO f b).bind fun y => some (x ++ y)
  | [], b => by cases h : mapO f b <;> simp [mapO, h]
  | x :: a, b => by
    simp only [List.cons_append, mapO, mapO_append f a b]
    cases f x <;> simp
    cases mapO f a <;> simp
    cases mapO f b <;> simp
theorem mapO_map {f : β → Option α} {g : α → β} (h : ∀ x, f (g x) = some x) : ∀ xs : List α, mapO f (xs.map g) = some xs
  | [] => rfl
  | x :: xs => by simp [mapO, h x, mapO_map h xs]

def mp (f : α → β) (xs : List α) : List β := xs.map f
theorem mp_eq (f : α → β) (xs : List α) : mp f xs = xs.map f := rfl
attribute [irreducible] mp
theorem mp_length (f : α → β) (xs : List α) : (mp f xs).length = xs.length := by rw [mp_eq, List.length_map]
theorem mp_take (f : α → β) (xs : List α) (n : Nat) : (mp f xs).take n = mp f (xs.take n) := by rw [mp_eq, mp_eq, List.map_take]
theorem mp_drop (f : α → β) (xs : List α) (n : Nat) : (mp f xs).drop n = mp f (xs.drop n) := by rw [mp_eq, mp_eq, List.map_drop]
theorem mp_isEmpty (f : α → β) (xs : List α) : (mp f xs).isEmpty = xs.isEmpty := by rw [mp_eq]; cases xs <;> rfl
theorem mapO_mp {f : β → Option α} {g : α → β} (h : ∀ x, f (g x) = some x) (xs : List α) : mapO f (mp g xs) = some xs := by rw [mp_eq]; exact mapO_map h xs

theorem bind_map' {f : α → β} {g : β → Option γ} {o : Option α} : (Option.map f o).bind g = o.bind fun x => g (f x) := by cases o <;> rfl
theorem bind_bind' {f : α → Option β} {g : β → Option γ} {o : Option α} : (o.bind f).bind g = o.bind fun x => (f x).bind g := by cases o <;> rfl
theorem bind_cond {f : α → Option β} {b : Bool} {x y : Option α} : (bif b then x else y).bind f = bif b then x.bind f else y.bind f := by cases b <;> rfl
theorem bind_none' {f : α → Option β} : (none : Option α).bind f = none := rfl
theorem bind_some' {f : α → Option β} {x : α} : (some x).bind f = f x := rfl

def idxA (xs : List α) (n : Int) : Option α := if 0 ≤ n then xs[n.toNat]? else none
theorem idxA_mp {f : α → β} {xs : List α} {n : Int} : idxA (mp f xs) n = Option.map f (idxA xs n) := by
  rw [mp_eq]; unfold idxA; split <;> simp
theorem idxA_zero {x : α} {xs : List α} : idxA (x :: xs) 0 = some x := rfl
theorem idxA_one {x y : α} {xs : List α} : idxA (x :: y :: xs) 1 = some y := rfl
theorem idxA_two {x y z : α} {xs : List α} : idxA (x :: y :: z :: xs) 2 = some z := rfl
end lists

def SubE : List AV → List AV → Prop
  | [], ys => ys = []
  | x :: xs, ys => ∃ y zs, ys = y :: zs ∧ Sub x y ∧ SubE xs zs
theorem SubE.nil : SubE [] [] := rfl
theorem SubE.cons {x y : AV} {xs ys : List AV} (h : Sub x y) (hs : SubE xs ys) : SubE (x :: xs) (y :: ys) := ⟨y, ys, rfl, h, hs⟩
theorem SubE.subL : ∀ {xs ys : List AV}, SubE xs ys → SubL xs ys
  | [], _, rfl => SubL.nil
  | _ :: _, _, ⟨_, _, rfl, h, hs⟩ => SubL.cons h (SubE.subL hs)
theorem SubE.subM : ∀ {xs ys : List AV}, SubE xs ys → SubM xs ys
  | [], _, rfl => SubM.nil
  | _ :: _, _, ⟨_, _, rfl, h, hs⟩ => SubM.cons h (SubE.subM hs)
theorem SubE.length : ∀ {xs ys : List AV}, SubE xs ys → xs.length = ys.length
  | [], _, rfl => rfl
  | _ :: _, _, ⟨_, _, rfl, _, hs⟩ => by simp [SubE.length hs]
theorem SubE.append : ∀ {xs ys us vs : List AV}, SubE xs ys → SubE us vs → SubE (xs ++ us) (ys ++ vs)
  | [], _, _, _, rfl, h => h
  | _ :: _, _, _, _, ⟨y, zs, rfl, h, hs⟩, h2 => ⟨y, zs ++ _, rfl, h, SubE.append hs h2⟩
theorem CoL1.nil {H : List AObj} {n : Nat} : CoL1 H n [] [] := rfl
theorem CoL1.cons {H : List AObj} {n : Nat} {x y : AV} {xs ys : List AV} (h : Co1 H n x y) (hs : CoL1 H n xs ys) : CoL1 H n (x :: xs) (y :: ys) := ⟨y, ys, rfl, h, hs⟩
theorem CoL1.append {H : List AObj} {n : Nat} : ∀ {xs ys us vs : List AV}, CoL1 H n xs ys → CoL1 H n us vs → CoL1 H n (xs ++ us) (ys ++ vs)
  | [], _, _, _, rfl, h => h
  | _ :: _, _, _, _, ⟨y, zs, rfl, h, hs⟩, h2 => ⟨y, zs ++ _, rfl, h, CoL1.append hs h2⟩
theorem Co1.toSub {n : Nat} {x y : AV} (h : Co1 [] n x y) : Sub x y := by
  rcases h with h | ⟨l, m, sz, rows, _, hl, _⟩
  · exact h.1
  · simp at hl
theorem CoL1.toSub {n : Nat} : ∀ {xs ys : List AV}, CoL1 [] n xs ys → SubE xs ys
  | [], _, rfl => rfl
  | _ :: _, _, ⟨y, zs, rfl, h, hs⟩ => ⟨y, zs, rfl, h.toSub, CoL1.toSub hs⟩
theorem Co.toSub {n : Nat} {x y : AV} (h : Co [] n x y) : Sub x y := by
  rcases h with h | ⟨cs, ds, rfl, rfl, h⟩
  · exact h.toSub
  · exact Sub.agg h.toSub.subL
theorem CoL1.toCoL {H : List AObj} {n : Nat} : ∀ {xs ys : List AV}, CoL1 H n xs ys → CoL H n xs ys
  | [], _, rfl => rfl
  | _ :: _, _, ⟨y, zs, rfl, h, hs⟩ => ⟨y, zs, rfl, .inl h, CoL1.toCoL hs⟩

structure Row (α : Type) where
  enc : α → List AV
  dec : List AV → Option α
  sz : Nat
  ok : ∀ r x, dec r = some x → SubE r (enc x)
  nb : ∀ n x, nbL n (enc x)

structure Ty (α : Type) where
  enc : α → AV
  dec : List AObj → AV → Option α
  ok : ∀ H n v x, dec H v = some x → Co H n v (enc x)
  nb : ∀ n x, (enc x).nb n

section rows
variable {α : Type}

def szOK (sz k : Nat) (rows : List (List AV)) : Bool := sz == k || rows.isEmpty

def dL (r : Row α) (H : List AObj) : AV → Option (List α)
  | .lst _ sz rows => bif szOK sz r.sz rows then mapO r.dec rows else none
  | .acc l n => match H[l]? with
    | some (.acc true sz rows) => bif (rows.length == n) && szOK sz r.sz rows then mapO r.dec rows else none
    | _ => none
  | _ => none

theorem mapO_rows {r : Row α} : ∀ {rows : List (List AV)} {xs : List α}, mapO r.dec rows = some xs → SubR rows (mp r.enc xs) ∧ RowsSub rows (mp r.enc xs)
  | [], xs, h => by
    simp only [mapO, Option.some.injEq] at h
    subst h
    rw [mp_eq]
    exact ⟨SubR.nil, rfl⟩
  | c :: rows, xs, h => by
    simp only [mapO, Option.bind_eq_some_iff, Option.some.injEq] at h
    obtain ⟨y, hy, ys, hys, rfl⟩ := h
    obtain ⟨h1, h2⟩ := mapO_rows hys
    have h3 := r.ok _ _ hy
    rw [mp_eq] at h1 h2 ⊢
    exact ⟨SubR.cons h3.subM h1, _, _, rfl, ⟨h3.length, h3.subL⟩, h2⟩

theorem nbR_rows {r : Row α} {n : Nat} : ∀ xs : List α, nbR n (mp r.enc xs)
  | [] => by rw [mp_eq]; trivial
  | x :: xs => by have := nbR_rows (r := r) (n := n) xs; rw [mp_eq] at this ⊢; exact ⟨r.nb n x, this⟩

theorem sub_lst_sz {t : Bool} {sz k : Nat} {rows rows' : List (List AV)} (h : szOK sz k rows = true) (hs : SubR rows rows') : Sub (.lst t sz rows) (.lst false k rows') := by
  unfold szOK at h
  simp only [Bool.or_eq_true, beq_iff_eq, List.isEmpty_iff] at h
  rcases h with rfl | rfl
  · exact Sub.lst hs
  · have : rows' = [] := List.eq_nil_of_length_eq_zero hs.1.symm
    subst this
    exact Sub.empty _ _ _

theorem dL_ok {r : Row α} {H : List AObj} {n : Nat} {v : AV} {xs : List α} (h : dL r H v = some xs) : Co1 H n v (.lst false r.sz (mp r.enc xs)) := by
  unfold dL at h
  split at h
  · rename_i t sz rows
    cases hs : szOK sz r.sz rows with
    | false => simp [hs] at h
    | true =>
      simp only [hs, cond_true] at h
      exact .inl ⟨sub_lst_sz hs (mapO_rows h).1, nbR_rows xs⟩
  · rename_i l m
    split at h
    · rename_i sz rows hl
      cases hs : szOK sz r.sz rows with
      | false => simp [hs] at h
      | true =>
        cases hm : (rows.length == m) with
        | false => simp [hm] at h
        | true =>
          simp only [hs, hm, Bool.and_self, cond_true] at h
          exact .inr ⟨l, m, sz, rows, rfl, hl, by simpa using hm, sub_lst_sz hs (mapO_rows h).1, nbR_rows xs⟩
    · cases h
  · cases h

def tyL (r : Row α) : Ty (List α) where
  enc xs := .lst false r.sz (mp r.enc xs)
  dec := dL r
  ok _ _ _ _ h := .inl (dL_ok h)
  nb _ xs := nbR_rows xs
theorem tyL_enc {r : Row α} {xs : List α} : (tyL r).enc xs = .lst false r.sz (mp r.enc xs) := rfl
theorem tyL_dec {r : Row α} {H : List AObj} {v : AV} : (tyL r).dec H v = dL r H v := rfl
end rows

def sb (s : List UInt8) : ByteArray := ⟨s.toArray⟩
abbrev Str := List UInt8

def dI (k : IntKind) : AV → Option Int
  | .int k' n => if k' = k then some n else none
  | _ => none
def dB : AV → Option Bool
  | .bool b => some b
  | _ => none
def dS : AV → Option Str
  | .str b => some b.data.toList
  | _ => none
theorem dI_ok {k : IntKind} {H : List AObj} {n : Nat} {v : AV} {x : Int} (h : dI k v = some x) : Co1 H n v (.int k x) := by
  unfold dI at h
  split at h
  · split at h
    · cases h; rename_i e; subst e; exact Co1.sub (Sub.refl _) trivial
    · cases h
  · cases h
theorem dB_ok {H : List AObj} {n : Nat} {v : AV} {x : Bool} (h : dB v = some x) : Co1 H n v (.bool x) := by
  unfold dB at h
  split at h
  · cases h; exact Co1.sub (Sub.refl _) trivial
  · cases h
theorem sb_data (b : ByteArray) : sb b.data.toList = b := by
  cases b; rfl
theorem dS_ok {H : List AObj} {n : Nat} {v : AV} {x : Str} (h : dS v = some x) : Co1 H n v (.str (sb x)) := by
  unfold dS at h
  split at h
  · cases h; rw [sb_data]; exact Co1.sub (Sub.refl _) trivial
  · cases h
theorem dS_sb (s : Str) : dS (.str (sb s)) = some s := rfl
theorem dI_int (k : IntKind) (n : Int) : dI k (.int k n) = some n := by simp [dI]
theorem dB_bool (b : Bool) : dB (.bool b) = some b := rfl
theorem dS_empty : dS (.str ByteArray.empty) = some [] := rfl
theorem dS_emptyL : dS (.str ⟨#[]⟩) = some [] := rfl

def tyI (k : IntKind) : Ty Int := ⟨.int k, fun _ => dI k, fun _ _ _ _ h => .inl (dI_ok h), fun _ _ => trivial⟩
def tyB : Ty Bool := ⟨.bool, fun _ => dB, fun _ _ _ _ h => .inl (dB_ok h), fun _ _ => trivial⟩
def tyS : Ty Str := ⟨fun s => .str (sb s), fun _ => dS, fun _ _ _ _ h => .inl (dS_ok h), fun _ _ => trivial⟩
theorem tyI_enc {k : IntKind} {x : Int} : (tyI k).enc x = .int k x := rfl
theorem tyI_dec {k : IntKind} {H : List AObj} {v : AV} : (tyI k).dec H v = dI k v := rfl
theorem tyB_enc {x : Bool} : tyB.enc x = .bool x := rfl
theorem tyB_dec {H : List AObj} {v : AV} : tyB.dec H v = dB v := rfl
theorem tyS_enc {x : Str} : tyS.enc x = .str (sb x) := rfl
theorem tyS_dec {H : List AObj} {v : AV} : tyS.dec H v = dS v := rfl

def dF (f : FuncId) : AV → Option Unit
  | .func (.func g) [] [] => if g = f then some () else none
  | _ => none
theorem dF_lit (f : FuncId) : dF f (.func (.func f) [] []) = some () := by simp [dF]
def tyF (f : FuncId) : Ty Unit where
  enc _ := .func (.func f) [] []
  dec _ := dF f
  ok H n v x h := by
    unfold dF at h
    split at h
    · split at h
      · rename_i e; subst e; exact Co.same ⟨trivial, trivial⟩
      · cases h
    · cases h
  nb _ _ := ⟨trivial, trivial⟩
theorem tyF_enc {f : FuncId} {x : Unit} : (tyF f).enc x = .func (.func f) [] [] := rfl
theorem tyF_dec {f : FuncId} {H : List AObj} {v : AV} : (tyF f).dec H v = dF f v := rfl

def row1 {α : Type} (e : α → AV) (d : AV → Option α) (h : ∀ v x, d v = some x → Sub v (e x)) (hn : ∀ n x, (e x).nb n) : Row α where
  enc x := [e x]
  dec
    | [c] => d c
    | _ => none
  sz := 1
  ok r x hr := by
    split at hr
    · exact SubE.cons (h _ _ hr) SubE.nil
    · cases hr
  nb n x := ⟨hn n x, trivial⟩

def icell (n : Int) : List AV := [.int .i64 n]
def scell (s : Str) : List AV := [.str (sb s)]
def bcell (b : Bool) : List AV := [.bool b]
def ucell (n : Int) : List AV := [.int .u8 n]
def dI1 (k : IntKind) : List AV → Option Int
  | [c] => dI k c
  | _ => none
def dB1 : List AV → Option Bool
  | [c] => dB c
  | _ => none
def dS1 : List AV → Option Str
  | [c] => dS c
  | _ => none
def rowI : Row Int where
  enc := icell
  dec := dI1 .i64
  sz := 1
  ok r x h := by
    unfold dI1 at h
    split at h
    · exact SubE.cons (dI_ok (H := []) (n := 0) h).toSub SubE.nil
    · cases h
  nb _ _ := ⟨trivial, trivial⟩
def rowU : Row Int where
  enc := ucell
  dec := dI1 .u8
  sz := 1
  ok r x h := by
    unfold dI1 at h
    split at h
    · exact SubE.cons (dI_ok (H := []) (n := 0) h).toSub SubE.nil
    · cases h
  nb _ _ := ⟨trivial, trivial⟩
def rowB : Row Bool where
  enc := bcell
  dec := dB1
  sz := 1
  ok r x h := by
    unfold dB1 at h
    split at h
    · exact SubE.cons (dB_ok (H := []) (n := 0) h).toSub SubE.nil
    · cases h
  nb _ _ := ⟨trivial, trivial⟩
def rowS : Row Str where
  enc := scell
  dec := dS1
  sz := 1
  ok r x h := by
    unfold dS1 at h
    split at h
    · exact SubE.cons (dS_ok (H := []) (n := 0) h).toSub SubE.nil
    · cases h
  nb _ _ := ⟨trivial, trivial⟩
theorem rowI_f : rowI.enc = icell ∧ rowI.dec = dI1 .i64 ∧ rowI.sz = 1 := ⟨rfl, rfl, rfl⟩
theorem rowU_f : rowU.enc = ucell ∧ rowU.dec = dI1 .u8 ∧ rowU.sz = 1 := ⟨rfl, rfl, rfl⟩
theorem rowB_f : rowB.enc = bcell ∧ rowB.dec = dB1 ∧ rowB.sz = 1 := ⟨rfl, rfl, rfl⟩
theorem rowS_f : rowS.enc = scell ∧ rowS.dec = dS1 ∧ rowS.sz = 1 := ⟨rfl, rfl, rfl⟩
theorem mapO_cells1 : (∀ xs : List Int, mapO (dI1 .i64) (mp icell xs) = some xs) ∧ (∀ xs : List Int, mapO (dI1 .u8) (mp ucell xs) = some xs) ∧ (∀ xs : List Bool, mapO dB1 (mp bcell xs) = some xs) ∧ ∀ xs : List Str, mapO dS1 (mp scell xs) = some xs :=
  ⟨mapO_mp fun x => by simp [dI1, icell, dI], mapO_mp fun x => by simp [dI1, ucell, dI], mapO_mp fun x => rfl, mapO_mp fun x => rfl⟩

structure Cel (α : Type) where
  enc : α → List AV
  dec : List AObj → List AV → Option α
  ok : ∀ H n cs x, dec H cs = some x → CoL1 H n cs (enc x)
  nb : ∀ n x, nbL n (enc x)

section cel
variable {α : Type}
def dC (c : Cel α) (H : List AObj) : AV → Option α
  | .agg cs => c.dec H cs
  | _ => none
def tyC (c : Cel α) : Ty α where
  enc x := .agg (c.enc x)
  dec := dC c
  ok H n v x h := by
    unfold dC at h
    split at h
    · exact .inr ⟨_, _, rfl, rfl, c.ok H n _ _ h⟩
    · cases h
  nb n x := c.nb n x
theorem tyC_enc {c : Cel α} {x : α} : (tyC c).enc x = .agg (c.enc x) := rfl
theorem tyC_dec {c : Cel α} {H : List AObj} {v : AV} : (tyC c).dec H v = dC c H v := rfl
end cel

def tyU : Ty Unit where
  enc _ := .tup []
  dec _
    | .tup [] => some ()
    | _ => none
  ok H n v x h := by
    split at h
    · exact Co.same trivial
    · cases h
  nb _ _ := trivial
theorem tyU_enc {x : Unit} : tyU.enc x = .tup [] := rfl
theorem tyU_dec {H : List AObj} : tyU.dec H (.tup []) = some () := rfl

section tuples
variable {α β γ δ ε : Type}
def d2 (a : Ty α) (b : Ty β) : AV → Option (α × β)
  | .tup [x, y] => (a.dec [] x).bind fun u => (b.dec [] y).bind fun v => some (u, v)
  | _ => none
def d3 (a : Ty α) (b : Ty β) (c : Ty γ) : AV → Option (α × β × γ)
  | .tup [x, y, z] => (a.dec [] x).bind fun u => (b.dec [] y).bind fun v => (c.dec [] z).bind fun w => some (u, v, w)
  | _ => none
def d4 (a : Ty α) (b : Ty β) (c : Ty γ) (d : Ty δ) : AV → Option (α × β × γ × δ)
  | .tup [x, y, z, p] => (a.dec [] x).bind fun u => (b.dec [] y).bind fun v => (c.dec [] z).bind fun w => (d.dec [] p).bind fun q => some (u, v, w, q)
  | _ => none
def d5 (a : Ty α) (b : Ty β) (c : Ty γ) (d : Ty δ) (e : Ty ε) : AV → Option (α × β × γ × δ × ε)
  | .tup [x, y, z, p, s] => (a.dec [] x).bind fun u => (b.dec [] y).bind fun v => (c.dec [] z).bind fun w => (d.dec [] p).bind fun q => (e.dec [] s).bind fun t => some (u, v, w, q, t)
  | _ => none
def ty2 (a : Ty α) (b : Ty β) : Ty (α × β) where
  enc x := .tup [a.enc x.1, b.enc x.2]
  dec _ := d2 a b
  ok H n v x h := by
    unfold d2 at h
    split at h
    · simp only [Option.bind_eq_some_iff, Option.some.injEq] at h
      obtain ⟨u, hu, w, hw, rfl⟩ := h
      exact Co.sub (Sub.tup (SubL.cons (a.ok [] 0 _ _ hu).toSub (SubL.cons (b.ok [] 0 _ _ hw).toSub SubL.nil))) ⟨a.nb n u, b.nb n w, trivial⟩
    · cases h
  nb n x := ⟨a.nb n _, b.nb n _, trivial⟩
def ty3 (a : Ty α) (b : Ty β) (c : Ty γ) : Ty (α × β × γ) where
  enc x := .tup [a.enc x.1, b.enc x.2.1, c.enc x.2.2]
  dec _ := d3 a b c
  ok H n v x h := by
    unfold d3 at h
    split at h
    · simp only [Option.bind_eq_some_iff, Option.some.injEq] at h
      obtain ⟨u, hu, w, hw, p, hp, rfl⟩ := h
      exact Co.sub (Sub.tup (SubL.cons (a.ok [] 0 _ _ hu).toSub (SubL.cons (b.ok [] 0 _ _ hw).toSub (SubL.cons (c.ok [] 0 _ _ hp).toSub SubL.nil)))) ⟨a.nb n u, b.nb n w, c.nb n p, trivial⟩
    · cases h
  nb n x := ⟨a.nb n _, b.nb n _, c.nb n _, trivial⟩
def ty4 (a : Ty α) (b : Ty β) (c : Ty γ) (d : Ty δ) : Ty (α × β × γ × δ) where
  enc x := .tup [a.enc x.1, b.enc x.2.1, c.enc x.2.2.1, d.enc x.2.2.2]
  dec _ := d4 a b c d
  ok H n v x h := by
    unfold d4 at h
    split at h
    · simp only [Option.bind_eq_some_iff, Option.some.injEq] at h
      obtain ⟨u, hu, w, hw, p, hp, q, hq, rfl⟩ := h
      exact Co.sub (Sub.tup (SubL.cons (a.ok [] 0 _ _ hu).toSub (SubL.cons (b.ok [] 0 _ _ hw).toSub (SubL.cons (c.ok [] 0 _ _ hp).toSub (SubL.cons (d.ok [] 0 _ _ hq).toSub SubL.nil))))) ⟨a.nb n u, b.nb n w, c.nb n p, d.nb n q, trivial⟩
    · cases h
  nb n x := ⟨a.nb n _, b.nb n _, c.nb n _, d.nb n _, trivial⟩
def ty5 (a : Ty α) (b : Ty β) (c : Ty γ) (d : Ty δ) (e : Ty ε) : Ty (α × β × γ × δ × ε) where
  enc x := .tup [a.enc x.1, b.enc x.2.1, c.enc x.2.2.1, d.enc x.2.2.2.1, e.enc x.2.2.2.2]
  dec _ := d5 a b c d e
  ok H n v x h := by
    unfold d5 at h
    split at h
    · simp only [Option.bind_eq_some_iff, Option.some.injEq] at h
      obtain ⟨u, hu, w, hw, p, hp, q, hq, s, hs, rfl⟩ := h
      exact Co.sub (Sub.tup (SubL.cons (a.ok [] 0 _ _ hu).toSub (SubL.cons (b.ok [] 0 _ _ hw).toSub (SubL.cons (c.ok [] 0 _ _ hp).toSub (SubL.cons (d.ok [] 0 _ _ hq).toSub (SubL.cons (e.ok [] 0 _ _ hs).toSub SubL.nil)))))) ⟨a.nb n u, b.nb n w, c.nb n p, d.nb n q, e.nb n s, trivial⟩
    · cases h
  nb n x := ⟨a.nb n _, b.nb n _, c.nb n _, d.nb n _, e.nb n _, trivial⟩
theorem ty2_enc {a : Ty α} {b : Ty β} {x : α × β} : (ty2 a b).enc x = .tup [a.enc x.1, b.enc x.2] := rfl
theorem ty2_dec {a : Ty α} {b : Ty β} {H : List AObj} {v : AV} : (ty2 a b).dec H v = d2 a b v := rfl
theorem ty3_enc {a : Ty α} {b : Ty β} {c : Ty γ} {x : α × β × γ} : (ty3 a b c).enc x = .tup [a.enc x.1, b.enc x.2.1, c.enc x.2.2] := rfl
theorem ty3_dec {a : Ty α} {b : Ty β} {c : Ty γ} {H : List AObj} {v : AV} : (ty3 a b c).dec H v = d3 a b c v := rfl
theorem ty4_enc {a : Ty α} {b : Ty β} {c : Ty γ} {d : Ty δ} {x : α × β × γ × δ} : (ty4 a b c d).enc x = .tup [a.enc x.1, b.enc x.2.1, c.enc x.2.2.1, d.enc x.2.2.2] := rfl
theorem ty4_dec {a : Ty α} {b : Ty β} {c : Ty γ} {d : Ty δ} {H : List AObj} {v : AV} : (ty4 a b c d).dec H v = d4 a b c d v := rfl
theorem ty5_enc {a : Ty α} {b : Ty β} {c : Ty γ} {d : Ty δ} {e : Ty ε} {x : α × β × γ × δ × ε} : (ty5 a b c d e).enc x = .tup [a.enc x.1, b.enc x.2.1, c.enc x.2.2.1, d.enc x.2.2.2.1, e.enc x.2.2.2.2] := rfl
theorem ty5_dec {a : Ty α} {b : Ty β} {c : Ty γ} {d : Ty δ} {e : Ty ε} {H : List AObj} {v : AV} : (ty5 a b c d e).dec H v = d5 a b c d e v := rfl
end tuples

noncomputable def outR {ρ : Type} (P : Program) (rs : List ResultVar) (t : Ty ρ) (σ : AState) : Option ρ :=
  (resAV P σ rs).bind fun x => pcond ((frz 0 σ.heap x).nb 0) (t.dec [] (frz 0 σ.heap x))

theorem outR_ok {ρ : Type} {P : Program} {rs : List ResultVar} {t : Ty ρ} {σ : AState} {r : ρ} (h : outR P rs t σ = some r) : endV (fun v => v = t.enc r) σ.heap (resAV P σ rs) := by
  unfold outR at h
  cases hx : resAV P σ rs with
  | none => rw [hx] at h; cases h
  | some x =>
    rw [hx] at h
    simp only [Option.bind_some] at h
    rw [pcond_some] at h
    exact ⟨h.1, _, (t.ok [] 0 _ _ h.2).toSub, rfl⟩

-- what callees answer
abbrev Ent := List AV → List AObj → Option (AV × List AObj)
abbrev EntD := List AV → Option AV

section entries
variable {α β γ δ ε ζ ρ : Type}
def ent0 (t : Ty ρ) (F : Option ρ) : Ent
  | [], H => F.bind fun r => some (t.enc r, H)
  | _, _ => none
def ent1 (a : Ty α) (t : Ty ρ) (F : α → Option ρ) : Ent
  | [x], H => (a.dec H x).bind fun x => (F x).bind fun r => some (t.enc r, H)
  | _, _ => none
def ent2 (a : Ty α) (b : Ty β) (t : Ty ρ) (F : α → β → Option ρ) : Ent
  | [x, y], H => (a.dec H x).bind fun x => (b.dec H y).bind fun y => (F x y).bind fun r => some (t.enc r, H)
  | _, _ => none
def ent3 (a : Ty α) (b : Ty β) (c : Ty γ) (t : Ty ρ) (F : α → β → γ → Option ρ) : Ent
  | [x, y, z], H => (a.dec H x).bind fun x => (b.dec H y).bind fun y => (c.dec H z).bind fun z => (F x y z).bind fun r => some (t.enc r, H)
  | _, _ => none
def ent4 (a : Ty α) (b : Ty β) (c : Ty γ) (d : Ty δ) (t : Ty ρ) (F : α → β → γ → δ → Option ρ) : Ent
  | [x, y, z, u], H => (a.dec H x).bind fun x => (b.dec H y).bind fun y => (c.dec H z).bind fun z => (d.dec H u).bind fun u => (F x y z u).bind fun r => some (t.enc r, H)
  | _, _ => none
def ent5 (a : Ty α) (b : Ty β) (c : Ty γ) (d : Ty δ) (e : Ty ε) (t : Ty ρ) (F : α → β → γ → δ → ε → Option ρ) : Ent
  | [x, y, z, u, v], H => (a.dec H x).bind fun x => (b.dec H y).bind fun y => (c.dec H z).bind fun z => (d.dec H u).bind fun u => (e.dec H v).bind fun v => (F x y z u v).bind fun r => some (t.enc r, H)
  | _, _ => none
def ent6 (a : Ty α) (b : Ty β) (c : Ty γ) (d : Ty δ) (e : Ty ε) (f : Ty ζ) (t : Ty ρ) (F : α → β → γ → δ → ε → ζ → Option ρ) : Ent
  | [x, y, z, u, v, w], H => (a.dec H x).bind fun x => (b.dec H y).bind fun y => (c.dec H z).bind fun z => (d.dec H u).bind fun u => (e.dec H v).bind fun v => (f.dec H w).bind fun w => (F x y z u v w).bind fun r => some (t.enc r, H)
  | _, _ => none
noncomputable def entD (e : Ent) : EntD := fun args => pcond (nbL 0 args) ((e args []).bind fun r => some r.1)

def EntOK (P : Program) (f : FuncId) (e : Ent) : Prop := ∀ args σ r H', e args σ.heap = some (r, H') → CallA P f args σ (fun o H'' => o = .ret r ∧ H'' = H')
def EntDOK (P : Program) (f : FuncId) (e : EntD) : Prop := ∀ args r, e args = some r → FnC P f args (fun v => v = r)

variable {P : Program} {f : FuncId} {a : Ty α} {b : Ty β} {c : Ty γ} {d : Ty δ} {e : Ty ε} {g : Ty ζ} {t : Ty ρ}

theorem CoL.tySub {xs ys : List AV} : ∀ {n : Nat}, CoL [] n xs ys → SubL xs ys := by
  induction xs generalizing ys with
  | nil => rintro _ rfl; exact SubL.nil
  | cons x xs ih => rintro n ⟨y, zs, rfl, h, hs⟩; exact SubL.cons h.toSub (ih hs)

theorem ent0_ok {F : Option ρ} (h : ∀ r, F = some r → FnC P f [] (fun v => v = t.enc r)) : EntOK P f (ent0 t F) := by
  intro args σ r H' he
  unfold ent0 at he
  split at he
  · simp only [Option.bind_eq_some_iff, Option.some.injEq, Prod.mk.injEq] at he
    obtain ⟨r', hr, rfl, rfl⟩ := he
    exact callA_co (n := 0) (h r' hr) CoL.nil
  · cases he
theorem ent1_ok {F : α → Option ρ} (h : ∀ x r, F x = some r → FnC P f [a.enc x] (fun v => v = t.enc r)) : EntOK P f (ent1 a t F) := by
  intro args σ r H' he
  unfold ent1 at he
  split at he
  · simp only [Option.bind_eq_some_iff, Option.some.injEq, Prod.mk.injEq] at he
    obtain ⟨x, hx, r', hr, rfl, rfl⟩ := he
    exact callA_co (n := 0) (h x r' hr) (CoL.cons (a.ok _ 0 _ _ hx) CoL.nil)
  · cases he
theorem ent2_ok {F : α → β → Option ρ} (h : ∀ x y r, F x y = some r → FnC P f [a.enc x, b.enc y] (fun v => v = t.enc r)) : EntOK P f (ent2 a b t F) := by
  intro args σ r H' he
  unfold ent2 at he
  split at he
  · simp only [Option.bind_eq_some_iff, Option.some.injEq, Prod.mk.injEq] at he
    obtain ⟨x, hx, y, hy, r', hr, rfl, rfl⟩ := he
    exact callA_co (n := 0) (h x y r' hr) (CoL.cons (a.ok _ 0 _ _ hx) (CoL.cons (b.ok _ 0 _ _ hy) CoL.nil))
  · cases he
theorem ent3_ok {F : α → β → γ → Option ρ} (h : ∀ x y z r, F x y z = some r → FnC P f [a.enc x, b.enc y, c.enc z] (fun v => v = t.enc r)) : EntOK P f (ent3 a b c t F) := by
  intro args σ r H' he
  unfold ent3 at he
  split at he
  · simp only [Option.bind_eq_some_iff, Option.some.injEq, Prod.mk.injEq] at he
    obtain ⟨x, hx, y, hy, z, hz, r', hr, rfl, rfl⟩ := he
    exact callA_co (n := 0) (h x y z r' hr) (CoL.cons (a.ok _ 0 _ _ hx) (CoL.cons (b.ok _ 0 _ _ hy) (CoL.cons (c.ok _ 0 _ _ hz) CoL.nil)))
  · cases he
theorem ent4_ok {F : α → β → γ → δ → Option ρ} (h : ∀ x y z u r, F x y z u = some r → FnC P f [a.enc x, b.enc y, c.enc z, d.enc u] (fun v => v = t.enc r)) : EntOK P f (ent4 a b c d t F) := by
  intro args σ r H' he
  unfold ent4 at he
  split at he
  · simp only [Option.bind_eq_some_iff, Option.some.injEq, Prod.mk.injEq] at he
    obtain ⟨x, hx, y, hy, z, hz, u, hu, r', hr, rfl, rfl⟩ := he
    exact callA_co (n := 0) (h x y z u r' hr) (CoL.cons (a.ok _ 0 _ _ hx) (CoL.cons (b.ok _ 0 _ _ hy) (CoL.cons (c.ok _ 0 _ _ hz) (CoL.cons (d.ok _ 0 _ _ hu) CoL.nil))))
  · cases he
theorem ent5_ok {F : α → β → γ → δ → ε → Option ρ} (h : ∀ x y z u v r, F x y z u v = some r → FnC P f [a.enc x, b.enc y, c.enc z, d.enc u, e.enc v] (fun w => w = t.enc r)) : EntOK P f (ent5 a b c d e t F) := by
  intro args σ r H' he
  unfold ent5 at he
  split at he
  · simp only [Option.bind_eq_some_iff, Option.some.injEq, Prod.mk.injEq] at he
    obtain ⟨x, hx, y, hy, z, hz, u, hu, v, hv, r', hr, rfl, rfl⟩ := he
    exact callA_co (n := 0) (h x y z u v r' hr) (CoL.cons (a.ok _ 0 _ _ hx) (CoL.cons (b.ok _ 0 _ _ hy) (CoL.cons (c.ok _ 0 _ _ hz) (CoL.cons (d.ok _ 0 _ _ hu) (CoL.cons (e.ok _ 0 _ _ hv) CoL.nil)))))
  · cases he
theorem ent6_ok {F : α → β → γ → δ → ε → ζ → Option ρ} (h : ∀ x y z u v w r, F x y z u v w = some r → FnC P f [a.enc x, b.enc y, c.enc z, d.enc u, e.enc v, g.enc w] (fun w => w = t.enc r)) : EntOK P f (ent6 a b c d e g t F) := by
  intro args σ r H' he
  unfold ent6 at he
  split at he
  · simp only [Option.bind_eq_some_iff, Option.some.injEq, Prod.mk.injEq] at he
    obtain ⟨x, hx, y, hy, z, hz, u, hu, v, hv, w, hw, r', hr, rfl, rfl⟩ := he
    exact callA_co (n := 0) (h x y z u v w r' hr) (CoL.cons (a.ok _ 0 _ _ hx) (CoL.cons (b.ok _ 0 _ _ hy) (CoL.cons (c.ok _ 0 _ _ hz) (CoL.cons (d.ok _ 0 _ _ hu) (CoL.cons (e.ok _ 0 _ _ hv) (CoL.cons (g.ok _ 0 _ _ hw) CoL.nil))))))
  · cases he
theorem ent0_okD {F : Option ρ} (h : ∀ r, F = some r → FnC P f [] (fun w => w = t.enc r)) : EntDOK P f (entD (ent0  t F)) := by
  intro args r he
  unfold entD at he
  rw [pcond_some] at he
  obtain ⟨hnb, he⟩ := he
  unfold ent0 at he
  split at he
  · simp only [Option.bind_eq_some_iff, Option.some.injEq, Prod.exists, Prod.mk.injEq] at he
    obtain ⟨_, _, ⟨r', hr, rfl, rfl⟩, rfl⟩ := he
    exact fnC_sub (h  r' hr) (SubL.nil) hnb
  · cases he
theorem ent1_okD {F : α → Option ρ} (h : ∀ x r, F x = some r → FnC P f [a.enc x] (fun w => w = t.enc r)) : EntDOK P f (entD (ent1 a t F)) := by
  intro args r he
  unfold entD at he
  rw [pcond_some] at he
  obtain ⟨hnb, he⟩ := he
  unfold ent1 at he
  split at he
  · simp only [Option.bind_eq_some_iff, Option.some.injEq, Prod.exists, Prod.mk.injEq] at he
    obtain ⟨_, _, ⟨x, hx, r', hr, rfl, rfl⟩, rfl⟩ := he
    exact fnC_sub (h x r' hr) (SubL.cons (a.ok _ 0 _ _ hx).toSub SubL.nil) hnb
  · cases he
theorem ent2_okD {F : α → β → Option ρ} (h : ∀ x y r, F x y = some r → FnC P f [a.enc x, b.enc y] (fun w => w = t.enc r)) : EntDOK P f (entD (ent2 a b t F)) := by
  intro args r he
  unfold entD at he
  rw [pcond_some] at he
  obtain ⟨hnb, he⟩ := he
  unfold ent2 at he
  split at he
  · simp only [Option.bind_eq_some_iff, Option.some.injEq, Prod.exists, Prod.mk.injEq] at he
    obtain ⟨_, _, ⟨x, hx, y, hy, r', hr, rfl, rfl⟩, rfl⟩ := he
    exact fnC_sub (h x y r' hr) (SubL.cons (a.ok _ 0 _ _ hx).toSub (SubL.cons (b.ok _ 0 _ _ hy).toSub SubL.nil)) hnb
  · cases he
theorem ent3_okD {F : α → β → γ → Option ρ} (h : ∀ x y z r, F x y z = some r → FnC P f [a.enc x, b.enc y, c.enc z] (fun w => w = t.enc r)) : EntDOK P f (entD (ent3 a b c t F)) := by
  intro args r he
  unfold entD at he
  rw [pcond_some] at he
  obtain ⟨hnb, he⟩ := he
  unfold ent3 at he
  split at he
  · simp only [Option.bind_eq_some_iff, Option.some.injEq, Prod.exists, Prod.mk.injEq] at he
    obtain ⟨_, _, ⟨x, hx, y, hy, z, hz, r', hr, rfl, rfl⟩, rfl⟩ := he
    exact fnC_sub (h x y z r' hr) (SubL.cons (a.ok _ 0 _ _ hx).toSub (SubL.cons (b.ok _ 0 _ _ hy).toSub (SubL.cons (c.ok _ 0 _ _ hz).toSub SubL.nil))) hnb
  · cases he
theorem ent4_okD {F : α → β → γ → δ → Option ρ} (h : ∀ x y z u r, F x y z u = some r → FnC P f [a.enc x, b.enc y, c.enc z, d.enc u] (fun w => w = t.enc r)) : EntDOK P f (entD (ent4 a b c d t F)) := by
  intro args r he
  unfold entD at he
  rw [pcond_some] at he
  obtain ⟨hnb, he⟩ := he
  unfold ent4 at he
  split at he
  · simp only [Option.bind_eq_some_iff, Option.some.injEq, Prod.exists, Prod.mk.injEq] at he
    obtain ⟨_, _, ⟨x, hx, y, hy, z, hz, u, hu, r', hr, rfl, rfl⟩, rfl⟩ := he
    exact fnC_sub (h x y z u r' hr) (SubL.cons (a.ok _ 0 _ _ hx).toSub (SubL.cons (b.ok _ 0 _ _ hy).toSub (SubL.cons (c.ok _ 0 _ _ hz).toSub (SubL.cons (d.ok _ 0 _ _ hu).toSub SubL.nil)))) hnb
  · cases he
theorem ent5_okD {F : α → β → γ → δ → ε → Option ρ} (h : ∀ x y z u v r, F x y z u v = some r → FnC P f [a.enc x, b.enc y, c.enc z, d.enc u, e.enc v] (fun w => w = t.enc r)) : EntDOK P f (entD (ent5 a b c d e t F)) := by
  intro args r he
  unfold entD at he
  rw [pcond_some] at he
  obtain ⟨hnb, he⟩ := he
  unfold ent5 at he
  split at he
  · simp only [Option.bind_eq_some_iff, Option.some.injEq, Prod.exists, Prod.mk.injEq] at he
    obtain ⟨_, _, ⟨x, hx, y, hy, z, hz, u, hu, v, hv, r', hr, rfl, rfl⟩, rfl⟩ := he
    exact fnC_sub (h x y z u v r' hr) (SubL.cons (a.ok _ 0 _ _ hx).toSub (SubL.cons (b.ok _ 0 _ _ hy).toSub (SubL.cons (c.ok _ 0 _ _ hz).toSub (SubL.cons (d.ok _ 0 _ _ hu).toSub (SubL.cons (e.ok _ 0 _ _ hv).toSub SubL.nil))))) hnb
  · cases he
theorem ent6_okD {F : α → β → γ → δ → ε → ζ → Option ρ} (h : ∀ x y z u v w r, F x y z u v w = some r → FnC P f [a.enc x, b.enc y, c.enc z, d.enc u, e.enc v, g.enc w] (fun w => w = t.enc r)) : EntDOK P f (entD (ent6 a b c d e g t F)) := by
  intro args r he
  unfold entD at he
  rw [pcond_some] at he
  obtain ⟨hnb, he⟩ := he
  unfold ent6 at he
  split at he
  · simp only [Option.bind_eq_some_iff, Option.some.injEq, Prod.exists, Prod.mk.injEq] at he
    obtain ⟨_, _, ⟨x, hx, y, hy, z, hz, u, hu, v, hv, w, hw, r', hr, rfl, rfl⟩, rfl⟩ := he
    exact fnC_sub (h x y z u v w r' hr) (SubL.cons (a.ok _ 0 _ _ hx).toSub (SubL.cons (b.ok _ 0 _ _ hy).toSub (SubL.cons (c.ok _ 0 _ _ hz).toSub (SubL.cons (d.ok _ 0 _ _ hu).toSub (SubL.cons (e.ok _ 0 _ _ hv).toSub (SubL.cons (g.ok _ 0 _ _ hw).toSub SubL.nil)))))) hnb
  · cases he
end entries

def tabA : List (Nat × Ent) → FuncId → List AV → List AObj → Option (AV × List AObj)
  | [], _, _, _ => none
  | (g, e) :: t, f, args, H => if f = g then e args H else tabA t f args H
def tabD : List (Nat × EntD) → FuncId → List AV → Option AV
  | [], _, _ => none
  | (g, e) :: t, f, args => if f = g then e args else tabD t f args
theorem tabA_nil_ok {P : Program} : ∀ f args (σ : AState) r H', tabA [] f args σ.heap = some (r, H') → CallA P f args σ (fun o H'' => o = .ret r ∧ H'' = H') := by
  intro f args σ r H' h; cases h
theorem tabA_cons_ok {P : Program} {g : Nat} {e : Ent} {t : List (Nat × Ent)} (h1 : EntOK P g e) (h2 : ∀ f args (σ : AState) r H', tabA t f args σ.heap = some (r, H') → CallA P f args σ (fun o H'' => o = .ret r ∧ H'' = H')) :
    ∀ f args (σ : AState) r H', tabA ((g, e) :: t) f args σ.heap = some (r, H') → CallA P f args σ (fun o H'' => o = .ret r ∧ H'' = H') := by
  intro f args σ r H' h
  simp only [tabA] at h
  split at h
  · rename_i hg; subst hg; exact h1 _ _ _ _ h
  · exact h2 _ _ _ _ _ h
theorem tabD_nil_ok {P : Program} : ∀ f args r, tabD [] f args = some r → FnC P f args (fun v => v = r) := by
  intro f args r h; cases h
theorem tabD_cons_ok {P : Program} {g : Nat} {e : EntD} {t : List (Nat × EntD)} (h1 : EntDOK P g e) (h2 : ∀ f args r, tabD t f args = some r → FnC P f args (fun v => v = r)) :
    ∀ f args r, tabD ((g, e) :: t) f args = some r → FnC P f args (fun v => v = r) := by
  intro f args r h
  simp only [tabD] at h
  split at h
  · rename_i hg; subst hg; exact h1 _ _ h
  · exact h2 _ _ _ h

-- canonical forms
structure NZ where
  f : List AObj → Nat → AV → Option AV
  ok : ∀ H n v v', f H n v = some v' → Co H n v v'
structure ZO where
  f : List AObj → Nat → AObj → Option AObj
  ok : ∀ H n x y, f H n x = some y → CoObj H n x y

def zA : NZ := ⟨fun _ _ _ => some .any, fun _ _ _ _ h => by cases h; exact Co.any⟩
noncomputable def zK : NZ := ⟨fun _ n v => pcond (v.nb n) (some v), fun _ _ _ _ h => by rw [pcond_some] at h; obtain ⟨h1, h2⟩ := h; cases h2; exact Co.same h1⟩
def zT {α : Type} (t : Ty α) : NZ := ⟨fun H _ v => (t.dec H v).bind fun x => some (t.enc x), fun H n v v' h => by
  simp only [Option.bind_eq_some_iff, Option.some.injEq] at h
  obtain ⟨x, hx, rfl⟩ := h
  exact t.ok H n v x hx⟩
theorem zA_f {H : List AObj} {n : Nat} {v : AV} : zA.f H n v = some .any := rfl
theorem zK_f {H : List AObj} {n : Nat} {v : AV} : zK.f H n v = pcond (v.nb n) (some v) := rfl
theorem zT_f {α : Type} {t : Ty α} {H : List AObj} {n : Nat} {v : AV} : (zT t).f H n v = (t.dec H v).bind fun x => some (t.enc x) := rfl

def zipZ : List NZ → List AObj → Nat → List AV → Option (List AV)
  | [], _, _, [] => some []
  | z :: zs, H, n, v :: vs => (z.f H n v).bind fun u => (zipZ zs H n vs).bind fun us => some (u :: us)
  | _, _, _, _ => none
theorem zipZ_ok : ∀ {zs : List NZ} {H : List AObj} {n : Nat} {vs us : List AV}, zipZ zs H n vs = some us → CoL H n vs us
  | [], _, _, [], us, h => by simp only [zipZ, Option.some.injEq] at h; subst h; rfl
  | z :: zs, H, n, v :: vs, us, h => by
    simp only [zipZ, Option.bind_eq_some_iff, Option.some.injEq] at h
    obtain ⟨u, hu, ws, hws, rfl⟩ := h
    exact CoL.cons (z.ok _ _ _ _ hu) (zipZ_ok hws)
  | [], _, _, _ :: _, _, h => by simp [zipZ] at h
  | _ :: _, _, _, [], _, h => by simp [zipZ] at h

def oD : ZO := ⟨fun _ _ _ => some .dead, fun _ _ _ _ h => by cases h; exact .inl rfl⟩
noncomputable def oK : ZO := ⟨fun _ n x => pcond (objNb n x) (some x), fun _ _ _ _ h => by rw [pcond_some] at h; obtain ⟨h1, h2⟩ := h; cases h2; exact .inr (.inl ⟨rfl, h1⟩)⟩
def oCf (zs : List NZ) (H : List AObj) (n : Nat) : AObj → Option AObj
  | .cells cs => (zipZ zs H n cs).bind fun ds => some (.cells ds)
  | _ => none
def oC (zs : List NZ) : ZO := ⟨oCf zs, fun H n x y h => by
  unfold oCf at h
  split at h
  · simp only [Option.bind_eq_some_iff, Option.some.injEq] at h
    obtain ⟨ds, hd, rfl⟩ := h
    exact .inr (.inr (.inl ⟨_, _, rfl, rfl, zipZ_ok hd⟩))
  · cases h⟩
def oTf {α : Type} (c : Cel α) (H : List AObj) : AObj → Option AObj
  | .cells cs => (c.dec H cs).bind fun x => some (.cells (c.enc x))
  | _ => none
def oT {α : Type} (c : Cel α) : ZO := ⟨fun H _ => oTf c H, fun H n x y h => by
  unfold oTf at h
  split at h
  · simp only [Option.bind_eq_some_iff, Option.some.injEq] at h
    obtain ⟨z, hz, rfl⟩ := h
    exact .inr (.inr (.inl ⟨_, _, rfl, rfl, (c.ok H n _ _ hz).toCoL⟩))
  · cases h⟩
def oAf {α : Type} (r : Row α) : AObj → Option AObj
  | .acc imm sz rows => (mapO r.dec rows).bind fun xs => some (.acc imm sz (mp r.enc xs))
  | _ => none
def oA {α : Type} (r : Row α) : ZO := ⟨fun _ _ => oAf r, fun H n x y h => by
  unfold oAf at h
  split at h
  · simp only [Option.bind_eq_some_iff, Option.some.injEq] at h
    obtain ⟨xs, hx, rfl⟩ := h
    exact .inr (.inr (.inr ⟨_, _, _, _, rfl, rfl, (mapO_rows hx).2, nbR_rows xs⟩))
  · cases h⟩
theorem oD_f {H : List AObj} {n : Nat} {x : AObj} : oD.f H n x = some .dead := rfl
theorem oK_f {H : List AObj} {n : Nat} {x : AObj} : oK.f H n x = pcond (objNb n x) (some x) := rfl
theorem oC_f {zs : List NZ} {H : List AObj} {n : Nat} {cs : List AV} : (oC zs).f H n (.cells cs) = (zipZ zs H n cs).bind fun ds => some (.cells ds) := rfl
theorem oT_f {α : Type} {c : Cel α} {H : List AObj} {n : Nat} {cs : List AV} : (oT c).f H n (.cells cs) = (c.dec H cs).bind fun x => some (.cells (c.enc x)) := rfl
theorem oA_f {α : Type} {r : Row α} {H : List AObj} {n : Nat} {imm : Bool} {sz : Nat} {rows : List (List AV)} : (oA r).f H n (.acc imm sz rows) = (mapO r.dec rows).bind fun xs => some (.acc imm sz (mp r.enc xs)) := rfl

def zipO : List ZO → List AObj → Nat → List AObj → Option (List AObj)
  | [], _, _, _ => some []
  | z :: zs, H, n, v :: vs => (z.f H n v).bind fun u => (zipO zs H n vs).bind fun us => some (u :: us)
  | _ :: _, _, _, [] => none
theorem zipO_ok : ∀ {zs : List ZO} {H : List AObj} {n : Nat} {vs us : List AObj}, zipO zs H n vs = some us → CoH H n vs us ∧ us.length = zs.length
  | [], _, _, vs, us, h => by simp only [zipO, Option.some.injEq] at h; subst h; exact ⟨CoH.nil, rfl⟩
  | z :: zs, H, n, v :: vs, us, h => by
    simp only [zipO, Option.bind_eq_some_iff, Option.some.injEq] at h
    obtain ⟨u, hu, ws, hws, rfl⟩ := h
    obtain ⟨h1, h2⟩ := zipO_ok hws
    exact ⟨⟨z.ok _ _ _ _ hu, h1⟩, by simp [h2]⟩
  | _ :: _, _, _, [], _, h => by simp [zipO] at h

def nrmZ (zs : List NZ) (zo : List ZO) (σ : AState) : Option AState :=
  (zipZ zs σ.heap zo.length σ.slots).bind fun ss => (zipO zo σ.heap zo.length σ.heap).bind fun hs => bif decide (σ.low ≤ zo.length) then some ⟨ss, hs, σ.low⟩ else none
theorem nrmZ_ok {zs : List NZ} {zo : List ZO} {σ σ' : AState} (h : nrmZ zs zo σ = some σ') : Imp σ σ' := by
  unfold nrmZ at h
  simp only [Option.bind_eq_some_iff] at h
  obtain ⟨ss, h1, hs, h2, h3⟩ := h
  cases hl : decide (σ.low ≤ zo.length) with
  | false => simp [hl] at h3
  | true =>
    simp only [hl, cond_true, Option.some.injEq] at h3
    subst h3
    obtain ⟨h4, h5⟩ := zipO_ok h2
    have hle : σ.low ≤ hs.length := by rw [h5]; exact of_decide_eq_true hl
    refine Weak.imp ⟨⟨rfl, hle⟩, ?_, ?_⟩
    · show CoL σ.heap hs.length σ.slots ss
      rw [h5]; exact zipZ_ok h1
    · show CoH σ.heap hs.length σ.heap hs
      rw [h5]; exact h4

def gSlot (i sz : Nat) (imm : Bool) (σ : AState) : AState :=
  match σ.slots[i]? with
  | some (.lst true _ []) => { slots := σ.slots.set i (.acc σ.heap.length 0), heap := σ.heap ++ [.acc imm sz []], low := σ.low }
  | _ => σ
theorem gSlot_ok {i sz : Nat} {imm : Bool} {σ : AState} : Imp σ (gSlot i sz imm σ) := by
  unfold gSlot
  split
  · rename_i s h
    exact ghostAcc h
  · exact Imp.refl σ
end Go.Abs
namespace Go.Abs

section ghost
variable {C : Ctx} {φ : Nat → Value} {σ : AState} {a : Act} {w : World}

theorem muts_cells {cs ds : List AV} {h : Value} {b o : Nat} : (AObj.cells cs).muts h b o → (AObj.cells ds).muts h b o := by
  intro hm
  cases h with
  | pointer p => cases p <;> exact hm
  | _ => exact hm
theorem block_cells {cs ds : List AV} {h : Value} {b : Nat} : (AObj.cells cs).block h b → (AObj.cells ds).block h b := by
  intro hm
  cases h with
  | pointer p => cases p <;> exact hm
  | _ => exact hm

theorem set_get {H : List AObj} {l : Nat} {cs ds : List AV} (hl : H[l]? = some (.cells cs)) {k : Nat} {x : AObj} (hx : (H.set l (.cells ds))[k]? = some x) : (k = l ∧ x = .cells ds) ∨ (k ≠ l ∧ H[k]? = some x) := by
  by_cases e : k = l
  · subst e
    have hlt : k < H.length := (List.getElem?_eq_some_iff.1 hl).1
    rw [List.getElem?_set_self hlt] at hx
    cases hx; exact .inl ⟨rfl, rfl⟩
  · rw [List.getElem?_set_ne (fun h => e h.symm)] at hx
    exact .inr ⟨e, hx⟩

theorem recell_env {l : Nat} {cs ds : List AV} (hl : σ.heap[l]? = some (.cells cs)) : C.env φ (σ.heap.set l (.cells ds)) w = C.env φ σ.heap w := by
  have hlt : l < σ.heap.length := (List.getElem?_eq_some_iff.1 hl).1
  have hmu : ∀ b o, Mut φ (σ.heap.set l (.cells ds)) b o ↔ Mut φ σ.heap b o := by
    intro b o
    constructor
    · rintro ⟨k, x, hx, hm⟩
      rcases set_get hl hx with ⟨rfl, rfl⟩ | ⟨_, hx⟩
      · exact ⟨k, _, hl, muts_cells hm⟩
      · exact ⟨k, x, hx, hm⟩
    · rintro ⟨k, x, hx, hm⟩
      by_cases e : k = l
      · subst e
        rw [hl] at hx; cases hx
        exact ⟨k, _, List.getElem?_set_self hlt, muts_cells hm⟩
      · exact ⟨k, x, by rw [List.getElem?_set_ne (fun h => e h.symm)]; exact hx, hm⟩
  unfold Ctx.env
  congr 1
  · funext b o
    exact propext (or_congr (hmu b o) Iff.rfl)
  · funext k
    by_cases e : k = l
    · subst e; rw [List.getElem?_set_self hlt, hl]; rfl
    · rw [List.getElem?_set_ne (fun h => e h.symm)]
  · exact List.length_set

theorem Sim.recell (S : Sim C φ σ a w) {l : Nat} {cs ds : List AV} (hl : σ.heap[l]? = some (.cells cs)) (h : ∀ b c t, φ l = .pointer (some ⟨b, 0, none⟩) → w.heap[b]? = some (.cells c t (0, 0)) → RepL (C.env φ σ.heap w) cs c.toList → RepL (C.env φ σ.heap w) ds c.toList) :
    Sim C φ { σ with heap := σ.heap.set l (.cells ds) } a w := by
  have hlt : l < σ.heap.length := (List.getElem?_eq_some_iff.1 hl).1
  have henv : C.env φ (σ.heap.set l (.cells ds)) w = C.env φ σ.heap w := recell_env hl
  refine { slots := ?_, defers := S.defers, objs := ?_, apart := ?_, notA := ?_, size := S.size, old := S.old, oldObj := S.oldObj, inM := ?_, froz := S.froz, rest := S.rest, low := ⟨S.low.1, by show σ.low ≤ (σ.heap.set l (.cells ds)).length; rw [List.length_set]; exact S.low.2⟩, names := ?_ }
  · show RepL (C.env φ (σ.heap.set l (.cells ds)) w) σ.slots a.tmps.toList
    rw [henv]; exact S.slots
  · intro k x hx
    show ObjRep (C.env φ (σ.heap.set l (.cells ds)) w) x (φ k)
    rw [henv]
    rcases set_get hl hx with ⟨rfl, rfl⟩ | ⟨_, hx⟩
    · obtain ⟨b, c, t, h1, h2, h3, h4⟩ := S.objs k _ hl
      exact ⟨b, c, t, h1, h2, h b c t h1 h2 h3, h4⟩
    · exact S.objs k x hx
  · intro k k' x x' b hx hx' hb hb'
    rcases set_get hl hx with ⟨e1, rfl⟩ | ⟨_, h2⟩ <;> rcases set_get hl hx' with ⟨e2, rfl⟩ | ⟨_, h3⟩
    · rw [e1, e2]
    · rw [e1] at hb ⊢; exact S.apart _ _ _ _ b hl h3 (block_cells hb) hb'
    · rw [e2] at hb' ⊢; exact S.apart _ _ _ _ b h2 hl hb (block_cells hb')
    · exact S.apart _ _ _ _ b h2 h3 hb hb'
  · intro k x b o hx hb
    rcases set_get hl hx with ⟨rfl, rfl⟩ | ⟨_, hx⟩
    · exact S.notA _ _ b o hl (block_cells hb)
    · exact S.notA _ _ b o hx hb
  · intro k x b o hx hm hb
    rcases set_get hl hx with ⟨rfl, rfl⟩ | ⟨_, hx⟩
    · exact S.inM _ _ b o hl (muts_cells hm) hb
    · exact S.inM _ _ b o hx hm hb
  · intro k hk
    have := S.names k hk
    show (φ k = _ ∧ (accLen (σ.heap.set l (.cells ds))[k]? = _ ∨ accLen (σ.heap.set l (.cells ds))[k]? = none)) ∨ ((∃ q, _ ∧ ∀ k', accLen (σ.heap.set l (.cells ds))[k]? = some k' → q < k') ∧ _)
    have e : accLen (σ.heap.set l (.cells ds))[k]? = accLen σ.heap[k]? := by
      by_cases e : k = l
      · subst e; rw [List.getElem?_set_self hlt, hl]; rfl
      · rw [List.getElem?_set_ne (fun h => e h.symm)]
    rw [e]; exact this

theorem ghostCell {l off s sz : Nat} {cs : List AV} (hl : σ.heap[l]? = some (.cells cs)) (hc : cs[off]? = some (.lst true s [])) :
    Imp σ { slots := σ.slots, heap := σ.heap.set l (.cells (cs.set off (.acc σ.heap.length 0))) ++ [.acc true sz []], low := σ.low } := by
  intro C φ a w S
  have hlt : l < σ.heap.length := (List.getElem?_eq_some_iff.1 hl).1
  obtain ⟨b, c, t, hφ, hh, rl, h1⟩ := S.objs l _ hl
  obtain ⟨v, hv, base, cap, rfl, _, hcap, _⟩ := rl.get hc
  have hcap : cap = 0 := hcap rfl
  subst hcap
  have S' := S.nameAcc (imm := true) (sz := sz) (rows := []) (w' := w) (h' := .slice base 0 0) (Nat.le_refl _) (fun _ _ => rfl) (fun _ => rfl) ⟨rfl, rfl⟩ (by
    intro b hb
    cases base <;> simp [AObj.block] at hb) (fun E' _ _ => ⟨base, 0, rfl, Nat.le_refl _, fun _ => rfl, by simp, fun b _ h0 => absurd rfl h0⟩)
  refine ⟨(fun k => if k = σ.heap.length then .slice base 0 0 else φ k), ?_⟩
  have hl' : (σ.heap ++ [AObj.acc true sz []])[l]? = some (.cells cs) := by rw [List.getElem?_append_left hlt]; exact hl
  have S2 := S'.recell (l := l) (cs := cs) (ds := cs.set off (.acc σ.heap.length 0)) hl' (by
    intro b2 c2 t2 h3 h4 r
    have e1 : b2 = b := by
      have h3' : (if l = σ.heap.length then Value.slice base 0 0 else φ l) = .pointer (some ⟨b2, 0, none⟩) := h3
      rw [if_neg (by omega), hφ] at h3'
      simpa using h3'.symm
    subst e1
    rw [show w.heap[b2]? = some (.cells c t (0, 0)) from hh] at h4
    simp only [Option.some.injEq, Obj.cells.injEq] at h4
    obtain ⟨rfl, _⟩ := h4
    have hset := RepL.set (i := off) (c := .acc σ.heap.length 0) (v := .slice base 0 0) r ⟨by simp [Ctx.env], ⟨_, _, _, rfl⟩, fun k hk => by
      simp only [Ctx.env, List.getElem?_append_right (Nat.le_refl _), Nat.sub_self, List.getElem?_cons_zero, accLen, Option.some.injEq] at hk
      exact ⟨by simp, fun _ => by simp [Ctx.env]⟩⟩
    have hsame : c.toList.set off (.slice base 0 0) = c.toList := by
      obtain ⟨hlt2, he⟩ := List.getElem?_eq_some_iff.1 hv
      have he' : c.toList[off] = .slice base 0 0 := he
      rw [← he', List.set_getElem_self]
    rw [hsame] at hset
    exact hset)
  have hset : (σ.heap ++ [AObj.acc true sz []]).set l (.cells (cs.set off (.acc σ.heap.length 0))) = σ.heap.set l (.cells (cs.set off (.acc σ.heap.length 0))) ++ [.acc true sz []] := by
    rw [List.set_append_left _ _ hlt]
  rw [hset] at S2
  exact S2

def gCell (l off sz : Nat) (σ : AState) : AState :=
  match σ.heap[l]? with
  | some (.cells cs) => match cs[off]? with
    | some (.lst true _ []) => { slots := σ.slots, heap := σ.heap.set l (.cells (cs.set off (.acc σ.heap.length 0))) ++ [.acc true sz []], low := σ.low }
    | _ => σ
  | _ => σ
theorem gCell_ok {l off sz : Nat} {σ : AState} : Imp σ (gCell l off sz σ) := by
  unfold gCell
  split
  · rename_i cs hl
    split
    · rename_i s hc
      exact ghostCell hl hc
    · exact Imp.refl σ
  · exact Imp.refl σ
end ghost

structure Nrm where
  gs : List (Nat × Nat × Bool)
  gc : List (Nat × Nat × Nat)
  zs : List NZ
  zo : List ZO

def gSlots : List (Nat × Nat × Bool) → AState → AState
  | [], σ => σ
  | (i, sz, b) :: r, σ => gSlots r (gSlot i sz b σ)
def gCells : List (Nat × Nat × Nat) → AState → AState
  | [], σ => σ
  | (l, o, sz) :: r, σ => gCells r (gCell l o sz σ)
theorem gSlots_ok : ∀ {g : List (Nat × Nat × Bool)} {σ : AState}, Imp σ (gSlots g σ)
  | [], σ => Imp.refl σ
  | (_, _, _) :: _, _ => gSlot_ok.trans gSlots_ok
theorem gCells_ok : ∀ {g : List (Nat × Nat × Nat)} {σ : AState}, Imp σ (gCells g σ)
  | [], σ => Imp.refl σ
  | (_, _, _) :: _, _ => gCell_ok.trans gCells_ok

def nrmN (N : Nrm) (σ : AState) : Option AState := nrmZ N.zs N.zo (gCells N.gc (gSlots N.gs σ))
theorem nrmN_ok {N : Nrm} {σ σ' : AState} (h : nrmN N σ = some σ') : Imp σ σ' := (gSlots_ok.trans gCells_ok).trans (nrmZ_ok h)

def tabN : List (List Nat × Nrm) → List Nat → AState → Option AState
  | [], _, σ => some σ
  | (q, N) :: t, p, σ => if p = q then nrmN N σ else tabN t p σ
theorem tabN_ok : ∀ (t : List (List Nat × Nrm)) (p : List Nat) (σ σ' : AState), tabN t p σ = some σ' → Imp σ σ'
  | [], _, σ, σ', h => by simp only [tabN, Option.some.injEq] at h; subst h; exact Imp.refl _
  | (q, N) :: t, p, σ, σ', h => by
    simp only [tabN] at h
    split at h
    · exact nrmN_ok h
    · exact tabN_ok t p σ σ' h

def ixA (σ : AState) (sz : Nat) (x i : AV) : Option Eff :=
  match x, i with
  | .lst _ sz' rows, .int _ n => if sz' = sz then (idxA rows n).bind fun r => some { val := .pp r } else none
  | .acc l m, .int _ n => match σ.heap[l]? with
    | some (.acc true sz' rows) => if sz' = sz ∧ rows.length = m then (idxA rows n).bind fun r => some { val := .pp r, rd := [l] } else none
    | some (.acc false sz' rows) => if sz' = sz ∧ rows.length = m then (idxA rows n).bind fun _ => some { val := .own l n.toNat m 0 sz, rd := [l] } else none
    | _ => none
  | _, _ => none

def idxB (s : ByteArray) (n : Int) : Option UInt8 := if 0 ≤ n then s[n.toNat]? else none
def ixS (x i : AV) : Option Eff :=
  match x, i with
  | .str s, .int _ n => (idxB s n).bind fun b => some { val := .int .u8 b.toNat }
  | _, _ => none

def ldA (P : Program) (σ : AState) (t : TypeId) (v : AV) : Option Eff :=
  match tinfo P t, v with
  | some (g, n), .ptr l off => match σ.heap[l]? with
    | some (.cells cs) => (loadAV g n (cs.drop off)).bind fun v => ldV σ.heap l v
    | _ => none
  | some (g, n), .pp cs => (loadAV g n cs).bind fun v => some { val := v }
  | some (g, n), .own l i m o sz => match σ.heap[l]? with
    | some (.acc false sz' rows) => if sz' = sz ∧ rows.length = m then rows[i]?.bind fun r => (loadAV g n (r.drop o)).bind fun v => some { val := v, rd := [l] } else none
    | _ => none
  | _, _ => none

def stA (P : Program) (σ : AState) (t : TypeId) (v : AV) (ys : Option (List AV)) : Option Eff :=
  match tinfo P t, v, ys with
  | some (_, n), .ptr l off, some ys => match σ.heap[l]? with
    | some (.cells cs) => if ys.length = n ∧ off + n ≤ cs.length then some { val := .any, rd := [l], up := [(l, .cells (splice cs off ys))] } else none
    | _ => none
  | some (_, n), .own l i m o sz, some ys => match σ.heap[l]? with
    | some (.acc false sz' rows) => if sz' = sz ∧ rows.length = m then rows[i]?.bind fun r => if ys.length = n ∧ o + n ≤ sz then some { val := .any, rd := [l], up := [(l, .acc false sz (rows.set i (splice r o ys)))] } else none else none
    | _ => none
  | _, _, _ => none

def opX (P : Program) (σ : AState) : Op → Option Eff
  | .indexAddr t x i => match telem P t with
    | some (_, sz, _) => ixA σ sz (σ.ev x) (σ.ev i)
    | none => opEff P σ (.indexAddr t x i)
  | .index t x i => if tstr P t = true then ixS (σ.ev x) (σ.ev i) else none
  | .binOp op t x y ty => match op with
    | .eql => opEff P σ (.binOp .eql t x y ty)
    | .neq => opEff P σ (.binOp .neq t x y ty)
    | op => (binAV op (σ.ev x) (σ.ev y)).bind fun v => some { val := v }
  | .load t x => ldA P σ t (σ.ev x)
  | .store t x y => stA P σ t (σ.ev x) (cellsOf (σ.ev y))
  | o => opEff P σ o

theorem vwL_of_nb (H : List AObj) : ∀ cs : List AV, nbL 0 cs → vwL H cs = some (cs, [])
  | [], _ => rfl
  | c :: cs, h => by
    have ih := vwL_of_nb H cs h.2
    cases c with
    | acc l n => exact absurd h.1 (Nat.not_lt_zero _)
    | _ => simp only [vwL, ih]

theorem opX_eq (P : Program) (σ : AState) (o : Op) : opEff P σ o = opX P σ o := by
  cases o with
  | indexAddr t x i =>
    simp only [opX]
    cases ht : telem P t with
    | none => rfl
    | some q =>
      obtain ⟨e, sz, b⟩ := q
      simp only [opEff, ht]
      cases hx : σ.ev x <;> cases hi : σ.ev i <;> simp only [ixA]
      · rename_i tt sz' rows k n
        by_cases h1 : sz' = sz
        · by_cases h2 : 0 ≤ n
          · simp only [h1, h2, and_self, if_true, idxA]
            cases rows[n.toNat]? <;> rfl
          · simp only [h1, h2, and_false, if_false, if_true, idxA]; rfl
        · simp only [h1, false_and, if_false]
      · rename_i l m k n
        cases hl : σ.heap[l]? with
        | none => rfl
        | some ob =>
          cases ob with
          | acc imm sz' rows =>
            cases imm with
            | false =>
              simp only
              by_cases h1 : sz' = sz
              · by_cases h3 : rows.length = m
                · by_cases h2 : 0 ≤ n
                  · by_cases h4 : n < m
                    · have h5 : n.toNat < rows.length := by omega
                      simp only [h1, h2, h3, h4, and_self, if_true, idxA, List.getElem?_eq_getElem h5]; rfl
                    · have h5 : rows.length ≤ n.toNat := by omega
                      simp only [h1, h2, h3, h4, and_false, if_false, and_self, if_true, idxA, List.getElem?_eq_none h5]; rfl
                  · simp only [h1, h2, h3, and_false, false_and, if_false, and_self, if_true, idxA]; rfl
                · simp only [h3, and_false, false_and, if_false]
              · simp only [h1, false_and, if_false]
            | true =>
              simp only
              by_cases h1 : sz' = sz
              · by_cases h3 : rows.length = m
                · by_cases h2 : 0 ≤ n
                  · simp only [h1, h2, h3, and_self, if_true, idxA]
                    cases rows[n.toNat]? <;> rfl
                  · simp only [h1, h2, h3, and_false, false_and, if_false, and_self, if_true, idxA]; rfl
                · simp only [h3, and_false, if_false]
              · simp only [h1, false_and, if_false]
          | _ => rfl
  | index t x i =>
    simp only [opX, opEff]
    cases ht : tstr P t
    · cases hx : σ.ev x <;> cases hi : σ.ev i <;> simp
    · cases hx : σ.ev x <;> cases hi : σ.ev i <;> simp only [ixS, if_true]
      rename_i s k n
      by_cases h2 : 0 ≤ n
      · simp only [h2, if_true, idxB]
        cases s[n.toNat]? <;> rfl
      · simp only [h2, if_false, idxB]; rfl
  | binOp op t x y ty =>
    cases op with
    | eql => rfl
    | neq => rfl
    | _ =>
      simp only [opX, opEff]
      generalize binAV _ (σ.ev x) (σ.ev y) = q
      cases q <;> rfl
  | load t x =>
    simp only [opX, opEff, ldA]
    cases ht : tinfo P t with
    | none => rfl
    | some q =>
      obtain ⟨g, n⟩ := q
      cases hx : σ.ev x with
      | ptr l off =>
        cases hl : σ.heap[l]? with
        | none => simp only [hl]
        | some ob =>
          cases ob with
          | cells cs =>
            simp only [hl]
            cases loadAV g n (cs.drop off) <;> rfl
          | _ => simp only [hl]
      | pp cs =>
        simp only
        cases loadAV g n cs <;> rfl
      | own l i m o sz =>
        cases hl : σ.heap[l]? with
        | none => simp only [hl]
        | some ob =>
          cases ob with
          | acc imm sz' rows =>
            cases imm with
            | true => simp only [hl]
            | false =>
              simp only [hl]
              split
              · cases rows[i]? with
                | none => rfl
                | some r =>
                  simp only [Option.bind_some]
                  cases loadAV g n (r.drop o) <;> rfl
              · rfl
          | _ => simp only [hl]
      | _ => rfl
  | store t x y =>
    simp only [opX, opEff, stA]
    cases ht : tinfo P t with
    | none => rfl
    | some q =>
      obtain ⟨g, n⟩ := q
      cases hx : σ.ev x with
      | ptr l off =>
        cases cellsOf (σ.ev y) with
        | none => rfl
        | some ys =>
          cases hl : σ.heap[l]? with
          | none => simp only [hl]
          | some ob => cases ob <;> simp only [hl]
      | own l i m o sz =>
        cases cellsOf (σ.ev y) with
        | none => rfl
        | some ys =>
          cases hl : σ.heap[l]? with
          | none => simp only [hl]
          | some ob =>
            cases ob with
            | acc imm sz' rows =>
              cases imm with
              | true => simp only [hl]
              | false =>
                simp only [hl]
                split
                · cases rows[i]? <;> rfl
                · rfl
            | _ => simp only [hl]
      | _ => rfl
  | _ => rfl
end Go.Abs
namespace Go.Abs

section freeze
variable {C : Ctx} {φ : Nat → Value} {σ : AState} {a : Act} {w : World}

def rp1 (l : Nat) (cs : List AV) : AV → AV
  | .ptr k off => if k = l then .pp (cs.drop off) else .ptr k off
  | x => x
def rpV (l : Nat) (cs : List AV) : AV → AV
  | .ptr k off => if k = l then .pp (cs.drop off) else .ptr k off
  | .func fn f c => .func fn (f.map (rp1 l cs)) (c.map (rp1 l cs))
  | x => x
def rpO (l : Nat) (cs : List AV) : AObj → AObj
  | .cells ds => .cells (ds.map (rpV l cs))
  | x => x

noncomputable def fzOne (l : Nat) (σ : AState) : Option AState :=
  match σ.heap[l]? with
  | some (.cells cs) => pcond (nbL 0 cs ∧ σ.low ≤ l) (some { slots := σ.slots.map (rpV l cs), heap := (σ.heap.map (rpO l cs)).set l .dead, low := σ.low })
  | _ => none

theorem rpO_muts {l : Nat} {cs : List AV} {x : AObj} {h : Value} {b o : Nat} : (rpO l cs x).muts h b o → x.muts h b o := by
  cases x with
  | cells ds => exact muts_cells
  | _ => exact id
theorem rpO_block {l : Nat} {cs : List AV} {x : AObj} {h : Value} {b : Nat} : (rpO l cs x).block h b → x.block h b := by
  cases x with
  | cells ds => exact block_cells
  | _ => exact id
theorem rpO_len {l : Nat} {cs : List AV} {x : AObj} : accLen (some (rpO l cs x)) = accLen (some x) := by
  cases x <;> rfl

theorem fz_get {H : List AObj} {l k : Nat} {cs : List AV} {y : AObj} (h : ((H.map (rpO l cs)).set l .dead)[k]? = some y) : (k = l ∧ y = .dead) ∨ (k ≠ l ∧ ∃ x, H[k]? = some x ∧ y = rpO l cs x) := by
  by_cases e : k = l
  · subst e
    by_cases hk : k < H.length
    · rw [List.getElem?_set_self (by simpa using hk)] at h; cases h; exact .inl ⟨rfl, rfl⟩
    · rw [List.getElem?_eq_none (by simp; omega)] at h; cases h
  · rw [List.getElem?_set_ne (fun h => e h.symm), List.getElem?_map] at h
    cases hx : H[k]? with
    | none => rw [hx] at h; cases h
    | some x => rw [hx] at h; cases h; exact .inr ⟨e, x, rfl, rfl⟩

theorem fzOne_ok {l : Nat} {σ σ' : AState} (h : fzOne l σ = some σ') : Imp σ σ' := by
  unfold fzOne at h
  split at h
  case h_2 => cases h
  rename_i cs hl
  rw [pcond_some] at h
  obtain ⟨⟨hnb, hlow⟩, h⟩ := h
  cases h
  intro C φ a w S
  refine ⟨φ, ?_⟩
  have hlt : l < σ.heap.length := (List.getElem?_eq_some_iff.1 hl).1
  obtain ⟨b0, c0, t0, hφ, hh, rl, hone⟩ := S.objs l _ hl
  let H' : List AObj := (σ.heap.map (rpO l cs)).set l .dead
  have hlen : H'.length = σ.heap.length := by simp [H']
  have hget : ∀ (k : Nat) (y : AObj), H'[k]? = some y → (k = l ∧ y = .dead) ∨ (k ≠ l ∧ ∃ x, σ.heap[k]? = some x ∧ y = rpO l cs x) := fun k y hy => fz_get hy
  have hmut : ∀ b o, Mut φ H' b o → Mut φ σ.heap b o := by
    rintro b o ⟨k, y, hy, hm⟩
    rcases hget k y hy with ⟨_, rfl⟩ | ⟨_, x, hx, rfl⟩
    · simp [AObj.muts] at hm
    · exact ⟨k, x, hx, rpO_muts hm⟩
  have hlenk : ∀ k : Nat, accLen H'[k]? = accLen σ.heap[k]? := by
    intro k
    by_cases e : k = l
    · subst e
      simp only [H']
      rw [List.getElem?_set_self (by simpa using hlt), hl]; rfl
    · simp only [H']
      rw [List.getElem?_set_ne (fun h => e h.symm), List.getElem?_map]
      cases σ.heap[k]? with
      | none => rfl
      | some x => exact rpO_len
  have le : (C.env φ σ.heap w).Le σ.heap.length (C.env φ H' w) :=
    Ctx.env_le (by rw [hlen]; exact Nat.le_refl _) (fun k _ => ⟨rfl, hlenk k⟩) (fun b o u hm hc => ⟨fun h => hm (h.imp (hmut b o) id), hc⟩)
  have hfree : ∀ o, ¬ (Mut φ H' b0 o ∨ C.A b0 o) := by
    rintro o (⟨k, y, hy, hm⟩ | hA)
    · rcases hget k y hy with ⟨_, rfl⟩ | ⟨hne, x, hx, rfl⟩
      · simp [AObj.muts] at hm
      · exact hne (S.apart k l x _ b0 hx hl (rpO_block (AObj.block_of_muts hm)) (by rw [hφ]; rfl))
    · exact S.notA l _ b0 o hl (by rw [hφ]; rfl) hA
  have rl' : RepL (C.env φ H' w) cs c0.toList := RepL.mono le _ _ (nbL_le (Nat.zero_le _) _ hnb) rl
  have hpp : ∀ (off : Nat) (v : Value), Rep (C.env φ σ.heap w) (.ptr l off) v → Rep (C.env φ H' w) (.pp (cs.drop off)) v := by
    rintro off v ⟨_, b, hb, rfl⟩
    have e : b0 = b := by
      have hb' : φ l = .pointer (some ⟨b, 0, none⟩) := hb
      rw [hφ] at hb'; simpa using hb'
    subst e
    refine ⟨b0, off, rfl, ?_⟩
    have hd := rl'.drop off
    have h1 : ∀ u ∈ c0.toList.drop off, u.oneCell' = true := fun u hu => hone u (List.mem_of_mem_drop hu)
    have hl2 := hd.length
    exact repMem_of_cells (E := C.env φ H' w) (c := c0) (t := t0) (fr := (0, 0)) hh _ off (fun o _ _ => hfree o) (by rw [List.take_of_length_le (by omega)]; exact hd) (by rw [List.take_of_length_le (by omega)]; exact h1)
  have h1 : ∀ (x : AV) (v : Value), Rep (C.env φ σ.heap w) x v → Rep (C.env φ H' w) (rp1 l cs x) v := by
    intro x v r
    cases x with
    | ptr k off =>
      simp only [rp1]
      split
      · rename_i e; subst e; exact hpp off v r
      · exact Rep.mono le _ _ (Rep.nb _ _ r) r
    | _ => exact Rep.mono le _ _ (Rep.nb _ _ r) r
  have hL1 : ∀ (xs : List AV) (vs : List Value), RepL (C.env φ σ.heap w) xs vs → RepL (C.env φ H' w) (xs.map (rp1 l cs)) vs := by
    intro xs
    induction xs with
    | nil => intro vs r; exact r
    | cons x xs ih => rintro _ ⟨u, us, rfl, r1, r2⟩; exact ⟨u, us, rfl, h1 x u r1, ih us r2⟩
  have hV : ∀ (x : AV) (v : Value), Rep (C.env φ σ.heap w) x v → Rep (C.env φ H' w) (rpV l cs x) v := by
    intro x v r
    cases x with
    | ptr k off =>
      simp only [rpV]
      split
      · rename_i e; subst e; exact hpp off v r
      · exact Rep.mono le _ _ (Rep.nb _ _ r) r
    | func fn f c =>
      obtain ⟨f', c', hv, r1, r2⟩ := r
      exact ⟨f', c', hv, hL1 _ _ r1, hL1 _ _ r2⟩
    | _ => exact Rep.mono le _ _ (Rep.nb _ _ r) r
  have hLV : ∀ (xs : List AV) (vs : List Value), RepL (C.env φ σ.heap w) xs vs → RepL (C.env φ H' w) (xs.map (rpV l cs)) vs := by
    intro xs
    induction xs with
    | nil => intro vs r; exact r
    | cons x xs ih => rintro _ ⟨u, us, rfl, r1, r2⟩; exact ⟨u, us, rfl, hV x u r1, ih us r2⟩
  refine { slots := hLV _ _ S.slots, defers := S.defers, objs := ?_, apart := ?_, notA := ?_, size := S.size, old := S.old, oldObj := S.oldObj, inM := ?_, froz := S.froz, rest := S.rest, low := ⟨S.low.1, by show σ.low ≤ H'.length; rw [hlen]; exact S.low.2⟩, names := ?_ }
  · intro k y hy
    rcases hget k y hy with ⟨_, rfl⟩ | ⟨_, x, hx, rfl⟩
    · exact trivial
    · have r := S.objs k x hx
      cases x with
      | cells ds =>
        obtain ⟨b, c, t, h1, h2, h3, h4⟩ := r
        exact ⟨b, c, t, h1, h2, hLV _ _ h3, h4⟩
      | _ => exact ObjRep.mono r le (fun _ _ => rfl)
  · intro k k' y y' b hy hy' hb hb'
    rcases hget k y hy with ⟨_, rfl⟩ | ⟨_, x, hx, rfl⟩
    · simp [AObj.block] at hb
    · rcases hget k' y' hy' with ⟨_, rfl⟩ | ⟨_, x', hx', rfl⟩
      · simp [AObj.block] at hb'
      · exact S.apart k k' x x' b hx hx' (rpO_block hb) (rpO_block hb')
  · intro k y b o hy hb
    rcases hget k y hy with ⟨_, rfl⟩ | ⟨_, x, hx, rfl⟩
    · simp [AObj.block] at hb
    · exact S.notA k x b o hx (rpO_block hb)
  · intro k y b o hy hm hb
    rcases hget k y hy with ⟨_, rfl⟩ | ⟨_, x, hx, rfl⟩
    · simp [AObj.muts] at hm
    · exact S.inM k x b o hx (rpO_muts hm) hb
  · intro k hk
    have := S.names k hk
    show (φ k = _ ∧ (accLen H'[k]? = _ ∨ accLen H'[k]? = none)) ∨ ((∃ q, _ ∧ ∀ k', accLen H'[k]? = some k' → q < k') ∧ _)
    rw [hlenk k]; exact this
end freeze

noncomputable def fzAll : List Nat → AState → Option AState
  | [], σ => some σ
  | l :: ls, σ => (fzOne l σ).bind (fzAll ls)
theorem fzAll_ok : ∀ {ls : List Nat} {σ σ' : AState}, fzAll ls σ = some σ' → Imp σ σ'
  | [], σ, σ', h => by simp only [fzAll, Option.some.injEq] at h; subst h; exact Imp.refl _
  | l :: ls, σ, σ', h => by
    simp only [fzAll, Option.bind_eq_some_iff] at h
    obtain ⟨σ1, h1, h2⟩ := h
    exact (fzOne_ok h1).trans (fzAll_ok h2)
noncomputable def tabF : List (List Nat × List Nat) → List Nat → AState → Option AState
  | [], _, σ => some σ
  | (q, ls) :: t, p, σ => if p = q then fzAll ls σ else tabF t p σ
theorem tabF_ok : ∀ (t : List (List Nat × List Nat)) (p : List Nat) (σ σ' : AState), tabF t p σ = some σ' → Imp σ σ'
  | [], _, σ, σ', h => by simp only [tabF, Option.some.injEq] at h; subst h; exact Imp.refl _
  | (q, ls) :: t, p, σ, σ', h => by
    simp only [tabF] at h
    split at h
    · exact fzAll_ok h
    · exact tabF_ok t p σ σ' h

-- single cells as structs
section cels
def cI (k : IntKind) : Cel Int where
  enc n := [.int k n]
  dec _ cs := dI1 k cs
  ok H n cs x h := by
    unfold dI1 at h
    split at h
    · exact CoL1.cons (dI_ok h) CoL1.nil
    · cases h
  nb _ _ := ⟨trivial, trivial⟩
def cB : Cel Bool where
  enc b := [.bool b]
  dec _ cs := dB1 cs
  ok H n cs x h := by
    unfold dB1 at h
    split at h
    · exact CoL1.cons (dB_ok h) CoL1.nil
    · cases h
  nb _ _ := ⟨trivial, trivial⟩
def cS : Cel Str where
  enc s := [.str (sb s)]
  dec _ cs := dS1 cs
  ok H n cs x h := by
    unfold dS1 at h
    split at h
    · exact CoL1.cons (dS_ok h) CoL1.nil
    · cases h
  nb _ _ := ⟨trivial, trivial⟩
variable {α β γ : Type}
def dL1 (r : Row α) (H : List AObj) : List AV → Option (List α)
  | [c] => dL r H c
  | _ => none
def cL (r : Row α) : Cel (List α) where
  enc xs := [.lst false r.sz (mp r.enc xs)]
  dec := dL1 r
  ok H n cs x h := by
    unfold dL1 at h
    split at h
    · exact CoL1.cons (dL_ok h) CoL1.nil
    · cases h
  nb n xs := ⟨nbR_rows xs, trivial⟩
def dF1 (f : FuncId) : List AV → Option Unit
  | [c] => dF f c
  | _ => none
def cF (f : FuncId) : Cel Unit where
  enc _ := [.func (.func f) [] []]
  dec _ cs := dF1 f cs
  ok H n cs x h := by
    unfold dF1 at h
    split at h
    · unfold dF at h
      split at h
      · split at h
        · rename_i e; subst e; exact CoL1.cons (Co1.sub (Sub.refl _) ⟨trivial, trivial⟩) CoL1.nil
        · cases h
      · cases h
    · cases h
  nb _ _ := ⟨⟨trivial, trivial⟩, trivial⟩
theorem cI_f {k : IntKind} : (∀ n, (cI k).enc n = [.int k n]) ∧ ∀ H cs, (cI k).dec H cs = dI1 k cs := ⟨fun _ => rfl, fun _ _ => rfl⟩
theorem cB_f : (∀ n, cB.enc n = [.bool n]) ∧ ∀ H cs, cB.dec H cs = dB1 cs := ⟨fun _ => rfl, fun _ _ => rfl⟩
theorem cS_f : (∀ n, cS.enc n = [.str (sb n)]) ∧ ∀ H cs, cS.dec H cs = dS1 cs := ⟨fun _ => rfl, fun _ _ => rfl⟩
theorem cL_f {r : Row α} : (∀ n, (cL r).enc n = [.lst false r.sz (mp r.enc n)]) ∧ ∀ H cs, (cL r).dec H cs = dL1 r H cs := ⟨fun _ => rfl, fun _ _ => rfl⟩
theorem cF_f {f : FuncId} : (∀ n, (cF f).enc n = [.func (.func f) [] []]) ∧ ∀ H cs, (cF f).dec H cs = dF1 f cs := ⟨fun _ => rfl, fun _ _ => rfl⟩

def dP (c : Cel α) : AV → Option α
  | .pp cs => c.dec [] cs
  | _ => none
theorem dP_ok {c : Cel α} {v : AV} {x : α} (h : dP c v = some x) : Sub v (.pp (c.enc x)) := by
  unfold dP at h
  split at h
  · exact Sub.pp (c.ok [] 0 _ _ h).toSub.subM
  · cases h
def tyP (c : Cel α) : Ty α where
  enc x := .pp (c.enc x)
  dec _ := dP c
  ok H n v x h := Co.sub (dP_ok h) (c.nb n x)
  nb n x := c.nb n x
theorem tyP_enc {c : Cel α} {x : α} : (tyP c).enc x = .pp (c.enc x) := rfl
theorem tyP_dec {c : Cel α} {H : List AObj} {v : AV} : (tyP c).dec H v = dP c v := rfl

def dK1 (f : FuncId) (a : Ty α) : AV → Option α
  | .func (.func g) [] [x] => if g = f then a.dec [] x else none
  | _ => none
def dK2 (f : FuncId) (a : Ty α) (b : Ty β) : AV → Option (α × β)
  | .func (.func g) [] [x, y] => if g = f then (a.dec [] x).bind fun u => (b.dec [] y).bind fun v => some (u, v) else none
  | _ => none
def dK3 (f : FuncId) (a : Ty α) (b : Ty β) (c : Ty γ) : AV → Option (α × β × γ)
  | .func (.func g) [] [x, y, z] => if g = f then (a.dec [] x).bind fun u => (b.dec [] y).bind fun v => (c.dec [] z).bind fun w => some (u, v, w) else none
  | _ => none
def tyK1 (f : FuncId) (a : Ty α) : Ty α where
  enc x := .func (.func f) [] [a.enc x]
  dec _ := dK1 f a
  ok H n v x h := by
    unfold dK1 at h
    split at h
    · split at h
      · rename_i e; subst e
        exact Co.sub (Sub.func SubL.nil (SubL.cons (a.ok [] 0 _ _ h).toSub SubL.nil)) ⟨trivial, a.nb n x, trivial⟩
      · cases h
    · cases h
  nb n x := ⟨trivial, a.nb n x, trivial⟩
def tyK2 (f : FuncId) (a : Ty α) (b : Ty β) : Ty (α × β) where
  enc x := .func (.func f) [] [a.enc x.1, b.enc x.2]
  dec _ := dK2 f a b
  ok H n v x h := by
    unfold dK2 at h
    split at h
    · split at h
      · rename_i e; subst e
        simp only [Option.bind_eq_some_iff, Option.some.injEq] at h
        obtain ⟨u, hu, w, hw, rfl⟩ := h
        exact Co.sub (Sub.func SubL.nil (SubL.cons (a.ok [] 0 _ _ hu).toSub (SubL.cons (b.ok [] 0 _ _ hw).toSub SubL.nil))) ⟨trivial, a.nb n u, b.nb n w, trivial⟩
      · cases h
    · cases h
  nb n x := ⟨trivial, a.nb n _, b.nb n _, trivial⟩
def tyK3 (f : FuncId) (a : Ty α) (b : Ty β) (c : Ty γ) : Ty (α × β × γ) where
  enc x := .func (.func f) [] [a.enc x.1, b.enc x.2.1, c.enc x.2.2]
  dec _ := dK3 f a b c
  ok H n v x h := by
    unfold dK3 at h
    split at h
    · split at h
      · rename_i e; subst e
        simp only [Option.bind_eq_some_iff, Option.some.injEq] at h
        obtain ⟨u, hu, w, hw, p, hp, rfl⟩ := h
        exact Co.sub (Sub.func SubL.nil (SubL.cons (a.ok [] 0 _ _ hu).toSub (SubL.cons (b.ok [] 0 _ _ hw).toSub (SubL.cons (c.ok [] 0 _ _ hp).toSub SubL.nil)))) ⟨trivial, a.nb n u, b.nb n w, c.nb n p, trivial⟩
      · cases h
    · cases h
  nb n x := ⟨trivial, a.nb n _, b.nb n _, c.nb n _, trivial⟩
theorem tyK1_f {f : FuncId} {a : Ty α} : (∀ x, (tyK1 f a).enc x = .func (.func f) [] [a.enc x]) ∧ ∀ H v, (tyK1 f a).dec H v = dK1 f a v := ⟨fun _ => rfl, fun _ _ => rfl⟩
theorem tyK2_f {f : FuncId} {a : Ty α} {b : Ty β} : (∀ x, (tyK2 f a b).enc x = .func (.func f) [] [a.enc x.1, b.enc x.2]) ∧ ∀ H v, (tyK2 f a b).dec H v = dK2 f a b v := ⟨fun _ => rfl, fun _ _ => rfl⟩
theorem tyK3_f {f : FuncId} {a : Ty α} {b : Ty β} {c : Ty γ} : (∀ x, (tyK3 f a b c).enc x = .func (.func f) [] [a.enc x.1, b.enc x.2.1, c.enc x.2.2]) ∧ ∀ H v, (tyK3 f a b c).dec H v = dK3 f a b c v := ⟨fun _ => rfl, fun _ _ => rfl⟩
end cels
end Go.Abs
namespace Go.Abs

section objs
variable {α β γ : Type}

structure OTy (α : Type) where
  enc : α → AObj
  dec : List AObj → AObj → Option α
  ok : ∀ H n x y, dec H x = some y → CoObj H n x (enc y)
  ren : ∀ τ y, (enc y).ren τ = enc y
  nb : ∀ n y, objNb n (enc y)

def daT (imm : Bool) (r : Row α) : AObj → Option (List α)
  | .acc imm' sz rows => if imm' = imm ∧ sz = r.sz then mapO r.dec rows else none
  | _ => none
def oaT (imm : Bool) (r : Row α) : OTy (List α) where
  enc xs := .acc imm r.sz (mp r.enc xs)
  dec _ := daT imm r
  ok H n x y h := by
    unfold daT at h
    split at h
    · split at h
      · rename_i hc
        obtain ⟨rfl, rfl⟩ := hc
        exact .inr (.inr (.inr ⟨_, _, _, _, rfl, rfl, (mapO_rows h).2, nbR_rows y⟩))
      · cases h
    · cases h
  ren τ y := by simp only [AObj.ren]; rw [renR_of_nb τ _ (nbR_rows y)]
  nb n y := nbR_rows y
def dcT (c : Cel α) (H : List AObj) : AObj → Option α
  | .cells cs => c.dec H cs
  | _ => none
def ocT (c : Cel α) : OTy α where
  enc x := .cells (c.enc x)
  dec := dcT c
  ok H n x y h := by
    unfold dcT at h
    split at h
    · exact .inr (.inr (.inl ⟨_, _, rfl, rfl, (c.ok H n _ _ h).toCoL⟩))
    · cases h
  ren τ y := by simp only [AObj.ren]; rw [renL_of_nb τ _ (c.nb 0 y)]
  nb n y := c.nb n y
theorem oaT_f {imm : Bool} {r : Row α} : (∀ x, (oaT imm r).enc x = .acc imm r.sz (mp r.enc x)) ∧ ∀ H x, (oaT imm r).dec H x = daT imm r x := ⟨fun _ => rfl, fun _ _ => rfl⟩
theorem ocT_f {c : Cel α} : (∀ x, (ocT c).enc x = .cells (c.enc x)) ∧ ∀ H x, (ocT c).dec H x = dcT c H x := ⟨fun _ => rfl, fun _ _ => rfl⟩

structure OSpec (β : Type) where
  enc : β → List AObj
  dec : List AObj → List AObj → Option β
  ok : ∀ H n xs b, dec H xs = some b → CoH H n xs (enc b) ∧ (enc b).length = xs.length
  ren : ∀ τ b, ∀ y ∈ enc b, y.ren τ = y
  nb : ∀ n b, ∀ y ∈ enc b, objNb n y
def osN : OSpec Unit where
  enc _ := []
  dec _
    | [] => some ()
    | _ => none
  ok H n xs b h := by
    split at h
    · exact ⟨CoH.nil, rfl⟩
    · cases h
  ren _ _ := by simp
  nb _ _ := by simp
def dosC (o : OTy γ) (s : OSpec β) (H : List AObj) : List AObj → Option (γ × β)
  | x :: xs => (o.dec H x).bind fun y => (s.dec H xs).bind fun b => some (y, b)
  | [] => none
def osC (o : OTy γ) (s : OSpec β) : OSpec (γ × β) where
  enc b := o.enc b.1 :: s.enc b.2
  dec := dosC o s
  ok H n xs b h := by
    unfold dosC at h
    split at h
    · simp only [Option.bind_eq_some_iff, Option.some.injEq] at h
      obtain ⟨y, hy, b, hb, rfl⟩ := h
      obtain ⟨h1, h2⟩ := s.ok H n _ _ hb
      exact ⟨⟨o.ok H n _ _ hy, h1⟩, by simp [h2]⟩
    · cases h
  ren τ b y hy := by
    simp only [List.mem_cons] at hy
    rcases hy with rfl | hy
    · exact o.ren τ _
    · exact s.ren τ _ y hy
  nb n b y hy := by
    simp only [List.mem_cons] at hy
    rcases hy with rfl | hy
    · exact o.nb n _
    · exact s.nb n _ y hy
theorem osN_f : (∀ b, osN.enc b = []) ∧ ∀ H, osN.dec H [] = some () := ⟨fun _ => rfl, fun _ => rfl⟩
theorem osC_f {o : OTy γ} {s : OSpec β} : (∀ b, (osC o s).enc b = o.enc b.1 :: s.enc b.2) ∧ ∀ H xs, (osC o s).dec H xs = dosC o s H xs := ⟨fun _ => rfl, fun _ _ => rfl⟩

structure RSpec (β α : Type) where
  enc : β → α → List AV
  dec : β → List AObj → List AV → Option α
  need : Nat
  ok : ∀ b H n xs a, need ≤ n → dec b H xs = some a → CoL H n xs (enc b a)
def rsN : RSpec β Unit where
  enc _ _ := []
  dec _ _
    | [] => some ()
    | _ => none
  need := 0
  ok b H n xs a _ h := by
    split at h
    · exact CoL.nil
    · cases h
def drsT (t : Ty γ) (s : RSpec β α) (b : β) (H : List AObj) : List AV → Option (γ × α)
  | x :: xs => (t.dec H x).bind fun y => (s.dec b H xs).bind fun a => some (y, a)
  | [] => none
def rsT (t : Ty γ) (s : RSpec β α) : RSpec β (γ × α) where
  enc b a := t.enc a.1 :: s.enc b a.2
  dec := drsT t s
  need := s.need
  ok b H n xs a hn h := by
    unfold drsT at h
    split at h
    · simp only [Option.bind_eq_some_iff, Option.some.injEq] at h
      obtain ⟨y, hy, a, ha, rfl⟩ := h
      exact CoL.cons (t.ok H n _ _ hy) (s.ok b H n _ _ hn ha)
    · cases h
def drsA (k : Nat) (len : β → Nat) (s : RSpec β α) (b : β) (H : List AObj) : List AV → Option α
  | .acc l m :: xs => if l = k ∧ m = len b then s.dec b H xs else none
  | _ => none
def rsA (k : Nat) (len : β → Nat) (s : RSpec β α) : RSpec β α where
  enc b a := .acc k (len b) :: s.enc b a
  dec := drsA k len s
  need := max (k + 1) s.need
  ok b H n xs a hn h := by
    unfold drsA at h
    split at h
    · split at h
      · rename_i hc
        obtain ⟨rfl, rfl⟩ := hc
        exact CoL.cons (Co.same (show _ < n by omega)) (s.ok b H n _ _ (by omega) h)
      · cases h
    · cases h
theorem rsN_f : (∀ (b : β) a, rsN.enc b a = []) ∧ (∀ (b : β) H, rsN.dec b H [] = some ()) ∧ (rsN : RSpec β Unit).need = 0 := ⟨fun _ _ => rfl, fun _ _ => rfl, rfl⟩
theorem rsT_f {t : Ty γ} {s : RSpec β α} : (∀ b a, (rsT t s).enc b a = t.enc a.1 :: s.enc b a.2) ∧ (∀ b H xs, (rsT t s).dec b H xs = drsT t s b H xs) ∧ (rsT t s).need = s.need := ⟨fun _ _ => rfl, fun _ _ _ => rfl, rfl⟩
theorem rsA_f {k : Nat} {len : β → Nat} {s : RSpec β α} : (∀ b a, (rsA k len s).enc b a = .acc k (len b) :: s.enc b a) ∧ (∀ b H xs, (rsA k len s).dec b H xs = drsA k len s b H xs) ∧ (rsA k len s).need = max (k + 1) s.need := ⟨fun _ _ => rfl, fun _ _ _ => rfl, rfl⟩
end objs

def tupOf : List AV → AV
  | [y] => y
  | ys => .tup ys

theorem CoH.take {H : List AObj} {n : Nat} : ∀ {xs ys : List AObj} (k : Nat), CoH H n (xs.take k) ys → CoH H n xs ys
  | _, [], _, _ => CoH.nil
  | [], _ :: _, k, h => by cases k <;> exact h.elim
  | x :: xs, y :: ys, 0, h => h.elim
  | x :: xs, y :: ys, k + 1, h => ⟨h.1, CoH.take k h.2⟩

section runG
variable {R : Type} {M : Mach R}

theorem fnG_run {f : FuncId} {fn : Func} {args : List AV} {H : List AObj} {ys : List AV} {H' : List AObj} {r : R} {n : Nat} {rs : List ResultVar} (G : Good M) (hf : M.P.funcs[f]? = some fn) (hb : fn.body = some M.body) (hne : (fn.name != "runtime.NumGoroutine") = true)
    (hnb : nbL H.length args) (hnbH : ∀ x ∈ H, objNb H.length x) (hn : fn.ntmps = n) (hrs : fn.results = rs.toArray)
    (hout : ∀ σ, M.out σ = some r → ∃ xs, resList M.P σ rs = some xs ∧ Imp ⟨xs, σ.heap, σ.low⟩ ⟨ys, H', σ.low⟩)
    (h : run M [.at []] { slots := args ++ List.replicate (n - args.length) .any, heap := H, low := H.length } = some r) : FnG M.P f args H (fun o H'' => o = .ret (tupOf ys) ∧ H'' = H') := by
  refine fnG_of_body hf hb hne hnb hnbH hn hrs ?_
  refine run_sound G h fun σ' hs => ?_
  obtain ⟨xs, hx, himp⟩ := hout σ' hs
  have key : ∃ x, resAV M.P σ' rs = some x ∧ ∃ r H'', Export σ' x r H'' ∧ ((AOut.ret r) = .ret (tupOf ys) ∧ H'' = H') := by
    have exp : ∀ (x : AV), (∀ C φ a w, Sim C φ σ' a w → ∀ v, Rep (C.env φ σ'.heap w) x v → ∃ vs : List Value, RepL (C.env φ σ'.heap w) xs vs ∧ ∀ E, RepL E ys vs → Rep E (tupOf ys) v) → Export σ' x (tupOf ys) H' := by
      intro x hx2 C φ a w S v hv
      obtain ⟨vs, hvs, hback⟩ := hx2 C φ a w S v hv
      have S0 : Sim C φ ⟨xs, σ'.heap, σ'.low⟩ { tmps := vs.toArray, defers := [] } w := { S with slots := by simpa using hvs, defers := rfl }
      obtain ⟨φ', S1⟩ := himp C φ _ w S0
      exact ⟨φ', { S1 with slots := rfl, defers := rfl }, hback _ (by simpa using S1.slots)⟩
    unfold resAV
    rw [hx]
    match xs, hx, exp with
    | [x], hx, exp =>
      refine ⟨x, rfl, _, _, exp x ?_, rfl, rfl⟩
      intro C φ a w S v hv
      refine ⟨[v], ⟨v, [], rfl, hv, rfl⟩, fun E hr => ?_⟩
      have := hr.length
      match ys, this, hr with
      | [y], _, ⟨u, us, he, h1, h2⟩ =>
        simp only [List.cons.injEq] at he
        obtain ⟨rfl, _⟩ := he
        exact h1
    | [], hx, exp =>
      refine ⟨.tup [], rfl, _, _, exp _ ?_, rfl, rfl⟩
      rintro C φ a w S v ⟨vs, rfl, hvs⟩
      refine ⟨vs.toList, hvs, fun E hr => ?_⟩
      have h1 := hr.length
      have h2 := hvs.length
      match ys, hr, h1 with
      | [], hr, _ => exact ⟨vs, rfl, hr⟩
      | [_], hr, h1 => rw [h1] at h2; simp at h2
      | _ :: _ :: _, hr, h1 => rw [h1] at h2; simp at h2
    | x :: x' :: xs, hx, exp =>
      refine ⟨.tup (x :: x' :: xs), rfl, _, _, exp _ ?_, rfl, rfl⟩
      rintro C φ a w S v ⟨vs, rfl, hvs⟩
      refine ⟨vs.toList, hvs, fun E hr => ?_⟩
      have h1 := hr.length
      have h2 := hvs.length
      match ys, hr, h1 with
      | [], hr, h1 => rw [h1] at h2; simp at h2
      | [_], hr, h1 => rw [h1] at h2; simp at h2
      | _ :: _ :: _, hr, _ => exact ⟨vs, rfl, hr⟩
  exact ⟨key, key⟩
end runG

section outG
variable {α β γ : Type}
def outG (P : Program) (rs : List ResultVar) (os : OSpec β) (s : RSpec β α) (low : Nat) (σ : AState) : Option (β × α) :=
  (resList P σ rs).bind fun xs => (os.dec σ.heap (σ.heap.take low)).bind fun b => (s.dec b σ.heap xs).bind fun a => bif (σ.low == low) && decide (s.need ≤ low) && decide (low ≤ σ.heap.length) then some (b, a) else none

theorem outG_ok {P : Program} {rs : List ResultVar} {os : OSpec β} {s : RSpec β α} {low : Nat} {σ : AState} {r : β × α} (h : outG P rs os s low σ = some r) :
    ∃ xs, resList P σ rs = some xs ∧ Imp ⟨xs, σ.heap, σ.low⟩ ⟨s.enc r.1 r.2, os.enc r.1, σ.low⟩ := by
  unfold outG at h
  simp only [Option.bind_eq_some_iff] at h
  obtain ⟨xs, hx, b, hb, a, ha, h⟩ := h
  cases hc : ((σ.low == low) && decide (s.need ≤ low) && decide (low ≤ σ.heap.length)) with
  | false => simp [hc] at h
  | true =>
    simp only [hc, cond_true, Option.some.injEq] at h
    subst h
    simp only [Bool.and_eq_true, beq_iff_eq, decide_eq_true_eq] at hc
    obtain ⟨⟨h1, h2⟩, h3⟩ := hc
    refine ⟨xs, hx, Weak.imp ⟨⟨rfl, ?_⟩, ?_, ?_⟩⟩
    · obtain ⟨_, h5⟩ := os.ok σ.heap 0 _ _ hb
      show σ.low ≤ (os.enc b).length
      rw [h5, List.length_take]; omega
    · show CoL σ.heap (os.enc b).length xs (s.enc b a)
      obtain ⟨_, h5⟩ := os.ok σ.heap 0 _ _ hb
      exact s.ok b σ.heap _ xs a (by rw [h5, List.length_take]; omega) ha
    · show CoH σ.heap (os.enc b).length σ.heap (os.enc b)
      exact CoH.take low (os.ok σ.heap _ _ _ hb).1
end outG

section callG
theorem setAll_set : ∀ (ls : List Nat) (G : List AObj) (ys : List AObj) (l : Nat) (z : AObj), l ∉ ls → (setAll G ls ys).set l z = setAll (G.set l z) ls ys
  | [], _, _, _, _, _ => by simp [setAll]
  | _ :: _, _, [], _, _, _ => by simp [setAll]
  | k :: ls, G, y :: ys, l, z, h => by
    simp only [List.mem_cons, not_or] at h
    rw [setAll, setAll, setAll_set ls _ ys l z h.2, List.set_comm _ _ (fun e => h.1 e.symm)]
theorem setAll_setAll : ∀ (ls : List Nat) (G : List AObj) (ys ys' : List AObj), ls.Nodup → ls.length ≤ ys'.length → setAll (setAll G ls ys) ls ys' = setAll G ls ys'
  | [], _, _, _, _, _ => by simp [setAll]
  | _ :: _, _, _, [], _, h => by simp at h
  | l :: ls, G, [], y' :: ys', hnd, h => by simp [setAll]
  | l :: ls, G, y :: ys, y' :: ys', hnd, h => by
    rw [List.nodup_cons] at hnd
    simp only [List.length_cons, Nat.add_le_add_iff_right] at h
    simp only [setAll]
    rw [setAll_set ls _ ys l y' hnd.1, List.set_set, setAll_setAll ls _ ys ys' hnd.2 h]
theorem coH_of_get {H : List AObj} {n : Nat} : ∀ {xs ys : List AObj}, (∀ (k : Nat) (y : AObj), ys[k]? = some y → ∃ x, xs[k]? = some x ∧ CoObj H n x y) → CoH H n xs ys
  | _, [], _ => CoH.nil
  | [], y :: ys, h => by obtain ⟨x, hx, _⟩ := h 0 y (by simp); simp at hx
  | x :: xs, y :: ys, h => by
    obtain ⟨x', hx, hc⟩ := h 0 y (by simp)
    simp at hx; subst hx
    exact ⟨hc, coH_of_get fun k z hz => by have := h (k + 1) z (by simpa using hz); simpa using this⟩
theorem CoL.append {H : List AObj} {n : Nat} : ∀ {xs ys us vs : List AV}, CoL H n xs ys → CoL H n us vs → CoL H n (xs ++ us) (ys ++ vs)
  | [], _, _, _, rfl, h => h
  | _ :: _, _, _, _, ⟨y, zs, rfl, h, hs⟩, h2 => ⟨y, zs ++ _, rfl, h, CoL.append hs h2⟩

theorem callG {P : Program} {f : FuncId} {σ : AState} {cargs args : List AV} {Ys Ys' : List AObj} {r : AV} {ρ : List Nat} (hG : FnG P f args Ys (fun o H' => o = .ret r ∧ H' = Ys')) (hnd : ρ.Nodup) (hlen : ρ.length = Ys.length) (hlen' : ρ.length ≤ Ys'.length)
    (hobj : ∀ (i k : Nat), ρ[i]? = some k → ∃ x y, σ.heap[k]? = some x ∧ Ys[i]? = some y ∧ CoObj σ.heap σ.heap.length x y) (hargs : CoL σ.heap σ.heap.length cargs (renL (backTo ρ σ.heap.length) args))
    (hren : ∀ y ∈ Ys ++ Ys', ∀ τ, y.ren τ = y) : CallA P f cargs σ (fun o H' => o = .ret (r.ren (backTo ρ σ.heap.length)) ∧ H' = setAll σ.heap ρ Ys' ++ Ys'.drop ρ.length) := by
  refine ⟨hG.1, fun C φ a w hP S vs hr => ?_⟩
  let H1 := setAll σ.heap ρ Ys
  have hl1 : H1.length = σ.heap.length := setAll_length _ _ _
  have S0 : Sim C φ ⟨σ.slots ++ cargs, σ.heap, σ.low⟩ { tmps := a.tmps ++ vs, defers := [] } w := { S with slots := by simpa using S.slots.append hr, defers := rfl }
  have hat : ∀ (i k : Nat), ρ[i]? = some k → ∃ x y, σ.heap[k]? = some x ∧ Ys[i]? = some y ∧ CoObj σ.heap σ.heap.length x y ∧ H1[k]? = some y := by
    intro i k hi
    obtain ⟨x, y, hx, hy, hc⟩ := hobj i k hi
    exact ⟨x, y, hx, hy, hc, setAll_at ρ σ.heap Ys i k y hnd hi hy (List.getElem?_eq_some_iff.1 hx).1⟩
  have hw : Weak ⟨σ.slots ++ cargs, σ.heap, σ.low⟩ ⟨σ.slots ++ renL (backTo ρ σ.heap.length) args, H1, σ.low⟩ := by
    refine ⟨⟨rfl, by show σ.low ≤ H1.length; rw [hl1]; exact S.low.2⟩, ?_, ?_⟩
    · show CoL σ.heap H1.length _ _
      rw [hl1]
      exact CoL.append (CoL.same (RepL.nb _ _ S.slots)) hargs
    · show CoH σ.heap H1.length σ.heap H1
      rw [hl1]
      refine coH_of_get fun k y hy => ?_
      by_cases hk : k ∈ ρ
      · obtain ⟨i, hi⟩ := List.getElem?_of_mem hk
        obtain ⟨x, y', hx, _, hc, hy'⟩ := hat i k hi
        rw [hy'] at hy; cases hy
        exact ⟨x, hx, hc⟩
      · have hy2 : σ.heap[k]? = some y := by rw [← hy]; exact (setAll_other ρ σ.heap Ys k hk).symm
        exact ⟨y, hy2, .inr (.inl ⟨rfl, objNb_rep (S.objs k y hy2)⟩)⟩
  obtain ⟨φ', S1⟩ := hw.imp C φ _ w S0
  have hsl := S1.slots
  simp only [Array.toList_append] at hsl
  have hsz : a.tmps.toList.length = σ.slots.length := S.slots.length
  have h1 := hsl.take σ.slots.length
  have h2 := hsl.drop σ.slots.length
  rw [List.take_left' rfl, List.take_left' hsz] at h1
  rw [List.drop_left' rfl, List.drop_left' hsz] at h2
  have S2 : Sim C φ' { σ with heap := H1 } a w := { S1 with slots := h1, defers := S.defers }
  have hcall : CallA P f (renL (backTo ρ H1.length) args) { σ with heap := H1 } (fun o H' => o = .ret (r.ren (backTo ρ H1.length)) ∧ H' = setAll σ.heap ρ Ys' ++ Ys'.drop ρ.length) := by
    refine callA_of_fnG (σ := { σ with heap := H1 }) hG ρ hlen hnd (SubL.refl _) ?_ ?_
    · intro i k x hi hx
      obtain ⟨x', y, _, hy, _, hy'⟩ := hat i k hi
      rw [hy] at hx; cases hx
      show H1[k]? = some (x.ren _)
      rw [hy', hren x (List.mem_append.2 (.inl (List.mem_of_getElem? hy)))]
    · rintro o H' ⟨rfl, rfl⟩
      refine ⟨rfl, ?_⟩
      have hid : ∀ τ, H'.map (AObj.ren τ) = H' := by
        intro τ
        have : H'.map (AObj.ren τ) = H'.map id := List.map_congr_left fun y hy => hren y (List.mem_append.2 (.inr hy)) τ
        rw [this, List.map_id]
      have hid2 : ∀ τ, (H'.drop ρ.length).map (AObj.ren τ) = H'.drop ρ.length := by
        intro τ; rw [List.map_drop, hid]
      show heapBack ρ H1 H' = _
      unfold heapBack
      rw [hid, hid2]
      simp only [H1]
      rw [setAll_setAll ρ σ.heap Ys H' hnd hlen']
  rw [hl1] at hcall
  exact hcall.2 C φ' a w hP S2 vs h2
end callG
end Go.Abs
namespace Go.Abs

section args
variable {α β γ : Type}
structure ASpec (β α : Type) where
  enc : β → α → List AV
  dec : List Nat → β → List AObj → List AV → Option α
  ok : ∀ ρ b H xs a, dec ρ b H xs = some a → CoL H H.length xs (renL (backTo ρ H.length) (enc b a))
def asN : ASpec β Unit where
  enc _ _ := []
  dec _ _ _
    | [] => some ()
    | _ => none
  ok ρ b H xs a h := by
    split at h
    · exact CoL.nil
    · cases h
def dasT (t : Ty γ) (s : ASpec β α) (ρ : List Nat) (b : β) (H : List AObj) : List AV → Option (γ × α)
  | x :: xs => (t.dec H x).bind fun y => (s.dec ρ b H xs).bind fun a => some (y, a)
  | [] => none
def asT (t : Ty γ) (s : ASpec β α) : ASpec β (γ × α) where
  enc b a := t.enc a.1 :: s.enc b a.2
  dec := dasT t s
  ok ρ b H xs a h := by
    unfold dasT at h
    split at h
    · simp only [Option.bind_eq_some_iff, Option.some.injEq] at h
      obtain ⟨y, hy, a, ha, rfl⟩ := h
      refine CoL.cons ?_ (s.ok ρ b H _ _ ha)
      rw [ren_of_nb _ _ (t.nb 0 y)]
      exact t.ok H _ _ _ hy
    · cases h
def dasP (k : Nat) (s : ASpec β α) (ρ : List Nat) (b : β) (H : List AObj) : List AV → Option α
  | .ptr l off :: xs => if off = 0 ∧ ρ[k]? = some l ∧ l < H.length then s.dec ρ b H xs else none
  | _ => none
theorem backTo_at {ρ : List Nat} {n k l : Nat} (h : ρ[k]? = some l) : backTo ρ n k = l := by
  have hk : k < ρ.length := (List.getElem?_eq_some_iff.1 h).1
  unfold backTo
  rw [if_pos hk, List.getD, h]; rfl
def asP (k : Nat) (s : ASpec β α) : ASpec β α where
  enc b a := .ptr k 0 :: s.enc b a
  dec := dasP k s
  ok ρ b H xs a h := by
    unfold dasP at h
    split at h
    · split at h
      · rename_i hc
        obtain ⟨rfl, hc, hl⟩ := hc
        refine CoL.cons ?_ (s.ok ρ b H _ _ h)
        show Co H H.length _ (.ptr (backTo ρ H.length k) 0)
        rw [backTo_at hc]
        exact Co.same hl
      · cases h
    · cases h
def dasA (k : Nat) (len : β → Nat) (s : ASpec β α) (ρ : List Nat) (b : β) (H : List AObj) : List AV → Option α
  | .acc l m :: xs => if m = len b ∧ ρ[k]? = some l ∧ l < H.length then s.dec ρ b H xs else none
  | _ => none
def asA (k : Nat) (len : β → Nat) (s : ASpec β α) : ASpec β α where
  enc b a := .acc k (len b) :: s.enc b a
  dec := dasA k len s
  ok ρ b H xs a h := by
    unfold dasA at h
    split at h
    · split at h
      · rename_i hc
        obtain ⟨rfl, hc, hl⟩ := hc
        refine CoL.cons ?_ (s.ok ρ b H _ _ h)
        show Co H H.length _ (.acc (backTo ρ H.length k) _)
        rw [backTo_at hc]
        exact Co.same hl
      · cases h
    · cases h
theorem asN_f : (∀ (b : β) a, asN.enc b a = []) ∧ (∀ ρ (b : β) H, asN.dec ρ b H [] = some ()) := ⟨fun _ _ => rfl, fun _ _ _ => rfl⟩
theorem asT_f {t : Ty γ} {s : ASpec β α} : (∀ b a, (asT t s).enc b a = t.enc a.1 :: s.enc b a.2) ∧ (∀ ρ b H xs, (asT t s).dec ρ b H xs = dasT t s ρ b H xs) := ⟨fun _ _ => rfl, fun _ _ _ _ => rfl⟩
theorem asP_f {k : Nat} {s : ASpec β α} : (∀ b a, (asP k s).enc b a = .ptr k 0 :: s.enc b a) ∧ (∀ ρ b H xs, (asP k s).dec ρ b H xs = dasP k s ρ b H xs) := ⟨fun _ _ => rfl, fun _ _ _ _ => rfl⟩
theorem asA_f {k : Nat} {len : β → Nat} {s : ASpec β α} : (∀ b a, (asA k len s).enc b a = .acc k (len b) :: s.enc b a) ∧ (∀ ρ b H xs, (asA k len s).dec ρ b H xs = dasA k len s ρ b H xs) := ⟨fun _ _ => rfl, fun _ _ _ _ => rfl⟩
end args

def nameOf : AV → Option Nat
  | .ptr l _ => some l
  | .acc l _ => some l
  | _ => none
def nameAt (args : List AV) (i : Nat) : Option Nat := (args[i]?).bind nameOf
def nodupB : List Nat → Bool
  | [] => true
  | x :: xs => !xs.contains x && nodupB xs
theorem nodupB_ok : ∀ {xs : List Nat}, nodupB xs = true → xs.Nodup
  | [], _ => List.nodup_nil
  | x :: xs, h => by
    simp only [nodupB, Bool.and_eq_true, Bool.not_eq_true', List.contains_eq_mem, decide_eq_false_iff_not] at h
    exact List.nodup_cons.2 ⟨h.1, nodupB_ok h.2⟩
def getAt (H : List AObj) (k : Nat) : Option AObj := H[k]?

section entG
variable {α β α' β' : Type}
def entG (pos : List Nat) (os : OSpec β) (as : ASpec β α) (os' : OSpec β') (rs : RSpec β' α') (F : β → α → Option (β' × α')) : Ent := fun args H =>
  (mapO (nameAt args) pos).bind fun ρ => bif nodupB ρ then (mapO (getAt H) ρ).bind fun xs => (os.dec H xs).bind fun b => (as.dec ρ b H args).bind fun a => (F b a).bind fun r =>
    bif decide (ρ.length ≤ (os'.enc r.1).length) then some ((tupOf (rs.enc r.1 r.2)).ren (backTo ρ H.length), setAll H ρ (os'.enc r.1) ++ (os'.enc r.1).drop ρ.length) else none else none

theorem mapO_get {H : List AObj} : ∀ {ρ : List Nat} {xs : List AObj}, mapO (getAt H) ρ = some xs → ρ.length = xs.length ∧ ∀ (i k : Nat), ρ[i]? = some k → ∃ x, xs[i]? = some x ∧ H[k]? = some x
  | [], xs, h => by simp only [mapO, Option.some.injEq] at h; subst h; simp
  | k :: ρ, xs, h => by
    simp only [mapO, Option.bind_eq_some_iff, Option.some.injEq] at h
    obtain ⟨x, hx, ys, hys, rfl⟩ := h
    obtain ⟨h1, h2⟩ := mapO_get hys
    refine ⟨by simp [h1], fun i q hi => ?_⟩
    cases i with
    | zero => simp at hi; subst hi; exact ⟨x, by simp, hx⟩
    | succ i => simp at hi; obtain ⟨y, hy, hy'⟩ := h2 i q hi; exact ⟨y, by simpa using hy, hy'⟩

theorem entG_ok {P : Program} {f : FuncId} {pos : List Nat} {os : OSpec β} {as : ASpec β α} {os' : OSpec β'} {rs : RSpec β' α'} {F : β → α → Option (β' × α')}
    (h : ∀ b a r, F b a = some r → FnG P f (as.enc b a) (os.enc b) (fun o H' => o = .ret (tupOf (rs.enc r.1 r.2)) ∧ H' = os'.enc r.1)) : EntOK P f (entG pos os as os' rs F) := by
  intro args σ r H' he
  unfold entG at he
  simp only [Option.bind_eq_some_iff] at he
  obtain ⟨ρ, _, he⟩ := he
  cases hnd : nodupB ρ with
  | false => simp [hnd] at he
  | true =>
    simp only [hnd, cond_true, Option.bind_eq_some_iff] at he
    obtain ⟨xs, hxs, b, hb, a, ha, q, hq, he⟩ := he
    cases hl : decide (ρ.length ≤ (os'.enc q.1).length) with
    | false => simp [hl] at he
    | true =>
      simp only [hl, cond_true, Option.some.injEq, Prod.mk.injEq] at he
      obtain ⟨rfl, rfl⟩ := he
      obtain ⟨h1, h2⟩ := mapO_get hxs
      obtain ⟨h3, h4⟩ := os.ok σ.heap σ.heap.length _ _ hb
      refine callG (h b a q hq) (nodupB_ok hnd) (by rw [h1, h4]) (of_decide_eq_true hl) ?_ (as.ok ρ b σ.heap _ _ ha) ?_
      · intro i k hi
        obtain ⟨x, hx, hx'⟩ := h2 i k hi
        have hlt : i < (os.enc b).length := by rw [h4, ← h1]; exact (List.getElem?_eq_some_iff.1 hi).1
        obtain ⟨x2, hx2, hc⟩ := h3.get (List.getElem?_eq_getElem hlt)
        rw [hx] at hx2; cases hx2
        exact ⟨x, _, hx', List.getElem?_eq_getElem hlt, hc⟩
      · intro y hy τ
        rcases List.mem_append.1 hy with hy | hy
        · exact os.ren τ _ y hy
        · exact os'.ren τ _ y hy
end entG

section handout
variable {C : Ctx} {φ : Nat → Value} {σ : AState} {a : Act} {w : World}

theorem imp_export_one {xs : List AV} {H : List AObj} {low l : Nat} {y : AObj} (hl : H[l]? = some y) (hlow : low ≤ l) (hnb : ∀ z ∈ H.take low, objNb low z) (hy : objNb low y) (hr : nbL (low + 1) (renL (outX low l) xs)) :
    Imp ⟨xs, H, low⟩ ⟨renL (outX low l) xs, H.take low ++ [y], low⟩ := by
  intro C φ a w S
  obtain ⟨φ', S', hrep⟩ := export_one (σ := ⟨xs, H, low⟩) (x := .tup xs) hl hlow hnb hy hr C φ a w S (.tuple a.tmps) ⟨a.tmps, rfl, S.slots⟩
  obtain ⟨vs, hv, rl⟩ := hrep
  simp only [Value.tuple.injEq] at hv
  subst hv
  exact ⟨φ', { S' with slots := rl, defers := S.defers }⟩

variable {α γ : Type}
noncomputable def outH (P : Program) (rs : List ResultVar) (j : Nat) (r : Row γ) (s : RSpec (List γ × Unit) α) (σ : AState) : Option ((List γ × Unit) × α) :=
  (resList P σ rs).bind fun xs => outH1 (gSlot j r.sz true ⟨xs, σ.heap, 0⟩) j r s σ.low
where
  outH1 (τ : AState) (j : Nat) (r : Row γ) (s : RSpec (List γ × Unit) α) (low : Nat) : Option ((List γ × Unit) × α) :=
    match τ.slots[j]? with
    | some (.acc l _) => match τ.heap[l]? with
      | some y => pcond (low = 0 ∧ objNb 0 y ∧ nbL 1 (renL (outX 0 l) τ.slots)) (((osC (oaT true r) osN).dec [y] [y]).bind fun b => (s.dec b [y] (renL (outX 0 l) τ.slots)).bind fun a => bif decide (s.need ≤ 1) then some (b, a) else none)
      | none => none
    | _ => none

theorem outH_ok {P : Program} {rs : List ResultVar} {j : Nat} {r : Row γ} {s : RSpec (List γ × Unit) α} {σ : AState} {q : (List γ × Unit) × α} (h : outH P rs j r s σ = some q) :
    ∃ xs, resList P σ rs = some xs ∧ Imp ⟨xs, σ.heap, σ.low⟩ ⟨s.enc q.1 q.2, (osC (oaT true r) osN).enc q.1, σ.low⟩ := by
  unfold outH at h
  simp only [Option.bind_eq_some_iff] at h
  obtain ⟨xs, hx, h⟩ := h
  refine ⟨xs, hx, ?_⟩
  unfold outH.outH1 at h
  split at h
  case h_2 => cases h
  rename_i l m hs
  split at h
  case h_2 => cases h
  rename_i y hl
  rw [pcond_some] at h
  obtain ⟨⟨hlow, h1, h2⟩, h⟩ := h
  simp only [Option.bind_eq_some_iff] at h
  obtain ⟨b, hb, a, ha, h⟩ := h
  cases hd : decide (s.need ≤ 1) with
  | false => simp [hd] at h
  | true =>
    simp only [hd, cond_true, Option.some.injEq] at h
    subst h
    rw [hlow]
    have i1 : Imp ⟨xs, σ.heap, 0⟩ (gSlot j r.sz true ⟨xs, σ.heap, 0⟩) := gSlot_ok
    have hlow0 : (gSlot j r.sz true ⟨xs, σ.heap, 0⟩).low = 0 := by unfold gSlot; split <;> rfl
    generalize hτ : gSlot j r.sz true ⟨xs, σ.heap, 0⟩ = τ at *
    have i2 : Imp ⟨τ.slots, τ.heap, 0⟩ ⟨renL (outX 0 l) τ.slots, τ.heap.take 0 ++ [y], 0⟩ := imp_export_one hl (Nat.zero_le _) (by simp) h1 h2
    have e : τ = ⟨τ.slots, τ.heap, 0⟩ := by cases τ; simp only at hlow0; subst hlow0; rfl
    rw [e] at i1
    refine (i1.trans i2).trans ?_
    simp only [List.take_zero, List.nil_append]
    obtain ⟨h5, h6⟩ := (osC (oaT true r) osN).ok [y] 1 _ _ hb
    refine Weak.imp ⟨⟨rfl, Nat.zero_le _⟩, ?_, ?_⟩
    · show CoL [y] ((osC (oaT true r) osN).enc b).length _ _
      rw [h6]
      exact s.ok b [y] 1 _ a (of_decide_eq_true hd) ha
    · show CoH [y] ((osC (oaT true r) osN).enc b).length [y] _
      rw [h6]
      exact h5
end handout
end Go.Abs
namespace Go.Abs

def entGh (i : Nat) (imm : Bool) (sz : Nat) (e : Ent) : Ent := fun args H =>
  match args[i]? with
  | some (.lst true _ []) => e (args.set i (.acc H.length 0)) (H ++ [.acc imm sz []])
  | _ => e args H

theorem entGh_ok {P : Program} {f : FuncId} {i : Nat} {imm : Bool} {sz : Nat} {e : Ent} (h : EntOK P f e) : EntOK P f (entGh i imm sz e) := by
  intro args σ r H' he
  unfold entGh at he
  split at he
  · rename_i s hi
    have hc := h (args.set i (.acc σ.heap.length 0)) { σ with heap := σ.heap ++ [.acc imm sz []] } r H' he
    refine ⟨hc.1, fun C φ a w hP S vs hr => ?_⟩
    have S0 : Sim C φ ⟨σ.slots ++ args, σ.heap, σ.low⟩ { tmps := a.tmps ++ vs, defers := [] } w := { S with slots := by simpa using S.slots.append hr, defers := rfl }
    have hget : (σ.slots ++ args)[σ.slots.length + i]? = some (.lst true s []) := by
      rw [List.getElem?_append_right (by omega), Nat.add_sub_cancel_left]; exact hi
    obtain ⟨φ', S1⟩ := ghostAcc (σ := ⟨σ.slots ++ args, σ.heap, σ.low⟩) (sz := sz) (imm := imm) hget C φ _ w S0
    have hset : (σ.slots ++ args).set (σ.slots.length + i) (.acc σ.heap.length 0) = σ.slots ++ args.set i (.acc σ.heap.length 0) := by
      rw [List.set_append_right _ _ (by omega), Nat.add_sub_cancel_left]
    have hsl := S1.slots
    simp only [hset, Array.toList_append] at hsl
    have hsz : a.tmps.toList.length = σ.slots.length := S.slots.length
    have h1 := hsl.take σ.slots.length
    have h2 := hsl.drop σ.slots.length
    rw [List.take_left' rfl, List.take_left' hsz] at h1
    rw [List.drop_left' rfl, List.drop_left' hsz] at h2
    have S2 : Sim C φ' { σ with heap := σ.heap ++ [.acc imm sz []] } a w := { S1 with slots := h1, defers := S.defers }
    exact hc.2 C φ' a w hP S2 vs h2
  · exact h args σ r H' he

def entAlt (e e' : Ent) : Ent := fun args H => (e args H).or (e' args H)
theorem entAlt_ok {P : Program} {f : FuncId} {e e' : Ent} (h : EntOK P f e) (h' : EntOK P f e') : EntOK P f (entAlt e e') := by
  intro args σ r H' he
  unfold entAlt at he
  rw [Option.or_eq_some_iff] at he
  rcases he with he | ⟨_, he⟩
  · exact h args σ r H' he
  · exact h' args σ r H' he
end Go.Abs
namespace Go.Abs

section
variable {R : Type} {M : Mach R} {k : List Kt} {σ : AState}
theorem stepC_opX {ops : Array Oper} {o : Oper} {rest : List Oper} : stepC M ops o rest k σ none = stepE M ops o.dst rest k σ (opX M.P σ o.op) := by rw [← opX_eq]; rfl
theorem stepDC_opX {p : List Nat} {o : Oper} {rest : List Oper} {j : Nat} {tr : List Tr} : stepDC M p o rest j tr k σ none = stepDE M p o.dst rest j tr k σ (opX M.P σ o.op) := by rw [← opX_eq]; rfl
end

section
variable {R : Type} {M : Mach R} {k : List Kt} {σ : AState}
theorem stepE_cond {ops : Array Oper} {dst : Option Tmp} {rest : List Oper} {b : Bool} {x y : Option Eff} : stepE M ops dst rest k σ (bif b then x else y) = bif b then stepE M ops dst rest k σ x else stepE M ops dst rest k σ y := by cases b <;> rfl
theorem stepA_cond {ops : Array Oper} {dst : Option Tmp} {rest : List Oper} {b : Bool} {x y : Option (AV × List AObj)} : stepA M ops dst rest k σ (bif b then x else y) = bif b then stepA M ops dst rest k σ x else stepA M ops dst rest k σ y := by cases b <;> rfl
theorem stepDE_cond {p : List Nat} {dst : Option Tmp} {rest : List Oper} {j : Nat} {tr : List Tr} {b : Bool} {x y : Option Eff} : stepDE M p dst rest j tr k σ (bif b then x else y) = bif b then stepDE M p dst rest j tr k σ x else stepDE M p dst rest j tr k σ y := by cases b <;> rfl
theorem stepDA_cond {p : List Nat} {dst : Option Tmp} {rest : List Oper} {j : Nat} {tr : List Tr} {b : Bool} {x y : Option AV} : stepDA M p dst rest j tr k σ (bif b then x else y) = bif b then stepDA M p dst rest j tr k σ x else stepDA M p dst rest j tr k σ y := by cases b <;> rfl
end
theorem undef_eq : undef = .tuple #[] := rfl
theorem not_true' : (¬ True) = False := by simp
theorem not_false' : (¬ False) = True := by simp
theorem int_nonneg (n : Nat) : (0 ≤ (n : Int)) = True := by simp
theorem int_nonneg0 : ((0 : Int) ≤ 0) = True := by simp
theorem cond_not' {α : Type} {b : Bool} {x y : α} : (bif !b then x else y) = bif b then y else x := by cases b <;> rfl
theorem cond_same {α : Type} {b : Bool} {x : α} : (bif b then x else x) = x := by cases b <;> rfl
theorem cond_tf {b : Bool} : (bif b then true else false) = b := by cases b <;> rfl
theorem cond_ft {b : Bool} : (bif b then false else true) = !b := by cases b <;> rfl
theorem beq_tt {b : Bool} : (b == true) = b := by cases b <;> rfl
theorem beq_ff {b : Bool} : (b == false) = !b := by cases b <;> rfl
theorem beq_tt' {b : Bool} : (true == b) = b := by cases b <;> rfl
theorem beq_ff' {b : Bool} : (false == b) = !b := by cases b <;> rfl
theorem bind_ite' {α β : Type} {p : Prop} [Decidable p] {a b : Option α} {f : α → Option β} : (if p then a else b).bind f = bif decide p then a.bind f else b.bind f := by
  by_cases h : p <;> simp [h]
theorem mp_get {α β : Type} (f : α → β) (xs : List α) (i : Nat) : (mp f xs)[i]? = Option.map f xs[i]? := by rw [mp_eq, List.getElem?_map]
theorem mp_set {α β : Type} (f : α → β) (xs : List α) (i : Nat) (x : α) : (mp f xs).set i (f x) = mp f (xs.set i x) := by rw [mp_eq, mp_eq, List.map_set]
theorem pcond_room {R : Type} {a b : Nat} {x : Option R} : pcond (room a b) x = bif decide (a * b ≤ 17592186044416) then x else none := by
  unfold room
  exact pcond_dec
theorem pcond_nat {R : Type} {a b : Nat} {x : Option R} : pcond (a < b) x = bif decide (a < b) then x else none := pcond_dec
theorem pcond_ror {R : Type} {a b : Nat} {x : Option R} : pcond (a = 0 ∨ 0 < b) x = bif decide (a = 0 ∨ 0 < b) then x else none := pcond_dec
theorem pcond_ilt {R : Type} {a b : Int} {x : Option R} : pcond (a < b) x = bif decide (a < b) then x else none := pcond_dec

-- bytes
theorem sb_size (s : Str) : (sb s).size = s.length := by simp [sb, ByteArray.size]
theorem sb_get (s : Str) (i : Nat) : (sb s)[i]? = s[i]? := by
  by_cases h : i < s.length
  · have h' : i < (sb s).size := by rw [sb_size]; exact h
    rw [List.getElem?_eq_getElem h, getElem?_pos (sb s) i h']
    rfl
  · have h' : ¬ i < (sb s).size := by rw [sb_size]; exact h
    rw [List.getElem?_eq_none (by omega), getElem?_neg (sb s) i h']
theorem sb_idx (s : Str) (n : Int) : idxB (sb s) n = idxA s n := by
  simp only [idxB, sb_get]; rfl
theorem sb_toList (s : Str) : (sb s).toList = s := by
  rw [ByteArray.toList_eq]; rfl
theorem sb_extract (s : Str) (a b : Nat) : (sb s).extract a b = sb ((s.take b).drop a) := by
  apply ByteArray.ext
  simp only [sb, ByteArray.data_extract]
  apply Array.ext'
  simp [Array.toList_extract, List.extract]
  rw [List.drop_take]
theorem sb_append (s t : Str) : sb s ++ sb t = sb (s ++ t) := by
  apply ByteArray.ext
  simp [sb]
theorem sb_empty : ByteArray.empty = sb [] := rfl
theorem sb_emptyL : (⟨#[]⟩ : ByteArray) = sb [] := rfl

attribute [go_sem] run_nil run_blk run_ops_nil run_dops_nil behind exitK_some exitK_none stepIf_true stepIf_false run_at stepN_skip stepN_region stepN_draw stepN_seq stepN_cond stepN_block stepN_loop stepN_exit stepN_scope stepN_label stepN_ret
  run_cut run_lp run_ops run_dops stepW_true stepW_false stepC_some stepC_opX stepE_none stepE_some stepE_bind stepE_ite stepA_some stepA_none stepA_bind stepDW_true stepDW_false stepDC_some stepDC_opX stepDE_none stepDE_idle stepDE_some stepDE_bind stepDE_ite stepDA_some stepDA_none stepDA_bind stepE_cond stepA_cond stepDE_cond stepDA_cond
  sub child setB gset pcond_true pcond_and pcond_room pcond_ror pcond_ilt
attribute [go_sem low] stepIf_sym stepW_sym stepDW_sym
attribute [go_sem] mapO_nil mapO_cons mapO_append bind_map' bind_bind' bind_cond bind_none' bind_some' idxA_mp mp_length mp_take mp_drop mp_get mp_set bind_ite'  mp_isEmpty idxA_zero idxA_one idxA_two szOK dL tyL_enc tyL_dec dS_sb dI_int dB_bool dS_empty dS_emptyL tyI_enc tyI_dec tyB_enc tyB_dec tyS_enc tyS_dec dF_lit tyF_enc tyF_dec
  dI1 dB1 dS1 rowI_f rowU_f rowB_f rowS_f mapO_cells1 dC tyC_enc tyC_dec tyU_enc tyU_dec d2 d3 d4 d5 ty2_enc ty2_dec ty3_enc ty3_dec ty4_enc ty4_dec ty5_enc ty5_dec outR ent0 ent1 ent2 ent3 ent4 ent5 ent6 entD tabA tabD zA_f zK_f zT_f zipZ oD_f oK_f oC_f oT_f oA_f zipO nrmZ gSlot gCell gSlots gCells nrmN tabN
  ixA ixS ldA ldV vwL stA opX cond_not' cond_same cond_tf cond_ft beq_tt beq_ff beq_tt' beq_ff' sb_size sb_idx sb_get sb_toList sb_append sb_extract sb_empty sb_emptyL
attribute [go_sem] fzOne fzAll tabF rp1 rpV rpO cI_f cB_f cS_f cL_f cF_f dL1 dF1 dP tyP_enc tyP_dec dK1 dK2 dK3 tyK1_f tyK2_f tyK3_f daT dcT oaT_f ocT_f osN_f osC_f dosC rsN_f rsT_f drsT rsA_f drsA tupOf outG
  asN_f asT_f dasT asP_f dasP asA_f dasA nameOf nameAt nodupB getAt entG entGh entAlt Option.or_none Option.none_or outH outH.outH1 setAll backTo AV.ren renL renR outX
attribute [go_sem] wantedA calleeOf opEff AState.ev AState.put applyUps AV.scalar constAV fillAV rowsOf binAV aggEff eqB eq1 bound tightOf sliceAV srcRows appendAV lenAV builtinEff
  resAV resList resOne frz frzL chunks undef_eq
attribute [go_sem] List.all_cons List.all_nil Bool.and_true Bool.true_and Bool.and_false Bool.false_and if_true if_false List.getD_cons_zero List.getD_cons_succ List.length_cons List.length_nil List.replicate List.cons_append List.nil_append
  List.set_cons_zero List.set_cons_succ reduceCtorEq and_true true_and List.append_nil Nat.zero_add List.getElem?_cons_zero List.getElem?_cons_succ List.getElem?_nil Option.bind_some List.drop_zero List.drop_succ_cons List.drop_nil
  List.take_succ_cons List.take_zero List.take_nil ne_eq not_true' not_false' Option.isSome_some Option.isSome_none Option.isNone_some Option.isNone_none List.map_cons List.map_nil List.getElem?_toArray Bool.not_true Bool.not_false cond_true cond_false
  Int.toNat_natCast int_nonneg int_nonneg0 true_or or_true and_self false_or or_false List.length_map List.set_nil decide_true decide_false Bool.not_not and_false false_and
  List.length_append List.length_set List.length_replicate beq_self_eq_true
attribute [go_sem] compatP_eq opsAt regOps Eff.idle pushTr indepB disjointB List.contains_cons List.contains_nil List.isEmpty_nil List.isEmpty_cons Bool.or_false Bool.false_or Bool.or_true Bool.true_or Nat.le_refl Bool.false_eq_true Int.cast_ofNat_Int Int.toNat_zero Int.toNat_one List.flatten_cons List.flatten_nil
  List.cons.injEq Option.map_some Option.map_none
theorem nbR_append {n : Nat} : ∀ {a b : List (List AV)}, nbR n (a ++ b) = (nbR n a ∧ nbR n b)
  | [], _ => by simp [nbR]
  | x :: a, b => by simp [nbR, nbR_append (a := a), and_assoc]
theorem loadAV_lit0 {n : Nat} {c : AV} {cs : List AV} : loadAV false n (c :: cs) = some c := rfl
theorem loadAV_lit1 {n : Nat} {c : AV} {cs : List AV} : loadAV true n (c :: cs) = if n ≤ (c :: cs).length then some (.agg ((c :: cs).take n)) else none := rfl
theorem cellsOf_lit {c : AV} {cs : List AV} : cellsOf (.agg (c :: cs)) = if (c :: cs).all AV.scalar then some (c :: cs) else none := rfl
theorem cellsOf_one : (∀ b, cellsOf (.bool b) = some [.bool b]) ∧ (∀ k n, cellsOf (.int k n) = some [.int k n]) ∧ (∀ s, cellsOf (.str s) = some [.str s]) ∧ (∀ t sz r, cellsOf (.lst t sz r) = some [.lst t sz r]) ∧
    (∀ l n, cellsOf (.acc l n) = some [.acc l n]) ∧ (∀ a b c d e, cellsOf (.own a b c d e) = some [.own a b c d e]) ∧ (∀ a b, cellsOf (.ptr a b) = some [.ptr a b]) ∧ (∀ a, cellsOf (.map a) = some [.map a]) ∧
    (∀ cs, cellsOf (.pp cs) = some [.pp cs]) ∧ (∀ fn f c, cellsOf (.func fn f c) = some [.func fn f c]) ∧ (∀ t x, cellsOf (.iface t x) = some [.iface t x]) ∧ cellsOf (.raw .nilFunc) = some [.raw .nilFunc] ∧ cellsOf (.raw .nilIface) = some [.raw .nilIface] ∧
    (∀ a, cellsOf (.raw (.pointer a)) = some [.raw (.pointer a)]) ∧ (∀ a, cellsOf (.raw (.map a)) = some [.raw (.map a)]) :=
  ⟨fun _ => rfl, fun _ _ => rfl, fun _ => rfl, fun _ _ _ => rfl, fun _ _ => rfl, fun _ _ _ _ _ => rfl, fun _ _ => rfl, fun _ => rfl, fun _ => rfl, fun _ _ _ => rfl, fun _ _ => rfl, rfl, rfl, fun _ => rfl, fun _ => rfl⟩
theorem splice_lit {c : AV} {cs : List AV} {o : Nat} {xs : List AV} : splice (c :: cs) o xs = (c :: cs).take o ++ xs ++ (c :: cs).drop (o + xs.length) := rfl
theorem splice_all {cs xs : List AV} (h : xs.length = cs.length) : splice cs 0 xs = xs := by
  simp only [splice, List.take_zero, List.nil_append, Nat.zero_add, h, List.drop_length, List.append_nil]
attribute [go_sem] loadAV_lit0 loadAV_lit1 cellsOf_lit cellsOf_one splice_all
attribute [go_sem low] splice_lit
attribute [go_sem] AV.nb nbL nbR objNb nbR_append
theorem nb_if {n : Nat} {c : Prop} [Decidable c] {a : AV} : AV.nb n (if c then a else .any) = (¬ c ∨ AV.nb n a) := by
  by_cases h : c <;> simp [h, AV.nb]
theorem dL_if {α : Type} {r : Row α} {H : List AObj} {c : Prop} [Decidable c] {a : AV} : dL r H (if c then a else .any) = bif decide c then dL r H a else none := by
  by_cases h : c <;> simp [h, dL]
attribute [go_sem high] nb_if dL_if
attribute [go_sem] or_true
theorem rp1_of_nb {l : Nat} {cs : List AV} : ∀ x : AV, x.nb 0 → rp1 l cs x = x
  | .ptr _ _, h => absurd h (Nat.not_lt_zero _)
  | .any, _ | .bool _, _ | .int _ _, _ | .str _, _ | .raw _, _ | .agg _, _ | .tup _, _ | .lst _ _ _, _ | .acc _ _, _ | .own _ _ _ _ _, _ | .map _, _ | .pp _, _ | .func _ _ _, _ | .iface _ _, _ => rfl
theorem rp1L_of_nb {l : Nat} {cs : List AV} : ∀ xs : List AV, nbL 0 xs → xs.map (rp1 l cs) = xs
  | [], _ => rfl
  | x :: xs, h => by rw [List.map_cons, rp1_of_nb x h.1, rp1L_of_nb xs h.2]
theorem rpV_of_nb {l : Nat} {cs : List AV} : ∀ x : AV, x.nb 0 → rpV l cs x = x
  | .ptr _ _, h => absurd h (Nat.not_lt_zero _)
  | .func _ f c, h => by simp only [rpV]; rw [rp1L_of_nb f h.1, rp1L_of_nb c h.2]
  | .any, _ | .bool _, _ | .int _ _, _ | .str _, _ | .raw _, _ | .agg _, _ | .tup _, _ | .lst _ _ _, _ | .acc _ _, _ | .own _ _ _ _ _, _ | .map _, _ | .pp _, _ | .iface _ _, _ => rfl
theorem rpVL_of_nb {l : Nat} {cs : List AV} : ∀ xs : List AV, nbL 0 xs → xs.map (rpV l cs) = xs
  | [], _ => rfl
  | x :: xs, h => by rw [List.map_cons, rpV_of_nb x h.1, rpVL_of_nb xs h.2]
end Go.Abs
namespace Go.Abs
def flatFits (P : Program) : Nat → List Field → List AV → List AV → Prop
  | _, [], [], [] => True
  | o, f :: fs, c :: cs, d :: ds => (f.name ≠ "_" ∧ f.offset = o ∧ P.plainKey f.type = true ∧ (match c, d with
    | .int k _, .int k' _ => k = k' ∧ ∃ q, P.underlying f.type = some (.int q)
    | .bool _, .bool _ => P.underlying f.type = some .bool
    | .str _, .str _ => P.underlying f.type = some .string
    | _, _ => False)) ∧ flatFits P (o + 1) fs cs ds
  | _, _, _, _ => False

theorem eqFields_flat {P : Program} {E : Env} {vs us : Array Value} {w : World} {d : Nat} : ∀ (fs : List Field) (o : Nat) (cs ds : List AV), flatFits P o fs cs ds → RepL E cs (vs.toList.drop o) → RepL E ds (us.toList.drop o) →
    (Op.eqFields (d + 1) vs us fs).run P w = .ok (eqB cs ds) w
  | [], _, [], [], _, _, _ => by simp [Op.eqFields, eqB]
  | [], _, _ :: _, _, h, _, _ => h.elim
  | [], _, [], _ :: _, h, _, _ => h.elim
  | _ :: _, _, [], _, h, _, _ => h.elim
  | _ :: _, _, _ :: _, [], h, _, _ => h.elim
  | f :: fs, o, c :: cs, e :: ds, ⟨⟨h1, h2, h3, h4⟩, h5⟩, r1, r2 => by
    obtain ⟨u, us', e1, r1, r1'⟩ := r1
    obtain ⟨v, vs', e2, r2, r2'⟩ := r2
    have g1 : vs[f.offset]? = some u := by
      have := congrArg (fun l : List Value => l[0]?) e1
      rw [h2]; simpa using this
    have g2 : us[f.offset]? = some v := by
      have := congrArg (fun l : List Value => l[0]?) e2
      rw [h2]; simpa using this
    have t1 : vs.toList.drop (o + 1) = us' := by
      have := congrArg List.tail e1
      simpa using this
    have t2 : us.toList.drop (o + 1) = vs' := by
      have := congrArg List.tail e2
      simpa using this
    have ih := eqFields_flat (d := d) (w := w) fs (o + 1) cs ds h5 (by rw [t1]; exact r1') (by rw [t2]; exact r2')
    have hone : (Op.equalIn (d + 1) f.type u v).run P w = .ok (eq1 c e) w := by
      cases c <;> cases e <;> try exact h4.elim
      · cases r1; cases r2; exact run_equalIn_bool _ d f.type _ _ h4
      · obtain ⟨rfl, q, hq⟩ := h4
        cases r1; cases r2; exact run_equalIn_int _ d f.type _ q _ _ hq
      · cases r1; cases r2; exact run_equalIn_string _ d f.type _ _ h4
    simp only [Op.eqFields, h1, ne_eq, not_false_eq_true, if_true, Sem.run_bind, run_part_plain w h3 g1, run_part_plain w h3 g2, hone, Result.andThen_ok, eqB]
    cases eq1 c e
    · simp
    · simpa using ih

theorem aggEq_flat {P : Program} {t : TypeId} {cs ds : List AV} (ht : P.underlying t = some (.struct (P.fieldsOf t))) (hp : P.stoodInHeld t = false) (hg : P.eqGuardType P.depth t = false)
    (hf : flatFits P 0 (P.fieldsOf t).toList cs ds) : AggEq P t cs ds := by
  intro E vs us w x y h1 h2
  have hq : (Op.equal t (.agg vs) (.agg us)).run P w = .ok (eqB cs ds) w := by
    show (Op.equalIn (9999 + 1) t _ _).run P w = _
    rw [run_equalIn_struct w 9999 t vs us ht hp]
    exact eqFields_flat (d := 9998) _ 0 cs ds hf (by simpa using h1) (by simpa using h2)
  constructor
  · simp [eqGuard, binOp, hg, hq]
  · simp [eqGuard, binOp, hg, hq]

end Go.Abs
