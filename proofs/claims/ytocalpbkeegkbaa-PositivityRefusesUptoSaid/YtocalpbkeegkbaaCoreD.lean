/- A part of the proof: abstract states and the rules for them. -/
import Derived.Test.YtocalpbkeegkbaaCoreC
import Derived.Below
import Derived.Lib.IndexAny
import Derived.Lib.IndexMore
import Derived.Deep.Draws
import Derived.RecoverIn
set_option linter.all false
namespace Go.Abs

inductive Loc where
  | arg (i : Nat) (cs : List Nat)
  | obj (k c : Nat) (cs : List Nat)
def nameV : AV → Option Nat
  | .ptr l _ => some l
  | .acc l _ => some l
  | .map l => some l
  | _ => none
def down : List Nat → AV → Option AV
  | [], v => some v
  | i :: is, .func _ _ cap => match cap[i]? with
    | some u => down is u
    | none => none
  | _ :: _, _ => none
def cellAt (c : Nat) : Option AObj → Option AV
  | some (.cells xs) => xs[c]?
  | some (.loop _ xs _ _) => xs[c]?
  | _ => none
def locN (args : List AV) (H : List AObj) (ρ : List Nat) : Loc → Option Nat
  | .arg i cs => (args[i]?).bind fun v => (down cs v).bind nameV
  | .obj k c cs => (ρ[k]?).bind fun l => (cellAt c H[l]?).bind fun v => (down cs v).bind nameV
def locs (args : List AV) (H : List AObj) : List Loc → List Nat → Option (List Nat)
  | [], ρ => some ρ
  | p :: ps, ρ => (locN args H ρ p).bind fun l => locs args H ps (ρ ++ [l])
theorem locs_pre {args : List AV} {H : List AObj} : ∀ {ps : List Loc} {ρ ρ' : List Nat}, locs args H ps ρ = some ρ' → ∃ ls, ρ' = ρ ++ ls
  | [], ρ, ρ', h => by simp only [locs, Option.some.injEq] at h; exact ⟨[], by rw [h, List.append_nil]⟩
  | p :: ps, ρ, ρ', h => by
    simp only [locs, Option.bind_eq_some_iff] at h
    obtain ⟨l, _, h⟩ := h
    obtain ⟨ls, hl⟩ := locs_pre h
    exact ⟨l :: ls, by rw [hl, List.append_assoc]; rfl⟩
def lnOf (xs : List AObj) (k : Nat) : Nat := (accLen xs[k]?).getD 0

theorem callXT {P : Program} {T : Value → World → Array Value → (Ending → World → Prop) → Prop} (hT : TMono T) {l0 : Nat} {σ : AState} {cargs args : List AV} {Ys Ys' : List AObj} {O : AOut} {ρ : List Nat} (hG : FnT P T args Ys (fun o H' => o = O ∧ H' = Ys')) (hnd : ρ.Nodup) (hlen : ρ.length = Ys.length) (hlen' : ρ.length ≤ Ys'.length)
    (hz : ∀ φ : Nat → Value, T (φ (backTo ρ σ.heap.length 0)) = T (φ l0))
    (hobj : ∀ (i k : Nat), ρ[i]? = some k → ∃ x y, σ.heap[k]? = some x ∧ Ys[i]? = some y ∧ CoObj σ.heap σ.heap.length x (y.ren (backTo ρ σ.heap.length))) (hargs : CoL σ.heap σ.heap.length cargs (renL (backTo ρ σ.heap.length) args)) :
    CallT P T l0 cargs σ (fun o H' => o = O.ren (backTo ρ σ.heap.length) ∧ H' = heapBack ρ σ.heap Ys') := by
  intro C φ a w hP S vs hr
  let H1 := setAll σ.heap ρ (Ys.map (AObj.ren (backTo ρ σ.heap.length)))
  have hl1 : H1.length = σ.heap.length := setAll_length _ _ _
  have S0 : Sim C φ ⟨σ.slots ++ cargs, σ.heap, σ.low, σ.df⟩ { tmps := a.tmps ++ vs, defers := a.defers } w := { S with slots := by simpa using S.slots.append hr, defers := S.defers }
  have hat : ∀ (i k : Nat), ρ[i]? = some k → ∃ x y, σ.heap[k]? = some x ∧ Ys[i]? = some y ∧ CoObj σ.heap σ.heap.length x (y.ren (backTo ρ σ.heap.length)) ∧ H1[k]? = some (y.ren (backTo ρ σ.heap.length)) := by
    intro i k hi
    obtain ⟨x, y, hx, hy, hc⟩ := hobj i k hi
    exact ⟨x, y, hx, hy, hc, setAll_at ρ σ.heap _ i k _ hnd hi (by rw [List.getElem?_map, hy]; rfl) (List.getElem?_eq_some_iff.1 hx).1⟩
  have hw : Weak ⟨σ.slots ++ cargs, σ.heap, σ.low, σ.df⟩ ⟨σ.slots ++ renL (backTo ρ σ.heap.length) args, H1, σ.low, σ.df⟩ := by
    refine ⟨⟨⟨rfl, by show σ.low ≤ H1.length; rw [hl1]; exact S.low.2⟩, rfl, by show dfNb H1.length σ.df; rw [hl1]; exact RepDf.nb S.defers.2.2⟩, ?_, ?_⟩
    · show CoL σ.heap H1.length _ _
      rw [hl1]
      exact CoL.append (CoL.same (RepL.nb _ _ S.slots)) hargs
    · show CoH σ.heap H1.length σ.heap H1
      rw [hl1]
      refine coH_of_get fun k y hy => ?_
      by_cases hk : k ∈ ρ
      · obtain ⟨i, hi⟩ := List.getElem?_of_mem hk
        obtain ⟨x, y', hx, _, hc, hy'⟩ := hat i k hi
        rw [hy'] at hy; cases hy
        exact ⟨x, hx, hc⟩
      · have hy2 : σ.heap[k]? = some y := by rw [← hy]; exact (setAll_other ρ σ.heap _ k hk).symm
        exact ⟨y, hy2, .inr (.inl ⟨rfl, objNb_rep (S.objs k y hy2)⟩)⟩
  have S1 := hw.sim S0
  have hsl := S1.slots
  simp only [Array.toList_append] at hsl
  have hsz : a.tmps.toList.length = σ.slots.length := S.slots.length
  have h1 := hsl.take σ.slots.length
  have h2 := hsl.drop σ.slots.length
  rw [List.take_left' rfl, List.take_left' hsz] at h1
  rw [List.drop_left' rfl, List.drop_left' hsz] at h2
  have S2 : Sim C φ { σ with heap := H1 } a w := { S1 with slots := h1, defers := S1.defers }
  have hcall : CallT P T l0 (renL (backTo ρ H1.length) args) { σ with heap := H1 } (fun o H' => o = O.ren (backTo ρ H1.length) ∧ H' = heapBack ρ σ.heap Ys') := by
    refine callT_of_fnT (σ := { σ with heap := H1 }) hT hG ρ hlen hnd (by show ∀ φ : Nat → Value, T (φ (backTo ρ H1.length 0)) = T (φ l0); rw [hl1]; exact hz) (SubL.refl _) ?_ ?_
    · intro i k x hi hx
      obtain ⟨x', y, _, hy, _, hy'⟩ := hat i k hi
      rw [hy] at hx; cases hx
      show H1[k]? = some (x.ren (backTo ρ H1.length))
      rw [hy', hl1]
    · rintro o H' ⟨rfl, rfl⟩
      refine ⟨rfl, ?_⟩
      show heapBack ρ H1 H' = _
      unfold heapBack
      rw [hl1]
      simp only [H1]
      rw [setAll_setAll ρ σ.heap _ _ hnd (by rw [List.length_map]; exact hlen')]
  rw [hl1] at hcall
  exact hcall C φ a w hP S2 vs h2

section entX
variable {α β α' β' : Type}
def entX0 (base : List Nat) (pos : List Loc) (os : OL β) (as : AL α) (os' : OL β') (rs : AL α') (F : β → α → Option (β' × α')) : Ent := fun args H =>
  (locs args H pos base).bind fun ρ => bif nodupB ρ && (decide (os.need ≤ ρ.length) && (decide (as.need ≤ ρ.length) && decide (ρ.length ≤ os'.size))) then
    (mapO (getAt H) ρ).bind fun xs => (os.dec ρ (lnOf xs) H xs).bind fun b => (as.dec ρ (lnOf xs) H args).bind fun a => (F b a).bind fun r =>
      some ((tupOf (rs.enc (os'.lens r.1) r.2)).ren (backTo ρ H.length), heapBack ρ H (os'.enc (os'.lens r.1) r.1)) else none
def entX (pos : List Loc) (os : OL β) (as : AL α) (os' : OL β') (rs : AL α') (F : β → α → Option (β' × α')) : Ent := entX0 [] pos os as os' rs F
noncomputable def entY (pos : List Loc) (os : OL β) (as : AL α) (os' : OL β') (rs : AL α') (F : β → α → Option (β' × α')) (l : Nat) : Ent := fun args H =>
  match H[l]? with
  | some (.loop k _ _ _) => pcond (args.length = k.ps.size) (entX0 [l] pos os as os' rs F args H)
  | _ => none

theorem entX0_ok {P : Program} {T : Value → World → Array Value → (Ending → World → Prop) → Prop} (hT : TMono T) {l0 : Nat} {base : List Nat} {pos : List Loc} {os : OL β} {as : AL α} {os' : OL β'} {rs : AL α'} {F : β → α → Option (β' × α')}
    (hz : ∀ (ls : List Nat) (n : Nat) (φ : Nat → Value), T (φ (backTo (base ++ ls) n 0)) = T (φ l0)) {args : List AV} {σ : AState} {r : AV} {H' : List AObj} (he : entX0 base pos os as os' rs F args σ.heap = some (r, H')) :
    ∃ b a q, F b a = some q ∧ (FnT P T (as.enc (os.lens b) a) (os.enc (os.lens b) b) (fun o H' => o = .ret (tupOf (rs.enc (os'.lens q.1) q.2)) ∧ H' = os'.enc (os'.lens q.1) q.1) → CallT P T l0 args σ (fun o H'' => o = .ret r ∧ H'' = H')) := by
  unfold entX0 at he
  simp only [Option.bind_eq_some_iff] at he
  obtain ⟨ρ, hρ, he⟩ := he
  cases hc : (nodupB ρ && (decide (os.need ≤ ρ.length) && (decide (as.need ≤ ρ.length) && decide (ρ.length ≤ os'.size)))) with
  | false => simp [hc] at he
  | true =>
    simp only [hc, cond_true, Option.bind_eq_some_iff, Option.some.injEq, Prod.mk.injEq] at he
    obtain ⟨xs, hxs, b, hb, a, ha, q, hq, rfl, rfl⟩ := he
    refine ⟨b, a, q, hq, fun hfn => ?_⟩
    simp only [Bool.and_eq_true, decide_eq_true_eq] at hc
    obtain ⟨hnd, n1, n2, n3⟩ := hc
    obtain ⟨h1, h2⟩ := mapO_get hxs
    have hcov : ∀ m, m ≤ ρ.length → Cov ρ m σ.heap.length := by
      intro m hm k hk
      have hk' : k < ρ.length := by omega
      obtain ⟨x, hx, hx'⟩ := h2 k _ (List.getElem?_eq_getElem hk')
      exact ⟨_, List.getElem?_eq_getElem hk', (List.getElem?_eq_some_iff.1 hx').1⟩
    have hL : os.lens b = lnOf xs := funext fun k => os.lensOK ρ _ _ _ _ hb k
    obtain ⟨h3, h4⟩ := os.ok ρ _ σ.heap σ.heap.length _ _ (hcov _ n1) hb
    have hback : ∀ l, l < ρ.length → atN ρ l = backTo ρ σ.heap.length l := fun l hl => by unfold backTo atN; rw [if_pos hl]
    rw [← hL] at ha h4
    obtain ⟨ls, hls⟩ := locs_pre hρ
    refine callXT hT hfn (nodupB_ok hnd) (by rw [h1, h3, os.sz]) (by rw [os'.sz]; exact n3) (fun φ => by rw [hls]; exact hz ls _ φ) ?_ ?_
    · intro i k hi
      obtain ⟨x, hx, hx'⟩ := h2 i k hi
      have hlt : i < (os.enc (os.lens b) b).length := by rw [os.sz, ← h3, ← h1]; exact (List.getElem?_eq_some_iff.1 hi).1
      have hy := List.getElem?_eq_getElem hlt
      obtain ⟨x2, hx2, hcc⟩ := h4 i _ hy
      rw [hx] at hx2; cases hx2
      refine ⟨x, _, hx', hy, ?_⟩
      rw [← objRen_congr (n := os.need) (fun l hl => hback l (by omega)) _ (os.nb _ _ _ (List.mem_of_getElem? hy))]
      exact hcc
    · rw [← renL_congr (n := as.need) (fun l hl => hback l (by omega)) _ (as.nb _ _)]
      exact as.ok ρ _ σ.heap _ _ _ (hcov _ n2) ha

theorem entX_ok {P : Program} {f : FuncId} {pos : List Loc} {os : OL β} {as : AL α} {os' : OL β'} {rs : AL α'} {F : β → α → Option (β' × α')}
    (h : ∀ b a r, F b a = some r → FnG P f (as.enc (os.lens b) a) (os.enc (os.lens b) b) (fun o H' => o = .ret (tupOf (rs.enc (os'.lens r.1) r.2)) ∧ H' = os'.enc (os'.lens r.1) r.1)) : EntOK P f (entX pos os as os' rs F) := by
  intro args σ r H' he
  obtain ⟨b, a, q, hq, hcall⟩ := entX0_ok (P := P) (T := fun _ w vs R => Calls P f vs w R) (l0 := 0) calls_mono (fun _ _ _ => rfl) he
  exact ⟨(h b a q hq).1, hcall (h b a q hq).2⟩

theorem entY_ok {P : Program} {pos : List Loc} {os : OL β} {as : AL α} {os' : OL β'} {rs : AL α'} {F : β → α → Option (β' × α')}
    (h : ∀ b a r, F b a = some r → FnT P (Rounds P) (as.enc (os.lens b) a) (os.enc (os.lens b) b) (fun o H' => o = .ret (tupOf (rs.enc (os'.lens r.1) r.2)) ∧ H' = os'.enc (os'.lens r.1) r.1))
    {l : Nat} {args : List AV} {σ : AState} {r : AV} {H' : List AObj} (he : entY pos os as os' rs F l args σ.heap = some (r, H')) : YieldA P l args σ (fun o H'' => o = .ret r ∧ H'' = H') := by
  unfold entY at he
  split at he
  · rename_i k slots st pend hk
    rw [pcond_some] at he
    obtain ⟨hlen, he⟩ := he
    obtain ⟨b, a, q, hq, hcall⟩ := entX0_ok (P := P) (T := Rounds P) (l0 := l) rounds_mono (fun ls n φ => by simp [backTo]) he
    exact ⟨⟨k, slots, st, pend, hk, hlen⟩, hcall (h b a q hq)⟩
  · cases he
noncomputable def tabY : List (Nat × (Nat → Ent)) → Nat → Ent
  | [], _, _, _ => none
  | (l', e) :: t, l, args, H => bif l == l' then e l args H else tabY t l args H
theorem tabY_cons_ok {P : Program} {l' : Nat} {e : Nat → Ent} {t : List (Nat × (Nat → Ent))} (h1 : ∀ (l : Nat) (args : List AV) (σ : AState) (r : AV) (H' : List AObj), e l args σ.heap = some (r, H') → YieldA P l args σ (fun o H'' => o = .ret r ∧ H'' = H'))
    (h2 : ∀ (l : Nat) (args : List AV) (σ : AState) (r : AV) (H' : List AObj), tabY t l args σ.heap = some (r, H') → YieldA P l args σ (fun o H'' => o = .ret r ∧ H'' = H')) :
    ∀ (l : Nat) (args : List AV) (σ : AState) (r : AV) (H' : List AObj), tabY ((l', e) :: t) l args σ.heap = some (r, H') → YieldA P l args σ (fun o H'' => o = .ret r ∧ H'' = H') := by
  intro l args σ r H' h
  simp only [tabY] at h
  cases hl : l == l' with
  | true => rw [hl, cond_true] at h; exact h1 l args σ r H' h
  | false => rw [hl, cond_false] at h; exact h2 l args σ r H' h
end entX

section outX
variable {α β γ : Type}
def outL (xs : List AV) (pos : List Loc) (base : List Nat) (low : Nat) (os : OL β) (s : AL α) (σ : AState) : Option (β × α) :=
  (locs xs σ.heap pos base).bind fun ρ => bif nodupB ρ && ((σ.low == low) && (σ.df.isEmpty && (decide (low ≤ os.size) && (decide (os.need ≤ os.size) && decide (s.need ≤ os.size))))) then
    (mapO (getAt σ.heap) ρ).bind fun ys => (os.dec ρ (lnOf ys) σ.heap ys).bind fun b => (s.dec ρ (lnOf ys) σ.heap xs).bind fun a => some (b, a) else none
def outS (P : Program) (rs : List ResultVar) (pos : List Loc) (base : List Nat) (low : Nat) (os : OL β) (s : AL α) (σ : AState) : Option (β × α) :=
  (resList P σ rs).bind fun xs => outL xs pos base low os s σ

theorem outL_ok {xs : List AV} {pos : List Loc} {base : List Nat} {low : Nat} {os : OL β} {s : AL α} {σ : AState} {r : β × α} (hbase : base = List.range low) (h : outL xs pos base low os s σ = some r) :
    σ.df = [] ∧ Imp ⟨xs, σ.heap, σ.low, []⟩ ⟨s.enc (os.lens r.1) r.2, os.enc (os.lens r.1) r.1, σ.low, []⟩ := by
  unfold outL at h
  simp only [Option.bind_eq_some_iff] at h
  obtain ⟨ρ, hρ, h⟩ := h
  cases hc : (nodupB ρ && ((σ.low == low) && (σ.df.isEmpty && (decide (low ≤ os.size) && (decide (os.need ≤ os.size) && decide (s.need ≤ os.size)))))) with
  | false => simp [hc] at h
  | true =>
    simp only [hc, cond_true, Option.bind_eq_some_iff, Option.some.injEq] at h
    obtain ⟨ys, hys, b, hb, a, ha, rfl⟩ := h
    simp only [Bool.and_eq_true, decide_eq_true_eq, beq_iff_eq] at hc
    obtain ⟨hnd, h1, hdf, n1, n2, n3⟩ := hc
    refine ⟨by simpa using hdf, ?_⟩
    obtain ⟨ls, hls⟩ := locs_pre hρ
    obtain ⟨g1, g2⟩ := mapO_get hys
    have hL : os.lens b = lnOf ys := funext fun k => os.lensOK ρ _ _ _ _ hb k
    rw [← hL] at hb ha
    have hsize : ρ.length = os.size := by
      have : ys.length = os.size := os.szOK _ _ _ _ _ hb
      rw [g1, this]
    intro C φ a' w S
    have hcov : ∀ m, m ≤ ρ.length → Cov ρ m σ.heap.length := by
      intro m hm k hk
      have hk' : k < ρ.length := by omega
      obtain ⟨x, hx, hx'⟩ := g2 k _ (List.getElem?_eq_getElem hk')
      exact ⟨_, List.getElem?_eq_getElem hk', (List.getElem?_eq_some_iff.1 hx').1⟩
    let Ys := os.enc (os.lens b) b
    have hYl : Ys.length = os.size := os.sz _ _
    let H1 := setAll σ.heap ρ (Ys.map (AObj.ren (atN ρ)))
    have hl1 : H1.length = σ.heap.length := setAll_length _ _ _
    obtain ⟨_, h4⟩ := os.ok ρ _ σ.heap σ.heap.length _ _ (hcov _ (by omega)) hb
    have hat : ∀ (i k : Nat) (y : AObj), ρ[i]? = some k → Ys[i]? = some y → ∃ x, σ.heap[k]? = some x ∧ CoObj σ.heap σ.heap.length x (y.ren (atN ρ)) ∧ H1[k]? = some (y.ren (atN ρ)) := by
      intro i k y hi hy
      obtain ⟨x, hx, hx'⟩ := g2 i k hi
      obtain ⟨x2, hx2, hcc⟩ := h4 i y hy
      rw [hx] at hx2; cases hx2
      exact ⟨x, hx', hcc, setAll_at ρ σ.heap _ i k _ (nodupB_ok hnd) hi (by rw [List.getElem?_map, hy]; rfl) (List.getElem?_eq_some_iff.1 hx').1⟩
    have hw : Weak ⟨xs, σ.heap, σ.low, []⟩ ⟨renL (atN ρ) (s.enc (os.lens b) a), H1, σ.low, []⟩ := by
      refine ⟨⟨⟨rfl, by show σ.low ≤ H1.length; rw [hl1]; exact S.low.2⟩, rfl, dfNb_nil⟩, ?_, ?_⟩
      · show CoL σ.heap H1.length _ _
        rw [hl1]
        exact s.ok ρ _ σ.heap _ _ _ (hcov _ (by omega)) ha
      · show CoH σ.heap H1.length σ.heap H1
        rw [hl1]
        refine coH_of_get fun k y hy => ?_
        by_cases hk : k ∈ ρ
        · obtain ⟨i, hi⟩ := List.getElem?_of_mem hk
          have hlt : i < Ys.length := by rw [hYl, ← hsize]; exact (List.getElem?_eq_some_iff.1 hi).1
          obtain ⟨x, hx, hc, hy'⟩ := hat i k _ hi (List.getElem?_eq_getElem hlt)
          rw [hy'] at hy; cases hy
          exact ⟨x, hx, hc⟩
        · have hy2 : σ.heap[k]? = some y := by rw [← hy]; exact (setAll_other ρ σ.heap _ k hk).symm
          exact ⟨y, hy2, .inr (.inl ⟨rfl, objNb_rep (S.objs k y hy2)⟩)⟩
    obtain ⟨φ', S1⟩ := hw.imp C φ _ w S
    refine imp_select (ρ := ρ) (Ys := Ys) (by rw [hsize, hYl]) (nodupB_ok hnd) ?_ (by rw [hYl]; omega) (nbL_le (by omega) _ (s.nb _ _)) (fun y hy => objNb_le' (by omega) _ (os.nb _ _ y hy)) ?_ C φ' a' w S1
    · intro k hk
      rw [hls, hbase, List.getElem?_append_left (by rw [List.length_range]; omega), List.getElem?_range (by omega)]
    · intro i k y hi hy
      obtain ⟨x, _, _, hy'⟩ := hat i k y hi hy
      exact hy'
theorem outS_ok {P : Program} {rs : List ResultVar} {pos : List Loc} {base : List Nat} {low : Nat} {os : OL β} {s : AL α} {σ : AState} {r : β × α} (hbase : base = List.range low) (h : outS P rs pos base low os s σ = some r) :
    σ.df = [] ∧ ∃ xs, resList P σ rs = some xs ∧ ImpE ⟨xs, σ.heap, σ.low, []⟩ ⟨s.enc (os.lens r.1) r.2, os.enc (os.lens r.1) r.1, σ.low, []⟩ := by
  unfold outS at h
  simp only [Option.bind_eq_some_iff] at h
  obtain ⟨xs, hx, h⟩ := h
  exact ⟨(outL_ok hbase h).1, xs, hx, (outL_ok hbase h).2.e⟩
end outX
end Go.Abs
namespace Go.Abs
theorem max_le_dec {a b c : Nat} : decide (max a b ≤ c) = (decide (a ≤ c) && decide (b ≤ c)) := by
  rw [Bool.eq_iff_iff]
  simp only [decide_eq_true_eq, Bool.and_eq_true]
  exact Nat.max_le
theorem lnOf_def {xs : List AObj} {k : Nat} : lnOf xs k = (accLen xs[k]?).getD 0 := rfl
theorem accLen_f : (∀ i s r, accLen (some (.acc i s r)) = some r.length) ∧ (∀ c, accLen (some (.cells c)) = none) ∧ (∀ e, accLen (some (.map e)) = none) ∧ accLen (some .dead) = none ∧ accLen none = none := ⟨fun _ _ _ => rfl, fun _ => rfl, fun _ => rfl, rfl, rfl⟩
theorem lolC_f {a : Nat} {f : Lens} : lolC a f 0 = a ∧ ∀ k, lolC a f (k + 1) = f k := ⟨rfl, fun _ => rfl⟩
theorem lolC_1 {a : Nat} {f : Lens} : lolC a f 1 = f 0 := rfl
theorem lolC_2 {a : Nat} {f : Lens} : lolC a f 2 = f 1 := rfl
theorem lolC_3 {a : Nat} {f : Lens} : lolC a f 3 = f 2 := rfl
theorem lolC_4 {a : Nat} {f : Lens} : lolC a f 4 = f 3 := rfl
theorem lolC_5 {a : Nat} {f : Lens} : lolC a f 5 = f 4 := rfl
theorem lolC_6 {a : Nat} {f : Lens} : lolC a f 6 = f 5 := rfl
theorem vlN_n : vlN.need = 0 := rfl
theorem vlT_n {α β : Type} {t : Ty α} {s : VL β} : (vlT t s).need = s.need := rfl
theorem vlP_n {β : Type} {k : Nat} {s : VL β} : (vlP k s).need = max (k + 1) s.need := rfl
theorem vlM_n {β : Type} {k : Nat} {s : VL β} : (vlM k s).need = max (k + 1) s.need := rfl
theorem vlF_n {α β : Type} {f : FuncId} {c : VL α} {s : VL β} : (vlF f c s).need = max c.need s.need := rfl
attribute [go_sem] vlN_n vlT_n vlP_n vlM_n vlF_n vlN_f vlT_f vlP_f vlM_f vlF_f alN_f alT_f alC_f alP_f alM_f alA_f alF_f alZ_f alZs ogA_f ogC_f olN_f olC_f dvlN dvlT dvlP dvlM dvlF dalT dalC dalP dalM dalA dalF dalZ docC dolN dolC
  entX outS locs locN nameV down cellAt lnOf_def accLen_f Option.getD_some Option.getD_none lolC_f lolC_1 lolC_2 lolC_3 lolC_4 lolC_5 lolC_6 max_le_dec Option.some.injEq
end Go.Abs
namespace Go.Abs

def stJ (lk : LoopC) (j : Int) : LoopState := stP (pendOf lk.js j)
theorem stJ_zero {lk : LoopC} : stJ lk 0 = .ready := rfl

section ogL
variable {γ β : Type}
noncomputable def dogL (lk : LoopC) (c : AL γ) (ρ : List Nat) (L : Lens) (H : List AObj) : AObj → Option (γ × Int)
  | .loop lk' slots st j => pcond (lk' = lk ∧ st = stJ lk j) ((c.dec ρ L H slots).bind fun g => some (g, j))
  | _ => none
noncomputable def ogL (lk : LoopC) (c : AL γ) : OG (γ × Int) where
  enc L g := .loop lk (c.enc L g.1) (stJ lk g.2) g.2
  dec := dogL lk c
  len _ := 0
  need := c.need
  nb L g := c.nb L g.1
  ok ρ L H n x g hv h := by
    unfold dogL at h
    split at h
    · simp only [pcond_some, Option.bind_eq_some_iff, Option.some.injEq] at h
      obtain ⟨⟨rfl, rfl⟩, y, hy, rfl⟩ := h
      exact .inr (.inr (.inr (.inr ⟨_, _, _, _, _, rfl, rfl, c.ok ρ L H n _ _ hv hy⟩)))
    · cases h
  lenOK ρ L H x g h := by
    unfold dogL at h
    split at h
    · rfl
    · cases h
noncomputable def dogL0 (lk : LoopC) (c : AL γ) (ρ : List Nat) (L : Lens) (H : List AObj) : AObj → Option γ
  | .loop lk' slots st j => bif j == 0 then pcond (lk' = lk ∧ st = stJ lk j) (c.dec ρ L H slots) else none
  | _ => none
noncomputable def ogL0 (lk : LoopC) (c : AL γ) : OG γ where
  enc L g := .loop lk (c.enc L g) .ready 0
  dec := dogL0 lk c
  len _ := 0
  need := c.need
  nb L g := c.nb L g
  ok ρ L H n x g hv h := by
    unfold dogL0 at h
    split at h
    · rename_i lk' slots st j
      cases hj : j == 0 with
      | false => rw [hj] at h; cases h
      | true =>
        rw [hj, cond_true] at h
        have hj' : j = 0 := by simpa using hj
        subst hj'
        simp only [pcond_some] at h
        obtain ⟨⟨rfl, rfl⟩, hy⟩ := h
        exact .inr (.inr (.inr (.inr ⟨_, _, _, _, _, rfl, rfl, c.ok ρ L H n _ _ hv hy⟩)))
    · cases h
  lenOK ρ L H x g h := by
    unfold dogL0 at h
    split at h
    · rfl
    · cases h
theorem dogL_f {lk lk' : LoopC} {c : AL γ} {ρ : List Nat} {L : Lens} {H : List AObj} {s : List AV} {st : LoopState} {j : Int} : dogL lk c ρ L H (.loop lk' s st j) = pcond (lk' = lk ∧ st = stJ lk j) ((c.dec ρ L H s).bind fun g => some (g, j)) := rfl
theorem dogL0_f {lk lk' : LoopC} {c : AL γ} {ρ : List Nat} {L : Lens} {H : List AObj} {s : List AV} {st : LoopState} {j : Int} : dogL0 lk c ρ L H (.loop lk' s st j) = bif j == 0 then pcond (lk' = lk ∧ st = stJ lk j) (c.dec ρ L H s) else none := rfl
theorem ogL_f {lk : LoopC} {c : AL γ} : (∀ L g, (ogL lk c).enc L g = .loop lk (c.enc L g.1) (stJ lk g.2) g.2) ∧ (∀ ρ L H x, (ogL lk c).dec ρ L H x = dogL lk c ρ L H x) ∧ (∀ g, (ogL lk c).len g = 0) ∧ (ogL lk c).need = c.need := ⟨fun _ _ => rfl, fun _ _ _ _ => rfl, fun _ => rfl, rfl⟩
theorem ogL0_f {lk : LoopC} {c : AL γ} : (∀ L g, (ogL0 lk c).enc L g = .loop lk (c.enc L g) .ready 0) ∧ (∀ ρ L H x, (ogL0 lk c).dec ρ L H x = dogL0 lk c ρ L H x) ∧ (∀ g, (ogL0 lk c).len g = 0) ∧ (ogL0 lk c).need = c.need := ⟨fun _ _ => rfl, fun _ _ _ _ => rfl, fun _ => rfl, rfl⟩
end ogL

def numJ : List (Int × Code) → AExit → Int
  | (k, .ret) :: _, .ret => k
  | (k, .exit n) :: t, .exit m => bif n == m then k else numJ t (.exit m)
  | _ :: t, e => numJ t e
  | [], _ => 0

section outRd
variable {β : Type}
noncomputable def outR2 (js : List (Int × Code)) (pos : List Loc) (base : List Nat) (low : Nat) (os : OL β) (e : AExit) (σ : AState) : Option AObj → Option (β × (Bool × Unit))
  | some (.loop lk sl .busy 0) => pcond (jumpE e = some (pendOf lk.js (numJ js e))) (outL [.bool (pendOf lk.js (numJ js e)).isNone] pos base low os (alT tyB alN) { σ with heap := σ.heap.set 0 (.loop lk sl (stJ lk (numJ js e)) (numJ js e)) })
  | _ => none
noncomputable def outRd (js : List (Int × Code)) (pos : List Loc) (base : List Nat) (low : Nat) (os : OL β) (e : AExit) (σ : AState) : Option (β × (Bool × Unit)) := outR2 js pos base low os e σ σ.heap[0]?
theorem outR2_f {js : List (Int × Code)} {pos : List Loc} {base : List Nat} {low : Nat} {os : OL β} {e : AExit} {σ : AState} {lk : LoopC} {sl : List AV} : outR2 js pos base low os e σ (some (.loop lk sl .busy 0)) =
    pcond (jumpE e = some (pendOf lk.js (numJ js e))) (outL [.bool (pendOf lk.js (numJ js e)).isNone] pos base low os (alT tyB alN) { σ with heap := σ.heap.set 0 (.loop lk sl (stJ lk (numJ js e)) (numJ js e)) }) := rfl
theorem export_of_imp {σ : AState} {x r : AV} {H' : List AObj} (h : Imp ⟨[x], σ.heap, σ.low, []⟩ ⟨[r], H', σ.low, []⟩) : Export σ x r H' := by
  intro C φ a w S v hv
  obtain ⟨φ', S'⟩ := h C φ { tmps := #[v], defers := [] } w { S with slots := ⟨v, [], rfl, hv, rfl⟩, defers := DefOK.nil }
  obtain ⟨v', _, e, hr, _⟩ := S'.slots
  simp only [List.cons.injEq] at e
  obtain ⟨rfl, _⟩ := e
  exact ⟨φ', { S' with slots := rfl, defers := DefOK.nil }, hr⟩
theorem outRd_ok {js : List (Int × Code)} {pos : List Loc} {base : List Nat} {low : Nat} {os : OL β} {e : AExit} {σ : AState} {r : β × (Bool × Unit)} (hbase : base = List.range low) (h : outRd js pos base low os e σ = some r) :
    rPost (fun o H' => o = .ret (tupOf ((alT tyB alN).enc (os.lens r.1) r.2)) ∧ H' = os.enc (os.lens r.1) r.1) e σ := by
  unfold outRd outR2 at h
  split at h
  · rename_i lk sl hk
    simp only [pcond_some] at h
    obtain ⟨hj, h⟩ := h
    have := outL_ok hbase h
    exact ⟨_, lk, sl, hj, hk, _, _, export_of_imp (σ := { σ with heap := σ.heap.set 0 (.loop lk sl (stJ lk (numJ js e)) (numJ js e)) }) this.2, rfl, rfl⟩
  · cases h
end outRd

section rules
variable {R : Type} {M : Mach R} {k : List Kt} {σ : AState}
theorem stepR2_J {H' : List AObj} {lk : LoopC} {s : List AV} {j : Int} : stepR2 M k σ H' (some (.loop lk s (stJ lk j) j)) = stepJ M k { σ with heap := H'.set σ.heap.length .dead } (pendOf lk.js j) := by
  rw [stepR2_some]; exact pcond_refl
theorem stepR2_0 {H' : List AObj} {lk : LoopC} {s : List AV} : stepR2 M k σ H' (some (.loop lk s .ready 0)) = stepJ M k { σ with heap := H'.set σ.heap.length .dead } none := by
  rw [stepR2_some]; exact pcond_refl
end rules
theorem renObj_L {τ : Nat → Nat} {lk : LoopC} {s : List AV} {st : LoopState} {j : Int} : (AObj.loop lk s st j).ren τ = .loop lk (renL τ s) st j := rfl
theorem accLen_L {lk : LoopC} {s : List AV} {st : LoopState} {j : Int} : accLen (some (.loop lk s st j)) = none := rfl
theorem cellAt_f {c : Nat} : (∀ xs, cellAt c (some (.cells xs)) = xs[c]?) ∧ (∀ lk xs st j, cellAt c (some (.loop lk xs st j)) = xs[c]?) := ⟨fun _ => rfl, fun _ _ _ _ => rfl⟩
theorem jumpE_f : jumpE .normal = some none ∧ jumpE .ret = some (some .ret) ∧ ∀ id, jumpE (.exit id) = some (some (.exit id)) := ⟨rfl, rfl, fun _ => rfl⟩
theorem numJ_f : (∀ k t, numJ ((k, .ret) :: t) .ret = k) ∧ (∀ k n t, numJ ((k, .exit n) :: t) .ret = numJ t .ret) ∧ (∀ k t m, numJ ((k, .ret) :: t) (.exit m) = numJ t (.exit m)) ∧ (∀ k n t m, numJ ((k, .exit n) :: t) (.exit m) = bif n == m then k else numJ t (.exit m)) ∧
    (∀ js, numJ js .normal = 0) ∧ (∀ e, numJ [] e = 0) :=
  ⟨fun _ _ => rfl, fun _ _ _ => rfl, fun _ _ _ => rfl, fun _ _ _ _ => rfl, fun js => by induction js with | nil => rfl | cons x t ih => obtain ⟨k, c⟩ := x; cases c <;> exact ih, fun _ => rfl⟩
noncomputable def entYo {α β α' β' : Type} (pos : List Loc) (os : OL β) (as : AL α) (os' : OL β') (rs : AL α') (F : β → α → Option (β' × α')) (l : Nat) (args : List AV) (H : List AObj) : Option AObj → Option (AV × List AObj)
  | some (.loop k _ _ _) => pcond (args.length = k.ps.size) (entX0 [l] pos os as os' rs F args H)
  | _ => none
theorem entY_o {α β α' β' : Type} {pos : List Loc} {os : OL β} {as : AL α} {os' : OL β'} {rs : AL α'} {F : β → α → Option (β' × α')} {l : Nat} {args : List AV} {H : List AObj} :
    entY pos os as os' rs F l args H = entYo pos os as os' rs F l args H H[l]? := rfl
theorem entYo_f {α β α' β' : Type} {pos : List Loc} {os : OL β} {as : AL α} {os' : OL β'} {rs : AL α'} {F : β → α → Option (β' × α')} {l : Nat} {args : List AV} {H : List AObj} {k : LoopC} {s : List AV} {st : LoopState} {j : Int} :
    entYo pos os as os' rs F l args H (some (.loop k s st j)) = pcond (args.length = k.ps.size) (entX0 [l] pos os as os' rs F args H) := rfl
def asgnC : Code → Code
  | .rangeFunc _ _ a _ => a
  | _ => .skip
def bdyC : Code → Code
  | .rangeFunc _ _ _ b => b
  | _ => .skip
attribute [go_sem] asgnC bdyC
def tabJ : List (List Nat × List (Int × Code)) → List Nat → List (Int × Code)
  | [], _ => []
  | (p', js) :: t, p => if p = p' then js else tabJ t p
theorem ready_J {lk : LoopC} : (LoopState.ready = stJ lk 0) = True := by simp [stJ_zero]
noncomputable def oLf (zs : List NZ) (H : List AObj) (n : Nat) : AObj → Option AObj
  | .loop lk s st j => pcond (st = stJ lk j) ((zipZ zs H n s).bind fun ds => some (.loop lk ds (stJ lk j) j))
  | _ => none
noncomputable def oL (zs : List NZ) : ZO := ⟨oLf zs, fun H n x y h => by
  unfold oLf at h
  split at h
  · simp only [pcond_some, Option.bind_eq_some_iff, Option.some.injEq] at h
    obtain ⟨rfl, ds, hd, rfl⟩ := h
    exact .inr (.inr (.inr (.inr ⟨_, _, _, _, _, rfl, rfl, zipZ_ok hd⟩)))
  · cases h⟩
theorem oL_f {zs : List NZ} {H : List AObj} {n : Nat} {lk : LoopC} {s : List AV} {st : LoopState} {j : Int} : (oL zs).f H n (.loop lk s st j) = pcond (st = stJ lk j) ((zipZ zs H n s).bind fun ds => some (.loop lk ds (stJ lk j) j)) := rfl
attribute [go_sem] ready_J oL_f ogL_f ogL0_f dogL_f dogL0_f outRd outR2_f outL entX0 stepR2_J stepR2_0 renObj_L accLen_L cellAt_f jumpE_f numJ_f entY_o entYo_f tabY
end Go.Abs
namespace Go.Abs

def mcB (p : Str × Bool) : AV × AV := (.str (sb p.1), .bool p.2)
def plFind {α : Type} (s : Str) : List (Str × α) → Option α
  | [] => none
  | (k, v) :: es => bif s == k then some v else plFind s es
def plSet {α : Type} (s : Str) (v : α) : List (Str × α) → List (Str × α)
  | [] => [(s, v)]
  | (k, u) :: es => bif s == k then (k, v) :: es else (k, u) :: plSet s v es
theorem sb_beq (a b : Str) : (sb a == sb b) = (a == b) := by
  rw [Bool.eq_iff_iff, MapKept.bytes_beq, beq_iff_eq]
  constructor
  · intro h
    have := congrArg ByteArray.toList h
    rwa [sb_toList, sb_toList] at this
  · rintro rfl; rfl
theorem mapStr_map : ∀ xs : List (Str × Bool), mapStr (xs.map mcB) = true
  | [] => rfl
  | _ :: xs => mapStr_map xs
theorem mapStr_mp (xs : List (Str × Bool)) : mapStr (mp mcB xs) = true := by rw [mp_eq]; exact mapStr_map xs
theorem mapFind_map (s : Str) : ∀ xs : List (Str × Bool), mapFind (sb s) (xs.map mcB) = (plFind s xs).map AV.bool
  | [] => rfl
  | (k, v) :: xs => by
    show (bif sb s == sb k then some (AV.bool v) else mapFind (sb s) (xs.map mcB)) = _
    rw [sb_beq, mapFind_map s xs]
    simp only [plFind]
    cases s == k <;> rfl
theorem mapFind_mp (s : Str) (xs : List (Str × Bool)) : mapFind (sb s) (mp mcB xs) = (plFind s xs).map AV.bool := by rw [mp_eq]; exact mapFind_map s xs
theorem mapSet_map (s : Str) (v : Bool) : ∀ xs : List (Str × Bool), mapSet (sb s) (.bool v) (xs.map mcB) = (plSet s v xs).map mcB
  | [] => rfl
  | (k, u) :: xs => by
    show (bif sb s == sb k then (AV.str (sb k), AV.bool v) :: xs.map mcB else (AV.str (sb k), AV.bool u) :: mapSet (sb s) (.bool v) (xs.map mcB)) = _
    rw [sb_beq, mapSet_map s v xs]
    simp only [plSet]
    cases s == k <;> rfl
theorem mapSet_mp (s : Str) (v : Bool) (xs : List (Str × Bool)) : mapSet (sb s) (.bool v) (mp mcB xs) = mp mcB (plSet s v xs) := by rw [mp_eq, mp_eq]; exact mapSet_map s v xs
theorem mapGet_bool (o : Option Bool) (z : Bool) : (o.map AV.bool).getD (.bool z) = .bool (o.getD z) := by cases o <;> rfl
theorem map_nil_mp : AObj.map [] = .map (mp mcB []) := by rw [mp_eq]; rfl
theorem lookEff_mp {z : AV} {l : Nat} {s : Str} {xs : List (Str × Bool)} : lookEff z l (sb s) (some (.map (mp mcB xs))) = some { val := ((plFind s xs).map AV.bool).getD z, rd := [l] } := by
  simp only [lookEff, mapStr_mp, if_true, mapFind_mp]
theorem mapUpEff_mp {l : Nat} {s : Str} {v : Bool} {xs : List (Str × Bool)} : mapUpEff l (sb s) (.bool v) (some (.map (mp mcB xs))) = some { val := .any, rd := [l], up := [(l, .map (mp mcB (plSet s v xs)))] } := by
  simp only [mapUpEff, mapStr_mp, if_true, mapSet_mp]
theorem mapNb_mp (n : Nat) (xs : List (Str × Bool)) : objNb n (.map (mp mcB xs)) = True := by
  refine eq_true fun p hp => ?_
  rw [mp_eq, List.mem_map] at hp
  obtain ⟨q, _, rfl⟩ := hp
  exact ⟨trivial, trivial⟩
theorem mapRen_mp (ρ : Nat → Nat) (xs : List (Str × Bool)) : (mp mcB xs).map (fun p => (AV.ren ρ p.1, AV.ren ρ p.2)) = mp mcB xs := by
  rw [mp_eq, List.map_map]
  exact List.map_congr_left fun _ _ => rfl
theorem mapNbF_mp (n : Nat) (xs : List (Str × Bool)) : (∀ p : AV × AV, p ∈ mp mcB xs → AV.nb n p.1 ∧ AV.nb n p.2) = True := mapNb_mp n xs
attribute [go_sem high] mapRen_mp mapNbF_mp
def ddB : AV × AV → Option (Str × Bool)
  | (.str s, .bool b) => some (s.toList, b)
  | _ => none
theorem ddB_ok {p : AV × AV} {q : Str × Bool} (h : ddB p = some q) : p = mcB q := by
  unfold ddB at h
  split at h
  · rename_i s b
    simp only [Option.some.injEq] at h
    subst h
    simp only [mcB, Prod.mk.injEq, AV.str.injEq, and_true]
    obtain ⟨⟨l⟩⟩ := s
    rw [ByteArray.toList_eq]; rfl
  · cases h
theorem mapO_ddB' : ∀ {es : List (AV × AV)} {xs : List (Str × Bool)}, mapO ddB es = some xs → es = xs.map mcB
  | [], xs, h => by simp only [mapO, Option.some.injEq] at h; subst h; rfl
  | p :: es, xs, h => by
    simp only [mapO, Option.bind_eq_some_iff, Option.some.injEq] at h
    obtain ⟨q, hq, ys, hys, rfl⟩ := h
    rw [ddB_ok hq, mapO_ddB' hys]; rfl
theorem mapO_ddB {es : List (AV × AV)} {xs : List (Str × Bool)} (h : mapO ddB es = some xs) : es = mp mcB xs := by rw [mp_eq]; exact mapO_ddB' h
theorem map_ren (τ : Nat → Nat) (xs : List (Str × Bool)) : (AObj.map (mp mcB xs)).ren τ = .map (mp mcB xs) := by
  rw [mp_eq]
  show AObj.map ((xs.map mcB).map _) = _
  congr 1
  rw [List.map_map]
  exact List.map_congr_left fun p _ => by obtain ⟨s, b⟩ := p; rfl
def daM : AObj → Option (List (Str × Bool))
  | .map es => mapO ddB es
  | _ => none
theorem daM_mp {xs : List (Str × Bool)} : daM (.map (mp mcB xs)) = some xs := by
  show mapO ddB (mp mcB xs) = some xs
  exact mapO_mp (fun x => by obtain ⟨s, b⟩ := x; show some ((sb s).toList, b) = _; rw [sb_toList]) xs
theorem daM_ok {x : AObj} {xs : List (Str × Bool)} (h : daM x = some xs) : x = .map (mp mcB xs) := by
  unfold daM at h
  split at h
  · rw [mapO_ddB h]
  · cases h
def ogM : OG (List (Str × Bool)) where
  enc _ xs := .map (mp mcB xs)
  dec _ _ _ := daM
  len _ := 0
  need := 0
  nb L g := of_eq_true (mapNb_mp 0 g)
  ok ρ L H n x g _ h := by
    rw [daM_ok h]
    rw [map_ren]
    exact .inr (.inl ⟨rfl, of_eq_true (mapNb_mp n g)⟩)
  lenOK ρ L H x g h := by
    rw [daM_ok h]; rfl
theorem ogM_f : (∀ L g, ogM.enc L g = .map (mp mcB g)) ∧ (∀ ρ L H x, ogM.dec ρ L H x = daM x) ∧ (∀ g, ogM.len g = 0) ∧ ogM.need = 0 := ⟨fun _ _ => rfl, fun _ _ _ _ => rfl, fun _ => rfl, rfl⟩
def gAt : List (List Nat × List (Nat × Nat × Nat)) → List Nat → AState → AState
  | [], _, σ => σ
  | (q, g) :: t, p, σ => if p = q then gCells g σ else gAt t p σ
theorem gAt_ok : ∀ {t : List (List Nat × List (Nat × Nat × Nat))} {p : List Nat} {σ : AState}, Imp σ (gAt t p σ)
  | [], _, _ => Imp.refl _
  | (q, g) :: t, p, σ => by
    unfold gAt
    split
    · exact gCells_ok
    · exact gAt_ok
noncomputable def tabG (fs : List (List Nat × List Nat)) (gs : List (List Nat × List (Nat × Nat × Nat))) (p : List Nat) (σ : AState) : Option AState := (tabF fs p σ).map (gAt gs p)
theorem tabG_ok (fs : List (List Nat × List Nat)) (gs : List (List Nat × List (Nat × Nat × Nat))) : ∀ p σ σ', tabG fs gs p σ = some σ' → Imp σ σ' := by
  intro p σ σ' h
  simp only [tabG, Option.map_eq_some_iff] at h
  obtain ⟨σ1, h1, rfl⟩ := h
  exact (tabF_ok _ _ _ _ h1).trans gAt_ok
attribute [go_sem] gAt tabG
attribute [go_sem] lookEff_mp mapUpEff_mp mapGet_bool map_nil_mp daM_mp ogM_f map_ren
attribute [go_sem high] mapNb_mp
end Go.Abs
namespace Go.Abs
def Tup (α : Type) : Nat → Type
  | 0 => Unit
  | n + 1 => α × Tup α n
section tup
variable {α : Type}
def tupEnc (c : α → List AV) : (n : Nat) → Tup α n → List AV
  | 0, _ => []
  | n + 1, x => c x.1 ++ tupEnc c n x.2
def tupDec (d : List AV → Option α) (sz : Nat) : (n : Nat) → List AV → Option (Tup α n)
  | 0, cs => if cs.isEmpty = true then some () else none
  | n + 1, cs => (d (cs.take sz)).bind fun x => (tupDec d sz n (cs.drop sz)).bind fun t => some (x, t)
theorem tupNb {c : α → List AV} (h : ∀ n x, nbL n (c x)) (k : Nat) : ∀ (n : Nat) (v : Tup α n), nbL k (tupEnc c n v)
  | 0, _ => trivial
  | n + 1, v => nbL_append (h k v.1) (tupNb h k n v.2)
theorem tupOk {c : Cel α} {H : List AObj} {m sz : Nat} : ∀ {n : Nat} {cs : List AV} {v : Tup α n}, tupDec (c.dec H) sz n cs = some v → CoL1 H m cs (tupEnc c.enc n v)
  | 0, cs, v, h => by
    simp only [tupDec] at h
    split at h
    · rename_i he
      rw [List.isEmpty_iff] at he
      subst he; exact CoL1.nil
    · cases h
  | n + 1, cs, v, h => by
    simp only [tupDec, Option.bind_eq_some_iff] at h
    obtain ⟨x, hx, t, ht, he⟩ := h
    obtain rfl : (x, t) = v := Option.some.inj he
    have := CoL1.append (c.ok H m _ _ hx) (tupOk (c := c) (m := m) ht)
    rw [List.take_append_drop] at this
    exact this
def cA (c : Cel α) (sz n : Nat) : Cel (Tup α n) where
  enc v := tupEnc c.enc n v
  dec H cs := tupDec (c.dec H) sz n cs
  ok H m cs v h := tupOk h
  nb k v := tupNb c.nb k n v
theorem cA_f {c : Cel α} {sz n : Nat} : (∀ v, (cA c sz n).enc v = tupEnc c.enc n v) ∧ ∀ H cs, (cA c sz n).dec H cs = tupDec (c.dec H) sz n cs := ⟨fun _ => rfl, fun _ _ => rfl⟩
end tup
attribute [go_sem] cA_f
def sscell (xs : List Str) : List AV := [.lst false 1 (mp scell xs)]
def dSS1 : List AV → Option (List Str)
  | [c] => dL rowS [] c
  | _ => none
theorem scell_nbR (n : Nat) (xs : List Str) : nbR n (mp scell xs) := nbR_rows (r := rowS) xs
def rowSS : Row (List Str) where
  enc := sscell
  dec := dSS1
  sz := 1
  ok r x h := by
    unfold dSS1 at h
    split at h
    · exact SubE.cons (Co1.toSub (n := 0) (dL_ok h)) SubE.nil
    · cases h
  nb n x := ⟨scell_nbR n x, trivial⟩
theorem rowSS_f : rowSS.enc = sscell ∧ rowSS.dec = dSS1 ∧ rowSS.sz = 1 := ⟨rfl, rfl, rfl⟩
theorem dSS1_cell (x : List Str) : dSS1 (sscell x) = some x := by
  simp only [dSS1, sscell, dL, szOK, rowS_f, beq_self_eq_true, Bool.true_or, cond_true, mapO_cells1]
theorem mapO_ss (xs : List (List Str)) : mapO dSS1 (mp sscell xs) = some xs := mapO_mp dSS1_cell xs
theorem ss_nbs : ∀ (n : Nat) (xs : List (List Str)), nbR n (mp sscell xs) = True := fun n xs => eq_true (nbR_rows (r := rowSS) xs)
theorem ss_rens : ∀ (ρ : Nat → Nat) (xs : List (List Str)), renR ρ (mp sscell xs) = mp sscell xs := fun ρ xs => renR_of_nb ρ _ (nbR_rows (r := rowSS) xs)
attribute [go_sem] sscell dSS1 rowSS_f mapO_ss ss_nbs ss_rens
end Go.Abs
namespace Go.Abs
section lend
variable {C : Ctx} {φ : Nat → Value} {σ : AState} {a : Act} {w : World}
def toImm : AObj → AObj
  | .acc _ sz rows => .acc true sz rows
  | x => x
theorem Sim.immN (S : Sim C φ σ a w) : ∀ n : Nat, Sim C φ { σ with heap := (σ.heap.take n).map toImm ++ σ.heap.drop n } a w
  | 0 => by simpa using S
  | n + 1 => by
    have ih := Sim.immN S n
    by_cases hn : n < σ.heap.length
    · have hlen : ((σ.heap.take n).map toImm).length = n := by rw [List.length_map, List.length_take]; omega
      have hd := List.drop_eq_getElem_cons hn
      have ht : (σ.heap.take (n + 1)).map toImm = (σ.heap.take n).map toImm ++ [toImm σ.heap[n]] := by
        rw [List.take_succ_eq_append_getElem hn, List.map_append]; rfl
      rw [ht, List.append_assoc, List.singleton_append]
      cases hx : σ.heap[n] with
      | acc imm sz rows =>
        cases imm with
        | true =>
          rw [hd, hx] at ih
          exact ih
        | false =>
          rw [hd, hx] at ih
          have hl : ((σ.heap.take n).map toImm ++ AObj.acc false sz rows :: σ.heap.drop (n + 1))[n]? = some (.acc false sz rows) := by
            rw [List.getElem?_append_right (by omega), hlen, Nat.sub_self]; rfl
          have := Sim.imm hl ih
          rw [show ((σ.heap.take n).map toImm ++ AObj.acc false sz rows :: σ.heap.drop (n + 1)).set n (.acc true sz rows) = (σ.heap.take n).map toImm ++ AObj.acc true sz rows :: σ.heap.drop (n + 1) from by
            rw [List.set_append_right _ _ (by omega), hlen, Nat.sub_self]; rfl] at this
          exact this
      | cells cs => rw [hd, hx] at ih; exact ih
      | map es => rw [hd, hx] at ih; exact ih
      | loop k s t p => rw [hd, hx] at ih; exact ih
      | iter s p => rw [hd, hx] at ih; exact ih
      | dead => rw [hd, hx] at ih; exact ih
    · have e1 : σ.heap.take (n + 1) = σ.heap.take n := by rw [List.take_of_length_le (by omega), List.take_of_length_le (by omega)]
      have e2 : σ.heap.drop (n + 1) = σ.heap.drop n := by rw [List.drop_eq_nil_of_le (by omega), List.drop_eq_nil_of_le (by omega)]
      rw [e1, e2]; exact ih
theorem Sim.immAll (S : Sim C φ σ a w) : Sim C φ { σ with heap := σ.heap.map toImm } a w := by
  have := Sim.immN S σ.heap.length
  rwa [List.take_length, List.drop_length, List.append_nil] at this
theorem toImm_muts {x : AObj} {h : Value} {b o : Nat} (hm : (toImm x).muts h b o) : x.muts h b o := by
  cases x with
  | acc imm sz rows =>
    cases imm with
    | true => exact hm
    | false => exact imm_muts hm
  | _ => exact hm
theorem immAll_le (C : Ctx) (φ : Nat → Value) (H : List AObj) (w : World) : (C.env φ H w).Le H.length (C.env φ (H.map toImm) w) := by
  refine Ctx.env_le (by simp) (fun k _ => ⟨rfl, ?_⟩) (fun b o u hm hc => ⟨fun h => hm (h.imp ?_ id), hc⟩)
  · rw [List.getElem?_map]
    cases H[k]? with
    | none => rfl
    | some x => cases x <;> rfl
  · rintro ⟨k, y, hy, hmm⟩
    rw [List.getElem?_map, Option.map_eq_some_iff] at hy
    obtain ⟨x, hx, rfl⟩ := hy
    exact ⟨k, x, hx, toImm_muts hmm⟩
def vwN (H : List AObj) : List AV → Option (List AV)
  | [] => some []
  | .agg cs :: r => (vwL H cs).bind fun p => (vwN H r).bind fun q => some (.agg p.1 :: q)
  | c :: r => (vwL H [c]).bind fun p => (vwN H r).bind fun q => some (p.1 ++ q)
theorem vwN_sound (S : Sim C φ σ a w) : ∀ {cs ds : List AV} {vs : List Value}, vwN σ.heap cs = some ds → RepL (C.env φ σ.heap w) cs vs → RepL (C.env φ σ.heap w) ds vs
  | [], ds, vs, h, r => by simp only [vwN, Option.some.injEq] at h; subst h; exact r
  | c :: cs, ds, vs, h, ⟨u, us, hv, r1, r2⟩ => by
    have other : (vwL σ.heap [c]).bind (fun p => (vwN σ.heap cs).bind fun q => some (p.1 ++ q)) = some ds → RepL (C.env φ σ.heap w) ds vs := by
      intro h
      rw [Option.bind_eq_some_iff] at h
      obtain ⟨p, hp, h⟩ := h
      rw [Option.bind_eq_some_iff] at h
      obtain ⟨q, hq, h⟩ := h
      cases h
      have := vwL_sound (vs := [u]) S (show vwL σ.heap [c] = some (p.1, p.2) from hp) ⟨u, [], rfl, r1, rfl⟩
      have h2 := this.append (vwN_sound S hq r2)
      rw [hv]; exact h2
    cases c with
    | agg xs =>
      simp only [vwN] at h
      rw [Option.bind_eq_some_iff] at h
      obtain ⟨p, hp, h⟩ := h
      rw [Option.bind_eq_some_iff] at h
      obtain ⟨q, hq, h⟩ := h
      cases h
      obtain ⟨ys, hy, rl⟩ := r1
      exact ⟨u, us, hv, ⟨ys, hy, vwL_sound S (show vwL σ.heap xs = some (p.1, p.2) from hp) rl⟩, vwN_sound S hq r2⟩
    | _ => exact other (by simpa only [vwN] using h)
def num1 (l : Nat) : AV → AV
  | .int k n => .int k n
  | .bool b => .bool b
  | .str s => .str s
  | .lst _ _ _ => .acc l 0
  | _ => .any
def num2 (l : Nat) : AV → AV
  | .agg cs => .agg (cs.map (num1 l))
  | x => num1 l x
def num (l : Nat) : AV → AV
  | .tup cs => .tup (cs.map (num2 l))
  | x => num2 l x
def firstC : List AObj → Nat → Option Nat
  | [], _ => none
  | .cells _ :: _, n => some n
  | _ :: r, n => firstC r (n + 1)
theorem firstC_ok : ∀ {H : List AObj} {n l : Nat}, firstC H n = some l → ∃ k cs, l = n + k ∧ H[k]? = some (.cells cs)
  | x :: r, n, l, h => by
    cases x with
    | cells cs => simp only [firstC, Option.some.injEq] at h; exact ⟨0, cs, by omega, rfl⟩
    | _ =>
      obtain ⟨k, cs, e, hk⟩ := firstC_ok (show firstC r (n + 1) = some l from h)
      exact ⟨k + 1, cs, by omega, hk⟩
section
variable {E E' : Env} {l : Nat}
theorem num1_rep (h1 : l < E'.n) (h2 : E'.ln l = none) : ∀ {x : AV} {v : Value}, Rep E x v → Rep E' (num1 l x) v := by
  intro x v h
  cases x with
  | lst t sz rows =>
    obtain ⟨base, cap, hv, _⟩ := h
    exact ⟨h1, ⟨_, _, _, hv⟩, fun k hk => by rw [h2] at hk; cases hk⟩
  | int => exact h
  | bool => exact h
  | str => exact h
  | _ => exact trivial
theorem num1_repL (h1 : l < E'.n) (h2 : E'.ln l = none) : ∀ {xs : List AV} {vs : List Value}, RepL E xs vs → RepL E' (xs.map (num1 l)) vs
  | [], _, h => h
  | _ :: _, _, ⟨u, us, hv, r1, r2⟩ => ⟨u, us, hv, num1_rep h1 h2 r1, num1_repL h1 h2 r2⟩
theorem num2_rep (h1 : l < E'.n) (h2 : E'.ln l = none) {x : AV} {v : Value} (h : Rep E x v) : Rep E' (num2 l x) v := by
  cases x with
  | agg cs => obtain ⟨vs, hv, hr⟩ := h; exact ⟨vs, hv, num1_repL h1 h2 hr⟩
  | _ => exact num1_rep h1 h2 h
theorem num2_repL (h1 : l < E'.n) (h2 : E'.ln l = none) : ∀ {xs : List AV} {vs : List Value}, RepL E xs vs → RepL E' (xs.map (num2 l)) vs
  | [], _, h => h
  | _ :: _, _, ⟨u, us, hv, r1, r2⟩ => ⟨u, us, hv, num2_rep h1 h2 r1, num2_repL h1 h2 r2⟩
theorem num_rep (h1 : l < E'.n) (h2 : E'.ln l = none) {x : AV} {v : Value} (h : Rep E x v) : Rep E' (num l x) v := by
  cases x with
  | tup cs => obtain ⟨vs, hv, hr⟩ := h; exact ⟨vs, hv, num2_repL h1 h2 hr⟩
  | _ => exact num2_rep h1 h2 h
end
noncomputable def entB (e : EntD) : Ent := fun args H => pcond (¬ nbL 0 args) ((firstC H 0).bind fun l => (vwN (H.map toImm) args).bind fun as => (e as).bind fun r => some (num l r, H))
theorem entB_ok {P : Program} {f : FuncId} {e : EntD} (h : EntDOK P f e) : EntOK P f (entB e) := by
  intro args σ r H' he
  unfold entB at he
  have he := (pcond_some.1 he).2
  rw [Option.bind_eq_some_iff] at he
  obtain ⟨l, hl, he⟩ := he
  obtain ⟨k, cs, hk, hl⟩ := firstC_ok hl
  obtain rfl : l = k := by omega
  rw [Option.bind_eq_some_iff] at he
  obtain ⟨as, hv, he⟩ := he
  rw [Option.bind_eq_some_iff] at he
  obtain ⟨q, hq, he⟩ := he
  cases he
  obtain ⟨hen, hnb, hc⟩ := h as q hq
  refine ⟨hen, fun C φ a w hP S vs hr => ?_⟩
  have S' := S.immAll
  have hr' : RepL (C.env φ (σ.heap.map toImm) w) args vs.toList := RepL.mono (immAll_le C φ σ.heap w) _ _ (RepL.nb _ _ hr) hr
  have hd := vwN_sound S' hv hr'
  refine (hc S'.callee φ w hP rfl rfl (fun _ _ h => h) vs (RepL.mono (S'.callee_le φ w) _ _ hnb hd)).mono ?_
  rintro e' w' ⟨r, v, φ', rfl, rfl, rep, hs, hh, hf, ho⟩
  exact ⟨.ret (num l r), φ, σ.heap, ⟨rfl, rfl⟩, S.grown hs hh hf ho, num_rep (List.getElem?_eq_some_iff.1 hl).1 (by show accLen σ.heap[l]? = none; rw [hl]; rfl) rep⟩
end lend
end Go.Abs
namespace Go.Abs
theorem pcond_no {R : Type} {x : Option R} : pcond False x = none := by simp [pcond]
theorem not_nb : (¬ True) = False ∧ (¬ False) = True := ⟨by simp, by simp⟩
theorem nbR_set {n : Nat} {r : List AV} : ∀ {rows : List (List AV)} {i : Nat}, nbR n rows → nbR n (rows.set i r) = (rows.length ≤ i ∨ nbL n r)
  | [], _, _ => eq_true trivial |>.trans (eq_true (.inl (Nat.zero_le _))).symm
  | _ :: _, 0, h => by
    have e : (nbL n r ∧ nbR n _) = nbL n r := propext ⟨fun q => q.1, fun q => ⟨q, h.2⟩⟩
    show (nbL n r ∧ nbR n _) = _
    rw [e]
    exact propext ⟨.inr, fun q => q.elim (fun q => absurd q (Nat.not_succ_le_zero _)) id⟩
  | _ :: rows, i + 1, h => by
    show (nbL n _ ∧ nbR n (rows.set i r)) = _
    rw [nbR_set (rows := rows) (i := i) h.2]
    exact propext ⟨fun q => q.2.imp Nat.succ_le_succ id, fun q => ⟨h.1, q.imp Nat.le_of_succ_le_succ id⟩⟩
theorem pcond_bind {R S : Type} {p : Prop} {x : Option R} {f : R → Option S} : (pcond p x).bind f = pcond p (x.bind f) := by
  unfold pcond
  split <;> rfl
theorem idxA_set {α β : Type} {xs : List α} {r : α} {n : Int} {f : α → Option β} : (idxA (xs.set n.toNat r) n).bind f = bif decide (0 ≤ n) && decide (n.toNat < xs.length) then f r else none := by
  unfold idxA
  by_cases h0 : 0 ≤ n
  · by_cases h1 : n.toNat < xs.length
    · rw [if_pos h0, List.getElem?_set_self h1, decide_eq_true h0, decide_eq_true h1]; rfl
    · rw [if_pos h0, List.getElem?_eq_none (by rw [List.length_set]; omega), decide_eq_true h0, decide_eq_false h1]; rfl
  · rw [if_neg h0, decide_eq_false h0]; rfl
theorem get_set {α β : Type} {xs : List α} {r : α} {i : Nat} {f : α → Option β} : ((xs.set i r)[i]?).bind f = bif decide (i < xs.length) then f r else none := by
  by_cases h1 : i < xs.length
  · rw [List.getElem?_set_self h1, decide_eq_true h1]; rfl
  · rw [List.getElem?_eq_none (by rw [List.length_set]; omega), decide_eq_false h1]; rfl
theorem scell_nbset (n : Nat) (xs : List Str) (i : Nat) (r : List AV) : nbR n ((mp scell xs).set i r) = (xs.length ≤ i ∨ nbL n r) := by
  rw [nbR_set (rows := mp scell xs) (nbR_rows (r := rowS) xs), mp_length]
def runeB (n : Int) : Str := (Utf8.encode n).data.toList
theorem encode_sb (n : Int) : Utf8.encode n = sb (runeB n) := (sb_data _).symm
theorem or_bind_some {α β : Type} {x y : Option α} {g : α → β} : (x.bind fun r => some (g r)).or (y.bind fun r => some (g r)) = (x.or y).bind fun r => some (g r) := by cases x <;> rfl
def dLt' {α : Type} (r : Row α) : AV → Option (List α)
  | .lst true sz rows => bif szOK sz r.sz rows then mapO r.dec rows else none
  | _ => none
theorem sub_lst_tight {sz k : Nat} {rows rows' : List (List AV)} (h : szOK sz k rows = true) (hs : SubR rows rows') : Sub (.lst true sz rows) (.lst true k rows') := by
  intro E v r
  obtain ⟨base, cap, h1, h2, _, h4, h5, h6⟩ := sub_lst_sz (t := true) h hs E v r
  obtain ⟨base', cap', h1', _, h3', _⟩ := r
  have e := h1.symm.trans h1'
  simp only [Value.slice.injEq] at e
  obtain ⟨rfl, _, rfl⟩ := e
  exact ⟨base, cap, h1, h2, fun _ => by rw [h3' rfl, hs.1], h4, h5, h6⟩
def tyLt {α : Type} (r : Row α) : Ty (List α) where
  enc xs := .lst true r.sz (mp r.enc xs)
  dec _ := dLt' r
  ok H n v xs h := by
    unfold dLt' at h
    split at h
    · rename_i sz rows
      cases hs : szOK sz r.sz rows with
      | false => rw [hs] at h; cases h
      | true =>
        rw [hs, cond_true] at h
        exact Co.sub (sub_lst_tight hs (mapO_rows h).1) (nbR_rows xs)
    · cases h
  nb _ xs := nbR_rows xs
theorem tyLt_f {α : Type} {r : Row α} : (∀ xs, (tyLt r).enc xs = .lst true r.sz (mp r.enc xs)) ∧ ∀ H v, (tyLt r).dec H v = dLt' r v := ⟨fun _ => rfl, fun _ _ => rfl⟩
theorem stepN_goto {R : Type} {M : Mach R} {p : List Nat} {k : List Kt} {σ : AState} {l : Nat} : stepN M p k σ (.goto l) = none := rfl
attribute [go_sem] entB vwN toImm num num1 num2 firstC immF opTmp pcond_bind or_true idxA_set get_set stepN_goto scell_nbset encode_sb or_bind_some tyLt_f dLt' Bool.not_true Bool.not_false pcond_no not_nb and_false false_and and_true true_and
end Go.Abs
namespace Go.Abs

end Go.Abs
namespace Go.Abs
set_option linter.unusedVariables false

section marks
variable {C : Ctx} {φ : Nat → Value} {σ : AState} {F : Fence} {n : Nat}
end marks

section run
variable {R : Type} {M : Mach R}
end run
end Go.Abs
namespace Go.Abs
set_option linter.unusedVariables false

inductive PR (α β : Type) where
  | ok (x : α)
  | pn (y : β)
def prc {α β γ : Type} (q : PR α β) (f : α → γ) (g : β → γ) : γ := match q with
  | .ok x => f x
  | .pn y => g y
theorem prc_ok {α β γ : Type} {x : α} {f : α → γ} {g : β → γ} : prc (.ok x) f g = f x := rfl
theorem prc_pn {α β γ : Type} {y : β} {f : α → γ} {g : β → γ} : prc (.pn y) f g = g y := rfl
theorem bind_prc {α β γ δ : Type} {q : PR α β} {f : α → Option γ} {g : β → Option γ} {h : γ → Option δ} : (prc q f g).bind h = prc q (fun x => (f x).bind h) (fun y => (g y).bind h) := by cases q <;> rfl
theorem map_prc {α β γ δ : Type} {q : PR α β} {f : α → Option γ} {g : β → Option γ} {h : γ → δ} : (prc q f g).map h = prc q (fun x => (f x).map h) (fun y => (g y).map h) := by cases q <;> rfl

abbrev EntP := List AV → List AObj → Option (AOut × List AObj)
section entX1
variable {α β ρ : Type}
def entX1 (pos : List Loc) (os : OL β) (as : AL α) (sz : Nat) (en : ρ → AOut × List AObj) (F : β → α → Option ρ) : EntP := fun args H =>
  (locs args H pos []).bind fun ρ => bif nodupB ρ && (decide (os.need ≤ ρ.length) && (decide (as.need ≤ ρ.length) && decide (ρ.length ≤ sz))) then
    (mapO (getAt H) ρ).bind fun xs => (os.dec ρ (lnOf xs) H xs).bind fun b => (as.dec ρ (lnOf xs) H args).bind fun a => (F b a).bind fun q =>
      some ((en q).1.ren (backTo ρ H.length), heapBack ρ H (en q).2) else none

theorem entX1_ok {P : Program} {T : Value → World → Array Value → (Ending → World → Prop) → Prop} (hT : TMono T) (hz : ∀ (φ φ' : Nat → Value) (k k' : Nat), T (φ k) = T (φ' k')) {pos : List Loc} {os : OL β} {as : AL α} {sz : Nat} {en : ρ → AOut × List AObj} {F : β → α → Option ρ} (hsz : ∀ q, sz ≤ (en q).2.length)
    {args : List AV} {σ : AState} {o : AOut} {H' : List AObj} (he : entX1 pos os as sz en F args σ.heap = some (o, H')) :
    ∃ b a q, F b a = some q ∧ (FnT P T (as.enc (os.lens b) a) (os.enc (os.lens b) b) (fun o H' => o = (en q).1 ∧ H' = (en q).2) → CallT P T 0 args σ (fun o' H'' => o' = o ∧ H'' = H')) := by
  unfold entX1 at he
  simp only [Option.bind_eq_some_iff] at he
  obtain ⟨ρ, hρ, he⟩ := he
  cases hc : (nodupB ρ && (decide (os.need ≤ ρ.length) && (decide (as.need ≤ ρ.length) && decide (ρ.length ≤ sz)))) with
  | false => simp [hc] at he
  | true =>
    simp only [hc, cond_true, Option.bind_eq_some_iff, Option.some.injEq, Prod.mk.injEq] at he
    obtain ⟨xs, hxs, b, hb, a, ha, q, hq, rfl, rfl⟩ := he
    refine ⟨b, a, q, hq, fun hfn => ?_⟩
    simp only [Bool.and_eq_true, decide_eq_true_eq] at hc
    obtain ⟨hnd, n1, n2, n3⟩ := hc
    obtain ⟨h1, h2⟩ := mapO_get hxs
    have hcov : ∀ m, m ≤ ρ.length → Cov ρ m σ.heap.length := by
      intro m hm k hk
      have hk' : k < ρ.length := by omega
      obtain ⟨x, hx, hx'⟩ := h2 k _ (List.getElem?_eq_getElem hk')
      exact ⟨_, List.getElem?_eq_getElem hk', (List.getElem?_eq_some_iff.1 hx').1⟩
    have hL : os.lens b = lnOf xs := funext fun k => os.lensOK ρ _ _ _ _ hb k
    obtain ⟨h3, h4⟩ := os.ok ρ _ σ.heap σ.heap.length _ _ (hcov _ n1) hb
    have hback : ∀ l, l < ρ.length → atN ρ l = backTo ρ σ.heap.length l := fun l hl => by unfold backTo atN; rw [if_pos hl]
    rw [← hL] at ha h4
    refine callXT hT hfn (nodupB_ok hnd) (by rw [h1, h3, os.sz]) (Nat.le_trans n3 (hsz q)) (fun φ => hz _ _ _ _) ?_ ?_
    · intro i k hi
      obtain ⟨x, hx, hx'⟩ := h2 i k hi
      have hlt : i < (os.enc (os.lens b) b).length := by rw [os.sz, ← h3, ← h1]; exact (List.getElem?_eq_some_iff.1 hi).1
      have hy := List.getElem?_eq_getElem hlt
      obtain ⟨x2, hx2, hcc⟩ := h4 i _ hy
      rw [hx] at hx2; cases hx2
      refine ⟨x, _, hx', hy, ?_⟩
      rw [← objRen_congr (n := os.need) (fun l hl => hback l (by omega)) _ (os.nb _ _ _ (List.mem_of_getElem? hy))]
      exact hcc
    · rw [← renL_congr (n := as.need) (fun l hl => hback l (by omega)) _ (as.nb _ _)]
      exact as.ok ρ _ σ.heap _ _ _ (hcov _ n2) ha
end entX1

section entXP
variable {α β α1 β1 α2 β2 : Type}
def pkO (pk : Bool) (x : AV) : AOut := match pk with
  | true => .panic x
  | false => .ret x
theorem pkO_f {x : AV} : pkO true x = .panic x ∧ pkO false x = .ret x := ⟨rfl, rfl⟩
theorem pkO_ren {pk : Bool} {x : AV} {τ : Nat → Nat} : (pkO pk x).ren τ = pkO pk (x.ren τ) := by cases pk <;> rfl
def enP (pk : Bool) (os1 : OL β1) (rs1 : AL α1) (os2 : OL β2) (rs2 : AL α2) (q : PR (β1 × α1) (β2 × α2)) : AOut × List AObj :=
  prc q (fun r => (.ret (tupOf (rs1.enc (os1.lens r.1) r.2)), os1.enc (os1.lens r.1) r.1)) (fun r => (pkO pk (tupOf (rs2.enc (os2.lens r.1) r.2)), os2.enc (os2.lens r.1) r.1))
theorem enP_sz {pk : Bool} {os1 : OL β1} {rs1 : AL α1} {os2 : OL β2} {rs2 : AL α2} (q : PR (β1 × α1) (β2 × α2)) : min os1.size os2.size ≤ (enP pk os1 rs1 os2 rs2 q).2.length := by
  cases q with
  | ok r => simp only [enP, prc, os1.sz]; exact Nat.min_le_left _ _
  | pn r => simp only [enP, prc, os2.sz]; exact Nat.min_le_right _ _

def entXP (pk : Bool) (pos : List Loc) (os : OL β) (as : AL α) (os1 : OL β1) (rs1 : AL α1) (os2 : OL β2) (rs2 : AL α2) (F : β → α → Option (PR (β1 × α1) (β2 × α2))) : EntP := fun args H =>
  (locs args H pos []).bind fun ρ => bif nodupB ρ && (decide (os.need ≤ ρ.length) && (decide (as.need ≤ ρ.length) && (decide (ρ.length ≤ os1.size) && decide (ρ.length ≤ os2.size)))) then
    (mapO (getAt H) ρ).bind fun xs => (os.dec ρ (lnOf xs) H xs).bind fun b => (as.dec ρ (lnOf xs) H args).bind fun a => (F b a).bind fun q =>
      prc q (fun r => some (.ret ((tupOf (rs1.enc (os1.lens r.1) r.2)).ren (backTo ρ H.length)), heapBack ρ H (os1.enc (os1.lens r.1) r.1)))
        (fun r => some (pkO pk ((tupOf (rs2.enc (os2.lens r.1) r.2)).ren (backTo ρ H.length)), heapBack ρ H (os2.enc (os2.lens r.1) r.1))) else none
theorem entXP_eq {pk : Bool} {pos : List Loc} {os : OL β} {as : AL α} {os1 : OL β1} {rs1 : AL α1} {os2 : OL β2} {rs2 : AL α2} {F : β → α → Option (PR (β1 × α1) (β2 × α2))} {args : List AV} {H : List AObj} :
    entXP pk pos os as os1 rs1 os2 rs2 F args H = entX1 pos os as (min os1.size os2.size) (enP pk os1 rs1 os2 rs2) F args H := by
  unfold entXP entX1
  congr 1
  funext ρ
  have : decide (ρ.length ≤ min os1.size os2.size) = (decide (ρ.length ≤ os1.size) && decide (ρ.length ≤ os2.size)) := by
    rw [Bool.eq_iff_iff]
    simp only [decide_eq_true_eq, Bool.and_eq_true]
    exact Nat.le_min
  rw [this]
  congr 1
  congr 1
  funext xs
  congr 1
  funext b
  congr 1
  funext a
  congr 1
  funext q
  cases q with
  | ok r => rfl
  | pn r => simp only [prc, enP, pkO_ren]

def EntPOK (P : Program) (f : FuncId) (e : EntP) : Prop := ∀ args σ o H', e args σ.heap = some (o, H') → CallA P f args σ (fun o' H'' => o' = o ∧ H'' = H')
def FnP (P : Program) (f : FuncId) (args : List AV) (H : List AObj) (x : AOut × List AObj) : Prop := FnG P f args H (fun o H' => o = x.1 ∧ H' = x.2)
theorem entXP_ok {P : Program} {f : FuncId} {pk : Bool} {pos : List Loc} {os : OL β} {as : AL α} {os1 : OL β1} {rs1 : AL α1} {os2 : OL β2} {rs2 : AL α2} {F : β → α → Option (PR (β1 × α1) (β2 × α2))}
    (h : ∀ b a r, F b a = some r → FnP P f (as.enc (os.lens b) a) (os.enc (os.lens b) b) (enP pk os1 rs1 os2 rs2 r)) : EntPOK P f (entXP pk pos os as os1 rs1 os2 rs2 F) := by
  intro args σ o H' he
  rw [entXP_eq] at he
  obtain ⟨b, a, q, hq, hcall⟩ := entX1_ok (P := P) (T := fun _ w vs R => Calls P f vs w R) calls_mono (fun _ _ _ _ => rfl) enP_sz he
  exact ⟨(h b a q hq).1, hcall (h b a q hq).2⟩

def entXC (pos : List Loc) (os : OL β) (as : AL α) (os1 : OL β1) (rs1 : AL α1) (os2 : OL β2) (rs2 : AL α2) (F : β → α → Option (PR (β1 × α1) (β2 × α2))) : List AV → List AObj → Option CO := fun args H =>
  (locs args H pos []).bind fun ρ => bif nodupB ρ && (decide (os.need ≤ ρ.length) && (decide (as.need ≤ ρ.length) && (decide (ρ.length ≤ os1.size) && decide (ρ.length ≤ os2.size)))) then
    (mapO (getAt H) ρ).bind fun xs => (os.dec ρ (lnOf xs) H xs).bind fun b => (as.dec ρ (lnOf xs) H args).bind fun a => (F b a).bind fun q =>
      prc q (fun r => some (.ret { val := (tupOf (rs1.enc (os1.lens r.1) r.2)).ren (backTo ρ H.length), rd := ρ, up := ρ.zip ((os1.enc (os1.lens r.1) r.1).map (AObj.ren (backTo ρ H.length))), nw := ((os1.enc (os1.lens r.1) r.1).drop ρ.length).map (AObj.ren (backTo ρ H.length)), whole := true }))
        (fun r => some (.pan ((tupOf (rs2.enc (os2.lens r.1) r.2)).ren (backTo ρ H.length)) (heapBack ρ H (os2.enc (os2.lens r.1) r.1)))) else none
def EntCOK (P : Program) (f : FuncId) (e : List AV → List AObj → Option CO) : Prop := ∀ args (σ : AState), (∀ ef, e args σ.heap = some (.ret ef) → CallL P f args σ ef) ∧ ∀ x H', e args σ.heap = some (.pan x H') → PanC P f args σ.heap x H'
end entXP

def tabP : List (Nat × EntP) → FuncId → EntP
  | [], _, _, _ => none
  | (g, e) :: t, f, args, H => if f = g then e args H else tabP t f args H
theorem tabP_cons_ok {P : Program} {g : Nat} {e : EntP} {t : List (Nat × EntP)} (h1 : EntPOK P g e) (h2 : ∀ f args (σ : AState) o H', tabP t f args σ.heap = some (o, H') → CallA P f args σ (fun o' H'' => o' = o ∧ H'' = H')) :
    ∀ f args (σ : AState) o H', tabP ((g, e) :: t) f args σ.heap = some (o, H') → CallA P f args σ (fun o' H'' => o' = o ∧ H'' = H') := by
  intro f args σ r H' h
  simp only [tabP] at h
  split at h
  · rename_i hg; subst hg; exact h1 _ _ _ _ h
  · exact h2 _ _ _ _ _ h
def tabC : List (Nat × (List AV → List AObj → Option CO)) → FuncId → List AV → List AObj → Option CO
  | [], _, _, _ => none
  | (g, e) :: t, f, args, H => if f = g then e args H else tabC t f args H
theorem tabC_nil_ok {P : Program} : ∀ f args (σ : AState), (∀ e, tabC [] f args σ.heap = some (.ret e) → CallL P f args σ e) ∧ ∀ x H', tabC [] f args σ.heap = some (.pan x H') → PanC P f args σ.heap x H' := by
  intro f args σ; exact ⟨fun e h => (by cases h), fun x H' h => (by cases h)⟩
theorem tabC_cons_ok {P : Program} {g : Nat} {e : List AV → List AObj → Option CO} {t : List (Nat × (List AV → List AObj → Option CO))} (h1 : EntCOK P g e) (h2 : ∀ f args (σ : AState), (∀ e, tabC t f args σ.heap = some (.ret e) → CallL P f args σ e) ∧ ∀ x H', tabC t f args σ.heap = some (.pan x H') → PanC P f args σ.heap x H') :
    ∀ f args (σ : AState), (∀ ef, tabC ((g, e) :: t) f args σ.heap = some (.ret ef) → CallL P f args σ ef) ∧ ∀ x H', tabC ((g, e) :: t) f args σ.heap = some (.pan x H') → PanC P f args σ.heap x H' := by
  intro f args σ
  simp only [tabC]
  by_cases hg : f = g
  · subst hg; simp only [if_true]; exact h1 args σ
  · simp only [if_neg hg]; exact h2 f args σ
def isIn : List Nat → FuncId → Bool
  | [], _ => false
  | g :: t, f => f == g || isIn t f

-- deferred calls
abbrev EntQ := FuncId → List AV → List AObj → Option (AOut × List AObj)
section unw
variable {R : Type}
noncomputable def unwX (cr cp : EntQ) (en : Option AV → AState → Option R) : List (FuncId × List AV) → Option AV → AState → Option R
  | [], m, σ => en m σ
  | (f, args) :: ds, none, σ => (cr f args σ.heap).bind fun q => match q with
    | (.ret _, H') => unwX cr cp en ds none { σ with heap := H', df := ds }
    | (.panic _, _) => none
  | (f, args) :: ds, some x, σ => (cp f (args ++ [x]) σ.heap).bind fun q => match q with
    | (.ret _, H') => unwX cr cp en ds none { σ with heap := H', df := ds }
    | (.panic x', H') => unwX cr cp en ds (some x') { σ with heap := H', df := ds }
theorem unwX_nil {cr cp : EntQ} {en : Option AV → AState → Option R} {m : Option AV} {σ : AState} : unwX cr cp en [] m σ = en m σ := by cases m <;> rfl
noncomputable def unwQ (cr cp : EntQ) (en : Option AV → AState → Option R) (ds : List (FuncId × List AV)) (σ : AState) : AOut × List AObj → Option R
  | (.ret _, H') => unwX cr cp en ds none { σ with heap := H', df := ds }
  | (.panic x', H') => unwX cr cp en ds (some x') { σ with heap := H', df := ds }
noncomputable def unwR (cr cp : EntQ) (en : Option AV → AState → Option R) (ds : List (FuncId × List AV)) (σ : AState) : AOut × List AObj → Option R
  | (.ret _, H') => unwX cr cp en ds none { σ with heap := H', df := ds }
  | (.panic x', H') => none
theorem unwX_ret {cr cp : EntQ} {en : Option AV → AState → Option R} {f : FuncId} {args : List AV} {ds : List (FuncId × List AV)} {σ : AState} : unwX cr cp en ((f, args) :: ds) none σ = (cr f args σ.heap).bind (unwR cr cp en ds σ) := by
  simp only [unwX]; congr 1
theorem unwX_pan {cr cp : EntQ} {en : Option AV → AState → Option R} {f : FuncId} {args : List AV} {ds : List (FuncId × List AV)} {x : AV} {σ : AState} : unwX cr cp en ((f, args) :: ds) (some x) σ = (cp f (args ++ [x]) σ.heap).bind (unwQ cr cp en ds σ) := by
  simp only [unwX]; congr 1
def QOK (P : Program) (T : FuncId → Value → World → Array Value → (Ending → World → Prop) → Prop) (c : EntQ) : Prop := ∀ f args (σ : AState) o H', c f args σ.heap = some (o, H') → enters P f = true ∧ CallT P (T f) 0 args σ (fun o' H'' => o' = o ∧ H'' = H')
theorem CallT.mono {P : Program} {T : Value → World → Array Value → (Ending → World → Prop) → Prop} (hT : TMono T) {l : Nat} {args : List AV} {σ : AState} {K K' : AOut → List AObj → Prop} (h : CallT P T l args σ K) (hk : ∀ o H, K o H → K' o H) : CallT P T l args σ K' := by
  intro C φ a w hP S vs hr
  refine hT.mono _ _ _ _ _ ?_ (h C φ a w hP S vs hr)
  rintro e w' ⟨o, φ', H', h1, h2⟩
  exact ⟨o, φ', H', hk _ _ h1, h2⟩
theorem unwX_ok {P : Program} {cr cp : EntQ} {en : Option AV → AState → Option R} {fin : Option AV → AState → Prop} {r : R} (hr : QOK P (TRet P) cr) (hp : QOK P (TPan P) cp) (he : ∀ m σ, σ.df = [] → en m σ = some r → fin m σ) :
    ∀ (ds : List (FuncId × List AV)) (m : Option AV) (σ : AState), σ.df = ds → unwX cr cp en ds m σ = some r → unwA P fin ds m σ
  | [], m, σ, hd, h => by rw [unwX_nil] at h; exact he m σ hd h
  | (f, args) :: ds, none, σ, hd, h => by
    simp only [unwX, Option.bind_eq_some_iff] at h
    obtain ⟨⟨o, H'⟩, hc, h⟩ := h
    obtain ⟨h1, h2⟩ := hr f args { σ with df := ds } o H' hc
    refine ⟨h1, h2.mono tret_mono ?_⟩
    rintro o' H'' ⟨rfl, rfl⟩
    cases o' with
    | ret x => exact unwX_ok hr hp he ds none _ rfl h
    | panic x => cases h
  | (f, args) :: ds, some x, σ, hd, h => by
    simp only [unwX, Option.bind_eq_some_iff] at h
    obtain ⟨⟨o, H'⟩, hc, h⟩ := h
    obtain ⟨h1, h2⟩ := hp f (args ++ [x]) { σ with df := ds } o H' hc
    refine ⟨h1, h2.mono tpan_mono ?_⟩
    rintro o' H'' ⟨rfl, rfl⟩
    cases o' with
    | ret x => exact unwX_ok hr hp he ds none _ rfl h
    | panic x => exact unwX_ok hr hp he ds (some x) _ rfl h
def tabQ : List (Nat × EntP) → EntQ
  | [], _, _, _ => none
  | (g, e) :: t, f, args, H => if f = g then e args H else tabQ t f args H
theorem tabQ_cons_ok {P : Program} {T : FuncId → Value → World → Array Value → (Ending → World → Prop) → Prop} {g : Nat} {e : EntP} {t : List (Nat × EntP)} (h1 : ∀ args (σ : AState) o H', e args σ.heap = some (o, H') → enters P g = true ∧ CallT P (T g) 0 args σ (fun o' H'' => o' = o ∧ H'' = H')) (h2 : QOK P T (tabQ t)) : QOK P T (tabQ ((g, e) :: t)) := by
  intro f args σ o H' h
  simp only [tabQ] at h
  split at h
  · rename_i hg; subst hg; exact h1 _ _ _ _ h
  · exact h2 _ _ _ _ _ h
def enR {α1 β1 : Type} (os1 : OL β1) (rs1 : AL α1) (r : β1 × α1) : AOut × List AObj := (.ret (tupOf (rs1.enc (os1.lens r.1) r.2)), os1.enc (os1.lens r.1) r.1)
def entXR {α β α1 β1 : Type} (pos : List Loc) (os : OL β) (as : AL α) (os1 : OL β1) (rs1 : AL α1) (F : β → α → Option (β1 × α1)) : EntP := entX1 pos os as os1.size (enR os1 rs1) F
theorem entXR_ok {α β α1 β1 : Type} {P : Program} {T : Value → World → Array Value → (Ending → World → Prop) → Prop} {f : FuncId} (hT : TMono T) (hz : ∀ (φ φ' : Nat → Value) (k k' : Nat), T (φ k) = T (φ' k')) (hen : enters P f = true) {pos : List Loc} {os : OL β} {as : AL α} {os1 : OL β1} {rs1 : AL α1} {F : β → α → Option (β1 × α1)}
    (h : ∀ b a r, F b a = some r → FnT P T (as.enc (os.lens b) a) (os.enc (os.lens b) b) (fun o H' => o = (enR os1 rs1 r).1 ∧ H' = (enR os1 rs1 r).2)) : ∀ args (σ : AState) o H', entXR pos os as os1 rs1 F args σ.heap = some (o, H') → enters P f = true ∧ CallT P T 0 args σ (fun o' H'' => o' = o ∧ H'' = H') := by
  intro args σ o H' he
  obtain ⟨b, a, q, hq, hcall⟩ := entX1_ok (P := P) (T := T) hT hz (fun q => by simp only [enR, os1.sz]; exact Nat.le_refl _) he
  exact ⟨hen, hcall (h b a q hq)⟩
end unw

section steps
variable {R : Type} {M : Mach R} {k : List Kt} {σ : AState} {α β : Type} {q : PR α β}
theorem stepP_prc {ops : Array Oper} {dst : Option Tmp} {rest : List Oper} {f : α → Option (AOut × List AObj)} {g : β → Option (AOut × List AObj)} : stepP M ops dst rest k σ (prc q f g) = prc q (fun x => stepP M ops dst rest k σ (f x)) (fun y => stepP M ops dst rest k σ (g y)) := by cases q <;> rfl
theorem stepDP_prc {p : List Nat} {dst : Option Tmp} {rest : List Oper} {j : Nat} {tr : List Tr} {f : α → Option CO} {g : β → Option CO} : stepDP M p dst rest j tr k σ (prc q f g) = prc q (fun x => stepDP M p dst rest j tr k σ (f x)) (fun y => stepDP M p dst rest j tr k σ (g y)) := by cases q <;> rfl
end steps
attribute [go_sem] pkO_f prc_ok prc_pn bind_prc map_prc stepP_prc stepDP_prc entXP entXC entXR entX1 enR tabP tabC tabQ isIn unwX_nil unwX_ret unwX_pan unwQ unwR List.zip_cons_cons List.zip_nil_left AOut.ren

section ends
variable {R : Type} {M : Mach R} {α β α1 β1 α2 β2 : Type}
noncomputable def outXP (P : Program) (rs : List ResultVar) (pos : List Loc) (base : List Nat) (low : Nat) (os : OL β1) (s : AL α1) (σ : AState) : Option (PR (β1 × α1) (β2 × α2)) := (outS P rs pos base low os s σ).map .ok
noncomputable def outXQ (pos : List Loc) (base : List Nat) (low : Nat) (os : OL β2) (s : AL α2) (x : AV) (σ : AState) : Option (PR (β1 × α1) (β2 × α2)) := (outL [x] pos base low os s σ).map .pn
attribute [go_sem] outXP outXQ

theorem tupOf_one {y : AV} : tupOf [y] = y := rfl
theorem fnP_run {f : FuncId} {fn : Func} {args : List AV} {H : List AObj} {r : PR (β1 × α1) (β2 × α2)} {M : Mach (PR (β1 × α1) (β2 × α2))} {n : Nat} {rs : List ResultVar} {os1 : OL β1} {rs1 : AL α1} {os2 : OL β2} {rs2 : AL α2} {p1 p2 : List Loc} {b1 b2 : List Nat} {low : Nat} (G : Good M) (hf : M.P.funcs[f]? = some fn) (hb : fn.body = some M.body) (hne : (fn.name != "runtime.NumGoroutine") = true)
    (hnb : nbL H.length args) (hnbH : ∀ x ∈ H, objNb H.length x) (hn : fn.ntmps = n) (hrs : fn.results = rs.toArray) (hb1 : b1 = List.range low) (hb2 : b2 = List.range low) (hone : ∀ b a, ∃ y, rs2.enc (os2.lens b) a = [y])
    (ho : M.out = outXP M.P rs p1 b1 low os1 rs1) (hq : M.outP = outXQ p2 b2 low os2 rs2)
    (h : run M [.at []] { slots := args ++ List.replicate (n - args.length) .any, heap := H, low := H.length } = some r) : FnP M.P f args H (enP true os1 rs1 os2 rs2 r) := by
  refine fnG_runV G hf hb hne hnb hnbH hn hrs (fun σ hs => ?_) (fun x σ hs => ?_) h
  · rw [ho] at hs
    unfold outXP at hs
    rw [Option.map_eq_some_iff] at hs
    obtain ⟨q, hq, rfl⟩ := hs
    obtain ⟨hd, xs, hx, himp⟩ := outS_ok hb1 hq
    rw [hd]
    exact gEnd_ret hx himp
  · rw [hq] at hs
    unfold outXQ at hs
    rw [Option.map_eq_some_iff] at hs
    obtain ⟨q, hq, rfl⟩ := hs
    obtain ⟨hd, himp⟩ := outL_ok hb2 hq
    rw [hd]
    obtain ⟨y, hy⟩ := hone q.1 q.2
    rw [hy] at himp
    have := gEnd_pan (P := M.P) (rs := rs) himp.e
    simp only [enP, prc, hy, tupOf_one, pkO]
    exact this

noncomputable def outXS (P : Program) (rs : List ResultVar) (p1 : List Loc) (base : List Nat) (low : Nat) (os1 : OL β1) (s1 : AL α1) (p2 : List Loc) (os2 : OL β2) (s2 : AL α2) (σ : AState) : Option (PR (β1 × α1) (β2 × α2)) :=
  ((outS P rs p1 base low os1 s1 σ).map .ok).or ((outS P rs p2 base low os2 s2 σ).map .pn)
attribute [go_sem] outXS
theorem fnS_run {f : FuncId} {fn : Func} {args : List AV} {H : List AObj} {r : PR (β1 × α1) (β2 × α2)} {M : Mach (PR (β1 × α1) (β2 × α2))} {n : Nat} {rs : List ResultVar} {os1 : OL β1} {rs1 : AL α1} {os2 : OL β2} {rs2 : AL α2} {p1 p2 : List Loc} {b1 : List Nat} {low : Nat} (G : Good M) (hf : M.P.funcs[f]? = some fn) (hb : fn.body = some M.body) (hne : (fn.name != "runtime.NumGoroutine") = true)
    (hnb : nbL H.length args) (hnbH : ∀ x ∈ H, objNb H.length x) (hn : fn.ntmps = n) (hrs : fn.results = rs.toArray) (hb1 : b1 = List.range low) (ho : M.out = outXS M.P rs p1 b1 low os1 rs1 p2 os2 rs2)
    (h : run M [.at []] { slots := args ++ List.replicate (n - args.length) .any, heap := H, low := H.length } = some r) (hP : ∀ x σ', M.outP x σ' = none := by intros; rfl) : FnP M.P f args H (enP false os1 rs1 os2 rs2 r) := by
  refine fnG_runV G hf hb hne hnb hnbH hn hrs (fun σ hs => ?_) (fun x σ hs => by rw [hP x σ] at hs; cases hs) h
  rw [ho] at hs
  unfold outXS at hs
  rw [Option.or_eq_some_iff] at hs
  rcases hs with hs | ⟨_, hs⟩
  · rw [Option.map_eq_some_iff] at hs
    obtain ⟨q, hq, rfl⟩ := hs
    obtain ⟨hd, xs, hx, himp⟩ := outS_ok hb1 hq
    rw [hd]
    exact gEnd_ret hx himp
  · rw [Option.map_eq_some_iff] at hs
    obtain ⟨q, hq, rfl⟩ := hs
    obtain ⟨hd, xs, hx, himp⟩ := outS_ok hb1 hq
    rw [hd]
    exact gEnd_ret hx himp

noncomputable def enC {ρ : Type} (P : Program) (rs : List ResultVar) (t : Ty ρ) : Option AV → AState → Option ρ
  | none, σ => outR P rs t σ
  | some _, _ => none
theorem enC_f {ρ : Type} {P : Program} {rs : List ResultVar} {t : Ty ρ} {σ : AState} : enC P rs t none σ = outR P rs t σ ∧ ∀ x, enC P rs t (some x) σ = none := ⟨rfl, fun _ => rfl⟩
noncomputable def outU {ρ : Type} (cr cp : EntQ) (P : Program) (rs : List ResultVar) (t : Ty ρ) (σ : AState) : Option ρ := unwX cr cp (enC P rs t) σ.df none σ
noncomputable def outUP {ρ : Type} (cr cp : EntQ) (P : Program) (rs : List ResultVar) (t : Ty ρ) (x : AV) (σ : AState) : Option ρ := unwX cr cp (enC P rs t) σ.df (some x) σ
attribute [go_sem] enC_f outU outUP
theorem fnC_runU {ρ : Type} {M : Mach ρ} {f : FuncId} {fn : Func} {args : List AV} {r : ρ} {n : Nat} {rs : List ResultVar} {t : Ty ρ} {cr cp : EntQ} (G : Good M) (hcr : QOK M.P (TRet M.P) cr) (hcp : QOK M.P (TPan M.P) cp) (hf : M.P.funcs[f]? = some fn) (hb : fn.body = some M.body) (hne : (fn.name != "runtime.NumGoroutine") = true) (hnb : nbL 0 args)
    (hn : fn.ntmps = n) (hrs : fn.results = rs.toArray) (ho : M.out = outU cr cp M.P rs t) (hq : M.outP = outUP cr cp M.P rs t)
    (h : run M [.at []] { slots := args ++ List.replicate (n - args.length) .any, heap := [] } = some r) : FnC M.P f args (fun v => v = t.enc r) := by
  have hend : ∀ m σ, σ.df = [] → enC M.P rs t m σ = some r → cEnd M.P rs (fun v => v = t.enc r) m σ := by
    intro m σ _ he
    cases m with
    | none => exact (outR_ok he).2
    | some x => cases he
  refine fnC_of_bodyU hf hb hne hnb ?_
  rw [hrs, hn]
  refine run_soundP G h (fun σ hs => ?_) (fun x σ hs => ?_)
  · rw [ho] at hs
    have := unwX_ok hcr hcp hend σ.df none σ rfl hs
    exact ⟨this, this⟩
  · rw [hq] at hs
    exact unwX_ok hcr hcp hend σ.df (some x) σ rfl hs

end ends

def dIf {α : Type} (t : TypeId) (a : Ty α) : AV → Option α
  | .iface t' v => if t' = t then a.dec [] v else none
  | _ => none
theorem sub_iface {t : TypeId} {x y : AV} (h : Sub x y) : Sub (.iface t x) (.iface t y) := by
  rintro E v ⟨u, hu, r⟩
  exact ⟨u, hu, h _ _ r⟩
def tyIf {α : Type} (t : TypeId) (a : Ty α) : Ty α where
  enc x := .iface t (a.enc x)
  dec _ := dIf t a
  ok H n v x h := by
    unfold dIf at h
    split at h
    · split at h
      · rename_i ht
        subst ht
        exact Co.sub (sub_iface (a.ok [] n _ _ h).toSub) (a.nb n x)
      · cases h
    · cases h
  nb n x := a.nb n x
theorem tyIf_f {α : Type} {t : TypeId} {a : Ty α} : (∀ x, (tyIf t a).enc x = .iface t (a.enc x)) ∧ (∀ H v, (tyIf t a).dec H v = dIf t a v) ∧ ∀ v, dIf t a (.iface t v) = a.dec [] v := ⟨fun _ => rfl, fun _ _ => rfl, fun _ => by simp [dIf]⟩
def dE0 : AV → Option Unit
  | .agg [] => some ()
  | _ => none
def tyE0 : Ty Unit where
  enc _ := .agg []
  dec _ := dE0
  ok H n v x h := by
    unfold dE0 at h
    split at h
    · exact Co.same trivial
    · cases h
  nb n x := trivial
theorem tyE0_f : (∀ x, tyE0.enc x = .agg []) ∧ (∀ H v, tyE0.dec H v = dE0 v) ∧ dE0 (.agg []) = some () := ⟨fun _ => rfl, fun _ _ => rfl, rfl⟩
attribute [go_sem] tyIf_f tyE0_f
end Go.Abs
namespace Go.Abs

def mcT {α : Type} (t : Ty α) (p : Str × α) : AV × AV := (.str (sb p.1), t.enc p.2)
section
variable {α : Type} {t : Ty α}
theorem mapStr_mapT : ∀ xs : List (Str × α), mapStr (xs.map (mcT t)) = true
  | [] => rfl
  | _ :: xs => mapStr_mapT xs
theorem mapFind_mapT (s : Str) : ∀ xs : List (Str × α), mapFind (sb s) (xs.map (mcT t)) = (plFind s xs).map t.enc
  | [] => rfl
  | (k, v) :: xs => by
    show (bif sb s == sb k then some (t.enc v) else mapFind (sb s) (xs.map (mcT t))) = _
    rw [sb_beq, mapFind_mapT s xs]
    simp only [plFind]
    cases s == k <;> rfl
theorem mapSet_mapT (s : Str) (v : α) : ∀ xs : List (Str × α), mapSet (sb s) (t.enc v) (xs.map (mcT t)) = (plSet s v xs).map (mcT t)
  | [] => rfl
  | (k, u) :: xs => by
    show (bif sb s == sb k then (AV.str (sb k), t.enc v) :: xs.map (mcT t) else (AV.str (sb k), t.enc u) :: mapSet (sb s) (t.enc v) (xs.map (mcT t))) = _
    rw [sb_beq, mapSet_mapT s v xs]
    simp only [plSet]
    cases s == k <;> rfl
def oel {γ : Type} (o : Option α) (a : γ) (f : α → γ) : γ := match o with
  | none => a
  | some x => f x
theorem oel_none {γ : Type} {a : γ} {f : α → γ} : oel none a f = a := rfl
theorem oel_some {γ : Type} {x : α} {a : γ} {f : α → γ} : oel (some x) a f = f x := rfl
theorem lookOk_T {z : AV} {l : Nat} {s : Str} {xs : List (Str × α)} : lookOk z l (sb s) (some (.map (mp (mcT t) xs))) = oel (plFind s xs) (some { val := .tup [z, .bool false], rd := [l] }) (fun x => some { val := .tup [t.enc x, .bool true], rd := [l] }) := by
  rw [mp_eq]
  simp only [lookOk, mapStr_mapT, if_true, mapFind_mapT]
  cases plFind s xs <;> rfl
theorem mapUp_T {l : Nat} {s : Str} {v : α} {xs : List (Str × α)} : mapUpEff l (sb s) (t.enc v) (some (.map (mp (mcT t) xs))) = some { val := .any, rd := [l], up := [(l, .map (mp (mcT t) (plSet s v xs)))] } := by
  rw [mp_eq, mp_eq]
  simp only [mapUpEff, mapStr_mapT, if_true, mapSet_mapT]
theorem mapNb_T (n : Nat) (xs : List (Str × α)) : objNb n (.map (mp (mcT t) xs)) = True := by
  refine eq_true fun p hp => ?_
  rw [mp_eq, List.mem_map] at hp
  obtain ⟨q, _, rfl⟩ := hp
  exact ⟨trivial, t.nb n q.2⟩
theorem mapNbF_T (n : Nat) (xs : List (Str × α)) : (∀ p : AV × AV, p ∈ mp (mcT t) xs → AV.nb n p.1 ∧ AV.nb n p.2) = True := mapNb_T n xs
theorem mapRen_T (ρ : Nat → Nat) (xs : List (Str × α)) : (mp (mcT t) xs).map (fun p => (AV.ren ρ p.1, AV.ren ρ p.2)) = mp (mcT t) xs := by
  rw [mp_eq, List.map_map]
  refine List.map_congr_left fun q _ => ?_
  show (AV.ren ρ (.str (sb q.1)), AV.ren ρ (t.enc q.2)) = (.str (sb q.1), t.enc q.2)
  rw [ren_of_nb ρ _ (t.nb 0 q.2)]; rfl
theorem map_renT (τ : Nat → Nat) (xs : List (Str × α)) : (AObj.map (mp (mcT t) xs)).ren τ = .map (mp (mcT t) xs) := by
  show AObj.map ((mp (mcT t) xs).map _) = _
  congr 1
  exact mapRen_T τ xs
noncomputable def ddMT (t : Ty α) (x : AObj) : Option (List (Str × α)) := @dite _ (∃ xs, x = .map (mp (mcT t) xs)) (Classical.propDecidable _) (fun h => some h.choose) (fun _ => none)
theorem ddMT_ok {x : AObj} {xs : List (Str × α)} (h : ddMT t x = some xs) : x = .map (mp (mcT t) xs) := by
  unfold ddMT at h
  split at h
  · rename_i hh
    simp only [Option.some.injEq] at h
    subst h
    exact hh.choose_spec
  · cases h
end

theorem mapUp_nilB {α : Type} {t : Ty α} {l : Nat} {s : Str} {v : α} : mapUpEff l (sb s) (t.enc v) (some (.map (mp mcB []))) = some { val := .any, rd := [l], up := [(l, .map (mp (mcT t) [(s, v)]))] } := by
  have := mapUp_T (t := t) (l := l) (s := s) (v := v) (xs := [])
  rw [mp_eq] at this ⊢
  exact this
section inj
variable {α : Type} {t : Ty α} (hinj : ∀ x y, t.enc x = t.enc y → x = y)
include hinj
theorem mcT_inj : ∀ xs ys : List (Str × α), xs.map (mcT t) = ys.map (mcT t) → xs = ys
  | [], [], _ => rfl
  | [], _ :: _, h => by simp at h
  | _ :: _, [], h => by simp at h
  | (s, x) :: xs, (s', y) :: ys, h => by
    simp only [List.map_cons, List.cons.injEq] at h
    obtain ⟨h1, h2⟩ := h
    simp only [mcT, Prod.mk.injEq, AV.str.injEq] at h1
    have e1 : s = s' := by
      have := congrArg ByteArray.toList h1.1
      rwa [sb_toList, sb_toList] at this
    rw [e1, hinj _ _ h1.2, mcT_inj xs ys h2]
theorem ddMT_mp (xs : List (Str × α)) : ddMT t (.map (mp (mcT t) xs)) = some xs := by
  have hh : ∃ ys, (AObj.map (mp (mcT t) xs)) = .map (mp (mcT t) ys) := ⟨xs, rfl⟩
  unfold ddMT
  rw [dif_pos hh]
  have e : AObj.map (mp (mcT t) xs) = AObj.map (mp (mcT t) hh.choose) := hh.choose_spec
  have e2 : mp (mcT t) xs = mp (mcT t) hh.choose := AObj.map.inj e
  have e3 : xs.map (mcT t) = hh.choose.map (mcT t) := by rw [← mp_eq, ← mp_eq]; exact e2
  exact congrArg some (mcT_inj hinj _ _ e3).symm
theorem ddMT_nilB : ddMT t (.map (mp mcB [])) = some [] := by
  have := ddMT_mp hinj []
  rw [mp_eq] at this ⊢
  exact this
theorem ddMT_all : (∀ xs, ddMT t (.map (mp (mcT t) xs)) = some xs) ∧ ddMT t (.map []) = some [] ∧ ddMT t (.map (mp mcB [])) = some [] := by
  refine ⟨ddMT_mp hinj, ?_, ddMT_nilB hinj⟩
  have := ddMT_mp hinj []
  rwa [mp_eq] at this
end inj

section og
variable {α : Type}
noncomputable def ogMT (t : Ty α) : OG (List (Str × α)) where
  enc _ xs := .map (mp (mcT t) xs)
  dec _ _ _ := ddMT t
  len _ := 0
  need := 0
  nb L g := of_eq_true (mapNb_T 0 g)
  ok ρ L H n x g _ h := by
    rw [ddMT_ok h]
    rw [map_renT]
    exact .inr (.inl ⟨rfl, of_eq_true (mapNb_T n g)⟩)
  lenOK ρ L H x g h := by
    rw [ddMT_ok h]; rfl
theorem ogMT_f {t : Ty α} : (∀ L g, (ogMT t).enc L g = .map (mp (mcT t) g)) ∧ (∀ ρ L H x, (ogMT t).dec ρ L H x = ddMT t x) ∧ (∀ g, (ogMT t).len g = 0) ∧ (ogMT t).need = 0 := ⟨fun _ _ => rfl, fun _ _ _ _ => rfl, fun _ => rfl, rfl⟩
noncomputable def oM (t : Ty α) : ZO := ⟨fun _ _ x => (ddMT t x).bind fun xs => some (.map (mp (mcT t) xs)), fun H n x y h => by
  simp only [Option.bind_eq_some_iff, Option.some.injEq] at h
  obtain ⟨xs, hx, rfl⟩ := h
  rw [ddMT_ok hx]
  exact .inr (.inl ⟨rfl, of_eq_true (mapNb_T n xs)⟩)⟩
theorem oM_f {t : Ty α} {H : List AObj} {n : Nat} {x : AObj} : (oM t).f H n x = (ddMT t x).bind fun xs => some (.map (mp (mcT t) xs)) := rfl
end og
noncomputable def dalK {δ : Type} (v : AV) (s : AL δ) (ρ : List Nat) (L : Lens) (H : List AObj) : List AV → Option δ
  | x :: xs => pcond (x = v) (s.dec ρ L H xs)
  | _ => none
noncomputable def alK {δ : Type} (v : AV) (hv : v.nb 0) (s : AL δ) : AL δ where
  enc L g := v :: s.enc L g
  dec := dalK v s
  need := s.need
  nb L g := ⟨AV.nb_le (Nat.zero_le _) v hv, s.nb L g⟩
  ok ρ L H n vs g hc h := by
    unfold dalK at h
    split at h
    · rw [pcond_some] at h
      obtain ⟨rfl, h⟩ := h
      refine CoL.cons ?_ (s.ok ρ L H n _ _ hc h)
      rw [ren_of_nb _ _ hv]
      exact Co.same (AV.nb_le (Nat.zero_le _) _ hv)
    · cases h
theorem alK_f {δ : Type} {v : AV} {hv : v.nb 0} {s : AL δ} : (∀ L g, (alK v hv s).enc L g = v :: s.enc L g) ∧ (∀ ρ L H xs, (alK v hv s).dec ρ L H xs = dalK v s ρ L H xs) ∧ (alK v hv s).need = s.need := ⟨fun _ _ => rfl, fun _ _ _ _ => rfl, rfl⟩
attribute [go_sem] alK_f dalK
section steps
variable {R : Type} {M : Mach R} {k : List Kt} {σ : AState} {α : Type} {o : Option α}
theorem stepE_oel {ops : Array Oper} {dst : Option Tmp} {rest : List Oper} {a : Option Eff} {f : α → Option Eff} : stepE M ops dst rest k σ (oel o a f) = oel o (stepE M ops dst rest k σ a) (fun x => stepE M ops dst rest k σ (f x)) := by cases o <;> rfl
theorem stepDE_oel {p : List Nat} {dst : Option Tmp} {rest : List Oper} {j : Nat} {tr : List Tr} {a : Option Eff} {f : α → Option Eff} : stepDE M p dst rest j tr k σ (oel o a f) = oel o (stepDE M p dst rest j tr k σ a) (fun x => stepDE M p dst rest j tr k σ (f x)) := by cases o <;> rfl
theorem bind_oel {γ δ : Type} {a : Option γ} {f : α → Option γ} {h : γ → Option δ} : (oel o a f).bind h = oel o (a.bind h) (fun x => (f x).bind h) := by cases o <;> rfl
theorem map_oel {γ δ : Type} {a : Option γ} {f : α → Option γ} {h : γ → δ} : (oel o a f).map h = oel o (a.map h) (fun x => (f x).map h) := by cases o <;> rfl
end steps
attribute [go_sem] oM_f oel_none oel_some lookOk_T ogMT_f map_renT stepE_oel stepDE_oel bind_oel map_oel tasEff
attribute [go_sem high] mapNb_T mapRen_T mapNbF_T

section recrun
variable {α1 β1 : Type}
end recrun
end Go.Abs
namespace Go.Abs
section
variable {C : Ctx} {φ : Nat → Value} {σ : AState} {a : Act} {w : World}
variable {α γ : Type}
noncomputable def outM (P : Program) (rs : List ResultVar) (j : Nat) (r : Row γ) (s : RSpec (List γ × Unit) α) (σ : AState) : Option ((List γ × Unit) × α) :=
  bif σ.df.isEmpty then (resList P σ rs).bind fun xs => outM1 (gSlot j r.sz false ⟨xs, σ.heap, 0, []⟩) j r s σ.low else none
where
  outM1 (τ : AState) (j : Nat) (r : Row γ) (s : RSpec (List γ × Unit) α) (low : Nat) : Option ((List γ × Unit) × α) :=
    match τ.slots[j]? with
    | some (.acc l _) => match τ.heap[l]? with
      | some y => pcond (low = 0 ∧ objNb 0 y ∧ nbL 1 (renL (outX 0 l) τ.slots)) (((osC (oaT false r) osN).dec [y] [y]).bind fun b => (s.dec b [y] (renL (outX 0 l) τ.slots)).bind fun a => bif decide (s.need ≤ 1) then some (b, a) else none)
      | none => none
    | _ => none

end

section open_
variable {R : Type} {M : Mach R} {k : List Kt} {σ : AState}
theorem stepDE_any {p : List Nat} {dst : Option Tmp} {rest : List Oper} {j : Nat} {tr : List Tr} {x : AV} {rd : List Nat} {up : List (Nat × AObj)} {nw : List AObj} {pr : Prop} :
    stepDE M p dst rest j tr k σ (some { val := x, rd, up, nw, pre := pr, whole := true }) = pcond pr (pcond (compatP M p tr j { val := x, rd, up, nw, pre := pr, whole := true }) (run M (.dops p rest (j + 1) (pushTr tr j σ.heap.length { val := x, rd, up, nw, pre := pr, whole := true }) :: k) { σ.put dst x with heap := applyUps σ.heap up ++ nw })) := by
  rw [← pcond_and]; rfl
def restE (M : Mach R) (p : List Nat) (c : Nat) (o : Oper) (rest : List Oper) (j : Nat) (σ : AState) : Option Eff → Prop
  | some e => (e.pre ∧ e.up = [] ∧ e.nw = []) ∧ restP M p c rest (j + 1) (σ.put o.dst e.val)
  | none => False
def restC (M : Mach R) (p : List Nat) (c : Nat) (o : Oper) (rest : List Oper) (j : Nat) (σ : AState) : Option (FuncId × List AV) → Prop
  | some _ => False
  | none => restE M p c o rest j σ (opX M.P σ o.op)
def restW (M : Mach R) (p : List Nat) (c : Nat) (o : Oper) (rest : List Oper) (j : Nat) (σ : AState) : Option Bool → Prop
  | none => False
  | some false => restP M p c rest (j + 1) (σ.put o.dst (.raw undef))
  | some true => restC M p c o rest j σ (calleeOf σ o.op)
theorem restE_some {p : List Nat} {c : Nat} {o : Oper} {rest : List Oper} {j : Nat} {e : Eff} : restE M p c o rest j σ (some e) = ((e.pre ∧ e.up = [] ∧ e.nw = []) ∧ restP M p c rest (j + 1) (σ.put o.dst e.val)) := rfl
theorem restC_none {p : List Nat} {c : Nat} {o : Oper} {rest : List Oper} {j : Nat} : restC M p c o rest j σ none = restE M p c o rest j σ (opX M.P σ o.op) := rfl
theorem restW_true {p : List Nat} {c : Nat} {o : Oper} {rest : List Oper} {j : Nat} : restW M p c o rest j σ (some true) = restC M p c o rest j σ (calleeOf σ o.op) := rfl
theorem restW_false {p : List Nat} {c : Nat} {o : Oper} {rest : List Oper} {j : Nat} : restW M p c o rest j σ (some false) = restP M p c rest (j + 1) (σ.put o.dst (.raw undef)) := rfl
theorem restP_next {p : List Nat} {c j : Nat} {o : Oper} {rest : List Oper} (h : ordQ M p c j = false) : restP M p c (o :: rest) j σ = restW M p c o rest j σ (wantedA (opsAt M p) o σ) := by
  unfold ordQ at h
  show restI M.P (opsAt M p) c (o :: rest) j σ = _
  simp only [restI, h]
  cases hw : wantedA (opsAt M p) o σ with
  | none => rfl
  | some b =>
    cases b with
    | false => rfl
    | true =>
      simp only [restW]
      cases hc : calleeOf σ o.op with
      | some q => simp [restC]
      | none =>
        simp only [true_and, restC, ← opX_eq]
        cases opEff M.P σ o.op with
        | none => rfl
        | some e => rfl
end open_
attribute [go_sem] stepDE_any restE_some restC_none restW_true restW_false restP_next restP_skip
attribute [go_sem] outM outM.outM1
end Go.Abs
namespace Go.Abs
section
variable {P : Program} {f : FuncId} {α : Type}
theorem mp_isEmpty_cons {f : α → List AV} {x : α} {xs : List α} : (mp f (x :: xs)).isEmpty = false := by rw [mp_isEmpty]; rfl
theorem cellsOf_nil : cellsOf (.agg []) = some [] := rfl
theorem splice_nil : splice [] 0 [] = [] := rfl
theorem av_ne : (∀ l o v, (AV.ptr l o = AV.raw v) = False) ∧ (∀ l o v, (AV.raw v = AV.ptr l o) = False) ∧ ((AV.bool true = AV.bool false) = False) ∧ ((AV.bool false = AV.bool true) = False) := by simp
end
attribute [go_sem] mp_isEmpty_cons List.isEmpty_nil cellsOf_nil splice_nil av_ne
end Go.Abs
namespace Go.Abs
noncomputable def mkA {R : Type} (P : Program) (f : Func) (n : Nat) (out : AState → Option R) (cl : FuncId → List AV → List AObj → Option (AV × List AObj) := tabA []) (cd : FuncId → List AV → Option AV := tabD [])
    (nrm : List Nat → AState → Option AState := tabN []) (cut : List Nat → AState → Option AState := tabF []) (isP : FuncId → Bool := tabI []) (cp : FuncId → List AV → List AObj → Option (AOut × List AObj) := fun _ _ _ => none)
    (outP : AV → AState → Option R := fun _ _ => none) (isC : FuncId → Bool := fun _ => false) (co : FuncId → List AV → List AObj → Option CO := fun _ _ _ => none) (isE : FuncId → Bool := fun _ => false)
    (ce : FuncId → List AV → List AObj → Option Eff := fun _ _ _ => none) (js : List Nat → List (Int × Code) := fun _ => []) (cy : Nat → List AV → List AObj → Option (AV × List AObj) := fun _ _ _ => none) : Mach R :=
  { P := P, body := f.body.getD .skip, cl := cl, cd := cd, nrm := nrm, cut := cut, n := n, out := out, isP := isP, cp := cp, outP := outP, isC := isC, co := co, isE := isE, ce := ce, js := js, cy := cy }
section
variable {R : Type} {P : Program} {f : Func} {n : Nat} {out : AState → Option R} {cl : FuncId → List AV → List AObj → Option (AV × List AObj)} {cd : FuncId → List AV → Option AV} {nrm : List Nat → AState → Option AState} {cut : List Nat → AState → Option AState} {isP : FuncId → Bool} {cp : FuncId → List AV → List AObj → Option (AOut × List AObj)}
  {outP : AV → AState → Option R} {isC : FuncId → Bool} {co : FuncId → List AV → List AObj → Option CO} {isE : FuncId → Bool} {ce : FuncId → List AV → List AObj → Option Eff} {js : List Nat → List (Int × Code)} {cy : Nat → List AV → List AObj → Option (AV × List AObj)}
theorem mkA_f : (mkA P f n out cl cd nrm cut isP cp outP isC co isE ce js cy).P = P ∧ (mkA P f n out cl cd nrm cut isP cp outP isC co isE ce js cy).body = f.body.getD .skip ∧ (mkA P f n out cl cd nrm cut isP cp outP isC co isE ce js cy).n = n ∧
    (mkA P f n out cl cd nrm cut isP cp outP isC co isE ce js cy).out = out ∧ (mkA P f n out cl cd nrm cut isP cp outP isC co isE ce js cy).cl = cl ∧ (mkA P f n out cl cd nrm cut isP cp outP isC co isE ce js cy).cd = cd ∧
    (mkA P f n out cl cd nrm cut isP cp outP isC co isE ce js cy).nrm = nrm ∧ (mkA P f n out cl cd nrm cut isP cp outP isC co isE ce js cy).cut = cut ∧ (mkA P f n out cl cd nrm cut isP cp outP isC co isE ce js cy).isP = isP ∧
    (mkA P f n out cl cd nrm cut isP cp outP isC co isE ce js cy).cp = cp ∧ (mkA P f n out cl cd nrm cut isP cp outP isC co isE ce js cy).outP = outP ∧ (mkA P f n out cl cd nrm cut isP cp outP isC co isE ce js cy).isC = isC ∧
    (mkA P f n out cl cd nrm cut isP cp outP isC co isE ce js cy).co = co ∧ (mkA P f n out cl cd nrm cut isP cp outP isC co isE ce js cy).isE = isE ∧ (mkA P f n out cl cd nrm cut isP cp outP isC co isE ce js cy).ce = ce ∧
    (mkA P f n out cl cd nrm cut isP cp outP isC co isE ce js cy).js = js ∧ (mkA P f n out cl cd nrm cut isP cp outP isC co isE ce js cy).cy = cy := ⟨rfl, rfl, rfl, rfl, rfl, rfl, rfl, rfl, rfl, rfl, rfl, rfl, rfl, rfl, rfl, rfl, rfl⟩
end
@[reducible] def ini (args : List AV) (n : Nat) (H : List AObj := []) : AState := { slots := args ++ List.replicate (n - args.length) .any, heap := H, low := H.length }
class Fu (α : Type) where z : α
instance {α : Type} : Fu (Option α) := ⟨none⟩
instance {α β : Type} [Fu β] : Fu (α → β) := ⟨fun _ => Fu.z⟩
def fu {α : Type} [Fu α] (F : Nat → α) : Nat → α
  | 0 => Fu.z
  | n + 1 => F n
theorem fu_succ {α : Type} [Fu α] {F : Nat → α} {n : Nat} : fu F (n + 1) = F n := rfl
def lpF {α : Type} [Fu α] (F : α → α) : Nat → α
  | 0 => Fu.z
  | m + 1 => F (lpF F m)
def lpM {α : Type} [Fu α] (F : Nat → α → α) : Nat → α
  | 0 => Fu.z
  | m + 1 => F m (lpM F m)
theorem lpF_eq {α : Type} [Fu α] {F : α → α} {G : Nat → α → Prop} (h0 : G 0 Fu.z) (hs : ∀ m X, G m X → G (m + 1) (F X)) : ∀ m, G m (lpF F m)
  | 0 => h0
  | m + 1 => hs m _ (lpF_eq h0 hs m)
@[reducible] def ay4 (l : List AV) : List AV := .any :: .any :: .any :: .any :: l
@[reducible] def ay16 (l : List AV) : List AV := .any :: .any :: .any :: .any :: .any :: .any :: .any :: .any :: .any :: .any :: .any :: .any :: .any :: .any :: .any :: .any :: l
@[reducible] def ay64 (l : List AV) : List AV := ay16 (ay16 (ay16 (ay16 l)))
@[reducible] def zA4 (l : List NZ) : List NZ := zA :: zA :: zA :: zA :: l
@[reducible] def zA16 (l : List NZ) : List NZ := zA4 (zA4 (zA4 (zA4 l)))
@[reducible] def zA64 (l : List NZ) : List NZ := zA16 (zA16 (zA16 (zA16 l)))
theorem gd {R : Type} {P : Program} {f : Func} {n : Nat} {out : AState → Option R} {cl : FuncId → List AV → List AObj → Option (AV × List AObj)} {cd : FuncId → List AV → Option AV} {nl : List (List Nat × Nrm)} {cu : List (List Nat × List Nat)} {isP : FuncId → Bool} {cp : FuncId → List AV → List AObj → Option (AOut × List AObj)}
    {outP : AV → AState → Option R} {isC : FuncId → Bool} {co : FuncId → List AV → List AObj → Option CO} {isE : FuncId → Bool} {ce : FuncId → List AV → List AObj → Option Eff} {js : List Nat → List (Int × Code)} {cy : Nat → List AV → List AObj → Option (AV × List AObj)}
    (a : ∀ f args σ r H', cl f args (AState.heap σ) = some (r, H') → CallA P f args σ (fun o H'' => o = .ret r ∧ H'' = H')) (d : ∀ f args r, cd f args = some r → FnC P f args (fun v => v = r))
    (y : ∀ l args σ r H', cy l args (AState.heap σ) = some (r, H') → YieldA P l args σ (fun o H'' => o = .ret r ∧ H'' = H') := by exact noY_ok) (e : ∀ f args σ e, ce f args (AState.heap σ) = some e → CallL P f args σ e := by exact noE_ok)
    (p : ∀ f args σ o H', cp f args (AState.heap σ) = some (o, H') → CallA P f args σ (fun o' H'' => o' = o ∧ H'' = H') := by exact noP_ok)
    (c : ∀ f args σ, (∀ e, co f args (AState.heap σ) = some (.ret e) → CallL P f args σ e) ∧ ∀ x H', co f args σ.heap = some (.pan x H') → PanC P f args σ.heap x H' := by exact noC_ok) :
    Good (mkA P f n out cl cd (tabN nl) (tabF cu) isP cp outP isC co isE ce js cy) := ⟨a, d, tabN_ok _, tabF_ok _, y, e, p, c⟩
section
variable {β γ α β1 α1 β2 α2 : Type}
abbrev SG (P : Program) (g : FuncId) (as : AL γ) (os : OL β) (b : β) (a : γ) (os1 : OL β1) (s : AL α) (r : β1 × α) : Prop :=
  FnG P g (as.enc (os.lens b) a) (os.enc (os.lens b) b) (fun o H' => o = .ret (tupOf (s.enc (os1.lens r.1) r.2)) ∧ H' = os1.enc (os1.lens r.1) r.1)
abbrev SP (P : Program) (g : FuncId) (as : AL γ) (os : OL β) (b : β) (a : γ) (pk : Bool) (os1 : OL β1) (s1 : AL α1) (os2 : OL β2) (s2 : AL α2) (r : PR (β1 × α1) (β2 × α2)) : Prop :=
  FnP P g (as.enc (os.lens b) a) (os.enc (os.lens b) b) (enP pk os1 s1 os2 s2 r)
@[reducible] def iniX (as : AL γ) (os : OL β) (b : β) (a : γ) (k : Nat) : AState := ini (as.enc (os.lens b) a) k (os.enc (os.lens b) b)
theorem nbA {as : AL γ} {os : OL β} {b : β} {a : γ} (h : decide (as.need ≤ os.size) = true) : nbL (os.enc (os.lens b) b).length (as.enc (os.lens b) a) :=
  nbL_le (Nat.le_trans (of_decide_eq_true h) (Nat.le_of_eq (os.sz _ _).symm)) _ (as.nb _ _)
theorem nbO {os : OL β} {b : β} (h : decide (os.need ≤ os.size) = true) : ∀ x ∈ os.enc (os.lens b) b, objNb (os.enc (os.lens b) b).length x :=
  fun x hx => objNb_le' (Nat.le_trans (of_decide_eq_true h) (Nat.le_of_eq (os.sz _ _).symm)) _ (os.nb _ _ x hx)
variable {P : Program} {fn : Func} {m : Nat} {cl : FuncId → List AV → List AObj → Option (AV × List AObj)} {cd : FuncId → List AV → Option AV} {nrm : List Nat → AState → Option AState} {cut : List Nat → AState → Option AState} {isP : FuncId → Bool} {cp : FuncId → List AV → List AObj → Option (AOut × List AObj)}
  {isC : FuncId → Bool} {co : FuncId → List AV → List AObj → Option CO} {isE : FuncId → Bool} {ce : FuncId → List AV → List AObj → Option Eff} {js : List Nat → List (Int × Code)} {cy : Nat → List AV → List AObj → Option (AV × List AObj)} {k : Nat} {g : FuncId} {rs : List ResultVar} {p1 p2 : List Loc} {b1 b2 : List Nat} {low : Nat}
  {R : Type} {t : Ty R} {args : List AV} {as : AL γ} {os : OL β} {b : β} {a : γ} {os0 : OL β1} {s : AL α} {os1 : OL β1} {rs1 : AL α1} {os2 : OL β2} {rs2 : AL α2}
theorem okC {r : R} (h : run (mkA P fn m (outR P rs t) cl cd nrm cut isP cp (fun _ _ => none) isC co isE ce js cy) [.at []] (ini args k) = some r) (G : Good (mkA P fn m (outR P rs t) cl cd nrm cut isP cp (fun _ _ => none) isC co isE ce js cy)) (hf : P.funcs[g]? = some fn) (hnb : nbL 0 args) (hn : fn.ntmps = k) (hrs : fn.results = rs.toArray) (hb : fn.body = some (fn.body.getD .skip) := by exact rfl) (hne : (fn.name != "runtime.NumGoroutine") = true := by exact rfl) : FnC P g args (fun v => v = t.enc r) :=
  fnC_run G hf hb hne hnb hn hrs (fun σ hs => outR_ok hs) h
theorem okG {r : β1 × α} (h : run (mkA P fn m (outS P rs p1 b1 low os0 s) cl cd nrm cut isP cp (fun _ _ => none) isC co isE ce js cy) [.at []] (iniX as os b a k) = some r) (G : Good (mkA P fn m (outS P rs p1 b1 low os0 s) cl cd nrm cut isP cp (fun _ _ => none) isC co isE ce js cy)) (hf : P.funcs[g]? = some fn) (hn : fn.ntmps = k) (hrs : fn.results = rs.toArray) (h1 : decide (as.need ≤ os.size) = true := by kernel_rfl) (h2 : decide (os.need ≤ os.size) = true := by kernel_rfl) (hb1 : b1 = List.range low := by exact rfl) (hb : fn.body = some (fn.body.getD .skip) := by exact rfl) (hne : (fn.name != "runtime.NumGoroutine") = true := by exact rfl) : SG P g as os b a os0 s r :=
  fnG_run G hf hb hne (nbA h1) (nbO h2) hn hrs (fun σ hs => outS_ok hb1 hs) h
end
noncomputable def entDC (e : EntD) : List AV → List AObj → Option CO := fun args _ => (e args).bind fun r => some (.ret { val := r })
def entCA (a b : List AV → List AObj → Option CO) : List AV → List AObj → Option CO := fun args H => (a args H).or (b args H)
theorem entDC_ok {P : Program} {f : FuncId} {e : EntD} (h : EntDOK P f e) : EntCOK P f (entDC e) := by
  intro args σ
  refine ⟨fun ef he => ?_, fun x H' he => ?_⟩
  · simp only [entDC, Option.bind_eq_some_iff, Option.some.injEq, CO.ret.injEq] at he
    obtain ⟨r, hr, rfl⟩ := he
    refine ⟨⟨by simp, by simp⟩, fun σ' _ _ _ => ?_⟩
    refine CallA.mono (callA_of_fnC (σ := σ') (K := fun o H' => o = .ret r ∧ H' = σ'.heap) (h args r hr) (by rintro _ rfl; exact ⟨rfl, rfl⟩)) ?_
    rintro o H ⟨rfl, rfl⟩
    exact ⟨rfl, by simp [applyUps]⟩
  · simp only [entDC, Option.bind_eq_some_iff, Option.some.injEq] at he
    obtain ⟨r, _, he⟩ := he
    cases he
theorem entCA_ok {P : Program} {f : FuncId} {a b : List AV → List AObj → Option CO} (h1 : EntCOK P f a) (h2 : EntCOK P f b) : EntCOK P f (entCA a b) := by
  intro args σ
  refine ⟨fun ef he => ?_, fun x H' he => ?_⟩
  · rcases Option.or_eq_some_iff.1 he with he | ⟨_, he⟩
    · exact (h1 args σ).1 ef he
    · exact (h2 args σ).1 ef he
  · rcases Option.or_eq_some_iff.1 he with he | ⟨_, he⟩
    · exact (h1 args σ).2 x H' he
    · exact (h2 args σ).2 x H' he
attribute [go_sem] entDC entCA mkA_f iniX ini ay4 ay16 ay64 zA4 zA16 zA64
end Go.Abs
namespace Go.Abs
section
variable {α δ δ' : Type}
theorem tupOf_nb {n : Nat} : ∀ {ys : List AV}, nbL n ys → (tupOf ys).nb n
  | [], h => h
  | [_], h => h.1
  | _ :: _ :: _, h => h
theorem set_same {H : List AObj} {l : Nat} {x : AObj} (h : H[l]? = some x) : H.set l x = H := by
  obtain ⟨hl, rfl⟩ := List.getElem?_eq_some_iff.1 h
  exact List.set_getElem_self hl
noncomputable def entA (imm : Bool) (row : Row α) (s : AL δ) (rs : AL δ') (F : (List α × Unit) → δ → Option ((List α × Unit) × δ')) : List AV → List AObj → Option CO := fun args H => match args with
  | .acc l n :: cs => match H[l]? with
    | some x => (daT imm row x).bind fun rows => pcond (n = rows.length) (pcond (x = .acc imm row.sz (mp row.enc rows)) ((s.dec [] ((olC (ogA imm row) olN).lens (rows, ())) H cs).bind fun a => pcond (cs = s.enc ((olC (ogA imm row) olN).lens (rows, ())) a) ((F (rows, ()) a).bind fun r =>
        pcond (r.1 = (rows, ())) (some (.ret { val := tupOf (rs.enc ((olC (ogA imm row) olN).lens (rows, ())) r.2), rd := [l] })))))
    | none => none
  | _ => none
theorem entA_eq {imm : Bool} {row : Row α} {s : AL δ} {rs : AL δ'} {F : (List α × Unit) → δ → Option ((List α × Unit) × δ')} {l n : Nat} {cs : List AV} {H : List AObj} : entA imm row s rs F (.acc l n :: cs) H = match H[l]? with
    | some x => (daT imm row x).bind fun rows => pcond (n = rows.length) (pcond (x = .acc imm row.sz (mp row.enc rows)) ((s.dec [] ((olC (ogA imm row) olN).lens (rows, ())) H cs).bind fun a => pcond (cs = s.enc ((olC (ogA imm row) olN).lens (rows, ())) a) ((F (rows, ()) a).bind fun r =>
        pcond (r.1 = (rows, ())) (some (.ret { val := tupOf (rs.enc ((olC (ogA imm row) olN).lens (rows, ())) r.2), rd := [l] })))))
    | none => none := rfl
theorem entA_no {imm : Bool} {row : Row α} {s : AL δ} {rs : AL δ'} {F : (List α × Unit) → δ → Option ((List α × Unit) × δ')} {b : Bool} {t : Nat} {rows : List (List AV)} {cs : List AV} {H : List AObj} : entA imm row s rs F (.lst b t rows :: cs) H = none := rfl
theorem entA_ok {P : Program} {f : FuncId} {imm : Bool} {row : Row α} {s : AL δ} {rs : AL δ'} {F : (List α × Unit) → δ → Option ((List α × Unit) × δ')} (hs : s.need = 0) (hr : rs.need = 0)
    (h : ∀ b a r, F b a = some r → SG P f (alA 0 s) (olC (ogA imm row) olN) b a (olC (ogA imm row) olN) rs r) : EntCOK P f (entA imm row s rs F) := by
  have key : ∀ args (σ : AState) c, entA imm row s rs F args σ.heap = some c → ∃ ef, c = .ret ef ∧ CallL P f args σ ef := by
    intro args σ c hc
    unfold entA at hc
    split at hc
    · rename_i l n cs
      split at hc
      · rename_i x hx
        simp only [Option.bind_eq_some_iff, pcond_some] at hc
        obtain ⟨rows, _, hn, hxe, a, _, hcs, r, hF, hr1, hc⟩ := hc
        cases hc
        subst hn
        refine ⟨_, rfl, ⟨⟨fun k hk => ?_, by simp⟩, fun σ' hrd _ _ => ?_⟩⟩
        · simp only [List.mem_singleton] at hk
          subst hk
          exact (List.getElem?_eq_some_iff.1 hx).1
        · have hx' : σ'.heap[l]? = some x := (hrd l (by simp)).trans hx
          have hlt : l < σ'.heap.length := (List.getElem?_eq_some_iff.1 hx').1
          have hG : FnG P f (.acc 0 rows.length :: s.enc ((olC (ogA imm row) olN).lens (rows, ())) a) [x] (fun o H' => o = .ret (tupOf (rs.enc ((olC (ogA imm row) olN).lens (rows, ())) r.2)) ∧ H' = [x]) := by
            have := h (rows, ()) a r hF
            unfold SG at this
            rw [hr1] at this
            rw [hxe]
            exact this
          have hxn : objNb 0 x := by rw [hxe]; exact (ogA imm row).nb (fun _ => 0) rows
          have hxr : ∀ τ, x.ren τ = x := fun τ => by rw [hxe]; exact (oaT imm row).ren τ rows
          have hsn : nbL 0 (s.enc ((olC (ogA imm row) olN).lens (rows, ())) a) := by have := s.nb ((olC (ogA imm row) olN).lens (rows, ())) a; rwa [hs] at this
          have hb : backTo [l] σ'.heap.length 0 = l := by simp [backTo]
          have hcall := callG (σ := σ') (cargs := .acc l rows.length :: cs) (ρ := [l]) hG (by simp) rfl (Nat.le_refl _)
            (by
              intro i k hi
              cases i with
              | zero => simp at hi; subst hi; exact ⟨x, x, hx', rfl, .inr (.inl ⟨rfl, objNb_le' (Nat.zero_le _) x hxn⟩)⟩
              | succ i => simp at hi)
            (by
              rw [renL, AV.ren, hb, renL_of_nb _ _ hsn, ← hcs]
              exact CoL.same ⟨hlt, by rw [hcs]; exact nbL_le (Nat.zero_le _) _ hsn⟩)
            (by
              intro y hy τ
              simp at hy
              subst hy
              exact hxr τ)
          refine CallA.mono hcall ?_
          rintro o H ⟨rfl, rfl⟩
          refine ⟨?_, ?_⟩
          · have hn0 : (tupOf (rs.enc ((olC (ogA imm row) olN).lens (rows, ())) r.2)).nb 0 := by
              have := rs.nb ((olC (ogA imm row) olN).lens (rows, ())) r.2
              rw [hr] at this
              exact tupOf_nb this
            rw [ren_of_nb _ _ hn0]
          · show setAll σ'.heap [l] [x] ++ [] = _
            simp only [setAll, List.append_nil, applyUps]
            exact set_same hx'
      · cases hc
    · cases hc
  intro args σ
  refine ⟨fun ef he => ?_, fun x H' he => ?_⟩
  · obtain ⟨ef', h1, h2⟩ := key args σ _ he
    cases h1
    exact h2
  · obtain ⟨ef', h1, _⟩ := key args σ _ he
    cases h1
end
theorem mp_one {α : Type} {i : Bool} {s : Nat} {f : α → List AV} {a : List α} {x : α} : (AObj.acc i s (mp f a ++ [f x]) = AObj.acc i s (mp f (a ++ [x]))) = True := by
  rw [mp_eq, mp_eq, List.map_append]; simp
theorem mp_oneset {α : Type} {i : Bool} {s : Nat} {f : α → List AV} {a : List α} {x y : α} {k : Nat} : (AObj.acc i s ((mp f a ++ [f x]).set k (f y)) = AObj.acc i s (mp f ((a ++ [x]).set k y))) = True := by
  rw [mp_eq, mp_eq, List.map_set, List.map_append]; simp
theorem stepDP_pcond {R : Type} {M : Mach R} {p : List Nat} {dst : Option Tmp} {rest : List Oper} {j : Nat} {tr : List Tr} {k : List Kt} {σ : AState} {c : Prop} {x : Option CO} :
    stepDP M p dst rest j tr k σ (pcond c x) = pcond c (stepDP M p dst rest j tr k σ x) := by
  by_cases h : c
  · simp only [pcond, h, if_true]
  · simp only [pcond, h, if_false]; exact stepDP_none
theorem stepA_pcond {R : Type} {M : Mach R} {k : List Kt} {σ : AState} {ops : Array Oper} {dst : Option Tmp} {rest : List Oper} {c : Prop} {x : Option (AV × List AObj)} : stepA M ops dst rest k σ (pcond c x) = pcond c (stepA M ops dst rest k σ x) := by
  by_cases h : c
  · simp only [pcond, h, if_true]
  · simp only [pcond, h, if_false]; exact stepA_none
attribute [go_sem] stepA_pcond stepDP_pcond entA_eq entA_no mp_one mp_oneset
end Go.Abs
