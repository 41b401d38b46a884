/- Every operation that has an effect on abstract states is carried out as this effect says: the whole. -/
import Derived.Test.YtgimdhmoloobkaaCoreA
import Derived.Scope
import Derived.Deep.LoopGhost
namespace Go.Abs
section sound
variable {C : Ctx} {φ : Nat → Value} {σ : AState} {a : Act} {w : World}

theorem load_ptr (S : Sim C φ σ a w) {t : TypeId} {g : Bool} {n l off : Nat} {cs : List AV} {x : AV} {v : Value} (ht : tinfo C.P t = some (g, n)) (hl : σ.heap[l]? = some (.cells cs)) (hx : loadAV g n (cs.drop off) = some x)
    (r : Rep (C.env φ σ.heap w) (.ptr l off) v) : ∃ u, (Instr.loadAt t v).run C.P w = .ok u w ∧ Rep (C.env φ σ.heap w) x u := by
  obtain ⟨_, b, hφ, rfl⟩ := r
  obtain ⟨b2, c, t2, hφ2, hh, rl, _⟩ := S.objs l _ hl
  have e : b2 = b := by simp only [Ctx.env] at hφ; rw [hφ] at hφ2; simpa using hφ2.symm
  subst e
  have hi := tinfo_run (C := C) (w := w) ht
  obtain ⟨u, hu, ru⟩ := load_sound (P := C.P) (t := t) (memAt_of_cells hh rl off) hi.1 hi.2 hx
  exact ⟨u, by simpa [Instr.loadAt, Instr.sureAddr, Ctx.env] using hu, ru⟩

theorem vwL_sound (S : Sim C φ σ a w) : ∀ {cs ds : List AV} {ns : List Nat} {vs : List Value}, vwL σ.heap cs = some (ds, ns) → RepL (C.env φ σ.heap w) cs vs → RepL (C.env φ σ.heap w) ds vs
  | [], _, _, _, h, r => by simp only [vwL, Option.some.injEq, Prod.mk.injEq] at h; obtain ⟨rfl, _⟩ := h; exact r
  | c :: cs, ds, ns, vs, h, ⟨u, us, hv, r1, r2⟩ => by
    unfold vwL at h
    split at h
    · cases ‹_ :: _ = []›
    · rename_i l n cs' heq
      simp only [List.cons.injEq] at heq
      obtain ⟨rfl, rfl⟩ := heq
      split at h
      · rename_i sz rows hl
        split at h
        · rename_i hn
          split at h
          · rename_i es ms he
            simp only [Option.some.injEq, Prod.mk.injEq] at h
            obtain ⟨rfl, _⟩ := h
            have hu := acc_cur S hl hn r1
            subst hu
            exact ⟨_, us, hv, acc_view S hl, vwL_sound S he r2⟩
          · cases h
        · cases h
      · cases h
    · rename_i c' cs' _ heq
      simp only [List.cons.injEq] at heq
      obtain ⟨rfl, rfl⟩ := heq
      split at h
      · rename_i es ms he
        simp only [Option.some.injEq, Prod.mk.injEq] at h
        obtain ⟨rfl, _⟩ := h
        exact ⟨u, us, hv, r1, vwL_sound S he r2⟩
      · cases h

theorem ldV_sound (S : Sim C φ σ a w) {l : Nat} {v : AV} {e : Eff} {u : Value} (h : ldV σ.heap l v = some e) (r : Rep (C.env φ σ.heap w) v u) : e.up = [] ∧ e.nw = [] ∧ e.pre = True ∧ Rep (C.env φ σ.heap w) e.val u := by
  unfold ldV at h
  split at h
  · split at h
    · rename_i ds ns he
      cases h
      obtain ⟨vs, hv, rl⟩ := r
      exact ⟨rfl, rfl, rfl, vs, hv, vwL_sound S he rl⟩
    · cases h
  · cases h
    exact ⟨rfl, rfl, rfl, r⟩

theorem load_pp {t : TypeId} {g : Bool} {n : Nat} {cs : List AV} {x : AV} {v : Value} (ht : tinfo C.P t = some (g, n)) (hx : loadAV g n cs = some x)
    (r : Rep (C.env φ σ.heap w) (.pp cs) v) : ∃ u, (Instr.loadAt t v).run C.P w = .ok u w ∧ Rep (C.env φ σ.heap w) x u := by
  obtain ⟨b, off, rfl, rm⟩ := r
  have hi := tinfo_run (C := C) (w := w) ht
  obtain ⟨u, hu, ru⟩ := load_sound (P := C.P) (t := t) (memAt_of_repMem rm) hi.1 hi.2 hx
  exact ⟨u, by simpa [Instr.loadAt, Instr.sureAddr, Ctx.env] using hu, ru⟩

theorem opEff_sound (S : Sim C φ σ a w) {o : Oper} {e : Eff} (h : opEff C.P σ o.op = some e) (hp : e.pre) : Does C σ a w o.dst ((execOp a.eval o).run C.P w) e := by
  cases ho : o.op with
  | move x =>
    rw [ho] at h
    cases h
    refine Does.of_eq ?_ (does_value (rd := []) (p := True) (m := pure (a.eval x)) S ⟨_, rfl, S.ev x⟩)
    simp [execOp, ho]
  | assign x =>
    rw [ho] at h
    cases h
    refine Does.of_eq ?_ (does_value (rd := []) (p := True) (m := pure (a.eval x)) S ⟨_, rfl, S.ev x⟩)
    simp [execOp, ho]
  | pick c x y =>
    rw [ho] at h
    have hc := S.ev c
    simp only [opEff] at h
    split at h
    · rename_i b hb
      rw [hb] at hc
      simp only [Rep] at hc
      cases h
      refine Does.of_eq ?_ (does_value (rd := []) (p := True) (m := pure (bif b then a.eval x else a.eval y)) S ⟨_, rfl, ?_⟩)
      · cases b <;> simp [execOp, ho, hc, asBool]
      · cases b
        · exact S.ev y
        · exact S.ev x
    · cases h
  | alloc t =>
    rw [ho] at h
    simp only [opEff] at h
    split at h
    · rename_i z hz
      cases h
      obtain ⟨v, hv, hr, hone⟩ := tzero_run (w := w) hz
      refine does_name (c := v.cells) (t := t) S ?_ (hr _) hone
      simp only [execOp, ho, Instr.alloc, Sem.run_bind, hv, Result.andThen_ok, newVar, newRow, run_newObj, Sem.run_pure]
      rfl
    · cases h
  | box t x =>
    rw [ho] at h
    simp only [opEff] at h
    split at h
    · rename_i cs hc
      cases h
      refine does_name (c := (a.eval x).cells) (t := t) S ?_ (cellsOf_sound hc (S.ev x)).1 (cellsOf_sound hc (S.ev x)).2
      simp only [execOp, ho, Instr.box, Sem.run_bind, Result.andThen_ok, newVar, newRow, run_newObj, Sem.run_pure]
      rfl
    · cases h
  | build t parts =>
    rw [ho] at h
    simp only [opEff] at h
    split at h
    · rename_i z hb hz
      split at h
      · rename_i cs hf
        cases h
        refine Does.of_eq ?_ (does_value (rd := []) (p := True) S (build_sound S hb hz hf))
        simp [execOp, ho]
      · cases h
    · cases h
  | buildSlice t len parts =>
    rw [ho] at h
    simp only [opEff] at h
    split at h
    · rename_i et sz by' ht
      split at h
      · rename_i z hz
        split at h
        · rename_i hc
          split at h
          · rename_i rows hr
            cases h
            obtain ⟨v, c, hrun, hrep⟩ := buildSlice_sound S ht hz hc hr
            refine does_more S (o := .cells c et) (by intro c' t' lo hi h; cases h; exact ⟨rfl, rfl⟩) (v := v) ?_ hrep
            simp [execOp, ho, hrun]
          · cases h
        · cases h
      · cases h
    · cases h
  | load t x =>
    rw [ho] at h
    have hx := S.ev x
    simp only [opEff] at h
    split at h
    · rename_i g n l off ht hp'
      rw [hp'] at hx
      split at h
      · rename_i cs hl
        split at h
        · rename_i v hv
          obtain ⟨u, hu, ru⟩ := load_ptr S ht hl hv hx
          obtain ⟨h1, h2, h3, h4⟩ := ldV_sound S h ru
          obtain ⟨val, rd, up, nw, pre⟩ := e
          simp only at h1 h2 h3 h4
          subst h1 h2 h3
          refine Does.of_eq ?_ (does_value (rd := rd) (p := True) S ⟨u, hu, h4⟩)
          simp [execOp, ho]
        · cases h
      · cases h
    · rename_i g n cs ht hp'
      rw [hp'] at hx
      split at h
      · rename_i v hv
        cases h
        refine Does.of_eq ?_ (does_value (rd := []) (p := True) S (load_pp ht hv hx))
        simp [execOp, ho]
      · cases h
    · rename_i g n l i m o' sz ht hp'
      rw [hp'] at hx
      split at h
      · rename_i sz' rows hl
        split at h
        · rename_i hc
          obtain ⟨rfl, hm⟩ := hc
          split at h
          · rename_i r hr
            split at h
            · rename_i v hv
              cases h
              refine Does.of_eq ?_ (does_value (rd := [l]) (p := True) S (load_own S ht hl hm hr hv hx))
              simp [execOp, ho]
            · cases h
          · cases h
        · cases h
      · cases h
    · cases h
  | store t x y =>
    rw [ho] at h
    have hx := S.ev x
    simp only [opEff] at h
    split at h
    · rename_i g n l off ys ht hp' hc
      rw [hp'] at hx
      split at h
      · rename_i cs hl
        split at h
        · rename_i hcond
          cases h
          obtain ⟨hr, h1⟩ := cellsOf_sound hc (S.ev y)
          obtain ⟨w', hrun, hS⟩ := store_sound S ht hl hr h1 hcond.1 hcond.2 hx
          refine ⟨.skip, undef, w', φ, ?_, .inr ⟨rfl, rfl⟩, ?_⟩
          · simp [execOp, ho, hrun]
          · rw [app_up]; exact hS.put _ trivial
        · cases h
      · cases h
    · rename_i g n l i m o' sz ys ht hp' hc
      rw [hp'] at hx
      split at h
      · rename_i sz' rows hl
        split at h
        · rename_i hcc
          obtain ⟨rfl, hm⟩ := hcc
          split at h
          · rename_i r hr'
            split at h
            · rename_i hcond
              cases h
              obtain ⟨hr, h1⟩ := cellsOf_sound hc (S.ev y)
              obtain ⟨w', hrun, hS⟩ := store_own S ht hl hm hr' hr h1 hcond.1 hcond.2 hx
              refine ⟨.skip, undef, w', φ, ?_, .inr ⟨rfl, rfl⟩, ?_⟩
              · simp [execOp, ho, hrun]
              · rw [app_up]; exact hS.put _ trivial
            · cases h
          · cases h
        · cases h
      · cases h
    · cases h
  | nilCheck x =>
    rw [ho] at h
    have hx := S.ev x
    simp only [opEff] at h
    split at h
    · rename_i l off hp'
      rw [hp'] at hx
      cases h
      obtain ⟨hl, b, hb, hv⟩ := hx
      refine Does.of_eq ?_ (does_value (rd := []) (p := True) (m := pure (a.eval x)) S ⟨_, rfl, hl, b, hb, hv⟩)
      simp [execOp, ho, hv]
    · rename_i cs hp'
      rw [hp'] at hx
      cases h
      obtain ⟨b, off, hv, hm⟩ := hx
      refine Does.of_eq ?_ (does_value (rd := []) (p := True) (m := pure (a.eval x)) S ⟨_, rfl, b, off, hv, hm⟩)
      simp [execOp, ho, hv]
    · rename_i f fs cs hp'
      rw [hp'] at hx
      cases h
      obtain ⟨f', c', hv, r1, r2⟩ := hx
      refine Does.of_eq ?_ (does_value (rd := []) (p := True) (m := pure (a.eval x)) S ⟨_, rfl, f', c', hv, r1, r2⟩)
      simp [execOp, ho, hv]
    · cases h
  | binOp op t x y ty =>
    rw [ho] at h
    simp only [opEff] at h
    split at h
    · rename_i v hv
      cases h
      refine Does.of_eq ?_ (does_value (rd := []) (p := True) S (binAV_sound (t := t) (ox := x) (oy := y) (w := w) hv (S.ev x) (S.ev y)))
      simp [execOp, ho]
    · have hx := S.ev x
      have hy := S.ev y
      unfold aggEff at h
      split at h
      · rename_i cs ds h1 h2 _
        cases h
        rw [h1] at hx
        rw [h2] at hy
        obtain ⟨vs, hvs, r1⟩ := hx
        obtain ⟨us, hus, r2⟩ := hy
        refine Does.of_eq ?_ (does_value (rd := []) (p := AggEq C.P t cs ds) S ⟨.bool (eqB cs ds), (hp _ vs us w x y r1 r2).1, rfl⟩)
        simp [execOp, ho, hvs, hus]
      · rename_i cs ds h1 h2 _
        cases h
        rw [h1] at hx
        rw [h2] at hy
        obtain ⟨vs, hvs, r1⟩ := hx
        obtain ⟨us, hus, r2⟩ := hy
        refine Does.of_eq ?_ (does_value (rd := []) (p := AggEq C.P t cs ds) S ⟨.bool (!eqB cs ds), (hp _ vs us w x y r1 r2).2, rfl⟩)
        simp [execOp, ho, hvs, hus]
      · cases h
  | unOp op t x =>
    rw [ho] at h
    have hx := S.ev x
    simp only [opEff] at h
    split at h
    · rename_i b hb
      rw [hb] at hx
      simp only [Rep] at hx
      cases h
      refine Does.of_eq ?_ (does_value (rd := []) (p := True) (m := pure (.bool !b)) S ⟨_, rfl, rfl⟩)
      simp [execOp, ho, hx, Op.unary]
    · rename_i k n hb
      rw [hb] at hx
      simp only [Rep] at hx
      cases h
      refine Does.of_eq ?_ (does_value (rd := []) (p := True) (m := pure (.int k (k.wrap (0 - n)))) S ⟨_, rfl, rfl⟩)
      simp [execOp, ho, hx, Op.unary, Op.intArith]
    · cases h
  | convert s d x =>
    rw [ho] at h
    have hx := S.ev x
    simp only [opEff] at h
    split at h
    · rename_i v hv
      rw [hv] at hx
      simp only [Rep] at hx
      split at h
      · rename_i hc
        simp only [Bool.and_eq_true] at hc
        cases h
        refine Does.of_eq ?_ (does_value (rd := []) (p := True) (m := pure (.string v)) S ⟨_, rfl, rfl⟩)
        simp [execOp, ho, hx, convert, run_underlying (tstr_eq hc.1), run_underlying (tstr_eq hc.2)]
      · cases h
    · rename_i k n hv
      rw [hv] at hx
      simp only [Rep] at hx
      split at h
      · rename_i k1 k2 h1 h2
        cases h
        refine Does.of_eq ?_ (does_value (rd := []) (p := True) (m := pure (.int k2 (k2.wrap n))) S ⟨_, rfl, rfl⟩)
        simp [execOp, ho, hx, convert, run_underlying (tint_eq h1), run_underlying (tint_eq h2), Conv.intToInt]
      · cases h
    · cases h
  | makeInterface t x =>
    rw [ho] at h
    simp only [opEff] at h
    split at h
    · rename_i hc
      cases h
      refine Does.of_eq ?_ (does_value (rd := []) (p := True) (m := pure (.iface t (a.eval x))) S ⟨_, rfl, _, rfl, S.ev x⟩)
      unfold tconc at hc
      cases hu : C.P.underlying t with
      | none => simp [hu] at hc
      | some d =>
        simp only [hu] at hc
        cases d <;> simp_all [execOp, Instr.makeInterface, run_underlying hu]
    · cases h
  | makeFunc fn f c =>
    rw [ho] at h
    cases h
    refine Does.of_eq ?_ (does_value (rd := []) (p := True) (m := Instr.makeFunc fn (f.map a.eval) (c.map a.eval)) S ⟨_, rfl, _, _, rfl, ?_, ?_⟩)
    · simp [execOp, ho, Instr.makeFunc]
    · simpa using repL_map_ev S f.toList
    · simpa using repL_map_ev S c.toList
  | makeSlice t x y =>
    rw [ho] at h
    have hx := S.ev x
    have hy := S.ev y
    simp only [opEff] at h
    split at h
    · rename_i et sz by' n m ht hx' hy'
      rw [hx'] at hx
      rw [hy'] at hy
      simp only [Rep] at hx hy
      split at h
      · rename_i z hz
        split at h
        · rename_i hc
          obtain ⟨h1, h2, h3, rfl⟩ := hc
          cases h
          refine Does.of_eq ?_ (makeSlice_sound S ht hz ⟨h1, h2, h3⟩ hp)
          simp [execOp, ho, hx, hy]
        · cases h
      · cases h
    · cases h
  | slice t x lo hi mx =>
    rw [ho] at h
    have hx := S.ev x
    simp only [opEff] at h
    have hex : (execOp a.eval o).run C.P w = (do pure (.value (← Instr.sliceAt t (a.eval x) (lo.map a.eval) (hi.map a.eval) (mx.map a.eval))) : Sem Next).run C.P w := by
      simp [execOp, ho]
    refine Does.of_eq hex ?_
    split at h
    · rename_i et sz by' ht
      split at h
      · cases h
      · rename_i hmx
        have hmx' : (mx.isSome && hi.isNone) = false := (Bool.not_eq_true _).mp hmx
        unfold sliceAV at h
        split at h
        · rename_i tt sz' rows hv
          rw [hv] at hx
          split at h
          · rename_i l hh m h1 h2 h3
            split at h
            · rename_i hc
              cases h
              exact does_value S (slice_lst S ht h1 h2 h3 hc.1 hc.2 hmx' hx)
            · cases h
          · cases h
        · rename_i k n hv
          rw [hv] at hx
          split at h
          · rename_i sz' rows hl
            split at h
            · rename_i l hh m h1 h2 h3
              split at h
              · rename_i hc
                obtain ⟨rfl, hn, hc⟩ := hc
                cases h
                have hvv := acc_cur S hl hn hx
                have := slice_lst (tt := false) S ht h1 h2 h3 (.inl rfl) hc hmx' (acc_view S hl)
                rw [← hvv] at this
                exact does_value S this
              · cases h
            · cases h
          · cases h
        · cases h
    · split at h
      · rename_i s ht hv
        rw [hv] at hx
        simp only [Rep] at hx
        split at h
        · rename_i l hh h1 h2
          split at h
          · rename_i hc
            cases h
            exact does_value S ⟨_, by rw [hx]; exact slice_str S ht h1 h2 hc, rfl⟩
          · cases h
        · cases h
      · cases h
  | fieldAddr t x i =>
    rw [ho] at h
    have hx := S.ev x
    simp only [opEff] at h
    have hex : (execOp a.eval o).run C.P w = (do pure (.value (← Instr.fieldAt t (a.eval x) i)) : Sem Next).run C.P w := by
      simp [execOp, ho]
    refine Does.of_eq hex ?_
    split at h
    · rename_i f u l off hf hv
      cases h
      exact does_value S ((fieldAddr_sound S hf hx).1 l off hv)
    · rename_i f u cs hf hv
      cases h
      exact does_value S ((fieldAddr_sound S hf hx).2.1 cs hv)
    · rename_i f u l j m o' sz hf hv
      cases h
      exact does_value S ((fieldAddr_sound S hf hx).2.2 l j m o' sz hv)
    · cases h
  | field t x i =>
    rw [ho] at h
    have hx := S.ev x
    simp only [opEff] at h
    split at h
    · rename_i f u cs hf hv
      rw [hv] at hx
      split at h
      · rename_i g n ht
        split at h
        · rename_i v hl
          cases h
          obtain ⟨vs, hvs, rl⟩ := hx
          obtain ⟨fs, fd, j, hu, hfi, hj, _, rfl, rfl⟩ := foff_eq hf
          have hi := tinfo_run (C := C) (w := w) ht
          refine Does.of_eq ?_ (does_value (rd := []) (p := True) S (part_sound hi.1 hi.2 rl hl))
          simp [execOp, ho, hvs, Instr.field, run_underlying hu, hfi, asAgg]
        · cases h
      · cases h
    · cases h
  | indexAddr t x i =>
    rw [ho] at h
    have hx := S.ev x
    have hi := S.ev i
    simp only [opEff] at h
    have hex : (execOp a.eval o).run C.P w = (do pure (.value (← Instr.indexAt t (a.eval x) (a.eval i))) : Sem Next).run C.P w := by
      simp [execOp, ho]
    refine Does.of_eq hex ?_
    split at h
    · rename_i et sz by' ht
      split at h
      · rename_i tt sz' rows k n hv hn
        rw [hv] at hx
        rw [hn] at hi
        simp only [Rep] at hi
        split at h
        · rename_i hc
          obtain ⟨rfl, hc⟩ := hc
          split at h
          · rename_i r hr
            cases h
            have := indexAddr_lst (k := k) ht hc hr hx
            rw [← hi] at this
            exact does_value S this
          · cases h
        · cases h
      · rename_i l m k n hv hn
        rw [hv] at hx
        rw [hn] at hi
        simp only [Rep] at hi
        split at h
        · rename_i sz' rows hl
          split at h
          · rename_i hc
            obtain ⟨rfl, hc, hm⟩ := hc
            split at h
            · rename_i r hr
              cases h
              have := indexAddr_acc (k := k) S ht hc hl hm hr hx
              rw [← hi] at this
              exact does_value S this
            · cases h
          · cases h
        · rename_i sz' rows hl
          split at h
          · rename_i hc
            obtain ⟨rfl, hc, hm, hlt⟩ := hc
            cases h
            obtain ⟨hu, ti, hti, rfl, rfl⟩ := telem_eq ht
            have hv' := acc_cur S hl hm hx
            obtain ⟨base, cap, hh, h2, h3, h4, h5⟩ := S.objs l _ hl
            have hsz : (sizeOf et).run C.P w = .ok ti.size w := by simp [sizeOf, typeInfo, hti]
            cases base with
            | none => have := h3 rfl; omega
            | some b =>
              obtain ⟨hsp, _⟩ := h5 b rfl (by omega)
              have hb : b = ⟨b.block, b.off, none⟩ := by cases b; simp_all
              refine does_value S ⟨.pointer (some ⟨b.block, b.off + n.toNat * ti.size, none⟩), ?_, hx.1, ⟨_, rfl⟩, ?_⟩
              · rw [hi, hv', hh]
                have hlt' : 0 ≤ n ∧ n < (rows.length : Int) := ⟨hc, by omega⟩
                simp only [Instr.indexAt, asIntOf, Sem.run_bind, Sem.run_pure, Result.andThen_ok, run_underlying hu, hlt', and_self, if_true, hsz]
                rw [hb, add_plain]
              · intro k' hk'
                simp only [Ctx.env, hl, accLen, Option.some.injEq] at hk'
                refine ⟨by omega, fun _ => ⟨b.block, b.off, rows.length, cap, ?_, rfl⟩⟩
                simp only [Ctx.env]
                rw [hh, ← hb]
          · cases h
        · cases h
      · cases h
    · split at h
      · rename_i len sz ht
        split at h
        · rename_i l off k n hv hn
          rw [hv] at hx
          rw [hn] at hi
          simp only [Rep] at hi
          split at h
          · rename_i hc
            cases h
            unfold tarr at ht
            split at ht
            · rename_i n' e hu
              split at ht
              · rename_i ti hti
                simp only [Option.some.injEq, Prod.mk.injEq] at ht
                obtain ⟨rfl, rfl⟩ := ht
                obtain ⟨hl, b, hb, hv'⟩ := hx
                have hsz : (sizeOf e).run C.P w = .ok ti.size w := by simp [sizeOf, typeInfo, hti]
                refine does_value S ⟨.pointer (some ⟨b, off + n.toNat * ti.size, none⟩), ?_, hl, b, hb, rfl⟩
                rw [hi, hv']
                simp only [Instr.indexAt, asIntOf, Sem.run_bind, Sem.run_pure, Result.andThen_ok, run_underlying hu, Instr.sureAddr, hc, and_self, if_true, hsz]
                rw [add_plain]
              · cases ht
            · cases ht
          · cases h
        · cases h
      · cases h
  | index t x i =>
    rw [ho] at h
    have hx := S.ev x
    have hi := S.ev i
    simp only [opEff] at h
    split at h
    · rename_i s k n ht hv hn
      rw [hv] at hx
      rw [hn] at hi
      simp only [Rep] at hi hx
      split at h
      · rename_i hc
        split at h
        · rename_i b hb
          cases h
          refine Does.of_eq ?_ (does_value (rd := []) (p := True) (m := pure (.int .u8 b.toNat)) S ⟨_, rfl, rfl⟩)
          simp [execOp, ho, hx, hi, Instr.index, asIntOf, run_underlying (tstr_eq ht), hc, hb]
        · cases h
      · cases h
    · cases h
  | extract x i =>
    rw [ho] at h
    have hx := S.ev x
    simp only [opEff] at h
    split at h
    · rename_i vs hv
      rw [hv] at hx
      split at h
      · rename_i v hi
        cases h
        obtain ⟨us, hu, rl⟩ := hx
        obtain ⟨u, hu', ru⟩ := rl.get hi
        refine Does.of_eq ?_ (does_value (rd := []) (p := True) (m := pure u) S ⟨_, rfl, ru⟩)
        have : us[i]? = some u := by simpa using hu'
        simp [execOp, ho, hu, Instr.extract, this]
      · cases h
    · cases h
  | call c =>
    obtain ⟨cl, args, ts⟩ := c
    cases cl with
    | builtin b =>
      rw [ho] at h
      exact builtin_sound S ho h hp
    | value f => rw [ho] at h; cases h
    | invoke r m => rw [ho] at h; cases h
  | _ => rw [ho] at h; cases h

end sound
end Go.Abs

/- Weakest preconditions over abstract states. -/
namespace Go.Abs

inductive AExit where
  | normal
  | exit (id : Nat)
  | goto (l : Nat)
  | ret
  | panic (x : AV)

/-- How a call ends. -/
inductive AOut where
  | ret (r : AV)
  | panic (x : AV)

def AOut.rep (E : Env) : AOut → Ending → Prop
  | .ret r, .returned v => Rep E r v
  | .panic x, .panicked chain => ∃ v, chain = [{ v, recovered := false }] ∧ Rep E x v
  | _, _ => False

def enters (P : Program) (f : FuncId) : Bool :=
  match P.funcs[f]? with
  | some fn => fn.body.isSome && fn.name != "runtime.NumGoroutine"
  | none => false

/-- A call from an abstract state. -/
def CallA (P : Program) (f : FuncId) (args : List AV) (σ : AState) (K : AOut → List AObj → Prop) : Prop :=
  enters P f = true ∧ ∀ (C : Ctx) (φ : Nat → Value) (a : Act) (w : World), C.P = P → Sim C φ σ a w → ∀ vs : Array Value, RepL (C.env φ σ.heap w) args vs.toList →
    Calls P f vs w fun e w' => ∃ o φ' H', K o H' ∧ Sim C φ' { σ with heap := H' } a w' ∧ o.rep (C.env φ' H' w') e

/-- One abstract state says no more than another. -/
def Imp (σ σ' : AState) : Prop := ∀ (C : Ctx) (φ : Nat → Value) (a : Act) (w : World), Sim C φ σ a w → ∃ φ', Sim C φ' σ' a w

theorem Imp.refl (σ : AState) : Imp σ σ := fun _ φ _ _ S => ⟨φ, S⟩
theorem Imp.trans {σ σ' σ'' : AState} (h : Imp σ σ') (h' : Imp σ' σ'') : Imp σ σ'' := fun C φ a w S =>
  let ⟨φ', S'⟩ := h C φ a w S
  h' C φ' a w S'

def calleeOf (σ : AState) : Op → Option (FuncId × List AV)
  | .call { callee := .value f, args, .. } => match σ.ev f with
    | .func (.func fid) first cap => some (fid, first ++ args.toList.map σ.ev ++ cap)
    | _ => none
  | _ => none

/-- Is a guarded operation carried out. -/
def wantedA (ops : Array Oper) (o : Oper) (σ : AState) : Option Bool :=
  match o.guard with
  | none => some true
  | some (j, want) => match (ops[j]?).bind (·.dst) with
    | some d => match σ.slots[d]? with
      | some (.bool b) => some (b == want)
      | some (.raw (.tuple _)) => some false
      | _ => none
    | none => none

def awpOps (P : Program) (ops : Array Oper) : List Oper → (AExit → AState → Prop) → AState → Prop
  | [], Q, σ => Q .normal σ
  | o :: rest, Q, σ => match wantedA ops o σ with
    | none => False
    | some b => (b = true → match calleeOf σ o.op with
        | some (f, args) => CallA P f args σ fun o' H' => match o' with
          | .ret r => awpOps P ops rest Q (AState.put { σ with heap := H' } o.dst r)
          | .panic x => Q (.panic x) { σ with heap := H' }
        | none => match opEff P σ o.op with
          | some e => e.pre ∧ awpOps P ops rest Q (σ.app o.dst e)
          | none => False) ∧
      (b = false → awpOps P ops rest Q (σ.put o.dst (.raw undef)))

/-- What a statement over abstract states says of frames and worlds. -/
def QC (C : Ctx) (Q : AExit → AState → Prop) : Exit → Act → World → Prop
  | .normal, a, w => ∃ φ σ, Sim C φ σ a w ∧ Q .normal σ
  | .exit id, a, w => ∃ φ σ, Sim C φ σ a w ∧ Q (.exit id) σ
  | .goto l, a, w => ∃ φ σ, Sim C φ σ a w ∧ Q (.goto l) σ
  | .ret, a, w => ∃ φ σ, Sim C φ σ a w ∧ Q .ret σ
  | .panic chain, a, w => ∃ φ σ x v, Sim C φ σ a w ∧ Q (.panic x) σ ∧ chain = [{ v, recovered := false }] ∧ Rep (C.env φ σ.heap w) x v
  | .outgrown, _, _ => False

section sound
variable {C : Ctx} {φ : Nat → Value} {σ : AState} {a : Act} {w : World}

theorem wantedA_sound (S : Sim C φ σ a w) {ops : Array Oper} {o : Oper} {b : Bool} (h : wantedA ops o σ = some b) : Region.wanted o (yielded ops a.tmps) = b := by
  unfold wantedA at h
  unfold Region.wanted
  split at h
  · rename_i hg; rw [hg]; simpa using h
  · rename_i j want hg
    rw [hg]
    split at h
    · rename_i d hd
      have hy : yielded ops a.tmps j = match a.tmps[d]? with | some (.bool b) => some b | _ => none := by
        unfold yielded; rw [hd]; rfl
      split at h
      · rename_i b' hs
        obtain ⟨v, hv, r⟩ := S.slots.get hs
        simp only [Rep] at r
        subst r
        have : a.tmps[d]? = some (.bool b') := by simpa using hv
        simp only [hy, this]
        cases h
        cases b' <;> cases want <;> rfl
      · rename_i vs hs
        obtain ⟨v, hv, r⟩ := S.slots.get hs
        simp only [Rep] at r
        subst r
        have : a.tmps[d]? = some (.tuple vs) := by simpa using hv
        simp only [hy, this]
        cases h
        rfl
      · cases h
    · cases h

theorem Sim.reheap (S : Sim C φ σ a w) {σ' : AState} (h : σ = σ') : Sim C φ σ' a w := h ▸ S

theorem calleeOf_run (S : Sim C φ σ a w) {o : Oper} {f : FuncId} {args : List AV} (h : calleeOf σ o.op = some (f, args)) (hf : enters C.P f = true) :
    ∃ vs : Array Value, (execOp a.eval o).run C.P w = .ok (.enter f vs) w ∧ RepL (C.env φ σ.heap w) args vs.toList := by
  unfold calleeOf at h
  split at h
  · rename_i x xs ts ho
    split at h
    · rename_i fid first cap hv
      cases h
      have hx := S.ev x
      rw [hv] at hx
      obtain ⟨f', c', hx, r1, r2⟩ := hx
      refine ⟨f' ++ xs.map a.eval ++ c', ?_, ?_⟩
      · unfold enters at hf
        split at hf
        · rename_i fn hfn
          simp only [Bool.and_eq_true, bne_iff_ne, ne_eq] at hf
          have hnone : fn.body ≠ none := by intro hb; simp [hb] at hf
          simp [execOp, ho, resolve, hx, Deferred.ofValue, invoke, callFunc, hfn, hf.2, hnone]
        · cases hf
      · simp only [Array.toList_append, Array.toList_map]
        exact (r1.append (repL_map_ev S xs.toList)).append r2
    · cases h
  · cases h

theorem awpOps_sound {P : Program} (hP : C.P = P) {ops : Array Oper} {Q : AExit → AState → Prop} : ∀ (rest : List Oper) (k : Nat), ops.toList.drop k = rest → ∀ (φ : Nat → Value) (σ : AState) (a : Act) (w : World),
    awpOps P ops rest Q σ → Sim C φ σ a w → wpOps P ops (QC C Q) (List.range' k rest.length) a w
  | [], k, _, φ, σ, a, w, h, S => ⟨φ, σ, S, h⟩
  | o :: rest, k, hk, φ, σ, a, w, h, S => by
    have ho : ops[k]? = some o := by
      have := congrArg (fun l : List Oper => l[0]?) hk
      simpa using this
    have hrest : ops.toList.drop (k + 1) = rest := by
      have := congrArg List.tail hk
      simpa [List.tail_drop] using this
    have ih := awpOps_sound hP (Q := Q) rest (k + 1) hrest
    simp only [List.length_cons, List.range'_succ, wpOps, ho]
    simp only [awpOps] at h
    split at h
    · exact h.elim
    · rename_i b hb
      rw [wantedA_sound S hb]
      cases b with
      | false =>
        simp only [Bool.false_eq_true, if_false]
        exact ih φ _ _ w (h.2 rfl) (S.put o.dst rfl)
      | true =>
        simp only [if_true]
        left
        have h := h.1 rfl
        split at h
        · rename_i f args hc
          obtain ⟨he, hcall⟩ := h
          subst hP
          obtain ⟨vs, hrun, hr⟩ := calleeOf_run S hc he
          unfold Oper.wp
          rw [hrun, Oper.upon_enter]
          refine (hcall C φ a w rfl S vs hr).mono fun e w' ⟨o', φ', H', hK, S', hrep⟩ => ?_
          cases o' with
          | ret r =>
            cases e with
            | returned v => exact ih φ' _ _ w' hK (S'.put o.dst hrep)
            | panicked chain => exact hrep.elim
            | outgrown => exact hrep.elim
          | panic x =>
            cases e with
            | returned v => exact hrep.elim
            | panicked chain =>
              obtain ⟨v, hc, hr⟩ := hrep
              exact ⟨φ', _, x, v, S', hK, hc, hr⟩
            | outgrown => exact hrep.elim
        · split at h
          · rename_i e he
            obtain ⟨n, v, w', φ', hr, hn, S'⟩ := opEff_sound S (hP ▸ he) h.1
            unfold Oper.wp
            rw [← hP, hr]
            rcases hn with rfl | ⟨rfl, rfl⟩
            · rw [Oper.upon_value, hP]; exact ih φ' _ _ w' h.2 S'
            · rw [Oper.upon_skip, hP]; exact ih φ' _ _ w' h.2 S'
          · exact h.elim

end sound
end Go.Abs

/- Contracts of functions without named arguments; statements whose order is open. -/
namespace Go.Abs

/-- A function that returns, whatever the world, with a value of which V holds; nothing that was there is changed. -/
def FnC (P : Program) (f : FuncId) (args : List AV) (V : AV → Prop) : Prop :=
  enters P f = true ∧ nbL 0 args ∧ ∀ (C : Ctx) (φ : Nat → Value) (w : World), C.P = P → C.w0 = w → C.N0 = 0 → (∀ b o, ¬ C.M0 b o) → ∀ vs : Array Value, RepL (C.env φ [] w) args vs.toList →
    Calls P f vs w fun e w' => ∃ r v φ', V r ∧ e = .returned v ∧ Rep (C.env φ' [] w') r v ∧ w.heap.size ≤ w'.heap.size ∧ (∀ b, b < w.heap.size → w'.heap[b]? = w.heap[b]?) ∧
      (∀ x, w'.frozen? x = w.frozen? x) ∧ w'.output = w.output ∧ w'.os = w.os

section grown
variable {C : Ctx} {φ : Nat → Value} {σ : AState} {a : Act} {w w' : World}

theorem cell_of_heap (hh : ∀ b, b < w.heap.size → w'.heap[b]? = w.heap[b]?) {b o : Nat} (hb : b < w.heap.size) : w'.cell? ⟨b, o, none⟩ = w.cell? ⟨b, o, none⟩ := by
  simp only [World.cell?, hh b hb]

theorem Sim.grown (S : Sim C φ σ a w) (hs : w.heap.size ≤ w'.heap.size) (hh : ∀ b, b < w.heap.size → w'.heap[b]? = w.heap[b]?) (hf : ∀ x, w'.frozen? x = w.frozen? x) (hr : w'.output = w.output ∧ w'.os = w.os) :
    Sim C φ σ a w' := by
  have le : (C.env φ σ.heap w).Le σ.heap.length (C.env φ σ.heap w') :=
    Ctx.env_le (Nat.le_refl _) (fun _ _ => ⟨rfl, rfl⟩) (fun b o u hm hc => ⟨hm, by rw [cell_of_heap hh (cell_lt hc)]; exact hc⟩)
  refine { slots := RepL.mono le _ _ (RepL.nb _ _ S.slots) S.slots, defers := S.defers, objs := ?_, apart := S.apart, notA := S.notA, size := Nat.le_trans S.size hs, old := ?_, oldObj := ?_, inM := S.inM, froz := fun x => by rw [hf]; exact S.froz x, rest := ⟨by rw [hr.1]; exact S.rest.1, by rw [hr.2]; exact S.rest.2⟩, low := S.low, names := S.names }
  · intro l x hx
    have r := S.objs l x hx
    exact ObjRep.mono r le (fun b hb => hh b (r.block_lt hb))
  · intro b o hb hm; rw [cell_of_heap hh (Nat.lt_of_lt_of_le hb S.size)]; exact S.old b o hb hm
  · intro b hb hm; rw [hh b (Nat.lt_of_lt_of_le hb S.size)]; exact S.oldObj b hb hm

/-- The context of a callee that is handed no names. -/
def Sim.callee (S : Sim C φ σ a w) : Ctx :=
  { P := C.P, w0 := w, M0 := fun _ _ => False, A := fun b o => Mut φ σ.heap b o ∨ C.A b o,
    hA := by
      rintro b o (⟨l, x, hx, hm⟩ | hA)
      · exact (S.objs l x hx).block_lt (AObj.block_of_muts hm)
      · exact Nat.lt_of_lt_of_le (C.hA b o hA) S.size }

theorem Sim.callee_le (S : Sim C φ σ a w) (φ' : Nat → Value) (w1 : World) : (C.env φ σ.heap w1).Le 0 (S.callee.env φ' [] w1) := by
  refine ⟨Nat.zero_le _, fun l hl => absurd hl (Nat.not_lt_zero _), fun b o u hm hc => ⟨?_, hc⟩⟩
  simp only [Ctx.env, Sim.callee] at hm ⊢
  rintro (⟨l, x, hx, _⟩ | h)
  · simp at hx
  · exact hm h

theorem Sim.callee_ge (S : Sim C φ σ a w) (φ' : Nat → Value) (w1 : World) : (S.callee.env φ' [] w1).Le 0 (C.env φ σ.heap w1) := by
  refine ⟨Nat.zero_le _, fun l hl => absurd hl (Nat.not_lt_zero _), fun b o u hm hc => ⟨?_, hc⟩⟩
  simp only [Ctx.env, Sim.callee] at hm ⊢
  exact fun h => hm (.inr h)

theorem callA_of_fnC {P : Program} {f : FuncId} {args : List AV} {V : AV → Prop} {K : AOut → List AObj → Prop} (h : FnC P f args V) (hK : ∀ r, V r → K (.ret r) σ.heap) : CallA P f args σ K := by
  obtain ⟨he, hn, hc⟩ := h
  refine ⟨he, fun C φ a w hP S vs hr => ?_⟩
  refine (hc S.callee φ w hP rfl rfl (fun _ _ h => h) vs (RepL.mono (S.callee_le φ w) _ _ hn hr)).mono ?_
  rintro e w' ⟨r, v, φ', hV, rfl, rep, hs, hh, hf, ho⟩
  refine ⟨.ret r, φ, σ.heap, hK r hV, S.grown hs hh hf ho, ?_⟩
  exact Rep.mono (S.callee_ge φ' w') _ _ (Rep.nb _ _ rep) rep

theorem FnC.mono {P : Program} {f : FuncId} {args : List AV} {V V' : AV → Prop} (h : FnC P f args V) (hv : ∀ r, V r → V' r) : FnC P f args V' := by
  obtain ⟨he, hn, hc⟩ := h
  refine ⟨he, hn, fun C φ w hP h0 hN hM vs hr => (hc C φ w hP h0 hN hM vs hr).mono ?_⟩
  rintro e w' ⟨r, v, φ', hV, rest⟩
  exact ⟨r, v, φ', hv r hV, rest⟩

end grown

section loc
variable {P : Program} {σ σ' : AState}

theorem mem_operands_call {c : Call} {x : Operand} (h : x ∈ c.args) : x ∈ (Op.call c).operands := by
  simp only [Op.operands, Call.operands, Array.mem_append]; exact .inr h

theorem bound_congr {d : Nat} {x : Option Operand} (h : ∀ y, x = some y → σ'.ev y = σ.ev y) : bound σ' d x = bound σ d x := by
  cases x with
  | none => rfl
  | some y => simp only [bound, h y rfl]

theorem vwL_local {H H' : List AObj} : ∀ {cs ds : List AV} {ns : List Nat}, vwL H cs = some (ds, ns) → (∀ l ∈ ns, H'[l]? = H[l]?) → vwL H' cs = some (ds, ns)
  | [], _, _, h, _ => by simp only [vwL] at h ⊢; exact h
  | c :: cs, ds, ns, h, hr => by
    unfold vwL at h ⊢
    split at h
    · cases ‹_ :: _ = []›
    · rename_i l n cs' heq
      simp only [List.cons.injEq] at heq
      obtain ⟨rfl, rfl⟩ := heq
      split at h
      · rename_i sz rows hl
        split at h
        · rename_i hn
          split at h
          · rename_i es ms he
            simp only [Option.some.injEq, Prod.mk.injEq] at h
            obtain ⟨rfl, rfl⟩ := h
            have := vwL_local he (fun k hk => hr k (by simp [hk]))
            simp only [hr l (by simp), hl, hn, if_true, this]
          · cases h
        · cases h
      · cases h
    · rename_i c' cs' hne heq
      simp only [List.cons.injEq] at heq
      obtain ⟨rfl, rfl⟩ := heq
      split at h
      · rename_i es ms he
        simp only [Option.some.injEq, Prod.mk.injEq] at h
        obtain ⟨rfl, rfl⟩ := h
        have := vwL_local he hr
        cases c <;> first | (simp only [this]; done) | exact (hne _ _ rfl).elim
      · cases h
theorem vwL_lt {H : List AObj} : ∀ {cs ds : List AV} {ns : List Nat}, vwL H cs = some (ds, ns) → ∀ l ∈ ns, l < H.length
  | [], _, _, h => by simp only [vwL, Option.some.injEq, Prod.mk.injEq] at h; obtain ⟨_, rfl⟩ := h; simp
  | c :: cs, ds, ns, h => by
    unfold vwL at h
    split at h
    · cases ‹_ :: _ = []›
    · rename_i l n cs' heq
      simp only [List.cons.injEq] at heq
      obtain ⟨rfl, rfl⟩ := heq
      split at h
      · rename_i sz rows hl
        split at h
        · split at h
          · rename_i es ms he
            simp only [Option.some.injEq, Prod.mk.injEq] at h
            obtain ⟨_, rfl⟩ := h
            intro k hk
            simp only [List.mem_cons] at hk
            rcases hk with rfl | hk
            · exact (List.getElem?_eq_some_iff.1 hl).1
            · exact vwL_lt he k hk
          · cases h
        · cases h
      · cases h
    · rename_i c' cs' hne heq
      simp only [List.cons.injEq] at heq
      obtain ⟨rfl, rfl⟩ := heq
      split at h
      · rename_i es ms he
        simp only [Option.some.injEq, Prod.mk.injEq] at h
        obtain ⟨_, rfl⟩ := h
        exact vwL_lt he
      · cases h
theorem ldV_local {H H' : List AObj} {l : Nat} {v : AV} {e : Eff} (h : ldV H l v = some e) (hr : ∀ k ∈ e.rd, H'[k]? = H[k]?) : ldV H' l v = some e := by
  unfold ldV at h ⊢
  split at h
  · split at h
    · rename_i ds ns he
      cases h
      rw [vwL_local he (fun k hk => hr k (by simp [hk]))]
    · cases h
  · exact h
theorem ldV_rd {H : List AObj} {l : Nat} {v : AV} {e : Eff} (h : ldV H l v = some e) : l ∈ e.rd ∧ e.up = [] ∧ ∀ k ∈ e.rd, k = l ∨ k < H.length := by
  unfold ldV at h
  split at h
  · split at h
    · rename_i ds ns he
      cases h
      refine ⟨by simp, rfl, fun k hk => ?_⟩
      simp only [List.mem_cons] at hk
      rcases hk with rfl | hk
      · exact .inl rfl
      · exact .inr (vwL_lt he k hk)
    · cases h
  · cases h
    exact ⟨by simp, rfl, fun k hk => by simp at hk; exact .inl hk⟩

/-- The effect of an operation hangs on its operands and on what it reads. -/
theorem opEff_local {o : Op} {e : Eff} (h : opEff P σ o = some e) (hev : ∀ x ∈ o.operands, σ'.ev x = σ.ev x) (hrd : ∀ l ∈ e.rd, σ'.heap[l]? = σ.heap[l]?) (hnw : e.nw ≠ [] → σ'.heap.length = σ.heap.length) :
    opEff P σ' o = some e := by
  cases o with
  | move x => simp only [opEff] at h ⊢; rw [hev x (by simp [Op.operands])]; exact h
  | assign x => simp only [opEff] at h ⊢; rw [hev x (by simp [Op.operands])]; exact h
  | pick c x y => simp only [opEff] at h ⊢; rw [hev c (by simp [Op.operands]), hev x (by simp [Op.operands]), hev y (by simp [Op.operands])]; exact h
  | alloc t =>
    simp only [opEff] at h ⊢
    split at h
    · cases h; rw [hnw (by simp)]
    · cases h
  | box t x =>
    simp only [opEff] at h ⊢
    rw [hev x (by simp [Op.operands])]
    split at h
    · cases h; rw [hnw (by simp)]
    · cases h
  | build t parts =>
    simp only [opEff] at h ⊢
    have : (parts.toList.map fun p => (p.1, σ'.ev p.2)) = (parts.toList.map fun p => (p.1, σ.ev p.2)) := by
      apply List.map_congr_left
      intro p hp
      rw [hev p.2 (by simp only [Op.operands, List.mem_toArray, List.mem_map]; exact ⟨p, hp, rfl⟩)]
    rw [this]; exact h
  | buildSlice t len parts =>
    simp only [opEff] at h ⊢
    have : (parts.toList.map fun p => (p.1, σ'.ev p.2)) = (parts.toList.map fun p => (p.1, σ.ev p.2)) := by
      apply List.map_congr_left
      intro p hp
      rw [hev p.2 (by simp only [Op.operands, List.mem_toArray, List.mem_map]; exact ⟨p, hp, rfl⟩)]
    rw [this]; exact h
  | load t x =>
    simp only [opEff] at h ⊢
    rw [hev x (by simp [Op.operands])]
    split at h
    · rename_i g n l off ht hx
      split at h
      · rename_i cs hl
        split at h
        · rename_i v hv
          rw [hrd l (ldV_rd h).1, hl]; simp only [hv]
          exact ldV_local h hrd
        · cases h
      · cases h
    · exact h
    · rename_i g n l i m o' sz ht hx
      split at h
      · rename_i sz' rows hl
        split at h
        · rename_i hc
          split at h
          · rename_i r hr
            split at h
            · rename_i v hv
              cases h
              rw [hrd l (by simp), hl]; simp only [hc, and_self, if_true, hr, hv]
            · cases h
          · cases h
        · cases h
      · cases h
    · cases h
  | store t x y =>
    simp only [opEff] at h ⊢
    rw [hev x (by simp [Op.operands]), hev y (by simp [Op.operands])]
    split at h
    · rename_i g n l off ys ht hx hy
      split at h
      · rename_i cs hl
        split at h
        · rename_i hc
          cases h
          rw [hrd l (by simp), hl]; simp only [hc, and_self, if_true]
        · cases h
      · cases h
    · rename_i g n l i m o' sz ys ht hx hy
      split at h
      · rename_i sz' rows hl
        split at h
        · rename_i hc
          split at h
          · rename_i r hr
            split at h
            · rename_i hc2
              cases h
              rw [hrd l (by simp), hl]; simp only [hc, hc2, and_self, if_true, hr]
            · cases h
          · cases h
        · cases h
      · cases h
    · cases h
  | nilCheck x => simp only [opEff] at h ⊢; rw [hev x (by simp [Op.operands])]; exact h
  | binOp op t x y ty => simp only [opEff] at h ⊢; rw [hev x (by simp [Op.operands]), hev y (by simp [Op.operands])]; exact h
  | unOp op t x => simp only [opEff] at h ⊢; rw [hev x (by simp [Op.operands])]; exact h
  | convert s d x => simp only [opEff] at h ⊢; rw [hev x (by simp [Op.operands])]; exact h
  | makeInterface t x => simp only [opEff] at h ⊢; rw [hev x (by simp [Op.operands])]; exact h
  | makeFunc fn f c =>
    simp only [opEff] at h ⊢
    have e1 : f.toList.map σ'.ev = f.toList.map σ.ev := List.map_congr_left fun x hx => hev x (by simp only [Op.operands, Array.mem_append]; exact .inl (by simpa using hx))
    have e2 : c.toList.map σ'.ev = c.toList.map σ.ev := List.map_congr_left fun x hx => hev x (by simp only [Op.operands, Array.mem_append]; exact .inr (by simpa using hx))
    rw [e1, e2]; exact h
  | makeSlice t x y =>
    simp only [opEff] at h ⊢
    rw [hev x (by simp [Op.operands]), hev y (by simp [Op.operands])]
    split at h
    · split at h
      · split at h
        · rename_i hc
          cases h
          rw [if_pos hc, hnw (by simp)]
        · cases h
      · cases h
    · cases h
  | slice t x lo hi mx =>
    simp only [opEff] at h ⊢
    have hx := hev x (by simp [Op.operands])
    have h1 : ∀ d, bound σ' d lo = bound σ d lo := fun d => bound_congr fun y hy => hev y (by simp [Op.operands, hy])
    have h2 : ∀ d, bound σ' d hi = bound σ d hi := fun d => bound_congr fun y hy => hev y (by simp [Op.operands, hy])
    have h3 : ∀ d, bound σ' d mx = bound σ d mx := fun d => bound_congr fun y hy => hev y (by simp [Op.operands, hy])
    rw [hx]
    simp only [sliceAV, h1, h2, h3] at h ⊢
    split at h
    · split at h
      · cases h
      · rename_i hmx
        rw [if_neg hmx]
        split at h
        · exact h
        · split at h
          · rename_i hl
            split at h
            · rename_i hb1 hb2 hb3
              split at h
              · rename_i hc
                cases h
                rw [hrd _ (by simp), hl]
                simp only [hb1, hb2, hb3]
                rw [if_pos hc]
              · cases h
            · cases h
          · cases h
        · cases h
    · exact h
  | fieldAddr t x i => simp only [opEff] at h ⊢; rw [hev x (by simp [Op.operands])]; exact h
  | field t x i => simp only [opEff] at h ⊢; rw [hev x (by simp [Op.operands])]; exact h
  | indexAddr t x i =>
    simp only [opEff] at h ⊢
    rw [hev x (by simp [Op.operands]), hev i (by simp [Op.operands])]
    split at h
    · split at h
      · exact h
      · split at h
        · rename_i hl
          split at h
          · rename_i hc
            split at h
            · rename_i hr
              cases h
              rw [hrd _ (by simp), hl]
              simp only [hr]
              rw [if_pos hc]
            · cases h
          · cases h
        · rename_i hl
          split at h
          · rename_i hc
            cases h
            rw [hrd _ (by simp), hl]
            simp only
            rw [if_pos hc]
          · cases h
        · cases h
      · cases h
    · exact h
  | index t x i => simp only [opEff] at h ⊢; rw [hev x (by simp [Op.operands]), hev i (by simp [Op.operands])]; exact h
  | extract x i => simp only [opEff] at h ⊢; rw [hev x (by simp [Op.operands])]; exact h
  | call c =>
    obtain ⟨cl, args, ts⟩ := c
    cases cl with
    | builtin b =>
      simp only [opEff] at h ⊢
      have e1 : args.toList.map σ'.ev = args.toList.map σ.ev := List.map_congr_left fun x hx => hev x (mem_operands_call (by simpa using hx))
      rw [e1]
      revert h
      generalize args.toList.map σ.ev = xs
      generalize ts.toList = tl
      intro h
      unfold builtinEff at h ⊢
      split at h
      · rename_i t x
        unfold lenAV at h ⊢
        split at h
        · exact h
        · exact h
        · split at h
          · rename_i ht
            rw [if_pos ht]
            split at h
            · rename_i hl
              split at h
              · rename_i hn
                cases h
                rw [hrd _ (by simp), hl]; simp [hn]
              · cases h
            · cases h
          · cases h
        · cases h
      · rename_i t u x y
        split at h
        · rename_i et sz by' ht hu
          split at h
          · split at h
            · rename_i hc
              rw [if_pos hc]
              unfold appendAV at h ⊢
              split at h
              · cases h
              · rename_i rd ys hsrc
                have hsub : ∀ l ∈ rd, l ∈ e.rd := by
                  split at h
                  · split at h
                    · split at h
                      · cases h; intro l hl; simp [hl]
                      · cases h
                    · cases h
                  · split at h
                    · cases h; intro l hl; exact hl
                    · cases h
                  · cases h
                have hsrc' : srcRows σ' sz y = some (rd, ys) := by
                  unfold srcRows at hsrc ⊢
                  split at hsrc
                  · exact hsrc
                  · split at hsrc
                    · rename_i hl
                      split at hsrc
                      · rename_i hc
                        cases hsrc
                        rw [hrd _ (hsub _ (by simp)), hl]; simp [hc]
                      · cases hsrc
                    · cases hsrc
                  · cases hsrc
                rw [hsrc']
                simp only
                split at h
                · split at h
                  · rename_i hl
                    split at h
                    · rename_i hc'
                      cases h
                      rw [hrd _ (by simp), hl]; simp [hc']
                    · cases h
                  · cases h
                · split at h
                  · rename_i hc'
                    cases h
                    rw [if_pos hc', hnw (by simp)]
                  · cases h
                · cases h
            · cases h
          · cases h
        · cases h
      · exact h
      · exact h
      · cases h
    | value f => cases h
    | invoke r m => cases h
  | _ => cases h

end loc
end Go.Abs

/- Statements whose order is open, over abstract states: any order does what the order of the text does. -/
namespace Go.Abs

def depsOf (o : Oper) : List Nat := (o.after.toList.filter (Region.binds .any)).map (·.on)

def reachM : List Oper → List Nat → List Nat
  | [], acc => acc
  | o :: os, acc => reachM os (acc ++ [(depsOf o).foldl (fun s d => s ||| 2 ^ d ||| acc.getD d 0) 0])

/-- Must operation i be carried out ahead of operation j. -/
def orderedB (ops : Array Oper) (i j : Nat) : Bool := ((reachM ops.toList []).getD j 0).testBit i

def isCall : Op → Bool
  | .call { callee := .builtin _, .. } => false
  | .call _ => true
  | _ => false

/-- What is asked of a region, once and for all. -/
def drawOK (ops : Array Oper) : Bool :=
  Region.noSelect ops &&
  (let r := reachM ops.toList []
   (List.range ops.size).all fun j => match ops[j]? with
    | none => true
    | some oj => (depsOf oj).all (· < j) && (List.range j).all fun i => match ops[i]? with
      | none => true
      | some oi => (r.getD j 0).testBit i || (oi.apart ops oj && !(isCall oi.op && isCall oj.op)))

structure Tr where
  j : Nat
  n : Nat
  e : Eff

def disjointB (a b : List Nat) : Bool := a.all fun x => !b.contains x

def indepB (t : Tr) (e : Eff) : Bool :=
  disjointB (t.e.up.map (·.1)) (e.rd ++ e.up.map (·.1)) && disjointB (e.up.map (·.1)) t.e.rd &&
  (t.e.nw.isEmpty || (e.nw.isEmpty && (e.rd ++ e.up.map (·.1)).all fun l => decide (l < t.n)))

/-- Operations that make nothing new. -/
def quiet : Op → Bool
  | .move _ | .assign _ | .pick _ _ _ | .load _ _ | .store _ _ _ | .binOp _ _ _ _ _ | .unOp _ _ _ | .fieldAddr _ _ _ | .field _ _ _ | .indexAddr _ _ _ | .index _ _ _ | .extract _ _ => true
  | _ => false
def plainAlloc (o : Oper) : Bool := (match o.op with | .alloc _ => true | _ => false) && o.guard.isNone
/-- Two new variables whose order is open; every other operation makes nothing new, and waits for both or for none. -/
def twinB (ops : Array Oper) (i j : Nat) : Bool :=
  match ops[i]?, ops[j]? with
  | some oi, some oj => plainAlloc oi && plainAlloc oj && (depsOf oi).isEmpty && (depsOf oj).isEmpty && decide (i < j) &&
    (List.range ops.size).all fun k => k == i || k == j || (match ops[k]? with
      | none => true
      | some o => quiet o.op && (orderedB ops i k == orderedB ops j k))
  | _, _ => false
def ordB (ops : Array Oper) (i j : Nat) : Bool := orderedB ops i j || twinB ops i j

def compatB (ops : Array Oper) (tr : List Tr) (j : Nat) (e : Eff) : Bool := tr.all fun t => indepB t e || ordB ops t.j j

/-- What an operation may do. -/
def StepS (P : Program) (ops : Array Oper) (o : Oper) (σ : AState) (S : Eff → Prop) : Prop :=
  (wantedA ops o σ = some false ∧ ∀ e, S e ↔ e = { val := .raw undef }) ∨
  (wantedA ops o σ = some true ∧ calleeOf σ o.op = none ∧ ∃ e, opEff P σ o.op = some e ∧ e.pre ∧ ∀ e', S e' ↔ e' = e) ∨
  (wantedA ops o σ = some true ∧ ∃ f args V, calleeOf σ o.op = some (f, args) ∧ FnC P f args V ∧ (∃ r, V r) ∧ ∀ e, S e ↔ ∃ r, V r ∧ e = { val := r })

def awpD (P : Program) (ops : Array Oper) (K : AState → Prop) : List Nat → List Tr → AState → Prop
  | [], _, σ => K σ
  | j :: rest, tr, σ => ∃ o S, ops[j]? = some o ∧ StepS P ops o σ S ∧ ∀ e, S e → compatB ops tr j e = true ∧ awpD P ops K rest (tr ++ [⟨j, σ.heap.length, e⟩]) (σ.app o.dst e)

section
variable {P : Program} {ops : Array Oper} {K : AState → Prop}

theorem awpD_sub : ∀ {R : List Nat} {tr tr' : List Tr} {σ : AState}, (∀ t ∈ tr', t ∈ tr) → awpD P ops K R tr σ → awpD P ops K R tr' σ
  | [], _, _, _, _, h => h
  | j :: rest, tr, tr', σ, hs, ⟨o, S, ho, hst, h⟩ => by
    refine ⟨o, S, ho, hst, fun e he => ?_⟩
    obtain ⟨hc, hr⟩ := h e he
    refine ⟨?_, awpD_sub ?_ hr⟩
    · unfold compatB at *
      rw [List.all_eq_true] at *
      exact fun t ht => hc t (hs t ht)
    · intro t ht
      rcases List.mem_append.1 ht with ht | ht
      · exact List.mem_append.2 (.inl (hs t ht))
      · exact List.mem_append.2 (.inr ht)

theorem StepS.nonempty {o : Oper} {σ : AState} {S : Eff → Prop} (h : StepS P ops o σ S) : ∃ e, S e := by
  rcases h with ⟨_, h⟩ | ⟨_, _, e, _, _, h⟩ | ⟨_, f, args, V, _, _, ⟨r, hr⟩, h⟩
  · exact ⟨_, (h _).2 rfl⟩
  · exact ⟨e, (h e).2 rfl⟩
  · exact ⟨_, (h _).2 ⟨r, hr, rfl⟩⟩

theorem StepS.det {o : Oper} {σ : AState} {S : Eff → Prop} (h : StepS P ops o σ S) (hc : isCall o.op = false) : ∃ e, ∀ e', S e' ↔ e' = e := by
  rcases h with ⟨_, h⟩ | ⟨_, _, e, _, _, h⟩ | ⟨_, f, args, V, h1, _, _, h⟩
  · exact ⟨_, h⟩
  · exact ⟨e, h⟩
  · exfalso
    unfold calleeOf at h1
    split at h1
    · rename_i ho; rw [ho] at hc; simp [isCall] at hc
    · cases h1

/-- An effect of which S holds is determined by the state, if the operation is no call. -/
theorem StepS.eq {o : Oper} {σ : AState} {S S' : Eff → Prop} (h : StepS P ops o σ S) (h' : StepS P ops o σ S') (hc : isCall o.op = false) : ∀ e, S e ↔ S' e := by
  have nc : ∀ {f args}, calleeOf σ o.op ≠ some (f, args) := by
    intro f args h1
    unfold calleeOf at h1
    split at h1
    · rename_i ho; rw [ho] at hc; simp [isCall] at hc
    · cases h1
  rcases h with ⟨hw, h⟩ | ⟨hw, _, e, he, _, h⟩ | ⟨_, f, args, V, h1, _⟩
  · rcases h' with ⟨_, h'⟩ | ⟨hw', _⟩ | ⟨_, f, args, V, h1, _⟩
    · intro e; rw [h, h']
    · rw [hw] at hw'; cases hw'
    · exact absurd h1 nc
  · rcases h' with ⟨hw', _⟩ | ⟨_, _, e2, he2, _, h'⟩ | ⟨_, f, args, V, h1, _⟩
    · rw [hw] at hw'; cases hw'
    · intro x; rw [h, h']; rw [he] at he2; cases he2; exact Iff.rfl
    · exact absurd h1 nc
  · exact absurd h1 nc

theorem wantedA_congr {o : Oper} {σ σ' : AState} (h : ∀ j b d, o.guard = some (j, b) → (ops[j]?).bind (·.dst) = some d → σ'.slots[d]? = σ.slots[d]?) : wantedA ops o σ' = wantedA ops o σ := by
  unfold wantedA
  split
  · rfl
  · rename_i j want hg
    split
    · rename_i d hd; rw [h j want d hg hd]
    · rfl

theorem calleeOf_congr {o : Op} {σ σ' : AState} (h : ∀ x ∈ o.operands, σ'.ev x = σ.ev x) : calleeOf σ' o = calleeOf σ o := by
  unfold calleeOf
  split
  · rename_i f args ts
    have h1 : σ'.ev f = σ.ev f := h f (by simp [Op.operands, Call.operands])
    have h2 : args.toList.map σ'.ev = args.toList.map σ.ev := List.map_congr_left fun x hx => h x (mem_operands_call (by simpa using hx))
    rw [h1, h2]
  · rfl

theorem StepS.local {o : Oper} {σ σ' : AState} {S : Eff → Prop} (h : StepS P ops o σ S) (hev : ∀ x ∈ o.op.operands, σ'.ev x = σ.ev x) (hw : wantedA ops o σ' = wantedA ops o σ)
    (hh : ∀ e, S e → (∀ l ∈ e.rd, σ'.heap[l]? = σ.heap[l]?) ∧ (e.nw ≠ [] → σ'.heap.length = σ.heap.length)) : StepS P ops o σ' S := by
  rcases h with ⟨h1, h⟩ | ⟨h1, h2, e, he, hp, h⟩ | ⟨h1, f, args, V, h2, h3, h4, h⟩
  · exact .inl ⟨by rw [hw]; exact h1, h⟩
  · refine .inr (.inl ⟨by rw [hw]; exact h1, by rw [calleeOf_congr hev]; exact h2, e, ?_, hp, h⟩)
    obtain ⟨a, b⟩ := hh e ((h e).2 rfl)
    exact opEff_local he hev a b
  · exact .inr (.inr ⟨by rw [hw]; exact h1, f, args, V, by rw [calleeOf_congr hev]; exact h2, h3, h4, h⟩)

theorem applyUps_length : ∀ (ups : List (Nat × AObj)) (H : List AObj), (applyUps H ups).length = H.length
  | [], _ => rfl
  | (l, x) :: r, H => by simp [applyUps, applyUps_length r]

theorem applyUps_get : ∀ (ups : List (Nat × AObj)) (H : List AObj) (l : Nat), l ∉ ups.map (·.1) → (applyUps H ups)[l]? = H[l]?
  | [], _, _, _ => rfl
  | (k, x) :: r, H, l, h => by
    simp only [List.map_cons, List.mem_cons, not_or] at h
    rw [applyUps, applyUps_get r _ l h.2, List.getElem?_set_ne (fun e => h.1 e.symm)]

theorem app_heap_get {σ : AState} {dst : Option Tmp} {e : Eff} {l : Nat} (h1 : l ∉ e.up.map (·.1)) (h2 : l < σ.heap.length) : (σ.app dst e).heap[l]? = σ.heap[l]? := by
  have : (σ.app dst e).heap = applyUps σ.heap e.up ++ e.nw := rfl
  rw [this, List.getElem?_append_left (by rw [applyUps_length]; exact h2), applyUps_get _ _ _ h1]

theorem app_ev {σ : AState} {dst : Option Tmp} {e : Eff} {x : Operand} (h : ∀ d, dst = some d → x ≠ .tmp d) : (σ.app dst e).ev x = σ.ev x := by
  cases x with
  | tmp t =>
    cases dst with
    | none => rfl
    | some d =>
      have hne : d ≠ t := fun he => h d rfl (by rw [he])
      simp only [AState.ev, AState.app, AState.put, List.getD]
      rw [List.getElem?_set_ne hne]
  | const v => rfl
  | global g => rfl
  | func f => rfl

theorem app_slots {σ : AState} {dst : Option Tmp} {e : Eff} {t : Nat} (h : ∀ d, dst = some d → t ≠ d) : (σ.app dst e).slots[t]? = σ.slots[t]? := by
  cases dst with
  | none => rfl
  | some d =>
    simp only [AState.app, AState.put]
    rw [List.getElem?_set_ne (fun he => h d rfl he.symm)]

/-- What an operation reads and writes is there. -/
theorem opEff_lt {σ : AState} {o : Op} {e : Eff} (h : opEff P σ o = some e) : (∀ l ∈ e.rd, l < σ.heap.length) ∧ ∀ l ∈ e.up.map (·.1), l < σ.heap.length := by
  have lt : ∀ {l : Nat} {x : AObj}, σ.heap[l]? = some x → l < σ.heap.length := fun h => (List.getElem?_eq_some_iff.1 h).1
  cases o with
  | load t x =>
    simp only [opEff] at h
    split at h
    · split at h
      · rename_i hl
        split at h
        · obtain ⟨_, h2, h3⟩ := ldV_rd h
          refine ⟨fun k hk => ?_, by rw [h2]; simp⟩
          rcases h3 k hk with rfl | hk
          · exact lt hl
          · exact hk
        · cases h
      · cases h
    · split at h
      · cases h; simp
      · cases h
    · split at h
      · rename_i hl
        split at h
        · split at h
          · split at h
            · cases h; simp only [List.mem_singleton, List.map_nil, List.not_mem_nil, false_imp_iff, implies_true, and_true]; rintro l rfl; exact lt hl
            · cases h
          · cases h
        · cases h
      · cases h
    · cases h
  | store t x y =>
    simp only [opEff] at h
    split at h
    · split at h
      · rename_i hl
        split at h
        · cases h
          constructor
          · simp only [List.mem_singleton]; rintro l rfl; exact lt hl
          · simp only [List.map_cons, List.map_nil, List.mem_singleton]; rintro l rfl; exact lt hl
        · cases h
      · cases h
    · split at h
      · rename_i hl
        split at h
        · split at h
          · split at h
            · cases h
              constructor
              · simp only [List.mem_singleton]; rintro l rfl; exact lt hl
              · simp only [List.map_cons, List.map_nil, List.mem_singleton]; rintro l rfl; exact lt hl
            · cases h
          · cases h
        · cases h
      · cases h
    · cases h
  | indexAddr t x i =>
    simp only [opEff] at h
    split at h
    · split at h
      · split at h
        · split at h
          · cases h; simp
          · cases h
        · cases h
      · split at h
        · rename_i hl
          split at h
          · split at h
            · cases h; simp only [List.mem_singleton, List.map_nil, List.not_mem_nil, false_imp_iff, implies_true, and_true]; rintro l rfl; exact lt hl
            · cases h
          · cases h
        · rename_i hl
          split at h
          · cases h; simp only [List.mem_singleton, List.map_nil, List.not_mem_nil, false_imp_iff, implies_true, and_true]; rintro l rfl; exact lt hl
          · cases h
        · cases h
      · cases h
    · split at h
      · split at h
        · split at h
          · cases h; simp
          · cases h
        · cases h
      · cases h
  | slice t x lo hi mx =>
    simp only [opEff] at h
    split at h
    · split at h
      · cases h
      · unfold sliceAV at h
        split at h
        · split at h
          · split at h
            · cases h; simp
            · cases h
          · cases h
        · split at h
          · rename_i hl
            split at h
            · split at h
              · cases h; simp only [List.mem_singleton, List.map_nil, List.not_mem_nil, false_imp_iff, implies_true, and_true]; rintro l rfl; exact lt hl
              · cases h
            · cases h
          · cases h
        · cases h
    · split at h
      · split at h
        · split at h
          · cases h; simp
          · cases h
        · cases h
      · cases h
  | call c =>
    obtain ⟨cl, args, ts⟩ := c
    cases cl with
    | builtin b =>
      simp only [opEff] at h
      unfold builtinEff at h
      split at h
      · unfold lenAV at h
        split at h
        · split at h
          · cases h; simp
          · cases h
        · split at h
          · cases h; simp
          · cases h
        · split at h
          · split at h
            · rename_i hl
              split at h
              · cases h; simp only [List.mem_singleton, List.map_nil, List.not_mem_nil, false_imp_iff, implies_true, and_true]; rintro l rfl; exact lt hl
              · cases h
            · cases h
          · cases h
        · cases h
      · split at h
        · split at h
          · split at h
            · unfold appendAV at h
              split at h
              · cases h
              · rename_i rd ys hsrc
                have hrd : ∀ l ∈ rd, l < σ.heap.length := by
                  unfold srcRows at hsrc
                  split at hsrc
                  · split at hsrc
                    · cases hsrc; simp
                    · cases hsrc
                  · split at hsrc
                    · rename_i hl
                      split at hsrc
                      · cases hsrc; simp only [List.mem_singleton]; rintro l rfl; exact lt hl
                      · cases hsrc
                    · cases hsrc
                  · cases hsrc
                split at h
                · split at h
                  · rename_i hl
                    split at h
                    · cases h
                      constructor
                      · intro l hl'
                        simp only [List.mem_cons] at hl'
                        rcases hl' with rfl | hl'
                        · exact lt hl
                        · exact hrd l hl'
                      · simp only [List.map_cons, List.map_nil, List.mem_singleton]; rintro l rfl; exact lt hl
                    · cases h
                  · cases h
                · split at h
                  · cases h; exact ⟨hrd, by simp⟩
                  · cases h
                · cases h
            · cases h
          · cases h
        · cases h
      · cases h; simp
      · cases h; simp
      · cases h
    | value f => cases h
    | invoke r m => cases h
  | move x => cases h; simp
  | assign x => cases h; simp
  | makeFunc fn f c => cases h; simp
  | pick c x y => simp only [opEff] at h; split at h <;> cases h; simp
  | alloc t => simp only [opEff] at h; split at h <;> cases h; simp
  | box t x => simp only [opEff] at h; split at h <;> cases h; simp
  | build t parts =>
    simp only [opEff] at h
    split at h
    · split at h <;> cases h; simp
    · cases h
  | buildSlice t len parts =>
    simp only [opEff] at h
    split at h
    · split at h
      · split at h
        · split at h <;> cases h; simp
        · cases h
      · cases h
    · cases h
  | nilCheck x => simp only [opEff] at h; split at h <;> cases h <;> simp
  | binOp op t x y ty =>
    simp only [opEff] at h
    split at h
    · cases h; simp
    · unfold aggEff at h
      split at h <;> cases h <;> simp
  | unOp op t x => simp only [opEff] at h; split at h <;> cases h <;> simp
  | convert s d x =>
    simp only [opEff] at h
    split at h
    · split at h <;> cases h; simp
    · split at h <;> cases h; simp
    · cases h
  | makeInterface t x => simp only [opEff] at h; split at h <;> cases h; simp
  | makeSlice t x y =>
    simp only [opEff] at h
    split at h
    · split at h
      · split at h <;> cases h; simp
      · cases h
    · cases h
  | fieldAddr t x i => simp only [opEff] at h; split at h <;> cases h <;> simp
  | field t x i =>
    simp only [opEff] at h
    split at h
    · split at h
      · split at h <;> cases h; simp
      · cases h
    · cases h
  | index t x i =>
    simp only [opEff] at h
    split at h
    · split at h
      · split at h <;> cases h; simp
      · cases h
    · cases h
  | extract x i =>
    simp only [opEff] at h
    split at h
    · split at h <;> cases h; simp
    · cases h
  | _ => cases h

end
end Go.Abs

/- Any order does what the order of the text does: the proof. -/
namespace Go.Abs
section
variable {P : Program} {ops : Array Oper} {K : AState → Prop}

theorem applyUps_append : ∀ (ups : List (Nat × AObj)) (H N : List AObj), (∀ l ∈ ups.map (·.1), l < H.length) → applyUps (H ++ N) ups = applyUps H ups ++ N
  | [], _, _, _ => rfl
  | (l, x) :: r, H, N, h => by
    simp only [applyUps]
    rw [List.set_append_left _ _ (h l (by simp))]
    exact applyUps_append r _ N (fun k hk => by rw [List.length_set]; exact h k (by simp at hk ⊢; exact .inr hk))

theorem applyUps_set : ∀ (ups : List (Nat × AObj)) (H : List AObj) (l : Nat) (x : AObj), l ∉ ups.map (·.1) → applyUps (H.set l x) ups = (applyUps H ups).set l x
  | [], _, _, _, _ => rfl
  | (k, y) :: r, H, l, x, h => by
    simp only [List.map_cons, List.mem_cons, not_or] at h
    simp only [applyUps]
    rw [List.set_comm _ _ h.1, applyUps_set r _ l x h.2]

theorem applyUps_comm : ∀ (u v : List (Nat × AObj)) (H : List AObj), (∀ l ∈ u.map (·.1), l ∉ v.map (·.1)) → applyUps (applyUps H u) v = applyUps (applyUps H v) u
  | [], _, _, _ => rfl
  | (l, x) :: r, v, H, h => by
    simp only [applyUps]
    rw [applyUps_comm r v _ (fun k hk => h k (by simp at hk ⊢; exact .inr hk)), applyUps_set v H l x (h l (by simp))]

theorem disjointB_spec {a b : List Nat} (h : disjointB a b = true) : ∀ l ∈ a, l ∉ b := by
  unfold disjointB at h
  rw [List.all_eq_true] at h
  intro l hl hb
  have := h l hl
  simp [hb] at this

theorem app_comm {σ : AState} {d d' : Option Tmp} {e e' : Eff} {j : Nat} (hd : ∀ x, d = some x → d' ≠ some x) (hi : indepB ⟨j, σ.heap.length, e⟩ e' = true)
    (h1 : ∀ l ∈ e.up.map (·.1), l < σ.heap.length) (h2 : ∀ l ∈ e'.up.map (·.1), l < (σ.app d e).heap.length) : (σ.app d e).app d' e' = (σ.app d' e').app d e := by
  unfold indepB at hi
  simp only [Bool.and_eq_true, Bool.or_eq_true] at hi
  obtain ⟨⟨i1, i2⟩, i3⟩ := hi
  have dis : ∀ l ∈ e.up.map (·.1), l ∉ e'.up.map (·.1) := fun l hl hl' => disjointB_spec i1 l hl (List.mem_append.2 (.inr hl'))
  have h2' : ∀ l ∈ e'.up.map (·.1), l < σ.heap.length := by
    intro l hl
    rcases i3 with i3 | ⟨_, i3⟩
    · have := h2 l hl
      have hn : e.nw = [] := by simpa using i3
      simpa [AState.app, hn, applyUps_length] using this
    · rw [List.all_eq_true] at i3
      simpa using i3 l (List.mem_append.2 (.inr hl))
  have hslots : ((σ.app d e).app d' e').slots = ((σ.app d' e').app d e).slots := by
    cases d with
    | none => cases d' <;> rfl
    | some x => cases d' with
      | none => rfl
      | some y =>
        simp only [AState.app, AState.put]
        exact List.set_comm _ _ (fun he => hd x rfl (by rw [he]))
  have hheap : ((σ.app d e).app d' e').heap = ((σ.app d' e').app d e).heap := by
    simp only [AState.app]
    rw [applyUps_append _ _ _ (by rw [applyUps_length]; exact h2'), applyUps_append _ _ _ (by rw [applyUps_length]; exact h1), applyUps_comm _ _ _ dis]
    rcases i3 with i3 | ⟨i3, _⟩
    · have hn : e.nw = [] := by simpa using i3
      simp [hn]
    · have hn : e'.nw = [] := by simpa using i3
      simp [hn]
  have ext : ∀ (s t : AState), s.slots = t.slots → s.heap = t.heap → s.low = t.low → s = t := by
    intro s t h h' h''; cases s; cases t; simp_all
  refine ext _ _ hslots hheap ?_
  cases d <;> cases d' <;> rfl

theorem StepS.lt {o : Oper} {σ : AState} {S : Eff → Prop} (h : StepS P ops o σ S) {e : Eff} (he : S e) : (∀ l ∈ e.rd, l < σ.heap.length) ∧ ∀ l ∈ e.up.map (·.1), l < σ.heap.length := by
  rcases h with ⟨_, h⟩ | ⟨_, _, e', he', _, h⟩ | ⟨_, f, args, V, _, _, _, h⟩
  · rw [(h e).1 he]; simp
  · rw [(h e).1 he]; exact opEff_lt he'
  · obtain ⟨r, _, rfl⟩ := (h e).1 he; simp

theorem looks_operand {o : Oper} {d : Tmp} (h : d ∉ o.looksAt ops) : ∀ x ∈ o.op.operands, x ≠ .tmp d := by
  intro x hx e
  subst e
  apply h
  unfold Oper.looksAt
  refine List.mem_append.2 (.inl ?_)
  simp only [List.mem_filterMap]
  exact ⟨.tmp d, by simpa using hx, rfl⟩

theorem looks_guard {o : Oper} {d : Tmp} (h : d ∉ o.looksAt ops) {j : Nat} {b : Bool} {k : Tmp} (hg : o.guard = some (j, b)) (hk : (ops[j]?).bind (·.dst) = some k) : k ≠ d := by
  intro e
  subst e
  apply h
  unfold Oper.looksAt
  refine List.mem_append.2 (.inr ?_)
  simp [hg, hk]

/-- An operation does ahead of another what it does behind it. -/
theorem StepS.back {oi or' : Oper} {σ : AState} {S : Eff → Prop} {er : Eff} {j : Nat} (h : StepS P ops oi (σ.app or'.dst er) S) (hap : ∀ d, or'.dst = some d → d ∉ oi.looksAt ops)
    (hi : ∀ e, S e → indepB ⟨j, σ.heap.length, er⟩ e = true) : StepS P ops oi σ S := by
  refine h.local (fun x hx => ?_) (wantedA_congr fun k b d hg hd => ?_) (fun e he => ?_)
  · rw [app_ev]; intro d hd; exact looks_operand (hap d hd) x hx
  · rw [app_slots]; intro d' hd'; exact looks_guard (hap d' hd') hg hd
  · have hlt := h.lt he
    have := hi e he
    unfold indepB at this
    simp only [Bool.and_eq_true, Bool.or_eq_true] at this
    obtain ⟨⟨i1, i2⟩, i3⟩ := this
    constructor
    · intro l hl
      have hl2 : l < σ.heap.length := by
        rcases i3 with i3 | ⟨_, i3⟩
        · have hn : er.nw = [] := by simpa using i3
          have := hlt.1 l hl
          simpa [AState.app, hn, applyUps_length] using this
        · rw [List.all_eq_true] at i3
          simpa using i3 l (List.mem_append.2 (.inl hl))
      rw [app_heap_get (fun hu => disjointB_spec i1 l hu (List.mem_append.2 (.inl hl))) hl2]
    · intro hnw
      rcases i3 with i3 | ⟨i3, _⟩
      · have hn : er.nw = [] := by simpa using i3
        simp [AState.app, hn, applyUps_length]
      · exact absurd (by simpa using i3) hnw

/-- An operation does behind another what it does ahead of it. -/
theorem StepS.fwd {oi or' : Oper} {σ : AState} {S : Eff → Prop} {ei : Eff} {j : Nat} (h : StepS P ops or' σ S) (hap : ∀ d, oi.dst = some d → d ∉ or'.looksAt ops)
    (hi : ∀ e, S e → indepB ⟨j, σ.heap.length, e⟩ ei = true) : StepS P ops or' (σ.app oi.dst ei) S := by
  refine h.local (fun x hx => ?_) (wantedA_congr fun k b d hg hd => ?_) (fun e he => ?_)
  · rw [app_ev]; intro d hd; exact looks_operand (hap d hd) x hx
  · rw [app_slots]; intro d' hd'; exact looks_guard (hap d' hd') hg hd
  · have hlt := h.lt he
    have := hi e he
    unfold indepB at this
    simp only [Bool.and_eq_true, Bool.or_eq_true] at this
    obtain ⟨⟨i1, i2⟩, i3⟩ := this
    constructor
    · intro l hl
      rw [app_heap_get (fun hu => disjointB_spec i2 l hu hl) (hlt.1 l hl)]
    · intro hnw
      rcases i3 with i3 | ⟨i3, _⟩
      · exact absurd (by simpa using i3) hnw
      · have hn : ei.nw = [] := by simpa using i3
        simp [AState.app, hn, applyUps_length]

theorem drawOK_spec (h : drawOK ops = true) : Region.noSelect ops = true ∧ ∀ (j : Nat) (oj : Oper), ops[j]? = some oj → (∀ d ∈ depsOf oj, d < j) ∧
    ∀ (i : Nat) (oi : Oper), i < j → ops[i]? = some oi → orderedB ops i j = false → oi.apart ops oj = true ∧ ¬ (isCall oi.op = true ∧ isCall oj.op = true) := by
  unfold drawOK at h
  simp only [Bool.and_eq_true] at h
  refine ⟨h.1, fun j oj hj => ?_⟩
  have h2 := h.2
  rw [List.all_eq_true] at h2
  have hjs : j < ops.size := (Array.getElem?_eq_some_iff.1 hj).1
  have h3 := h2 j (by simpa using hjs)
  simp only [hj, Bool.and_eq_true] at h3
  refine ⟨fun d hd => ?_, fun i oi hij hi hord => ?_⟩
  · have := h3.1
    rw [List.all_eq_true] at this
    simpa using this d hd
  · have := h3.2
    rw [List.all_eq_true] at this
    have := this i (by simpa using hij)
    simp only [hi, Bool.or_eq_true] at this
    unfold orderedB at hord
    rcases this with this | this
    · rw [hord] at this; cases this
    · simp only [Bool.and_eq_true, Bool.not_eq_true', Bool.and_eq_false_iff] at this
      refine ⟨this.1, fun ⟨a, b⟩ => ?_⟩
      rcases this.2 with h | h
      · rw [h] at a; cases a
      · rw [h] at b; cases b

theorem indepB_le {j n n' : Nat} {e e' : Eff} (h : n ≤ n') (hi : indepB ⟨j, n, e⟩ e' = true) : indepB ⟨j, n', e⟩ e' = true := by
  unfold indepB at *
  simp only [Bool.and_eq_true, Bool.or_eq_true] at *
  refine ⟨hi.1, hi.2.imp id fun ⟨a, b⟩ => ⟨a, ?_⟩⟩
  rw [List.all_eq_true] at *
  intro l hl
  have := b l hl
  simp only [decide_eq_true_eq] at *
  omega

theorem awpD_retag : ∀ {R : List Nat} {tr tr' : List Tr} {σ : AState}, (∀ t' ∈ tr', ∃ t ∈ tr, t.j = t'.j ∧ t.e = t'.e ∧ t.n ≤ t'.n) → awpD P ops K R tr σ → awpD P ops K R tr' σ
  | [], _, _, _, _, h => h
  | j :: rest, tr, tr', σ, hs, ⟨o, S, ho, hst, h⟩ => by
    refine ⟨o, S, ho, hst, fun e he => ?_⟩
    obtain ⟨hc, hr⟩ := h e he
    refine ⟨?_, awpD_retag ?_ hr⟩
    · unfold compatB at *
      rw [List.all_eq_true] at *
      intro t' ht'
      obtain ⟨t, ht, h1, h2, h3⟩ := hs t' ht'
      have := hc t ht
      simp only [Bool.or_eq_true] at *
      rw [← h1]
      refine this.imp (fun hi => ?_) id
      obtain ⟨a, b, c⟩ := t
      obtain ⟨a', b', c'⟩ := t'
      simp only at h1 h2 h3
      subst h1 h2
      exact indepB_le h3 hi
    · intro t' ht'
      rcases List.mem_append.1 ht' with ht' | ht'
      · obtain ⟨t, ht, h⟩ := hs t' ht'
        exact ⟨t, List.mem_append.2 (.inl ht), h⟩
      · exact ⟨t', List.mem_append.2 (.inr ht'), rfl, rfl, Nat.le_refl _⟩

theorem ordB_left {i j : Nat} (h : ordB ops i j = false) : orderedB ops i j = false := by
  unfold ordB at h; simp only [Bool.or_eq_false_iff] at h; exact h.1

/-- Whatever operation need not wait for those ahead of it can be carried out first. -/
theorem pull (hok : drawOK ops = true) {i : Nat} : ∀ {R : List Nat} {tr : List Tr} {σ : AState}, awpD P ops K R tr σ → i ∈ R → R.Pairwise (· < ·) → (∀ r ∈ R, r < i → ordB ops r i = false) →
    ∃ o S, ops[i]? = some o ∧ StepS P ops o σ S ∧ ∀ e, S e → compatB ops tr i e = true ∧ awpD P ops K (R.erase i) tr (σ.app o.dst e)
  | [], _, _, _, hi, _, _ => by simp at hi
  | r :: R, tr, σ, ⟨or', Sr, hor, hst, h⟩, hi, hpw, hord => by
    by_cases e : r = i
    · subst e
      refine ⟨or', Sr, hor, hst, fun e he => ?_⟩
      obtain ⟨hc, hr⟩ := h e he
      refine ⟨hc, ?_⟩
      rw [List.erase_cons_head]
      exact awpD_sub (fun t ht => List.mem_append.2 (.inl ht)) hr
    · have hiR : i ∈ R := by
        simp only [List.mem_cons] at hi
        rcases hi with h | h
        · exact absurd h.symm e
        · exact h
      rw [List.pairwise_cons] at hpw
      have hri : r < i := hpw.1 i hiR
      have hor_i : ordB ops r i = false := hord r (by simp) hri
      have ih : ∀ er, Sr er → _ := fun er her => pull hok (h er her).2 hiR hpw.2 (fun q hq hlt => hord q (by simp [hq]) hlt)
      obtain ⟨er0, her0⟩ := hst.nonempty
      obtain ⟨oi, S0, hoi, hst0, h0⟩ := ih er0 her0
      obtain ⟨_, hspec⟩ := drawOK_spec hok
      obtain ⟨hapart, hcalls⟩ := (hspec i oi hoi).2 r or' hri hor (ordB_left hor_i)
      obtain ⟨a1, a2, a3⟩ := Oper.apart_spec hapart
      -- the pair is independent, on whatever way
      have hind : ∀ {er : Eff} {S : Eff → Prop}, (∀ e, S e → compatB ops (tr ++ [⟨r, σ.heap.length, er⟩]) i e = true ∧ awpD P ops K (R.erase i) (tr ++ [⟨r, σ.heap.length, er⟩]) ((σ.app or'.dst er).app oi.dst e)) →
          ∀ e, S e → indepB ⟨r, σ.heap.length, er⟩ e = true := by
        intro er S hS e he
        have := (hS e he).1
        unfold compatB at this
        rw [List.all_eq_true] at this
        have := this ⟨r, σ.heap.length, er⟩ (by simp)
        simp only [hor_i, Bool.or_false] at this
        exact this
      have hback : StepS P ops oi σ S0 := hst0.back (j := r) a1 (hind h0)
      refine ⟨oi, S0, hoi, hback, fun ei hei => ?_⟩
      -- on every way the same effect
      have same : ∀ er, Sr er → compatB ops (tr ++ [⟨r, σ.heap.length, er⟩]) i ei = true ∧ awpD P ops K (R.erase i) (tr ++ [⟨r, σ.heap.length, er⟩]) ((σ.app or'.dst er).app oi.dst ei) := by
        intro er her
        obtain ⟨oi', S', hoi', hst', h'⟩ := ih er her
        rw [hoi] at hoi'; cases hoi'
        by_cases hc : isCall oi.op = true
        · -- then the other one is no call: it has one effect
          have hcr : isCall or'.op = false := by
            cases hq : isCall or'.op with
            | false => rfl
            | true => exact absurd ⟨hq, hc⟩ hcalls
          obtain ⟨ex, hex⟩ := hst.det hcr
          have : er = er0 := by rw [(hex er).1 her, (hex er0).1 her0]
          subst this
          exact h0 ei hei
        · have hc' : isCall oi.op = false := by simpa using hc
          have hb' : StepS P ops oi σ S' := hst'.back (j := r) a1 (hind h')
          exact h' ei ((hback.eq hb' hc' ei).1 hei)
      have hfwd : StepS P ops or' (σ.app oi.dst ei) Sr := by
        refine hst.fwd (j := r) a3 (fun er her => ?_)
        have := (same er her).1
        unfold compatB at this
        rw [List.all_eq_true] at this
        have := this ⟨r, σ.heap.length, er⟩ (by simp)
        simp only [hor_i, Bool.or_false] at this
        exact this
      refine ⟨?_, ?_⟩
      · have := (same er0 her0).1
        unfold compatB at *
        rw [List.all_eq_true] at *
        exact fun t ht => this t (List.mem_append.2 (.inl ht))
      · have hne : (r :: R).erase i = r :: R.erase i := List.erase_cons_tail (by simpa using e)
        rw [hne]
        refine ⟨or', Sr, hor, hfwd, fun er her => ⟨(h er her).1, ?_⟩⟩
        have hs := same er her
        have hi' : indepB ⟨r, σ.heap.length, er⟩ ei = true := by
          have := hs.1
          unfold compatB at this
          rw [List.all_eq_true] at this
          have := this ⟨r, σ.heap.length, er⟩ (by simp)
          simp only [hor_i, Bool.or_false] at this
          exact this
        have hcomm := app_comm (d := or'.dst) (d' := oi.dst) a2 hi' (hst.lt her).2 (by
          intro l hl
          have := (hback.lt hei).2 l hl
          simp only [AState.app, List.length_append, applyUps_length]; omega)
        rw [← hcomm]
        refine awpD_retag ?_ hs.2
        intro t' ht'
        rcases List.mem_append.1 ht' with ht' | ht'
        · exact ⟨t', List.mem_append.2 (.inl ht'), rfl, rfl, Nat.le_refl _⟩
        · simp only [List.mem_singleton] at ht'
          subst ht'
          exact ⟨⟨r, σ.heap.length, er⟩, by simp, rfl, rfl, by simp [AState.app, applyUps_length]⟩

theorem foldl_or_testBit {f : Nat → Nat} {r : Nat} : ∀ (ds : List Nat) (s : Nat), (ds.foldl (fun s d => s ||| 2 ^ d ||| f d) s).testBit r = true → s.testBit r = true ∨ ∃ d ∈ ds, d = r ∨ (f d).testBit r = true
  | [], s, h => .inl h
  | d :: ds, s, h => by
    simp only [List.foldl_cons] at h
    rcases foldl_or_testBit ds _ h with h | ⟨d', hd', h⟩
    · rw [Nat.testBit_or, Nat.testBit_or, Bool.or_eq_true, Bool.or_eq_true] at h
      rcases h with (h | h) | h
      · exact .inl h
      · right
        refine ⟨d, by simp, .inl ?_⟩
        rw [Nat.testBit_two_pow] at h
        simpa using h
      · exact .inr ⟨d, by simp, .inr h⟩
    · exact .inr ⟨d', by simp [hd'], h⟩

/-- In a set of operations that is closed, an operation whose direct predecessors are in it has all its predecessors in it. -/
theorem reachM_spec {L : Nat → Prop} {all : List Oper} (hclosed : ∀ j o, all[j]? = some o → L j → ∀ d ∈ depsOf o, L d) : ∀ (os : List Oper) (acc : List Nat), all.drop acc.length = os →
    (∀ k o, all[k]? = some o → k < acc.length → (∀ d ∈ depsOf o, L d) → ∀ r, (acc.getD k 0).testBit r = true → L r) → (∀ k o, all[k]? = some o → ∀ d ∈ depsOf o, d < k) →
    ∀ k o, all[k]? = some o → (∀ d ∈ depsOf o, L d) → ∀ r, ((reachM os acc).getD k 0).testBit r = true → L r
  | [], acc, hd, h, _ => by
    intro k o hk hdeps r hr
    refine h k o hk ?_ hdeps r hr
    have h1 : all.length ≤ acc.length := by simpa using hd
    have h2 := (List.getElem?_eq_some_iff.1 hk).1
    omega
  | o :: os, acc, hd, h, hlt => by
    refine reachM_spec hclosed os _ ?_ ?_ hlt
    · have := congrArg List.tail hd
      simpa [List.tail_drop] using this
    · intro k o' hk hkl hdeps r hr
      have ho : all[acc.length]? = some o := by
        have := congrArg (fun l : List Oper => l[0]?) hd
        simpa using this
      by_cases e : k < acc.length
      · rw [List.getD_eq_getElem?_getD, List.getElem?_append_left e, ← List.getD_eq_getElem?_getD] at hr
        exact h k o' hk e hdeps r hr
      · have e2 : k = acc.length := by simp at hkl; omega
        subst e2
        rw [ho] at hk; cases hk
        rw [List.getD_eq_getElem?_getD, List.getElem?_append_right (Nat.le_refl _)] at hr
        simp only [Nat.sub_self, List.getElem?_cons_zero, Option.getD_some] at hr
        rcases foldl_or_testBit (f := fun d => acc.getD d 0) _ _ hr with h0 | ⟨d, hd', rfl | h1⟩
        · simp at h0
        · exact hdeps d hd'
        · have hdl : d < acc.length := hlt _ _ ho d hd'
          have hdl2 : d < all.length := by have := (List.getElem?_eq_some_iff.1 ho).1; omega
          exact h d all[d] (List.getElem?_eq_getElem hdl2) hdl (hclosed d _ (List.getElem?_eq_getElem hdl2) (hdeps d hd')) r h1

end

theorem getD_replicate_false' (m j : Nat) : (Array.replicate m false).getD j false = false := by
  by_cases h : j < m <;> simp [Array.getD, h]

section region
variable {C : Ctx} {ops : Array Oper} {Q : AExit → AState → Prop}

theorem step_sound {φ : Nat → Value} {σ : AState} {a : Act} {w : World} (S : Sim C φ σ a w) {o : Oper} {i : Nat} {E : Eff → Prop} (ho : ops[i]? = some o) (h : StepS C.P ops o σ E) {K : Act → World → Prop} {Q' : Exit → Act → World → Prop}
    (hK : ∀ e φ' v w', E e → Sim C φ' (σ.app o.dst e) (a.put o.dst v) w' → K (a.put o.dst v) w') : wpOp C.P ops Q' i K a w := by
  unfold wpOp
  simp only [ho]
  rcases h with ⟨hw, h⟩ | ⟨hw, _, e, he, hp, h⟩ | ⟨hw, f, args, V, hc, hf, _, h⟩
  · rw [wantedA_sound S hw]
    simp only [Bool.false_eq_true, if_false]
    refine hK _ φ undef w ((h _).2 rfl) ?_
    rw [app_val]; exact S.put o.dst rfl
  · rw [wantedA_sound S hw]
    simp only [if_true]
    left
    obtain ⟨n, v, w', φ', hr, hn, S'⟩ := opEff_sound S he hp
    unfold Oper.wp
    rw [hr]
    rcases hn with rfl | ⟨rfl, rfl⟩
    · rw [Oper.upon_value]; exact hK e φ' v w' ((h e).2 rfl) S'
    · rw [Oper.upon_skip]; exact hK e φ' undef w' ((h e).2 rfl) S'
  · rw [wantedA_sound S hw]
    simp only [if_true]
    left
    have hcall : CallA C.P f args σ (fun o' H' => ∃ r, V r ∧ o' = .ret r ∧ H' = σ.heap) := callA_of_fnC hf (fun r hr => ⟨r, hr, rfl, rfl⟩)
    obtain ⟨vs, hrun, hr⟩ := calleeOf_run S hc hcall.1
    unfold Oper.wp
    rw [hrun, Oper.upon_enter]
    refine (hcall.2 C φ a w rfl S vs hr).mono fun en w' ⟨o', φ', H', ⟨r, hV, ho', hH⟩, S', hrep⟩ => ?_
    subst ho' hH
    cases en with
    | returned v =>
      refine hK { val := r } φ' v w' ((h _).2 ⟨r, hV, rfl⟩) ?_
      rw [app_val]; exact S'.put o.dst hrep
    | panicked chain => exact hrep.elim
    | outgrown => exact hrep.elim

end region
end Go.Abs

/- Weakening of abstract states; results; contracts out of bodies. -/
namespace Go.Abs

/-- A list of cells of one block, as rows. -/
theorem repMem_of_cells {E : Env} {b : Nat} {c : Array Value} {t : TypeId} {fr : Nat × Nat} (hcb : E.w.heap[b]? = some (.cells c t fr)) : ∀ (cs : List AV) (off : Nat), (∀ o, off ≤ o → o < off + cs.length → ¬ E.mu b o) →
    RepL E cs ((c.toList.drop off).take cs.length) → (∀ u ∈ (c.toList.drop off).take cs.length, u.oneCell' = true) → RepMem E b off cs
  | [], _, _, _, _ => trivial
  | x :: cs, off, hm, r, h1 => by
    obtain ⟨u, us, hu, r1, r2⟩ := r
    have hcu : c[off]? = some u := by
      have : (c.toList.drop off)[0]? = some u := by
        have := congrArg (fun l : List Value => l[0]?) hu
        simpa using this
      simpa using this
    have htl : us = (c.toList.drop (off + 1)).take cs.length := by
      have h1 := congrArg List.tail hu
      simp only [List.tail_cons] at h1
      rw [← h1]
      cases hd : c.toList.drop off with
      | nil => rw [hd] at hu; simp at hu
      | cons y ys =>
        have : c.toList.drop (off + 1) = ys := by
          have := congrArg List.tail hd
          simpa [List.tail_drop] using this
        rw [this]; simp
    refine ⟨⟨hm off (Nat.le_refl _) (by simp), u, by simp only [World.cell?, hcb]; simpa using hcu, h1 u (by rw [hu]; simp), r1⟩, repMem_of_cells hcb cs (off + 1) (fun o h2 h3 => hm o (by omega) (by simp; omega)) (by rw [← htl]; exact r2) (fun v hv => h1 v (by rw [hu, htl]; simp [hv]))⟩

theorem repRows_of_cells {E : Env} {b sz : Nat} {c : Array Value} {t : TypeId} {fr : Nat × Nat} (hcb : E.w.heap[b]? = some (.cells c t fr)) : ∀ (rs : List (List AV)) (off : Nat), (∀ r ∈ rs, r.length = sz) →
    (∀ o, off ≤ o → o < off + rs.length * sz → ¬ E.mu b o) → RepL E rs.flatten ((c.toList.drop off).take (rs.length * sz)) → (∀ u ∈ (c.toList.drop off).take (rs.length * sz), u.oneCell' = true) → RepRows E sz b off rs
  | [], _, _, _, _, _ => trivial
  | r :: rs, off, hl, hm, h, h1 => by
    have hr : r.length = sz := hl r (by simp)
    simp only [List.flatten_cons] at h
    have h3 := RepL.take r.length h
    have h2 := RepL.drop r.length h
    simp only [List.take_left', List.drop_left', List.take_take, List.drop_take, List.drop_drop] at h3 h2
    have e1 : min r.length ((r :: rs).length * sz) = r.length := by
      simp only [List.length_cons, Nat.add_mul, Nat.one_mul]; omega
    have e2 : (r :: rs).length * sz - r.length = rs.length * sz := by simp only [List.length_cons, Nat.add_mul, Nat.one_mul]; omega
    have e3 : (r :: rs).length * sz = rs.length * sz + sz := by simp only [List.length_cons, Nat.add_mul, Nat.one_mul]
    rw [e1] at h3
    rw [e2, hr] at h2
    refine ⟨hr, repMem_of_cells hcb r off (fun o h4 h5 => hm o h4 (by omega)) h3 (fun u hu => h1 u ?_), repRows_of_cells hcb rs (off + sz) (fun q hq => hl q (by simp [hq])) (fun o h4 h5 => hm o (by omega) (by omega)) h2 (fun u hu => h1 u ?_)⟩
    · have : (c.toList.drop off).take r.length = ((c.toList.drop off).take ((r :: rs).length * sz)).take r.length := by rw [List.take_take, e1]
      rw [this] at hu
      exact List.mem_of_mem_take hu
    · have : (c.toList.drop (off + sz)).take (rs.length * sz) = ((c.toList.drop off).take ((r :: rs).length * sz)).drop sz := by
        rw [List.drop_take, List.drop_drop]
        congr 1
        rw [← e2, hr]
      rw [this] at hu
      exact List.mem_of_mem_drop hu

def objNb (n : Nat) : AObj → Prop
  | .cells cs => nbL n cs
  | .acc _ _ rows => nbR n rows
  | .map es => ∀ p ∈ es, p.1.nb n ∧ p.2.nb n
  | .dead => True

/-- Whatever is represented by the one is represented by the other. -/
def Sub (x y : AV) : Prop := ∀ (E : Env) (v : Value), Rep E x v → Rep E y v
def SubL (xs ys : List AV) : Prop := ∀ (E : Env) (vs : List Value), RepL E xs vs → RepL E ys vs
def SubR (xs ys : List (List AV)) : Prop := xs.length = ys.length ∧ ∀ (E : Env) (sz b off : Nat), RepRows E sz b off xs → RepRows E sz b off ys
def SubM (xs ys : List AV) : Prop := xs.length = ys.length ∧ ∀ (E : Env) (b off : Nat), RepMem E b off xs → RepMem E b off ys

theorem Sub.refl (x : AV) : Sub x x := fun _ _ h => h
theorem Sub.of_eq {x y : AV} (h : x = y) : Sub x y := h ▸ Sub.refl x
theorem Sub.any (x : AV) : Sub x .any := fun _ _ _ => trivial
theorem Sub.trans {x y z : AV} (h : Sub x y) (h' : Sub y z) : Sub x z := fun E v r => h' E v (h E v r)
theorem SubL.refl (xs : List AV) : SubL xs xs := fun _ _ h => h
theorem SubL.nil : SubL [] [] := fun _ _ h => h
theorem SubL.cons {x y : AV} {xs ys : List AV} (h : Sub x y) (hs : SubL xs ys) : SubL (x :: xs) (y :: ys) := fun E _ ⟨u, us, hv, r1, r2⟩ => ⟨u, us, hv, h E u r1, hs E us r2⟩
theorem SubM.refl (xs : List AV) : SubM xs xs := ⟨rfl, fun _ _ _ h => h⟩
theorem SubM.nil : SubM [] [] := SubM.refl []
theorem SubM.cons {x y : AV} {xs ys : List AV} (h : Sub x y) (hs : SubM xs ys) : SubM (x :: xs) (y :: ys) :=
  ⟨by simp [hs.1], fun E b off ⟨⟨hm, u, hu, h1, r⟩, r2⟩ => ⟨⟨hm, u, hu, h1, h E u r⟩, hs.2 E b _ r2⟩⟩
theorem SubR.refl (xs : List (List AV)) : SubR xs xs := ⟨rfl, fun _ _ _ _ h => h⟩
theorem SubR.nil : SubR [] [] := SubR.refl []
theorem SubR.cons {x y : List AV} {xs ys : List (List AV)} (h : SubM x y) (hs : SubR xs ys) : SubR (x :: xs) (y :: ys) :=
  ⟨by simp [hs.1], fun E sz b off ⟨h1, r, r2⟩ => ⟨by rw [← h.1]; exact h1, h.2 E b off r, hs.2 E sz b _ r2⟩⟩
theorem Sub.agg {xs ys : List AV} (h : SubL xs ys) : Sub (.agg xs) (.agg ys) := fun E _ ⟨vs, hv, r⟩ => ⟨vs, hv, h E _ r⟩
theorem Sub.tup {xs ys : List AV} (h : SubL xs ys) : Sub (.tup xs) (.tup ys) := fun E _ ⟨vs, hv, r⟩ => ⟨vs, hv, h E _ r⟩
theorem Sub.pp {xs ys : List AV} (h : SubM xs ys) : Sub (.pp xs) (.pp ys) := fun E _ ⟨b, off, hv, r⟩ => ⟨b, off, hv, h.2 E b off r⟩
theorem Sub.iface {t : TypeId} {x y : AV} (h : Sub x y) : Sub (.iface t x) (.iface t y) := fun E _ ⟨u, hv, r⟩ => ⟨u, hv, h E u r⟩
theorem Sub.func {fn : Fn} {f f' c c' : List AV} (h : SubL f f') (h' : SubL c c') : Sub (.func fn f c) (.func fn f' c') := fun E _ ⟨a, b, hv, r1, r2⟩ => ⟨a, b, hv, h E _ r1, h' E _ r2⟩
theorem Sub.lst {t : Bool} {sz : Nat} {xs ys : List (List AV)} (h : SubR xs ys) : Sub (.lst t sz xs) (.lst false sz ys) := fun E v ⟨base, cap, h1, h2, h3, h4, h5, h6⟩ =>
  ⟨base, cap, by rw [← h.1]; exact h1, by rw [← h.1]; exact h2, (by intro h; cases h), h4, fun a ha hne => h5 a ha (fun e => hne (by have := h.1; rw [e] at this; exact List.eq_nil_of_length_eq_zero this.symm)), fun a ha => h.2 E sz _ _ (h6 a ha)⟩
theorem Sub.loose (t : Bool) (sz : Nat) (xs : List (List AV)) : Sub (.lst t sz xs) (.lst false sz xs) := Sub.lst (SubR.refl xs)
theorem Sub.empty (t : Bool) (sz sz' : Nat) : Sub (.lst t sz []) (.lst false sz' []) := fun _ _ ⟨base, cap, h1, h2, _, h4, _, _⟩ =>
  ⟨base, cap, h1, h2, (by intro h; cases h), h4, (by intro a _ h; exact absurd rfl h), fun _ _ => trivial⟩
theorem Sub.nilTight (sz sz' : Nat) : Sub (.lst true sz []) (.lst true sz' []) := fun _ _ ⟨base, cap, h1, h2, h3, h4, _, _⟩ =>
  ⟨base, cap, h1, h2, h3, h4, (by intro a _ h; exact absurd rfl h), fun _ _ => trivial⟩

/-- One abstract value says no more than another, and mentions names below n alone. -/
def Co1 (H : List AObj) (n : Nat) (x y : AV) : Prop :=
  (Sub x y ∧ y.nb n) ∨ ∃ l m sz rows, x = .acc l m ∧ H[l]? = some (.acc true sz rows) ∧ rows.length = m ∧ Sub (.lst false sz rows) y ∧ y.nb n

def CoL1 (H : List AObj) (n : Nat) : List AV → List AV → Prop
  | [], ys => ys = []
  | x :: xs, ys => ∃ y zs, ys = y :: zs ∧ Co1 H n x y ∧ CoL1 H n xs zs

def Co (H : List AObj) (n : Nat) (x y : AV) : Prop := Co1 H n x y ∨ ∃ cs ds, x = .agg cs ∧ y = .agg ds ∧ CoL1 H n cs ds

def CoL (H : List AObj) (n : Nat) : List AV → List AV → Prop
  | [], ys => ys = []
  | x :: xs, ys => ∃ y zs, ys = y :: zs ∧ Co H n x y ∧ CoL H n xs zs

theorem nbL_append {n : Nat} : ∀ {p q : List AV}, nbL n p → nbL n q → nbL n (p ++ q)
  | [], _, _, hq => hq
  | _ :: _, _, hp, hq => ⟨hp.1, nbL_append hp.2 hq⟩

theorem nbL_flatten {n : Nat} : ∀ {rows : List (List AV)}, nbR n rows → nbL n rows.flatten
  | [], _ => trivial
  | _ :: _, h => by simp only [List.flatten_cons]; exact nbL_append h.1 (nbL_flatten h.2)

/-- Rows that say no more than others. -/
def RowsSub : List (List AV) → List (List AV) → Prop
  | [], ys => ys = []
  | x :: xs, ys => ∃ y zs, ys = y :: zs ∧ (x.length = y.length ∧ SubL x y) ∧ RowsSub xs zs

theorem RowsSub.length : ∀ {xs ys : List (List AV)}, RowsSub xs ys → ys.length = xs.length
  | [], _, rfl => rfl
  | _ :: _, _, ⟨_, _, rfl, _, h⟩ => by simp [RowsSub.length h]
theorem RowsSub.sz {sz : Nat} : ∀ {xs ys : List (List AV)}, RowsSub xs ys → (∀ r ∈ xs, r.length = sz) → ∀ r ∈ ys, r.length = sz
  | [], _, rfl, _ => by simp
  | x :: _, _, ⟨y, _, rfl, h1, h⟩, hl => by
    intro r hr
    simp only [List.mem_cons] at hr
    rcases hr with rfl | hr
    · rw [← h1.1]; exact hl x (by simp)
    · exact RowsSub.sz h (fun q hq => hl q (by simp [hq])) r hr
theorem RowsSub.flat {E : Env} : ∀ {xs ys : List (List AV)} {vs : List Value}, RowsSub xs ys → RepL E xs.flatten vs → RepL E ys.flatten vs
  | [], _, _, rfl, r => r
  | x :: xs, _, vs, ⟨y, zs, rfl, h1, h⟩, r => by
    simp only [List.flatten_cons] at r ⊢
    have h3 := RepL.take x.length r
    have h2 := RepL.drop x.length r
    simp only [List.take_left', List.drop_left'] at h3 h2
    have := RepL.append (h1.2 _ _ h3) (RowsSub.flat h h2)
    rwa [List.take_append_drop] at this

def CoObj (H : List AObj) (n : Nat) (x y : AObj) : Prop :=
  y = .dead ∨ (y = x ∧ objNb n x) ∨ (∃ cs ds, x = .cells cs ∧ y = .cells ds ∧ CoL H n cs ds) ∨ ∃ imm sz rows rows', x = .acc imm sz rows ∧ y = .acc imm sz rows' ∧ RowsSub rows rows' ∧ nbR n rows'

def CoH (H : List AObj) (n : Nat) : List AObj → List AObj → Prop
  | _, [] => True
  | [], _ :: _ => False
  | x :: xs, y :: ys => CoObj H n x y ∧ CoH H n xs ys

def Weak (σ σ' : AState) : Prop := (σ'.low = σ.low ∧ σ.low ≤ σ'.heap.length) ∧ CoL σ.heap σ'.heap.length σ.slots σ'.slots ∧ CoH σ.heap σ'.heap.length σ.heap σ'.heap

theorem CoH.get {H : List AObj} {n : Nat} : ∀ {xs ys : List AObj} {l : Nat} {y : AObj}, CoH H n xs ys → ys[l]? = some y → ∃ x, xs[l]? = some x ∧ CoObj H n x y
  | _, [], _, _, _, h => by simp at h
  | [], _ :: _, _, _, h, _ => h.elim
  | x :: _, _ :: _, 0, _, ⟨h, _⟩, hy => by simp at hy; subst hy; exact ⟨x, by simp, h⟩
  | _ :: _, _ :: _, l + 1, _, ⟨_, h⟩, hy => by
    simp at hy
    obtain ⟨x, hx, hc⟩ := CoH.get h hy
    exact ⟨x, by simpa using hx, hc⟩

section weak
variable {C : Ctx} {φ : Nat → Value} {σ σ' : AState} {a : Act} {w : World}

theorem CoL.rep {E E' : Env} {H : List AObj} {n : Nat} (hone : ∀ x y v, Co H n x y → Rep E x v → Rep E' y v) : ∀ {xs ys : List AV} {vs : List Value}, CoL H n xs ys → RepL E xs vs → RepL E' ys vs
  | [], _, _, rfl, r => r
  | _ :: _, _, _, ⟨y, zs, rfl, hc, hr⟩, ⟨u, us, rfl, r1, r2⟩ => ⟨u, us, rfl, hone _ y u hc r1, CoL.rep hone hr r2⟩

theorem CoL1.rep {E E' : Env} {H : List AObj} {n : Nat} (hone : ∀ x y v, Co1 H n x y → Rep E x v → Rep E' y v) : ∀ {xs ys : List AV} {vs : List Value}, CoL1 H n xs ys → RepL E xs vs → RepL E' ys vs
  | [], _, _, rfl, r => r
  | _ :: _, _, _, ⟨y, zs, rfl, hc, hr⟩, ⟨u, us, rfl, r1, r2⟩ => ⟨u, us, rfl, hone _ y u hc r1, CoL1.rep hone hr r2⟩

theorem Co.of1 {E E' : Env} {H : List AObj} {n : Nat} (hone : ∀ x y v, Co1 H n x y → Rep E x v → Rep E' y v) (x y : AV) (v : Value) (h : Co H n x y) (r : Rep E x v) : Rep E' y v := by
  rcases h with h | ⟨cs, ds, rfl, rfl, h⟩
  · exact hone x y v h r
  · obtain ⟨vs, hv, rl⟩ := r
    exact ⟨vs, hv, CoL1.rep hone h rl⟩

/-- What is represented is represented by less, too. -/
theorem Co.rep (S : Sim C φ σ a w) {n : Nat} {x y : AV} {v : Value} (h : Co σ.heap n x y) (r : Rep (C.env φ σ.heap w) x v) : Rep (C.env φ σ.heap w) y v := by
  refine Co.of1 ?_ x y v h r
  intro x y v hc r
  rcases hc with ⟨hsub, hn⟩ | ⟨l, m, sz, rows, rfl, hl, hm, hsub, hn⟩
  · exact hsub _ _ r
  · have hv := acc_cur S hl hm r
    subst hv
    exact hsub _ _ (acc_view S hl)

theorem CoL.repS (S : Sim C φ σ a w) {n : Nat} {xs ys : List AV} {vs : List Value} (h : CoL σ.heap n xs ys) (r : RepL (C.env φ σ.heap w) xs vs) : RepL (C.env φ σ.heap w) ys vs :=
  CoL.rep (fun _ _ _ h r => Co.rep S h r) h r

theorem Weak.imp (h : Weak σ σ') : Imp σ σ' := by
  intro C φ a w S
  refine ⟨φ, ?_⟩
  obtain ⟨hlow, hs, hh⟩ := h
  have hobj : ∀ (l : Nat) (y : AObj), σ'.heap[l]? = some y → ∃ x, σ.heap[l]? = some x ∧ CoObj σ.heap σ'.heap.length x y := fun l y hy => hh.get hy
  have hmuts : ∀ {x y : AObj} {h : Value} {b o : Nat}, CoObj σ.heap σ'.heap.length x y → y.muts h b o → x.muts h b o := by
    intro x y h b o hc hm
    rcases hc with rfl | ⟨rfl, _⟩ | ⟨cs, ds, rfl, rfl, _⟩ | ⟨imm, sz, rows, rows', rfl, rfl, _, _⟩
    · simp [AObj.muts] at hm
    · exact hm
    · cases h with
      | pointer p => cases p <;> exact hm
      | _ => exact hm
    · cases h with
      | slice p _ _ => cases p <;> exact hm
      | _ => exact hm
  have hblock : ∀ {x y : AObj} {h : Value} {b : Nat}, CoObj σ.heap σ'.heap.length x y → y.block h b → x.block h b := by
    intro x y h b hc hm
    rcases hc with rfl | ⟨rfl, _⟩ | ⟨cs, ds, rfl, rfl, _⟩ | ⟨imm, sz, rows, rows', rfl, rfl, _, _⟩
    · simp [AObj.block] at hm
    · exact hm
    · cases h with
      | pointer p => cases p <;> exact hm
      | _ => exact hm
    · cases h with
      | slice p _ _ => cases p <;> exact hm
      | _ => exact hm
  have hmut : ∀ b o, Mut φ σ'.heap b o → Mut φ σ.heap b o := by
    rintro b o ⟨l, y, hy, hm⟩
    obtain ⟨x, hx, hc⟩ := hobj l y hy
    exact ⟨l, x, hx, hmuts hc hm⟩
  have le : (C.env φ σ.heap w).Le σ'.heap.length (C.env φ σ'.heap w) := by
    refine ⟨Nat.le_refl _, fun l hl => .inl ⟨rfl, ?_⟩, fun b o u hm hc => ⟨fun h => hm (h.imp (hmut b o) id), hc⟩⟩
    obtain ⟨x, hx, hc⟩ := hobj l σ'.heap[l] (List.getElem?_eq_getElem hl)
    simp only [Ctx.env]
    rw [List.getElem?_eq_getElem hl, hx]
    rcases hc with h | ⟨h, _⟩ | ⟨cs, ds, rfl, h, _⟩ | ⟨imm, sz, rows, rows', rfl, h, hr, _⟩
    · right; rw [h]; rfl
    · left; rw [h]
    · left; rw [h]; rfl
    · left; rw [h]; simp only [accLen, hr.length]
  have hone : ∀ x y v, Co σ.heap σ'.heap.length x y → Rep (C.env φ σ.heap w) x v → Rep (C.env φ σ'.heap w) y v := by
    refine Co.of1 ?_
    intro x y v hc r
    rcases hc with ⟨hsub, hn⟩ | ⟨l, m, sz, rows, rfl, hl, hm, hsub, hn⟩
    · exact Rep.mono le _ _ hn (hsub _ _ r)
    · have hv := acc_cur S hl hm r
      subst hv
      exact Rep.mono le _ _ hn (hsub _ _ (acc_view S hl))
  refine { slots := CoL.rep hone hs S.slots, defers := S.defers, objs := ?_, apart := ?_, notA := ?_, size := S.size, old := S.old, oldObj := S.oldObj, inM := ?_, froz := S.froz, rest := S.rest, low := ⟨by rw [hlow.1]; exact S.low.1, by rw [hlow.1]; exact hlow.2⟩, names := ?_ }
  · intro l y hy
    obtain ⟨x, hx, hc⟩ := hobj l y hy
    have r := S.objs l x hx
    rcases hc with rfl | ⟨rfl, hn⟩ | ⟨cs, ds, rfl, rfl, hcl⟩ | ⟨imm, sz, rows, rows', rfl, rfl, hr, hn⟩
    · exact trivial
    · cases y with
      | cells cs =>
        obtain ⟨b, c, t, h1, h2, rl, h3⟩ := r
        exact ⟨b, c, t, h1, h2, RepL.mono le _ _ hn rl, h3⟩
      | acc imm sz rows =>
        obtain ⟨base, cap, h1, h2, h3, h4, h5⟩ := r
        refine ⟨base, cap, h1, h2, h3, h4, fun a0 ha hc => ?_⟩
        obtain ⟨h6, c, t, h7, h8, rl, h9⟩ := h5 a0 ha hc
        exact ⟨h6, c, t, h7, h8, RepL.mono le _ _ (by
          clear rl h9 h8 h7 h6 hc ha h5 h4 h3 h2 h1
          revert hn
          simp only [objNb]
          clear hy hx
          induction rows with
          | nil => intro _; trivial
          | cons r rs ih =>
            intro hn
            simp only [List.flatten_cons]
            have : ∀ (p q : List AV), nbL σ'.heap.length p → nbL σ'.heap.length q → nbL σ'.heap.length (p ++ q) := by
              intro p q hp hq
              induction p with
              | nil => exact hq
              | cons z p ihp => exact ⟨hp.1, ihp hp.2⟩
            exact this r _ hn.1 (ih hn.2)) rl, h9⟩
      | map es =>
        obtain ⟨r', en, cl, h1, h2, rp⟩ := r
        exact ⟨r', en, cl, h1, h2, RepPairs.mono le hn rp⟩
      | dead => trivial
    · obtain ⟨b, c, t, h1, h2, rl, h3⟩ := r
      exact ⟨b, c, t, h1, h2, CoL.rep hone hcl rl, h3⟩
    · obtain ⟨base, cap, h1, h2, h3, h4, h5⟩ := r
      have hlen := hr.length
      refine ⟨base, cap, by rw [hlen]; exact h1, by rw [hlen]; exact h2, h3, hr.sz h4, fun a0 ha hc => ?_⟩
      obtain ⟨h6, c, t, h7, h8, rl, h9⟩ := h5 a0 ha hc
      rw [hlen]
      exact ⟨h6, c, t, h7, h8, RepL.mono le _ _ (nbL_flatten hn) (hr.flat rl), h9⟩
  · intro l l' x x' b hx hx' hb hb'
    obtain ⟨y, hy, hc⟩ := hobj l x hx
    obtain ⟨y', hy', hc'⟩ := hobj l' x' hx'
    exact S.apart l l' y y' b hy hy' (hblock hc hb) (hblock hc' hb')
  · intro l x b o hx hb
    obtain ⟨y, hy, hc⟩ := hobj l x hx
    exact S.notA l y b o hy (hblock hc hb)
  · intro l x b o hx hm hb
    obtain ⟨y, hy, hc⟩ := hobj l x hx
    exact S.inM l y b o hy (hmuts hc hm) hb
  · intro l hl
    have hlt : l < σ'.heap.length := by have := S.low; omega
    obtain ⟨x, hx, hc⟩ := hobj l σ'.heap[l] (List.getElem?_eq_getElem hlt)
    have hn := S.names l hl
    rw [hx] at hn
    rw [List.getElem?_eq_getElem hlt]
    have hcase : accLen (some σ'.heap[l]) = accLen (some x) ∨ accLen (some σ'.heap[l]) = none := by
      rcases hc with h | ⟨h, _⟩ | ⟨cs, ds, rfl, h, _⟩ | ⟨imm, sz, rows, rows', rfl, h, hr, _⟩
      · right; rw [h]; rfl
      · left; rw [h]
      · left; rw [h]; rfl
      · left; rw [h]; simp only [accLen, hr.length]
    rcases hcase with h | h
    · rw [h]; exact hn
    · rw [h]
      rcases hn with ⟨h1, _⟩ | ⟨⟨k, h1, _⟩, h3⟩
      · exact .inl ⟨h1, .inr rfl⟩
      · exact .inr ⟨⟨k, h1, fun k' hk' => by cases hk'⟩, h3⟩

/-- A nil slice that is going to be appended to gets a name. -/
theorem ghostAcc {i s sz : Nat} {imm : Bool} (h : σ.slots[i]? = some (.lst true s [])) : Imp σ { slots := σ.slots.set i (.acc σ.heap.length 0), heap := σ.heap ++ [.acc imm sz []], low := σ.low } := by
  intro C φ a w S
  obtain ⟨v, hv, base, cap, rfl, _, hc, _⟩ := S.slots.get h
  have hcap : cap = 0 := hc rfl
  subst hcap
  have S' := S.nameAcc (imm := imm) (sz := sz) (rows := []) (w' := w) (h' := .slice base 0 0) (Nat.le_refl _) (fun _ _ => rfl) (fun _ => rfl) ⟨rfl, rfl⟩ (by
    intro b hb
    cases base <;> simp [AObj.block] at hb) (fun E' _ _ => ⟨base, 0, rfl, Nat.le_refl _, fun _ => rfl, by simp, fun b _ h0 => absurd rfl h0⟩)
  refine ⟨(fun k => if k = σ.heap.length then .slice base 0 0 else φ k), ?_⟩
  have := S'.put (some i) (x := .acc σ.heap.length 0) (v := .slice base 0 0) ⟨by simp [Ctx.env], ⟨_, _, _, rfl⟩, fun k hk => by
    simp only [Ctx.env, List.getElem?_append_right (Nat.le_refl _), Nat.sub_self, List.getElem?_cons_zero, accLen, Option.some.injEq] at hk
    exact ⟨by simp, fun _ => by simp [Ctx.env]⟩⟩
  refine { this with slots := ?_, defers := S.defers }
  have hs := this.slots
  have ha : (a.put (some i) (.slice base 0 0)).tmps.toList = a.tmps.toList := by
    simp only [Act.put, Array.toList_setIfInBounds]
    apply List.ext_getElem?
    intro k
    by_cases e : i = k
    · subst e
      have hlt : i < a.tmps.toList.length := (List.getElem?_eq_some_iff.1 hv).1
      rw [List.getElem?_set_self hlt]; exact hv.symm
    · rw [List.getElem?_set_ne e]
  rw [ha] at hs
  exact hs

end weak

/-- Rows of a list of cells. -/
def chunks (sz : Nat) : Nat → List AV → List (List AV)
  | 0, _ => []
  | n + 1, cs => cs.take sz :: chunks sz n (cs.drop sz)

mutual
/-- A value as it stands when the call's own names (from low on) are given up. -/
def frz (low : Nat) (H : List AObj) : AV → AV
  | .acc l n => if l < low then .acc l n else match H[l]? with
    | some (.acc _ sz rows) => if rows.length = n then .lst false sz rows else .any
    | _ => .any
  | .own l i n o sz => if l < low then .own l i n o sz else .any
  | .agg cs => .agg (frzL low H cs)
  | .tup cs => .tup (frzL low H cs)
  | .any => .any
  | .bool b => .bool b
  | .int k n => .int k n
  | .str s => .str s
  | .raw v => .raw v
  | .lst t sz rows => .lst t sz rows
  | .ptr l off => .ptr l off
  | .map l => .map l
  | .pp cs => .pp cs
  | .func fn f c => .func fn f c
  | .iface t x => .iface t x
def frzL (low : Nat) (H : List AObj) : List AV → List AV
  | [] => []
  | x :: xs => frz low H x :: frzL low H xs
end

section res
variable {C : Ctx} {φ : Nat → Value} {σ : AState} {a : Act} {w : World}

theorem chunks_length (sz : Nat) : ∀ (n : Nat) (cs : List AV), (chunks sz n cs).length = n
  | 0, _ => rfl
  | n + 1, cs => by simp [chunks, chunks_length sz n]

theorem chunks_flatten (sz : Nat) : ∀ (n : Nat) (cs : List AV), n * sz = cs.length → (chunks sz n cs).flatten = cs ∧ ∀ r ∈ chunks sz n cs, r.length = sz
  | 0, cs, h => by
    have : cs = [] := List.eq_nil_of_length_eq_zero (by omega)
    subst this; simp [chunks]
  | n + 1, cs, h => by
    rw [Nat.add_mul, Nat.one_mul] at h
    obtain ⟨h1, h2⟩ := chunks_flatten sz n (cs.drop sz) (by rw [List.length_drop]; omega)
    constructor
    · simp only [chunks, List.flatten_cons, h1, List.take_append_drop]
    · intro r hr
      simp only [chunks, List.mem_cons] at hr
      rcases hr with rfl | hr
      · rw [List.length_take]; omega
      · exact h2 r hr

/-- The environment in which nothing has a name. -/
theorem nameless_le (_S : Sim C φ σ a w) : (C.env φ σ.heap w).Le 0 (C.env φ [] w) := by
  refine ⟨Nat.zero_le _, fun l hl => absurd hl (Nat.not_lt_zero _), fun b o u hm hc => ⟨?_, hc⟩⟩
  simp only [Ctx.env] at hm ⊢
  rintro (⟨l, x, hx, _⟩ | h)
  · simp at hx
  · exact hm (.inr h)

/-- An environment in which the names from low on are given up. -/
structure Drops (C : Ctx) (φ : Nat → Value) (σ : AState) (w : World) (E' : Env) : Prop where
  le : (C.env φ σ.heap w).Le σ.low E'
  w : E'.w = w
  free : ∀ (l : Nat) (x : AObj) (b o : Nat), σ.low ≤ l → σ.heap[l]? = some x → x.block (φ l) b → ¬ E'.mu b o

theorem Sim.drops (S : Sim C φ σ a w) (h0 : σ.low = 0) : Drops C φ σ w (C.env φ [] w) := by
  refine ⟨by rw [h0]; exact nameless_le S, rfl, fun l x b o _ hx hb => ?_⟩
  simp only [Ctx.env]
  rintro (⟨l', y, hy, _⟩ | hA)
  · simp at hy
  · exact S.notA l x b o hx hb hA

mutual
theorem frz_sound (S : Sim C φ σ a w) {E' : Env} (D : Drops C φ σ w E') :
    ∀ (x : AV) (v : Value), (frz σ.low σ.heap x).nb σ.low → Rep (C.env φ σ.heap w) x v → Rep E' (frz σ.low σ.heap x) v
  | .acc l n, v, hn, r => by
    simp only [frz] at hn ⊢
    by_cases hlow : l < σ.low
    · rw [if_pos hlow]; exact Rep.mono D.le (.acc l n) v hlow r
    · rw [if_neg hlow] at hn ⊢
      split
      · rename_i imm sz rows hl
        simp only [hl] at hn
        split
        · rename_i hlen
          rw [if_pos hlen] at hn
          have hv := acc_cur S hl hlen r
          subst hv
          obtain ⟨base, cap, hh, h2, h3, h4, h5⟩ := S.objs l _ hl
          refine ⟨base, cap, hh, h2, (by intro h; cases h), h3, ?_, ?_⟩
          · intro b hb hne
            exact (h5 b hb (fun h0 => hne (List.eq_nil_of_length_eq_zero (by omega)))).1
          · intro b hb
            by_cases hc : cap = 0
            · have : rows = [] := List.eq_nil_of_length_eq_zero (by omega)
              subst this; trivial
            · obtain ⟨hsp, c, t, hcb, hsz, rl, h1⟩ := h5 b hb hc
              subst hb
              refine repRows_of_cells (E := E') (c := c) (t := t) (fr := (0, 0)) (by rw [D.w]; exact hcb) rows b.off h4 ?_ (RepL.mono D.le _ _ (nbL_flatten hn) rl) h1
              intro o _ _
              exact D.free l _ b.block o (by omega) hl (by rw [hh]; exact ⟨rfl, hc⟩)
        · exact trivial
      · exact trivial
  | .own l i n o sz, v, hn, r => by
    simp only [frz] at hn ⊢
    by_cases hlow : l < σ.low
    · rw [if_pos hlow]; exact Rep.mono D.le (.own l i n o sz) v hlow r
    · rw [if_neg hlow]; exact trivial
  | .agg cs, v, hn, ⟨vs, hv, rl⟩ => ⟨vs, hv, frzL_sound S D cs _ hn rl⟩
  | .tup cs, v, hn, ⟨vs, hv, rl⟩ => ⟨vs, hv, frzL_sound S D cs _ hn rl⟩
  | .any, _, _, _ => trivial
  | .bool _, _, _, r => r
  | .int _ _, _, _, r => r
  | .str _, _, _, r => r
  | .raw _, _, _, r => r
  | .lst t sz rows, _, hn, r => Rep.mono D.le (.lst t sz rows) _ hn r
  | .ptr l off, _, hn, r => Rep.mono D.le (.ptr l off) _ hn r
  | .map l, _, hn, r => Rep.mono D.le (.map l) _ hn r
  | .pp cs, _, hn, r => Rep.mono D.le (.pp cs) _ hn r
  | .func fn f c, _, hn, r => Rep.mono D.le (.func fn f c) _ hn r
  | .iface t x, _, hn, r => Rep.mono D.le (.iface t x) _ hn r
theorem frzL_sound (S : Sim C φ σ a w) {E' : Env} (D : Drops C φ σ w E') :
    ∀ (xs : List AV) (vs : List Value), nbL σ.low (frzL σ.low σ.heap xs) → RepL (C.env φ σ.heap w) xs vs → RepL E' (frzL σ.low σ.heap xs) vs
  | [], _, _, r => r
  | x :: xs, _, hn, ⟨u, us, hv, r1, r2⟩ => ⟨u, us, hv, frz_sound S D x u hn.1 r1, frzL_sound S D xs us hn.2 r2⟩
end

mutual
theorem frz_of_nb (low : Nat) (H : List AObj) : ∀ x : AV, x.nb 0 → frz low H x = x
  | .acc _ _, h => absurd h (Nat.not_lt_zero _)
  | .own _ _ _ _ _, h => absurd h (Nat.not_lt_zero _)
  | .agg cs, h => by rw [frz, frzL_of_nb low H cs h]
  | .tup cs, h => by rw [frz, frzL_of_nb low H cs h]
  | .any, _ | .bool _, _ | .int _ _, _ | .str _, _ | .raw _, _ | .lst _ _ _, _ | .ptr _ _, _ | .map _, _ | .pp _, _ | .func _ _ _, _ | .iface _ _, _ => by rw [frz]
theorem frzL_of_nb (low : Nat) (H : List AObj) : ∀ xs : List AV, nbL 0 xs → frzL low H xs = xs
  | [], _ => rfl
  | x :: xs, h => by rw [frzL, frz_of_nb low H x h.1, frzL_of_nb low H xs h.2]
end

end res
end Go.Abs

/- Contracts of functions that are handed named objects, or hand some out. -/
namespace Go.Abs

mutual
def AV.ren (ρ : Nat → Nat) : AV → AV
  | .agg cs => .agg (renL ρ cs)
  | .tup cs => .tup (renL ρ cs)
  | .pp cs => .pp (renL ρ cs)
  | .lst t sz rows => .lst t sz (renR ρ rows)
  | .acc l n => .acc (ρ l) n
  | .own l off len cap sz => .own (ρ l) off len cap sz
  | .ptr l off => .ptr (ρ l) off
  | .map l => .map (ρ l)
  | .func fn f c => .func fn (renL ρ f) (renL ρ c)
  | .iface t x => .iface t (x.ren ρ)
  | .any => .any
  | .bool b => .bool b
  | .int k n => .int k n
  | .str s => .str s
  | .raw v => .raw v
def renL (ρ : Nat → Nat) : List AV → List AV
  | [] => []
  | c :: cs => c.ren ρ :: renL ρ cs
def renR (ρ : Nat → Nat) : List (List AV) → List (List AV)
  | [] => []
  | r :: rs => renL ρ r :: renR ρ rs
end

theorem renL_length (ρ : Nat → Nat) : ∀ cs : List AV, (renL ρ cs).length = cs.length
  | [] => rfl
  | _ :: cs => by simp [renL, renL_length ρ cs]
theorem renR_length (ρ : Nat → Nat) : ∀ cs : List (List AV), (renR ρ cs).length = cs.length
  | [] => rfl
  | _ :: cs => by simp [renR, renR_length ρ cs]
theorem renL_append (ρ : Nat → Nat) : ∀ a b : List AV, renL ρ (a ++ b) = renL ρ a ++ renL ρ b
  | [], _ => rfl
  | _ :: a, b => by simp [renL, renL_append ρ a b]
theorem renR_flatten (ρ : Nat → Nat) : ∀ rs : List (List AV), (renR ρ rs).flatten = renL ρ rs.flatten
  | [] => rfl
  | r :: rs => by simp [renR, renL_append, renR_flatten ρ rs]

mutual
theorem ren_of_nb (ρ : Nat → Nat) : ∀ x : AV, x.nb 0 → x.ren ρ = x
  | .acc _ _, h => absurd h (Nat.not_lt_zero _)
  | .own _ _ _ _ _, h => absurd h (Nat.not_lt_zero _)
  | .ptr _ _, h => absurd h (Nat.not_lt_zero _)
  | .map _, h => absurd h (Nat.not_lt_zero _)
  | .agg cs, h => by rw [AV.ren, renL_of_nb ρ cs h]
  | .tup cs, h => by rw [AV.ren, renL_of_nb ρ cs h]
  | .pp cs, h => by rw [AV.ren, renL_of_nb ρ cs h]
  | .lst _ _ rows, h => by rw [AV.ren, renR_of_nb ρ rows h]
  | .func _ f c, h => by rw [AV.ren, renL_of_nb ρ f h.1, renL_of_nb ρ c h.2]
  | .iface _ x, h => by rw [AV.ren, ren_of_nb ρ x h]
  | .any, _ | .bool _, _ | .int _ _, _ | .str _, _ | .raw _, _ => by rw [AV.ren]
theorem renL_of_nb (ρ : Nat → Nat) : ∀ xs : List AV, nbL 0 xs → renL ρ xs = xs
  | [], _ => rfl
  | x :: xs, h => by rw [renL, ren_of_nb ρ x h.1, renL_of_nb ρ xs h.2]
theorem renR_of_nb (ρ : Nat → Nat) : ∀ xs : List (List AV), nbR 0 xs → renR ρ xs = xs
  | [], _ => rfl
  | x :: xs, h => by rw [renR, renL_of_nb ρ x h.1, renR_of_nb ρ xs h.2]
end

def AObj.ren (ρ : Nat → Nat) : AObj → AObj
  | .cells cs => .cells (renL ρ cs)
  | .acc imm sz rows => .acc imm sz (renR ρ rows)
  | .map es => .map (es.map fun p => (p.1.ren ρ, p.2.ren ρ))
  | .dead => .dead

def AOut.ren (ρ : Nat → Nat) : AOut → AOut
  | .ret r => .ret (r.ren ρ)
  | .panic x => .panic (x.ren ρ)

/-- Names below N, renamed. -/
structure RenLe (N : Nat) (ρ : Nat → Nat) (E E' : Env) : Prop where
  n : ∀ l, l < N → ρ l < E'.n
  names : ∀ l, l < N → E'.φ (ρ l) = E.φ l ∧ (E'.ln (ρ l) = E.ln l ∨ E'.ln (ρ l) = none)
  mem : ∀ b o u, ¬ E.mu b o → E.w.cell? ⟨b, o, none⟩ = some u → ¬ E'.mu b o ∧ E'.w.cell? ⟨b, o, none⟩ = some u

section
variable {E E' : Env} {N : Nat} {ρ : Nat → Nat}
mutual
theorem Rep.ren (h : RenLe N ρ E E') : ∀ (x : AV) (v : Value), x.nb N → Rep E x v → Rep E' (x.ren ρ) v
  | .any, _, _, _ => trivial
  | .bool _, _, _, r => r
  | .int _ _, _, _, r => r
  | .str _, _, _, r => r
  | .raw _, _, _, r => r
  | .agg cs, _, hb, ⟨vs, hv, hr⟩ => ⟨vs, hv, RepL.ren h cs _ hb hr⟩
  | .tup cs, _, hb, ⟨vs, hv, hr⟩ => ⟨vs, hv, RepL.ren h cs _ hb hr⟩
  | .lst t sz rows, _, hb, ⟨base, cap, h1, h2, h3, h4, h5, h6⟩ =>
    ⟨base, cap, by rw [renR_length]; exact h1, by rw [renR_length]; exact h2, fun e => by rw [renR_length]; exact h3 e, h4, fun a ha hne => h5 a ha (fun e => hne (by rw [e]; rfl)), fun a ha => RepRows.ren h rows _ hb (h6 a ha)⟩
  | .acc l n, v, hb, ⟨_, hsl, r⟩ => ⟨h.n l hb, hsl, fun k hk => by
      rcases (h.names l hb).2 with e | e
      · rw [e] at hk; rw [(h.names l hb).1]; exact r k hk
      · rw [e] at hk; cases hk⟩
  | .own l i n o sz, v, hb, ⟨_, hsl, r⟩ => ⟨h.n l hb, hsl, fun k hk => by
      rcases (h.names l hb).2 with e | e
      · rw [e] at hk; rw [(h.names l hb).1]; exact r k hk
      · rw [e] at hk; cases hk⟩
  | .ptr l off, v, hb, ⟨_, b, hφ, hv⟩ => ⟨h.n l hb, b, by rw [(h.names l hb).1]; exact hφ, hv⟩
  | .map l, v, hb, ⟨_, hv, r, hφ⟩ => ⟨h.n l hb, by rw [(h.names l hb).1]; exact hv, r, by rw [(h.names l hb).1]; exact hφ⟩
  | .pp cs, _, hb, ⟨b, off, hv, r⟩ => ⟨b, off, hv, RepMem.ren h cs _ hb r⟩
  | .func _ f c, _, hb, ⟨f', c', hv, r1, r2⟩ => ⟨f', c', hv, RepL.ren h f _ hb.1 r1, RepL.ren h c _ hb.2 r2⟩
  | .iface _ x, _, hb, ⟨u, hv, r⟩ => ⟨u, hv, Rep.ren h x _ hb r⟩
theorem RepL.ren (h : RenLe N ρ E E') : ∀ (cs : List AV) (vs : List Value), nbL N cs → RepL E cs vs → RepL E' (renL ρ cs) vs
  | [], _, _, r => r
  | c :: cs, _, hb, ⟨u, us, hv, r1, r2⟩ => ⟨u, us, hv, Rep.ren h c _ hb.1 r1, RepL.ren h cs _ hb.2 r2⟩
theorem RepMem.ren (h : RenLe N ρ E E') {b : Nat} : ∀ (cs : List AV) (off : Nat), nbL N cs → RepMem E b off cs → RepMem E' b off (renL ρ cs)
  | [], _, _, _ => trivial
  | c :: cs, off, hb, ⟨⟨hm, u, hu, h1, r1⟩, r2⟩ =>
    let ⟨m, c'⟩ := h.mem b off u hm hu
    ⟨⟨m, u, c', h1, Rep.ren h c _ hb.1 r1⟩, RepMem.ren h cs _ hb.2 r2⟩
theorem RepRows.ren (h : RenLe N ρ E E') {sz b : Nat} : ∀ (rs : List (List AV)) (off : Nat), nbR N rs → RepRows E sz b off rs → RepRows E' sz b off (renR ρ rs)
  | [], _, _, _ => trivial
  | r :: rs, off, hb, ⟨hl, r1, r2⟩ => ⟨by rw [renL_length]; exact hl, RepMem.ren h r _ hb.1 r1, RepRows.ren h rs _ hb.2 r2⟩
end

/-- And back: what is renamed is represented in E', what is not in E. -/
structure UnLe (N : Nat) (ρ : Nat → Nat) (E' E : Env) : Prop where
  n : N ≤ E.n
  names : ∀ l, l < N → E.φ l = E'.φ (ρ l) ∧ E.ln l = E'.ln (ρ l)
  mem : ∀ b o u, ¬ E'.mu b o → E'.w.cell? ⟨b, o, none⟩ = some u → ¬ E.mu b o ∧ E.w.cell? ⟨b, o, none⟩ = some u

mutual
theorem Rep.unren (h : UnLe N ρ E' E) : ∀ (x : AV) (v : Value), x.nb N → Rep E' (x.ren ρ) v → Rep E x v
  | .any, _, _, _ => trivial
  | .bool _, _, _, r => r
  | .int _ _, _, _, r => r
  | .str _, _, _, r => r
  | .raw _, _, _, r => r
  | .agg cs, _, hb, ⟨vs, hv, hr⟩ => ⟨vs, hv, RepL.unren h cs _ hb hr⟩
  | .tup cs, _, hb, ⟨vs, hv, hr⟩ => ⟨vs, hv, RepL.unren h cs _ hb hr⟩
  | .lst t sz rows, _, hb, ⟨base, cap, h1, h2, h3, h4, h5, h6⟩ => by
    rw [renR_length] at h1 h2 h3
    refine ⟨base, cap, h1, h2, h3, h4, fun a ha hne => h5 a ha (fun e => hne ?_), fun a ha => RepRows.unren h rows _ hb (h6 a ha)⟩
    have := congrArg List.length e
    rw [renR_length] at this
    exact List.eq_nil_of_length_eq_zero this
  | .acc l n, v, hb, ⟨_, hsl, r⟩ => ⟨Nat.lt_of_lt_of_le hb h.n, hsl, fun k hk => by rw [(h.names l hb).2] at hk; rw [(h.names l hb).1]; exact r k hk⟩
  | .own l i n o sz, v, hb, ⟨_, hsl, r⟩ => ⟨Nat.lt_of_lt_of_le hb h.n, hsl, fun k hk => by rw [(h.names l hb).2] at hk; rw [(h.names l hb).1]; exact r k hk⟩
  | .ptr l off, v, hb, ⟨_, b, hφ, hv⟩ => ⟨Nat.lt_of_lt_of_le hb h.n, b, by rw [(h.names l hb).1]; exact hφ, hv⟩
  | .map l, v, hb, ⟨_, hv, r, hφ⟩ => ⟨Nat.lt_of_lt_of_le hb h.n, by rw [(h.names l hb).1]; exact hv, r, by rw [(h.names l hb).1]; exact hφ⟩
  | .pp cs, _, hb, ⟨b, off, hv, r⟩ => ⟨b, off, hv, RepMem.unren h cs _ hb r⟩
  | .func _ f c, _, hb, ⟨f', c', hv, r1, r2⟩ => ⟨f', c', hv, RepL.unren h f _ hb.1 r1, RepL.unren h c _ hb.2 r2⟩
  | .iface _ x, _, hb, ⟨u, hv, r⟩ => ⟨u, hv, Rep.unren h x _ hb r⟩
theorem RepL.unren (h : UnLe N ρ E' E) : ∀ (cs : List AV) (vs : List Value), nbL N cs → RepL E' (renL ρ cs) vs → RepL E cs vs
  | [], _, _, r => r
  | c :: cs, _, hb, ⟨u, us, hv, r1, r2⟩ => ⟨u, us, hv, Rep.unren h c _ hb.1 r1, RepL.unren h cs _ hb.2 r2⟩
theorem RepMem.unren (h : UnLe N ρ E' E) {b : Nat} : ∀ (cs : List AV) (off : Nat), nbL N cs → RepMem E' b off (renL ρ cs) → RepMem E b off cs
  | [], _, _, _ => trivial
  | c :: cs, off, hb, ⟨⟨hm, u, hu, h1, r1⟩, r2⟩ =>
    let ⟨m, c'⟩ := h.mem b off u hm hu
    ⟨⟨m, u, c', h1, Rep.unren h c _ hb.1 r1⟩, RepMem.unren h cs _ hb.2 r2⟩
theorem RepRows.unren (h : UnLe N ρ E' E) {sz b : Nat} : ∀ (rs : List (List AV)) (off : Nat), nbR N rs → RepRows E' sz b off (renR ρ rs) → RepRows E sz b off rs
  | [], _, _, _ => trivial
  | r :: rs, off, hb, ⟨hl, r1, r2⟩ => ⟨by rw [renL_length] at hl; exact hl, RepMem.unren h r _ hb.1 r1, RepRows.unren h rs _ hb.2 r2⟩
end
end

theorem renPairs {E E' : Env} {N : Nat} {ρ : Nat → Nat} (h : RenLe N ρ E E') : ∀ {es : List (AV × AV)} {xs : List MapEntry}, (∀ p ∈ es, p.1.nb N ∧ p.2.nb N) → RepPairs E es xs → RepPairs E' (es.map fun p => (p.1.ren ρ, p.2.ren ρ)) xs
  | [], _, _, r => r
  | (k, v) :: _, _, hb, ⟨e, s, he, r1, r2, r3⟩ =>
    ⟨e, s, he, Rep.ren h k _ (hb (k, v) (by simp)).1 r1, Rep.ren h v _ (hb (k, v) (by simp)).2 r2, renPairs h (fun p hp => hb p (by simp [hp])) r3⟩

theorem unrenPairs {E E' : Env} {N : Nat} {ρ : Nat → Nat} (h : UnLe N ρ E' E) : ∀ {es : List (AV × AV)} {xs : List MapEntry}, (∀ p ∈ es, p.1.nb N ∧ p.2.nb N) → RepPairs E' (es.map fun p => (p.1.ren ρ, p.2.ren ρ)) xs → RepPairs E es xs
  | [], _, _, r => r
  | (k, v) :: _, _, hb, ⟨e, s, he, r1, r2, r3⟩ =>
    ⟨e, s, he, Rep.unren h k _ (hb (k, v) (by simp)).1 r1, Rep.unren h v _ (hb (k, v) (by simp)).2 r2, unrenPairs h (fun p hp => hb p (by simp [hp])) r3⟩

theorem ObjRep.ren {E E' : Env} {N : Nat} {ρ : Nat → Nat} (h : RenLe N ρ E E') {x : AObj} {hd : Value} (hb : objNb N x) (hw : ∀ b, x.block hd b → E'.w.heap[b]? = E.w.heap[b]?) (r : ObjRep E x hd) : ObjRep E' (x.ren ρ) hd := by
  cases x with
  | cells cs =>
    obtain ⟨b, c, t, rfl, h2, rl, h3⟩ := r
    exact ⟨b, c, t, rfl, by rw [hw b rfl]; exact h2, RepL.ren h _ _ hb rl, h3⟩
  | acc imm sz rows =>
    obtain ⟨base, cap, rfl, h2, h3, h4, h5⟩ := r
    refine ⟨base, cap, by rw [renR_length], by rw [renR_length]; exact h2, h3, ?_, fun a0 ha hc => ?_⟩
    · have key : ∀ rs : List (List AV), (∀ r ∈ rs, r.length = sz) → ∀ r ∈ renR ρ rs, r.length = sz := by
        intro rs
        induction rs with
        | nil => intro _ r hr; simp [renR] at hr
        | cons q rs ih =>
          intro hl r hr
          simp only [renR, List.mem_cons] at hr
          rcases hr with rfl | hr
          · rw [renL_length]; exact hl q (by simp)
          · exact ih (fun p hp => hl p (by simp [hp])) r hr
      exact key rows h4
    · obtain ⟨h6, c, t, h7, h8, rl, h9⟩ := h5 a0 ha hc
      subst ha
      rw [renR_length, renR_flatten]
      exact ⟨h6, c, t, by rw [hw _ ⟨rfl, hc⟩]; exact h7, h8, RepL.ren h _ _ (nbL_flatten hb) rl, h9⟩
  | map es =>
    obtain ⟨r', en, cl, rfl, h2, rp⟩ := r
    exact ⟨r', en, cl, rfl, by rw [hw r' rfl]; exact h2, renPairs h hb rp⟩
  | dead => trivial

theorem ObjRep.unren {E E' : Env} {N : Nat} {ρ : Nat → Nat} (h : UnLe N ρ E' E) {x : AObj} {hd : Value} (hb : objNb N x) (hw : ∀ b, (x.ren ρ).block hd b → E.w.heap[b]? = E'.w.heap[b]?) (r : ObjRep E' (x.ren ρ) hd) : ObjRep E x hd := by
  cases x with
  | cells cs =>
    obtain ⟨b, c, t, rfl, h2, rl, h3⟩ := r
    exact ⟨b, c, t, rfl, by rw [hw b rfl]; exact h2, RepL.unren h _ _ hb rl, h3⟩
  | acc imm sz rows =>
    obtain ⟨base, cap, rfl, h2, h3, h4, h5⟩ := r
    rw [renR_length] at h2 hw
    refine ⟨base, cap, by rw [renR_length], h2, h3, ?_, fun a0 ha hc => ?_⟩
    · have key : ∀ rs : List (List AV), (∀ r ∈ renR ρ rs, r.length = sz) → ∀ r ∈ rs, r.length = sz := by
        intro rs
        induction rs with
        | nil => intro _ r hr; simp at hr
        | cons q rs ih =>
          intro hl r hr
          simp only [List.mem_cons] at hr
          rcases hr with rfl | hr
          · have := hl (renL ρ r) (by simp [renR]); rw [renL_length] at this; exact this
          · exact ih (fun p hp => hl p (by simp [renR, hp])) r hr
      exact key rows h4
    · obtain ⟨h6, c, t, h7, h8, rl, h9⟩ := h5 a0 ha hc
      subst ha
      rw [renR_length] at rl h9
      rw [renR_flatten] at rl
      exact ⟨h6, c, t, by rw [hw _ ⟨rfl, hc⟩]; exact h7, h8, RepL.unren h _ _ (nbL_flatten hb) rl, h9⟩
  | map es =>
    obtain ⟨r', en, cl, rfl, h2, rp⟩ := r
    exact ⟨r', en, cl, rfl, by rw [hw r' rfl]; exact h2, unrenPairs h hb rp⟩
  | dead => trivial

theorem ren_muts {ρ : Nat → Nat} {x : AObj} {h : Value} {b o : Nat} : (x.ren ρ).muts h b o ↔ x.muts h b o := by
  cases x with
  | cells cs => cases h with
    | pointer p => cases p <;> exact Iff.rfl
    | _ => exact Iff.rfl
  | acc imm sz rows => cases h with
    | slice p n c => cases p <;> exact Iff.rfl
    | _ => exact Iff.rfl
  | map es => cases h with
    | map p => cases p <;> exact Iff.rfl
    | _ => exact Iff.rfl
  | dead => exact Iff.rfl
theorem ren_block {ρ : Nat → Nat} {x : AObj} {h : Value} {b : Nat} : (x.ren ρ).block h b ↔ x.block h b := by
  cases x with
  | cells cs => cases h with
    | pointer p => cases p <;> exact Iff.rfl
    | _ => exact Iff.rfl
  | acc imm sz rows => cases h with
    | slice p n c => cases p <;> exact Iff.rfl
    | _ => exact Iff.rfl
  | map es => cases h with
    | map p => cases p <;> exact Iff.rfl
    | _ => exact Iff.rfl
  | dead => exact Iff.rfl
theorem ren_accLen {ρ : Nat → Nat} {x : AObj} : accLen (some (x.ren ρ)) = accLen (some x) := by
  cases x <;> simp [accLen, AObj.ren, renR_length]

theorem muts_of_block {x : AObj} {h : Value} {b : Nat} (hb : x.block h b) : ∃ o, x.muts h b o := by
  cases x with
  | cells cs =>
    cases h with
    | pointer p => cases p with
      | none => exact absurd hb id
      | some a => exact ⟨0, hb⟩
    | _ => exact absurd hb id
  | acc imm sz rows =>
    cases h with
    | slice base n cap => cases base with
      | none => exact absurd hb id
      | some a => exact ⟨a.off + n * sz, hb, fun _ => Nat.le_refl _⟩
    | _ => exact absurd hb id
  | map es =>
    cases h with
    | map r => cases r with
      | none => exact absurd hb id
      | some a => exact ⟨0, hb⟩
    | _ => exact absurd hb id
  | dead => exact absurd hb id

end Go.Abs

/- Regions whose order is open: any order does what the order of the text does, also where two new variables change places. -/
namespace Go.Abs
set_option linter.unusedVariables false

theorem quiet_nw {P : Program} {σ : AState} {op : Op} {e : Eff} (hq : quiet op = true) (h : opEff P σ op = some e) : e.nw = [] := by
  cases op with
  | move x => cases h; rfl
  | assign x => cases h; rfl
  | pick c x y => simp only [opEff] at h; split at h <;> cases h; rfl
  | unOp op t x => simp only [opEff] at h; split at h <;> cases h <;> rfl
  | fieldAddr t x i => simp only [opEff] at h; split at h <;> cases h <;> rfl
  | extract x i =>
    simp only [opEff] at h
    split at h
    · split at h <;> cases h; rfl
    · cases h
  | binOp op t x y u =>
    simp only [opEff] at h
    split at h
    · cases h; rfl
    · unfold aggEff at h
      split at h <;> cases h <;> rfl
  | load t x =>
    simp only [opEff] at h
    split at h
    · split at h
      · split at h
        · unfold ldV at h
          split at h
          · split at h <;> cases h; rfl
          · cases h; rfl
        · cases h
      · cases h
    · split at h <;> cases h; rfl
    · split at h
      · split at h
        · split at h
          · split at h <;> cases h; rfl
          · cases h
        · cases h
      · cases h
    · cases h
  | store t x y =>
    simp only [opEff] at h
    split at h
    · split at h
      · split at h <;> cases h; rfl
      · cases h
    · split at h
      · split at h
        · split at h
          · split at h <;> cases h; rfl
          · cases h
        · cases h
      · cases h
    · cases h
  | field t x i =>
    simp only [opEff] at h
    split at h
    · split at h
      · split at h <;> cases h; rfl
      · cases h
    · cases h
  | index t x i =>
    simp only [opEff] at h
    split at h
    · split at h
      · split at h <;> cases h; rfl
      · cases h
    · cases h
  | indexAddr t x i =>
    simp only [opEff] at h
    split at h
    · split at h
      · split at h
        · split at h <;> cases h; rfl
        · cases h
      · split at h
        · split at h
          · split at h <;> cases h; rfl
          · cases h
        · split at h <;> cases h; rfl
        · cases h
      · cases h
    · split at h
      · split at h
        · split at h <;> cases h; rfl
        · cases h
      · cases h
  | _ => simp [quiet] at hq

mutual
theorem ren_fix {ρ : Nat → Nat} {n : Nat} (hf : ∀ l, l < n → ρ l = l) : ∀ x : AV, x.nb n → x.ren ρ = x
  | .acc l _, h => by rw [AV.ren, hf l h]
  | .own l _ _ _ _, h => by rw [AV.ren, hf l h]
  | .ptr l _, h => by rw [AV.ren, hf l h]
  | .map l, h => by rw [AV.ren, hf l h]
  | .agg cs, h => by rw [AV.ren, renL_fix hf cs h]
  | .tup cs, h => by rw [AV.ren, renL_fix hf cs h]
  | .pp cs, h => by rw [AV.ren, renL_fix hf cs h]
  | .lst _ _ rows, h => by rw [AV.ren, renR_fix hf rows h]
  | .func _ f c, h => by rw [AV.ren, renL_fix hf f h.1, renL_fix hf c h.2]
  | .iface _ x, h => by rw [AV.ren, ren_fix hf x h]
  | .any, _ | .bool _, _ | .int _ _, _ | .str _, _ | .raw _, _ => by rw [AV.ren]
theorem renL_fix {ρ : Nat → Nat} {n : Nat} (hf : ∀ l, l < n → ρ l = l) : ∀ xs : List AV, nbL n xs → renL ρ xs = xs
  | [], _ => rfl
  | x :: xs, h => by rw [renL, ren_fix hf x h.1, renL_fix hf xs h.2]
theorem renR_fix {ρ : Nat → Nat} {n : Nat} (hf : ∀ l, l < n → ρ l = l) : ∀ xs : List (List AV), nbR n xs → renR ρ xs = xs
  | [], _ => rfl
  | x :: xs, h => by rw [renR, renL_fix hf x h.1, renR_fix hf xs h.2]
end
theorem obj_fix {ρ : Nat → Nat} {n : Nat} (hf : ∀ l, l < n → ρ l = l) (x : AObj) (h : objNb n x) : x.ren ρ = x := by
  cases x with
  | cells cs => simp only [AObj.ren, renL_fix hf cs h]
  | acc imm sz rows => simp only [AObj.ren, renR_fix hf rows h]
  | map es =>
    simp only [AObj.ren, AObj.map.injEq]
    have h : ∀ p ∈ es, p.1.nb n ∧ p.2.nb n := h
    induction es with
    | nil => rfl
    | cons p es ih =>
      have hp := h p (by simp)
      rw [List.map_cons, ih (fun q hq => h q (by simp [hq])) (fun q hq => h q (by simp [hq])), ren_fix hf _ hp.1, ren_fix hf _ hp.2]
  | dead => rfl
theorem objNb_le {n m : Nat} (h : n ≤ m) (x : AObj) (hx : objNb n x) : objNb m x := by
  cases x with
  | cells cs => exact nbL_le h _ hx
  | acc imm sz rows => exact nbR_le h _ hx
  | map es => exact fun p hp => ⟨AV.nb_le h _ (hx p hp).1, AV.nb_le h _ (hx p hp).2⟩
  | dead => trivial

def tau (n l : Nat) : Nat := if l = n then n + 1 else if l = n + 1 then n else l
theorem tau_tau (n l : Nat) : tau n (tau n l) = l := by unfold tau; split <;> (try split) <;> (try split) <;> (try split) <;> omega
theorem tau_low {n l : Nat} (h : l < n) : tau n l = l := by unfold tau; split <;> (try split) <;> omega
theorem tau_lt {n l : Nat} (h : l < n + 2) : tau n l < n + 2 := by unfold tau; split <;> (try split) <;> omega

theorem tau_get {α : Type} {H : List α} {x y z : α} {l : Nat} (h : (H ++ [x] ++ [y])[l]? = some z) : (H ++ [y] ++ [x])[tau H.length l]? = some z := by
  have hl : l < H.length + 2 := by have := (List.getElem?_eq_some_iff.1 h).1; simpa using this
  rw [List.append_assoc] at h ⊢
  by_cases h1 : l < H.length
  · rw [tau_low h1, List.getElem?_append_left h1]
    rwa [List.getElem?_append_left h1] at h
  · rw [List.getElem?_append_right (by omega)] at h
    by_cases h2 : l = H.length
    · subst h2
      simp only [Nat.sub_self, List.cons_append, List.getElem?_cons_zero] at h
      simp only [tau, if_true]
      rw [List.getElem?_append_right (by omega)]
      simpa using h
    · have h3 : l = H.length + 1 := by omega
      subst h3
      simp only [show H.length + 1 - H.length = 1 by omega, List.cons_append, List.nil_append, List.getElem?_cons_succ, List.getElem?_cons_zero] at h
      simp only [tau, if_true, Nat.add_eq_left, Nat.one_ne_zero, if_false]
      rw [List.getElem?_append_right (by omega)]
      simpa using h

theorem Sim.swap {C : Ctx} {φ : Nat → Value} {a : Act} {w : World} {s : List AV} {H : List AObj} {x y : AObj} {low : Nat} (hlow : low ≤ H.length) (hH : ∀ z ∈ H, objNb H.length z) (hx : objNb 0 x) (hy : objNb 0 y)
    (S : Sim C φ ⟨s, H ++ [x] ++ [y], low⟩ a w) : Sim C (fun l => φ (tau H.length l)) ⟨renL (tau H.length) s, H ++ [y] ++ [x], low⟩ a w := by
  have hobj : ∀ z ∈ H ++ [x] ++ [y], objNb H.length z := by
    intro z hz
    simp only [List.mem_append, List.mem_singleton] at hz
    rcases hz with (hz | rfl) | rfl
    · exact hH z hz
    · exact objNb_le (Nat.zero_le _) _ hx
    · exact objNb_le (Nat.zero_le _) _ hy
  have back : ∀ (l : Nat) (z : AObj), (H ++ [y] ++ [x])[l]? = some z → (H ++ [x] ++ [y])[tau H.length l]? = some z := fun l z h => tau_get h
  have fwd : ∀ (l : Nat) (z : AObj), (H ++ [x] ++ [y])[l]? = some z → (H ++ [y] ++ [x])[tau H.length l]? = some z := fun l z h => tau_get h
  have hmut : ∀ b o, Mut (fun l => φ (tau H.length l)) (H ++ [y] ++ [x]) b o ↔ Mut φ (H ++ [x] ++ [y]) b o := by
    intro b o
    constructor
    · rintro ⟨l, z, hz, hm⟩
      exact ⟨_, z, back l z hz, hm⟩
    · rintro ⟨l, z, hz, hm⟩
      refine ⟨_, z, fwd l z hz, ?_⟩
      simp only [tau_tau]; exact hm
  have ren : RenLe (H.length + 2) (tau H.length) (C.env φ (H ++ [x] ++ [y]) w) (C.env (fun l => φ (tau H.length l)) (H ++ [y] ++ [x]) w) := by
    refine ⟨fun l hl => ?_, fun l hl => ?_, fun b o u hm hc => ⟨?_, hc⟩⟩
    · simp only [Ctx.env, List.length_append, List.length_singleton]; exact tau_lt hl
    · simp only [Ctx.env, tau_tau, true_and]
      have hl' : l < (H ++ [x] ++ [y]).length := by simpa using hl
      have h1 := List.getElem?_eq_getElem hl'
      rw [h1, fwd l _ h1]
      exact .inl rfl
    · simp only [Ctx.env] at hm ⊢
      rw [hmut]; exact hm
  refine { slots := ?_, defers := S.defers, objs := ?_, apart := ?_, notA := ?_, size := S.size, old := S.old, oldObj := S.oldObj, inM := ?_, froz := S.froz, rest := S.rest, low := ⟨S.low.1, by simp only [List.length_append, List.length_singleton]; omega⟩, names := ?_ }
  · refine RepL.ren ren _ _ ?_ S.slots
    have := RepL.nb _ _ S.slots
    simpa [Ctx.env] using this
  · intro l z hz
    have h1 := back l z hz
    have hm := hobj z (List.mem_of_getElem? h1)
    have := ObjRep.ren ren (objNb_le (by omega) _ hm) (fun _ _ => rfl) (S.objs _ z h1)
    rw [obj_fix (fun l hl => tau_low hl) z hm] at this
    exact this
  · intro l l' z z' b hz hz' hb hb'
    have := S.apart _ _ z z' b (back l z hz) (back l' z' hz') hb hb'
    have h2 := congrArg (tau H.length) this
    simpa only [tau_tau] using h2
  · intro l z b o hz hb
    exact S.notA _ z b o (back l z hz) hb
  · intro l z b o hz hm
    exact S.inM _ z b o (back l z hz) hm
  · intro l hl
    have hN : C.N0 = low := S.low.1
    have hlt : l < H.length := by omega
    have := S.names l hl
    have e1 : (H ++ [y] ++ [x])[l]? = (H ++ [x] ++ [y])[l]? := by
      rw [List.append_assoc, List.append_assoc, List.getElem?_append_left hlt, List.getElem?_append_left hlt]
    simp only [tau_low hlt] at this ⊢
    rw [e1]
    exact this

theorem objNb_of_rep {E : Env} {x : AObj} {h : Value} (r : ObjRep E x h) (hx : ∀ imm sz rows, x = .acc imm sz rows → (∃ base n cap, h = .slice base n cap ∧ cap ≠ 0 ∧ base ≠ none) ∨ rows = []) : objNb E.n x := by
  cases x with
  | cells cs => obtain ⟨_, _, _, _, _, rl, _⟩ := r; exact RepL.nb _ _ rl
  | acc imm sz rows =>
    rcases hx imm sz rows rfl with ⟨base, n, cap, rfl, hc, hb⟩ | rfl
    · obtain ⟨base', cap', h1, h2, h3, h4, h5⟩ := r
      simp only [Value.slice.injEq] at h1
      obtain ⟨rfl, rfl, rfl⟩ := h1
      cases base with
      | none => exact absurd rfl hb
      | some a0 =>
        obtain ⟨_, c, t, _, _, rl, _⟩ := h5 a0 rfl hc
        have hn := RepL.nb _ _ rl
        have key : ∀ rows : List (List AV), nbL E.n rows.flatten → nbR E.n rows := by
          intro rows
          induction rows with
          | nil => intro _; trivial
          | cons q rs ih =>
            intro this
            simp only [List.flatten_cons] at this
            have split : ∀ (p q : List AV), nbL E.n (p ++ q) → nbL E.n p ∧ nbL E.n q := by
              intro p
              induction p with
              | nil => intro q h; exact ⟨trivial, h⟩
              | cons z p ihp => intro q h; exact ⟨⟨h.1, (ihp q h.2).1⟩, (ihp q h.2).2⟩
            exact ⟨(split _ _ this).1, ih (split _ _ this).2⟩
        exact key rows hn
    · trivial
  | map es => obtain ⟨_, _, _, _, _, rp⟩ := r; exact RepPairs.nb rp
  | dead => trivial

theorem objNb_rep {E : Env} {x : AObj} {h : Value} (r : ObjRep E x h) : objNb E.n x := by
  refine objNb_of_rep r ?_
  rintro imm sz rows rfl
  obtain ⟨base, cap, rfl, h2, h3, _⟩ := r
  cases base with
  | none =>
    right
    have := h3 rfl
    exact List.eq_nil_of_length_eq_zero (by omega)
  | some a0 =>
    by_cases hc : cap = 0
    · right; exact List.eq_nil_of_length_eq_zero (by omega)
    · exact .inl ⟨_, _, _, rfl, hc, by simp⟩

theorem tzero_nb {P : Program} {t : TypeId} {z : List AV} (w : World) (h : tzero P t = some z) : nbL 0 z := by
  obtain ⟨v, _, hr, _⟩ := tzero_run (w := w) h
  exact RepL.nb _ _ (hr { w, mu := fun _ _ => False, φ := fun _ => .tuple #[], ln := fun _ => none, n := 0 })
end Go.Abs

/- Regions whose order is open, carried out in any order. -/
namespace Go.Abs
set_option linter.unusedVariables false
section
variable {P : Program} {ops : Array Oper}
theorem plainAlloc_spec {o : Oper} (h : plainAlloc o = true) : ∃ t, o.op = .alloc t ∧ o.guard = none := by
  unfold plainAlloc at h
  simp only [Bool.and_eq_true, Option.isNone_iff_eq_none] at h
  obtain ⟨h1, h2⟩ := h
  cases ho : o.op with
  | alloc t => exact ⟨t, rfl, h2⟩
  | _ => simp [ho] at h1
def newEff (n : Nat) (z : List AV) : Eff := { val := .ptr n 0, nw := [.cells z] }
theorem stepS_alloc {o : Oper} {σ : AState} {t : TypeId} {z : List AV} (ho : o.op = .alloc t) (hg : o.guard = none) (hz : tzero P t = some z) : StepS P ops o σ (fun e => e = newEff σ.heap.length z) := by
  refine .inr (.inl ⟨?_, ?_, newEff σ.heap.length z, ?_, ?_, fun _ => Iff.rfl⟩)
  · unfold wantedA; rw [hg]
  · rw [ho]; rfl
  · rw [ho]; simp only [opEff, hz]; rfl
  · exact trivial
theorem stepS_alloc_inv {o : Oper} {σ : AState} {t : TypeId} {S : Eff → Prop} (ho : o.op = .alloc t) (hg : o.guard = none) (h : StepS P ops o σ S) : ∃ z, tzero P t = some z ∧ ∀ e, S e ↔ e = newEff σ.heap.length z := by
  rcases h with ⟨hw, _⟩ | ⟨_, _, e, he, _, h⟩ | ⟨_, f, args, V, hc, _⟩
  · unfold wantedA at hw; rw [hg] at hw; cases hw
  · rw [ho] at he
    simp only [opEff] at he
    split at he
    · rename_i z hz
      cases he
      exact ⟨z, hz, h⟩
    · cases he
  · rw [ho] at hc; cases hc
theorem twinB_spec {p q : Nat} (h : twinB ops p q = true) : p < q ∧ (∃ op oq tp tq, ops[p]? = some op ∧ ops[q]? = some oq ∧ op.op = .alloc tp ∧ oq.op = .alloc tq ∧ op.guard = none ∧ oq.guard = none ∧ depsOf op = [] ∧ depsOf oq = []) ∧
    ∀ k o, ops[k]? = some o → k ≠ p → k ≠ q → quiet o.op = true ∧ orderedB ops p k = orderedB ops q k := by
  unfold twinB at h
  split at h
  · rename_i op oq hp hq
    simp only [Bool.and_eq_true, decide_eq_true_eq, List.isEmpty_iff] at h
    obtain ⟨⟨⟨⟨⟨h1, h2⟩, h3⟩, h4⟩, h5⟩, h6⟩ := h
    obtain ⟨tp, a1, a2⟩ := plainAlloc_spec h1
    obtain ⟨tq, b1, b2⟩ := plainAlloc_spec h2
    refine ⟨h5, ⟨op, oq, tp, tq, hp, hq, a1, b1, a2, b2, h3, h4⟩, fun k o hk n1 n2 => ?_⟩
    rw [List.all_eq_true] at h6
    have := h6 k (by simpa using (Array.getElem?_eq_some_iff.1 hk).1)
    simp only [hk, Bool.or_eq_true, beq_iff_eq, Bool.and_eq_true] at this
    rcases this with (h | h) | h
    · exact absurd h n1
    · exact absurd h n2
    · exact h
  · cases h
theorem ordB_right {i j : Nat} (h1 : orderedB ops i j = false) (h2 : twinB ops i j = false) : ordB ops i j = false := by
  unfold ordB; rw [h1, h2]; rfl
theorem quiet_not_alloc {op : Op} {t : TypeId} (h : quiet op = true) : op ≠ .alloc t := by
  rintro rfl; cases h
theorem quiet_not_call {op : Op} (h : quiet op = true) : isCall op = false := by
  cases op <;> first | rfl | (simp [quiet] at h)
end

section region
variable {C : Ctx} {ops : Array Oper} {Q : AExit → AState → Prop}

theorem depsReady (o : Oper) (listed : Array Bool) : (o.after.all fun e => !Region.binds .any e || listed.getD e.on false) = true ↔ ∀ d ∈ depsOf o, listed.getD d false = true := by
  rw [Array.all_eq_true_iff_forall_mem]
  constructor
  · intro h d hd
    unfold depsOf at hd
    simp only [List.mem_map, List.mem_filter] at hd
    obtain ⟨e, ⟨he, hb⟩, rfl⟩ := hd
    have := h e (by simpa using he)
    simpa [hb] using this
  · intro h e he
    cases hb : Region.binds .any e with
    | false => simp
    | true =>
      have := h e.on (by unfold depsOf; simp only [List.mem_map, List.mem_filter]; exact ⟨e, ⟨by simpa using he, hb⟩, rfl⟩)
      simpa using this
theorem readyMem (listed : Array Bool) (i : Nat) (hsz : listed.size = ops.size) : i ∈ Region.ready .any ops listed ↔ i < ops.size ∧ listed.getD i false = false ∧ ∃ o, ops[i]? = some o ∧ ∀ d ∈ depsOf o, listed.getD d false = true := by
  unfold Region.ready
  simp only [List.mem_filter, List.mem_range]
  constructor
  · rintro ⟨h1, h2⟩
    rw [Bool.and_eq_true] at h2
    have ho : ops[i]? = some ops[i] := Array.getElem?_eq_getElem h1
    refine ⟨h1, ?_, ops[i], ho, ?_⟩
    · have h3 := h2.1
      have hlt : i < listed.size := by omega
      simp only [Array.getD, hlt, dif_pos] at h3 ⊢
      simpa using h3
    · have h3 := h2.2
      rw [ho] at h3
      simp only [Option.map_some, Option.getD_some] at h3
      exact (depsReady _ _).1 h3
  · rintro ⟨h1, h2, o, ho, h3⟩
    refine ⟨h1, ?_⟩
    rw [Bool.and_eq_true]
    constructor
    · have hlt : i < listed.size := by omega
      simp only [Array.getD, hlt, dif_pos] at h2 ⊢
      simpa using h2
    · rw [ho]
      simp only [Option.map_some, Option.getD_some]
      exact (depsReady _ _).2 h3
theorem order_listed (hok : drawOK ops = true) {listed : Array Bool} (hcl : ∀ j o, ops[j]? = some o → listed.getD j false = true → ∀ d ∈ depsOf o, listed.getD d false = true) {i r : Nat} {oi : Oper} (hoi : ops[i]? = some oi)
    (hdeps : ∀ d ∈ depsOf oi, listed.getD d false = true) (hq : orderedB ops r i = true) : listed.getD r false = true := by
  obtain ⟨_, hspec⟩ := drawOK_spec hok
  exact reachM_spec (L := fun d => listed.getD d false = true) (all := ops.toList) (fun j o hj hL => hcl j o (by simpa using hj) hL) ops.toList [] (by simp) (by simp) (fun k o hk => (hspec k o (by simpa using hk)).1) i oi (by simpa using hoi) hdeps r hq
theorem listed_next {listed : Array Bool} {i : Nat} {oi : Oper} (hoi : ops[i]? = some oi) (hdeps : ∀ d ∈ depsOf oi, listed.getD d false = true) (hcl : ∀ j o, ops[j]? = some o → listed.getD j false = true → ∀ d ∈ depsOf o, listed.getD d false = true) :
    ∀ j o, ops[j]? = some o → (listed.setIfInBounds i true).getD j false = true → ∀ d ∈ depsOf o, (listed.setIfInBounds i true).getD d false = true := by
  intro j o' hj hL d hd
  by_cases e : j = i
  · subst e
    rw [hoi] at hj; cases hj
    exact getD_set_true (hdeps d hd)
  · rw [getD_set_ne false (fun e' => e e'.symm)] at hL
    exact getD_set_true (hcl j o' hj hL d hd)
theorem listed_at {listed : Array Bool} {i : Nat} (h : i < listed.size) : (listed.setIfInBounds i true).getD i false = true := by
  simp [Array.getD, h]

/-- What a normal draw needs to know. -/
structure Front (ops : Array Oper) (R : List Nat) (listed : Array Bool) : Prop where
  pw : R.Pairwise (· < ·)
  sz : listed.size = ops.size
  mem : ∀ i, i ∈ R ↔ i < ops.size ∧ listed.getD i false = false
  cl : ∀ j o, ops[j]? = some o → listed.getD j false = true → ∀ d ∈ depsOf o, listed.getD d false = true

theorem Front.next {R : List Nat} {listed : Array Bool} (F : Front ops R listed) {i : Nat} {oi : Oper} (hoi : ops[i]? = some oi) (hdeps : ∀ d ∈ depsOf oi, listed.getD d false = true) : Front ops (R.erase i) (listed.setIfInBounds i true) := by
  refine ⟨F.pw.erase i, by simpa using F.sz, fun k => ?_, listed_next hoi hdeps F.cl⟩
  have hnd : R.Nodup := F.pw.imp (fun h => Nat.ne_of_lt h)
  have hi : i < listed.size := by have := (Array.getElem?_eq_some_iff.1 hoi).1; rw [F.sz]; exact this
  rw [hnd.mem_erase_iff, F.mem k]
  constructor
  · rintro ⟨hne, h1, h2⟩
    refine ⟨h1, ?_⟩
    rw [getD_set_ne false (fun e => hne e.symm)]; exact h2
  · rintro ⟨h1, h2⟩
    have hne : k ≠ i := by
      intro e
      subst e
      rw [listed_at hi] at h2; cases h2
    refine ⟨hne, h1, ?_⟩
    rw [getD_set_ne false (fun e => hne e.symm)] at h2; exact h2

/-- The second of two new variables was made first: the first one is still to come. -/
theorem draw_pend (hok : drawOK ops = true) {p q : Nat} (htw : twinB ops p q = true) (fuel : Nat)
    (back : ∀ (f : Nat) (R : List Nat) (listed : Array Bool) (φ : Nat → Value) (σ : AState) (a : Act) (w : World), f ≤ fuel → R.length = f → Front ops R listed → (p ∉ R) → Sim C φ σ a w → awpD C.P ops (Q .normal) R [] σ → wpAny C.P .any ops (QC C Q) f listed a w)
    {oq : Oper} {tq : TypeId} {zq : List AV} (hoq : ops[q]? = some oq) (htq : oq.op = .alloc tq) (hgq : oq.guard = none) (hzq : tzero C.P tq = some zq) :
    ∀ (f : Nat) (R : List Nat) (listed : Array Bool) (φ φ0 : Nat → Value) (σ : AState) (a a0 : Act) (w w0 : World), f ≤ fuel → R.length = f + 1 → R.Pairwise (· < ·) → listed.size = ops.size → p ∈ R → q ∈ R → listed.getD q false = true →
    (∀ i, i ∈ R ↔ i < ops.size ∧ (listed.getD i false = false ∨ i = q)) → (∀ j o, ops[j]? = some o → listed.getD j false = true → ∀ d ∈ depsOf o, listed.getD d false = true) →
    Sim C φ (σ.app oq.dst (newEff σ.heap.length zq)) a w → Sim C φ0 σ a0 w0 → awpD C.P ops (Q .normal) R [] σ → wpAny C.P .any ops (QC C Q) f listed a w := by
  obtain ⟨hpq, ⟨op, oq', tp, tq', hop, hoq', htp, htq', hgp, hgq', hdp, hdq⟩, hoth⟩ := twinB_spec htw
  rw [hoq] at hoq'; cases hoq'
  obtain ⟨_, hspec⟩ := drawOK_spec hok
  intro f
  induction f with
  | zero =>
    intro R listed φ φ0 σ a a0 w w0 hf hlen hpw hsz hpR hqR hlq hR hcl S S0 h
    exfalso
    match R, hlen with
    | [x], _ =>
      simp only [List.mem_singleton] at hpR hqR
      omega
  | succ f ih =>
    intro R listed φ φ0 σ a a0 w w0 hf hlen hpw hsz hpR hqR hlq hR hcl S S0 h
    have hnd : R.Nodup := hpw.imp (fun h => Nat.ne_of_lt h)
    have hpl : listed.getD p false = false := by
      rcases ((hR p).1 hpR).2 with h | h
      · exact h
      · omega
    have hps : p < ops.size := ((hR p).1 hpR).1
    refine ⟨?_, ?_⟩
    · intro hempty
      exfalso
      have : p ∈ Region.ready .any ops listed := (readyMem listed p hsz).2 ⟨hps, hpl, op, hop, by rw [hdp]; intro d hd; cases hd⟩
      rw [hempty] at this; cases this
    · intro i hi
      rw [readyMem listed i hsz] at hi
      obtain ⟨hi1, hi2, oi, hoi, hdeps⟩ := hi
      have hiq : i ≠ q := by rintro rfl; rw [hlq] at hi2; cases hi2
      have hiR : i ∈ R := (hR i).2 ⟨hi1, .inl hi2⟩
      have hnoO : ∀ r ∈ R, orderedB ops r i = false := by
        intro r hr
        cases hq' : orderedB ops r i with
        | false => rfl
        | true =>
          exfalso
          have hl := order_listed hok hcl hoi hdeps hq'
          rcases ((hR r).1 hr).2 with h | h
          · rw [hl] at h; cases h
          · subst h
            by_cases e : i = p
            · subst e
              rw [hop] at hoi; cases hoi
              have := order_listed hok (listed := Array.replicate ops.size false) (by intro j o _ hj; rw [getD_replicate_false'] at hj; cases hj) hop (by rw [hdp]; intro d hd; cases hd) hq'
              rw [getD_replicate_false'] at this; cases this
            · have := (hoth i oi hoi e hiq).2
              rw [hq'] at this
              have hl := order_listed hok hcl hoi hdeps this
              rw [hpl] at hl; cases hl
      by_cases eip : i = p
      · -- the first one at last
        subst eip
        rw [hop] at hoi; cases hoi
        have hno : ∀ r ∈ R, r < i → ordB ops r i = false := by
          intro r hr hlt
          refine ordB_right (hnoO r hr) ?_
          cases ht : twinB ops r i with
          | false => rfl
          | true =>
            exfalso
            obtain ⟨_, ⟨o1, _, t1, _, ho1, _, ht1, _⟩, _⟩ := twinB_spec ht
            exact quiet_not_alloc (hoth r o1 ho1 (by omega) (by omega)).1 ht1
        obtain ⟨o1, E1, ho1, hst1, hE1⟩ := pull hok h hiR hpw hno
        rw [hop] at ho1; cases ho1
        obtain ⟨zp, hzp, hd1⟩ := stepS_alloc_inv htp hgp hst1
        obtain ⟨_, h1⟩ := hE1 _ ((hd1 _).2 rfl)
        have hqR' : q ∈ R.erase i := (hnd.mem_erase_iff).2 ⟨by omega, hqR⟩
        obtain ⟨o2, E2, ho2, hst2, hE2⟩ := pull hok h1 hqR' (hpw.erase i) (by
          intro r hr hlt
          have hr' := List.mem_of_mem_erase hr
          have hri : r ≠ i := fun e => by subst e; exact (hnd.not_mem_erase) hr
          refine ordB_right ?_ ?_
          · cases ho' : orderedB ops r q with
            | false => rfl
            | true =>
              exfalso
              have := order_listed hok (listed := Array.replicate ops.size false) (by intro j o _ hj; rw [getD_replicate_false'] at hj; cases hj) hoq (by rw [hdq]; intro d hd; cases hd) ho'
              rw [getD_replicate_false'] at this; cases this
          · cases ht : twinB ops r q with
            | false => rfl
            | true =>
              exfalso
              obtain ⟨_, ⟨o1, _, t1, _, ho1, _, ht1, _⟩, _⟩ := twinB_spec ht
              exact quiet_not_alloc (hoth r o1 ho1 hri (by omega)).1 ht1)
        rw [hoq] at ho2; cases ho2
        obtain ⟨zq', hzq', hd2⟩ := stepS_alloc_inv htq hgq hst2
        rw [hzq] at hzq'; cases hzq'
        obtain ⟨_, h2⟩ := hE2 _ ((hd2 _).2 rfl)
        refine step_sound S hop (stepS_alloc htp hgp hzp) ?_
        rintro e φ' v w' rfl S'
        have hoQ : orderedB ops i q = false := by
          cases ho' : orderedB ops i q with
          | false => rfl
          | true =>
            exfalso
            have := order_listed hok (listed := Array.replicate ops.size false) (by intro j o _ hj; rw [getD_replicate_false'] at hj; cases hj) hoq (by rw [hdq]; intro d hd; cases hd) ho'
            rw [getD_replicate_false'] at this; cases this
        obtain ⟨hapart, _⟩ := (hspec q oq hoq).2 i op hpq hop hoQ
        obtain ⟨_, ap2, _⟩ := Oper.apart_spec hapart
        have hsl : nbL σ.heap.length σ.slots := RepL.nb _ _ S0.slots
        have hob : ∀ z ∈ σ.heap, objNb σ.heap.length z := by
          intro z hz
          obtain ⟨l, hl⟩ := List.getElem?_of_mem hz
          exact objNb_rep (S0.objs l z hl)
        have S2 := Sim.swap (s := ((σ.app oq.dst (newEff σ.heap.length zq)).app op.dst (newEff (σ.app oq.dst (newEff σ.heap.length zq)).heap.length zp)).slots) (H := σ.heap) (x := .cells zq) (y := .cells zp) (low := σ.low) S0.low.2 hob (tzero_nb w0 hzq) (tzero_nb w0 hzp) (by
          have e : (σ.app oq.dst (newEff σ.heap.length zq)).app op.dst (newEff (σ.app oq.dst (newEff σ.heap.length zq)).heap.length zp) = ⟨((σ.app oq.dst (newEff σ.heap.length zq)).app op.dst (newEff (σ.app oq.dst (newEff σ.heap.length zq)).heap.length zp)).slots, σ.heap ++ [.cells zq] ++ [.cells zp], σ.low⟩ := by
            cases oq.dst <;> cases op.dst <;> simp [AState.app, AState.put, newEff, applyUps]
          rw [← e]; exact S')
        have e2 : (⟨renL (tau σ.heap.length) ((σ.app oq.dst (newEff σ.heap.length zq)).app op.dst (newEff (σ.app oq.dst (newEff σ.heap.length zq)).heap.length zp)).slots, σ.heap ++ [.cells zp] ++ [.cells zq], σ.low⟩ : AState)
            = (σ.app op.dst (newEff σ.heap.length zp)).app oq.dst (newEff (σ.app op.dst (newEff σ.heap.length zp)).heap.length zq) := by
          have hren := renL_fix (ρ := tau σ.heap.length) (fun l hl => tau_low hl) σ.slots hsl
          have hset : ∀ (d : Nat) (c : AV) (cs : List AV), renL (tau σ.heap.length) (cs.set d c) = (renL (tau σ.heap.length) cs).set d (c.ren (tau σ.heap.length)) := by
            intro d c cs
            induction cs generalizing d with
            | nil => simp [renL]
            | cons x cs ih => cases d with
              | zero => simp [renL]
              | succ d => simp [renL, ih]
          have hlen1 : (σ.app oq.dst (newEff σ.heap.length zq)).heap.length = σ.heap.length + 1 := by simp [AState.app, newEff, applyUps]
          have hlen2 : (σ.app op.dst (newEff σ.heap.length zp)).heap.length = σ.heap.length + 1 := by simp [AState.app, newEff, applyUps]
          have t0 : tau σ.heap.length σ.heap.length = σ.heap.length + 1 := by simp [tau]
          have t1 : tau σ.heap.length (σ.heap.length + 1) = σ.heap.length := by simp [tau]
          rw [hlen1, hlen2]
          cases h1 : oq.dst with
          | none => cases h2 : op.dst with
            | none => simp [AState.app, AState.put, newEff, applyUps, hren]
            | some dp => simp [AState.app, AState.put, newEff, applyUps, hren, hset, AV.ren, t0, t1]
          | some dq => cases h2 : op.dst with
            | none => simp [AState.app, AState.put, newEff, applyUps, hren, hset, AV.ren, t0, t1]
            | some dp =>
              have hne : dp ≠ dq := fun e => ap2 dp h2 (by rw [h1, e])
              simp only [AState.app, AState.put, newEff, applyUps, hren, hset, AV.ren, t0, t1, List.nil_append, List.append_nil]
              rw [List.set_comm _ _ hne]
        rw [e2] at S2
        have hF : Front ops ((R.erase i).erase q) (listed.setIfInBounds i true) := by
          refine ⟨(hpw.erase i).erase q, by simpa using hsz, fun k => ?_, listed_next hop hdeps hcl⟩
          have hnd' : (R.erase i).Nodup := hnd.erase i
          rw [hnd'.mem_erase_iff, hnd.mem_erase_iff, hR k]
          constructor
          · rintro ⟨hne, hne2, h1, h2⟩
            refine ⟨h1, ?_⟩
            rw [getD_set_ne false (fun e => hne2 e.symm)]
            rcases h2 with h2 | h2
            · exact h2
            · exact absurd h2 hne
          · rintro ⟨h1, h2⟩
            have hne : k ≠ i := by
              intro e
              subst e
              rw [listed_at (by rw [hsz]; exact hi1)] at h2; cases h2
            rw [getD_set_ne false (fun e => hne e.symm)] at h2
            refine ⟨?_, hne, h1, .inl h2⟩
            intro ekq
            rw [ekq, hlq] at h2; cases h2
        refine back f _ _ _ _ _ w' (by omega) ?_ hF ?_ S2 (awpD_sub (by simp) h2)
        · rw [List.length_erase_of_mem hqR', List.length_erase_of_mem hiR]; omega
        · intro hm
          exact (hnd.not_mem_erase) (List.mem_of_mem_erase hm)
      · -- another one
        obtain ⟨hqi, _⟩ := hoth i oi hoi eip hiq
        have hno : ∀ r ∈ R, r < i → ordB ops r i = false := by
          intro r hr hlt
          refine ordB_right (hnoO r hr) ?_
          cases ht : twinB ops r i with
          | false => rfl
          | true =>
            exfalso
            obtain ⟨_, ⟨_, o1, _, t1, _, ho1, _, ht1, _⟩, _⟩ := twinB_spec ht
            rw [hoi] at ho1; cases ho1
            exact quiet_not_alloc hqi ht1
        obtain ⟨o1, E1, ho1, hst1, hE1⟩ := pull hok h hiR hpw hno
        rw [hoi] at ho1; cases ho1
        have hnw : ∀ e, E1 e → e.nw = [] := by
          intro e he
          rcases hst1 with ⟨_, h⟩ | ⟨_, _, e', he', _, h⟩ | ⟨_, f', args, V, hc, _, _, _⟩
          · rw [(h e).1 he]
          · rw [(h e).1 he]; exact quiet_nw hqi he'
          · exfalso
            have := quiet_not_call hqi
            unfold calleeOf at hc
            split at hc
            · rename_i ho'; rw [ho'] at this; simp [isCall] at this
            · cases hc
        have hap : (∀ d, oq.dst = some d → d ∉ oi.looksAt ops) ∧ (∀ d, oi.dst = some d → oq.dst ≠ some d) := by
          rcases Nat.lt_or_gt_of_ne hiq with hlt | hgt
          · have ho' : orderedB ops i q = false := by
              cases ho' : orderedB ops i q with
              | false => rfl
              | true =>
                exfalso
                have := order_listed hok (listed := Array.replicate ops.size false) (by intro j o _ hj; rw [getD_replicate_false'] at hj; cases hj) hoq (by rw [hdq]; intro d hd; cases hd) ho'
                rw [getD_replicate_false'] at this; cases this
            obtain ⟨hap, _⟩ := (hspec q oq hoq).2 i oi hlt hoi ho'
            obtain ⟨x1, x2, x3⟩ := Oper.apart_spec hap
            exact ⟨x3, x2⟩
          · obtain ⟨hap, _⟩ := (hspec i oi hoi).2 q oq hgt hoq (hnoO q hqR)
            obtain ⟨x1, x2, x3⟩ := Oper.apart_spec hap
            exact ⟨x1, fun d hd hd' => x2 d hd' hd⟩
        have hind : ∀ e, E1 e → indepB ⟨i, σ.heap.length, e⟩ (newEff σ.heap.length zq) = true := by
          intro e he
          simp [indepB, newEff, disjointB, hnw e he]
        have hfw : StepS C.P ops oi (σ.app oq.dst (newEff σ.heap.length zq)) E1 := hst1.fwd (j := i) hap.1 hind
        refine step_sound S hoi hfw ?_
        intro e φ' v w' he S'
        obtain ⟨_, hrest⟩ := hE1 e he
        have hcomm := app_comm (d := oi.dst) (d' := oq.dst) (j := i) hap.2 (hind e he) (hst1.lt he).2 (by simp [newEff])
        have hle : (σ.app oi.dst e).heap.length = σ.heap.length := by simp [AState.app, hnw e he, applyUps_length]
        rw [← hcomm] at S'
        have hg : ∃ φ1 a1 w1, Sim C φ1 (σ.app oi.dst e) a1 w1 := by
          rcases hst1 with ⟨_, h⟩ | ⟨_, _, e', he', hp, h⟩ | ⟨_, f', args, V, hc, _, _, _⟩
          · rw [(h e).1 he, app_val]
            exact ⟨φ0, _, w0, S0.put oi.dst (v := undef) rfl⟩
          · rw [(h e).1 he]
            obtain ⟨_, v1, w1, φ1, _, _, S1⟩ := opEff_sound S0 he' hp
            exact ⟨φ1, _, w1, S1⟩
          · exfalso
            have := quiet_not_call hqi
            unfold calleeOf at hc
            split at hc
            · rename_i ho'; rw [ho'] at this; simp [isCall] at this
            · cases hc
        obtain ⟨φ1, a1, w1, S1⟩ := hg
        rw [← hle] at S'
        refine ih (R.erase i) _ φ' φ1 (σ.app oi.dst e) _ a1 w' w1 (by omega) ?_ (hpw.erase i) (by simpa using hsz) ((hnd.mem_erase_iff).2 ⟨fun e' => eip e'.symm, hpR⟩) ((hnd.mem_erase_iff).2 ⟨fun e' => hiq e'.symm, hqR⟩) ?_ ?_ (listed_next hoi hdeps hcl) S' S1 hrest
        · rw [List.length_erase_of_mem hiR]; omega
        · exact getD_set_true hlq
        · intro k
          rw [hnd.mem_erase_iff, hR k]
          constructor
          · rintro ⟨hne, h1, h2⟩
            refine ⟨h1, ?_⟩
            rw [getD_set_ne false (fun e => hne e.symm)]; exact h2
          · rintro ⟨h1, h2⟩
            have hne : k ≠ i := by
              intro e'
              subst e'
              rcases h2 with h2 | h2
              · rw [listed_at (by rw [hsz]; exact hi1)] at h2; cases h2
              · exact hiq h2
            refine ⟨hne, h1, ?_⟩
            rw [getD_set_ne false (fun e => hne e.symm)] at h2; exact h2

theorem draw_any (hok : drawOK ops = true) : ∀ (fuel : Nat) (R : List Nat) (listed : Array Bool) (φ : Nat → Value) (σ : AState) (a : Act) (w : World), R.length = fuel → Front ops R listed →
    Sim C φ σ a w → awpD C.P ops (Q .normal) R [] σ → wpAny C.P .any ops (QC C Q) fuel listed a w := by
  obtain ⟨_, hspec⟩ := drawOK_spec hok
  intro fuel
  induction fuel using Nat.strongRecOn with
  | ind fuel ih =>
    intro R listed φ σ a w hl F S h
    have hpw := F.pw
    have hsz := F.sz
    have hR := F.mem
    have hnd : R.Nodup := hpw.imp (fun h => Nat.ne_of_lt h)
    cases fuel with
    | zero =>
      have hR0 : R = [] := List.eq_nil_of_length_eq_zero hl
      subst hR0
      refine ⟨?_, φ, σ, S, h⟩
      rw [List.eq_nil_iff_forall_not_mem]
      intro i hi
      rw [readyMem listed i hsz] at hi
      have := (hR i).2 ⟨hi.1, hi.2.1⟩
      simp at this
    | succ fuel =>
      refine ⟨?_, ?_⟩
      · intro hempty
        exfalso
        cases R with
        | nil => simp at hl
        | cons r R =>
          have hr := (hR r).1 (by simp)
          have ho : ops[r]? = some ops[r] := Array.getElem?_eq_getElem hr.1
          have : r ∈ Region.ready .any ops listed := by
            rw [readyMem listed r hsz]
            refine ⟨hr.1, hr.2, _, ho, fun d hd => ?_⟩
            have hdr := (hspec r _ ho).1 d hd
            cases hld : listed.getD d false with
            | true => rfl
            | false =>
              have hdR := (hR d).2 ⟨by omega, hld⟩
              rw [List.pairwise_cons] at hpw
              simp only [List.mem_cons] at hdR
              rcases hdR with rfl | hdR
              · omega
              · have := hpw.1 d hdR; omega
          rw [hempty] at this
          simp at this
      · intro i hi
        rw [readyMem listed i hsz] at hi
        obtain ⟨hi1, hi2, oi, hoi, hdeps⟩ := hi
        have hiR := (hR i).2 ⟨hi1, hi2⟩
        have hnoO : ∀ r ∈ R, orderedB ops r i = false := by
          intro r hr
          cases hq : orderedB ops r i with
          | false => rfl
          | true =>
            exfalso
            have := order_listed hok F.cl hoi hdeps hq
            have hr' := ((hR r).1 hr).2
            rw [hr'] at this; cases this
        by_cases htw : ∃ p ∈ R, twinB ops p i = true
        · obtain ⟨p, hpR, htw⟩ := htw
          obtain ⟨hpi, ⟨op, oq, tp, tq, hop, hoq, htp, htq, hgp, hgq, hdp, hdq⟩, hoth⟩ := twinB_spec htw
          rw [hoi] at hoq; cases hoq
          have hpl := ((hR p).1 hpR).2
          -- both can be made: the first one first
          obtain ⟨o1, E1, ho1, hst1, hE1⟩ := pull hok h hpR hpw (by
            intro r hr hlt
            refine ordB_right ?_ ?_
            · cases ho' : orderedB ops r p with
              | false => rfl
              | true =>
                exfalso
                have := order_listed hok (listed := Array.replicate ops.size false) (by intro j o _ hj; rw [getD_replicate_false'] at hj; cases hj) hop (by rw [hdp]; intro d hd; cases hd) ho'
                rw [getD_replicate_false'] at this; cases this
            · cases ht : twinB ops r p with
              | false => rfl
              | true =>
                exfalso
                obtain ⟨_, ⟨o1, _, t1, _, ho1, _, ht1, _⟩, _⟩ := twinB_spec ht
                exact quiet_not_alloc (hoth r o1 ho1 (by omega) (by omega)).1 ht1)
          rw [hop] at ho1; cases ho1
          obtain ⟨zp, hzp, hd1⟩ := stepS_alloc_inv htp hgp hst1
          obtain ⟨_, h1⟩ := hE1 _ ((hd1 _).2 rfl)
          have hqR' : i ∈ R.erase p := (hnd.mem_erase_iff).2 ⟨by omega, hiR⟩
          obtain ⟨o2, E2, ho2, hst2, hE2⟩ := pull hok h1 hqR' (hpw.erase p) (by
            intro r hr hlt
            have hr' := List.mem_of_mem_erase hr
            have hrp : r ≠ p := fun e => by subst e; exact (hnd.not_mem_erase) hr
            refine ordB_right (hnoO r hr') ?_
            cases ht : twinB ops r i with
            | false => rfl
            | true =>
              exfalso
              obtain ⟨_, ⟨o1, _, t1, _, ho1, _, ht1, _⟩, _⟩ := twinB_spec ht
              exact quiet_not_alloc (hoth r o1 ho1 hrp (by omega)).1 ht1)
          rw [hoi] at ho2; cases ho2
          obtain ⟨zq, hzq, _⟩ := stepS_alloc_inv htq hgq hst2
          refine step_sound S hoi (stepS_alloc htq hgq hzq) ?_
          rintro e φ' v w' rfl S'
          refine draw_pend hok htw fuel (fun f R' listed' φ' σ' a' w' hf hl' F' _ S' h' => ih f (by omega) R' listed' φ' σ' a' w' hl' F' S' h') hoi htq hgq hzq fuel R _ φ' φ σ _ a w' w (Nat.le_refl _) hl hpw (by simpa using hsz) hpR hiR (listed_at (by rw [hsz]; exact hi1)) ?_ (listed_next hoi hdeps F.cl) S' S h
          intro k
          rw [hR k]
          by_cases hk : k = i
          · subst hk
            constructor
            · rintro ⟨h1, _⟩; exact ⟨h1, .inr rfl⟩
            · rintro ⟨h1, _⟩; exact ⟨h1, hi2⟩
          · rw [getD_set_ne false (fun e => hk e.symm)]
            constructor
            · rintro ⟨h1, h2⟩; exact ⟨h1, .inl h2⟩
            · rintro ⟨h1, h2 | h2⟩
              · exact ⟨h1, h2⟩
              · exact absurd h2 hk
        · have hno : ∀ r ∈ R, r < i → ordB ops r i = false := by
            intro r hr _
            refine ordB_right (hnoO r hr) ?_
            cases ht : twinB ops r i with
            | false => rfl
            | true => exact absurd ⟨r, hr, ht⟩ htw
          obtain ⟨o, E, ho, hst, hE⟩ := pull hok h hiR hpw hno
          refine step_sound S ho hst ?_
          intro e φ' v w' he S'
          obtain ⟨_, hrest⟩ := hE e he
          refine ih fuel (by omega) (R.erase i) _ φ' _ _ w' ?_ (F.next hoi hdeps) S' hrest
          rw [List.length_erase_of_mem hiR]; omega

theorem awpD_sound {φ : Nat → Value} {σ : AState} {a : Act} {w : World} {id : Nat} (hm : C.P.follows .mixedOrders = true) (hok : drawOK ops = true) (h : awpD C.P ops (Q .normal) (List.range ops.size) [] σ) (S : Sim C φ σ a w) :
    (Code.region id ops true).wp C.P (QC C Q) a w := by
  refine wp_region_any hm ?_
  refine draw_any hok ops.size (List.range ops.size) _ φ σ a _ (by simp) ⟨List.pairwise_lt_range, by simp, ?_, ?_⟩ (S.drew _) h
  · intro i
    simp only [List.mem_range]
    constructor
    · intro hi; exact ⟨hi, getD_replicate_false' _ _⟩
    · exact fun h => h.1
  · intro j o hj hL
    rw [getD_replicate_false'] at hL; cases hL
end region
end Go.Abs

/- Weakest preconditions over abstract states: whole bodies, and contracts out of them. -/
namespace Go.Abs

def AExit.then (next : AState → Prop) (Q : AExit → AState → Prop) : AExit → AState → Prop
  | .normal, σ => next σ
  | e, σ => Q e σ

def AExit.inBlock (id : Nat) (Q : AExit → AState → Prop) : AExit → AState → Prop
  | .exit id', σ => if id' = id then Q .normal σ else Q (.exit id') σ
  | e, σ => Q e σ

def AExit.noGoto (Q : AExit → AState → Prop) : AExit → AState → Prop
  | .goto _, _ => False
  | e, σ => Q e σ

def Eff.idle (e : Eff) : Bool := e.rd.isEmpty && e.up.isEmpty && e.nw.isEmpty

def pushTr (tr : List Tr) (j n : Nat) (e : Eff) : List Tr := bif e.idle then tr else tr ++ [⟨j, n, e⟩]

def compatC (ops : Array Oper) (tr : List Tr) (j : Nat) (e : Eff) : Prop := e.idle = true ∨ compatB ops tr j e = true

/-- A region whose order is open, in the order of the text. -/
def awpDc (P : Program) (ops : Array Oper) (K : AState → Prop) : List Oper → Nat → List Tr → AState → Prop
  | [], _, _, σ => K σ
  | o :: rest, j, tr, σ => match wantedA ops o σ with
    | none => False
    | some b => (b = true → match calleeOf σ o.op with
        | some (f, args) => ∃ V, FnC P f args V ∧ (∃ r, V r) ∧ ∀ r, V r → awpDc P ops K rest (j + 1) tr (σ.put o.dst r)
        | none => match opEff P σ o.op with
          | some e => e.pre ∧ compatC ops tr j e ∧ awpDc P ops K rest (j + 1) (pushTr tr j σ.heap.length e) (σ.app o.dst e)
          | none => False) ∧
      (b = false → awpDc P ops K rest (j + 1) tr (σ.put o.dst (.raw undef)))

def awp (P : Program) : Code → (AExit → AState → Prop) → AState → Prop
  | .skip, Q, σ => Q .normal σ
  | .region _ ops false, Q, σ => awpOps P ops ops.toList Q σ
  | .region _ ops true, Q, σ => (P.follows .mixedOrders = true ∧ drawOK ops = true) ∧ awpDc P ops (Q .normal) ops.toList 0 [] σ
  | .seq x y, Q, σ => awp P x (AExit.then (fun σ1 => ∃ σ2, Imp σ1 σ2 ∧ awp P y Q σ2) Q) σ
  | .cond c x y, Q, σ => match σ.ev c with
    | .bool b => (b = true → awp P x Q σ) ∧ (b = false → awp P y Q σ)
    | _ => False
  | .block id x, Q, σ => awp P x (AExit.inBlock id Q) σ
  | .loop x, Q, σ => ∃ (I : Nat → AState → Prop) (n : Nat) (σ' : AState), Imp σ σ' ∧ I n σ' ∧
      ∀ n σ, I n σ → awp P x (AExit.then (fun σ1 => ∃ n' σ', n' < n ∧ Imp σ1 σ' ∧ I n' σ') Q) σ
  | .exit id, Q, σ => Q (.exit id) σ
  | .scope x, Q, σ => awp P x (AExit.noGoto Q) σ
  | .label _, Q, σ => Q .normal σ
  | .ret, Q, σ => Q .ret σ
  | .goto _, _, _ => False
  | .rangeFunc _ _ _ _, _, _ => False
  | .refuse _, _, _ => False

theorem indepB_idle_right {t : Tr} {e : Eff} (h : e.idle = true) : indepB t e = true := by
  unfold Eff.idle at h
  simp only [Bool.and_eq_true, List.isEmpty_iff] at h
  obtain ⟨⟨h1, h2⟩, h3⟩ := h
  unfold indepB disjointB
  simp [h1, h2, h3]

theorem indepB_idle_left {t : Tr} {e : Eff} (h : t.e.idle = true) : indepB t e = true := by
  unfold Eff.idle at h
  simp only [Bool.and_eq_true, List.isEmpty_iff] at h
  obtain ⟨⟨h1, h2⟩, h3⟩ := h
  unfold indepB disjointB
  simp [h1, h2, h3]

theorem awpD_of_awpDc {P : Program} {ops : Array Oper} {K : AState → Prop} : ∀ (rest : List Oper) (j : Nat) (tr tr' : List Tr) (σ : AState), ops.toList.drop j = rest → (∀ t ∈ tr', t ∈ tr ∨ t.e.idle = true) →
    awpDc P ops K rest j tr σ → awpD P ops K (List.range' j rest.length) tr' σ
  | [], _, _, _, _, _, _, h => h
  | o :: rest, j, tr, tr', σ, hd, htr, h => by
    have ho : ops[j]? = some o := by
      have := congrArg (fun l : List Oper => l[0]?) hd
      simpa using this
    have hrest : ops.toList.drop (j + 1) = rest := by
      have := congrArg List.tail hd
      simpa [List.tail_drop] using this
    have hcompat : ∀ e, compatC ops tr j e → compatB ops tr' j e = true := by
      intro e he
      unfold compatB
      rw [List.all_eq_true]
      intro t ht
      rcases he with he | he
      · rw [indepB_idle_right he]; rfl
      · rcases htr t ht with h1 | h1
        · unfold compatB at he
          rw [List.all_eq_true] at he
          exact he t h1
        · rw [indepB_idle_left h1]; rfl
    have hpush : ∀ n e, ∀ t ∈ tr' ++ [⟨j, n, e⟩], t ∈ pushTr tr j n e ∨ t.e.idle = true := by
      intro n e t ht
      unfold pushTr
      rcases List.mem_append.1 ht with ht | ht
      · rcases htr t ht with h1 | h1
        · left
          cases e.idle
          · exact List.mem_append.2 (.inl h1)
          · exact h1
        · exact .inr h1
      · simp only [List.mem_singleton] at ht
        subst ht
        cases hi : e.idle
        · left; simp
        · right; rfl
    have hidle : ∀ x : AV, ({ val := x } : Eff).idle = true := fun _ => rfl
    have hpush' : ∀ n x, ∀ t ∈ tr' ++ [⟨j, n, { val := x }⟩], t ∈ tr ∨ t.e.idle = true := by
      intro n x t ht
      have := hpush n { val := x } t ht
      simpa [pushTr, hidle] using this
    simp only [awpDc] at h
    simp only [List.length_cons, List.range'_succ]
    split at h
    · exact h.elim
    · rename_i b hb
      cases b with
      | false =>
        refine ⟨o, fun e => e = { val := .raw undef }, ho, .inl ⟨hb, fun _ => Iff.rfl⟩, fun e he => ?_⟩
        subst he
        refine ⟨hcompat _ (.inl rfl), ?_⟩
        rw [app_val]
        exact awpD_of_awpDc rest (j + 1) tr _ _ hrest (hpush' _ _) (h.2 rfl)
      | true =>
        have h := h.1 rfl
        split at h
        · rename_i f args hc
          obtain ⟨V, hf, hne, hK⟩ := h
          refine ⟨o, fun e => ∃ r, V r ∧ e = { val := r }, ho, .inr (.inr ⟨hb, f, args, V, hc, hf, hne, fun _ => Iff.rfl⟩), ?_⟩
          rintro e ⟨r, hr, rfl⟩
          refine ⟨hcompat _ (.inl rfl), ?_⟩
          rw [app_val]
          exact awpD_of_awpDc rest (j + 1) tr _ _ hrest (hpush' _ _) (hK r hr)
        · rename_i hc
          split at h
          · rename_i e he
            refine ⟨o, fun e' => e' = e, ho, .inr (.inl ⟨hb, hc, e, he, h.1, fun _ => Iff.rfl⟩), ?_⟩
            rintro e' rfl
            exact ⟨hcompat _ h.2.1, awpD_of_awpDc rest (j + 1) _ _ _ hrest (hpush _ _) h.2.2⟩
          · exact h.elim

section sound
variable {C : Ctx}

theorem QC_then {Q : AExit → AState → Prop} {next : AState → Prop} {nextC : Act → World → Prop} (h : ∀ φ σ a w, Sim C φ σ a w → next σ → nextC a w) {e : Exit} {a : Act} {w : World}
    (hq : QC C (AExit.then next Q) e a w) : Exit.then nextC (QC C Q) e a w := by
  cases e with
  | normal => obtain ⟨φ, σ, S, hn⟩ := hq; exact h φ σ a w S hn
  | exit id => exact hq
  | goto l => exact hq
  | ret => exact hq
  | panic chain => exact hq
  | outgrown => exact hq

theorem QC_inBlock {Q : AExit → AState → Prop} {id : Nat} {e : Exit} {a : Act} {w : World} (hq : QC C (AExit.inBlock id Q) e a w) : Exit.inBlock id (QC C Q) e a w := by
  cases e with
  | exit id' =>
    obtain ⟨φ, σ, S, h⟩ := hq
    simp only [AExit.inBlock] at h
    simp only [Exit.inBlock]
    split at h
    · rename_i e; rw [if_pos e]; exact ⟨φ, σ, S, h⟩
    · rename_i e; rw [if_neg e]; exact ⟨φ, σ, S, h⟩
  | normal => exact hq
  | goto l => exact hq
  | ret => exact hq
  | panic chain => exact hq
  | outgrown => exact hq

theorem QC_noGoto {Q : AExit → AState → Prop} {e : Exit} {a : Act} {w : World} (hq : QC C (AExit.noGoto Q) e a w) : Exit.noGoto (QC C Q) e a w := by
  cases e with
  | goto l => obtain ⟨φ, σ, S, h⟩ := hq; exact h.elim
  | normal => exact hq
  | exit id => exact hq
  | ret => exact hq
  | panic chain => exact hq
  | outgrown => exact hq

theorem awp_sound : ∀ (c : Code) (Q : AExit → AState → Prop) (φ : Nat → Value) (σ : AState) (a : Act) (w : World), awp C.P c Q σ → Sim C φ σ a w → c.wp C.P (QC C Q) a w
  | .skip, Q, φ, σ, a, w, h, S => wp_skip ⟨φ, σ, S, h⟩
  | .region id ops false, Q, φ, σ, a, w, h, S => by
    have := awpOps_sound rfl ops.toList 0 (by simp) φ σ a w h S
    refine wp_region ?_
    rw [List.range_eq_range']
    simpa using this
  | .region id ops true, Q, φ, σ, a, w, h, S => by
    obtain ⟨⟨hm, hok⟩, h⟩ := h
    have := awpD_of_awpDc ops.toList 0 [] [] σ (by simp) (by simp) h
    refine awpD_sound hm hok ?_ S
    rw [List.range_eq_range']
    simpa using this
  | .seq x y, Q, φ, σ, a, w, h, S =>
    wp_seq (wp_mono (awp_sound x _ φ σ a w h S) fun _ _ _ hq => QC_then (fun φ' σ' a' w' S' h' => by
      obtain ⟨σ2, himp, h2⟩ := h'
      obtain ⟨φ2, S2⟩ := himp C φ' a' w' S'
      exact awp_sound y Q φ2 σ2 a' w' h2 S2) hq)
  | .cond c x y, Q, φ, σ, a, w, h, S => by
    simp only [awp] at h
    have hc := S.ev c
    split at h
    · rename_i b hb
      rw [hb] at hc
      simp only [Rep] at hc
      refine wp_cond hc ?_
      cases b with
      | true => exact awp_sound x Q φ σ a w (h.1 rfl) S
      | false => exact awp_sound y Q φ σ a w (h.2 rfl) S
    · exact h.elim
  | .block id x, Q, φ, σ, a, w, h, S => wp_block (wp_mono (awp_sound x _ φ σ a w h S) fun _ _ _ hq => QC_inBlock hq)
  | .loop x, Q, φ, σ, a, w, h, S => by
    obtain ⟨I, n, σ', himp, hI, hround⟩ := h
    obtain ⟨φ', S'⟩ := himp C φ a w S
    refine wp_loop_ghost (fun n a w => ∃ φ σ, I n σ ∧ Sim C φ σ a w) n ⟨φ', σ', hI, S'⟩ ?_
    rintro n a w ⟨φ, σ, hI, S⟩
    refine wp_mono (awp_sound x _ φ σ a w (hround n σ hI) S) fun _ _ _ hq => QC_then ?_ hq
    rintro φ1 σ1 a1 w1 S1 ⟨n', σ2, hlt, himp, hI'⟩
    obtain ⟨φ2, S2⟩ := himp C φ1 a1 w1 S1
    exact ⟨n', hlt, φ2, σ2, hI', S2⟩
  | .exit id, Q, φ, σ, a, w, h, S => wp_exit ⟨φ, σ, S, h⟩
  | .scope x, Q, φ, σ, a, w, h, S => wp_scope_straight (wp_mono (awp_sound x _ φ σ a w h S) fun _ _ _ hq => QC_noGoto hq)
  | .label l, Q, φ, σ, a, w, h, S => wp_label ⟨φ, σ, S, h⟩
  | .ret, Q, φ, σ, a, w, h, S => wp_ret ⟨φ, σ, S, h⟩
  | .goto l, Q, φ, σ, a, w, h, S => h.elim
  | .rangeFunc f p x y, Q, φ, σ, a, w, h, S => h.elim
  | .refuse s, Q, φ, σ, a, w, h, S => h.elim

end sound

/-- What a result variable holds. -/
def resOne (P : Program) (σ : AState) : ResultVar → Option AV
  | .tmp t => some (σ.slots.getD t .any)
  | .cell d t => match tinfo P t, σ.slots.getD d .any with
    | some (g, n), .ptr l off => match σ.heap[l]? with
      | some (.cells cs) => loadAV g n (cs.drop off)
      | _ => none
    | _, _ => none

def resList (P : Program) (σ : AState) : List ResultVar → Option (List AV)
  | [] => some []
  | r :: rs => match resOne P σ r, resList P σ rs with
    | some x, some xs => some (x :: xs)
    | _, _ => none

def resAV (P : Program) (σ : AState) (rs : List ResultVar) : Option AV :=
  match resList P σ rs with
  | some [x] => some x
  | some xs => some (.tup xs)
  | none => none

section results
variable {C : Ctx} {φ : Nat → Value} {σ : AState} {a : Act} {w : World}

theorem resOne_sound (S : Sim C φ σ a w) {r : ResultVar} {x : AV} (h : resOne C.P σ r = some x) :
    ∃ v, (match r with | .tmp t => pure (a.tmps.getD t undef) | .cell d t => (do loadVar t (← asAddr (a.tmps.getD d undef))) : Sem Value).run C.P w = .ok v w ∧ Rep (C.env φ σ.heap w) x v := by
  cases r with
  | tmp t =>
    simp only [resOne, Option.some.injEq] at h
    subst h
    exact ⟨_, rfl, S.ev (.tmp t)⟩
  | cell d t =>
    simp only [resOne] at h
    have hd := S.ev (.tmp d)
    simp only [AState.ev] at hd
    split at h
    · rename_i g n l off ht hp
      rw [hp] at hd
      split at h
      · rename_i cs hl
        obtain ⟨u, hu, ru⟩ := load_ptr S ht hl h hd
        obtain ⟨_, b, _, hv⟩ := hd
        refine ⟨u, ?_, ru⟩
        have hv' : a.tmps.getD d undef = .pointer (some ⟨b, off, none⟩) := hv
        rw [show a.eval (.tmp d) = a.tmps.getD d undef from rfl, hv'] at hu
        simp only [hv', asAddr, Sem.run_bind, Sem.run_pure, Result.andThen_ok]
        simpa [Instr.loadAt, Instr.sureAddr] using hu
      · cases h
    · cases h

theorem resList_sound (S : Sim C φ σ a w) : ∀ {rs : List ResultVar} {xs : List AV}, resList C.P σ rs = some xs →
    ∃ vs : List Value, (rs.mapM fun | .tmp t => pure (a.tmps.getD t undef) | .cell d t => (do loadVar t (← asAddr (a.tmps.getD d undef))) : Sem (List Value)).run C.P w = .ok vs w ∧ RepL (C.env φ σ.heap w) xs vs
  | [], _, h => by simp only [resList, Option.some.injEq] at h; subst h; exact ⟨[], rfl, rfl⟩
  | r :: rs, xs, h => by
    simp only [resList] at h
    split at h
    · rename_i x ys h1 h2
      cases h
      obtain ⟨v, hv, rv⟩ := resOne_sound S h1
      obtain ⟨vs, hvs, rvs⟩ := resList_sound S h2
      refine ⟨v :: vs, ?_, v, vs, rfl, rv, rvs⟩
      rw [List.mapM_cons]
      simp only [Sem.run_bind, hv, hvs, Result.andThen_ok, Sem.run_pure]
    · cases h

theorem resAV_sound (S : Sim C φ σ a w) {fn : Func} {x : AV} (h : resAV C.P σ fn.results.toList = some x) : ∃ v, (results fn a.tmps).run C.P w = .ok v w ∧ Rep (C.env φ σ.heap w) x v := by
  unfold resAV at h
  have key : ∀ xs, resList C.P σ fn.results.toList = some xs → ∃ vs : List Value, (results fn a.tmps).run C.P w = .ok (if hh : vs.toArray.size = 1 then vs.toArray[0] else .tuple vs.toArray) w ∧ RepL (C.env φ σ.heap w) xs vs := by
    intro xs hx
    obtain ⟨vs, hvs, rvs⟩ := resList_sound S hx
    refine ⟨vs, ?_, rvs⟩
    unfold results
    rw [Array.mapM_eq_mapM_toList]
    simp only [Sem.run_bind, Sem.run_map, Sem.run_pure]
    generalize hq : Sem.run C.P (List.mapM _ fn.results.toList) w = q
    have hq' : q = .ok vs w := by rw [← hq]; exact hvs
    subst hq'
    simp
  split at h
  · rename_i y hy
    cases h
    obtain ⟨vs, hv, u, us, rfl, r1, r2⟩ := key _ hy
    simp only [RepL] at r2
    subst r2
    exact ⟨_, hv, by simpa using r1⟩
  · rename_i xs hne hx
    cases h
    obtain ⟨vs, hv, rl⟩ := key _ hx
    refine ⟨_, hv, ?_⟩
    have hlen := rl.length
    have hn1 : ¬ vs.toArray.size = 1 := by
      intro h1
      have h2 : xs.length = 1 := by simp at h1; omega
      match xs, h2 with
      | [y], _ => exact hne y rfl
    rw [dif_neg hn1]
    exact ⟨vs.toArray, rfl, rl⟩
  · cases h

end results

/-- A call of a function with a contract. -/
theorem callA_fn {P : Program} {σ : AState} {f : FuncId} {args args' : List AV} {V : AV → Prop} {K : AOut → List AObj → Prop} (h : FnC P f args' V) (hs : SubL args args') (hK : ∀ r, V r → K (.ret r) σ.heap) : CallA P f args σ K := by
  obtain ⟨he, hc⟩ := callA_of_fnC (K := K) h hK
  exact ⟨he, fun C φ a w hP S vs hr => hc C φ a w hP S vs (hs _ _ hr)⟩

theorem fnC_sub {P : Program} {f : FuncId} {args args' : List AV} {V : AV → Prop} (h : FnC P f args' V) (hs : SubL args args') (hn : nbL 0 args) : FnC P f args V := by
  obtain ⟨he, _, hc⟩ := h
  exact ⟨he, hn, fun C φ w hP h0 hN hM vs hr => hc C φ w hP h0 hN hM vs (hs _ _ hr)⟩

/-- What is asked of a body's end. -/
def endV (V : AV → Prop) (H : List AObj) : Option AV → Prop
  | some x => (frz 0 H x).nb 0 ∧ ∃ r, Sub (frz 0 H x) r ∧ V r
  | none => False

theorem endV_some {V : AV → Prop} {H : List AObj} {x : AV} : endV V H (some x) = ((frz 0 H x).nb 0 ∧ ∃ r, Sub (frz 0 H x) r ∧ V r) := rfl

def retPost (P : Program) (rs : List ResultVar) (V : AV → Prop) : AExit → AState → Prop
  | .normal, σ => endV V σ.heap (resAV P σ rs)
  | .ret, σ => endV V σ.heap (resAV P σ rs)
  | _, _ => False

/-- A contract, out of the function's body. -/
theorem fnC_of_body {P : Program} {f : FuncId} {fn : Func} {c : Code} {args : List AV} {V : AV → Prop} (hf : P.funcs[f]? = some fn) (hb : fn.body = some c) (hne : (fn.name != "runtime.NumGoroutine") = true) (hnb : nbL 0 args)
    (h : awp P c (retPost P fn.results.toList V) { slots := args ++ List.replicate (fn.ntmps - args.length) .any, heap := [] }) : FnC P f args V := by
  refine ⟨?_, hnb, fun C φ w hP h0 hN hM vs hr => ?_⟩
  · unfold enters; rw [hf]; simp only [hb, Option.isSome_some, Bool.true_and]; exact hne
  · subst hP
    refine calls_of_wp hf hb ?_
    have hsz : vs.size = args.length := by have := hr.length; simpa using this
    have S : Sim C φ { slots := args ++ List.replicate (fn.ntmps - args.length) .any, heap := [] } { tmps := vs ++ Array.replicate (fn.ntmps - vs.size) undef, defers := [] } w := by
      refine { slots := ?_, defers := rfl, objs := by simp, apart := by simp, notA := by simp, size := by rw [h0]; exact Nat.le_refl _, old := fun b o _ _ => by rw [h0], oldObj := fun b _ _ => by rw [h0], inM := by simp, froz := fun x => by rw [h0], rest := by rw [h0]; exact ⟨rfl, rfl⟩, low := ⟨hN, Nat.le_refl _⟩, names := fun l hl => by rw [hN] at hl; exact absurd hl (Nat.not_lt_zero _) }
      simp only [Array.toList_append, Array.toList_replicate]
      refine hr.append ?_
      rw [hsz]
      have := RepL.replicate_any (E := C.env φ [] w) (List.replicate (fn.ntmps - args.length) undef)
      simpa using this
    refine wp_mono (awp_sound c _ φ _ _ w h S) ?_
    intro e a' w' hq
    have fin : ∀ φ' σ', Sim C φ' σ' a' w' → endV V σ'.heap (resAV C.P σ' fn.results.toList) →
        a'.defers = [] ∧ ∃ v, (results fn a'.tmps).run C.P w' = .ok v w' ∧ ∃ r v' φ', V r ∧ Ending.returned v = .returned v' ∧ Rep (C.env φ' [] w') r v' ∧ w.heap.size ≤ w'.heap.size ∧ (∀ b, b < w.heap.size → w'.heap[b]? = w.heap[b]?) ∧
          (∀ x, w'.frozen? x = w.frozen? x) ∧ w'.output = w.output ∧ w'.os = w.os := by
      intro φ' σ' S' hend
      cases hx : resAV C.P σ' fn.results.toList with
      | none => rw [hx] at hend; exact hend.elim
      | some x =>
      rw [hx] at hend
      obtain ⟨hn, r0, hsub, hV⟩ := hend
      obtain ⟨v, hv, rv⟩ := resAV_sound S' hx
      refine ⟨S'.defers, v, hv, _, v, φ', hV, rfl, hsub _ _ (by have := frz_sound S' (S'.drops (by rw [← S'.low.1]; exact hN)) x v; rw [← S'.low.1, hN] at this; exact this hn rv), ?_, ?_, ?_, ?_⟩
      · rw [← h0]; exact S'.size
      · intro b hb; rw [← h0]; exact S'.oldObj b (by rw [h0]; exact hb) (fun o => hM b o)
      · intro y; rw [← h0]; exact S'.froz y
      · rw [← h0]; exact S'.rest
    cases e with
    | normal => obtain ⟨φ', σ', S', hq⟩ := hq; exact fin φ' σ' S' hq
    | ret => obtain ⟨φ', σ', S', hq⟩ := hq; exact fin φ' σ' S' hq
    | exit id => obtain ⟨_, _, _, hq⟩ := hq; exact hq.elim
    | goto l => obtain ⟨_, _, _, hq⟩ := hq; exact hq.elim
    | panic chain => obtain ⟨_, _, _, _, _, hq, _⟩ := hq; exact hq.elim
    | outgrown => exact hq.elim

end Go.Abs

/- Calls with contracts; weakening. -/
namespace Go.Abs
/-- A call within a statement whose order is open. -/
def CallD (P : Program) (f : FuncId) (args : List AV) (K : AV → Prop) : Prop := ∃ V, FnC P f args V ∧ (∃ r, V r) ∧ ∀ r, V r → K r
theorem callA_eq {P : Program} {σ : AState} {f : FuncId} {args args' : List AV} {X : AV} {K : AOut → List AObj → Prop} (h : FnC P f args' (fun r => r = X)) (hs : SubL args args') (hK : K (.ret X) σ.heap) : CallA P f args σ K :=
  callA_fn h hs (fun r hr => hr ▸ hK)

theorem callD_fn {P : Program} {f : FuncId} {args args' : List AV} {V : AV → Prop} {K : AV → Prop} (h : FnC P f args' V) (hs : SubL args args') (hn : nbL 0 args) (hne : ∃ r, V r) (hK : ∀ r, V r → K r) : CallD P f args K :=
  ⟨V, fnC_sub h hs hn, hne, hK⟩

theorem callD_eq {P : Program} {f : FuncId} {args args' : List AV} {X : AV} {K : AV → Prop} (h : FnC P f args' (fun r => r = X)) (hs : SubL args args') (hn : nbL 0 args) (hK : K X) : CallD P f args K :=
  ⟨_, fnC_sub h hs hn, ⟨X, rfl⟩, fun _ hr => hr ▸ hK⟩

section co
variable {H : List AObj} {n : Nat}
theorem Co1.sub {x y : AV} (h : Sub x y) (hn : y.nb n) : Co1 H n x y := .inl ⟨h, hn⟩
theorem Co.any {x : AV} : Co H n x .any := .inl (.inl ⟨Sub.any _, trivial⟩)
theorem Co.same {x : AV} (h : x.nb n) : Co H n x x := .inl (.inl ⟨Sub.refl _, h⟩)
theorem Co.sub {x y : AV} (h : Sub x y) (hn : y.nb n) : Co H n x y := .inl (.inl ⟨h, hn⟩)
theorem CoL.nil : CoL H n [] [] := rfl
theorem CoL.cons {x y : AV} {xs ys : List AV} (h : Co H n x y) (hs : CoL H n xs ys) : CoL H n (x :: xs) (y :: ys) := ⟨y, ys, rfl, h, hs⟩
theorem CoL.any {x : AV} {xs ys : List AV} (hs : CoL H n xs ys) : CoL H n (x :: xs) (.any :: ys) := ⟨.any, ys, rfl, Co.any, hs⟩
theorem CoH.nil {xs : List AObj} : CoH H n xs [] := by cases xs <;> trivial
theorem CoH.same {x : AObj} {xs ys : List AObj} (h : objNb n x) (hs : CoH H n xs ys) : CoH H n (x :: xs) (x :: ys) := ⟨.inr (.inl ⟨rfl, h⟩), hs⟩
theorem CoH.cells {cs ds : List AV} {xs ys : List AObj} (h : CoL H n cs ds) (hs : CoH H n xs ys) : CoH H n (.cells cs :: xs) (.cells ds :: ys) := ⟨.inr (.inr (.inl ⟨cs, ds, rfl, rfl, h⟩)), hs⟩
theorem CoH.dead {x : AObj} {xs ys : List AObj} (hs : CoH H n xs ys) : CoH H n (x :: xs) (.dead :: ys) := ⟨.inl rfl, hs⟩
theorem CoL.same {xs : List AV} (h : nbL n xs) : CoL H n xs xs := by
  induction xs with
  | nil => rfl
  | cons x xs ih => exact CoL.cons (Co.same h.1) (ih h.2)
end co
theorem callA_co {P : Program} {σ : AState} {f : FuncId} {args args' : List AV} {X : AV} {n : Nat} (h : FnC P f args' (fun r => r = X)) (hs : CoL σ.heap n args args') : CallA P f args σ (fun o H => o = .ret X ∧ H = σ.heap) := by
  obtain ⟨he, hc⟩ := callA_of_fnC (σ := σ) (K := fun o H => o = .ret X ∧ H = σ.heap) h (fun r hr => ⟨by rw [hr], rfl⟩)
  exact ⟨he, fun C φ a w hP S vs hr => hc C φ a w hP S vs (CoL.repS S hs hr)⟩
theorem weak_imp {s0 slots : List AV} {h0 heap : List AObj} {low : Nat} (hl : low ≤ heap.length) (h1 : CoL h0 heap.length s0 slots) (h2 : CoH h0 heap.length h0 heap) : Imp ⟨s0, h0, low⟩ ⟨slots, heap, low⟩ := Weak.imp ⟨⟨rfl, hl⟩, h1, h2⟩
end Go.Abs

/- A machine that carries bodies out over abstract states: what it answers is what the program does. -/
namespace Go.Abs

/-- What a body is carried out with: what its callees answer (in statements whose order is open: those that are handed no names), what is made of the states ahead of loops and at other chosen places, how often a loop may run, what is read off at the end. -/
structure Mach (R : Type) where
  P : Program
  body : Code
  cl : FuncId → List AV → List AObj → Option (AV × List AObj)
  cd : FuncId → List AV → Option AV
  nrm : List Nat → AState → Option AState
  cut : List Nat → AState → Option AState
  n : Nat
  out : AState → Option R

noncomputable def pcond {R : Type} (p : Prop) (x : Option R) : Option R := @ite _ p (Classical.propDecidable p) x none
theorem pcond_some {R : Type} {p : Prop} {x : Option R} {r : R} : pcond p x = some r ↔ p ∧ x = some r := by
  unfold pcond
  split
  · rename_i h; simp [h]
  · rename_i h; simp [h]
theorem pcond_true {R : Type} {x : Option R} : pcond True x = x := by simp [pcond]
theorem pcond_and {R : Type} {p q : Prop} {x : Option R} : pcond (p ∧ q) x = pcond p (pcond q x) := by
  unfold pcond
  by_cases hp : p <;> by_cases hq : q <;> simp [hp, hq]
theorem pcond_dec {R : Type} {p : Prop} [Decidable p] {x : Option R} : pcond p x = bif decide p then x else none := by
  unfold pcond
  by_cases hp : p <;> simp [hp]

def setB (x : Operand) (b : Bool) (σ : AState) : AState :=
  match x with
  | .tmp t => { σ with slots := σ.slots.set t (.bool b) }
  | _ => σ

theorem setB_eq {x : Operand} {b : Bool} {σ : AState} (h : σ.ev x = .bool b) : setB x b σ = σ := by
  cases x with
  | tmp t =>
    simp only [AState.ev, List.getD] at h
    cases hg : σ.slots[t]? with
    | none => rw [hg] at h; simp at h
    | some v =>
      rw [hg] at h
      simp only [Option.getD_some] at h
      subst h
      obtain ⟨hlt, he⟩ := List.getElem?_eq_some_iff.1 hg
      simp only [setB]
      rw [← he, List.set_getElem_self]
  | _ => rfl

/-- The guard of an operation, known. -/
def gset (ops : Array Oper) (o : Oper) (b : Bool) (σ : AState) : AState :=
  match o.guard with
  | none => σ
  | some (j, want) => match (ops[j]?).bind (·.dst) with
    | some d => match σ.slots[d]? with
      | some (.bool _) => { σ with slots := σ.slots.set d (.bool (b == want)) }
      | _ => σ
    | none => σ

theorem gset_eq {ops : Array Oper} {o : Oper} {b : Bool} {σ : AState} (h : wantedA ops o σ = some b) : gset ops o b σ = σ := by
  unfold wantedA at h
  unfold gset
  split
  · rfl
  · rename_i j want hg
    simp only [hg] at h
    split
    · rename_i d hd
      simp only [hd] at h
      split
      · rename_i c hc
        simp only [hc, Option.some.injEq] at h
        have : (b == want) = c := by subst h; cases c <;> cases want <;> rfl
        rw [this]
        obtain ⟨hlt, he⟩ := List.getElem?_eq_some_iff.1 hc
        rw [← he, List.set_getElem_self]
      · rfl
    · rfl

section
variable {R : Type}

noncomputable def execOps (M : Mach R) (ops : Array Oper) : List Oper → AState → Option AState
  | [], σ => some σ
  | o :: rest, σ => match wantedA ops o σ with
    | none => none
    | some b => bif b then (match calleeOf (gset ops o true σ) o.op with
        | some (f, args) => match M.cl f args (gset ops o true σ).heap with
          | some (r, H') => execOps M ops rest (AState.put { gset ops o true σ with heap := H' } o.dst r)
          | none => none
        | none => match opEff M.P (gset ops o true σ) o.op with
          | some e => pcond e.pre (execOps M ops rest ((gset ops o true σ).app o.dst e))
          | none => none)
      else execOps M ops rest ((gset ops o false σ).put o.dst (.raw undef))

noncomputable def execD (M : Mach R) (ops : Array Oper) : List Oper → Nat → List Tr → AState → Option AState
  | [], _, _, σ => some σ
  | o :: rest, j, tr, σ => match wantedA ops o σ with
    | none => none
    | some b => bif b then (match calleeOf (gset ops o true σ) o.op with
        | some (f, args) => match M.cd f args with
          | some r => execD M ops rest (j + 1) tr ((gset ops o true σ).put o.dst r)
          | none => none
        | none => match opEff M.P (gset ops o true σ) o.op with
          | some e => pcond (e.pre ∧ compatC ops tr j e) (execD M ops rest (j + 1) (pushTr tr j (gset ops o true σ).heap.length e) ((gset ops o true σ).app o.dst e))
          | none => none)
      else execD M ops rest (j + 1) tr ((gset ops o false σ).put o.dst (.raw undef))

def lqN (nrm : AState → Option AState) (body : AState → Option (AExit × AState)) : Nat → AState → Option (AExit × AState)
  | 0, _ => none
  | m + 1, σ => match body σ with
    | some (.normal, σ') => (nrm σ').bind (lqN nrm body m)
    | r => r

noncomputable def exec (M : Mach R) : Code → List Nat → AState → Option (AExit × AState)
  | .skip, _, σ => some (.normal, σ)
  | .region _ ops false, _, σ => (execOps M ops ops.toList σ).map fun σ' => (.normal, σ')
  | .region _ ops true, _, σ => pcond (M.P.follows .mixedOrders = true ∧ drawOK ops = true) ((execD M ops ops.toList 0 [] σ).map fun σ' => (.normal, σ'))
  | .seq x y, p, σ => match exec M x (0 :: p) σ with
    | some (.normal, σ') => (M.cut (1 :: p) σ').bind (exec M y (1 :: p))
    | r => r
  | .cond c x y, p, σ => match σ.ev c with
    | .bool b => bif b then exec M x (0 :: p) (setB c true σ) else exec M y (1 :: p) (setB c false σ)
    | _ => none
  | .block id x, p, σ => match exec M x (0 :: p) σ with
    | some (.exit id', σ') => if id' = id then some (.normal, σ') else some (.exit id', σ')
    | r => r
  | .loop x, p, σ => (M.nrm p σ).bind (lqN (M.nrm p) (exec M x (0 :: p)) M.n)
  | .exit id, _, σ => some (.exit id, σ)
  | .scope x, p, σ => exec M x (0 :: p) σ
  | .label _, _, σ => some (.normal, σ)
  | .ret, _, σ => some (.ret, σ)
  | .goto _, _, _ => none
  | .rangeFunc _ _ _ _, _, _ => none
  | .refuse _, _, _ => none

/-- The callees answer as the program does; the states that are put in the place of others say no more. -/
structure Good (M : Mach R) : Prop where
  cl : ∀ f args σ r H', M.cl f args σ.heap = some (r, H') → CallA M.P f args σ (fun o H'' => o = .ret r ∧ H'' = H')
  cd : ∀ f args r, M.cd f args = some r → FnC M.P f args (fun v => v = r)
  nrm : ∀ p σ σ', M.nrm p σ = some σ' → Imp σ σ'
  cut : ∀ p σ σ', M.cut p σ = some σ' → Imp σ σ'

theorem CallA.mono {P : Program} {f : FuncId} {args : List AV} {σ : AState} {K K' : AOut → List AObj → Prop} (h : CallA P f args σ K) (hk : ∀ o H, K o H → K' o H) : CallA P f args σ K' := by
  obtain ⟨he, hc⟩ := h
  refine ⟨he, fun C φ a w hP S vs hr => (hc C φ a w hP S vs hr).mono ?_⟩
  rintro e w' ⟨o, φ', H', h1, h2⟩
  exact ⟨o, φ', H', hk _ _ h1, h2⟩

theorem execOps_sound {M : Mach R} (G : Good M) {ops : Array Oper} {Q : AExit → AState → Prop} : ∀ (rest : List Oper) (σ σ' : AState), execOps M ops rest σ = some σ' → Q .normal σ' → awpOps M.P ops rest Q σ
  | [], σ, σ', h, hq => by simp only [execOps, Option.some.injEq] at h; subst h; exact hq
  | o :: rest, σ, σ', h, hq => by
    simp only [execOps] at h
    simp only [awpOps]
    cases hw : wantedA ops o σ with
    | none => simp only [hw] at h; cases h
    | some b =>
      simp only [hw] at h
      have hg := gset_eq hw
      cases b with
      | false =>
        refine ⟨fun h => (by cases h), fun _ => ?_⟩
        simp only [cond_false, hg] at h
        exact execOps_sound G rest _ σ' h hq
      | true =>
        refine ⟨fun _ => ?_, fun h => by cases h⟩
        simp only [cond_true, hg] at h
        cases hc : calleeOf σ o.op with
        | some p =>
          obtain ⟨f, args⟩ := p
          simp only [hc] at h ⊢
          cases ha : M.cl f args σ.heap with
          | none => simp only [ha] at h; cases h
          | some q =>
            obtain ⟨r, H'⟩ := q
            simp only [ha] at h
            refine (G.cl f args σ r H' ha).mono ?_
            rintro o' H'' ⟨rfl, rfl⟩
            exact execOps_sound G rest _ σ' h hq
        | none =>
          simp only [hc] at h ⊢
          cases he : opEff M.P σ o.op with
          | none => simp only [he] at h; cases h
          | some e =>
            simp only [he] at h
            rw [pcond_some] at h
            exact ⟨h.1, execOps_sound G rest _ σ' h.2 hq⟩

theorem execD_sound {M : Mach R} (G : Good M) {ops : Array Oper} {K : AState → Prop} : ∀ (rest : List Oper) (j : Nat) (tr : List Tr) (σ σ' : AState), execD M ops rest j tr σ = some σ' → K σ' → awpDc M.P ops K rest j tr σ
  | [], _, _, σ, σ', h, hq => by simp only [execD, Option.some.injEq] at h; subst h; exact hq
  | o :: rest, j, tr, σ, σ', h, hq => by
    simp only [execD] at h
    simp only [awpDc]
    cases hw : wantedA ops o σ with
    | none => simp only [hw] at h; cases h
    | some b =>
      simp only [hw] at h
      have hg := gset_eq hw
      cases b with
      | false =>
        refine ⟨fun h => (by cases h), fun _ => ?_⟩
        simp only [cond_false, hg] at h
        exact execD_sound G rest _ _ _ σ' h hq
      | true =>
        refine ⟨fun _ => ?_, fun h => (by cases h)⟩
        simp only [cond_true, hg] at h
        cases hc : calleeOf σ o.op with
        | some p =>
          obtain ⟨f, args⟩ := p
          simp only [hc] at h ⊢
          cases ha : M.cd f args with
          | none => simp only [ha] at h; cases h
          | some r =>
            simp only [ha] at h
            refine ⟨_, G.cd f args r ha, ⟨r, rfl⟩, ?_⟩
            rintro _ rfl
            exact execD_sound G rest _ _ _ σ' h hq
        | none =>
          simp only [hc] at h ⊢
          cases he : opEff M.P σ o.op with
          | none => simp only [he] at h; cases h
          | some e =>
            simp only [he] at h
            rw [pcond_some] at h
            exact ⟨h.1.1, h.1.2, execD_sound G rest _ _ _ σ' h.2 hq⟩

theorem no_goto_lq {nrm : AState → Option AState} {body : AState → Option (AExit × AState)} (hb : ∀ σ l σ', body σ ≠ some (.goto l, σ')) : ∀ (m : Nat) (σ : AState) (l : Nat) (σ' : AState), lqN nrm body m σ ≠ some (.goto l, σ')
  | 0, _, _, _ => by simp [lqN]
  | m + 1, σ, l, σ' => by
    intro h
    simp only [lqN] at h
    cases hx : body σ with
    | none => simp only [hx] at h; cases h
    | some r =>
      obtain ⟨e1, σ1⟩ := r
      cases e1 with
      | normal =>
        simp only [hx] at h
        cases hn : nrm σ1 with
        | none => simp only [hn, Option.bind_none] at h; cases h
        | some σ2 => simp only [hn, Option.bind_some] at h; exact no_goto_lq hb m σ2 l σ' h
      | goto l' => exact hb _ _ _ hx
      | _ => simp only [hx, Option.some.injEq, Prod.mk.injEq, reduceCtorEq, false_and] at h

theorem no_goto (M : Mach R) : ∀ (c : Code) (p : List Nat) (σ : AState) (l : Nat) (σ' : AState), exec M c p σ ≠ some (.goto l, σ')
  | .skip, _, _, _, _ => by simp [exec]
  | .label _, _, _, _, _ => by simp [exec]
  | .ret, _, _, _, _ => by simp [exec]
  | .exit id, _, _, _, _ => by simp [exec]
  | .region _ ops false, _, _, _, _ => by simp [exec]
  | .region _ ops true, _, _, _, _ => by
    intro h
    simp only [exec] at h
    rw [pcond_some] at h
    simp at h
  | .seq x y, p, σ, l, σ' => by
    intro h
    simp only [exec] at h
    cases hx : exec M x (0 :: p) σ with
    | none => simp only [hx] at h; cases h
    | some r =>
      obtain ⟨e1, σ1⟩ := r
      cases e1 with
      | normal =>
        simp only [hx] at h
        cases hc : M.cut (1 :: p) σ1 with
        | none => simp only [hc, Option.bind_none] at h; cases h
        | some σ2 => simp only [hc, Option.bind_some] at h; exact no_goto M y _ _ _ _ h
      | goto l' => exact no_goto M x _ _ _ _ hx
      | _ => simp only [hx, Option.some.injEq, Prod.mk.injEq, reduceCtorEq, false_and] at h
  | .cond c x y, p, σ, l, σ' => by
    intro h
    simp only [exec] at h
    cases hv : σ.ev c with
    | bool b =>
      simp only [hv] at h
      cases b with
      | true => exact no_goto M x _ _ _ _ h
      | false => exact no_goto M y _ _ _ _ h
    | _ => simp only [hv] at h; cases h
  | .block id x, p, σ, l, σ' => by
    intro h
    simp only [exec] at h
    cases hx : exec M x (0 :: p) σ with
    | none => simp only [hx] at h; cases h
    | some r =>
      obtain ⟨e1, σ1⟩ := r
      cases e1 with
      | exit id' =>
        simp only [hx] at h
        split at h <;> simp at h
      | goto l' => exact no_goto M x _ _ _ _ hx
      | _ => simp only [hx, Option.some.injEq, Prod.mk.injEq, reduceCtorEq, false_and] at h
  | .loop x, p, σ, l, σ' => by
    intro h
    simp only [exec] at h
    cases hn : M.nrm p σ with
    | none => simp only [hn, Option.bind_none] at h; cases h
    | some σ1 =>
      simp only [hn, Option.bind_some] at h
      exact no_goto_lq (fun _ _ _ => no_goto M x _ _ _ _) _ _ _ _ h
  | .scope x, p, σ, l, σ' => by
    intro h
    simp only [exec] at h
    exact no_goto M x _ _ _ _ h
  | .goto _, _, _, _, _ => by simp [exec]
  | .rangeFunc _ _ _ _, _, _, _, _ => by simp [exec]
  | .refuse _, _, _, _, _ => by simp [exec]

theorem exec_sound {M : Mach R} (G : Good M) : ∀ (c : Code) (p : List Nat) (Q : AExit → AState → Prop) (σ : AState) (e : AExit) (σ' : AState), exec M c p σ = some (e, σ') → Q e σ' → awp M.P c Q σ
  | .skip, _, Q, σ, e, σ', h, hq => by simp only [exec, Option.some.injEq, Prod.mk.injEq] at h; obtain ⟨rfl, rfl⟩ := h; exact hq
  | .label _, _, Q, σ, e, σ', h, hq => by simp only [exec, Option.some.injEq, Prod.mk.injEq] at h; obtain ⟨rfl, rfl⟩ := h; exact hq
  | .ret, _, Q, σ, e, σ', h, hq => by simp only [exec, Option.some.injEq, Prod.mk.injEq] at h; obtain ⟨rfl, rfl⟩ := h; exact hq
  | .exit id, _, Q, σ, e, σ', h, hq => by simp only [exec, Option.some.injEq, Prod.mk.injEq] at h; obtain ⟨rfl, rfl⟩ := h; exact hq
  | .region _ ops false, _, Q, σ, e, σ', h, hq => by
    simp only [exec, Option.map_eq_some_iff, Prod.mk.injEq] at h
    obtain ⟨σ1, h1, rfl, rfl⟩ := h
    exact execOps_sound G _ _ _ h1 hq
  | .region _ ops true, _, Q, σ, e, σ', h, hq => by
    simp only [exec] at h
    rw [pcond_some] at h
    obtain ⟨hp, h⟩ := h
    simp only [Option.map_eq_some_iff, Prod.mk.injEq] at h
    obtain ⟨σ1, h1, rfl, rfl⟩ := h
    exact ⟨hp, execD_sound G _ _ _ _ _ h1 hq⟩
  | .seq x y, p, Q, σ, e, σ', h, hq => by
    simp only [exec] at h
    cases hx : exec M x (0 :: p) σ with
    | none => simp only [hx] at h; cases h
    | some r =>
      obtain ⟨e1, σ1⟩ := r
      refine exec_sound G x (0 :: p) _ σ e1 σ1 hx ?_
      cases e1 with
      | normal =>
        simp only [hx] at h
        cases hc : M.cut (1 :: p) σ1 with
        | none => simp only [hc, Option.bind_none] at h; cases h
        | some σ2 =>
          simp only [hc, Option.bind_some] at h
          exact ⟨σ2, G.cut _ _ _ hc, exec_sound G y (1 :: p) Q σ2 e σ' h hq⟩
      | _ =>
        simp only [hx, Option.some.injEq, Prod.mk.injEq] at h
        obtain ⟨rfl, rfl⟩ := h
        exact hq
  | .cond c x y, p, Q, σ, e, σ', h, hq => by
    simp only [exec] at h
    simp only [awp]
    cases hv : σ.ev c with
    | bool b =>
      simp only [hv] at h ⊢
      cases b with
      | true => simp only [cond_true, setB_eq hv] at h; exact ⟨fun _ => exec_sound G x (0 :: p) Q σ e σ' h hq, fun h => (by cases h)⟩
      | false => simp only [cond_false, setB_eq hv] at h; exact ⟨fun h => (by cases h), fun _ => exec_sound G y (1 :: p) Q σ e σ' h hq⟩
    | _ => simp only [hv] at h; cases h
  | .block id x, p, Q, σ, e, σ', h, hq => by
    simp only [exec] at h
    cases hx : exec M x (0 :: p) σ with
    | none => simp only [hx] at h; cases h
    | some r =>
      obtain ⟨e1, σ1⟩ := r
      refine exec_sound G x (0 :: p) _ σ e1 σ1 hx ?_
      cases e1 with
      | exit id' =>
        simp only [hx] at h
        simp only [AExit.inBlock]
        split at h
        · rename_i he
          simp only [Option.some.injEq, Prod.mk.injEq] at h
          obtain ⟨rfl, rfl⟩ := h
          rw [if_pos he]; exact hq
        · rename_i he
          simp only [Option.some.injEq, Prod.mk.injEq] at h
          obtain ⟨rfl, rfl⟩ := h
          rw [if_neg he]; exact hq
      | _ =>
        simp only [hx, Option.some.injEq, Prod.mk.injEq] at h
        obtain ⟨rfl, rfl⟩ := h
        exact hq
  | .loop x, p, Q, σ, e, σ', h, hq => by
    simp only [exec] at h
    cases hn : M.nrm p σ with
    | none => simp only [hn, Option.bind_none] at h; cases h
    | some σ1 =>
      simp only [hn, Option.bind_some] at h
      refine ⟨fun m σ2 => lqN (M.nrm p) (exec M x (0 :: p)) m σ2 = some (e, σ'), M.n, σ1, G.nrm _ _ _ hn, h, ?_⟩
      intro m σ2 h2
      cases m with
      | zero => simp only [lqN] at h2; cases h2
      | succ m =>
        simp only [lqN] at h2
        cases hx : exec M x (0 :: p) σ2 with
        | none => simp only [hx] at h2; cases h2
        | some r =>
          obtain ⟨e1, σ3⟩ := r
          refine exec_sound G x (0 :: p) _ σ2 e1 σ3 hx ?_
          cases e1 with
          | normal =>
            simp only [hx] at h2
            cases hn2 : M.nrm p σ3 with
            | none => simp only [hn2, Option.bind_none] at h2; cases h2
            | some σ4 =>
              simp only [hn2, Option.bind_some] at h2
              exact ⟨m, σ4, Nat.lt_succ_self _, G.nrm _ _ _ hn2, h2⟩
          | _ =>
            simp only [hx, Option.some.injEq, Prod.mk.injEq] at h2
            obtain ⟨rfl, rfl⟩ := h2
            exact hq
  | .scope x, p, Q, σ, e, σ', h, hq => by
    simp only [exec] at h
    refine exec_sound G x (0 :: p) _ σ e σ' h ?_
    cases e with
    | goto l => exact absurd h (by
        intro h
        exact no_goto M x (0 :: p) σ _ _ h)
    | _ => exact hq
  | .goto _, _, _, _, _, _, h, _ => by simp only [exec] at h; cases h
  | .rangeFunc _ _ _ _, _, _, _, _, _, h, _ => by simp only [exec] at h; cases h
  | .refuse _, _, _, _, _, _, h, _ => by simp only [exec] at h; cases h
end
end Go.Abs

