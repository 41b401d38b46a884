/- A part of the proof: reading of arguments. -/
import Derived.Test.YtocalpbkeegkbaaDataA
import Derived.Test.YtocalpbkeegkbaaRows
import Derived.ChangeArms
import Derived.WalkKit
import Derived.ProofKit
import Derived.OpenShut
import Derived.JoinedCond
import Derived.WideKeyArgs
import Derived.Carry
import Derived.Test.YtocalpbkeegkbaaCoreA
import Derived.Test.YtocalpbkeegkbaaWalkA
import Derived.Test.YtocalpbkeegkbaaWalkB
set_option linter.all false
namespace Go.Abs
open Go.Proofs.Ytocalpbkeegkbaa

def ctx0 (P : Program) (W : World) (hk : KnowW W (fun _ _ => False)) : Ctx := { P, w0 := W, M0 := fun _ _ => False, A := fun _ _ => False, hA := fun _ _ h => h.elim, hk }
def env0 (P : Program) (W : World) : Env := { w := W, mu := fun b o => Mut (fun _ => undef) [] b o ∨ False, φ := fun _ => undef, ln := fun l => accLen ([] : List AObj)[l]?, n := 0 }

theorem env0_mu {P : Program} {W : World} (b o : Nat) : ¬ (env0 P W).mu b o := by
  simp only [env0]
  rintro (⟨l, x, hx, _⟩ | h)
  · simp at hx
  · exact h

section
variable {H : Type} {en : TypeId × Value → H} {P : Program} {W : World} {sp : Nat → Bool} {held : Bool}

def wfI (k : IntKind) (n : Int) : Prop := (Lit.int k n).wf = true
theorem wfI_i64 {n : Int} (h : wfI .i64 n) : -9223372036854775808 ≤ n ∧ n ≤ 9223372036854775807 := by
  simpa [wfI, Lit.wf, IntKind.min, IntKind.max, IntKind.signed, IntKind.bits] using h
theorem wfI_u8 {n : Int} (h : wfI .u8 n) : 0 ≤ n ∧ n ≤ 255 := by
  simpa [wfI, Lit.wf, IntKind.min, IntKind.max, IntKind.signed, IntKind.bits] using h

def RdOK (P : Program) (W : World) {α : Type} (e : α → List AV) (bk : α → Nat) (wf : α → Prop) (cs : List Value) (d : DataW H) : Prop :=
  ∃ x, RepL (env0 P W) (e x) cs ∧ (∀ u ∈ cs, u.oneCell' = true) ∧ bk x ≤ Rows.uptoBulk d ∧ wf x

theorem rd_int {t : TypeId} {k : IntKind} {n : Nat} {cs : List Value} {x : DataW H × List MemPlace} (ht : P.underlying t = some (.int k)) (h : DataW.trod en P W 0 sp held n t cs = some x) :
    RdOK P W (fun m : Int => [.int k m]) (fun _ => 1) (wfI k) cs x.1 := by
  obtain ⟨m, rfl, rfl, hw⟩ := DataW.trod_int ht h
  exact ⟨m, ⟨_, [], rfl, rfl, rfl⟩, by simp [Value.oneCell'], by simp [Rows.uptoBulk], hw⟩
theorem rd_bool {t : TypeId} {n : Nat} {cs : List Value} {x : DataW H × List MemPlace} (ht : P.underlying t = some .bool) (h : DataW.trod en P W 0 sp held n t cs = some x) :
    RdOK P W (fun m : Bool => [.bool m]) (fun _ => 1) (fun _ => True) cs x.1 := by
  obtain ⟨m, rfl, rfl⟩ := DataW.trod_bool ht h
  exact ⟨m, ⟨_, [], rfl, rfl, rfl⟩, by simp [Value.oneCell'], by simp [Rows.uptoBulk], trivial⟩
theorem rd_str {t : TypeId} {n : Nat} {cs : List Value} {x : DataW H × List MemPlace} (ht : P.underlying t = some .string) (h : DataW.trod en P W 0 sp held n t cs = some x) :
    RdOK P W (fun m : Str => [.str (sb m)]) (fun m => m.length + 1) (fun _ => True) cs x.1 := by
  obtain ⟨s, rfl, rfl, _⟩ := DataW.trod_string ht h
  exact ⟨s.data.toList, ⟨_, [], rfl, by rw [sb_data]; rfl, rfl⟩, by simp [Value.oneCell'], by simp [Rows.uptoBulk], trivial⟩

def sumB {α : Type} (bk : α → Nat) : List α → Nat
  | [] => 1
  | x :: xs => bk x + sumB bk xs
theorem sumB_pos {α : Type} {bk : α → Nat} : ∀ xs : List α, 1 ≤ sumB bk xs
  | [] => Nat.le_refl _
  | _ :: xs => by have := sumB_pos (bk := bk) xs; simp only [sumB]; omega

theorem repMem_of {b : Nat} : ∀ {cs : List AV} {vs : List Value} {off : Nat}, RepL (env0 P W) cs vs → (∀ u ∈ vs, u.oneCell' = true) → (∀ j u, vs[j]? = some u → W.cell? ⟨b, off + j, none⟩ = some u) → RepMem (env0 P W) b off cs
  | [], _, _, _, _, _ => trivial
  | c :: cs, _, off, ⟨u, us, rfl, r1, r2⟩, h1, h2 => by
    refine ⟨⟨env0_mu b off, u, h2 0 u (by simp), h1 u (by simp), r1⟩, repMem_of r2 (fun v hv => h1 v (by simp [hv])) (fun j v hj => ?_)⟩
    rw [← h2 (j + 1) v (by simpa using hj)]; congr 2; omega

theorem rd_slice {α : Type} {t e : TypeId} {sz : Nat} {enc : α → List AV} {bk : α → Nat} {wf : α → Prop} (ht : P.underlying t = some (.slice e)) (hsz : P.cellsOf e = sz) (hpos : 0 < sz) (hl : ∀ x, (enc x).length = sz)
    {n : Nat} (ih : ∀ m, m < n → ∀ cs x, DataW.trod en P W 0 sp held m e cs = some x → RdOK P W enc bk wf cs x.1) {cs : List Value} {x : DataW H × List MemPlace} (h : DataW.trod en P W 0 sp held n t cs = some x) :
    RdOK P W (fun xs : List α => [.lst false sz (mp enc xs)]) (sumB bk) (fun xs => ∀ y ∈ xs, wf y) cs x.1 := by
  rcases DataW.trod_slice ht h with ⟨rfl, rfl⟩ | ⟨a, len, cap, elems, rest, m, hm, rfl, rfl, hb, hlc, hmx, hlen, hel, hsp, hns⟩
  · refine ⟨[], ⟨_, [], rfl, ?_, rfl⟩, by simp [Value.oneCell'], by simp [Rows.uptoBulk, sumB], by simp⟩
    rw [mp_eq]
    exact ⟨none, 0, rfl, Nat.le_refl _, (by intro h; cases h), fun _ => rfl, (by intro a h; cases h), (by intro a h; cases h)⟩
  · subst hsz
    have key : ∀ (k i : Nat), i + k = len → ∃ xs : List α, xs.length = k ∧ RepRows (env0 P W) (P.cellsOf e) a.block (a.off + i * P.cellsOf e) (mp enc xs) ∧ sumB bk xs ≤ Rows.uptoBulkAll ((elems.drop i).map (·.1)) + 1 ∧ (∀ y ∈ xs, wf y) ∧ (0 < k → i = 0 → a.spot = none) := by
      intro k
      induction k with
      | zero =>
        intro i hi
        refine ⟨[], rfl, by rw [mp_eq]; trivial, ?_, by simp, by omega⟩
        simp [sumB]
      | succ k ihk =>
        intro i hi
        obtain ⟨xs, hxl, hrows, hbulk, hwf, _⟩ := ihk (i + 1) (by omega)
        have hi' : i < elems.length := by omega
        have he := hel i (by omega)
        rw [List.getElem?_eq_getElem hi'] at he
        obtain ⟨vs, hvs, htr⟩ := Option.bind_eq_some_iff.1 he
        obtain ⟨y, hy, h1, hbk, hw⟩ := ih m (by omega) vs _ htr
        obtain ⟨_, hvl, hcell⟩ := World.cells?_some hvs
        have hspot : (a.add (i * P.cellsOf e)).spot = none := by
          have h0 := hcell 0 hpos
          have hv0 : vs[0]? = some vs[0] := List.getElem?_eq_getElem (by omega)
          rw [hv0] at h0
          unfold World.cell? at h0
          have : (a.add (i * P.cellsOf e)).add 0 = a.add (i * P.cellsOf e) := by unfold Addr.add; simp
          rw [this] at h0
          split at h0
          · split at h0
            · cases h0
            · rename_i hs; simpa using hs
          · cases h0
        have hadd : a.add (i * P.cellsOf e) = ⟨a.block, a.off + i * P.cellsOf e, none⟩ := by
          unfold Addr.add at hspot ⊢
          split
          · rename_i h0
            rw [if_pos h0] at hspot
            cases a; simp_all
          · rfl
        refine ⟨y :: xs, by simp [hxl], ?_, ?_, ?_, ?_⟩
        · rw [mp_eq] at hrows ⊢
          refine ⟨hl y, repMem_of hy h1 (fun j u hj => ?_), ?_⟩
          · have hj' : j < P.cellsOf e := by rw [← hvl]; exact (List.getElem?_eq_some_iff.1 hj).1
            have := hcell j hj'
            rw [hj, hadd, add_plain] at this
            exact this
          · have e2 : a.off + i * P.cellsOf e + P.cellsOf e = a.off + (i + 1) * P.cellsOf e := by rw [Nat.add_mul]; omega
            rw [e2]; exact hrows
        · have e3 : elems.drop i = elems[i] :: elems.drop (i + 1) := List.drop_eq_getElem_cons hi'
          rw [e3]
          simp only [List.map_cons, Rows.uptoBulkAll, sumB]
          omega
        · intro z hz
          simp only [List.mem_cons] at hz
          rcases hz with rfl | hz
          · exact hw
          · exact hwf z hz
        · intro _ h0
          subst h0
          rw [Nat.zero_mul] at hspot
          simpa [Addr.add] using hspot
    obtain ⟨xs, hxl, hrows, hbulk, hwf, hspot⟩ := key len 0 (by omega)
    refine ⟨xs, ⟨_, [], rfl, ?_, rfl⟩, by simp [Value.oneCell'], ?_, hwf⟩
    · refine ⟨some a, cap, by rw [mp_length, hxl], by rw [mp_length, hxl]; exact hlc, (by intro h; cases h), (by intro h; cases h), ?_, ?_⟩
      · intro a' ha hne
        cases ha
        have : 0 < len := by
          rw [← hxl, ← mp_length enc xs]
          exact List.length_pos_iff.2 hne
        exact hspot this rfl
      · intro a' ha
        cases ha
        simpa using hrows
    · simp only [List.drop_zero] at hbulk
      simp only [Rows.uptoBulk]
      omega

theorem fld {fs : Array Field} {i : Nat} {ty off : Nat} (h : (fs[i]?).map (fun f => (f.type, f.offset)) = some (ty, off)) : ∃ f, fs[i]? = some f ∧ f.type = ty ∧ f.offset = off := by
  cases hf : fs[i]? with
  | none => rw [hf] at h; cases h
  | some f => rw [hf] at h; cases h; exact ⟨f, rfl, rfl, rfl⟩
theorem fld_read {fs : Array Field} {i : Nat} {ty off : Nat} {m sz : Nat} {cs : List Value} {xs : List (DataW H × List MemPlace)} (h : (fs[i]?).map (fun f => (f.type, f.offset)) = some (ty, off)) (hsz : P.cellsOf ty = sz)
    (hf : ∀ (i : Nat) (f : Field), fs[i]? = some f → DataW.trod en P W 0 sp held m f.type ((cs.drop f.offset).take (P.cellsOf f.type)) = xs[i]?) (hi : i < xs.length) : DataW.trod en P W 0 sp held m ty ((cs.drop off).take sz) = some xs[i] := by
  obtain ⟨f, h1, rfl, rfl⟩ := fld h
  rw [← hsz, hf i f h1, List.getElem?_eq_getElem hi]
theorem rep_field {E : Env} {cs : List Value} {a b : List AV} {o s : Nat} (h1 : RepL E a ((cs.drop o).take s)) (h2 : RepL E b (cs.drop (o + s))) : RepL E (a ++ b) (cs.drop o) := by
  have := RepL.append h1 h2
  rw [← List.drop_drop, List.take_append_drop] at this
  exact this
theorem one_field {cs : List Value} {o s : Nat} (h1 : ∀ u ∈ (cs.drop o).take s, u.oneCell' = true) (h2 : ∀ u ∈ cs.drop (o + s), u.oneCell' = true) : ∀ u ∈ cs.drop o, u.oneCell' = true := by
  intro u hu
  rw [← List.take_append_drop s (cs.drop o), List.mem_append, List.drop_drop] at hu
  rcases hu with hu | hu
  · exact h1 u hu
  · exact h2 u hu
theorem rep_end {E : Env} {cs : List Value} {o : Nat} (h : cs.length = o) : RepL E [] (cs.drop o) := by
  rw [List.drop_of_length_le (by omega)]; rfl
theorem one_end {cs : List Value} {o : Nat} (h : cs.length = o) : ∀ u ∈ cs.drop o, u.oneCell' = true := by
  rw [List.drop_of_length_le (by omega)]; simp
end
end Go.Abs
namespace Go.Abs
open Go.Proofs
open Go.Proofs.Ytocalpbkeegkbaa
set_option maxRecDepth 100000
set_option linter.unusedVariables false
def Zs2.bulk (x : Zs2) : Nat := 1 + (1 + 1)
def Zs2.wf (x : Zs2) : Prop := wfI .i64 x.index ∧ wfI .i64 x.plus ∧ True
theorem Zs2.read {H : Type} {en : TypeId × Value → H} {W : World} {sp : Nat → Bool} {held : Bool} : ∀ (n : Nat) (cs : List Value) (x : DataW H × List MemPlace), DataW.trod en Try.prog W 0 sp held n 99 cs = some x → RdOK Try.prog W Zs2.cells Zs2.bulk Zs2.wf cs x.1
  | n, cs, x, h => by
    obtain ⟨xs, m, hm, rfl, hl, hlen, hf⟩ := DataW.trod_struct (fs := Try.prog.fieldsOf 99) (by kernel_rfl) h
    have hsz : Try.prog.cellsOf 99 = 2 := by kernel_rfl
    have hfs : (Try.prog.fieldsOf 99).size = 2 := by kernel_rfl
    rw [hsz] at hl
    rw [hfs] at hlen
    have h0 := fld_read (i := 0) (ty := 3) (off := 0) (sz := 1) (by kernel_rfl) (by kernel_rfl) hf (by omega)
    have h1 := fld_read (i := 1) (ty := 3) (off := 1) (sz := 1) (by kernel_rfl) (by kernel_rfl) hf (by omega)
    match xs, hlen, h0, h1 with
    | [y0, y1], _, h0, h1 =>
      obtain ⟨x0, r0, o0, b0, w0⟩ := rd_int (t := 3) (k := .i64) (by kernel_rfl) h0
      obtain ⟨x1, r1, o1, b1, w1⟩ := rd_int (t := 3) (k := .i64) (by kernel_rfl) h1
      have b0 : 1 ≤ Rows.uptoBulk y0.1 := b0
      have b1 : 1 ≤ Rows.uptoBulk y1.1 := b1
      refine ⟨⟨x0, x1⟩, ?_, ?_, ?_, ?_⟩
      · have hr := (rep_field r0 (rep_field r1 (rep_end hl)))
        rw [List.drop_zero] at hr
        rw [Zs2.cells_cat]
        simpa only [List.append_assoc, List.cons_append, List.nil_append, List.append_nil] using hr
      · have ho := (one_field o0 (one_field o1 (one_end hl)))
        rw [List.drop_zero] at ho
        exact ho
      · simp only [List.map_cons, List.map_nil, Rows.uptoBulk, Rows.uptoBulkAll, Zs2.bulk]
        omega
      · exact ⟨w0, w1, trivial⟩
def Level.bulk (x : Level) : Nat := 1 + (sumB Zs2.bulk x.vars + 1)
def Level.wf (x : Level) : Prop := wfI .i64 x.const ∧ (∀ y ∈ x.vars, y.wf) ∧ True
theorem Level.read {H : Type} {en : TypeId × Value → H} {W : World} {sp : Nat → Bool} {held : Bool} : ∀ (n : Nat) (cs : List Value) (x : DataW H × List MemPlace), DataW.trod en Try.prog W 0 sp held n 81 cs = some x → RdOK Try.prog W Level.cells Level.bulk Level.wf cs x.1
  | n, cs, x, h => by
    obtain ⟨xs, m, hm, rfl, hl, hlen, hf⟩ := DataW.trod_struct (fs := Try.prog.fieldsOf 81) (by kernel_rfl) h
    have hsz : Try.prog.cellsOf 81 = 2 := by kernel_rfl
    have hfs : (Try.prog.fieldsOf 81).size = 2 := by kernel_rfl
    rw [hsz] at hl
    rw [hfs] at hlen
    have h0 := fld_read (i := 0) (ty := 3) (off := 0) (sz := 1) (by kernel_rfl) (by kernel_rfl) hf (by omega)
    have h1 := fld_read (i := 1) (ty := 79) (off := 1) (sz := 1) (by kernel_rfl) (by kernel_rfl) hf (by omega)
    match xs, hlen, h0, h1 with
    | [y0, y1], _, h0, h1 =>
      obtain ⟨x0, r0, o0, b0, w0⟩ := rd_int (t := 3) (k := .i64) (by kernel_rfl) h0
      obtain ⟨x1, r1, o1, b1, w1⟩ := rd_slice (t := 79) (e := 99) (sz := 2) (enc := Zs2.cells) (bk := Zs2.bulk) (wf := Zs2.wf) (by kernel_rfl) (by kernel_rfl) (by decide) Zs2.length (fun k hk cs x h => Zs2.read k cs x h) h1
      have b0 : 1 ≤ Rows.uptoBulk y0.1 := b0
      have b1 : sumB Zs2.bulk x1 ≤ Rows.uptoBulk y1.1 := b1
      refine ⟨⟨x0, x1⟩, ?_, ?_, ?_, ?_⟩
      · have hr := (rep_field r0 (rep_field r1 (rep_end hl)))
        rw [List.drop_zero] at hr
        rw [Level.cells_cat]
        simpa only [List.append_assoc, List.cons_append, List.nil_append, List.append_nil] using hr
      · have ho := (one_field o0 (one_field o1 (one_end hl)))
        rw [List.drop_zero] at ho
        exact ho
      · simp only [List.map_cons, List.map_nil, Rows.uptoBulk, Rows.uptoBulkAll, Level.bulk]
        omega
      · exact ⟨w0, w1, trivial⟩
mutual
def Term.bulk : Term → Nat
  | .mk kind index name levels kids => 1 + (1 + ((name.length + 1) + (sumB Level.bulk levels + (Term.bulkL kids + 1))))
def Term.bulkL : List Term → Nat
  | [] => 1
  | x :: xs => x.bulk + Term.bulkL xs
end
mutual
def Term.wf : Term → Prop
  | .mk kind index name levels kids => wfI .i64 kind ∧ wfI .i64 index ∧ True ∧ (∀ y ∈ levels, y.wf) ∧ Term.wfL kids ∧ True
def Term.wfL : List Term → Prop
  | [] => True
  | x :: xs => x.wf ∧ Term.wfL xs
end
theorem Term.bulkL_eq : ∀ xs, Term.bulkL xs = sumB Term.bulk xs
  | [] => by simp only [Term.bulkL, sumB]
  | x :: xs => by simp only [Term.bulkL, sumB, Term.bulkL_eq xs]
theorem Term.wfL_eq : ∀ xs, Term.wfL xs ↔ ∀ y ∈ xs, Term.wf y
  | [] => by simp [Term.wfL]
  | x :: xs => by simp [Term.wfL, Term.wfL_eq xs]
theorem Term.bulk_eq (x : Term) : x.bulk = 1 + (1 + ((x.name.length + 1) + (sumB Level.bulk x.levels + (sumB Term.bulk x.kids + 1)))) := by
  cases x
  simp only [Term.bulk, Term.bulkL_eq]
  rfl
theorem Term.wf_eq (x : Term) : x.wf ↔ (wfI .i64 x.kind ∧ wfI .i64 x.index ∧ True ∧ (∀ y ∈ x.levels, y.wf) ∧ (∀ y ∈ x.kids, y.wf) ∧ True) := by
  cases x
  simp only [Term.wf, Term.wfL_eq]
  exact Iff.rfl
mutual
theorem Term.read {H : Type} {en : TypeId × Value → H} {W : World} {sp : Nat → Bool} {held : Bool} : ∀ (n : Nat) (cs : List Value) (x : DataW H × List MemPlace), DataW.trod en Try.prog W 0 sp held n 25 cs = some x → RdOK Try.prog W Term.cells Term.bulk Term.wf cs x.1
  | n, cs, x, h => by
    obtain ⟨xs, m, hm, rfl, hl, hlen, hf⟩ := DataW.trod_struct (fs := Try.prog.fieldsOf 25) (by kernel_rfl) h
    have hsz : Try.prog.cellsOf 25 = 5 := by kernel_rfl
    have hfs : (Try.prog.fieldsOf 25).size = 5 := by kernel_rfl
    rw [hsz] at hl
    rw [hfs] at hlen
    have h0 := fld_read (i := 0) (ty := 3) (off := 0) (sz := 1) (by kernel_rfl) (by kernel_rfl) hf (by omega)
    have h1 := fld_read (i := 1) (ty := 3) (off := 1) (sz := 1) (by kernel_rfl) (by kernel_rfl) hf (by omega)
    have h2 := fld_read (i := 2) (ty := 9) (off := 2) (sz := 1) (by kernel_rfl) (by kernel_rfl) hf (by omega)
    have h3 := fld_read (i := 3) (ty := 22) (off := 3) (sz := 1) (by kernel_rfl) (by kernel_rfl) hf (by omega)
    have h4 := fld_read (i := 4) (ty := 23) (off := 4) (sz := 1) (by kernel_rfl) (by kernel_rfl) hf (by omega)
    match xs, hlen, h0, h1, h2, h3, h4 with
    | [y0, y1, y2, y3, y4], _, h0, h1, h2, h3, h4 =>
      obtain ⟨x0, r0, o0, b0, w0⟩ := rd_int (t := 3) (k := .i64) (by kernel_rfl) h0
      obtain ⟨x1, r1, o1, b1, w1⟩ := rd_int (t := 3) (k := .i64) (by kernel_rfl) h1
      obtain ⟨x2, r2, o2, b2, w2⟩ := rd_str (t := 9) (by kernel_rfl) h2
      obtain ⟨x3, r3, o3, b3, w3⟩ := rd_slice (t := 22) (e := 81) (sz := 2) (enc := Level.cells) (bk := Level.bulk) (wf := Level.wf) (by kernel_rfl) (by kernel_rfl) (by decide) Level.length (fun k hk cs x h => Level.read k cs x h) h3
      obtain ⟨x4, r4, o4, b4, w4⟩ := rd_slice (t := 23) (e := 25) (sz := 5) (enc := Term.cells) (bk := Term.bulk) (wf := Term.wf) (by kernel_rfl) (by kernel_rfl) (by decide) Term.length (fun k hk cs x h => Term.read k cs x h) h4
      have b0 : 1 ≤ Rows.uptoBulk y0.1 := b0
      have b1 : 1 ≤ Rows.uptoBulk y1.1 := b1
      have b2 : (x2.length + 1) ≤ Rows.uptoBulk y2.1 := b2
      have b3 : sumB Level.bulk x3 ≤ Rows.uptoBulk y3.1 := b3
      have b4 : sumB Term.bulk x4 ≤ Rows.uptoBulk y4.1 := b4
      refine ⟨.mk x0 x1 x2 x3 x4, ?_, ?_, ?_, ?_⟩
      · have hr := (rep_field r0 (rep_field r1 (rep_field r2 (rep_field r3 (rep_field r4 (rep_end hl))))))
        rw [List.drop_zero] at hr
        rw [Term.cells_cat]
        simpa only [List.append_assoc, List.cons_append, List.nil_append, List.append_nil, Term.kind, Term.index, Term.name, Term.levels, Term.kids] using hr
      · have ho := (one_field o0 (one_field o1 (one_field o2 (one_field o3 (one_field o4 (one_end hl))))))
        rw [List.drop_zero] at ho
        exact ho
      · rw [Term.bulk_eq]
        simp only [List.map_cons, List.map_nil, Rows.uptoBulk, Rows.uptoBulkAll]
        simp only [Term.kind, Term.index, Term.name, Term.levels, Term.kids]
        omega
      · rw [Term.wf_eq]
        exact ⟨w0, w1, w2, w3, w4, trivial⟩
  termination_by n => n
  decreasing_by all_goals omega
end
def Zs3.bulk (x : Zs3) : Nat := 1 + (x.type.bulk + (sumB Term.bulk x.rules + 1))
def Zs3.wf (x : Zs3) : Prop := wfI .i64 x.params ∧ x.type.wf ∧ (∀ y ∈ x.rules, y.wf) ∧ True
theorem Zs3.read {H : Type} {en : TypeId × Value → H} {W : World} {sp : Nat → Bool} {held : Bool} : ∀ (n : Nat) (cs : List Value) (x : DataW H × List MemPlace), DataW.trod en Try.prog W 0 sp held n 28 cs = some x → RdOK Try.prog W Zs3.cells Zs3.bulk Zs3.wf cs x.1
  | n, cs, x, h => by
    obtain ⟨xs, m, hm, rfl, hl, hlen, hf⟩ := DataW.trod_struct (fs := Try.prog.fieldsOf 28) (by kernel_rfl) h
    have hsz : Try.prog.cellsOf 28 = 7 := by kernel_rfl
    have hfs : (Try.prog.fieldsOf 28).size = 3 := by kernel_rfl
    rw [hsz] at hl
    rw [hfs] at hlen
    have h0 := fld_read (i := 0) (ty := 3) (off := 0) (sz := 1) (by kernel_rfl) (by kernel_rfl) hf (by omega)
    have h1 := fld_read (i := 1) (ty := 25) (off := 1) (sz := 5) (by kernel_rfl) (by kernel_rfl) hf (by omega)
    have h2 := fld_read (i := 2) (ty := 23) (off := 6) (sz := 1) (by kernel_rfl) (by kernel_rfl) hf (by omega)
    match xs, hlen, h0, h1, h2 with
    | [y0, y1, y2], _, h0, h1, h2 =>
      obtain ⟨x0, r0, o0, b0, w0⟩ := rd_int (t := 3) (k := .i64) (by kernel_rfl) h0
      obtain ⟨x1, r1, o1, b1, w1⟩ := Term.read m _ _ h1
      obtain ⟨x2, r2, o2, b2, w2⟩ := rd_slice (t := 23) (e := 25) (sz := 5) (enc := Term.cells) (bk := Term.bulk) (wf := Term.wf) (by kernel_rfl) (by kernel_rfl) (by decide) Term.length (fun k hk cs x h => Term.read k cs x h) h2
      have b0 : 1 ≤ Rows.uptoBulk y0.1 := b0
      have b1 : x1.bulk ≤ Rows.uptoBulk y1.1 := b1
      have b2 : sumB Term.bulk x2 ≤ Rows.uptoBulk y2.1 := b2
      refine ⟨⟨x0, x1, x2⟩, ?_, ?_, ?_, ?_⟩
      · have hr := (rep_field r0 (rep_field r1 (rep_field r2 (rep_end hl))))
        rw [List.drop_zero] at hr
        rw [Zs3.cells_cat]
        simpa only [List.append_assoc, List.cons_append, List.nil_append, List.append_nil] using hr
      · have ho := (one_field o0 (one_field o1 (one_field o2 (one_end hl))))
        rw [List.drop_zero] at ho
        exact ho
      · simp only [List.map_cons, List.map_nil, Rows.uptoBulk, Rows.uptoBulkAll, Zs3.bulk]
        omega
      · exact ⟨w0, w1, w2, trivial⟩
def Ctor.bulk (x : Ctor) : Nat := (x.name.length + 1) + (x.type.bulk + 1)
def Ctor.wf (x : Ctor) : Prop := True ∧ x.type.wf ∧ True
theorem Ctor.read {H : Type} {en : TypeId × Value → H} {W : World} {sp : Nat → Bool} {held : Bool} : ∀ (n : Nat) (cs : List Value) (x : DataW H × List MemPlace), DataW.trod en Try.prog W 0 sp held n 46 cs = some x → RdOK Try.prog W Ctor.cells Ctor.bulk Ctor.wf cs x.1
  | n, cs, x, h => by
    obtain ⟨xs, m, hm, rfl, hl, hlen, hf⟩ := DataW.trod_struct (fs := Try.prog.fieldsOf 46) (by kernel_rfl) h
    have hsz : Try.prog.cellsOf 46 = 6 := by kernel_rfl
    have hfs : (Try.prog.fieldsOf 46).size = 2 := by kernel_rfl
    rw [hsz] at hl
    rw [hfs] at hlen
    have h0 := fld_read (i := 0) (ty := 9) (off := 0) (sz := 1) (by kernel_rfl) (by kernel_rfl) hf (by omega)
    have h1 := fld_read (i := 1) (ty := 25) (off := 1) (sz := 5) (by kernel_rfl) (by kernel_rfl) hf (by omega)
    match xs, hlen, h0, h1 with
    | [y0, y1], _, h0, h1 =>
      obtain ⟨x0, r0, o0, b0, w0⟩ := rd_str (t := 9) (by kernel_rfl) h0
      obtain ⟨x1, r1, o1, b1, w1⟩ := Term.read m _ _ h1
      have b0 : (x0.length + 1) ≤ Rows.uptoBulk y0.1 := b0
      have b1 : x1.bulk ≤ Rows.uptoBulk y1.1 := b1
      refine ⟨⟨x0, x1⟩, ?_, ?_, ?_, ?_⟩
      · have hr := (rep_field r0 (rep_field r1 (rep_end hl)))
        rw [List.drop_zero] at hr
        rw [Ctor.cells_cat]
        simpa only [List.append_assoc, List.cons_append, List.nil_append, List.append_nil] using hr
      · have ho := (one_field o0 (one_field o1 (one_end hl)))
        rw [List.drop_zero] at ho
        exact ho
      · simp only [List.map_cons, List.map_nil, Rows.uptoBulk, Rows.uptoBulkAll, Ctor.bulk]
        omega
      · exact ⟨w0, w1, trivial⟩
mutual
def Tree.bulk : Tree → Nat
  | .mk kind body var branches => 1 + (body.bulk + (1 + (Branch.bulkL branches + 1)))
def Branch.bulk : Branch → Nat
  | .mk ctor isAbsurd tree => (ctor.length + 1) + (1 + (tree.bulk + 1))
def Branch.bulkL : List Branch → Nat
  | [] => 1
  | x :: xs => x.bulk + Branch.bulkL xs
end
mutual
def Tree.wf : Tree → Prop
  | .mk kind body var branches => wfI .i64 kind ∧ body.wf ∧ wfI .i64 var ∧ Branch.wfL branches ∧ True
def Branch.wf : Branch → Prop
  | .mk ctor isAbsurd tree => True ∧ True ∧ tree.wf ∧ True
def Branch.wfL : List Branch → Prop
  | [] => True
  | x :: xs => x.wf ∧ Branch.wfL xs
end
theorem Branch.bulkL_eq : ∀ xs, Branch.bulkL xs = sumB Branch.bulk xs
  | [] => by simp only [Branch.bulkL, sumB]
  | x :: xs => by simp only [Branch.bulkL, sumB, Branch.bulkL_eq xs]
theorem Branch.wfL_eq : ∀ xs, Branch.wfL xs ↔ ∀ y ∈ xs, Branch.wf y
  | [] => by simp [Branch.wfL]
  | x :: xs => by simp [Branch.wfL, Branch.wfL_eq xs]
theorem Tree.bulk_eq (x : Tree) : x.bulk = 1 + (x.body.bulk + (1 + (sumB Branch.bulk x.branches + 1))) := by
  cases x
  simp only [Tree.bulk, Branch.bulkL_eq]
  rfl
theorem Tree.wf_eq (x : Tree) : x.wf ↔ (wfI .i64 x.kind ∧ x.body.wf ∧ wfI .i64 x.var ∧ (∀ y ∈ x.branches, y.wf) ∧ True) := by
  cases x
  simp only [Tree.wf, Branch.wfL_eq]
  exact Iff.rfl
theorem Branch.bulk_eq (x : Branch) : x.bulk = (x.ctor.length + 1) + (1 + (x.tree.bulk + 1)) := by
  cases x
  simp only [Branch.bulk]
  rfl
theorem Branch.wf_eq (x : Branch) : x.wf ↔ (True ∧ True ∧ x.tree.wf ∧ True) := by
  cases x
  simp only [Branch.wf]
  exact Iff.rfl
mutual
theorem Tree.read {H : Type} {en : TypeId × Value → H} {W : World} {sp : Nat → Bool} {held : Bool} : ∀ (n : Nat) (cs : List Value) (x : DataW H × List MemPlace), DataW.trod en Try.prog W 0 sp held n 73 cs = some x → RdOK Try.prog W Tree.cells Tree.bulk Tree.wf cs x.1
  | n, cs, x, h => by
    obtain ⟨xs, m, hm, rfl, hl, hlen, hf⟩ := DataW.trod_struct (fs := Try.prog.fieldsOf 73) (by kernel_rfl) h
    have hsz : Try.prog.cellsOf 73 = 8 := by kernel_rfl
    have hfs : (Try.prog.fieldsOf 73).size = 4 := by kernel_rfl
    rw [hsz] at hl
    rw [hfs] at hlen
    have h0 := fld_read (i := 0) (ty := 3) (off := 0) (sz := 1) (by kernel_rfl) (by kernel_rfl) hf (by omega)
    have h1 := fld_read (i := 1) (ty := 25) (off := 1) (sz := 5) (by kernel_rfl) (by kernel_rfl) hf (by omega)
    have h2 := fld_read (i := 2) (ty := 3) (off := 6) (sz := 1) (by kernel_rfl) (by kernel_rfl) hf (by omega)
    have h3 := fld_read (i := 3) (ty := 71) (off := 7) (sz := 1) (by kernel_rfl) (by kernel_rfl) hf (by omega)
    match xs, hlen, h0, h1, h2, h3 with
    | [y0, y1, y2, y3], _, h0, h1, h2, h3 =>
      obtain ⟨x0, r0, o0, b0, w0⟩ := rd_int (t := 3) (k := .i64) (by kernel_rfl) h0
      obtain ⟨x1, r1, o1, b1, w1⟩ := Term.read m _ _ h1
      obtain ⟨x2, r2, o2, b2, w2⟩ := rd_int (t := 3) (k := .i64) (by kernel_rfl) h2
      obtain ⟨x3, r3, o3, b3, w3⟩ := rd_slice (t := 71) (e := 95) (sz := 10) (enc := Branch.cells) (bk := Branch.bulk) (wf := Branch.wf) (by kernel_rfl) (by kernel_rfl) (by decide) Branch.length (fun k hk cs x h => Branch.read k cs x h) h3
      have b0 : 1 ≤ Rows.uptoBulk y0.1 := b0
      have b1 : x1.bulk ≤ Rows.uptoBulk y1.1 := b1
      have b2 : 1 ≤ Rows.uptoBulk y2.1 := b2
      have b3 : sumB Branch.bulk x3 ≤ Rows.uptoBulk y3.1 := b3
      refine ⟨.mk x0 x1 x2 x3, ?_, ?_, ?_, ?_⟩
      · have hr := (rep_field r0 (rep_field r1 (rep_field r2 (rep_field r3 (rep_end hl)))))
        rw [List.drop_zero] at hr
        rw [Tree.cells_cat]
        simpa only [List.append_assoc, List.cons_append, List.nil_append, List.append_nil, Tree.kind, Tree.body, Tree.var, Tree.branches] using hr
      · have ho := (one_field o0 (one_field o1 (one_field o2 (one_field o3 (one_end hl)))))
        rw [List.drop_zero] at ho
        exact ho
      · rw [Tree.bulk_eq]
        simp only [List.map_cons, List.map_nil, Rows.uptoBulk, Rows.uptoBulkAll]
        simp only [Tree.kind, Tree.body, Tree.var, Tree.branches]
        omega
      · rw [Tree.wf_eq]
        exact ⟨w0, w1, w2, w3, trivial⟩
  termination_by n => n
  decreasing_by all_goals omega
theorem Branch.read {H : Type} {en : TypeId × Value → H} {W : World} {sp : Nat → Bool} {held : Bool} : ∀ (n : Nat) (cs : List Value) (x : DataW H × List MemPlace), DataW.trod en Try.prog W 0 sp held n 95 cs = some x → RdOK Try.prog W Branch.cells Branch.bulk Branch.wf cs x.1
  | n, cs, x, h => by
    obtain ⟨xs, m, hm, rfl, hl, hlen, hf⟩ := DataW.trod_struct (fs := Try.prog.fieldsOf 95) (by kernel_rfl) h
    have hsz : Try.prog.cellsOf 95 = 10 := by kernel_rfl
    have hfs : (Try.prog.fieldsOf 95).size = 3 := by kernel_rfl
    rw [hsz] at hl
    rw [hfs] at hlen
    have h0 := fld_read (i := 0) (ty := 9) (off := 0) (sz := 1) (by kernel_rfl) (by kernel_rfl) hf (by omega)
    have h1 := fld_read (i := 1) (ty := 4) (off := 1) (sz := 1) (by kernel_rfl) (by kernel_rfl) hf (by omega)
    have h2 := fld_read (i := 2) (ty := 73) (off := 2) (sz := 8) (by kernel_rfl) (by kernel_rfl) hf (by omega)
    match xs, hlen, h0, h1, h2 with
    | [y0, y1, y2], _, h0, h1, h2 =>
      obtain ⟨x0, r0, o0, b0, w0⟩ := rd_str (t := 9) (by kernel_rfl) h0
      obtain ⟨x1, r1, o1, b1, w1⟩ := rd_bool (t := 4) (by kernel_rfl) h1
      obtain ⟨x2, r2, o2, b2, w2⟩ := Tree.read m _ _ h2
      have b0 : (x0.length + 1) ≤ Rows.uptoBulk y0.1 := b0
      have b1 : 1 ≤ Rows.uptoBulk y1.1 := b1
      have b2 : x2.bulk ≤ Rows.uptoBulk y2.1 := b2
      refine ⟨.mk x0 x1 x2, ?_, ?_, ?_, ?_⟩
      · have hr := (rep_field r0 (rep_field r1 (rep_field r2 (rep_end hl))))
        rw [List.drop_zero] at hr
        rw [Branch.cells_cat]
        simpa only [List.append_assoc, List.cons_append, List.nil_append, List.append_nil, Branch.ctor, Branch.isAbsurd, Branch.tree] using hr
      · have ho := (one_field o0 (one_field o1 (one_field o2 (one_end hl))))
        rw [List.drop_zero] at ho
        exact ho
      · rw [Branch.bulk_eq]
        simp only [List.map_cons, List.map_nil, Rows.uptoBulk, Rows.uptoBulkAll]
        simp only [Branch.ctor, Branch.isAbsurd, Branch.tree]
        omega
      · rw [Branch.wf_eq]
        exact ⟨w0, w1, w2, trivial⟩
  termination_by n => n
  decreasing_by all_goals omega
end
def Fun.bulk (x : Fun) : Nat := (x.name.length + 1) + (x.type.bulk + (1 + (x.tree.bulk + 1)))
def Fun.wf (x : Fun) : Prop := True ∧ x.type.wf ∧ wfI .i64 x.arity ∧ x.tree.wf ∧ True
theorem Fun.read {H : Type} {en : TypeId × Value → H} {W : World} {sp : Nat → Bool} {held : Bool} : ∀ (n : Nat) (cs : List Value) (x : DataW H × List MemPlace), DataW.trod en Try.prog W 0 sp held n 75 cs = some x → RdOK Try.prog W Fun.cells Fun.bulk Fun.wf cs x.1
  | n, cs, x, h => by
    obtain ⟨xs, m, hm, rfl, hl, hlen, hf⟩ := DataW.trod_struct (fs := Try.prog.fieldsOf 75) (by kernel_rfl) h
    have hsz : Try.prog.cellsOf 75 = 15 := by kernel_rfl
    have hfs : (Try.prog.fieldsOf 75).size = 4 := by kernel_rfl
    rw [hsz] at hl
    rw [hfs] at hlen
    have h0 := fld_read (i := 0) (ty := 9) (off := 0) (sz := 1) (by kernel_rfl) (by kernel_rfl) hf (by omega)
    have h1 := fld_read (i := 1) (ty := 25) (off := 1) (sz := 5) (by kernel_rfl) (by kernel_rfl) hf (by omega)
    have h2 := fld_read (i := 2) (ty := 3) (off := 6) (sz := 1) (by kernel_rfl) (by kernel_rfl) hf (by omega)
    have h3 := fld_read (i := 3) (ty := 73) (off := 7) (sz := 8) (by kernel_rfl) (by kernel_rfl) hf (by omega)
    match xs, hlen, h0, h1, h2, h3 with
    | [y0, y1, y2, y3], _, h0, h1, h2, h3 =>
      obtain ⟨x0, r0, o0, b0, w0⟩ := rd_str (t := 9) (by kernel_rfl) h0
      obtain ⟨x1, r1, o1, b1, w1⟩ := Term.read m _ _ h1
      obtain ⟨x2, r2, o2, b2, w2⟩ := rd_int (t := 3) (k := .i64) (by kernel_rfl) h2
      obtain ⟨x3, r3, o3, b3, w3⟩ := Tree.read m _ _ h3
      have b0 : (x0.length + 1) ≤ Rows.uptoBulk y0.1 := b0
      have b1 : x1.bulk ≤ Rows.uptoBulk y1.1 := b1
      have b2 : 1 ≤ Rows.uptoBulk y2.1 := b2
      have b3 : x3.bulk ≤ Rows.uptoBulk y3.1 := b3
      refine ⟨⟨x0, x1, x2, x3⟩, ?_, ?_, ?_, ?_⟩
      · have hr := (rep_field r0 (rep_field r1 (rep_field r2 (rep_field r3 (rep_end hl)))))
        rw [List.drop_zero] at hr
        rw [Fun.cells_cat]
        simpa only [List.append_assoc, List.cons_append, List.nil_append, List.append_nil] using hr
      · have ho := (one_field o0 (one_field o1 (one_field o2 (one_field o3 (one_end hl)))))
        rw [List.drop_zero] at ho
        exact ho
      · simp only [List.map_cons, List.map_nil, Rows.uptoBulk, Rows.uptoBulkAll, Fun.bulk]
        omega
      · exact ⟨w0, w1, w2, w3, trivial⟩
def Decl.bulk (x : Decl) : Nat := 1 + ((x.name.length + 1) + (1 + (x.type.bulk + (x.value.bulk + (1 + (sumB Ctor.bulk x.ctors + (x.recu.bulk + (sumB Fun.bulk x.funs + 1))))))))
def Decl.wf (x : Decl) : Prop := wfI .i64 x.kind ∧ True ∧ wfI .i64 x.params ∧ x.type.wf ∧ x.value.wf ∧ wfI .i64 x.fixed ∧ (∀ y ∈ x.ctors, y.wf) ∧ x.recu.wf ∧ (∀ y ∈ x.funs, y.wf) ∧ True
theorem Decl.read {H : Type} {en : TypeId × Value → H} {W : World} {sp : Nat → Bool} {held : Bool} : ∀ (n : Nat) (cs : List Value) (x : DataW H × List MemPlace), DataW.trod en Try.prog W 0 sp held n 31 cs = some x → RdOK Try.prog W Decl.cells Decl.bulk Decl.wf cs x.1
  | n, cs, x, h => by
    obtain ⟨xs, m, hm, rfl, hl, hlen, hf⟩ := DataW.trod_struct (fs := Try.prog.fieldsOf 31) (by kernel_rfl) h
    have hsz : Try.prog.cellsOf 31 = 23 := by kernel_rfl
    have hfs : (Try.prog.fieldsOf 31).size = 9 := by kernel_rfl
    rw [hsz] at hl
    rw [hfs] at hlen
    have h0 := fld_read (i := 0) (ty := 3) (off := 0) (sz := 1) (by kernel_rfl) (by kernel_rfl) hf (by omega)
    have h1 := fld_read (i := 1) (ty := 9) (off := 1) (sz := 1) (by kernel_rfl) (by kernel_rfl) hf (by omega)
    have h2 := fld_read (i := 2) (ty := 3) (off := 2) (sz := 1) (by kernel_rfl) (by kernel_rfl) hf (by omega)
    have h3 := fld_read (i := 3) (ty := 25) (off := 3) (sz := 5) (by kernel_rfl) (by kernel_rfl) hf (by omega)
    have h4 := fld_read (i := 4) (ty := 25) (off := 8) (sz := 5) (by kernel_rfl) (by kernel_rfl) hf (by omega)
    have h5 := fld_read (i := 5) (ty := 3) (off := 13) (sz := 1) (by kernel_rfl) (by kernel_rfl) hf (by omega)
    have h6 := fld_read (i := 6) (ty := 26) (off := 14) (sz := 1) (by kernel_rfl) (by kernel_rfl) hf (by omega)
    have h7 := fld_read (i := 7) (ty := 28) (off := 15) (sz := 7) (by kernel_rfl) (by kernel_rfl) hf (by omega)
    have h8 := fld_read (i := 8) (ty := 29) (off := 22) (sz := 1) (by kernel_rfl) (by kernel_rfl) hf (by omega)
    match xs, hlen, h0, h1, h2, h3, h4, h5, h6, h7, h8 with
    | [y0, y1, y2, y3, y4, y5, y6, y7, y8], _, h0, h1, h2, h3, h4, h5, h6, h7, h8 =>
      obtain ⟨x0, r0, o0, b0, w0⟩ := rd_int (t := 3) (k := .i64) (by kernel_rfl) h0
      obtain ⟨x1, r1, o1, b1, w1⟩ := rd_str (t := 9) (by kernel_rfl) h1
      obtain ⟨x2, r2, o2, b2, w2⟩ := rd_int (t := 3) (k := .i64) (by kernel_rfl) h2
      obtain ⟨x3, r3, o3, b3, w3⟩ := Term.read m _ _ h3
      obtain ⟨x4, r4, o4, b4, w4⟩ := Term.read m _ _ h4
      obtain ⟨x5, r5, o5, b5, w5⟩ := rd_int (t := 3) (k := .i64) (by kernel_rfl) h5
      obtain ⟨x6, r6, o6, b6, w6⟩ := rd_slice (t := 26) (e := 46) (sz := 6) (enc := Ctor.cells) (bk := Ctor.bulk) (wf := Ctor.wf) (by kernel_rfl) (by kernel_rfl) (by decide) Ctor.length (fun k hk cs x h => Ctor.read k cs x h) h6
      obtain ⟨x7, r7, o7, b7, w7⟩ := Zs3.read m _ _ h7
      obtain ⟨x8, r8, o8, b8, w8⟩ := rd_slice (t := 29) (e := 75) (sz := 15) (enc := Fun.cells) (bk := Fun.bulk) (wf := Fun.wf) (by kernel_rfl) (by kernel_rfl) (by decide) Fun.length (fun k hk cs x h => Fun.read k cs x h) h8
      have b0 : 1 ≤ Rows.uptoBulk y0.1 := b0
      have b1 : (x1.length + 1) ≤ Rows.uptoBulk y1.1 := b1
      have b2 : 1 ≤ Rows.uptoBulk y2.1 := b2
      have b3 : x3.bulk ≤ Rows.uptoBulk y3.1 := b3
      have b4 : x4.bulk ≤ Rows.uptoBulk y4.1 := b4
      have b5 : 1 ≤ Rows.uptoBulk y5.1 := b5
      have b6 : sumB Ctor.bulk x6 ≤ Rows.uptoBulk y6.1 := b6
      have b7 : x7.bulk ≤ Rows.uptoBulk y7.1 := b7
      have b8 : sumB Fun.bulk x8 ≤ Rows.uptoBulk y8.1 := b8
      refine ⟨⟨x0, x1, x2, x3, x4, x5, x6, x7, x8⟩, ?_, ?_, ?_, ?_⟩
      · have hr := (rep_field r0 (rep_field r1 (rep_field r2 (rep_field r3 (rep_field r4 (rep_field r5 (rep_field r6 (rep_field r7 (rep_field r8 (rep_end hl))))))))))
        rw [List.drop_zero] at hr
        rw [Decl.cells_cat]
        simpa only [List.append_assoc, List.cons_append, List.nil_append, List.append_nil] using hr
      · have ho := (one_field o0 (one_field o1 (one_field o2 (one_field o3 (one_field o4 (one_field o5 (one_field o6 (one_field o7 (one_field o8 (one_end hl))))))))))
        rw [List.drop_zero] at ho
        exact ho
      · simp only [List.map_cons, List.map_nil, Rows.uptoBulk, Rows.uptoBulkAll, Decl.bulk]
        omega
      · exact ⟨w0, w1, w2, w3, w4, w5, w6, w7, w8, trivial⟩
def Zs5.bulk (x : Zs5) : Nat := 1 + (sumB Term.bulk x.args + (sumB Term.bulk x.results + 1))
def Zs5.wf (x : Zs5) : Prop := wfI .i64 x.field ∧ (∀ y ∈ x.args, y.wf) ∧ (∀ y ∈ x.results, y.wf) ∧ True
theorem Zs5.read {H : Type} {en : TypeId × Value → H} {W : World} {sp : Nat → Bool} {held : Bool} : ∀ (n : Nat) (cs : List Value) (x : DataW H × List MemPlace), DataW.trod en Try.prog W 0 sp held n 59 cs = some x → RdOK Try.prog W Zs5.cells Zs5.bulk Zs5.wf cs x.1
  | n, cs, x, h => by
    obtain ⟨xs, m, hm, rfl, hl, hlen, hf⟩ := DataW.trod_struct (fs := Try.prog.fieldsOf 59) (by kernel_rfl) h
    have hsz : Try.prog.cellsOf 59 = 3 := by kernel_rfl
    have hfs : (Try.prog.fieldsOf 59).size = 3 := by kernel_rfl
    rw [hsz] at hl
    rw [hfs] at hlen
    have h0 := fld_read (i := 0) (ty := 3) (off := 0) (sz := 1) (by kernel_rfl) (by kernel_rfl) hf (by omega)
    have h1 := fld_read (i := 1) (ty := 23) (off := 1) (sz := 1) (by kernel_rfl) (by kernel_rfl) hf (by omega)
    have h2 := fld_read (i := 2) (ty := 23) (off := 2) (sz := 1) (by kernel_rfl) (by kernel_rfl) hf (by omega)
    match xs, hlen, h0, h1, h2 with
    | [y0, y1, y2], _, h0, h1, h2 =>
      obtain ⟨x0, r0, o0, b0, w0⟩ := rd_int (t := 3) (k := .i64) (by kernel_rfl) h0
      obtain ⟨x1, r1, o1, b1, w1⟩ := rd_slice (t := 23) (e := 25) (sz := 5) (enc := Term.cells) (bk := Term.bulk) (wf := Term.wf) (by kernel_rfl) (by kernel_rfl) (by decide) Term.length (fun k hk cs x h => Term.read k cs x h) h1
      obtain ⟨x2, r2, o2, b2, w2⟩ := rd_slice (t := 23) (e := 25) (sz := 5) (enc := Term.cells) (bk := Term.bulk) (wf := Term.wf) (by kernel_rfl) (by kernel_rfl) (by decide) Term.length (fun k hk cs x h => Term.read k cs x h) h2
      have b0 : 1 ≤ Rows.uptoBulk y0.1 := b0
      have b1 : sumB Term.bulk x1 ≤ Rows.uptoBulk y1.1 := b1
      have b2 : sumB Term.bulk x2 ≤ Rows.uptoBulk y2.1 := b2
      refine ⟨⟨x0, x1, x2⟩, ?_, ?_, ?_, ?_⟩
      · have hr := (rep_field r0 (rep_field r1 (rep_field r2 (rep_end hl))))
        rw [List.drop_zero] at hr
        rw [Zs5.cells_cat]
        simpa only [List.append_assoc, List.cons_append, List.nil_append, List.append_nil] using hr
      · have ho := (one_field o0 (one_field o1 (one_field o2 (one_end hl))))
        rw [List.drop_zero] at ho
        exact ho
      · simp only [List.map_cons, List.map_nil, Rows.uptoBulk, Rows.uptoBulkAll, Zs5.bulk]
        omega
      · exact ⟨w0, w1, w2, trivial⟩
def Zs4.bulk (x : Zs4) : Nat := (x.name.length + 1) + (sumB Term.bulk x.fields + (sumB Zs5.bulk x.recu + (sumB Term.bulk x.results + 1)))
def Zs4.wf (x : Zs4) : Prop := True ∧ (∀ y ∈ x.fields, y.wf) ∧ (∀ y ∈ x.recu, y.wf) ∧ (∀ y ∈ x.results, y.wf) ∧ True
theorem Zs4.read {H : Type} {en : TypeId × Value → H} {W : World} {sp : Nat → Bool} {held : Bool} : ∀ (n : Nat) (cs : List Value) (x : DataW H × List MemPlace), DataW.trod en Try.prog W 0 sp held n 56 cs = some x → RdOK Try.prog W Zs4.cells Zs4.bulk Zs4.wf cs x.1
  | n, cs, x, h => by
    obtain ⟨xs, m, hm, rfl, hl, hlen, hf⟩ := DataW.trod_struct (fs := Try.prog.fieldsOf 56) (by kernel_rfl) h
    have hsz : Try.prog.cellsOf 56 = 4 := by kernel_rfl
    have hfs : (Try.prog.fieldsOf 56).size = 4 := by kernel_rfl
    rw [hsz] at hl
    rw [hfs] at hlen
    have h0 := fld_read (i := 0) (ty := 9) (off := 0) (sz := 1) (by kernel_rfl) (by kernel_rfl) hf (by omega)
    have h1 := fld_read (i := 1) (ty := 23) (off := 1) (sz := 1) (by kernel_rfl) (by kernel_rfl) hf (by omega)
    have h2 := fld_read (i := 2) (ty := 54) (off := 2) (sz := 1) (by kernel_rfl) (by kernel_rfl) hf (by omega)
    have h3 := fld_read (i := 3) (ty := 23) (off := 3) (sz := 1) (by kernel_rfl) (by kernel_rfl) hf (by omega)
    match xs, hlen, h0, h1, h2, h3 with
    | [y0, y1, y2, y3], _, h0, h1, h2, h3 =>
      obtain ⟨x0, r0, o0, b0, w0⟩ := rd_str (t := 9) (by kernel_rfl) h0
      obtain ⟨x1, r1, o1, b1, w1⟩ := rd_slice (t := 23) (e := 25) (sz := 5) (enc := Term.cells) (bk := Term.bulk) (wf := Term.wf) (by kernel_rfl) (by kernel_rfl) (by decide) Term.length (fun k hk cs x h => Term.read k cs x h) h1
      obtain ⟨x2, r2, o2, b2, w2⟩ := rd_slice (t := 54) (e := 59) (sz := 3) (enc := Zs5.cells) (bk := Zs5.bulk) (wf := Zs5.wf) (by kernel_rfl) (by kernel_rfl) (by decide) Zs5.length (fun k hk cs x h => Zs5.read k cs x h) h2
      obtain ⟨x3, r3, o3, b3, w3⟩ := rd_slice (t := 23) (e := 25) (sz := 5) (enc := Term.cells) (bk := Term.bulk) (wf := Term.wf) (by kernel_rfl) (by kernel_rfl) (by decide) Term.length (fun k hk cs x h => Term.read k cs x h) h3
      have b0 : (x0.length + 1) ≤ Rows.uptoBulk y0.1 := b0
      have b1 : sumB Term.bulk x1 ≤ Rows.uptoBulk y1.1 := b1
      have b2 : sumB Zs5.bulk x2 ≤ Rows.uptoBulk y2.1 := b2
      have b3 : sumB Term.bulk x3 ≤ Rows.uptoBulk y3.1 := b3
      refine ⟨⟨x0, x1, x2, x3⟩, ?_, ?_, ?_, ?_⟩
      · have hr := (rep_field r0 (rep_field r1 (rep_field r2 (rep_field r3 (rep_end hl)))))
        rw [List.drop_zero] at hr
        rw [Zs4.cells_cat]
        simpa only [List.append_assoc, List.cons_append, List.nil_append, List.append_nil] using hr
      · have ho := (one_field o0 (one_field o1 (one_field o2 (one_field o3 (one_end hl)))))
        rw [List.drop_zero] at ho
        exact ho
      · simp only [List.map_cons, List.map_nil, Rows.uptoBulk, Rows.uptoBulkAll, Zs4.bulk]
        omega
      · exact ⟨w0, w1, w2, w3, trivial⟩
def Family.bulk (x : Family) : Nat := (x.name.length + 1) + (1 + (sumB Term.bulk x.params + (sumB Term.bulk x.indices + (x.sort.bulk + (sumB Zs4.bulk x.ctors + 1)))))
def Family.wf (x : Family) : Prop := True ∧ wfI .i64 x.levels ∧ (∀ y ∈ x.params, y.wf) ∧ (∀ y ∈ x.indices, y.wf) ∧ x.sort.wf ∧ (∀ y ∈ x.ctors, y.wf) ∧ True
theorem Family.read {H : Type} {en : TypeId × Value → H} {W : World} {sp : Nat → Bool} {held : Bool} : ∀ (n : Nat) (cs : List Value) (x : DataW H × List MemPlace), DataW.trod en Try.prog W 0 sp held n 39 cs = some x → RdOK Try.prog W Family.cells Family.bulk Family.wf cs x.1
  | n, cs, x, h => by
    obtain ⟨xs, m, hm, rfl, hl, hlen, hf⟩ := DataW.trod_struct (fs := Try.prog.fieldsOf 39) (by kernel_rfl) h
    have hsz : Try.prog.cellsOf 39 = 10 := by kernel_rfl
    have hfs : (Try.prog.fieldsOf 39).size = 6 := by kernel_rfl
    rw [hsz] at hl
    rw [hfs] at hlen
    have h0 := fld_read (i := 0) (ty := 9) (off := 0) (sz := 1) (by kernel_rfl) (by kernel_rfl) hf (by omega)
    have h1 := fld_read (i := 1) (ty := 3) (off := 1) (sz := 1) (by kernel_rfl) (by kernel_rfl) hf (by omega)
    have h2 := fld_read (i := 2) (ty := 23) (off := 2) (sz := 1) (by kernel_rfl) (by kernel_rfl) hf (by omega)
    have h3 := fld_read (i := 3) (ty := 23) (off := 3) (sz := 1) (by kernel_rfl) (by kernel_rfl) hf (by omega)
    have h4 := fld_read (i := 4) (ty := 25) (off := 4) (sz := 5) (by kernel_rfl) (by kernel_rfl) hf (by omega)
    have h5 := fld_read (i := 5) (ty := 37) (off := 9) (sz := 1) (by kernel_rfl) (by kernel_rfl) hf (by omega)
    match xs, hlen, h0, h1, h2, h3, h4, h5 with
    | [y0, y1, y2, y3, y4, y5], _, h0, h1, h2, h3, h4, h5 =>
      obtain ⟨x0, r0, o0, b0, w0⟩ := rd_str (t := 9) (by kernel_rfl) h0
      obtain ⟨x1, r1, o1, b1, w1⟩ := rd_int (t := 3) (k := .i64) (by kernel_rfl) h1
      obtain ⟨x2, r2, o2, b2, w2⟩ := rd_slice (t := 23) (e := 25) (sz := 5) (enc := Term.cells) (bk := Term.bulk) (wf := Term.wf) (by kernel_rfl) (by kernel_rfl) (by decide) Term.length (fun k hk cs x h => Term.read k cs x h) h2
      obtain ⟨x3, r3, o3, b3, w3⟩ := rd_slice (t := 23) (e := 25) (sz := 5) (enc := Term.cells) (bk := Term.bulk) (wf := Term.wf) (by kernel_rfl) (by kernel_rfl) (by decide) Term.length (fun k hk cs x h => Term.read k cs x h) h3
      obtain ⟨x4, r4, o4, b4, w4⟩ := Term.read m _ _ h4
      obtain ⟨x5, r5, o5, b5, w5⟩ := rd_slice (t := 37) (e := 56) (sz := 4) (enc := Zs4.cells) (bk := Zs4.bulk) (wf := Zs4.wf) (by kernel_rfl) (by kernel_rfl) (by decide) Zs4.length (fun k hk cs x h => Zs4.read k cs x h) h5
      have b0 : (x0.length + 1) ≤ Rows.uptoBulk y0.1 := b0
      have b1 : 1 ≤ Rows.uptoBulk y1.1 := b1
      have b2 : sumB Term.bulk x2 ≤ Rows.uptoBulk y2.1 := b2
      have b3 : sumB Term.bulk x3 ≤ Rows.uptoBulk y3.1 := b3
      have b4 : x4.bulk ≤ Rows.uptoBulk y4.1 := b4
      have b5 : sumB Zs4.bulk x5 ≤ Rows.uptoBulk y5.1 := b5
      refine ⟨⟨x0, x1, x2, x3, x4, x5⟩, ?_, ?_, ?_, ?_⟩
      · have hr := (rep_field r0 (rep_field r1 (rep_field r2 (rep_field r3 (rep_field r4 (rep_field r5 (rep_end hl)))))))
        rw [List.drop_zero] at hr
        rw [Family.cells_cat]
        simpa only [List.append_assoc, List.cons_append, List.nil_append, List.append_nil] using hr
      · have ho := (one_field o0 (one_field o1 (one_field o2 (one_field o3 (one_field o4 (one_field o5 (one_end hl)))))))
        rw [List.drop_zero] at ho
        exact ho
      · simp only [List.map_cons, List.map_nil, Rows.uptoBulk, Rows.uptoBulkAll, Family.bulk]
        omega
      · exact ⟨w0, w1, w2, w3, w4, w5, trivial⟩
def Zs1.bulk (x : Zs1) : Nat := x.own.bulk + (sumB Term.bulk x.params + (1 + 1))
def Zs1.wf (x : Zs1) : Prop := x.own.wf ∧ (∀ y ∈ x.params, y.wf) ∧ wfI .i64 x.indices ∧ True
theorem Zs1.read {H : Type} {en : TypeId × Value → H} {W : World} {sp : Nat → Bool} {held : Bool} : ∀ (n : Nat) (cs : List Value) (x : DataW H × List MemPlace), DataW.trod en Try.prog W 0 sp held n 85 cs = some x → RdOK Try.prog W Zs1.cells Zs1.bulk Zs1.wf cs x.1
  | n, cs, x, h => by
    obtain ⟨xs, m, hm, rfl, hl, hlen, hf⟩ := DataW.trod_struct (fs := Try.prog.fieldsOf 85) (by kernel_rfl) h
    have hsz : Try.prog.cellsOf 85 = 7 := by kernel_rfl
    have hfs : (Try.prog.fieldsOf 85).size = 3 := by kernel_rfl
    rw [hsz] at hl
    rw [hfs] at hlen
    have h0 := fld_read (i := 0) (ty := 25) (off := 0) (sz := 5) (by kernel_rfl) (by kernel_rfl) hf (by omega)
    have h1 := fld_read (i := 1) (ty := 23) (off := 5) (sz := 1) (by kernel_rfl) (by kernel_rfl) hf (by omega)
    have h2 := fld_read (i := 2) (ty := 3) (off := 6) (sz := 1) (by kernel_rfl) (by kernel_rfl) hf (by omega)
    match xs, hlen, h0, h1, h2 with
    | [y0, y1, y2], _, h0, h1, h2 =>
      obtain ⟨x0, r0, o0, b0, w0⟩ := Term.read m _ _ h0
      obtain ⟨x1, r1, o1, b1, w1⟩ := rd_slice (t := 23) (e := 25) (sz := 5) (enc := Term.cells) (bk := Term.bulk) (wf := Term.wf) (by kernel_rfl) (by kernel_rfl) (by decide) Term.length (fun k hk cs x h => Term.read k cs x h) h1
      obtain ⟨x2, r2, o2, b2, w2⟩ := rd_int (t := 3) (k := .i64) (by kernel_rfl) h2
      have b0 : x0.bulk ≤ Rows.uptoBulk y0.1 := b0
      have b1 : sumB Term.bulk x1 ≤ Rows.uptoBulk y1.1 := b1
      have b2 : 1 ≤ Rows.uptoBulk y2.1 := b2
      refine ⟨⟨x0, x1, x2⟩, ?_, ?_, ?_, ?_⟩
      · have hr := (rep_field r0 (rep_field r1 (rep_field r2 (rep_end hl))))
        rw [List.drop_zero] at hr
        rw [Zs1.cells_cat]
        simpa only [List.append_assoc, List.cons_append, List.nil_append, List.append_nil] using hr
      · have ho := (one_field o0 (one_field o1 (one_field o2 (one_end hl))))
        rw [List.drop_zero] at ho
        exact ho
      · simp only [List.map_cons, List.map_nil, Rows.uptoBulk, Rows.uptoBulkAll, Zs1.bulk]
        omega
      · exact ⟨w0, w1, w2, trivial⟩
end Go.Abs
namespace Go.Abs
open Go.Proofs Go.Proofs.Ytocalpbkeegkbaa Go.RowKit

section
variable {H : Type} {enc : TypeId × Value → H}
theorem returnsInHanded_of_condS {a : Assume} {C : Checked} {os : Os} {f : FuncId} {fn : Func} {s : OpenSpec} {k : (H : Type) → List (DataW H) → Bool} (hk : s.cond = some k) {F : Stop.Interp} {conds : List PathCond} {apart fresh handsOn again : Bool}
    (own : ownKnob C.prog.godebug = none) (started : os.Started) (noInit : C.prog.inits.idxOf? f = none) (hfn : C.prog.funcs[f]? = some fn)
    (witness : ∃ (w : World) (tape : Tape) (i : Input), w.os = os ∧ (w.forCall tape i).Shaped C.prog ∧ i.vars = [] ∧ Input.okWide C.prog (w.forCall tape i) .any w.heap.size f i ∧
      s.pre6 enc C.prog fn conds apart (w.forCall tape i).memory i.args ∧ a.holds C.prog (lone (Frame.enter C.prog f i.args .normal) [] (w.forCall tape i)))
    (contract : ∀ (W : World) (base : Nat) (args : Array Value) (ds gs : List (DataW H)) (before : List MemPlace),
      (∀ (j : Nat) t v, fn.params[j]? = some t → args[j]? = some v → Value.okWide C.prog W .any base t v) →
      DataW.Whole enc C.prog fn.params.toList s.vars apart W args.toList ds gs before →
      conds.all (PathCond.test C.prog ⟨fn.params.toList, ds, s.bare.plain.varTypes C.prog, gs⟩) = true → k H (ds ++ gs) = true → W.ShapedOpen C.prog →
      Calls C.prog f args W fun e W' => ∃ v, e = .returned v ∧ (s.at F).post enc C.prog fn apart fresh handsOn again W args v W') :
    ReturnsInHanded a C os f .any (s.pre6 enc C.prog fn conds apart) ((s.at F).post enc C.prog fn apart fresh handsOn again) := by
  refine returnsInHanded_of_calls own started noInit witness ?_
  intro w tape i _ hsh _ hok hpre hholds
  obtain ⟨_, _, _, fn', hfn', _, _, _, _, hval⟩ := hok
  have e : fn' = fn := Option.some.inj (hfn'.symm.trans hfn)
  subst e
  obtain ⟨ds, gs, before, hw, hc, hkk⟩ := (OpenSpec.pre_some hk conds apart _ _).1 hpre.1
  have hw' := DataW.Whole.of_heap (w' := w.forCall tape i) (by rfl) hw
  refine (contract (w.forCall tape i) w.heap.size i.args ds gs before hval hw' hc hkk hsh).mono fun e W' ⟨v, he, hp⟩ => ?_
  subst he
  exact ChangeSpec.post_blind hp
end

section
variable {H : Type} {en : TypeId × Value → H} {P : Program} {W W' : World}

def Left0 (W W' : World) : Prop := W.heap.size ≤ W'.heap.size ∧ (∀ b, b < W.heap.size → W'.heap[b]? = W.heap[b]?) ∧ (∀ x, x.block < W.heap.size → W'.frozen? x = W.frozen? x) ∧ W'.output = W.output ∧ W'.os = W.os

theorem calls_of_fnC (hk : KnowW W (fun _ _ => False)) {f : FuncId} {args : List AV} {X : AV} {vs : Array Value} (h : FnC P f args (fun r => r = X)) (hr : RepL (env0 P W) args vs.toList) :
    Calls P f vs W fun e W' => ∃ v φ', e = .returned v ∧ Rep ((ctx0 P W hk).env φ' [] W') X v ∧ Left0 W W' := by
  refine (h.2.2 (ctx0 P W hk) (fun _ => undef) W rfl rfl rfl (fun _ _ h => h) vs hr).mono ?_
  rintro e W' ⟨r, v, φ', rfl, he, hrep, h1, h2, h3, h4, h5⟩
  exact ⟨v, φ', he, hrep, h1, h2, h3, h4, h5⟩

theorem Left0.kept (h : Left0 W W') (may : MemPlace → Prop) : W.keptBut W' may := by
  obtain ⟨h1, h2, h3, h4, h5⟩ := h
  refine ⟨h5, h4, fun i hi => ?_⟩
  rw [h2 i hi]
  cases W.heap[i]? with
  | none => rfl
  | some o =>
    cases o with
    | cells c t fr => exact ⟨rfl, rfl, rfl, fun _ _ => rfl⟩
    | map es clock => exact .inr ⟨rfl, rfl⟩
    | _ => rfl

theorem post_of_sameB {enc : TypeId × Value → H} {f : Func} {s : ChangeSpec} {apart fresh handsOn again : Bool} {args : Array Value} {v : Value} {ds gs : List (DataW H)} {before pa pv : List MemPlace}
    (hW : DataW.Whole enc P f.params.toList s.vars apart W args.toList ds gs before)
    (hres : ∀ (b : Nat) (sp : Nat → Bool) (hd : Bool), DataW.TrodAll enc P W' b sp hd f.resultTypes.toList (v.resultList f.resultTypes.size) (s.fn H (ds ++ gs)).results [])
    (hargs : ∀ sp : Nat → Bool, (∀ p ∈ before, sp p.block = true) → DataW.TrodAll enc P W' 0 sp true f.params.toList args.toList (s.fn H (ds ++ gs)).args pa)
    (hvars : ∀ sp : Nat → Bool, (∀ p ∈ before, sp p.block = true) → DataW.TrodVars enc P W' sp s.vars (s.fn H (ds ++ gs)).vars pv)
    (hps : before = pa ++ pv) (hk : W.keptBut W' (· ∈ before)) (hfz : ∀ a, a.block < W.heap.size → W'.frozen? a = W.frozen? a)
    (hok : ∀ (j : Nat) (t : TypeId) (r : Value), f.resultTypes[j]? = some t → (v.resultList f.resultTypes.size)[j]? = some r → Value.okWide P W' .any 0 t r) :
    s.post enc P f apart fresh handsOn again W args v W' := by
  have hold : ∀ p ∈ before, (fun b => decide (b < W.heap.size)) p.block = true := fun p hp => by simpa using hW.lt p hp
  have hlt := hW.lt
  refine ⟨ds, gs, before, [], pa, pv, hW, hres _ _ _, hargs _ hold, hvars _ hold, World.keptBut_mono (fun p hp => ⟨hp, ?_⟩) hk, fun _ => ?_⟩
  · rw [hps, List.mem_append] at hp
    exact Or.inr hp
  · obtain ⟨_, _, _, _, _, hz, hn⟩ := hW
    refine ⟨hok, _, _, ([] ++ pa) ++ pv, ⟨[] ++ pa, pv, Go.ChangeShapes.trodAll_append (hargs _ (fun _ _ => rfl)) (hres _ _ _), hvars _ (fun _ _ => rfl), rfl, ?_, ?_⟩, ?_⟩
    · intro b off hp
      have hp' : MemPlace.cell b off ∈ before := by rw [hps]; simpa using hp
      rw [hfz _ (hlt _ hp')]
      exact hz b off hp'
    · intro ha
      have := hn ha
      rw [hps] at this
      simpa using this
    · intro p hp _
      rw [hps]
      simpa using hp

theorem arg_stays {t : TypeId} (hl : laidOutB P = true) (hr : P.readableRec t = true) (hrow : t < P.types.size) {sp : Nat → Bool} {v : Value} {d : DataW H} {ps : List MemPlace}
    (h : DataW.Trod en P W 0 (fun _ => true) true t v d ps) (hL : Left0 W W') (hs : ∀ p ∈ ps, sp p.block = true) : DataW.Trod en P W' 0 sp true t v d ps := by
  refine WideElems.Trod_stays hl hr hrow h (fun p hp => ?_) hs
  obtain ⟨n, hn⟩ := h
  have hb := DataW.trod_lt n t _ _ hn p hp
  cases p with
  | cell b off =>
    have hb' : b < W.heap.size := hb
    show W'.cell? ⟨b, off, none⟩ = W.cell? ⟨b, off, none⟩
    simp only [World.cell?, hL.2.1 b hb']
  | map b => exact hL.2.1 b hb

theorem arg_struct {α : Type} {t : TypeId} {fs : Array Field} {e : α → List AV} {bk : α → Nat} {wf : α → Prop} {base : Nat} {v : Value} {d : DataW H} {ps : List MemPlace} (ht : P.underlying t = some (.struct fs)) (hval : Value.okWide P W .any base t v)
    (h : DataW.Trod en P W 0 (fun _ => true) true t v d ps) (hread : ∀ n cs x, DataW.trod en P W 0 (fun _ => true) true n t cs = some x → RdOK P W e bk wf cs x.1) :
    ∃ x, Rep (env0 P W) (.agg (e x)) v ∧ bk x ≤ Rows.uptoBulk d ∧ wf x := by
  obtain ⟨cs, rfl, _⟩ := WideShapes.okWide_struct ht hval
  obtain ⟨n, hn⟩ := h
  obtain ⟨x, hr, _, hb, hw⟩ := hread n _ _ hn
  exact ⟨x, ⟨cs, rfl, hr⟩, hb, hw⟩
theorem arg_cell {α : Type} {t : TypeId} {e : α → AV} {bk : α → Nat} {wf : α → Prop} {v : Value} {d : DataW H} {ps : List MemPlace} (hv : v.cells.toList = [v])
    (h : DataW.Trod en P W 0 (fun _ => true) true t v d ps) (hread : ∀ n cs x, DataW.trod en P W 0 (fun _ => true) true n t cs = some x → RdOK P W (fun x => [e x]) bk wf cs x.1) :
    ∃ x, Rep (env0 P W) (e x) v ∧ bk x ≤ Rows.uptoBulk d ∧ wf x := by
  obtain ⟨n, hn⟩ := h
  obtain ⟨x, hr, _, hb, hw⟩ := hread n _ _ hn
  rw [hv] at hr
  obtain ⟨u, us, he, h1, _⟩ := hr
  simp only [List.cons.injEq] at he
  obtain ⟨rfl, _⟩ := he
  exact ⟨x, h1, hb, hw⟩
theorem cell_int {t : TypeId} {k : IntKind} {base : Nat} {v : Value} (ht : P.underlying t = some (.int k)) (hval : Value.okWide P W .any base t v) : v.cells.toList = [v] := by
  obtain ⟨n, rfl⟩ := WideShapes.okWide_int ht hval; rfl
theorem cell_string {t : TypeId} {base : Nat} {v : Value} (ht : P.underlying t = some .string) (hval : Value.okWide P W .any base t v) : v.cells.toList = [v] := by
  obtain ⟨n, rfl⟩ := WideShapes.okWide_string ht hval; rfl
theorem cell_bool {t : TypeId} {base : Nat} {v : Value} (ht : P.underlying t = some .bool) (hval : Value.okWide P W .any base t v) : v.cells.toList = [v] := by
  obtain ⟨n, rfl⟩ := WideShapes.okWide_bool ht hval; rfl
theorem cell_slice {t e : TypeId} {base : Nat} {v : Value} (ht : P.underlying t = some (.slice e)) (hval : Value.okWide P W .any base t v) : v.cells.toList = [v] := by
  obtain ⟨a, l, c, rfl⟩ := WideShapes.okWide_slice ht hval; rfl
theorem cell_other {t : TypeId} {base : Nat} {v : Value} (ht : ∀ fs, P.underlying t ≠ some (.struct fs)) (ht' : ∀ n e, P.underlying t ≠ some (.array n e)) (hval : Value.okWide P W .any base t v) (hv : ∀ cs, v ≠ .agg cs) : v.cells.toList = [v] := by
  cases v <;> first | rfl | exact absurd rfl (hv _)
end
end Go.Abs
namespace Go.Abs
theorem knowW {P : Program} {W : World} (_ : W.ShapedOpen P) : KnowW W (fun _ _ => False) := fun _ _ h => h.elim
end Go.Abs

