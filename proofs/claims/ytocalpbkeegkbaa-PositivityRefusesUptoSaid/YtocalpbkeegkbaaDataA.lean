/- A part of the proof: the data of the program. -/
import Derived.Test.YtocalpbkeegkbaaCoreC
import Derived.Test.YtocalpbkeegkbaaCoreD
import Derived.Test.YtocalpbkeegkbaaProg
import Derived.KernelRfl
set_option linter.all false
namespace Go.Abs
set_option linter.unusedSimpArgs false
set_option maxRecDepth 10000
theorem icell_nb (n : Nat) (x : Int) : nbL n (icell x) := ⟨trivial, trivial⟩
theorem ucell_nb (n : Nat) (x : Int) : nbL n (ucell x) := ⟨trivial, trivial⟩
theorem scell_nb (n : Nat) (x : Str) : nbL n (scell x) := ⟨trivial, trivial⟩
theorem bcell_nb (n : Nat) (x : Bool) : nbL n (bcell x) := ⟨trivial, trivial⟩
theorem nbR_map {α : Type} {f : α → List AV} {n : Nat} (h : ∀ x, nbL n (f x)) : ∀ xs : List α, nbR n (mp f xs)
  | [] => by rw [mp_eq]; trivial
  | x :: xs => by have := nbR_map h xs; rw [mp_eq] at this ⊢; exact ⟨h x, this⟩
theorem loadAV_all {cs : List AV} {n : Nat} (h : cs.length = n) : loadAV true n cs = some (.agg cs) := by
  simp only [loadAV, ← h, Nat.le_refl, if_true, List.take_length]
theorem cell_nbs : (∀ (n : Nat) (xs : List Int), nbR n (mp icell xs) = True) ∧ (∀ (n : Nat) (xs : List Int), nbR n (mp ucell xs) = True) ∧ (∀ (n : Nat) (xs : List Str), nbR n (mp scell xs) = True) ∧ ∀ (n : Nat) (xs : List Bool), nbR n (mp bcell xs) = True := ⟨fun n xs => eq_true (nbR_map (icell_nb n) xs), fun n xs => eq_true (nbR_map (ucell_nb n) xs), fun n xs => eq_true (nbR_map (scell_nb n) xs), fun n xs => eq_true (nbR_map (bcell_nb n) xs)⟩
theorem cell_rens : (∀ (ρ : Nat → Nat) (xs : List Int), renR ρ (mp icell xs) = mp icell xs) ∧ (∀ (ρ : Nat → Nat) (xs : List Str), renR ρ (mp scell xs) = mp scell xs) ∧ ∀ (ρ : Nat → Nat) (xs : List Bool), renR ρ (mp bcell xs) = mp bcell xs := ⟨fun ρ xs => renR_of_nb ρ _ (nbR_map (icell_nb 0) xs), fun ρ xs => renR_of_nb ρ _ (nbR_map (scell_nb 0) xs), fun ρ xs => renR_of_nb ρ _ (nbR_map (bcell_nb 0) xs)⟩
attribute [go_sem] icell scell bcell ucell cell_nbs cell_rens
theorem mapO_set {α β : Type} {f : β → Option α} {g : α → β} (h : ∀ x, f (g x) = some x) : ∀ (xs : List α) (i : Nat) (r : β), mapO f ((mp g xs).set i r) = bif decide (i < xs.length) then (f r).bind fun y => some (xs.set i y) else some xs := by
  intro xs
  rw [mp_eq]
  induction xs with
  | nil => intro i r; simp [mapO]
  | cons x xs ih =>
    intro i r
    cases i with
    | zero =>
      simp only [List.map_cons, List.set_cons_zero, mapO, mapO_map h, List.length_cons, Nat.zero_lt_succ, decide_true, cond_true]
      cases f r <;> rfl
    | succ i =>
      simp only [List.map_cons, List.set_cons_succ, mapO, h, ih i r, List.length_cons, Nat.succ_lt_succ_iff, Option.bind_some]
      by_cases hi : i < xs.length
      · simp only [hi, decide_true, cond_true]; cases f r <;> rfl
      · simp only [hi, decide_false, cond_false]; rfl
theorem mapO_set1 : (∀ (xs : List Int) (i : Nat) (r : List AV), mapO (dI1 .i64) ((mp icell xs).set i r) = bif decide (i < xs.length) then (dI1 .i64 r).bind fun y => some (xs.set i y) else some xs) ∧ (∀ (xs : List Bool) (i : Nat) (r : List AV), mapO dB1 ((mp bcell xs).set i r) = bif decide (i < xs.length) then (dB1 r).bind fun y => some (xs.set i y) else some xs) ∧ (∀ (xs : List Str) (i : Nat) (r : List AV), mapO dS1 ((mp scell xs).set i r) = bif decide (i < xs.length) then (dS1 r).bind fun y => some (xs.set i y) else some xs) := ⟨mapO_set fun x => by simp [dI1, icell, dI], mapO_set fun x => rfl, mapO_set fun x => rfl⟩
attribute [go_sem] mapO_set1
theorem mapO_repl {α β : Type} {f : β → Option α} {z : β} : ∀ n : Nat, mapO f (List.replicate n z) = bif n == 0 then some [] else (f z).bind fun y => some (List.replicate n y)
  | 0 => rfl
  | n + 1 => by
    simp only [List.replicate_succ, mapO, mapO_repl n]
    cases f z with
    | none => rfl
    | some y => cases n <;> rfl
attribute [go_sem] mapO_repl
theorem lst_of {β : Type} {t : Bool} {z k : Nat} {r rows' : List (List AV)} {o : Option β} {x : β} (hok : o = some x → SubR r rows') (h : (bif szOK z k r then o else none) = some x) : Sub (.lst t z r) (.lst false k rows') := by
  cases hs : szOK z k r with
  | false => simp [hs] at h
  | true => rw [hs] at h; exact sub_lst_sz hs (hok h)

structure Zs2 where
  index : Int
  plus : Int
def Zs2.cells (x : Zs2) : List AV := [.int .i64 x.index, .int .i64 x.plus]
theorem Zs2.cells_cat (x : Zs2) : x.cells = [.int .i64 x.index, .int .i64 x.plus] := rfl
theorem Zs2.cells_eq (x : Zs2) : x.cells = [.int .i64 x.index, .int .i64 x.plus] := rfl
attribute [irreducible] Zs2.cells
theorem Zs2.length (x : Zs2) : x.cells.length = 2 := by rw [Zs2.cells_eq]; rfl
theorem Zs2.scalar (x : Zs2) : x.cells.all AV.scalar = true := by rw [Zs2.cells_eq]; rfl
theorem Zs2.nb (n : Nat) (x : Zs2) : nbL n x.cells := by
  rw [Zs2.cells_cat]
  exact ⟨trivial, trivial, trivial⟩
def Zs2.of (H : List AObj) : List AV → Option Zs2
  | [c0, c1] => (dI .i64 c0).bind fun x0 => (dI .i64 c1).bind fun x1 => some (.mk x0 x1)
  | _ => none
theorem Zs2.of_lit {H : List AObj} {c0 c1 : AV} : Zs2.of H [c0, c1] = (dI .i64 c0).bind fun x0 => (dI .i64 c1).bind fun x1 => some (.mk x0 x1) := rfl
theorem Zs2.of_lit_cells (H : List AObj) (x : Zs2) : Zs2.of H [.int .i64 x.index, .int .i64 x.plus] = some x := by
  simp only [Zs2.of_lit, dI_int, dB_bool, dS_sb, bind_some', szOK, beq_self_eq_true, Bool.true_or, cond_true, dL]
  try (cases x; rfl)
theorem Zs2.of_cells (H : List AObj) (x : Zs2) : Zs2.of H x.cells = some x := by rw [Zs2.cells_eq]; exact Zs2.of_lit_cells H x
theorem Zs2.of_ok {H : List AObj} {n : Nat} {cs : List AV} {x : Zs2} (h : Zs2.of H cs = some x) : CoL1 H n cs x.cells := by
  unfold Zs2.of at h
  split at h
  · simp only [Option.bind_eq_some_iff, Option.some.injEq] at h
    obtain ⟨x0, h0, x1, h1, rfl⟩ := h
    rw [Zs2.cells_cat]
    exact (CoL1.cons (dI_ok h0) (CoL1.cons (dI_ok h1) CoL1.nil))
  · cases h
def Zs2.cel : Cel Zs2 := ⟨Zs2.cells, Zs2.of, fun _ _ _ _ h => Zs2.of_ok h, Zs2.nb⟩
def Zs2.row : Row Zs2 := ⟨Zs2.cells, Zs2.of [], 2, fun _ _ h => (Zs2.of_ok (n := 0) h).toSub, Zs2.nb⟩
theorem Zs2.mapO_cells (xs : List Zs2) : mapO (Zs2.of []) (mp Zs2.cells xs) = some xs := mapO_mp (Zs2.of_cells []) xs
theorem Zs2.mapO_set (xs : List Zs2) (i : Nat) (r : List AV) : mapO (Zs2.of []) ((mp Zs2.cells xs).set i r) = bif decide (i < xs.length) then (Zs2.of [] r).bind fun y => some (xs.set i y) else some xs := Go.Abs.mapO_set (Zs2.of_cells []) xs i r
attribute [go_sem low] Zs2.mapO_set
theorem Zs2.row_f : Zs2.row.enc = Zs2.cells ∧ Zs2.row.dec = Zs2.of [] ∧ Zs2.row.sz = 2 ∧ Zs2.cel.enc = Zs2.cells ∧ Zs2.cel.dec = Zs2.of := ⟨rfl, rfl, rfl, rfl, rfl⟩
theorem Zs2.eta (x : Zs2) : Zs2.mk x.index x.plus = x := by cases x; rfl
attribute [go_sem] Zs2.of_lit Zs2.of_cells Zs2.mapO_cells Zs2.row_f Zs2.eta
theorem Zs2.prj : (∀ (y0 : Int) (y1 : Int), (Zs2.mk y0 y1).index = y0) ∧ (∀ (y0 : Int) (y1 : Int), (Zs2.mk y0 y1).plus = y1) := ⟨fun _ _ => rfl, fun _ _ => rfl⟩
attribute [go_sem] Zs2.prj
theorem Zs2.nbs : (∀ (n : Nat) (x : Zs2), Go.Abs.nbL n x.cells = True) ∧ ∀ (n : Nat) (xs : List Zs2), Go.Abs.nbR n (mp Zs2.cells xs) = True := ⟨fun n x => eq_true (Zs2.nb n x), fun n xs => eq_true (nbR_map (Zs2.nb n) xs)⟩
theorem Zs2.rens : (∀ (ρ : Nat → Nat) (x : Zs2), renL ρ x.cells = x.cells) ∧ ∀ (ρ : Nat → Nat) (xs : List Zs2), renR ρ (mp Zs2.cells xs) = mp Zs2.cells xs := ⟨fun ρ x => renL_of_nb ρ _ (Zs2.nb 0 x), fun ρ xs => renR_of_nb ρ _ (nbR_map (Zs2.nb 0) xs)⟩
theorem Zs2.vw (H : List AObj) (x : Zs2) : vwL H x.cells = some (x.cells, []) := vwL_of_nb H _ (Zs2.nb 0 x)
attribute [go_sem] Zs2.vw
theorem Zs2.frz (low : Nat) (H : List AObj) (x : Zs2) : frzL low H x.cells = x.cells := frzL_of_nb low H _ (Zs2.nb 0 x)
theorem Zs2.rpv (l : Nat) (ds : List AV) (x : Zs2) : x.cells.map (rpV l ds) = x.cells := rpVL_of_nb _ (Zs2.nb 0 x)
attribute [go_sem] Zs2.rpv
theorem Zs2.tk : (∀ x : Zs2, List.take 2 x.cells = x.cells) ∧ ∀ x : Zs2, List.drop 2 x.cells = [] := ⟨fun x => by rw [Zs2.cells_eq]; rfl, fun x => by rw [Zs2.cells_eq]; rfl⟩
attribute [go_sem] Zs2.tk
theorem Zs2.reads :
    (∀ x : Zs2, cellsOf (.agg x.cells) = some x.cells) ∧
    (∀ x : Zs2, loadAV true 2 x.cells = some (.agg x.cells)) ∧
    (∀ x : Zs2, loadAV false 1 x.cells = some (.int .i64 x.index)) ∧
    (∀ x : Zs2, loadAV false 1 (x.cells.drop 1) = some (.int .i64 x.plus)) :=
  ⟨fun x => by simp only [cellsOf, Zs2.scalar, if_true],
   fun x => loadAV_all (Zs2.length x),
   fun x => by rw [Zs2.cells_eq]; rfl,
   fun x => by rw [Zs2.cells_eq]; rfl⟩
theorem Zs2.splc (x : Zs2) (o : Nat) (xs : List AV) : splice x.cells o xs = splice [.int .i64 x.index, .int .i64 x.plus] o xs := by rw [Zs2.cells_eq]
theorem Zs2.splc2 (x : Zs2) (o : Nat) (c : AV) (cs : List AV) : splice (c :: cs) o x.cells = splice (c :: cs) o [.int .i64 x.index, .int .i64 x.plus] := by rw [Zs2.cells_eq]
theorem Zs2.app (x : Zs2) (l : List AV) : x.cells ++ l = (.int .i64 x.index : AV) :: (.int .i64 x.plus : AV) :: l := by rw [Zs2.cells_eq]; rfl
theorem Zs2.cns (x : Zs2) (c : AV) : c :: x.cells = [c, .int .i64 x.index, .int .i64 x.plus] := by rw [Zs2.cells_eq]
attribute [go_sem] Zs2.app Zs2.cns
attribute [go_sem] Zs2.nbs Zs2.rens Zs2.frz Zs2.reads Zs2.length Zs2.scalar
attribute [go_sem low] Zs2.splc Zs2.splc2

structure Level where
  const : Int
  vars : List Zs2
def Level.cells (x : Level) : List AV := [.int .i64 x.const, .lst false 2 (mp Zs2.cells x.vars)]
theorem Level.cells_cat (x : Level) : x.cells = [.int .i64 x.const, .lst false 2 (mp Zs2.cells x.vars)] := rfl
theorem Level.cells_eq (x : Level) : x.cells = [.int .i64 x.const, .lst false 2 (mp Zs2.cells x.vars)] := rfl
attribute [irreducible] Level.cells
theorem Level.length (x : Level) : x.cells.length = 2 := by rw [Level.cells_eq]; rfl
theorem Level.scalar (x : Level) : x.cells.all AV.scalar = true := by rw [Level.cells_eq]; rfl
theorem Level.nb (n : Nat) (x : Level) : nbL n x.cells := by
  rw [Level.cells_cat]
  exact ⟨trivial, nbR_map (Zs2.nb n) _, trivial⟩
def Level.of (H : List AObj) : List AV → Option Level
  | [c0, c1] => (dI .i64 c0).bind fun x0 => (dL Zs2.row H c1).bind fun x1 => some (.mk x0 x1)
  | _ => none
theorem Level.of_lit {H : List AObj} {c0 c1 : AV} : Level.of H [c0, c1] = (dI .i64 c0).bind fun x0 => (dL Zs2.row H c1).bind fun x1 => some (.mk x0 x1) := rfl
theorem Level.of_lit_cells (H : List AObj) (x : Level) : Level.of H [.int .i64 x.const, .lst false 2 (mp Zs2.cells x.vars)] = some x := by
  simp only [Level.of_lit, dI_int, dB_bool, dS_sb, bind_some', szOK, beq_self_eq_true, Bool.true_or, cond_true, dL, Zs2.mapO_cells, Zs2.row]
  try (cases x; rfl)
theorem Level.of_cells (H : List AObj) (x : Level) : Level.of H x.cells = some x := by rw [Level.cells_eq]; exact Level.of_lit_cells H x
theorem Level.of_ok {H : List AObj} {n : Nat} {cs : List AV} {x : Level} (h : Level.of H cs = some x) : CoL1 H n cs x.cells := by
  unfold Level.of at h
  split at h
  · simp only [Option.bind_eq_some_iff, Option.some.injEq] at h
    obtain ⟨x0, h0, x1, h1, rfl⟩ := h
    rw [Level.cells_cat]
    exact (CoL1.cons (dI_ok h0) (CoL1.cons (dL_ok h1) CoL1.nil))
  · cases h
def Level.cel : Cel Level := ⟨Level.cells, Level.of, fun _ _ _ _ h => Level.of_ok h, Level.nb⟩
def Level.row : Row Level := ⟨Level.cells, Level.of [], 2, fun _ _ h => (Level.of_ok (n := 0) h).toSub, Level.nb⟩
theorem Level.mapO_cells (xs : List Level) : mapO (Level.of []) (mp Level.cells xs) = some xs := mapO_mp (Level.of_cells []) xs
theorem Level.mapO_set (xs : List Level) (i : Nat) (r : List AV) : mapO (Level.of []) ((mp Level.cells xs).set i r) = bif decide (i < xs.length) then (Level.of [] r).bind fun y => some (xs.set i y) else some xs := Go.Abs.mapO_set (Level.of_cells []) xs i r
attribute [go_sem low] Level.mapO_set
theorem Level.row_f : Level.row.enc = Level.cells ∧ Level.row.dec = Level.of [] ∧ Level.row.sz = 2 ∧ Level.cel.enc = Level.cells ∧ Level.cel.dec = Level.of := ⟨rfl, rfl, rfl, rfl, rfl⟩
theorem Level.eta (x : Level) : Level.mk x.const x.vars = x := by cases x; rfl
attribute [go_sem] Level.of_lit Level.of_cells Level.mapO_cells Level.row_f Level.eta
theorem Level.prj : (∀ (y0 : Int) (y1 : List Zs2), (Level.mk y0 y1).const = y0) ∧ (∀ (y0 : Int) (y1 : List Zs2), (Level.mk y0 y1).vars = y1) := ⟨fun _ _ => rfl, fun _ _ => rfl⟩
attribute [go_sem] Level.prj
theorem Level.nbs : (∀ (n : Nat) (x : Level), Go.Abs.nbL n x.cells = True) ∧ ∀ (n : Nat) (xs : List Level), Go.Abs.nbR n (mp Level.cells xs) = True := ⟨fun n x => eq_true (Level.nb n x), fun n xs => eq_true (nbR_map (Level.nb n) xs)⟩
theorem Level.rens : (∀ (ρ : Nat → Nat) (x : Level), renL ρ x.cells = x.cells) ∧ ∀ (ρ : Nat → Nat) (xs : List Level), renR ρ (mp Level.cells xs) = mp Level.cells xs := ⟨fun ρ x => renL_of_nb ρ _ (Level.nb 0 x), fun ρ xs => renR_of_nb ρ _ (nbR_map (Level.nb 0) xs)⟩
theorem Level.vw (H : List AObj) (x : Level) : vwL H x.cells = some (x.cells, []) := vwL_of_nb H _ (Level.nb 0 x)
attribute [go_sem] Level.vw
theorem Level.frz (low : Nat) (H : List AObj) (x : Level) : frzL low H x.cells = x.cells := frzL_of_nb low H _ (Level.nb 0 x)
theorem Level.rpv (l : Nat) (ds : List AV) (x : Level) : x.cells.map (rpV l ds) = x.cells := rpVL_of_nb _ (Level.nb 0 x)
attribute [go_sem] Level.rpv
theorem Level.tk : (∀ x : Level, List.take 2 x.cells = x.cells) ∧ ∀ x : Level, List.drop 2 x.cells = [] := ⟨fun x => by rw [Level.cells_eq]; rfl, fun x => by rw [Level.cells_eq]; rfl⟩
attribute [go_sem] Level.tk
theorem Level.reads :
    (∀ x : Level, cellsOf (.agg x.cells) = some x.cells) ∧
    (∀ x : Level, loadAV true 2 x.cells = some (.agg x.cells)) ∧
    (∀ x : Level, loadAV false 1 x.cells = some (.int .i64 x.const)) ∧
    (∀ x : Level, loadAV false 1 (x.cells.drop 1) = some (.lst false 2 (mp Zs2.cells x.vars))) :=
  ⟨fun x => by simp only [cellsOf, Level.scalar, if_true],
   fun x => loadAV_all (Level.length x),
   fun x => by rw [Level.cells_eq]; rfl,
   fun x => by rw [Level.cells_eq]; rfl⟩
theorem Level.splc (x : Level) (o : Nat) (xs : List AV) : splice x.cells o xs = splice [.int .i64 x.const, .lst false 2 (mp Zs2.cells x.vars)] o xs := by rw [Level.cells_eq]
theorem Level.splc2 (x : Level) (o : Nat) (c : AV) (cs : List AV) : splice (c :: cs) o x.cells = splice (c :: cs) o [.int .i64 x.const, .lst false 2 (mp Zs2.cells x.vars)] := by rw [Level.cells_eq]
theorem Level.app (x : Level) (l : List AV) : x.cells ++ l = (.int .i64 x.const : AV) :: (.lst false 2 (mp Zs2.cells x.vars) : AV) :: l := by rw [Level.cells_eq]; rfl
theorem Level.cns (x : Level) (c : AV) : c :: x.cells = [c, .int .i64 x.const, .lst false 2 (mp Zs2.cells x.vars)] := by rw [Level.cells_eq]
attribute [go_sem] Level.app Level.cns
attribute [go_sem] Level.nbs Level.rens Level.frz Level.reads Level.length Level.scalar
attribute [go_sem low] Level.splc Level.splc2

inductive Term where
  | mk (kind : Int) (index : Int) (name : Str) (levels : List Level) (kids : List Term)
def Term.kind : Term → Int | .mk x _ _ _ _ => x
def Term.index : Term → Int | .mk _ x _ _ _ => x
def Term.name : Term → Str | .mk _ _ x _ _ => x
def Term.levels : Term → List Level | .mk _ _ _ x _ => x
def Term.kids : Term → List Term | .mk _ _ _ _ x => x
mutual
def Term.cells : Term → List AV
  | .mk kind index name levels kids => [.int .i64 kind, .int .i64 index, .str (sb name), .lst false 2 (mp Level.cells levels), .lst false 5 (Term.cellsL kids)]
def Term.cellsL : List Term → List (List AV)
  | [] => []
  | t :: ts => t.cells :: Term.cellsL ts
end
theorem Term.cellsL_eq : ∀ ts : List Term, Term.cellsL ts = mp Term.cells ts
  | [] => by rw [mp_eq]; rfl
  | t :: ts => by rw [Term.cellsL, Term.cellsL_eq ts, mp_eq, mp_eq]; rfl
theorem Term.cells_cat (x : Term) : x.cells = [.int .i64 x.kind, .int .i64 x.index, .str (sb x.name), .lst false 2 (mp Level.cells x.levels), .lst false 5 (mp Term.cells x.kids)] := by
  cases x
  simp only [Term.cells, Term.cellsL_eq]
  rfl
theorem Term.cells_eq (x : Term) : x.cells = [.int .i64 x.kind, .int .i64 x.index, .str (sb x.name), .lst false 2 (mp Level.cells x.levels), .lst false 5 (mp Term.cells x.kids)] := by
  cases x
  simp only [Term.cells, Term.cellsL_eq, List.cons_append, List.nil_append, List.append_nil]
  rfl
attribute [irreducible] Term.cells
theorem Term.length (x : Term) : x.cells.length = 5 := by rw [Term.cells_eq]; rfl
theorem Term.scalar (x : Term) : x.cells.all AV.scalar = true := by rw [Term.cells_eq]; rfl
mutual
theorem Term.nb (n : Nat) : ∀ x : Term, nbL n x.cells
  | .mk kind index name levels kids => by
    rw [Term.cells_cat]
    exact ⟨trivial, trivial, trivial, nbR_map (Level.nb n) _, Term.nbR n kids, trivial⟩
theorem Term.nbR (n : Nat) : ∀ ts : List Term, nbR n (mp Term.cells ts)
  | [] => by rw [mp_eq]; trivial
  | t :: ts => by have := Term.nbR n ts; rw [mp_eq] at this ⊢; exact ⟨Term.nb n t, this⟩
end
mutual
def Term.of0 : List AV → Option Term
  | [c0, c1, c2, c3, .lst _ z4 r4] => (dI .i64 c0).bind fun x0 => (dI .i64 c1).bind fun x1 => (dS c2).bind fun x2 => (dL Level.row [] c3).bind fun x3 => (bif szOK z4 5 r4 then Term.ofR r4 else none).bind fun x4 => some (.mk x0 x1 x2 x3 x4)
  | _ => none
def Term.ofR : List (List AV) → Option (List Term)
  | [] => some []
  | r :: rs => (Term.of0 r).bind fun x => (Term.ofR rs).bind fun xs => some (x :: xs)
end
theorem Term.ofR_eq : ∀ rs, Term.ofR rs = mapO Term.of0 rs
  | [] => by simp only [Term.ofR, mapO]
  | r :: rs => by simp only [Term.ofR, mapO, Term.ofR_eq rs]
mutual
theorem Term.of0_cells : ∀ x : Term, Term.of0 x.cells = some x
  | .mk kind index name levels kids => by
    rw [Term.cells_eq]
    show Term.of0 [.int .i64 kind, .int .i64 index, .str (sb name), .lst false 2 (mp Level.cells levels), .lst false 5 (mp Term.cells kids)] = _
    simp only [Term.of0, dI_int, dB_bool, dS_sb, bind_some', szOK, beq_self_eq_true, Bool.true_or, cond_true, dL, Term.ofR_cells kids, Level.mapO_cells, Level.row]
theorem Term.ofR_cells : ∀ xs : List Term, Term.ofR (mp Term.cells xs) = some xs
  | [] => by rw [mp_eq]; simp only [List.map_nil, Term.ofR]
  | x :: xs => by have h := Term.ofR_cells xs; rw [mp_eq] at h ⊢; simp only [List.map_cons, Term.ofR, Term.of0_cells x, h, bind_some']
end
mutual
theorem Term.of0_ok : ∀ (x : Term) (r : List AV), Term.of0 r = some x → SubE r x.cells
  | .mk kind index name levels kids, r, h => by
    unfold Term.of0 at h
    split at h
    · simp only [Option.bind_eq_some_iff, Option.some.injEq, Term.mk.injEq] at h
      obtain ⟨x0, h0, x1, h1, x2, h2, x3, h3, x4, h4, e0, e1, e2, e3, e4⟩ := h
      rw [e0] at h0
      rw [e1] at h1
      rw [e2] at h2
      rw [e3] at h3
      rw [e4] at h4
      rw [Term.cells_cat]
      exact (SubE.cons ((dI_ok (H := []) (n := 0) h0).toSub) (SubE.cons ((dI_ok (H := []) (n := 0) h1).toSub) (SubE.cons ((dS_ok (H := []) (n := 0) h2).toSub) (SubE.cons ((dL_ok (H := []) (n := 0) h3).toSub) (SubE.cons (lst_of (Term.ofR_ok kids _) h4) SubE.nil)))))
    · cases h
theorem Term.ofR_ok : ∀ (xs : List Term) (rs : List (List AV)), Term.ofR rs = some xs → SubR rs (mp Term.cells xs)
  | [], rs, h => by
    cases rs with
    | nil => rw [mp_eq]; exact SubR.nil
    | cons r rs =>
      simp only [Term.ofR, Option.bind_eq_some_iff, Option.some.injEq] at h
      obtain ⟨_, _, _, _, h⟩ := h
      cases h
  | x :: xs, rs, h => by
    cases rs with
    | nil => simp only [Term.ofR, Option.some.injEq] at h; cases h
    | cons r rs =>
      simp only [Term.ofR, Option.bind_eq_some_iff, Option.some.injEq, List.cons.injEq] at h
      obtain ⟨_, hx, _, hys, rfl, rfl⟩ := h
      have h2 := Term.ofR_ok _ rs hys
      rw [mp_eq] at h2 ⊢
      exact SubR.cons (Term.of0_ok _ r hx).subM h2
end
def Term.row : Row Term := ⟨Term.cells, Term.of0, 5, fun r x h => Term.of0_ok x r h, Term.nb⟩
theorem Term.mapO_cells (xs : List Term) : mapO Term.of0 (mp Term.cells xs) = some xs := mapO_mp Term.of0_cells xs
theorem Term.mapO_set (xs : List Term) (i : Nat) (r : List AV) : mapO Term.of0 ((mp Term.cells xs).set i r) = bif decide (i < xs.length) then (Term.of0 r).bind fun y => some (xs.set i y) else some xs := Go.Abs.mapO_set Term.of0_cells xs i r
attribute [go_sem low] Term.mapO_set
def Term.of (H : List AObj) : List AV → Option Term
  | [c0, c1, c2, c3, c4] => (dI .i64 c0).bind fun x0 => (dI .i64 c1).bind fun x1 => (dS c2).bind fun x2 => (dL Level.row H c3).bind fun x3 => (dL Term.row H c4).bind fun x4 => some (.mk x0 x1 x2 x3 x4)
  | _ => none
theorem Term.of_lit {H : List AObj} {c0 c1 c2 c3 c4 : AV} : Term.of H [c0, c1, c2, c3, c4] = (dI .i64 c0).bind fun x0 => (dI .i64 c1).bind fun x1 => (dS c2).bind fun x2 => (dL Level.row H c3).bind fun x3 => (dL Term.row H c4).bind fun x4 => some (.mk x0 x1 x2 x3 x4) := rfl
theorem Term.of_lit_cells (H : List AObj) (x : Term) : Term.of H [.int .i64 x.kind, .int .i64 x.index, .str (sb x.name), .lst false 2 (mp Level.cells x.levels), .lst false 5 (mp Term.cells x.kids)] = some x := by
  simp only [Term.of_lit, dI_int, dB_bool, dS_sb, bind_some', szOK, beq_self_eq_true, Bool.true_or, cond_true, dL, Level.mapO_cells, Level.row, Term.mapO_cells, Term.row]
  try (cases x; rfl)
theorem Term.of_cells (H : List AObj) (x : Term) : Term.of H x.cells = some x := by rw [Term.cells_eq]; exact Term.of_lit_cells H x
theorem Term.of_ok {H : List AObj} {n : Nat} {cs : List AV} {x : Term} (h : Term.of H cs = some x) : CoL1 H n cs x.cells := by
  unfold Term.of at h
  split at h
  · simp only [Option.bind_eq_some_iff, Option.some.injEq] at h
    obtain ⟨x0, h0, x1, h1, x2, h2, x3, h3, x4, h4, rfl⟩ := h
    rw [Term.cells_cat]
    exact (CoL1.cons (dI_ok h0) (CoL1.cons (dI_ok h1) (CoL1.cons (dS_ok h2) (CoL1.cons (dL_ok h3) (CoL1.cons (dL_ok h4) CoL1.nil)))))
  · cases h
def Term.cel : Cel Term := ⟨Term.cells, Term.of, fun _ _ _ _ h => Term.of_ok h, Term.nb⟩
theorem Term.row_f : Term.row.enc = Term.cells ∧ Term.row.dec = Term.of0 ∧ Term.row.sz = 5 ∧ Term.cel.enc = Term.cells ∧ Term.cel.dec = Term.of := ⟨rfl, rfl, rfl, rfl, rfl⟩
theorem Term.eta (x : Term) : Term.mk x.kind x.index x.name x.levels x.kids = x := by cases x; rfl
attribute [go_sem] Term.of_lit Term.of_cells Term.mapO_cells Term.row_f Term.eta
attribute [go_sem] Term.of0 Term.of0_cells
attribute [go_sem] Term.ofR_eq
theorem Term.prj : (∀ (y0 : Int) (y1 : Int) (y2 : Str) (y3 : List Level) (y4 : List Term), (Term.mk y0 y1 y2 y3 y4).kind = y0) ∧ (∀ (y0 : Int) (y1 : Int) (y2 : Str) (y3 : List Level) (y4 : List Term), (Term.mk y0 y1 y2 y3 y4).index = y1) ∧ (∀ (y0 : Int) (y1 : Int) (y2 : Str) (y3 : List Level) (y4 : List Term), (Term.mk y0 y1 y2 y3 y4).name = y2) ∧ (∀ (y0 : Int) (y1 : Int) (y2 : Str) (y3 : List Level) (y4 : List Term), (Term.mk y0 y1 y2 y3 y4).levels = y3) ∧ (∀ (y0 : Int) (y1 : Int) (y2 : Str) (y3 : List Level) (y4 : List Term), (Term.mk y0 y1 y2 y3 y4).kids = y4) := ⟨fun _ _ _ _ _ => rfl, fun _ _ _ _ _ => rfl, fun _ _ _ _ _ => rfl, fun _ _ _ _ _ => rfl, fun _ _ _ _ _ => rfl⟩
attribute [go_sem] Term.prj
theorem Term.nbs : (∀ (n : Nat) (x : Term), Go.Abs.nbL n x.cells = True) ∧ ∀ (n : Nat) (xs : List Term), Go.Abs.nbR n (mp Term.cells xs) = True := ⟨fun n x => eq_true (Term.nb n x), fun n xs => eq_true (nbR_map (Term.nb n) xs)⟩
theorem Term.rens : (∀ (ρ : Nat → Nat) (x : Term), renL ρ x.cells = x.cells) ∧ ∀ (ρ : Nat → Nat) (xs : List Term), renR ρ (mp Term.cells xs) = mp Term.cells xs := ⟨fun ρ x => renL_of_nb ρ _ (Term.nb 0 x), fun ρ xs => renR_of_nb ρ _ (nbR_map (Term.nb 0) xs)⟩
theorem Term.vw (H : List AObj) (x : Term) : vwL H x.cells = some (x.cells, []) := vwL_of_nb H _ (Term.nb 0 x)
attribute [go_sem] Term.vw
theorem Term.frz (low : Nat) (H : List AObj) (x : Term) : frzL low H x.cells = x.cells := frzL_of_nb low H _ (Term.nb 0 x)
theorem Term.rpv (l : Nat) (ds : List AV) (x : Term) : x.cells.map (rpV l ds) = x.cells := rpVL_of_nb _ (Term.nb 0 x)
attribute [go_sem] Term.rpv
theorem Term.tk : (∀ x : Term, List.take 5 x.cells = x.cells) ∧ ∀ x : Term, List.drop 5 x.cells = [] := ⟨fun x => by rw [Term.cells_eq]; rfl, fun x => by rw [Term.cells_eq]; rfl⟩
attribute [go_sem] Term.tk
theorem Term.reads :
    (∀ x : Term, cellsOf (.agg x.cells) = some x.cells) ∧
    (∀ x : Term, loadAV true 5 x.cells = some (.agg x.cells)) ∧
    (∀ x : Term, loadAV false 1 x.cells = some (.int .i64 x.kind)) ∧
    (∀ x : Term, loadAV false 1 (x.cells.drop 1) = some (.int .i64 x.index)) ∧
    (∀ x : Term, loadAV false 1 (x.cells.drop 2) = some (.str (sb x.name))) ∧
    (∀ x : Term, loadAV false 1 (x.cells.drop 3) = some (.lst false 2 (mp Level.cells x.levels))) ∧
    (∀ x : Term, loadAV false 1 (x.cells.drop 4) = some (.lst false 5 (mp Term.cells x.kids))) :=
  ⟨fun x => by simp only [cellsOf, Term.scalar, if_true],
   fun x => loadAV_all (Term.length x),
   fun x => by rw [Term.cells_eq]; rfl,
   fun x => by rw [Term.cells_eq]; rfl,
   fun x => by rw [Term.cells_eq]; rfl,
   fun x => by rw [Term.cells_eq]; rfl,
   fun x => by rw [Term.cells_eq]; rfl⟩
theorem Term.splc (x : Term) (o : Nat) (xs : List AV) : splice x.cells o xs = splice [.int .i64 x.kind, .int .i64 x.index, .str (sb x.name), .lst false 2 (mp Level.cells x.levels), .lst false 5 (mp Term.cells x.kids)] o xs := by rw [Term.cells_eq]
theorem Term.splc2 (x : Term) (o : Nat) (c : AV) (cs : List AV) : splice (c :: cs) o x.cells = splice (c :: cs) o [.int .i64 x.kind, .int .i64 x.index, .str (sb x.name), .lst false 2 (mp Level.cells x.levels), .lst false 5 (mp Term.cells x.kids)] := by rw [Term.cells_eq]
theorem Term.app (x : Term) (l : List AV) : x.cells ++ l = (.int .i64 x.kind : AV) :: (.int .i64 x.index : AV) :: (.str (sb x.name) : AV) :: (.lst false 2 (mp Level.cells x.levels) : AV) :: (.lst false 5 (mp Term.cells x.kids) : AV) :: l := by rw [Term.cells_eq]; rfl
theorem Term.cns (x : Term) (c : AV) : c :: x.cells = [c, .int .i64 x.kind, .int .i64 x.index, .str (sb x.name), .lst false 2 (mp Level.cells x.levels), .lst false 5 (mp Term.cells x.kids)] := by rw [Term.cells_eq]
attribute [go_sem] Term.app Term.cns
attribute [go_sem] Term.nbs Term.rens Term.frz Term.reads Term.length Term.scalar
attribute [go_sem low] Term.splc Term.splc2

structure Zs3 where
  params : Int
  type : Term
  rules : List Term
def Zs3.cells (x : Zs3) : List AV := [.int .i64 x.params] ++ x.type.cells ++ [.lst false 5 (mp Term.cells x.rules)]
theorem Zs3.cells_cat (x : Zs3) : x.cells = [.int .i64 x.params] ++ x.type.cells ++ [.lst false 5 (mp Term.cells x.rules)] := rfl
theorem Zs3.cells_eq (x : Zs3) : x.cells = [.int .i64 x.params, .int .i64 x.type.kind, .int .i64 x.type.index, .str (sb x.type.name), .lst false 2 (mp Level.cells x.type.levels), .lst false 5 (mp Term.cells x.type.kids), .lst false 5 (mp Term.cells x.rules)] := by
  simp only [Zs3.cells, Term.cells_eq, List.cons_append, List.nil_append, List.append_nil]
attribute [irreducible] Zs3.cells
theorem Zs3.length (x : Zs3) : x.cells.length = 7 := by rw [Zs3.cells_eq]; rfl
theorem Zs3.scalar (x : Zs3) : x.cells.all AV.scalar = true := by rw [Zs3.cells_eq]; rfl
theorem Zs3.nb (n : Nat) (x : Zs3) : nbL n x.cells := by
  rw [Zs3.cells_cat]
  exact (nbL_append (nbL_append ⟨trivial, trivial⟩ (Term.nb n x.type)) ⟨nbR_map (Term.nb n) _, trivial⟩)
def Zs3.of (H : List AObj) : List AV → Option Zs3
  | [c0, c1, c2, c3, c4, c5, c6] => (dI .i64 c0).bind fun x0 => (Term.of H [c1, c2, c3, c4, c5]).bind fun x1 => (dL Term.row H c6).bind fun x2 => some (.mk x0 x1 x2)
  | _ => none
theorem Zs3.of_lit {H : List AObj} {c0 c1 c2 c3 c4 c5 c6 : AV} : Zs3.of H [c0, c1, c2, c3, c4, c5, c6] = (dI .i64 c0).bind fun x0 => (Term.of H [c1, c2, c3, c4, c5]).bind fun x1 => (dL Term.row H c6).bind fun x2 => some (.mk x0 x1 x2) := rfl
theorem Zs3.of_lit_cells (H : List AObj) (x : Zs3) : Zs3.of H [.int .i64 x.params, .int .i64 x.type.kind, .int .i64 x.type.index, .str (sb x.type.name), .lst false 2 (mp Level.cells x.type.levels), .lst false 5 (mp Term.cells x.type.kids), .lst false 5 (mp Term.cells x.rules)] = some x := by
  simp only [Zs3.of_lit, dI_int, dB_bool, dS_sb, bind_some', szOK, beq_self_eq_true, Bool.true_or, cond_true, dL, Term.mapO_cells, Term.row, Term.of_lit_cells]
  try (cases x; rfl)
theorem Zs3.of_cells (H : List AObj) (x : Zs3) : Zs3.of H x.cells = some x := by rw [Zs3.cells_eq]; exact Zs3.of_lit_cells H x
theorem Zs3.of_ok {H : List AObj} {n : Nat} {cs : List AV} {x : Zs3} (h : Zs3.of H cs = some x) : CoL1 H n cs x.cells := by
  unfold Zs3.of at h
  split at h
  · simp only [Option.bind_eq_some_iff, Option.some.injEq] at h
    obtain ⟨x0, h0, x1, h1, x2, h2, rfl⟩ := h
    rw [Zs3.cells_cat]
    exact (CoL1.append (CoL1.append (CoL1.cons (dI_ok h0) CoL1.nil) (Term.of_ok h1)) (CoL1.cons (dL_ok h2) CoL1.nil))
  · cases h
def Zs3.cel : Cel Zs3 := ⟨Zs3.cells, Zs3.of, fun _ _ _ _ h => Zs3.of_ok h, Zs3.nb⟩
def Zs3.row : Row Zs3 := ⟨Zs3.cells, Zs3.of [], 7, fun _ _ h => (Zs3.of_ok (n := 0) h).toSub, Zs3.nb⟩
theorem Zs3.mapO_cells (xs : List Zs3) : mapO (Zs3.of []) (mp Zs3.cells xs) = some xs := mapO_mp (Zs3.of_cells []) xs
theorem Zs3.mapO_set (xs : List Zs3) (i : Nat) (r : List AV) : mapO (Zs3.of []) ((mp Zs3.cells xs).set i r) = bif decide (i < xs.length) then (Zs3.of [] r).bind fun y => some (xs.set i y) else some xs := Go.Abs.mapO_set (Zs3.of_cells []) xs i r
attribute [go_sem low] Zs3.mapO_set
theorem Zs3.row_f : Zs3.row.enc = Zs3.cells ∧ Zs3.row.dec = Zs3.of [] ∧ Zs3.row.sz = 7 ∧ Zs3.cel.enc = Zs3.cells ∧ Zs3.cel.dec = Zs3.of := ⟨rfl, rfl, rfl, rfl, rfl⟩
theorem Zs3.eta (x : Zs3) : Zs3.mk x.params x.type x.rules = x := by cases x; rfl
attribute [go_sem] Zs3.of_lit Zs3.of_cells Zs3.mapO_cells Zs3.row_f Zs3.eta
theorem Zs3.prj : (∀ (y0 : Int) (y1 : Term) (y2 : List Term), (Zs3.mk y0 y1 y2).params = y0) ∧ (∀ (y0 : Int) (y1 : Term) (y2 : List Term), (Zs3.mk y0 y1 y2).type = y1) ∧ (∀ (y0 : Int) (y1 : Term) (y2 : List Term), (Zs3.mk y0 y1 y2).rules = y2) := ⟨fun _ _ _ => rfl, fun _ _ _ => rfl, fun _ _ _ => rfl⟩
attribute [go_sem] Zs3.prj
theorem Zs3.nbs : (∀ (n : Nat) (x : Zs3), Go.Abs.nbL n x.cells = True) ∧ ∀ (n : Nat) (xs : List Zs3), Go.Abs.nbR n (mp Zs3.cells xs) = True := ⟨fun n x => eq_true (Zs3.nb n x), fun n xs => eq_true (nbR_map (Zs3.nb n) xs)⟩
theorem Zs3.rens : (∀ (ρ : Nat → Nat) (x : Zs3), renL ρ x.cells = x.cells) ∧ ∀ (ρ : Nat → Nat) (xs : List Zs3), renR ρ (mp Zs3.cells xs) = mp Zs3.cells xs := ⟨fun ρ x => renL_of_nb ρ _ (Zs3.nb 0 x), fun ρ xs => renR_of_nb ρ _ (nbR_map (Zs3.nb 0) xs)⟩
theorem Zs3.vw (H : List AObj) (x : Zs3) : vwL H x.cells = some (x.cells, []) := vwL_of_nb H _ (Zs3.nb 0 x)
attribute [go_sem] Zs3.vw
theorem Zs3.frz (low : Nat) (H : List AObj) (x : Zs3) : frzL low H x.cells = x.cells := frzL_of_nb low H _ (Zs3.nb 0 x)
theorem Zs3.rpv (l : Nat) (ds : List AV) (x : Zs3) : x.cells.map (rpV l ds) = x.cells := rpVL_of_nb _ (Zs3.nb 0 x)
attribute [go_sem] Zs3.rpv
theorem Zs3.tk : (∀ x : Zs3, List.take 7 x.cells = x.cells) ∧ ∀ x : Zs3, List.drop 7 x.cells = [] := ⟨fun x => by rw [Zs3.cells_eq]; rfl, fun x => by rw [Zs3.cells_eq]; rfl⟩
attribute [go_sem] Zs3.tk
theorem Zs3.reads :
    (∀ x : Zs3, cellsOf (.agg x.cells) = some x.cells) ∧
    (∀ x : Zs3, loadAV true 7 x.cells = some (.agg x.cells)) ∧
    (∀ x : Zs3, loadAV false 1 x.cells = some (.int .i64 x.params)) ∧
    (∀ x : Zs3, loadAV false 1 (x.cells.drop 1) = some (.int .i64 x.type.kind)) ∧
    (∀ x : Zs3, loadAV false 1 (x.cells.drop 2) = some (.int .i64 x.type.index)) ∧
    (∀ x : Zs3, loadAV false 1 (x.cells.drop 3) = some (.str (sb x.type.name))) ∧
    (∀ x : Zs3, loadAV false 1 (x.cells.drop 4) = some (.lst false 2 (mp Level.cells x.type.levels))) ∧
    (∀ x : Zs3, loadAV false 1 (x.cells.drop 5) = some (.lst false 5 (mp Term.cells x.type.kids))) ∧
    (∀ x : Zs3, loadAV false 1 (x.cells.drop 6) = some (.lst false 5 (mp Term.cells x.rules))) ∧
    (∀ x : Zs3, loadAV true 5 (x.cells.drop 1) = some (.agg x.type.cells)) :=
  ⟨fun x => by simp only [cellsOf, Zs3.scalar, if_true],
   fun x => loadAV_all (Zs3.length x),
   fun x => by rw [Zs3.cells_eq]; rfl,
   fun x => by rw [Zs3.cells_eq]; rfl,
   fun x => by rw [Zs3.cells_eq]; rfl,
   fun x => by rw [Zs3.cells_eq]; rfl,
   fun x => by rw [Zs3.cells_eq]; rfl,
   fun x => by rw [Zs3.cells_eq]; rfl,
   fun x => by rw [Zs3.cells_eq]; rfl,
   fun x => by rw [Zs3.cells_eq]; simp only [Term.cells_eq, List.drop_succ_cons, List.drop_zero]; rfl⟩
theorem Zs3.splc (x : Zs3) (o : Nat) (xs : List AV) : splice x.cells o xs = splice [.int .i64 x.params, .int .i64 x.type.kind, .int .i64 x.type.index, .str (sb x.type.name), .lst false 2 (mp Level.cells x.type.levels), .lst false 5 (mp Term.cells x.type.kids), .lst false 5 (mp Term.cells x.rules)] o xs := by rw [Zs3.cells_eq]
theorem Zs3.splc2 (x : Zs3) (o : Nat) (c : AV) (cs : List AV) : splice (c :: cs) o x.cells = splice (c :: cs) o [.int .i64 x.params, .int .i64 x.type.kind, .int .i64 x.type.index, .str (sb x.type.name), .lst false 2 (mp Level.cells x.type.levels), .lst false 5 (mp Term.cells x.type.kids), .lst false 5 (mp Term.cells x.rules)] := by rw [Zs3.cells_eq]
theorem Zs3.app (x : Zs3) (l : List AV) : x.cells ++ l = (.int .i64 x.params : AV) :: (.int .i64 x.type.kind : AV) :: (.int .i64 x.type.index : AV) :: (.str (sb x.type.name) : AV) :: (.lst false 2 (mp Level.cells x.type.levels) : AV) :: (.lst false 5 (mp Term.cells x.type.kids) : AV) :: (.lst false 5 (mp Term.cells x.rules) : AV) :: l := by rw [Zs3.cells_eq]; rfl
theorem Zs3.cns (x : Zs3) (c : AV) : c :: x.cells = [c, .int .i64 x.params, .int .i64 x.type.kind, .int .i64 x.type.index, .str (sb x.type.name), .lst false 2 (mp Level.cells x.type.levels), .lst false 5 (mp Term.cells x.type.kids), .lst false 5 (mp Term.cells x.rules)] := by rw [Zs3.cells_eq]
attribute [go_sem] Zs3.app Zs3.cns
attribute [go_sem] Zs3.nbs Zs3.rens Zs3.frz Zs3.reads Zs3.length Zs3.scalar
attribute [go_sem low] Zs3.splc Zs3.splc2

structure Ctor where
  name : Str
  type : Term
def Ctor.cells (x : Ctor) : List AV := [.str (sb x.name)] ++ x.type.cells
theorem Ctor.cells_cat (x : Ctor) : x.cells = [.str (sb x.name)] ++ x.type.cells := rfl
theorem Ctor.cells_eq (x : Ctor) : x.cells = [.str (sb x.name), .int .i64 x.type.kind, .int .i64 x.type.index, .str (sb x.type.name), .lst false 2 (mp Level.cells x.type.levels), .lst false 5 (mp Term.cells x.type.kids)] := by
  simp only [Ctor.cells, Term.cells_eq, List.cons_append, List.nil_append, List.append_nil]
attribute [irreducible] Ctor.cells
theorem Ctor.length (x : Ctor) : x.cells.length = 6 := by rw [Ctor.cells_eq]; rfl
theorem Ctor.scalar (x : Ctor) : x.cells.all AV.scalar = true := by rw [Ctor.cells_eq]; rfl
theorem Ctor.nb (n : Nat) (x : Ctor) : nbL n x.cells := by
  rw [Ctor.cells_cat]
  exact (nbL_append ⟨trivial, trivial⟩ (Term.nb n x.type))
def Ctor.of (H : List AObj) : List AV → Option Ctor
  | [c0, c1, c2, c3, c4, c5] => (dS c0).bind fun x0 => (Term.of H [c1, c2, c3, c4, c5]).bind fun x1 => some (.mk x0 x1)
  | _ => none
theorem Ctor.of_lit {H : List AObj} {c0 c1 c2 c3 c4 c5 : AV} : Ctor.of H [c0, c1, c2, c3, c4, c5] = (dS c0).bind fun x0 => (Term.of H [c1, c2, c3, c4, c5]).bind fun x1 => some (.mk x0 x1) := rfl
theorem Ctor.of_lit_cells (H : List AObj) (x : Ctor) : Ctor.of H [.str (sb x.name), .int .i64 x.type.kind, .int .i64 x.type.index, .str (sb x.type.name), .lst false 2 (mp Level.cells x.type.levels), .lst false 5 (mp Term.cells x.type.kids)] = some x := by
  simp only [Ctor.of_lit, dI_int, dB_bool, dS_sb, bind_some', szOK, beq_self_eq_true, Bool.true_or, cond_true, dL, Term.of_lit_cells]
  try (cases x; rfl)
theorem Ctor.of_cells (H : List AObj) (x : Ctor) : Ctor.of H x.cells = some x := by rw [Ctor.cells_eq]; exact Ctor.of_lit_cells H x
theorem Ctor.of_ok {H : List AObj} {n : Nat} {cs : List AV} {x : Ctor} (h : Ctor.of H cs = some x) : CoL1 H n cs x.cells := by
  unfold Ctor.of at h
  split at h
  · simp only [Option.bind_eq_some_iff, Option.some.injEq] at h
    obtain ⟨x0, h0, x1, h1, rfl⟩ := h
    rw [Ctor.cells_cat]
    exact (CoL1.append (CoL1.cons (dS_ok h0) CoL1.nil) (Term.of_ok h1))
  · cases h
def Ctor.cel : Cel Ctor := ⟨Ctor.cells, Ctor.of, fun _ _ _ _ h => Ctor.of_ok h, Ctor.nb⟩
def Ctor.row : Row Ctor := ⟨Ctor.cells, Ctor.of [], 6, fun _ _ h => (Ctor.of_ok (n := 0) h).toSub, Ctor.nb⟩
theorem Ctor.mapO_cells (xs : List Ctor) : mapO (Ctor.of []) (mp Ctor.cells xs) = some xs := mapO_mp (Ctor.of_cells []) xs
theorem Ctor.mapO_set (xs : List Ctor) (i : Nat) (r : List AV) : mapO (Ctor.of []) ((mp Ctor.cells xs).set i r) = bif decide (i < xs.length) then (Ctor.of [] r).bind fun y => some (xs.set i y) else some xs := Go.Abs.mapO_set (Ctor.of_cells []) xs i r
attribute [go_sem low] Ctor.mapO_set
theorem Ctor.row_f : Ctor.row.enc = Ctor.cells ∧ Ctor.row.dec = Ctor.of [] ∧ Ctor.row.sz = 6 ∧ Ctor.cel.enc = Ctor.cells ∧ Ctor.cel.dec = Ctor.of := ⟨rfl, rfl, rfl, rfl, rfl⟩
theorem Ctor.eta (x : Ctor) : Ctor.mk x.name x.type = x := by cases x; rfl
attribute [go_sem] Ctor.of_lit Ctor.of_cells Ctor.mapO_cells Ctor.row_f Ctor.eta
theorem Ctor.prj : (∀ (y0 : Str) (y1 : Term), (Ctor.mk y0 y1).name = y0) ∧ (∀ (y0 : Str) (y1 : Term), (Ctor.mk y0 y1).type = y1) := ⟨fun _ _ => rfl, fun _ _ => rfl⟩
attribute [go_sem] Ctor.prj
theorem Ctor.nbs : (∀ (n : Nat) (x : Ctor), Go.Abs.nbL n x.cells = True) ∧ ∀ (n : Nat) (xs : List Ctor), Go.Abs.nbR n (mp Ctor.cells xs) = True := ⟨fun n x => eq_true (Ctor.nb n x), fun n xs => eq_true (nbR_map (Ctor.nb n) xs)⟩
theorem Ctor.rens : (∀ (ρ : Nat → Nat) (x : Ctor), renL ρ x.cells = x.cells) ∧ ∀ (ρ : Nat → Nat) (xs : List Ctor), renR ρ (mp Ctor.cells xs) = mp Ctor.cells xs := ⟨fun ρ x => renL_of_nb ρ _ (Ctor.nb 0 x), fun ρ xs => renR_of_nb ρ _ (nbR_map (Ctor.nb 0) xs)⟩
theorem Ctor.vw (H : List AObj) (x : Ctor) : vwL H x.cells = some (x.cells, []) := vwL_of_nb H _ (Ctor.nb 0 x)
attribute [go_sem] Ctor.vw
theorem Ctor.frz (low : Nat) (H : List AObj) (x : Ctor) : frzL low H x.cells = x.cells := frzL_of_nb low H _ (Ctor.nb 0 x)
theorem Ctor.rpv (l : Nat) (ds : List AV) (x : Ctor) : x.cells.map (rpV l ds) = x.cells := rpVL_of_nb _ (Ctor.nb 0 x)
attribute [go_sem] Ctor.rpv
theorem Ctor.tk : (∀ x : Ctor, List.take 6 x.cells = x.cells) ∧ ∀ x : Ctor, List.drop 6 x.cells = [] := ⟨fun x => by rw [Ctor.cells_eq]; rfl, fun x => by rw [Ctor.cells_eq]; rfl⟩
attribute [go_sem] Ctor.tk
theorem Ctor.reads :
    (∀ x : Ctor, cellsOf (.agg x.cells) = some x.cells) ∧
    (∀ x : Ctor, loadAV true 6 x.cells = some (.agg x.cells)) ∧
    (∀ x : Ctor, loadAV false 1 x.cells = some (.str (sb x.name))) ∧
    (∀ x : Ctor, loadAV false 1 (x.cells.drop 1) = some (.int .i64 x.type.kind)) ∧
    (∀ x : Ctor, loadAV false 1 (x.cells.drop 2) = some (.int .i64 x.type.index)) ∧
    (∀ x : Ctor, loadAV false 1 (x.cells.drop 3) = some (.str (sb x.type.name))) ∧
    (∀ x : Ctor, loadAV false 1 (x.cells.drop 4) = some (.lst false 2 (mp Level.cells x.type.levels))) ∧
    (∀ x : Ctor, loadAV false 1 (x.cells.drop 5) = some (.lst false 5 (mp Term.cells x.type.kids))) ∧
    (∀ x : Ctor, loadAV true 5 (x.cells.drop 1) = some (.agg x.type.cells)) :=
  ⟨fun x => by simp only [cellsOf, Ctor.scalar, if_true],
   fun x => loadAV_all (Ctor.length x),
   fun x => by rw [Ctor.cells_eq]; rfl,
   fun x => by rw [Ctor.cells_eq]; rfl,
   fun x => by rw [Ctor.cells_eq]; rfl,
   fun x => by rw [Ctor.cells_eq]; rfl,
   fun x => by rw [Ctor.cells_eq]; rfl,
   fun x => by rw [Ctor.cells_eq]; rfl,
   fun x => by rw [Ctor.cells_eq]; simp only [Term.cells_eq, List.drop_succ_cons, List.drop_zero]; rfl⟩
theorem Ctor.splc (x : Ctor) (o : Nat) (xs : List AV) : splice x.cells o xs = splice [.str (sb x.name), .int .i64 x.type.kind, .int .i64 x.type.index, .str (sb x.type.name), .lst false 2 (mp Level.cells x.type.levels), .lst false 5 (mp Term.cells x.type.kids)] o xs := by rw [Ctor.cells_eq]
theorem Ctor.splc2 (x : Ctor) (o : Nat) (c : AV) (cs : List AV) : splice (c :: cs) o x.cells = splice (c :: cs) o [.str (sb x.name), .int .i64 x.type.kind, .int .i64 x.type.index, .str (sb x.type.name), .lst false 2 (mp Level.cells x.type.levels), .lst false 5 (mp Term.cells x.type.kids)] := by rw [Ctor.cells_eq]
theorem Ctor.app (x : Ctor) (l : List AV) : x.cells ++ l = (.str (sb x.name) : AV) :: (.int .i64 x.type.kind : AV) :: (.int .i64 x.type.index : AV) :: (.str (sb x.type.name) : AV) :: (.lst false 2 (mp Level.cells x.type.levels) : AV) :: (.lst false 5 (mp Term.cells x.type.kids) : AV) :: l := by rw [Ctor.cells_eq]; rfl
theorem Ctor.cns (x : Ctor) (c : AV) : c :: x.cells = [c, .str (sb x.name), .int .i64 x.type.kind, .int .i64 x.type.index, .str (sb x.type.name), .lst false 2 (mp Level.cells x.type.levels), .lst false 5 (mp Term.cells x.type.kids)] := by rw [Ctor.cells_eq]
attribute [go_sem] Ctor.app Ctor.cns
attribute [go_sem] Ctor.nbs Ctor.rens Ctor.frz Ctor.reads Ctor.length Ctor.scalar
attribute [go_sem low] Ctor.splc Ctor.splc2

mutual
inductive Tree where
  | mk (kind : Int) (body : Term) (var : Int) (branches : List Branch)
inductive Branch where
  | mk (ctor : Str) (isAbsurd : Bool) (tree : Tree)
end
def Tree.kind : Tree → Int | .mk x _ _ _ => x
def Tree.body : Tree → Term | .mk _ x _ _ => x
def Tree.var : Tree → Int | .mk _ _ x _ => x
def Tree.branches : Tree → List Branch | .mk _ _ _ x => x
def Branch.ctor : Branch → Str | .mk x _ _ => x
def Branch.isAbsurd : Branch → Bool | .mk _ x _ => x
def Branch.tree : Branch → Tree | .mk _ _ x => x
mutual
def Tree.cells : Tree → List AV
  | .mk kind body var branches => [.int .i64 kind] ++ body.cells ++ [.int .i64 var, .lst false 10 (Branch.cellsL branches)]
def Branch.cells : Branch → List AV
  | .mk ctor isAbsurd tree => [.str (sb ctor), .bool isAbsurd] ++ tree.cells
def Branch.cellsL : List Branch → List (List AV)
  | [] => []
  | t :: ts => t.cells :: Branch.cellsL ts
end
theorem Branch.cellsL_eq : ∀ ts : List Branch, Branch.cellsL ts = mp Branch.cells ts
  | [] => by rw [mp_eq]; rfl
  | t :: ts => by rw [Branch.cellsL, Branch.cellsL_eq ts, mp_eq, mp_eq]; rfl
theorem Tree.cells_cat (x : Tree) : x.cells = [.int .i64 x.kind] ++ x.body.cells ++ [.int .i64 x.var, .lst false 10 (mp Branch.cells x.branches)] := by
  cases x
  simp only [Tree.cells, Branch.cellsL_eq]
  rfl
theorem Branch.cells_cat (x : Branch) : x.cells = [.str (sb x.ctor), .bool x.isAbsurd] ++ x.tree.cells := by
  cases x
  simp only [Branch.cells]
  rfl
theorem Tree.cells_eq (x : Tree) : x.cells = [.int .i64 x.kind, .int .i64 x.body.kind, .int .i64 x.body.index, .str (sb x.body.name), .lst false 2 (mp Level.cells x.body.levels), .lst false 5 (mp Term.cells x.body.kids), .int .i64 x.var, .lst false 10 (mp Branch.cells x.branches)] := by
  cases x
  simp only [Tree.cells, Term.cells_eq, Branch.cellsL_eq, List.cons_append, List.nil_append, List.append_nil]
  rfl
theorem Branch.cells_eq (x : Branch) : x.cells = [.str (sb x.ctor), .bool x.isAbsurd, .int .i64 x.tree.kind, .int .i64 x.tree.body.kind, .int .i64 x.tree.body.index, .str (sb x.tree.body.name), .lst false 2 (mp Level.cells x.tree.body.levels), .lst false 5 (mp Term.cells x.tree.body.kids), .int .i64 x.tree.var, .lst false 10 (mp Branch.cells x.tree.branches)] := by
  cases x
  simp only [Branch.cells, Tree.cells_eq, List.cons_append, List.nil_append, List.append_nil]
  rfl
attribute [irreducible] Tree.cells
attribute [irreducible] Branch.cells
theorem Tree.length (x : Tree) : x.cells.length = 8 := by rw [Tree.cells_eq]; rfl
theorem Tree.scalar (x : Tree) : x.cells.all AV.scalar = true := by rw [Tree.cells_eq]; rfl
theorem Branch.length (x : Branch) : x.cells.length = 10 := by rw [Branch.cells_eq]; rfl
theorem Branch.scalar (x : Branch) : x.cells.all AV.scalar = true := by rw [Branch.cells_eq]; rfl
mutual
theorem Tree.nb (n : Nat) : ∀ x : Tree, nbL n x.cells
  | .mk kind body var branches => by
    rw [Tree.cells_cat]
    exact (nbL_append (nbL_append ⟨trivial, trivial⟩ (Term.nb n body)) ⟨trivial, Branch.nbR n branches, trivial⟩)
theorem Branch.nb (n : Nat) : ∀ x : Branch, nbL n x.cells
  | .mk ctor isAbsurd tree => by
    rw [Branch.cells_cat]
    exact (nbL_append ⟨trivial, trivial, trivial⟩ (Tree.nb n tree))
theorem Branch.nbR (n : Nat) : ∀ ts : List Branch, nbR n (mp Branch.cells ts)
  | [] => by rw [mp_eq]; trivial
  | t :: ts => by have := Branch.nbR n ts; rw [mp_eq] at this ⊢; exact ⟨Branch.nb n t, this⟩
end
mutual
def Tree.of0 : List AV → Option Tree
  | [c0, c1, c2, c3, c4, c5, c6, .lst _ z7 r7] => (dI .i64 c0).bind fun x0 => (Term.of [] [c1, c2, c3, c4, c5]).bind fun x1 => (dI .i64 c6).bind fun x2 => (bif szOK z7 10 r7 then Branch.ofR r7 else none).bind fun x3 => some (.mk x0 x1 x2 x3)
  | _ => none
def Branch.of0 : List AV → Option Branch
  | c0 :: c1 :: rest => (dS c0).bind fun x0 => (dB c1).bind fun x1 => (Tree.of0 rest).bind fun x2 => some (.mk x0 x1 x2)
  | _ => none
def Branch.ofR : List (List AV) → Option (List Branch)
  | [] => some []
  | r :: rs => (Branch.of0 r).bind fun x => (Branch.ofR rs).bind fun xs => some (x :: xs)
end
theorem Branch.ofR_eq : ∀ rs, Branch.ofR rs = mapO Branch.of0 rs
  | [] => by simp only [Branch.ofR, mapO]
  | r :: rs => by simp only [Branch.ofR, mapO, Branch.ofR_eq rs]
mutual
theorem Tree.of0_cells : ∀ x : Tree, Tree.of0 x.cells = some x
  | .mk kind body var branches => by
    rw [Tree.cells_eq]
    show Tree.of0 [.int .i64 kind, .int .i64 body.kind, .int .i64 body.index, .str (sb body.name), .lst false 2 (mp Level.cells body.levels), .lst false 5 (mp Term.cells body.kids), .int .i64 var, .lst false 10 (mp Branch.cells branches)] = _
    simp only [Tree.of0, dI_int, dB_bool, dS_sb, bind_some', szOK, beq_self_eq_true, Bool.true_or, cond_true, dL, Branch.ofR_cells branches, Term.of_lit_cells]
theorem Branch.of0_cells : ∀ x : Branch, Branch.of0 x.cells = some x
  | .mk ctor isAbsurd tree => by
    have e : Branch.cells (.mk ctor isAbsurd tree) = (AV.str (sb ctor) : AV) :: (.bool isAbsurd) :: tree.cells := by rw [Branch.cells_cat]; rfl
    rw [e]
    simp only [Branch.of0, Tree.of0_cells tree, dI_int, dB_bool, dS_sb, bind_some']
theorem Branch.ofR_cells : ∀ xs : List Branch, Branch.ofR (mp Branch.cells xs) = some xs
  | [] => by rw [mp_eq]; simp only [List.map_nil, Branch.ofR]
  | x :: xs => by have h := Branch.ofR_cells xs; rw [mp_eq] at h ⊢; simp only [List.map_cons, Branch.ofR, Branch.of0_cells x, h, bind_some']
end
mutual
theorem Tree.of0_ok : ∀ (x : Tree) (r : List AV), Tree.of0 r = some x → SubE r x.cells
  | .mk kind body var branches, r, h => by
    unfold Tree.of0 at h
    split at h
    · simp only [Option.bind_eq_some_iff, Option.some.injEq, Tree.mk.injEq] at h
      obtain ⟨x0, h0, x1, h1, x2, h2, x3, h3, e0, e1, e2, e3⟩ := h
      rw [e0] at h0
      rw [e1] at h1
      rw [e2] at h2
      rw [e3] at h3
      rw [Tree.cells_cat]
      exact (SubE.append (SubE.append (SubE.cons ((dI_ok (H := []) (n := 0) h0).toSub) SubE.nil) ((Term.of_ok (n := 0) h1).toSub)) (SubE.cons ((dI_ok (H := []) (n := 0) h2).toSub) (SubE.cons (lst_of (Branch.ofR_ok branches _) h3) SubE.nil)))
    · cases h
theorem Branch.of0_ok : ∀ (x : Branch) (r : List AV), Branch.of0 r = some x → SubE r x.cells
  | .mk ctor isAbsurd tree, r, h => by
    unfold Branch.of0 at h
    split at h
    · simp only [Option.bind_eq_some_iff, Option.some.injEq, Branch.mk.injEq] at h
      obtain ⟨x0, h0, x1, h1, x2, h2, e0, e1, e2⟩ := h
      rw [e0] at h0
      rw [e1] at h1
      rw [e2] at h2
      rw [Branch.cells_cat]
      exact (SubE.append (SubE.cons ((dS_ok (H := []) (n := 0) h0).toSub) (SubE.cons ((dB_ok (H := []) (n := 0) h1).toSub) SubE.nil)) (Tree.of0_ok tree _ h2))
    · cases h
theorem Branch.ofR_ok : ∀ (xs : List Branch) (rs : List (List AV)), Branch.ofR rs = some xs → SubR rs (mp Branch.cells xs)
  | [], rs, h => by
    cases rs with
    | nil => rw [mp_eq]; exact SubR.nil
    | cons r rs =>
      simp only [Branch.ofR, Option.bind_eq_some_iff, Option.some.injEq] at h
      obtain ⟨_, _, _, _, h⟩ := h
      cases h
  | x :: xs, rs, h => by
    cases rs with
    | nil => simp only [Branch.ofR, Option.some.injEq] at h; cases h
    | cons r rs =>
      simp only [Branch.ofR, Option.bind_eq_some_iff, Option.some.injEq, List.cons.injEq] at h
      obtain ⟨_, hx, _, hys, rfl, rfl⟩ := h
      have h2 := Branch.ofR_ok _ rs hys
      rw [mp_eq] at h2 ⊢
      exact SubR.cons (Branch.of0_ok _ r hx).subM h2
end
def Tree.row : Row Tree := ⟨Tree.cells, Tree.of0, 8, fun r x h => Tree.of0_ok x r h, Tree.nb⟩
theorem Tree.mapO_cells (xs : List Tree) : mapO Tree.of0 (mp Tree.cells xs) = some xs := mapO_mp Tree.of0_cells xs
theorem Tree.mapO_set (xs : List Tree) (i : Nat) (r : List AV) : mapO Tree.of0 ((mp Tree.cells xs).set i r) = bif decide (i < xs.length) then (Tree.of0 r).bind fun y => some (xs.set i y) else some xs := Go.Abs.mapO_set Tree.of0_cells xs i r
attribute [go_sem low] Tree.mapO_set
def Branch.row : Row Branch := ⟨Branch.cells, Branch.of0, 10, fun r x h => Branch.of0_ok x r h, Branch.nb⟩
theorem Branch.mapO_cells (xs : List Branch) : mapO Branch.of0 (mp Branch.cells xs) = some xs := mapO_mp Branch.of0_cells xs
theorem Branch.mapO_set (xs : List Branch) (i : Nat) (r : List AV) : mapO Branch.of0 ((mp Branch.cells xs).set i r) = bif decide (i < xs.length) then (Branch.of0 r).bind fun y => some (xs.set i y) else some xs := Go.Abs.mapO_set Branch.of0_cells xs i r
attribute [go_sem low] Branch.mapO_set
def Tree.of (H : List AObj) : List AV → Option Tree
  | [c0, c1, c2, c3, c4, c5, c6, c7] => (dI .i64 c0).bind fun x0 => (Term.of H [c1, c2, c3, c4, c5]).bind fun x1 => (dI .i64 c6).bind fun x2 => (dL Branch.row H c7).bind fun x3 => some (.mk x0 x1 x2 x3)
  | _ => none
theorem Tree.of_lit {H : List AObj} {c0 c1 c2 c3 c4 c5 c6 c7 : AV} : Tree.of H [c0, c1, c2, c3, c4, c5, c6, c7] = (dI .i64 c0).bind fun x0 => (Term.of H [c1, c2, c3, c4, c5]).bind fun x1 => (dI .i64 c6).bind fun x2 => (dL Branch.row H c7).bind fun x3 => some (.mk x0 x1 x2 x3) := rfl
theorem Tree.of_lit_cells (H : List AObj) (x : Tree) : Tree.of H [.int .i64 x.kind, .int .i64 x.body.kind, .int .i64 x.body.index, .str (sb x.body.name), .lst false 2 (mp Level.cells x.body.levels), .lst false 5 (mp Term.cells x.body.kids), .int .i64 x.var, .lst false 10 (mp Branch.cells x.branches)] = some x := by
  simp only [Tree.of_lit, dI_int, dB_bool, dS_sb, bind_some', szOK, beq_self_eq_true, Bool.true_or, cond_true, dL, Branch.mapO_cells, Branch.row, Term.of_lit_cells]
  try (cases x; rfl)
theorem Tree.of_cells (H : List AObj) (x : Tree) : Tree.of H x.cells = some x := by rw [Tree.cells_eq]; exact Tree.of_lit_cells H x
theorem Tree.of_ok {H : List AObj} {n : Nat} {cs : List AV} {x : Tree} (h : Tree.of H cs = some x) : CoL1 H n cs x.cells := by
  unfold Tree.of at h
  split at h
  · simp only [Option.bind_eq_some_iff, Option.some.injEq] at h
    obtain ⟨x0, h0, x1, h1, x2, h2, x3, h3, rfl⟩ := h
    rw [Tree.cells_cat]
    exact (CoL1.append (CoL1.append (CoL1.cons (dI_ok h0) CoL1.nil) (Term.of_ok h1)) (CoL1.cons (dI_ok h2) (CoL1.cons (dL_ok h3) CoL1.nil)))
  · cases h
def Tree.cel : Cel Tree := ⟨Tree.cells, Tree.of, fun _ _ _ _ h => Tree.of_ok h, Tree.nb⟩
theorem Tree.row_f : Tree.row.enc = Tree.cells ∧ Tree.row.dec = Tree.of0 ∧ Tree.row.sz = 8 ∧ Tree.cel.enc = Tree.cells ∧ Tree.cel.dec = Tree.of := ⟨rfl, rfl, rfl, rfl, rfl⟩
theorem Tree.eta (x : Tree) : Tree.mk x.kind x.body x.var x.branches = x := by cases x; rfl
attribute [go_sem] Tree.of_lit Tree.of_cells Tree.mapO_cells Tree.row_f Tree.eta
attribute [go_sem] Tree.of0 Tree.of0_cells
theorem Tree.prj : (∀ (y0 : Int) (y1 : Term) (y2 : Int) (y3 : List Branch), (Tree.mk y0 y1 y2 y3).kind = y0) ∧ (∀ (y0 : Int) (y1 : Term) (y2 : Int) (y3 : List Branch), (Tree.mk y0 y1 y2 y3).body = y1) ∧ (∀ (y0 : Int) (y1 : Term) (y2 : Int) (y3 : List Branch), (Tree.mk y0 y1 y2 y3).var = y2) ∧ (∀ (y0 : Int) (y1 : Term) (y2 : Int) (y3 : List Branch), (Tree.mk y0 y1 y2 y3).branches = y3) := ⟨fun _ _ _ _ => rfl, fun _ _ _ _ => rfl, fun _ _ _ _ => rfl, fun _ _ _ _ => rfl⟩
attribute [go_sem] Tree.prj
def Branch.of (H : List AObj) : List AV → Option Branch
  | [c0, c1, c2, c3, c4, c5, c6, c7, c8, c9] => (dS c0).bind fun x0 => (dB c1).bind fun x1 => (Tree.of H [c2, c3, c4, c5, c6, c7, c8, c9]).bind fun x2 => some (.mk x0 x1 x2)
  | _ => none
theorem Branch.of_lit {H : List AObj} {c0 c1 c2 c3 c4 c5 c6 c7 c8 c9 : AV} : Branch.of H [c0, c1, c2, c3, c4, c5, c6, c7, c8, c9] = (dS c0).bind fun x0 => (dB c1).bind fun x1 => (Tree.of H [c2, c3, c4, c5, c6, c7, c8, c9]).bind fun x2 => some (.mk x0 x1 x2) := rfl
theorem Branch.of_lit_cells (H : List AObj) (x : Branch) : Branch.of H [.str (sb x.ctor), .bool x.isAbsurd, .int .i64 x.tree.kind, .int .i64 x.tree.body.kind, .int .i64 x.tree.body.index, .str (sb x.tree.body.name), .lst false 2 (mp Level.cells x.tree.body.levels), .lst false 5 (mp Term.cells x.tree.body.kids), .int .i64 x.tree.var, .lst false 10 (mp Branch.cells x.tree.branches)] = some x := by
  simp only [Branch.of_lit, dI_int, dB_bool, dS_sb, bind_some', szOK, beq_self_eq_true, Bool.true_or, cond_true, dL, Tree.of_lit_cells]
  try (cases x; rfl)
theorem Branch.of_cells (H : List AObj) (x : Branch) : Branch.of H x.cells = some x := by rw [Branch.cells_eq]; exact Branch.of_lit_cells H x
theorem Branch.of_ok {H : List AObj} {n : Nat} {cs : List AV} {x : Branch} (h : Branch.of H cs = some x) : CoL1 H n cs x.cells := by
  unfold Branch.of at h
  split at h
  · simp only [Option.bind_eq_some_iff, Option.some.injEq] at h
    obtain ⟨x0, h0, x1, h1, x2, h2, rfl⟩ := h
    rw [Branch.cells_cat]
    exact (CoL1.append (CoL1.cons (dS_ok h0) (CoL1.cons (dB_ok h1) CoL1.nil)) (Tree.of_ok h2))
  · cases h
def Branch.cel : Cel Branch := ⟨Branch.cells, Branch.of, fun _ _ _ _ h => Branch.of_ok h, Branch.nb⟩
theorem Branch.row_f : Branch.row.enc = Branch.cells ∧ Branch.row.dec = Branch.of0 ∧ Branch.row.sz = 10 ∧ Branch.cel.enc = Branch.cells ∧ Branch.cel.dec = Branch.of := ⟨rfl, rfl, rfl, rfl, rfl⟩
theorem Branch.eta (x : Branch) : Branch.mk x.ctor x.isAbsurd x.tree = x := by cases x; rfl
attribute [go_sem] Branch.of_lit Branch.of_cells Branch.mapO_cells Branch.row_f Branch.eta
attribute [go_sem] Branch.of0 Branch.of0_cells
attribute [go_sem] Branch.ofR_eq
theorem Branch.prj : (∀ (y0 : Str) (y1 : Bool) (y2 : Tree), (Branch.mk y0 y1 y2).ctor = y0) ∧ (∀ (y0 : Str) (y1 : Bool) (y2 : Tree), (Branch.mk y0 y1 y2).isAbsurd = y1) ∧ (∀ (y0 : Str) (y1 : Bool) (y2 : Tree), (Branch.mk y0 y1 y2).tree = y2) := ⟨fun _ _ _ => rfl, fun _ _ _ => rfl, fun _ _ _ => rfl⟩
attribute [go_sem] Branch.prj
theorem Tree.nbs : (∀ (n : Nat) (x : Tree), Go.Abs.nbL n x.cells = True) ∧ ∀ (n : Nat) (xs : List Tree), Go.Abs.nbR n (mp Tree.cells xs) = True := ⟨fun n x => eq_true (Tree.nb n x), fun n xs => eq_true (nbR_map (Tree.nb n) xs)⟩
theorem Tree.rens : (∀ (ρ : Nat → Nat) (x : Tree), renL ρ x.cells = x.cells) ∧ ∀ (ρ : Nat → Nat) (xs : List Tree), renR ρ (mp Tree.cells xs) = mp Tree.cells xs := ⟨fun ρ x => renL_of_nb ρ _ (Tree.nb 0 x), fun ρ xs => renR_of_nb ρ _ (nbR_map (Tree.nb 0) xs)⟩
theorem Tree.vw (H : List AObj) (x : Tree) : vwL H x.cells = some (x.cells, []) := vwL_of_nb H _ (Tree.nb 0 x)
attribute [go_sem] Tree.vw
theorem Tree.frz (low : Nat) (H : List AObj) (x : Tree) : frzL low H x.cells = x.cells := frzL_of_nb low H _ (Tree.nb 0 x)
theorem Tree.rpv (l : Nat) (ds : List AV) (x : Tree) : x.cells.map (rpV l ds) = x.cells := rpVL_of_nb _ (Tree.nb 0 x)
attribute [go_sem] Tree.rpv
theorem Tree.tk : (∀ x : Tree, List.take 8 x.cells = x.cells) ∧ ∀ x : Tree, List.drop 8 x.cells = [] := ⟨fun x => by rw [Tree.cells_eq]; rfl, fun x => by rw [Tree.cells_eq]; rfl⟩
attribute [go_sem] Tree.tk
theorem Tree.reads :
    (∀ x : Tree, cellsOf (.agg x.cells) = some x.cells) ∧
    (∀ x : Tree, loadAV true 8 x.cells = some (.agg x.cells)) ∧
    (∀ x : Tree, loadAV false 1 x.cells = some (.int .i64 x.kind)) ∧
    (∀ x : Tree, loadAV false 1 (x.cells.drop 1) = some (.int .i64 x.body.kind)) ∧
    (∀ x : Tree, loadAV false 1 (x.cells.drop 2) = some (.int .i64 x.body.index)) ∧
    (∀ x : Tree, loadAV false 1 (x.cells.drop 3) = some (.str (sb x.body.name))) ∧
    (∀ x : Tree, loadAV false 1 (x.cells.drop 4) = some (.lst false 2 (mp Level.cells x.body.levels))) ∧
    (∀ x : Tree, loadAV false 1 (x.cells.drop 5) = some (.lst false 5 (mp Term.cells x.body.kids))) ∧
    (∀ x : Tree, loadAV false 1 (x.cells.drop 6) = some (.int .i64 x.var)) ∧
    (∀ x : Tree, loadAV false 1 (x.cells.drop 7) = some (.lst false 10 (mp Branch.cells x.branches))) ∧
    (∀ x : Tree, loadAV true 5 (x.cells.drop 1) = some (.agg x.body.cells)) :=
  ⟨fun x => by simp only [cellsOf, Tree.scalar, if_true],
   fun x => loadAV_all (Tree.length x),
   fun x => by rw [Tree.cells_eq]; rfl,
   fun x => by rw [Tree.cells_eq]; rfl,
   fun x => by rw [Tree.cells_eq]; rfl,
   fun x => by rw [Tree.cells_eq]; rfl,
   fun x => by rw [Tree.cells_eq]; rfl,
   fun x => by rw [Tree.cells_eq]; rfl,
   fun x => by rw [Tree.cells_eq]; rfl,
   fun x => by rw [Tree.cells_eq]; rfl,
   fun x => by rw [Tree.cells_eq]; simp only [Term.cells_eq, List.drop_succ_cons, List.drop_zero]; rfl⟩
theorem Tree.splc (x : Tree) (o : Nat) (xs : List AV) : splice x.cells o xs = splice [.int .i64 x.kind, .int .i64 x.body.kind, .int .i64 x.body.index, .str (sb x.body.name), .lst false 2 (mp Level.cells x.body.levels), .lst false 5 (mp Term.cells x.body.kids), .int .i64 x.var, .lst false 10 (mp Branch.cells x.branches)] o xs := by rw [Tree.cells_eq]
theorem Tree.splc2 (x : Tree) (o : Nat) (c : AV) (cs : List AV) : splice (c :: cs) o x.cells = splice (c :: cs) o [.int .i64 x.kind, .int .i64 x.body.kind, .int .i64 x.body.index, .str (sb x.body.name), .lst false 2 (mp Level.cells x.body.levels), .lst false 5 (mp Term.cells x.body.kids), .int .i64 x.var, .lst false 10 (mp Branch.cells x.branches)] := by rw [Tree.cells_eq]
theorem Tree.app (x : Tree) (l : List AV) : x.cells ++ l = (.int .i64 x.kind : AV) :: (.int .i64 x.body.kind : AV) :: (.int .i64 x.body.index : AV) :: (.str (sb x.body.name) : AV) :: (.lst false 2 (mp Level.cells x.body.levels) : AV) :: (.lst false 5 (mp Term.cells x.body.kids) : AV) :: (.int .i64 x.var : AV) :: (.lst false 10 (mp Branch.cells x.branches) : AV) :: l := by rw [Tree.cells_eq]; rfl
theorem Tree.cns (x : Tree) (c : AV) : c :: x.cells = [c, .int .i64 x.kind, .int .i64 x.body.kind, .int .i64 x.body.index, .str (sb x.body.name), .lst false 2 (mp Level.cells x.body.levels), .lst false 5 (mp Term.cells x.body.kids), .int .i64 x.var, .lst false 10 (mp Branch.cells x.branches)] := by rw [Tree.cells_eq]
attribute [go_sem] Tree.app Tree.cns
attribute [go_sem] Tree.nbs Tree.rens Tree.frz Tree.reads Tree.length Tree.scalar
attribute [go_sem low] Tree.splc Tree.splc2
theorem Branch.nbs : (∀ (n : Nat) (x : Branch), Go.Abs.nbL n x.cells = True) ∧ ∀ (n : Nat) (xs : List Branch), Go.Abs.nbR n (mp Branch.cells xs) = True := ⟨fun n x => eq_true (Branch.nb n x), fun n xs => eq_true (nbR_map (Branch.nb n) xs)⟩
theorem Branch.rens : (∀ (ρ : Nat → Nat) (x : Branch), renL ρ x.cells = x.cells) ∧ ∀ (ρ : Nat → Nat) (xs : List Branch), renR ρ (mp Branch.cells xs) = mp Branch.cells xs := ⟨fun ρ x => renL_of_nb ρ _ (Branch.nb 0 x), fun ρ xs => renR_of_nb ρ _ (nbR_map (Branch.nb 0) xs)⟩
theorem Branch.vw (H : List AObj) (x : Branch) : vwL H x.cells = some (x.cells, []) := vwL_of_nb H _ (Branch.nb 0 x)
attribute [go_sem] Branch.vw
theorem Branch.frz (low : Nat) (H : List AObj) (x : Branch) : frzL low H x.cells = x.cells := frzL_of_nb low H _ (Branch.nb 0 x)
theorem Branch.rpv (l : Nat) (ds : List AV) (x : Branch) : x.cells.map (rpV l ds) = x.cells := rpVL_of_nb _ (Branch.nb 0 x)
attribute [go_sem] Branch.rpv
theorem Branch.tk : (∀ x : Branch, List.take 10 x.cells = x.cells) ∧ ∀ x : Branch, List.drop 10 x.cells = [] := ⟨fun x => by rw [Branch.cells_eq]; rfl, fun x => by rw [Branch.cells_eq]; rfl⟩
attribute [go_sem] Branch.tk
theorem Branch.reads :
    (∀ x : Branch, cellsOf (.agg x.cells) = some x.cells) ∧
    (∀ x : Branch, loadAV true 10 x.cells = some (.agg x.cells)) ∧
    (∀ x : Branch, loadAV false 1 x.cells = some (.str (sb x.ctor))) ∧
    (∀ x : Branch, loadAV false 1 (x.cells.drop 1) = some (.bool x.isAbsurd)) ∧
    (∀ x : Branch, loadAV false 1 (x.cells.drop 2) = some (.int .i64 x.tree.kind)) ∧
    (∀ x : Branch, loadAV false 1 (x.cells.drop 3) = some (.int .i64 x.tree.body.kind)) ∧
    (∀ x : Branch, loadAV false 1 (x.cells.drop 4) = some (.int .i64 x.tree.body.index)) ∧
    (∀ x : Branch, loadAV false 1 (x.cells.drop 5) = some (.str (sb x.tree.body.name))) ∧
    (∀ x : Branch, loadAV false 1 (x.cells.drop 6) = some (.lst false 2 (mp Level.cells x.tree.body.levels))) ∧
    (∀ x : Branch, loadAV false 1 (x.cells.drop 7) = some (.lst false 5 (mp Term.cells x.tree.body.kids))) ∧
    (∀ x : Branch, loadAV false 1 (x.cells.drop 8) = some (.int .i64 x.tree.var)) ∧
    (∀ x : Branch, loadAV false 1 (x.cells.drop 9) = some (.lst false 10 (mp Branch.cells x.tree.branches))) ∧
    (∀ x : Branch, loadAV true 8 (x.cells.drop 2) = some (.agg x.tree.cells)) ∧
    (∀ x : Branch, loadAV true 5 (x.cells.drop 3) = some (.agg x.tree.body.cells)) :=
  ⟨fun x => by simp only [cellsOf, Branch.scalar, if_true],
   fun x => loadAV_all (Branch.length x),
   fun x => by rw [Branch.cells_eq]; rfl,
   fun x => by rw [Branch.cells_eq]; rfl,
   fun x => by rw [Branch.cells_eq]; rfl,
   fun x => by rw [Branch.cells_eq]; rfl,
   fun x => by rw [Branch.cells_eq]; rfl,
   fun x => by rw [Branch.cells_eq]; rfl,
   fun x => by rw [Branch.cells_eq]; rfl,
   fun x => by rw [Branch.cells_eq]; rfl,
   fun x => by rw [Branch.cells_eq]; rfl,
   fun x => by rw [Branch.cells_eq]; rfl,
   fun x => by rw [Branch.cells_eq]; simp only [Term.cells_eq, Tree.cells_eq, List.drop_succ_cons, List.drop_zero]; rfl,
   fun x => by rw [Branch.cells_eq]; simp only [Term.cells_eq, Tree.cells_eq, List.drop_succ_cons, List.drop_zero]; rfl⟩
theorem Branch.splc (x : Branch) (o : Nat) (xs : List AV) : splice x.cells o xs = splice [.str (sb x.ctor), .bool x.isAbsurd, .int .i64 x.tree.kind, .int .i64 x.tree.body.kind, .int .i64 x.tree.body.index, .str (sb x.tree.body.name), .lst false 2 (mp Level.cells x.tree.body.levels), .lst false 5 (mp Term.cells x.tree.body.kids), .int .i64 x.tree.var, .lst false 10 (mp Branch.cells x.tree.branches)] o xs := by rw [Branch.cells_eq]
theorem Branch.splc2 (x : Branch) (o : Nat) (c : AV) (cs : List AV) : splice (c :: cs) o x.cells = splice (c :: cs) o [.str (sb x.ctor), .bool x.isAbsurd, .int .i64 x.tree.kind, .int .i64 x.tree.body.kind, .int .i64 x.tree.body.index, .str (sb x.tree.body.name), .lst false 2 (mp Level.cells x.tree.body.levels), .lst false 5 (mp Term.cells x.tree.body.kids), .int .i64 x.tree.var, .lst false 10 (mp Branch.cells x.tree.branches)] := by rw [Branch.cells_eq]
theorem Branch.app (x : Branch) (l : List AV) : x.cells ++ l = (.str (sb x.ctor) : AV) :: (.bool x.isAbsurd : AV) :: (.int .i64 x.tree.kind : AV) :: (.int .i64 x.tree.body.kind : AV) :: (.int .i64 x.tree.body.index : AV) :: (.str (sb x.tree.body.name) : AV) :: (.lst false 2 (mp Level.cells x.tree.body.levels) : AV) :: (.lst false 5 (mp Term.cells x.tree.body.kids) : AV) :: (.int .i64 x.tree.var : AV) :: (.lst false 10 (mp Branch.cells x.tree.branches) : AV) :: l := by rw [Branch.cells_eq]; rfl
theorem Branch.cns (x : Branch) (c : AV) : c :: x.cells = [c, .str (sb x.ctor), .bool x.isAbsurd, .int .i64 x.tree.kind, .int .i64 x.tree.body.kind, .int .i64 x.tree.body.index, .str (sb x.tree.body.name), .lst false 2 (mp Level.cells x.tree.body.levels), .lst false 5 (mp Term.cells x.tree.body.kids), .int .i64 x.tree.var, .lst false 10 (mp Branch.cells x.tree.branches)] := by rw [Branch.cells_eq]
attribute [go_sem] Branch.app Branch.cns
attribute [go_sem] Branch.nbs Branch.rens Branch.frz Branch.reads Branch.length Branch.scalar
attribute [go_sem low] Branch.splc Branch.splc2

structure Fun where
  name : Str
  type : Term
  arity : Int
  tree : Tree
def Fun.cells (x : Fun) : List AV := [.str (sb x.name)] ++ x.type.cells ++ [.int .i64 x.arity] ++ x.tree.cells
theorem Fun.cells_cat (x : Fun) : x.cells = [.str (sb x.name)] ++ x.type.cells ++ [.int .i64 x.arity] ++ x.tree.cells := rfl
theorem Fun.cells_eq (x : Fun) : x.cells = [.str (sb x.name), .int .i64 x.type.kind, .int .i64 x.type.index, .str (sb x.type.name), .lst false 2 (mp Level.cells x.type.levels), .lst false 5 (mp Term.cells x.type.kids), .int .i64 x.arity, .int .i64 x.tree.kind, .int .i64 x.tree.body.kind, .int .i64 x.tree.body.index, .str (sb x.tree.body.name), .lst false 2 (mp Level.cells x.tree.body.levels), .lst false 5 (mp Term.cells x.tree.body.kids), .int .i64 x.tree.var, .lst false 10 (mp Branch.cells x.tree.branches)] := by
  simp only [Fun.cells, Term.cells_eq, Tree.cells_eq, List.cons_append, List.nil_append, List.append_nil]
attribute [irreducible] Fun.cells
theorem Fun.length (x : Fun) : x.cells.length = 15 := by rw [Fun.cells_eq]; rfl
theorem Fun.scalar (x : Fun) : x.cells.all AV.scalar = true := by rw [Fun.cells_eq]; rfl
theorem Fun.nb (n : Nat) (x : Fun) : nbL n x.cells := by
  rw [Fun.cells_cat]
  exact (nbL_append (nbL_append (nbL_append ⟨trivial, trivial⟩ (Term.nb n x.type)) ⟨trivial, trivial⟩) (Tree.nb n x.tree))
def Fun.of (H : List AObj) : List AV → Option Fun
  | [c0, c1, c2, c3, c4, c5, c6, c7, c8, c9, c10, c11, c12, c13, c14] => (dS c0).bind fun x0 => (Term.of H [c1, c2, c3, c4, c5]).bind fun x1 => (dI .i64 c6).bind fun x2 => (Tree.of H [c7, c8, c9, c10, c11, c12, c13, c14]).bind fun x3 => some (.mk x0 x1 x2 x3)
  | _ => none
theorem Fun.of_lit {H : List AObj} {c0 c1 c2 c3 c4 c5 c6 c7 c8 c9 c10 c11 c12 c13 c14 : AV} : Fun.of H [c0, c1, c2, c3, c4, c5, c6, c7, c8, c9, c10, c11, c12, c13, c14] = (dS c0).bind fun x0 => (Term.of H [c1, c2, c3, c4, c5]).bind fun x1 => (dI .i64 c6).bind fun x2 => (Tree.of H [c7, c8, c9, c10, c11, c12, c13, c14]).bind fun x3 => some (.mk x0 x1 x2 x3) := rfl
theorem Fun.of_lit_cells (H : List AObj) (x : Fun) : Fun.of H [.str (sb x.name), .int .i64 x.type.kind, .int .i64 x.type.index, .str (sb x.type.name), .lst false 2 (mp Level.cells x.type.levels), .lst false 5 (mp Term.cells x.type.kids), .int .i64 x.arity, .int .i64 x.tree.kind, .int .i64 x.tree.body.kind, .int .i64 x.tree.body.index, .str (sb x.tree.body.name), .lst false 2 (mp Level.cells x.tree.body.levels), .lst false 5 (mp Term.cells x.tree.body.kids), .int .i64 x.tree.var, .lst false 10 (mp Branch.cells x.tree.branches)] = some x := by
  simp only [Fun.of_lit, dI_int, dB_bool, dS_sb, bind_some', szOK, beq_self_eq_true, Bool.true_or, cond_true, dL, Term.of_lit_cells, Tree.of_lit_cells]
  try (cases x; rfl)
theorem Fun.of_cells (H : List AObj) (x : Fun) : Fun.of H x.cells = some x := by rw [Fun.cells_eq]; exact Fun.of_lit_cells H x
theorem Fun.of_ok {H : List AObj} {n : Nat} {cs : List AV} {x : Fun} (h : Fun.of H cs = some x) : CoL1 H n cs x.cells := by
  unfold Fun.of at h
  split at h
  · simp only [Option.bind_eq_some_iff, Option.some.injEq] at h
    obtain ⟨x0, h0, x1, h1, x2, h2, x3, h3, rfl⟩ := h
    rw [Fun.cells_cat]
    exact (CoL1.append (CoL1.append (CoL1.append (CoL1.cons (dS_ok h0) CoL1.nil) (Term.of_ok h1)) (CoL1.cons (dI_ok h2) CoL1.nil)) (Tree.of_ok h3))
  · cases h
def Fun.cel : Cel Fun := ⟨Fun.cells, Fun.of, fun _ _ _ _ h => Fun.of_ok h, Fun.nb⟩
def Fun.row : Row Fun := ⟨Fun.cells, Fun.of [], 15, fun _ _ h => (Fun.of_ok (n := 0) h).toSub, Fun.nb⟩
theorem Fun.mapO_cells (xs : List Fun) : mapO (Fun.of []) (mp Fun.cells xs) = some xs := mapO_mp (Fun.of_cells []) xs
theorem Fun.mapO_set (xs : List Fun) (i : Nat) (r : List AV) : mapO (Fun.of []) ((mp Fun.cells xs).set i r) = bif decide (i < xs.length) then (Fun.of [] r).bind fun y => some (xs.set i y) else some xs := Go.Abs.mapO_set (Fun.of_cells []) xs i r
attribute [go_sem low] Fun.mapO_set
theorem Fun.row_f : Fun.row.enc = Fun.cells ∧ Fun.row.dec = Fun.of [] ∧ Fun.row.sz = 15 ∧ Fun.cel.enc = Fun.cells ∧ Fun.cel.dec = Fun.of := ⟨rfl, rfl, rfl, rfl, rfl⟩
theorem Fun.eta (x : Fun) : Fun.mk x.name x.type x.arity x.tree = x := by cases x; rfl
attribute [go_sem] Fun.of_lit Fun.of_cells Fun.mapO_cells Fun.row_f Fun.eta
theorem Fun.prj : (∀ (y0 : Str) (y1 : Term) (y2 : Int) (y3 : Tree), (Fun.mk y0 y1 y2 y3).name = y0) ∧ (∀ (y0 : Str) (y1 : Term) (y2 : Int) (y3 : Tree), (Fun.mk y0 y1 y2 y3).type = y1) ∧ (∀ (y0 : Str) (y1 : Term) (y2 : Int) (y3 : Tree), (Fun.mk y0 y1 y2 y3).arity = y2) ∧ (∀ (y0 : Str) (y1 : Term) (y2 : Int) (y3 : Tree), (Fun.mk y0 y1 y2 y3).tree = y3) := ⟨fun _ _ _ _ => rfl, fun _ _ _ _ => rfl, fun _ _ _ _ => rfl, fun _ _ _ _ => rfl⟩
attribute [go_sem] Fun.prj
theorem Fun.nbs : (∀ (n : Nat) (x : Fun), Go.Abs.nbL n x.cells = True) ∧ ∀ (n : Nat) (xs : List Fun), Go.Abs.nbR n (mp Fun.cells xs) = True := ⟨fun n x => eq_true (Fun.nb n x), fun n xs => eq_true (nbR_map (Fun.nb n) xs)⟩
theorem Fun.rens : (∀ (ρ : Nat → Nat) (x : Fun), renL ρ x.cells = x.cells) ∧ ∀ (ρ : Nat → Nat) (xs : List Fun), renR ρ (mp Fun.cells xs) = mp Fun.cells xs := ⟨fun ρ x => renL_of_nb ρ _ (Fun.nb 0 x), fun ρ xs => renR_of_nb ρ _ (nbR_map (Fun.nb 0) xs)⟩
theorem Fun.vw (H : List AObj) (x : Fun) : vwL H x.cells = some (x.cells, []) := vwL_of_nb H _ (Fun.nb 0 x)
attribute [go_sem] Fun.vw
theorem Fun.frz (low : Nat) (H : List AObj) (x : Fun) : frzL low H x.cells = x.cells := frzL_of_nb low H _ (Fun.nb 0 x)
theorem Fun.rpv (l : Nat) (ds : List AV) (x : Fun) : x.cells.map (rpV l ds) = x.cells := rpVL_of_nb _ (Fun.nb 0 x)
attribute [go_sem] Fun.rpv
theorem Fun.tk : (∀ x : Fun, List.take 15 x.cells = x.cells) ∧ ∀ x : Fun, List.drop 15 x.cells = [] := ⟨fun x => by rw [Fun.cells_eq]; rfl, fun x => by rw [Fun.cells_eq]; rfl⟩
attribute [go_sem] Fun.tk
theorem Fun.reads :
    (∀ x : Fun, cellsOf (.agg x.cells) = some x.cells) ∧
    (∀ x : Fun, loadAV true 15 x.cells = some (.agg x.cells)) ∧
    (∀ x : Fun, loadAV false 1 x.cells = some (.str (sb x.name))) ∧
    (∀ x : Fun, loadAV false 1 (x.cells.drop 1) = some (.int .i64 x.type.kind)) ∧
    (∀ x : Fun, loadAV false 1 (x.cells.drop 2) = some (.int .i64 x.type.index)) ∧
    (∀ x : Fun, loadAV false 1 (x.cells.drop 3) = some (.str (sb x.type.name))) ∧
    (∀ x : Fun, loadAV false 1 (x.cells.drop 4) = some (.lst false 2 (mp Level.cells x.type.levels))) ∧
    (∀ x : Fun, loadAV false 1 (x.cells.drop 5) = some (.lst false 5 (mp Term.cells x.type.kids))) ∧
    (∀ x : Fun, loadAV false 1 (x.cells.drop 6) = some (.int .i64 x.arity)) ∧
    (∀ x : Fun, loadAV false 1 (x.cells.drop 7) = some (.int .i64 x.tree.kind)) ∧
    (∀ x : Fun, loadAV false 1 (x.cells.drop 8) = some (.int .i64 x.tree.body.kind)) ∧
    (∀ x : Fun, loadAV false 1 (x.cells.drop 9) = some (.int .i64 x.tree.body.index)) ∧
    (∀ x : Fun, loadAV false 1 (x.cells.drop 10) = some (.str (sb x.tree.body.name))) ∧
    (∀ x : Fun, loadAV false 1 (x.cells.drop 11) = some (.lst false 2 (mp Level.cells x.tree.body.levels))) ∧
    (∀ x : Fun, loadAV false 1 (x.cells.drop 12) = some (.lst false 5 (mp Term.cells x.tree.body.kids))) ∧
    (∀ x : Fun, loadAV false 1 (x.cells.drop 13) = some (.int .i64 x.tree.var)) ∧
    (∀ x : Fun, loadAV false 1 (x.cells.drop 14) = some (.lst false 10 (mp Branch.cells x.tree.branches))) ∧
    (∀ x : Fun, loadAV true 5 (x.cells.drop 1) = some (.agg x.type.cells)) ∧
    (∀ x : Fun, loadAV true 8 (x.cells.drop 7) = some (.agg x.tree.cells)) ∧
    (∀ x : Fun, loadAV true 5 (x.cells.drop 8) = some (.agg x.tree.body.cells)) :=
  ⟨fun x => by simp only [cellsOf, Fun.scalar, if_true],
   fun x => loadAV_all (Fun.length x),
   fun x => by rw [Fun.cells_eq]; rfl,
   fun x => by rw [Fun.cells_eq]; rfl,
   fun x => by rw [Fun.cells_eq]; rfl,
   fun x => by rw [Fun.cells_eq]; rfl,
   fun x => by rw [Fun.cells_eq]; rfl,
   fun x => by rw [Fun.cells_eq]; rfl,
   fun x => by rw [Fun.cells_eq]; rfl,
   fun x => by rw [Fun.cells_eq]; rfl,
   fun x => by rw [Fun.cells_eq]; rfl,
   fun x => by rw [Fun.cells_eq]; rfl,
   fun x => by rw [Fun.cells_eq]; rfl,
   fun x => by rw [Fun.cells_eq]; rfl,
   fun x => by rw [Fun.cells_eq]; rfl,
   fun x => by rw [Fun.cells_eq]; rfl,
   fun x => by rw [Fun.cells_eq]; rfl,
   fun x => by rw [Fun.cells_eq]; simp only [Term.cells_eq, Tree.cells_eq, List.drop_succ_cons, List.drop_zero]; rfl,
   fun x => by rw [Fun.cells_eq]; simp only [Term.cells_eq, Tree.cells_eq, List.drop_succ_cons, List.drop_zero]; rfl,
   fun x => by rw [Fun.cells_eq]; simp only [Term.cells_eq, Tree.cells_eq, List.drop_succ_cons, List.drop_zero]; rfl⟩
theorem Fun.splc (x : Fun) (o : Nat) (xs : List AV) : splice x.cells o xs = splice [.str (sb x.name), .int .i64 x.type.kind, .int .i64 x.type.index, .str (sb x.type.name), .lst false 2 (mp Level.cells x.type.levels), .lst false 5 (mp Term.cells x.type.kids), .int .i64 x.arity, .int .i64 x.tree.kind, .int .i64 x.tree.body.kind, .int .i64 x.tree.body.index, .str (sb x.tree.body.name), .lst false 2 (mp Level.cells x.tree.body.levels), .lst false 5 (mp Term.cells x.tree.body.kids), .int .i64 x.tree.var, .lst false 10 (mp Branch.cells x.tree.branches)] o xs := by rw [Fun.cells_eq]
theorem Fun.splc2 (x : Fun) (o : Nat) (c : AV) (cs : List AV) : splice (c :: cs) o x.cells = splice (c :: cs) o [.str (sb x.name), .int .i64 x.type.kind, .int .i64 x.type.index, .str (sb x.type.name), .lst false 2 (mp Level.cells x.type.levels), .lst false 5 (mp Term.cells x.type.kids), .int .i64 x.arity, .int .i64 x.tree.kind, .int .i64 x.tree.body.kind, .int .i64 x.tree.body.index, .str (sb x.tree.body.name), .lst false 2 (mp Level.cells x.tree.body.levels), .lst false 5 (mp Term.cells x.tree.body.kids), .int .i64 x.tree.var, .lst false 10 (mp Branch.cells x.tree.branches)] := by rw [Fun.cells_eq]
theorem Fun.app (x : Fun) (l : List AV) : x.cells ++ l = (.str (sb x.name) : AV) :: (.int .i64 x.type.kind : AV) :: (.int .i64 x.type.index : AV) :: (.str (sb x.type.name) : AV) :: (.lst false 2 (mp Level.cells x.type.levels) : AV) :: (.lst false 5 (mp Term.cells x.type.kids) : AV) :: (.int .i64 x.arity : AV) :: (.int .i64 x.tree.kind : AV) :: (.int .i64 x.tree.body.kind : AV) :: (.int .i64 x.tree.body.index : AV) :: (.str (sb x.tree.body.name) : AV) :: (.lst false 2 (mp Level.cells x.tree.body.levels) : AV) :: (.lst false 5 (mp Term.cells x.tree.body.kids) : AV) :: (.int .i64 x.tree.var : AV) :: (.lst false 10 (mp Branch.cells x.tree.branches) : AV) :: l := by rw [Fun.cells_eq]; rfl
theorem Fun.cns (x : Fun) (c : AV) : c :: x.cells = [c, .str (sb x.name), .int .i64 x.type.kind, .int .i64 x.type.index, .str (sb x.type.name), .lst false 2 (mp Level.cells x.type.levels), .lst false 5 (mp Term.cells x.type.kids), .int .i64 x.arity, .int .i64 x.tree.kind, .int .i64 x.tree.body.kind, .int .i64 x.tree.body.index, .str (sb x.tree.body.name), .lst false 2 (mp Level.cells x.tree.body.levels), .lst false 5 (mp Term.cells x.tree.body.kids), .int .i64 x.tree.var, .lst false 10 (mp Branch.cells x.tree.branches)] := by rw [Fun.cells_eq]
attribute [go_sem] Fun.app Fun.cns
attribute [go_sem] Fun.nbs Fun.rens Fun.frz Fun.reads Fun.length Fun.scalar
attribute [go_sem low] Fun.splc Fun.splc2

structure Decl where
  kind : Int
  name : Str
  params : Int
  type : Term
  value : Term
  fixed : Int
  ctors : List Ctor
  recu : Zs3
  funs : List Fun
def Decl.cells (x : Decl) : List AV := [.int .i64 x.kind, .str (sb x.name), .int .i64 x.params] ++ x.type.cells ++ x.value.cells ++ [.int .i64 x.fixed, .lst false 6 (mp Ctor.cells x.ctors)] ++ x.recu.cells ++ [.lst false 15 (mp Fun.cells x.funs)]
theorem Decl.cells_cat (x : Decl) : x.cells = [.int .i64 x.kind, .str (sb x.name), .int .i64 x.params] ++ x.type.cells ++ x.value.cells ++ [.int .i64 x.fixed, .lst false 6 (mp Ctor.cells x.ctors)] ++ x.recu.cells ++ [.lst false 15 (mp Fun.cells x.funs)] := rfl
theorem Decl.cells_eq (x : Decl) : x.cells = [.int .i64 x.kind, .str (sb x.name), .int .i64 x.params, .int .i64 x.type.kind, .int .i64 x.type.index, .str (sb x.type.name), .lst false 2 (mp Level.cells x.type.levels), .lst false 5 (mp Term.cells x.type.kids), .int .i64 x.value.kind, .int .i64 x.value.index, .str (sb x.value.name), .lst false 2 (mp Level.cells x.value.levels), .lst false 5 (mp Term.cells x.value.kids), .int .i64 x.fixed, .lst false 6 (mp Ctor.cells x.ctors), .int .i64 x.recu.params, .int .i64 x.recu.type.kind, .int .i64 x.recu.type.index, .str (sb x.recu.type.name), .lst false 2 (mp Level.cells x.recu.type.levels), .lst false 5 (mp Term.cells x.recu.type.kids), .lst false 5 (mp Term.cells x.recu.rules), .lst false 15 (mp Fun.cells x.funs)] := by
  simp only [Decl.cells, Zs3.cells_eq, Term.cells_eq, List.cons_append, List.nil_append, List.append_nil]
attribute [irreducible] Decl.cells
theorem Decl.length (x : Decl) : x.cells.length = 23 := by rw [Decl.cells_eq]; rfl
theorem Decl.scalar (x : Decl) : x.cells.all AV.scalar = true := by rw [Decl.cells_eq]; rfl
theorem Decl.nb (n : Nat) (x : Decl) : nbL n x.cells := by
  rw [Decl.cells_cat]
  exact (nbL_append (nbL_append (nbL_append (nbL_append (nbL_append ⟨trivial, trivial, trivial, trivial⟩ (Term.nb n x.type)) (Term.nb n x.value)) ⟨trivial, nbR_map (Ctor.nb n) _, trivial⟩) (Zs3.nb n x.recu)) ⟨nbR_map (Fun.nb n) _, trivial⟩)
def Decl.of (H : List AObj) : List AV → Option Decl
  | [c0, c1, c2, c3, c4, c5, c6, c7, c8, c9, c10, c11, c12, c13, c14, c15, c16, c17, c18, c19, c20, c21, c22] => (dI .i64 c0).bind fun x0 => (dS c1).bind fun x1 => (dI .i64 c2).bind fun x2 => (Term.of H [c3, c4, c5, c6, c7]).bind fun x3 => (Term.of H [c8, c9, c10, c11, c12]).bind fun x4 => (dI .i64 c13).bind fun x5 => (dL Ctor.row H c14).bind fun x6 => (Zs3.of H [c15, c16, c17, c18, c19, c20, c21]).bind fun x7 => (dL Fun.row H c22).bind fun x8 => some (.mk x0 x1 x2 x3 x4 x5 x6 x7 x8)
  | _ => none
theorem Decl.of_lit {H : List AObj} {c0 c1 c2 c3 c4 c5 c6 c7 c8 c9 c10 c11 c12 c13 c14 c15 c16 c17 c18 c19 c20 c21 c22 : AV} : Decl.of H [c0, c1, c2, c3, c4, c5, c6, c7, c8, c9, c10, c11, c12, c13, c14, c15, c16, c17, c18, c19, c20, c21, c22] = (dI .i64 c0).bind fun x0 => (dS c1).bind fun x1 => (dI .i64 c2).bind fun x2 => (Term.of H [c3, c4, c5, c6, c7]).bind fun x3 => (Term.of H [c8, c9, c10, c11, c12]).bind fun x4 => (dI .i64 c13).bind fun x5 => (dL Ctor.row H c14).bind fun x6 => (Zs3.of H [c15, c16, c17, c18, c19, c20, c21]).bind fun x7 => (dL Fun.row H c22).bind fun x8 => some (.mk x0 x1 x2 x3 x4 x5 x6 x7 x8) := rfl
theorem Decl.of_lit_cells (H : List AObj) (x : Decl) : Decl.of H [.int .i64 x.kind, .str (sb x.name), .int .i64 x.params, .int .i64 x.type.kind, .int .i64 x.type.index, .str (sb x.type.name), .lst false 2 (mp Level.cells x.type.levels), .lst false 5 (mp Term.cells x.type.kids), .int .i64 x.value.kind, .int .i64 x.value.index, .str (sb x.value.name), .lst false 2 (mp Level.cells x.value.levels), .lst false 5 (mp Term.cells x.value.kids), .int .i64 x.fixed, .lst false 6 (mp Ctor.cells x.ctors), .int .i64 x.recu.params, .int .i64 x.recu.type.kind, .int .i64 x.recu.type.index, .str (sb x.recu.type.name), .lst false 2 (mp Level.cells x.recu.type.levels), .lst false 5 (mp Term.cells x.recu.type.kids), .lst false 5 (mp Term.cells x.recu.rules), .lst false 15 (mp Fun.cells x.funs)] = some x := by
  simp only [Decl.of_lit, dI_int, dB_bool, dS_sb, bind_some', szOK, beq_self_eq_true, Bool.true_or, cond_true, dL, Ctor.mapO_cells, Ctor.row, Fun.mapO_cells, Fun.row, Zs3.of_lit_cells, Term.of_lit_cells]
  try (cases x; rfl)
theorem Decl.of_cells (H : List AObj) (x : Decl) : Decl.of H x.cells = some x := by rw [Decl.cells_eq]; exact Decl.of_lit_cells H x
theorem Decl.of_ok {H : List AObj} {n : Nat} {cs : List AV} {x : Decl} (h : Decl.of H cs = some x) : CoL1 H n cs x.cells := by
  unfold Decl.of at h
  split at h
  · simp only [Option.bind_eq_some_iff, Option.some.injEq] at h
    obtain ⟨x0, h0, x1, h1, x2, h2, x3, h3, x4, h4, x5, h5, x6, h6, x7, h7, x8, h8, rfl⟩ := h
    rw [Decl.cells_cat]
    exact (CoL1.append (CoL1.append (CoL1.append (CoL1.append (CoL1.append (CoL1.cons (dI_ok h0) (CoL1.cons (dS_ok h1) (CoL1.cons (dI_ok h2) CoL1.nil))) (Term.of_ok h3)) (Term.of_ok h4)) (CoL1.cons (dI_ok h5) (CoL1.cons (dL_ok h6) CoL1.nil))) (Zs3.of_ok h7)) (CoL1.cons (dL_ok h8) CoL1.nil))
  · cases h
def Decl.cel : Cel Decl := ⟨Decl.cells, Decl.of, fun _ _ _ _ h => Decl.of_ok h, Decl.nb⟩
def Decl.row : Row Decl := ⟨Decl.cells, Decl.of [], 23, fun _ _ h => (Decl.of_ok (n := 0) h).toSub, Decl.nb⟩
theorem Decl.mapO_cells (xs : List Decl) : mapO (Decl.of []) (mp Decl.cells xs) = some xs := mapO_mp (Decl.of_cells []) xs
theorem Decl.mapO_set (xs : List Decl) (i : Nat) (r : List AV) : mapO (Decl.of []) ((mp Decl.cells xs).set i r) = bif decide (i < xs.length) then (Decl.of [] r).bind fun y => some (xs.set i y) else some xs := Go.Abs.mapO_set (Decl.of_cells []) xs i r
attribute [go_sem low] Decl.mapO_set
theorem Decl.row_f : Decl.row.enc = Decl.cells ∧ Decl.row.dec = Decl.of [] ∧ Decl.row.sz = 23 ∧ Decl.cel.enc = Decl.cells ∧ Decl.cel.dec = Decl.of := ⟨rfl, rfl, rfl, rfl, rfl⟩
theorem Decl.eta (x : Decl) : Decl.mk x.kind x.name x.params x.type x.value x.fixed x.ctors x.recu x.funs = x := by cases x; rfl
attribute [go_sem] Decl.of_lit Decl.of_cells Decl.mapO_cells Decl.row_f Decl.eta
theorem Decl.prj : (∀ (y0 : Int) (y1 : Str) (y2 : Int) (y3 : Term) (y4 : Term) (y5 : Int) (y6 : List Ctor) (y7 : Zs3) (y8 : List Fun), (Decl.mk y0 y1 y2 y3 y4 y5 y6 y7 y8).kind = y0) ∧ (∀ (y0 : Int) (y1 : Str) (y2 : Int) (y3 : Term) (y4 : Term) (y5 : Int) (y6 : List Ctor) (y7 : Zs3) (y8 : List Fun), (Decl.mk y0 y1 y2 y3 y4 y5 y6 y7 y8).name = y1) ∧ (∀ (y0 : Int) (y1 : Str) (y2 : Int) (y3 : Term) (y4 : Term) (y5 : Int) (y6 : List Ctor) (y7 : Zs3) (y8 : List Fun), (Decl.mk y0 y1 y2 y3 y4 y5 y6 y7 y8).params = y2) ∧ (∀ (y0 : Int) (y1 : Str) (y2 : Int) (y3 : Term) (y4 : Term) (y5 : Int) (y6 : List Ctor) (y7 : Zs3) (y8 : List Fun), (Decl.mk y0 y1 y2 y3 y4 y5 y6 y7 y8).type = y3) ∧ (∀ (y0 : Int) (y1 : Str) (y2 : Int) (y3 : Term) (y4 : Term) (y5 : Int) (y6 : List Ctor) (y7 : Zs3) (y8 : List Fun), (Decl.mk y0 y1 y2 y3 y4 y5 y6 y7 y8).value = y4) ∧ (∀ (y0 : Int) (y1 : Str) (y2 : Int) (y3 : Term) (y4 : Term) (y5 : Int) (y6 : List Ctor) (y7 : Zs3) (y8 : List Fun), (Decl.mk y0 y1 y2 y3 y4 y5 y6 y7 y8).fixed = y5) ∧ (∀ (y0 : Int) (y1 : Str) (y2 : Int) (y3 : Term) (y4 : Term) (y5 : Int) (y6 : List Ctor) (y7 : Zs3) (y8 : List Fun), (Decl.mk y0 y1 y2 y3 y4 y5 y6 y7 y8).ctors = y6) ∧ (∀ (y0 : Int) (y1 : Str) (y2 : Int) (y3 : Term) (y4 : Term) (y5 : Int) (y6 : List Ctor) (y7 : Zs3) (y8 : List Fun), (Decl.mk y0 y1 y2 y3 y4 y5 y6 y7 y8).recu = y7) ∧ (∀ (y0 : Int) (y1 : Str) (y2 : Int) (y3 : Term) (y4 : Term) (y5 : Int) (y6 : List Ctor) (y7 : Zs3) (y8 : List Fun), (Decl.mk y0 y1 y2 y3 y4 y5 y6 y7 y8).funs = y8) := ⟨fun _ _ _ _ _ _ _ _ _ => rfl, fun _ _ _ _ _ _ _ _ _ => rfl, fun _ _ _ _ _ _ _ _ _ => rfl, fun _ _ _ _ _ _ _ _ _ => rfl, fun _ _ _ _ _ _ _ _ _ => rfl, fun _ _ _ _ _ _ _ _ _ => rfl, fun _ _ _ _ _ _ _ _ _ => rfl, fun _ _ _ _ _ _ _ _ _ => rfl, fun _ _ _ _ _ _ _ _ _ => rfl⟩
attribute [go_sem] Decl.prj
theorem Decl.nbs : (∀ (n : Nat) (x : Decl), Go.Abs.nbL n x.cells = True) ∧ ∀ (n : Nat) (xs : List Decl), Go.Abs.nbR n (mp Decl.cells xs) = True := ⟨fun n x => eq_true (Decl.nb n x), fun n xs => eq_true (nbR_map (Decl.nb n) xs)⟩
theorem Decl.rens : (∀ (ρ : Nat → Nat) (x : Decl), renL ρ x.cells = x.cells) ∧ ∀ (ρ : Nat → Nat) (xs : List Decl), renR ρ (mp Decl.cells xs) = mp Decl.cells xs := ⟨fun ρ x => renL_of_nb ρ _ (Decl.nb 0 x), fun ρ xs => renR_of_nb ρ _ (nbR_map (Decl.nb 0) xs)⟩
theorem Decl.vw (H : List AObj) (x : Decl) : vwL H x.cells = some (x.cells, []) := vwL_of_nb H _ (Decl.nb 0 x)
attribute [go_sem] Decl.vw
theorem Decl.frz (low : Nat) (H : List AObj) (x : Decl) : frzL low H x.cells = x.cells := frzL_of_nb low H _ (Decl.nb 0 x)
theorem Decl.rpv (l : Nat) (ds : List AV) (x : Decl) : x.cells.map (rpV l ds) = x.cells := rpVL_of_nb _ (Decl.nb 0 x)
attribute [go_sem] Decl.rpv
theorem Decl.tk : (∀ x : Decl, List.take 23 x.cells = x.cells) ∧ ∀ x : Decl, List.drop 23 x.cells = [] := ⟨fun x => by rw [Decl.cells_eq]; rfl, fun x => by rw [Decl.cells_eq]; rfl⟩
attribute [go_sem] Decl.tk
theorem Decl.reads :
    (∀ x : Decl, cellsOf (.agg x.cells) = some x.cells) ∧
    (∀ x : Decl, loadAV true 23 x.cells = some (.agg x.cells)) ∧
    (∀ x : Decl, loadAV false 1 x.cells = some (.int .i64 x.kind)) ∧
    (∀ x : Decl, loadAV false 1 (x.cells.drop 1) = some (.str (sb x.name))) ∧
    (∀ x : Decl, loadAV false 1 (x.cells.drop 2) = some (.int .i64 x.params)) ∧
    (∀ x : Decl, loadAV false 1 (x.cells.drop 3) = some (.int .i64 x.type.kind)) ∧
    (∀ x : Decl, loadAV false 1 (x.cells.drop 4) = some (.int .i64 x.type.index)) ∧
    (∀ x : Decl, loadAV false 1 (x.cells.drop 5) = some (.str (sb x.type.name))) ∧
    (∀ x : Decl, loadAV false 1 (x.cells.drop 6) = some (.lst false 2 (mp Level.cells x.type.levels))) ∧
    (∀ x : Decl, loadAV false 1 (x.cells.drop 7) = some (.lst false 5 (mp Term.cells x.type.kids))) ∧
    (∀ x : Decl, loadAV false 1 (x.cells.drop 8) = some (.int .i64 x.value.kind)) ∧
    (∀ x : Decl, loadAV false 1 (x.cells.drop 9) = some (.int .i64 x.value.index)) ∧
    (∀ x : Decl, loadAV false 1 (x.cells.drop 10) = some (.str (sb x.value.name))) ∧
    (∀ x : Decl, loadAV false 1 (x.cells.drop 11) = some (.lst false 2 (mp Level.cells x.value.levels))) ∧
    (∀ x : Decl, loadAV false 1 (x.cells.drop 12) = some (.lst false 5 (mp Term.cells x.value.kids))) ∧
    (∀ x : Decl, loadAV false 1 (x.cells.drop 13) = some (.int .i64 x.fixed)) ∧
    (∀ x : Decl, loadAV false 1 (x.cells.drop 14) = some (.lst false 6 (mp Ctor.cells x.ctors))) ∧
    (∀ x : Decl, loadAV false 1 (x.cells.drop 15) = some (.int .i64 x.recu.params)) ∧
    (∀ x : Decl, loadAV false 1 (x.cells.drop 16) = some (.int .i64 x.recu.type.kind)) ∧
    (∀ x : Decl, loadAV false 1 (x.cells.drop 17) = some (.int .i64 x.recu.type.index)) ∧
    (∀ x : Decl, loadAV false 1 (x.cells.drop 18) = some (.str (sb x.recu.type.name))) ∧
    (∀ x : Decl, loadAV false 1 (x.cells.drop 19) = some (.lst false 2 (mp Level.cells x.recu.type.levels))) ∧
    (∀ x : Decl, loadAV false 1 (x.cells.drop 20) = some (.lst false 5 (mp Term.cells x.recu.type.kids))) ∧
    (∀ x : Decl, loadAV false 1 (x.cells.drop 21) = some (.lst false 5 (mp Term.cells x.recu.rules))) ∧
    (∀ x : Decl, loadAV false 1 (x.cells.drop 22) = some (.lst false 15 (mp Fun.cells x.funs))) ∧
    (∀ x : Decl, loadAV true 5 (x.cells.drop 3) = some (.agg x.type.cells)) ∧
    (∀ x : Decl, loadAV true 5 (x.cells.drop 8) = some (.agg x.value.cells)) ∧
    (∀ x : Decl, loadAV true 7 (x.cells.drop 15) = some (.agg x.recu.cells)) ∧
    (∀ x : Decl, loadAV true 5 (x.cells.drop 16) = some (.agg x.recu.type.cells)) :=
  ⟨fun x => by simp only [cellsOf, Decl.scalar, if_true],
   fun x => loadAV_all (Decl.length x),
   fun x => by rw [Decl.cells_eq]; rfl,
   fun x => by rw [Decl.cells_eq]; rfl,
   fun x => by rw [Decl.cells_eq]; rfl,
   fun x => by rw [Decl.cells_eq]; rfl,
   fun x => by rw [Decl.cells_eq]; rfl,
   fun x => by rw [Decl.cells_eq]; rfl,
   fun x => by rw [Decl.cells_eq]; rfl,
   fun x => by rw [Decl.cells_eq]; rfl,
   fun x => by rw [Decl.cells_eq]; rfl,
   fun x => by rw [Decl.cells_eq]; rfl,
   fun x => by rw [Decl.cells_eq]; rfl,
   fun x => by rw [Decl.cells_eq]; rfl,
   fun x => by rw [Decl.cells_eq]; rfl,
   fun x => by rw [Decl.cells_eq]; rfl,
   fun x => by rw [Decl.cells_eq]; rfl,
   fun x => by rw [Decl.cells_eq]; rfl,
   fun x => by rw [Decl.cells_eq]; rfl,
   fun x => by rw [Decl.cells_eq]; rfl,
   fun x => by rw [Decl.cells_eq]; rfl,
   fun x => by rw [Decl.cells_eq]; rfl,
   fun x => by rw [Decl.cells_eq]; rfl,
   fun x => by rw [Decl.cells_eq]; rfl,
   fun x => by rw [Decl.cells_eq]; rfl,
   fun x => by rw [Decl.cells_eq]; simp only [Zs3.cells_eq, Term.cells_eq, List.drop_succ_cons, List.drop_zero]; rfl,
   fun x => by rw [Decl.cells_eq]; simp only [Zs3.cells_eq, Term.cells_eq, List.drop_succ_cons, List.drop_zero]; rfl,
   fun x => by rw [Decl.cells_eq]; simp only [Zs3.cells_eq, Term.cells_eq, List.drop_succ_cons, List.drop_zero]; rfl,
   fun x => by rw [Decl.cells_eq]; simp only [Zs3.cells_eq, Term.cells_eq, List.drop_succ_cons, List.drop_zero]; rfl⟩
theorem Decl.splc (x : Decl) (o : Nat) (xs : List AV) : splice x.cells o xs = splice [.int .i64 x.kind, .str (sb x.name), .int .i64 x.params, .int .i64 x.type.kind, .int .i64 x.type.index, .str (sb x.type.name), .lst false 2 (mp Level.cells x.type.levels), .lst false 5 (mp Term.cells x.type.kids), .int .i64 x.value.kind, .int .i64 x.value.index, .str (sb x.value.name), .lst false 2 (mp Level.cells x.value.levels), .lst false 5 (mp Term.cells x.value.kids), .int .i64 x.fixed, .lst false 6 (mp Ctor.cells x.ctors), .int .i64 x.recu.params, .int .i64 x.recu.type.kind, .int .i64 x.recu.type.index, .str (sb x.recu.type.name), .lst false 2 (mp Level.cells x.recu.type.levels), .lst false 5 (mp Term.cells x.recu.type.kids), .lst false 5 (mp Term.cells x.recu.rules), .lst false 15 (mp Fun.cells x.funs)] o xs := by rw [Decl.cells_eq]
theorem Decl.splc2 (x : Decl) (o : Nat) (c : AV) (cs : List AV) : splice (c :: cs) o x.cells = splice (c :: cs) o [.int .i64 x.kind, .str (sb x.name), .int .i64 x.params, .int .i64 x.type.kind, .int .i64 x.type.index, .str (sb x.type.name), .lst false 2 (mp Level.cells x.type.levels), .lst false 5 (mp Term.cells x.type.kids), .int .i64 x.value.kind, .int .i64 x.value.index, .str (sb x.value.name), .lst false 2 (mp Level.cells x.value.levels), .lst false 5 (mp Term.cells x.value.kids), .int .i64 x.fixed, .lst false 6 (mp Ctor.cells x.ctors), .int .i64 x.recu.params, .int .i64 x.recu.type.kind, .int .i64 x.recu.type.index, .str (sb x.recu.type.name), .lst false 2 (mp Level.cells x.recu.type.levels), .lst false 5 (mp Term.cells x.recu.type.kids), .lst false 5 (mp Term.cells x.recu.rules), .lst false 15 (mp Fun.cells x.funs)] := by rw [Decl.cells_eq]
theorem Decl.app (x : Decl) (l : List AV) : x.cells ++ l = (.int .i64 x.kind : AV) :: (.str (sb x.name) : AV) :: (.int .i64 x.params : AV) :: (.int .i64 x.type.kind : AV) :: (.int .i64 x.type.index : AV) :: (.str (sb x.type.name) : AV) :: (.lst false 2 (mp Level.cells x.type.levels) : AV) :: (.lst false 5 (mp Term.cells x.type.kids) : AV) :: (.int .i64 x.value.kind : AV) :: (.int .i64 x.value.index : AV) :: (.str (sb x.value.name) : AV) :: (.lst false 2 (mp Level.cells x.value.levels) : AV) :: (.lst false 5 (mp Term.cells x.value.kids) : AV) :: (.int .i64 x.fixed : AV) :: (.lst false 6 (mp Ctor.cells x.ctors) : AV) :: (.int .i64 x.recu.params : AV) :: (.int .i64 x.recu.type.kind : AV) :: (.int .i64 x.recu.type.index : AV) :: (.str (sb x.recu.type.name) : AV) :: (.lst false 2 (mp Level.cells x.recu.type.levels) : AV) :: (.lst false 5 (mp Term.cells x.recu.type.kids) : AV) :: (.lst false 5 (mp Term.cells x.recu.rules) : AV) :: (.lst false 15 (mp Fun.cells x.funs) : AV) :: l := by rw [Decl.cells_eq]; rfl
theorem Decl.cns (x : Decl) (c : AV) : c :: x.cells = [c, .int .i64 x.kind, .str (sb x.name), .int .i64 x.params, .int .i64 x.type.kind, .int .i64 x.type.index, .str (sb x.type.name), .lst false 2 (mp Level.cells x.type.levels), .lst false 5 (mp Term.cells x.type.kids), .int .i64 x.value.kind, .int .i64 x.value.index, .str (sb x.value.name), .lst false 2 (mp Level.cells x.value.levels), .lst false 5 (mp Term.cells x.value.kids), .int .i64 x.fixed, .lst false 6 (mp Ctor.cells x.ctors), .int .i64 x.recu.params, .int .i64 x.recu.type.kind, .int .i64 x.recu.type.index, .str (sb x.recu.type.name), .lst false 2 (mp Level.cells x.recu.type.levels), .lst false 5 (mp Term.cells x.recu.type.kids), .lst false 5 (mp Term.cells x.recu.rules), .lst false 15 (mp Fun.cells x.funs)] := by rw [Decl.cells_eq]
attribute [go_sem] Decl.app Decl.cns
attribute [go_sem] Decl.nbs Decl.rens Decl.frz Decl.reads Decl.length Decl.scalar
attribute [go_sem low] Decl.splc Decl.splc2

structure Zs5 where
  field : Int
  args : List Term
  results : List Term
def Zs5.cells (x : Zs5) : List AV := [.int .i64 x.field, .lst false 5 (mp Term.cells x.args), .lst false 5 (mp Term.cells x.results)]
theorem Zs5.cells_cat (x : Zs5) : x.cells = [.int .i64 x.field, .lst false 5 (mp Term.cells x.args), .lst false 5 (mp Term.cells x.results)] := rfl
theorem Zs5.cells_eq (x : Zs5) : x.cells = [.int .i64 x.field, .lst false 5 (mp Term.cells x.args), .lst false 5 (mp Term.cells x.results)] := rfl
attribute [irreducible] Zs5.cells
theorem Zs5.length (x : Zs5) : x.cells.length = 3 := by rw [Zs5.cells_eq]; rfl
theorem Zs5.scalar (x : Zs5) : x.cells.all AV.scalar = true := by rw [Zs5.cells_eq]; rfl
theorem Zs5.nb (n : Nat) (x : Zs5) : nbL n x.cells := by
  rw [Zs5.cells_cat]
  exact ⟨trivial, nbR_map (Term.nb n) _, nbR_map (Term.nb n) _, trivial⟩
def Zs5.of (H : List AObj) : List AV → Option Zs5
  | [c0, c1, c2] => (dI .i64 c0).bind fun x0 => (dL Term.row H c1).bind fun x1 => (dL Term.row H c2).bind fun x2 => some (.mk x0 x1 x2)
  | _ => none
theorem Zs5.of_lit {H : List AObj} {c0 c1 c2 : AV} : Zs5.of H [c0, c1, c2] = (dI .i64 c0).bind fun x0 => (dL Term.row H c1).bind fun x1 => (dL Term.row H c2).bind fun x2 => some (.mk x0 x1 x2) := rfl
theorem Zs5.of_lit_cells (H : List AObj) (x : Zs5) : Zs5.of H [.int .i64 x.field, .lst false 5 (mp Term.cells x.args), .lst false 5 (mp Term.cells x.results)] = some x := by
  simp only [Zs5.of_lit, dI_int, dB_bool, dS_sb, bind_some', szOK, beq_self_eq_true, Bool.true_or, cond_true, dL, Term.mapO_cells, Term.row]
  try (cases x; rfl)
theorem Zs5.of_cells (H : List AObj) (x : Zs5) : Zs5.of H x.cells = some x := by rw [Zs5.cells_eq]; exact Zs5.of_lit_cells H x
theorem Zs5.of_ok {H : List AObj} {n : Nat} {cs : List AV} {x : Zs5} (h : Zs5.of H cs = some x) : CoL1 H n cs x.cells := by
  unfold Zs5.of at h
  split at h
  · simp only [Option.bind_eq_some_iff, Option.some.injEq] at h
    obtain ⟨x0, h0, x1, h1, x2, h2, rfl⟩ := h
    rw [Zs5.cells_cat]
    exact (CoL1.cons (dI_ok h0) (CoL1.cons (dL_ok h1) (CoL1.cons (dL_ok h2) CoL1.nil)))
  · cases h
def Zs5.cel : Cel Zs5 := ⟨Zs5.cells, Zs5.of, fun _ _ _ _ h => Zs5.of_ok h, Zs5.nb⟩
def Zs5.row : Row Zs5 := ⟨Zs5.cells, Zs5.of [], 3, fun _ _ h => (Zs5.of_ok (n := 0) h).toSub, Zs5.nb⟩
theorem Zs5.mapO_cells (xs : List Zs5) : mapO (Zs5.of []) (mp Zs5.cells xs) = some xs := mapO_mp (Zs5.of_cells []) xs
theorem Zs5.mapO_set (xs : List Zs5) (i : Nat) (r : List AV) : mapO (Zs5.of []) ((mp Zs5.cells xs).set i r) = bif decide (i < xs.length) then (Zs5.of [] r).bind fun y => some (xs.set i y) else some xs := Go.Abs.mapO_set (Zs5.of_cells []) xs i r
attribute [go_sem low] Zs5.mapO_set
theorem Zs5.row_f : Zs5.row.enc = Zs5.cells ∧ Zs5.row.dec = Zs5.of [] ∧ Zs5.row.sz = 3 ∧ Zs5.cel.enc = Zs5.cells ∧ Zs5.cel.dec = Zs5.of := ⟨rfl, rfl, rfl, rfl, rfl⟩
theorem Zs5.eta (x : Zs5) : Zs5.mk x.field x.args x.results = x := by cases x; rfl
attribute [go_sem] Zs5.of_lit Zs5.of_cells Zs5.mapO_cells Zs5.row_f Zs5.eta
theorem Zs5.prj : (∀ (y0 : Int) (y1 : List Term) (y2 : List Term), (Zs5.mk y0 y1 y2).field = y0) ∧ (∀ (y0 : Int) (y1 : List Term) (y2 : List Term), (Zs5.mk y0 y1 y2).args = y1) ∧ (∀ (y0 : Int) (y1 : List Term) (y2 : List Term), (Zs5.mk y0 y1 y2).results = y2) := ⟨fun _ _ _ => rfl, fun _ _ _ => rfl, fun _ _ _ => rfl⟩
attribute [go_sem] Zs5.prj
theorem Zs5.nbs : (∀ (n : Nat) (x : Zs5), Go.Abs.nbL n x.cells = True) ∧ ∀ (n : Nat) (xs : List Zs5), Go.Abs.nbR n (mp Zs5.cells xs) = True := ⟨fun n x => eq_true (Zs5.nb n x), fun n xs => eq_true (nbR_map (Zs5.nb n) xs)⟩
theorem Zs5.rens : (∀ (ρ : Nat → Nat) (x : Zs5), renL ρ x.cells = x.cells) ∧ ∀ (ρ : Nat → Nat) (xs : List Zs5), renR ρ (mp Zs5.cells xs) = mp Zs5.cells xs := ⟨fun ρ x => renL_of_nb ρ _ (Zs5.nb 0 x), fun ρ xs => renR_of_nb ρ _ (nbR_map (Zs5.nb 0) xs)⟩
theorem Zs5.vw (H : List AObj) (x : Zs5) : vwL H x.cells = some (x.cells, []) := vwL_of_nb H _ (Zs5.nb 0 x)
attribute [go_sem] Zs5.vw
theorem Zs5.frz (low : Nat) (H : List AObj) (x : Zs5) : frzL low H x.cells = x.cells := frzL_of_nb low H _ (Zs5.nb 0 x)
theorem Zs5.rpv (l : Nat) (ds : List AV) (x : Zs5) : x.cells.map (rpV l ds) = x.cells := rpVL_of_nb _ (Zs5.nb 0 x)
attribute [go_sem] Zs5.rpv
theorem Zs5.tk : (∀ x : Zs5, List.take 3 x.cells = x.cells) ∧ ∀ x : Zs5, List.drop 3 x.cells = [] := ⟨fun x => by rw [Zs5.cells_eq]; rfl, fun x => by rw [Zs5.cells_eq]; rfl⟩
attribute [go_sem] Zs5.tk
theorem Zs5.reads :
    (∀ x : Zs5, cellsOf (.agg x.cells) = some x.cells) ∧
    (∀ x : Zs5, loadAV true 3 x.cells = some (.agg x.cells)) ∧
    (∀ x : Zs5, loadAV false 1 x.cells = some (.int .i64 x.field)) ∧
    (∀ x : Zs5, loadAV false 1 (x.cells.drop 1) = some (.lst false 5 (mp Term.cells x.args))) ∧
    (∀ x : Zs5, loadAV false 1 (x.cells.drop 2) = some (.lst false 5 (mp Term.cells x.results))) :=
  ⟨fun x => by simp only [cellsOf, Zs5.scalar, if_true],
   fun x => loadAV_all (Zs5.length x),
   fun x => by rw [Zs5.cells_eq]; rfl,
   fun x => by rw [Zs5.cells_eq]; rfl,
   fun x => by rw [Zs5.cells_eq]; rfl⟩
theorem Zs5.splc (x : Zs5) (o : Nat) (xs : List AV) : splice x.cells o xs = splice [.int .i64 x.field, .lst false 5 (mp Term.cells x.args), .lst false 5 (mp Term.cells x.results)] o xs := by rw [Zs5.cells_eq]
theorem Zs5.splc2 (x : Zs5) (o : Nat) (c : AV) (cs : List AV) : splice (c :: cs) o x.cells = splice (c :: cs) o [.int .i64 x.field, .lst false 5 (mp Term.cells x.args), .lst false 5 (mp Term.cells x.results)] := by rw [Zs5.cells_eq]
theorem Zs5.app (x : Zs5) (l : List AV) : x.cells ++ l = (.int .i64 x.field : AV) :: (.lst false 5 (mp Term.cells x.args) : AV) :: (.lst false 5 (mp Term.cells x.results) : AV) :: l := by rw [Zs5.cells_eq]; rfl
theorem Zs5.cns (x : Zs5) (c : AV) : c :: x.cells = [c, .int .i64 x.field, .lst false 5 (mp Term.cells x.args), .lst false 5 (mp Term.cells x.results)] := by rw [Zs5.cells_eq]
attribute [go_sem] Zs5.app Zs5.cns
attribute [go_sem] Zs5.nbs Zs5.rens Zs5.frz Zs5.reads Zs5.length Zs5.scalar
attribute [go_sem low] Zs5.splc Zs5.splc2

structure Zs4 where
  name : Str
  fields : List Term
  recu : List Zs5
  results : List Term
def Zs4.cells (x : Zs4) : List AV := [.str (sb x.name), .lst false 5 (mp Term.cells x.fields), .lst false 3 (mp Zs5.cells x.recu), .lst false 5 (mp Term.cells x.results)]
theorem Zs4.cells_cat (x : Zs4) : x.cells = [.str (sb x.name), .lst false 5 (mp Term.cells x.fields), .lst false 3 (mp Zs5.cells x.recu), .lst false 5 (mp Term.cells x.results)] := rfl
theorem Zs4.cells_eq (x : Zs4) : x.cells = [.str (sb x.name), .lst false 5 (mp Term.cells x.fields), .lst false 3 (mp Zs5.cells x.recu), .lst false 5 (mp Term.cells x.results)] := rfl
attribute [irreducible] Zs4.cells
theorem Zs4.length (x : Zs4) : x.cells.length = 4 := by rw [Zs4.cells_eq]; rfl
theorem Zs4.scalar (x : Zs4) : x.cells.all AV.scalar = true := by rw [Zs4.cells_eq]; rfl
theorem Zs4.nb (n : Nat) (x : Zs4) : nbL n x.cells := by
  rw [Zs4.cells_cat]
  exact ⟨trivial, nbR_map (Term.nb n) _, nbR_map (Zs5.nb n) _, nbR_map (Term.nb n) _, trivial⟩
def Zs4.of (H : List AObj) : List AV → Option Zs4
  | [c0, c1, c2, c3] => (dS c0).bind fun x0 => (dL Term.row H c1).bind fun x1 => (dL Zs5.row H c2).bind fun x2 => (dL Term.row H c3).bind fun x3 => some (.mk x0 x1 x2 x3)
  | _ => none
theorem Zs4.of_lit {H : List AObj} {c0 c1 c2 c3 : AV} : Zs4.of H [c0, c1, c2, c3] = (dS c0).bind fun x0 => (dL Term.row H c1).bind fun x1 => (dL Zs5.row H c2).bind fun x2 => (dL Term.row H c3).bind fun x3 => some (.mk x0 x1 x2 x3) := rfl
theorem Zs4.of_lit_cells (H : List AObj) (x : Zs4) : Zs4.of H [.str (sb x.name), .lst false 5 (mp Term.cells x.fields), .lst false 3 (mp Zs5.cells x.recu), .lst false 5 (mp Term.cells x.results)] = some x := by
  simp only [Zs4.of_lit, dI_int, dB_bool, dS_sb, bind_some', szOK, beq_self_eq_true, Bool.true_or, cond_true, dL, Zs5.mapO_cells, Zs5.row, Term.mapO_cells, Term.row]
  try (cases x; rfl)
theorem Zs4.of_cells (H : List AObj) (x : Zs4) : Zs4.of H x.cells = some x := by rw [Zs4.cells_eq]; exact Zs4.of_lit_cells H x
theorem Zs4.of_ok {H : List AObj} {n : Nat} {cs : List AV} {x : Zs4} (h : Zs4.of H cs = some x) : CoL1 H n cs x.cells := by
  unfold Zs4.of at h
  split at h
  · simp only [Option.bind_eq_some_iff, Option.some.injEq] at h
    obtain ⟨x0, h0, x1, h1, x2, h2, x3, h3, rfl⟩ := h
    rw [Zs4.cells_cat]
    exact (CoL1.cons (dS_ok h0) (CoL1.cons (dL_ok h1) (CoL1.cons (dL_ok h2) (CoL1.cons (dL_ok h3) CoL1.nil))))
  · cases h
def Zs4.cel : Cel Zs4 := ⟨Zs4.cells, Zs4.of, fun _ _ _ _ h => Zs4.of_ok h, Zs4.nb⟩
def Zs4.row : Row Zs4 := ⟨Zs4.cells, Zs4.of [], 4, fun _ _ h => (Zs4.of_ok (n := 0) h).toSub, Zs4.nb⟩
theorem Zs4.mapO_cells (xs : List Zs4) : mapO (Zs4.of []) (mp Zs4.cells xs) = some xs := mapO_mp (Zs4.of_cells []) xs
theorem Zs4.mapO_set (xs : List Zs4) (i : Nat) (r : List AV) : mapO (Zs4.of []) ((mp Zs4.cells xs).set i r) = bif decide (i < xs.length) then (Zs4.of [] r).bind fun y => some (xs.set i y) else some xs := Go.Abs.mapO_set (Zs4.of_cells []) xs i r
attribute [go_sem low] Zs4.mapO_set
theorem Zs4.row_f : Zs4.row.enc = Zs4.cells ∧ Zs4.row.dec = Zs4.of [] ∧ Zs4.row.sz = 4 ∧ Zs4.cel.enc = Zs4.cells ∧ Zs4.cel.dec = Zs4.of := ⟨rfl, rfl, rfl, rfl, rfl⟩
theorem Zs4.eta (x : Zs4) : Zs4.mk x.name x.fields x.recu x.results = x := by cases x; rfl
attribute [go_sem] Zs4.of_lit Zs4.of_cells Zs4.mapO_cells Zs4.row_f Zs4.eta
theorem Zs4.prj : (∀ (y0 : Str) (y1 : List Term) (y2 : List Zs5) (y3 : List Term), (Zs4.mk y0 y1 y2 y3).name = y0) ∧ (∀ (y0 : Str) (y1 : List Term) (y2 : List Zs5) (y3 : List Term), (Zs4.mk y0 y1 y2 y3).fields = y1) ∧ (∀ (y0 : Str) (y1 : List Term) (y2 : List Zs5) (y3 : List Term), (Zs4.mk y0 y1 y2 y3).recu = y2) ∧ (∀ (y0 : Str) (y1 : List Term) (y2 : List Zs5) (y3 : List Term), (Zs4.mk y0 y1 y2 y3).results = y3) := ⟨fun _ _ _ _ => rfl, fun _ _ _ _ => rfl, fun _ _ _ _ => rfl, fun _ _ _ _ => rfl⟩
attribute [go_sem] Zs4.prj
theorem Zs4.nbs : (∀ (n : Nat) (x : Zs4), Go.Abs.nbL n x.cells = True) ∧ ∀ (n : Nat) (xs : List Zs4), Go.Abs.nbR n (mp Zs4.cells xs) = True := ⟨fun n x => eq_true (Zs4.nb n x), fun n xs => eq_true (nbR_map (Zs4.nb n) xs)⟩
theorem Zs4.rens : (∀ (ρ : Nat → Nat) (x : Zs4), renL ρ x.cells = x.cells) ∧ ∀ (ρ : Nat → Nat) (xs : List Zs4), renR ρ (mp Zs4.cells xs) = mp Zs4.cells xs := ⟨fun ρ x => renL_of_nb ρ _ (Zs4.nb 0 x), fun ρ xs => renR_of_nb ρ _ (nbR_map (Zs4.nb 0) xs)⟩
theorem Zs4.vw (H : List AObj) (x : Zs4) : vwL H x.cells = some (x.cells, []) := vwL_of_nb H _ (Zs4.nb 0 x)
attribute [go_sem] Zs4.vw
theorem Zs4.frz (low : Nat) (H : List AObj) (x : Zs4) : frzL low H x.cells = x.cells := frzL_of_nb low H _ (Zs4.nb 0 x)
theorem Zs4.rpv (l : Nat) (ds : List AV) (x : Zs4) : x.cells.map (rpV l ds) = x.cells := rpVL_of_nb _ (Zs4.nb 0 x)
attribute [go_sem] Zs4.rpv
theorem Zs4.tk : (∀ x : Zs4, List.take 4 x.cells = x.cells) ∧ ∀ x : Zs4, List.drop 4 x.cells = [] := ⟨fun x => by rw [Zs4.cells_eq]; rfl, fun x => by rw [Zs4.cells_eq]; rfl⟩
attribute [go_sem] Zs4.tk
theorem Zs4.reads :
    (∀ x : Zs4, cellsOf (.agg x.cells) = some x.cells) ∧
    (∀ x : Zs4, loadAV true 4 x.cells = some (.agg x.cells)) ∧
    (∀ x : Zs4, loadAV false 1 x.cells = some (.str (sb x.name))) ∧
    (∀ x : Zs4, loadAV false 1 (x.cells.drop 1) = some (.lst false 5 (mp Term.cells x.fields))) ∧
    (∀ x : Zs4, loadAV false 1 (x.cells.drop 2) = some (.lst false 3 (mp Zs5.cells x.recu))) ∧
    (∀ x : Zs4, loadAV false 1 (x.cells.drop 3) = some (.lst false 5 (mp Term.cells x.results))) :=
  ⟨fun x => by simp only [cellsOf, Zs4.scalar, if_true],
   fun x => loadAV_all (Zs4.length x),
   fun x => by rw [Zs4.cells_eq]; rfl,
   fun x => by rw [Zs4.cells_eq]; rfl,
   fun x => by rw [Zs4.cells_eq]; rfl,
   fun x => by rw [Zs4.cells_eq]; rfl⟩
theorem Zs4.splc (x : Zs4) (o : Nat) (xs : List AV) : splice x.cells o xs = splice [.str (sb x.name), .lst false 5 (mp Term.cells x.fields), .lst false 3 (mp Zs5.cells x.recu), .lst false 5 (mp Term.cells x.results)] o xs := by rw [Zs4.cells_eq]
theorem Zs4.splc2 (x : Zs4) (o : Nat) (c : AV) (cs : List AV) : splice (c :: cs) o x.cells = splice (c :: cs) o [.str (sb x.name), .lst false 5 (mp Term.cells x.fields), .lst false 3 (mp Zs5.cells x.recu), .lst false 5 (mp Term.cells x.results)] := by rw [Zs4.cells_eq]
theorem Zs4.app (x : Zs4) (l : List AV) : x.cells ++ l = (.str (sb x.name) : AV) :: (.lst false 5 (mp Term.cells x.fields) : AV) :: (.lst false 3 (mp Zs5.cells x.recu) : AV) :: (.lst false 5 (mp Term.cells x.results) : AV) :: l := by rw [Zs4.cells_eq]; rfl
theorem Zs4.cns (x : Zs4) (c : AV) : c :: x.cells = [c, .str (sb x.name), .lst false 5 (mp Term.cells x.fields), .lst false 3 (mp Zs5.cells x.recu), .lst false 5 (mp Term.cells x.results)] := by rw [Zs4.cells_eq]
attribute [go_sem] Zs4.app Zs4.cns
attribute [go_sem] Zs4.nbs Zs4.rens Zs4.frz Zs4.reads Zs4.length Zs4.scalar
attribute [go_sem low] Zs4.splc Zs4.splc2

structure Family where
  name : Str
  levels : Int
  params : List Term
  indices : List Term
  sort : Term
  ctors : List Zs4
def Family.cells (x : Family) : List AV := [.str (sb x.name), .int .i64 x.levels, .lst false 5 (mp Term.cells x.params), .lst false 5 (mp Term.cells x.indices)] ++ x.sort.cells ++ [.lst false 4 (mp Zs4.cells x.ctors)]
theorem Family.cells_cat (x : Family) : x.cells = [.str (sb x.name), .int .i64 x.levels, .lst false 5 (mp Term.cells x.params), .lst false 5 (mp Term.cells x.indices)] ++ x.sort.cells ++ [.lst false 4 (mp Zs4.cells x.ctors)] := rfl
theorem Family.cells_eq (x : Family) : x.cells = [.str (sb x.name), .int .i64 x.levels, .lst false 5 (mp Term.cells x.params), .lst false 5 (mp Term.cells x.indices), .int .i64 x.sort.kind, .int .i64 x.sort.index, .str (sb x.sort.name), .lst false 2 (mp Level.cells x.sort.levels), .lst false 5 (mp Term.cells x.sort.kids), .lst false 4 (mp Zs4.cells x.ctors)] := by
  simp only [Family.cells, Term.cells_eq, List.cons_append, List.nil_append, List.append_nil]
attribute [irreducible] Family.cells
theorem Family.length (x : Family) : x.cells.length = 10 := by rw [Family.cells_eq]; rfl
theorem Family.scalar (x : Family) : x.cells.all AV.scalar = true := by rw [Family.cells_eq]; rfl
theorem Family.nb (n : Nat) (x : Family) : nbL n x.cells := by
  rw [Family.cells_cat]
  exact (nbL_append (nbL_append ⟨trivial, trivial, nbR_map (Term.nb n) _, nbR_map (Term.nb n) _, trivial⟩ (Term.nb n x.sort)) ⟨nbR_map (Zs4.nb n) _, trivial⟩)
def Family.of (H : List AObj) : List AV → Option Family
  | [c0, c1, c2, c3, c4, c5, c6, c7, c8, c9] => (dS c0).bind fun x0 => (dI .i64 c1).bind fun x1 => (dL Term.row H c2).bind fun x2 => (dL Term.row H c3).bind fun x3 => (Term.of H [c4, c5, c6, c7, c8]).bind fun x4 => (dL Zs4.row H c9).bind fun x5 => some (.mk x0 x1 x2 x3 x4 x5)
  | _ => none
theorem Family.of_lit {H : List AObj} {c0 c1 c2 c3 c4 c5 c6 c7 c8 c9 : AV} : Family.of H [c0, c1, c2, c3, c4, c5, c6, c7, c8, c9] = (dS c0).bind fun x0 => (dI .i64 c1).bind fun x1 => (dL Term.row H c2).bind fun x2 => (dL Term.row H c3).bind fun x3 => (Term.of H [c4, c5, c6, c7, c8]).bind fun x4 => (dL Zs4.row H c9).bind fun x5 => some (.mk x0 x1 x2 x3 x4 x5) := rfl
theorem Family.of_lit_cells (H : List AObj) (x : Family) : Family.of H [.str (sb x.name), .int .i64 x.levels, .lst false 5 (mp Term.cells x.params), .lst false 5 (mp Term.cells x.indices), .int .i64 x.sort.kind, .int .i64 x.sort.index, .str (sb x.sort.name), .lst false 2 (mp Level.cells x.sort.levels), .lst false 5 (mp Term.cells x.sort.kids), .lst false 4 (mp Zs4.cells x.ctors)] = some x := by
  simp only [Family.of_lit, dI_int, dB_bool, dS_sb, bind_some', szOK, beq_self_eq_true, Bool.true_or, cond_true, dL, Zs4.mapO_cells, Zs4.row, Term.mapO_cells, Term.row, Term.of_lit_cells]
  try (cases x; rfl)
theorem Family.of_cells (H : List AObj) (x : Family) : Family.of H x.cells = some x := by rw [Family.cells_eq]; exact Family.of_lit_cells H x
theorem Family.of_ok {H : List AObj} {n : Nat} {cs : List AV} {x : Family} (h : Family.of H cs = some x) : CoL1 H n cs x.cells := by
  unfold Family.of at h
  split at h
  · simp only [Option.bind_eq_some_iff, Option.some.injEq] at h
    obtain ⟨x0, h0, x1, h1, x2, h2, x3, h3, x4, h4, x5, h5, rfl⟩ := h
    rw [Family.cells_cat]
    exact (CoL1.append (CoL1.append (CoL1.cons (dS_ok h0) (CoL1.cons (dI_ok h1) (CoL1.cons (dL_ok h2) (CoL1.cons (dL_ok h3) CoL1.nil)))) (Term.of_ok h4)) (CoL1.cons (dL_ok h5) CoL1.nil))
  · cases h
def Family.cel : Cel Family := ⟨Family.cells, Family.of, fun _ _ _ _ h => Family.of_ok h, Family.nb⟩
def Family.row : Row Family := ⟨Family.cells, Family.of [], 10, fun _ _ h => (Family.of_ok (n := 0) h).toSub, Family.nb⟩
theorem Family.mapO_cells (xs : List Family) : mapO (Family.of []) (mp Family.cells xs) = some xs := mapO_mp (Family.of_cells []) xs
theorem Family.mapO_set (xs : List Family) (i : Nat) (r : List AV) : mapO (Family.of []) ((mp Family.cells xs).set i r) = bif decide (i < xs.length) then (Family.of [] r).bind fun y => some (xs.set i y) else some xs := Go.Abs.mapO_set (Family.of_cells []) xs i r
attribute [go_sem low] Family.mapO_set
theorem Family.row_f : Family.row.enc = Family.cells ∧ Family.row.dec = Family.of [] ∧ Family.row.sz = 10 ∧ Family.cel.enc = Family.cells ∧ Family.cel.dec = Family.of := ⟨rfl, rfl, rfl, rfl, rfl⟩
theorem Family.eta (x : Family) : Family.mk x.name x.levels x.params x.indices x.sort x.ctors = x := by cases x; rfl
attribute [go_sem] Family.of_lit Family.of_cells Family.mapO_cells Family.row_f Family.eta
theorem Family.prj : (∀ (y0 : Str) (y1 : Int) (y2 : List Term) (y3 : List Term) (y4 : Term) (y5 : List Zs4), (Family.mk y0 y1 y2 y3 y4 y5).name = y0) ∧ (∀ (y0 : Str) (y1 : Int) (y2 : List Term) (y3 : List Term) (y4 : Term) (y5 : List Zs4), (Family.mk y0 y1 y2 y3 y4 y5).levels = y1) ∧ (∀ (y0 : Str) (y1 : Int) (y2 : List Term) (y3 : List Term) (y4 : Term) (y5 : List Zs4), (Family.mk y0 y1 y2 y3 y4 y5).params = y2) ∧ (∀ (y0 : Str) (y1 : Int) (y2 : List Term) (y3 : List Term) (y4 : Term) (y5 : List Zs4), (Family.mk y0 y1 y2 y3 y4 y5).indices = y3) ∧ (∀ (y0 : Str) (y1 : Int) (y2 : List Term) (y3 : List Term) (y4 : Term) (y5 : List Zs4), (Family.mk y0 y1 y2 y3 y4 y5).sort = y4) ∧ (∀ (y0 : Str) (y1 : Int) (y2 : List Term) (y3 : List Term) (y4 : Term) (y5 : List Zs4), (Family.mk y0 y1 y2 y3 y4 y5).ctors = y5) := ⟨fun _ _ _ _ _ _ => rfl, fun _ _ _ _ _ _ => rfl, fun _ _ _ _ _ _ => rfl, fun _ _ _ _ _ _ => rfl, fun _ _ _ _ _ _ => rfl, fun _ _ _ _ _ _ => rfl⟩
attribute [go_sem] Family.prj
theorem Family.nbs : (∀ (n : Nat) (x : Family), Go.Abs.nbL n x.cells = True) ∧ ∀ (n : Nat) (xs : List Family), Go.Abs.nbR n (mp Family.cells xs) = True := ⟨fun n x => eq_true (Family.nb n x), fun n xs => eq_true (nbR_map (Family.nb n) xs)⟩
theorem Family.rens : (∀ (ρ : Nat → Nat) (x : Family), renL ρ x.cells = x.cells) ∧ ∀ (ρ : Nat → Nat) (xs : List Family), renR ρ (mp Family.cells xs) = mp Family.cells xs := ⟨fun ρ x => renL_of_nb ρ _ (Family.nb 0 x), fun ρ xs => renR_of_nb ρ _ (nbR_map (Family.nb 0) xs)⟩
theorem Family.vw (H : List AObj) (x : Family) : vwL H x.cells = some (x.cells, []) := vwL_of_nb H _ (Family.nb 0 x)
attribute [go_sem] Family.vw
theorem Family.frz (low : Nat) (H : List AObj) (x : Family) : frzL low H x.cells = x.cells := frzL_of_nb low H _ (Family.nb 0 x)
theorem Family.rpv (l : Nat) (ds : List AV) (x : Family) : x.cells.map (rpV l ds) = x.cells := rpVL_of_nb _ (Family.nb 0 x)
attribute [go_sem] Family.rpv
theorem Family.tk : (∀ x : Family, List.take 10 x.cells = x.cells) ∧ ∀ x : Family, List.drop 10 x.cells = [] := ⟨fun x => by rw [Family.cells_eq]; rfl, fun x => by rw [Family.cells_eq]; rfl⟩
attribute [go_sem] Family.tk
theorem Family.reads :
    (∀ x : Family, cellsOf (.agg x.cells) = some x.cells) ∧
    (∀ x : Family, loadAV true 10 x.cells = some (.agg x.cells)) ∧
    (∀ x : Family, loadAV false 1 x.cells = some (.str (sb x.name))) ∧
    (∀ x : Family, loadAV false 1 (x.cells.drop 1) = some (.int .i64 x.levels)) ∧
    (∀ x : Family, loadAV false 1 (x.cells.drop 2) = some (.lst false 5 (mp Term.cells x.params))) ∧
    (∀ x : Family, loadAV false 1 (x.cells.drop 3) = some (.lst false 5 (mp Term.cells x.indices))) ∧
    (∀ x : Family, loadAV false 1 (x.cells.drop 4) = some (.int .i64 x.sort.kind)) ∧
    (∀ x : Family, loadAV false 1 (x.cells.drop 5) = some (.int .i64 x.sort.index)) ∧
    (∀ x : Family, loadAV false 1 (x.cells.drop 6) = some (.str (sb x.sort.name))) ∧
    (∀ x : Family, loadAV false 1 (x.cells.drop 7) = some (.lst false 2 (mp Level.cells x.sort.levels))) ∧
    (∀ x : Family, loadAV false 1 (x.cells.drop 8) = some (.lst false 5 (mp Term.cells x.sort.kids))) ∧
    (∀ x : Family, loadAV false 1 (x.cells.drop 9) = some (.lst false 4 (mp Zs4.cells x.ctors))) ∧
    (∀ x : Family, loadAV true 5 (x.cells.drop 4) = some (.agg x.sort.cells)) :=
  ⟨fun x => by simp only [cellsOf, Family.scalar, if_true],
   fun x => loadAV_all (Family.length x),
   fun x => by rw [Family.cells_eq]; rfl,
   fun x => by rw [Family.cells_eq]; rfl,
   fun x => by rw [Family.cells_eq]; rfl,
   fun x => by rw [Family.cells_eq]; rfl,
   fun x => by rw [Family.cells_eq]; rfl,
   fun x => by rw [Family.cells_eq]; rfl,
   fun x => by rw [Family.cells_eq]; rfl,
   fun x => by rw [Family.cells_eq]; rfl,
   fun x => by rw [Family.cells_eq]; rfl,
   fun x => by rw [Family.cells_eq]; rfl,
   fun x => by rw [Family.cells_eq]; simp only [Term.cells_eq, List.drop_succ_cons, List.drop_zero]; rfl⟩
theorem Family.splc (x : Family) (o : Nat) (xs : List AV) : splice x.cells o xs = splice [.str (sb x.name), .int .i64 x.levels, .lst false 5 (mp Term.cells x.params), .lst false 5 (mp Term.cells x.indices), .int .i64 x.sort.kind, .int .i64 x.sort.index, .str (sb x.sort.name), .lst false 2 (mp Level.cells x.sort.levels), .lst false 5 (mp Term.cells x.sort.kids), .lst false 4 (mp Zs4.cells x.ctors)] o xs := by rw [Family.cells_eq]
theorem Family.splc2 (x : Family) (o : Nat) (c : AV) (cs : List AV) : splice (c :: cs) o x.cells = splice (c :: cs) o [.str (sb x.name), .int .i64 x.levels, .lst false 5 (mp Term.cells x.params), .lst false 5 (mp Term.cells x.indices), .int .i64 x.sort.kind, .int .i64 x.sort.index, .str (sb x.sort.name), .lst false 2 (mp Level.cells x.sort.levels), .lst false 5 (mp Term.cells x.sort.kids), .lst false 4 (mp Zs4.cells x.ctors)] := by rw [Family.cells_eq]
theorem Family.app (x : Family) (l : List AV) : x.cells ++ l = (.str (sb x.name) : AV) :: (.int .i64 x.levels : AV) :: (.lst false 5 (mp Term.cells x.params) : AV) :: (.lst false 5 (mp Term.cells x.indices) : AV) :: (.int .i64 x.sort.kind : AV) :: (.int .i64 x.sort.index : AV) :: (.str (sb x.sort.name) : AV) :: (.lst false 2 (mp Level.cells x.sort.levels) : AV) :: (.lst false 5 (mp Term.cells x.sort.kids) : AV) :: (.lst false 4 (mp Zs4.cells x.ctors) : AV) :: l := by rw [Family.cells_eq]; rfl
theorem Family.cns (x : Family) (c : AV) : c :: x.cells = [c, .str (sb x.name), .int .i64 x.levels, .lst false 5 (mp Term.cells x.params), .lst false 5 (mp Term.cells x.indices), .int .i64 x.sort.kind, .int .i64 x.sort.index, .str (sb x.sort.name), .lst false 2 (mp Level.cells x.sort.levels), .lst false 5 (mp Term.cells x.sort.kids), .lst false 4 (mp Zs4.cells x.ctors)] := by rw [Family.cells_eq]
attribute [go_sem] Family.app Family.cns
attribute [go_sem] Family.nbs Family.rens Family.frz Family.reads Family.length Family.scalar
attribute [go_sem low] Family.splc Family.splc2

structure Zs1 where
  own : Term
  params : List Term
  indices : Int
def Zs1.cells (x : Zs1) : List AV := x.own.cells ++ [.lst false 5 (mp Term.cells x.params), .int .i64 x.indices]
theorem Zs1.cells_cat (x : Zs1) : x.cells = x.own.cells ++ [.lst false 5 (mp Term.cells x.params), .int .i64 x.indices] := rfl
theorem Zs1.cells_eq (x : Zs1) : x.cells = [.int .i64 x.own.kind, .int .i64 x.own.index, .str (sb x.own.name), .lst false 2 (mp Level.cells x.own.levels), .lst false 5 (mp Term.cells x.own.kids), .lst false 5 (mp Term.cells x.params), .int .i64 x.indices] := by
  simp only [Zs1.cells, Term.cells_eq, List.cons_append, List.nil_append, List.append_nil]
attribute [irreducible] Zs1.cells
theorem Zs1.length (x : Zs1) : x.cells.length = 7 := by rw [Zs1.cells_eq]; rfl
theorem Zs1.scalar (x : Zs1) : x.cells.all AV.scalar = true := by rw [Zs1.cells_eq]; rfl
theorem Zs1.nb (n : Nat) (x : Zs1) : nbL n x.cells := by
  rw [Zs1.cells_cat]
  exact (nbL_append (Term.nb n x.own) ⟨nbR_map (Term.nb n) _, trivial, trivial⟩)
def Zs1.of (H : List AObj) : List AV → Option Zs1
  | [c0, c1, c2, c3, c4, c5, c6] => (Term.of H [c0, c1, c2, c3, c4]).bind fun x0 => (dL Term.row H c5).bind fun x1 => (dI .i64 c6).bind fun x2 => some (.mk x0 x1 x2)
  | _ => none
theorem Zs1.of_lit {H : List AObj} {c0 c1 c2 c3 c4 c5 c6 : AV} : Zs1.of H [c0, c1, c2, c3, c4, c5, c6] = (Term.of H [c0, c1, c2, c3, c4]).bind fun x0 => (dL Term.row H c5).bind fun x1 => (dI .i64 c6).bind fun x2 => some (.mk x0 x1 x2) := rfl
theorem Zs1.of_lit_cells (H : List AObj) (x : Zs1) : Zs1.of H [.int .i64 x.own.kind, .int .i64 x.own.index, .str (sb x.own.name), .lst false 2 (mp Level.cells x.own.levels), .lst false 5 (mp Term.cells x.own.kids), .lst false 5 (mp Term.cells x.params), .int .i64 x.indices] = some x := by
  simp only [Zs1.of_lit, dI_int, dB_bool, dS_sb, bind_some', szOK, beq_self_eq_true, Bool.true_or, cond_true, dL, Term.mapO_cells, Term.row, Term.of_lit_cells]
  try (cases x; rfl)
theorem Zs1.of_cells (H : List AObj) (x : Zs1) : Zs1.of H x.cells = some x := by rw [Zs1.cells_eq]; exact Zs1.of_lit_cells H x
theorem Zs1.of_ok {H : List AObj} {n : Nat} {cs : List AV} {x : Zs1} (h : Zs1.of H cs = some x) : CoL1 H n cs x.cells := by
  unfold Zs1.of at h
  split at h
  · simp only [Option.bind_eq_some_iff, Option.some.injEq] at h
    obtain ⟨x0, h0, x1, h1, x2, h2, rfl⟩ := h
    rw [Zs1.cells_cat]
    exact (CoL1.append (Term.of_ok h0) (CoL1.cons (dL_ok h1) (CoL1.cons (dI_ok h2) CoL1.nil)))
  · cases h
def Zs1.cel : Cel Zs1 := ⟨Zs1.cells, Zs1.of, fun _ _ _ _ h => Zs1.of_ok h, Zs1.nb⟩
def Zs1.row : Row Zs1 := ⟨Zs1.cells, Zs1.of [], 7, fun _ _ h => (Zs1.of_ok (n := 0) h).toSub, Zs1.nb⟩
theorem Zs1.mapO_cells (xs : List Zs1) : mapO (Zs1.of []) (mp Zs1.cells xs) = some xs := mapO_mp (Zs1.of_cells []) xs
theorem Zs1.mapO_set (xs : List Zs1) (i : Nat) (r : List AV) : mapO (Zs1.of []) ((mp Zs1.cells xs).set i r) = bif decide (i < xs.length) then (Zs1.of [] r).bind fun y => some (xs.set i y) else some xs := Go.Abs.mapO_set (Zs1.of_cells []) xs i r
attribute [go_sem low] Zs1.mapO_set
theorem Zs1.row_f : Zs1.row.enc = Zs1.cells ∧ Zs1.row.dec = Zs1.of [] ∧ Zs1.row.sz = 7 ∧ Zs1.cel.enc = Zs1.cells ∧ Zs1.cel.dec = Zs1.of := ⟨rfl, rfl, rfl, rfl, rfl⟩
theorem Zs1.eta (x : Zs1) : Zs1.mk x.own x.params x.indices = x := by cases x; rfl
attribute [go_sem] Zs1.of_lit Zs1.of_cells Zs1.mapO_cells Zs1.row_f Zs1.eta
theorem Zs1.prj : (∀ (y0 : Term) (y1 : List Term) (y2 : Int), (Zs1.mk y0 y1 y2).own = y0) ∧ (∀ (y0 : Term) (y1 : List Term) (y2 : Int), (Zs1.mk y0 y1 y2).params = y1) ∧ (∀ (y0 : Term) (y1 : List Term) (y2 : Int), (Zs1.mk y0 y1 y2).indices = y2) := ⟨fun _ _ _ => rfl, fun _ _ _ => rfl, fun _ _ _ => rfl⟩
attribute [go_sem] Zs1.prj
theorem Zs1.nbs : (∀ (n : Nat) (x : Zs1), Go.Abs.nbL n x.cells = True) ∧ ∀ (n : Nat) (xs : List Zs1), Go.Abs.nbR n (mp Zs1.cells xs) = True := ⟨fun n x => eq_true (Zs1.nb n x), fun n xs => eq_true (nbR_map (Zs1.nb n) xs)⟩
theorem Zs1.rens : (∀ (ρ : Nat → Nat) (x : Zs1), renL ρ x.cells = x.cells) ∧ ∀ (ρ : Nat → Nat) (xs : List Zs1), renR ρ (mp Zs1.cells xs) = mp Zs1.cells xs := ⟨fun ρ x => renL_of_nb ρ _ (Zs1.nb 0 x), fun ρ xs => renR_of_nb ρ _ (nbR_map (Zs1.nb 0) xs)⟩
theorem Zs1.vw (H : List AObj) (x : Zs1) : vwL H x.cells = some (x.cells, []) := vwL_of_nb H _ (Zs1.nb 0 x)
attribute [go_sem] Zs1.vw
theorem Zs1.frz (low : Nat) (H : List AObj) (x : Zs1) : frzL low H x.cells = x.cells := frzL_of_nb low H _ (Zs1.nb 0 x)
theorem Zs1.rpv (l : Nat) (ds : List AV) (x : Zs1) : x.cells.map (rpV l ds) = x.cells := rpVL_of_nb _ (Zs1.nb 0 x)
attribute [go_sem] Zs1.rpv
theorem Zs1.tk : (∀ x : Zs1, List.take 7 x.cells = x.cells) ∧ ∀ x : Zs1, List.drop 7 x.cells = [] := ⟨fun x => by rw [Zs1.cells_eq]; rfl, fun x => by rw [Zs1.cells_eq]; rfl⟩
attribute [go_sem] Zs1.tk
theorem Zs1.reads :
    (∀ x : Zs1, cellsOf (.agg x.cells) = some x.cells) ∧
    (∀ x : Zs1, loadAV true 7 x.cells = some (.agg x.cells)) ∧
    (∀ x : Zs1, loadAV false 1 x.cells = some (.int .i64 x.own.kind)) ∧
    (∀ x : Zs1, loadAV false 1 (x.cells.drop 1) = some (.int .i64 x.own.index)) ∧
    (∀ x : Zs1, loadAV false 1 (x.cells.drop 2) = some (.str (sb x.own.name))) ∧
    (∀ x : Zs1, loadAV false 1 (x.cells.drop 3) = some (.lst false 2 (mp Level.cells x.own.levels))) ∧
    (∀ x : Zs1, loadAV false 1 (x.cells.drop 4) = some (.lst false 5 (mp Term.cells x.own.kids))) ∧
    (∀ x : Zs1, loadAV false 1 (x.cells.drop 5) = some (.lst false 5 (mp Term.cells x.params))) ∧
    (∀ x : Zs1, loadAV false 1 (x.cells.drop 6) = some (.int .i64 x.indices)) ∧
    (∀ x : Zs1, loadAV true 5 x.cells = some (.agg x.own.cells)) :=
  ⟨fun x => by simp only [cellsOf, Zs1.scalar, if_true],
   fun x => loadAV_all (Zs1.length x),
   fun x => by rw [Zs1.cells_eq]; rfl,
   fun x => by rw [Zs1.cells_eq]; rfl,
   fun x => by rw [Zs1.cells_eq]; rfl,
   fun x => by rw [Zs1.cells_eq]; rfl,
   fun x => by rw [Zs1.cells_eq]; rfl,
   fun x => by rw [Zs1.cells_eq]; rfl,
   fun x => by rw [Zs1.cells_eq]; rfl,
   fun x => by rw [Zs1.cells_eq]; simp only [Term.cells_eq, List.drop_succ_cons, List.drop_zero]; rfl⟩
theorem Zs1.splc (x : Zs1) (o : Nat) (xs : List AV) : splice x.cells o xs = splice [.int .i64 x.own.kind, .int .i64 x.own.index, .str (sb x.own.name), .lst false 2 (mp Level.cells x.own.levels), .lst false 5 (mp Term.cells x.own.kids), .lst false 5 (mp Term.cells x.params), .int .i64 x.indices] o xs := by rw [Zs1.cells_eq]
theorem Zs1.splc2 (x : Zs1) (o : Nat) (c : AV) (cs : List AV) : splice (c :: cs) o x.cells = splice (c :: cs) o [.int .i64 x.own.kind, .int .i64 x.own.index, .str (sb x.own.name), .lst false 2 (mp Level.cells x.own.levels), .lst false 5 (mp Term.cells x.own.kids), .lst false 5 (mp Term.cells x.params), .int .i64 x.indices] := by rw [Zs1.cells_eq]
theorem Zs1.app (x : Zs1) (l : List AV) : x.cells ++ l = (.int .i64 x.own.kind : AV) :: (.int .i64 x.own.index : AV) :: (.str (sb x.own.name) : AV) :: (.lst false 2 (mp Level.cells x.own.levels) : AV) :: (.lst false 5 (mp Term.cells x.own.kids) : AV) :: (.lst false 5 (mp Term.cells x.params) : AV) :: (.int .i64 x.indices : AV) :: l := by rw [Zs1.cells_eq]; rfl
theorem Zs1.cns (x : Zs1) (c : AV) : c :: x.cells = [c, .int .i64 x.own.kind, .int .i64 x.own.index, .str (sb x.own.name), .lst false 2 (mp Level.cells x.own.levels), .lst false 5 (mp Term.cells x.own.kids), .lst false 5 (mp Term.cells x.params), .int .i64 x.indices] := by rw [Zs1.cells_eq]
attribute [go_sem] Zs1.app Zs1.cns
attribute [go_sem] Zs1.nbs Zs1.rens Zs1.frz Zs1.reads Zs1.length Zs1.scalar
attribute [go_sem low] Zs1.splc Zs1.splc2
end Go.Abs
namespace Go.Abs
open Go.Proofs
theorem tf0 :
    tinfo Try.prog 3 = some (false, 1) ∧
    telem Try.prog 3 = none ∧
    tzero Try.prog 3 = some [.int .i64 0] ∧
    tstr Try.prog 3 = false ∧
    tint Try.prog 3 = some .i64 ∧
    tnoint Try.prog 3 = false ∧
    tconc Try.prog 3 = true ∧
    tinfo Try.prog 4 = some (false, 1) ∧
    telem Try.prog 4 = none ∧
    tzero Try.prog 4 = some [.bool false] ∧
    tstr Try.prog 4 = false ∧
    tnoint Try.prog 4 = true ∧
    tconc Try.prog 4 = true ∧
    tinfo Try.prog 5 = some (false, 1) ∧
    telem Try.prog 5 = none ∧
    tzero Try.prog 5 = some [.int .u8 0] ∧
    tstr Try.prog 5 = false ∧
    tint Try.prog 5 = some .u8 ∧
    tnoint Try.prog 5 = false ∧
    tconc Try.prog 5 = true ∧
    tinfo Try.prog 9 = some (false, 1) ∧
    telem Try.prog 9 = none ∧
    tzero Try.prog 9 = some [.str ByteArray.empty] ∧
    tstr Try.prog 9 = true ∧
    tint Try.prog 9 = none ∧
    tnoint Try.prog 9 = true ∧
    tconc Try.prog 9 = true ∧
    tinfo Try.prog 22 = some (false, 1) ∧
    telem Try.prog 22 = some (81, 2, 32) ∧
    tzero Try.prog 22 = some [.lst true 0 []] ∧
    tstr Try.prog 22 = false ∧
    tnoint Try.prog 22 = true ∧
    tconc Try.prog 22 = true ∧
    tinfo Try.prog 23 = some (false, 1) ∧
    telem Try.prog 23 = some (25, 5, 80) ∧
    tzero Try.prog 23 = some [.lst true 0 []] ∧
    tstr Try.prog 23 = false ∧
    tnoint Try.prog 23 = true ∧
    tconc Try.prog 23 = true ∧
    tinfo Try.prog 25 = some (true, 5) ∧
    tbuilt Try.prog 25 = true ∧
    foff Try.prog 25 0 = some (0, 3) ∧
    bplace Try.prog 25 0 = some (0, 1) ∧
    foff Try.prog 25 1 = some (1, 3) ∧
    bplace Try.prog 25 1 = some (1, 1) ∧
    foff Try.prog 25 2 = some (2, 9) ∧
    bplace Try.prog 25 2 = some (2, 1) ∧
    foff Try.prog 25 3 = some (3, 22) ∧
    bplace Try.prog 25 3 = some (3, 1) ∧
    foff Try.prog 25 4 = some (4, 23) ∧
    bplace Try.prog 25 4 = some (4, 1) ∧
    telem Try.prog 25 = none ∧
    tzero Try.prog 25 = some [.int .i64 0, .int .i64 0, .str ByteArray.empty, .lst true 0 [], .lst true 0 []] ∧
    tstr Try.prog 25 = false ∧
    tnoint Try.prog 25 = true ∧
    tconc Try.prog 25 = true ∧
    tinfo Try.prog 26 = some (false, 1) ∧
    telem Try.prog 26 = some (46, 6, 96) ∧
    tzero Try.prog 26 = some [.lst true 0 []] ∧
    tstr Try.prog 26 = false ∧
    tnoint Try.prog 26 = true ∧
    tconc Try.prog 26 = true ∧
    tinfo Try.prog 28 = some (true, 7) ∧
    tbuilt Try.prog 28 = true ∧
    foff Try.prog 28 0 = some (0, 3) ∧
    bplace Try.prog 28 0 = some (0, 1) ∧
    foff Try.prog 28 1 = some (1, 25) ∧
    bplace Try.prog 28 1 = some (1, 5) ∧
    foff Try.prog 28 2 = some (6, 23) ∧
    bplace Try.prog 28 2 = some (6, 1) ∧
    telem Try.prog 28 = none ∧
    tzero Try.prog 28 = some [.int .i64 0, .int .i64 0, .int .i64 0, .str ByteArray.empty, .lst true 0 [], .lst true 0 [], .lst true 0 []] ∧
    tstr Try.prog 28 = false ∧
    tnoint Try.prog 28 = true ∧
    tconc Try.prog 28 = true ∧
    tinfo Try.prog 29 = some (false, 1) ∧
    telem Try.prog 29 = some (75, 15, 224) ∧
    tzero Try.prog 29 = some [.lst true 0 []] ∧
    tstr Try.prog 29 = false ∧
    tnoint Try.prog 29 = true ∧
    tconc Try.prog 29 = true ∧
    tinfo Try.prog 31 = some (true, 23) ∧
    tbuilt Try.prog 31 = true ∧
    foff Try.prog 31 0 = some (0, 3) ∧
    bplace Try.prog 31 0 = some (0, 1) ∧
    foff Try.prog 31 1 = some (1, 9) ∧
    bplace Try.prog 31 1 = some (1, 1) ∧
    foff Try.prog 31 2 = some (2, 3) ∧
    bplace Try.prog 31 2 = some (2, 1) ∧
    foff Try.prog 31 3 = some (3, 25) ∧
    bplace Try.prog 31 3 = some (3, 5) ∧
    foff Try.prog 31 4 = some (8, 25) ∧
    bplace Try.prog 31 4 = some (8, 5) ∧
    foff Try.prog 31 5 = some (13, 3) ∧
    bplace Try.prog 31 5 = some (13, 1) ∧
    foff Try.prog 31 6 = some (14, 26) ∧
    bplace Try.prog 31 6 = some (14, 1) ∧
    foff Try.prog 31 7 = some (15, 28) ∧
    bplace Try.prog 31 7 = some (15, 7) ∧
    foff Try.prog 31 8 = some (22, 29) ∧
    bplace Try.prog 31 8 = some (22, 1) ∧
    telem Try.prog 31 = none ∧
    tzero Try.prog 31 = some [.int .i64 0, .str ByteArray.empty, .int .i64 0, .int .i64 0, .int .i64 0, .str ByteArray.empty, .lst true 0 [], .lst true 0 [], .int .i64 0, .int .i64 0, .str ByteArray.empty, .lst true 0 [], .lst true 0 [], .int .i64 0, .lst true 0 [], .int .i64 0, .int .i64 0, .int .i64 0, .str ByteArray.empty, .lst true 0 [], .lst true 0 [], .lst true 0 [], .lst true 0 []] ∧
    tstr Try.prog 31 = false ∧
    tnoint Try.prog 31 = true ∧
    tconc Try.prog 31 = true ∧
    tinfo Try.prog 37 = some (false, 1) ∧
    telem Try.prog 37 = some (56, 4, 88) ∧
    tzero Try.prog 37 = some [.lst true 0 []] ∧
    tstr Try.prog 37 = false ∧
    tnoint Try.prog 37 = true ∧
    tconc Try.prog 37 = true ∧
    tinfo Try.prog 39 = some (true, 10) ∧
    tbuilt Try.prog 39 = true ∧
    foff Try.prog 39 0 = some (0, 9) ∧
    bplace Try.prog 39 0 = some (0, 1) ∧
    foff Try.prog 39 1 = some (1, 3) ∧
    bplace Try.prog 39 1 = some (1, 1) ∧
    foff Try.prog 39 2 = some (2, 23) ∧
    bplace Try.prog 39 2 = some (2, 1) :=
  ⟨by kernel_rfl, by kernel_rfl, by kernel_rfl, by kernel_rfl, by kernel_rfl, by kernel_rfl, by kernel_rfl, by kernel_rfl, by kernel_rfl, by kernel_rfl, by kernel_rfl, by kernel_rfl, by kernel_rfl, by kernel_rfl, by kernel_rfl, by kernel_rfl, by kernel_rfl, by kernel_rfl, by kernel_rfl, by kernel_rfl, by kernel_rfl, by kernel_rfl, by kernel_rfl, by kernel_rfl, by kernel_rfl, by kernel_rfl, by kernel_rfl, by kernel_rfl, by kernel_rfl, by kernel_rfl, by kernel_rfl, by kernel_rfl, by kernel_rfl, by kernel_rfl, by kernel_rfl, by kernel_rfl, by kernel_rfl, by kernel_rfl, by kernel_rfl, by kernel_rfl, by kernel_rfl, by kernel_rfl, by kernel_rfl, by kernel_rfl, by kernel_rfl, by kernel_rfl, by kernel_rfl, by kernel_rfl, by kernel_rfl, by kernel_rfl, by kernel_rfl, by kernel_rfl, by kernel_rfl, by kernel_rfl, by kernel_rfl, by kernel_rfl, by kernel_rfl, by kernel_rfl, by kernel_rfl, by kernel_rfl, by kernel_rfl, by kernel_rfl, by kernel_rfl, by kernel_rfl, by kernel_rfl, by kernel_rfl, by kernel_rfl, by kernel_rfl, by kernel_rfl, by kernel_rfl, by kernel_rfl, by kernel_rfl, by kernel_rfl, by kernel_rfl, by kernel_rfl, by kernel_rfl, by kernel_rfl, by kernel_rfl, by kernel_rfl, by kernel_rfl, by kernel_rfl, by kernel_rfl, by kernel_rfl, by kernel_rfl, by kernel_rfl, by kernel_rfl, by kernel_rfl, by kernel_rfl, by kernel_rfl, by kernel_rfl, by kernel_rfl, by kernel_rfl, by kernel_rfl, by kernel_rfl, by kernel_rfl, by kernel_rfl, by kernel_rfl, by kernel_rfl, by kernel_rfl, by kernel_rfl, by kernel_rfl, by kernel_rfl, by kernel_rfl, by kernel_rfl, by kernel_rfl, by kernel_rfl, by kernel_rfl, by kernel_rfl, by kernel_rfl, by kernel_rfl, by kernel_rfl, by kernel_rfl, by kernel_rfl, by kernel_rfl, by kernel_rfl, by kernel_rfl, by kernel_rfl, by kernel_rfl, by kernel_rfl, by kernel_rfl⟩
theorem tf1 :
    foff Try.prog 39 3 = some (3, 23) ∧
    bplace Try.prog 39 3 = some (3, 1) ∧
    foff Try.prog 39 4 = some (4, 25) ∧
    bplace Try.prog 39 4 = some (4, 5) ∧
    foff Try.prog 39 5 = some (9, 37) ∧
    bplace Try.prog 39 5 = some (9, 1) ∧
    telem Try.prog 39 = none ∧
    tzero Try.prog 39 = some [.str ByteArray.empty, .int .i64 0, .lst true 0 [], .lst true 0 [], .int .i64 0, .int .i64 0, .str ByteArray.empty, .lst true 0 [], .lst true 0 [], .lst true 0 []] ∧
    tstr Try.prog 39 = false ∧
    tnoint Try.prog 39 = true ∧
    tconc Try.prog 39 = true ∧
    tinfo Try.prog 46 = some (true, 6) ∧
    tbuilt Try.prog 46 = true ∧
    foff Try.prog 46 0 = some (0, 9) ∧
    bplace Try.prog 46 0 = some (0, 1) ∧
    foff Try.prog 46 1 = some (1, 25) ∧
    bplace Try.prog 46 1 = some (1, 5) ∧
    telem Try.prog 46 = none ∧
    tzero Try.prog 46 = some [.str ByteArray.empty, .int .i64 0, .int .i64 0, .str ByteArray.empty, .lst true 0 [], .lst true 0 []] ∧
    tstr Try.prog 46 = false ∧
    tnoint Try.prog 46 = true ∧
    tconc Try.prog 46 = true ∧
    tinfo Try.prog 54 = some (false, 1) ∧
    telem Try.prog 54 = some (59, 3, 56) ∧
    tzero Try.prog 54 = some [.lst true 0 []] ∧
    tstr Try.prog 54 = false ∧
    tnoint Try.prog 54 = true ∧
    tconc Try.prog 54 = true ∧
    tinfo Try.prog 56 = some (true, 4) ∧
    tbuilt Try.prog 56 = true ∧
    foff Try.prog 56 0 = some (0, 9) ∧
    bplace Try.prog 56 0 = some (0, 1) ∧
    foff Try.prog 56 1 = some (1, 23) ∧
    bplace Try.prog 56 1 = some (1, 1) ∧
    foff Try.prog 56 2 = some (2, 54) ∧
    bplace Try.prog 56 2 = some (2, 1) ∧
    foff Try.prog 56 3 = some (3, 23) ∧
    bplace Try.prog 56 3 = some (3, 1) ∧
    telem Try.prog 56 = none ∧
    tzero Try.prog 56 = some [.str ByteArray.empty, .lst true 0 [], .lst true 0 [], .lst true 0 []] ∧
    tstr Try.prog 56 = false ∧
    tnoint Try.prog 56 = true ∧
    tconc Try.prog 56 = true ∧
    tinfo Try.prog 59 = some (true, 3) ∧
    tbuilt Try.prog 59 = true ∧
    foff Try.prog 59 0 = some (0, 3) ∧
    bplace Try.prog 59 0 = some (0, 1) ∧
    foff Try.prog 59 1 = some (1, 23) ∧
    bplace Try.prog 59 1 = some (1, 1) ∧
    foff Try.prog 59 2 = some (2, 23) ∧
    bplace Try.prog 59 2 = some (2, 1) ∧
    telem Try.prog 59 = none ∧
    tzero Try.prog 59 = some [.int .i64 0, .lst true 0 [], .lst true 0 []] ∧
    tstr Try.prog 59 = false ∧
    tnoint Try.prog 59 = true ∧
    tconc Try.prog 59 = true ∧
    tinfo Try.prog 60 = some (false, 1) ∧
    telem Try.prog 60 = none ∧
    tzero Try.prog 60 = some [.raw .nilFunc] ∧
    tstr Try.prog 60 = false ∧
    tnoint Try.prog 60 = true ∧
    tconc Try.prog 60 = true ∧
    tinfo Try.prog 64 = some (false, 1) ∧
    telem Try.prog 64 = none ∧
    tzero Try.prog 64 = some [.raw .nilFunc] ∧
    tstr Try.prog 64 = false ∧
    tnoint Try.prog 64 = true ∧
    tconc Try.prog 64 = true ∧
    tinfo Try.prog 71 = some (false, 1) ∧
    telem Try.prog 71 = some (95, 10, 144) ∧
    tzero Try.prog 71 = some [.lst true 0 []] ∧
    tstr Try.prog 71 = false ∧
    tnoint Try.prog 71 = true ∧
    tconc Try.prog 71 = true ∧
    tinfo Try.prog 73 = some (true, 8) ∧
    tbuilt Try.prog 73 = true ∧
    foff Try.prog 73 0 = some (0, 3) ∧
    bplace Try.prog 73 0 = some (0, 1) ∧
    foff Try.prog 73 1 = some (1, 25) ∧
    bplace Try.prog 73 1 = some (1, 5) ∧
    foff Try.prog 73 2 = some (6, 3) ∧
    bplace Try.prog 73 2 = some (6, 1) ∧
    foff Try.prog 73 3 = some (7, 71) ∧
    bplace Try.prog 73 3 = some (7, 1) ∧
    telem Try.prog 73 = none ∧
    tzero Try.prog 73 = some [.int .i64 0, .int .i64 0, .int .i64 0, .str ByteArray.empty, .lst true 0 [], .lst true 0 [], .int .i64 0, .lst true 0 []] ∧
    tstr Try.prog 73 = false ∧
    tnoint Try.prog 73 = true ∧
    tconc Try.prog 73 = true ∧
    tinfo Try.prog 75 = some (true, 15) ∧
    tbuilt Try.prog 75 = true ∧
    foff Try.prog 75 0 = some (0, 9) ∧
    bplace Try.prog 75 0 = some (0, 1) ∧
    foff Try.prog 75 1 = some (1, 25) ∧
    bplace Try.prog 75 1 = some (1, 5) ∧
    foff Try.prog 75 2 = some (6, 3) ∧
    bplace Try.prog 75 2 = some (6, 1) ∧
    foff Try.prog 75 3 = some (7, 73) ∧
    bplace Try.prog 75 3 = some (7, 8) ∧
    telem Try.prog 75 = none ∧
    tzero Try.prog 75 = some [.str ByteArray.empty, .int .i64 0, .int .i64 0, .str ByteArray.empty, .lst true 0 [], .lst true 0 [], .int .i64 0, .int .i64 0, .int .i64 0, .int .i64 0, .str ByteArray.empty, .lst true 0 [], .lst true 0 [], .int .i64 0, .lst true 0 []] ∧
    tstr Try.prog 75 = false ∧
    tnoint Try.prog 75 = true ∧
    tconc Try.prog 75 = true ∧
    tinfo Try.prog 79 = some (false, 1) ∧
    telem Try.prog 79 = some (99, 2, 16) ∧
    tzero Try.prog 79 = some [.lst true 0 []] ∧
    tstr Try.prog 79 = false ∧
    tnoint Try.prog 79 = true ∧
    tconc Try.prog 79 = true ∧
    tinfo Try.prog 81 = some (true, 2) ∧
    tbuilt Try.prog 81 = true ∧
    foff Try.prog 81 0 = some (0, 3) ∧
    bplace Try.prog 81 0 = some (0, 1) ∧
    foff Try.prog 81 1 = some (1, 79) ∧
    bplace Try.prog 81 1 = some (1, 1) ∧
    telem Try.prog 81 = none ∧
    tzero Try.prog 81 = some [.int .i64 0, .lst true 0 []] ∧
    tstr Try.prog 81 = false ∧
    tnoint Try.prog 81 = true :=
  ⟨by kernel_rfl, by kernel_rfl, by kernel_rfl, by kernel_rfl, by kernel_rfl, by kernel_rfl, by kernel_rfl, by kernel_rfl, by kernel_rfl, by kernel_rfl, by kernel_rfl, by kernel_rfl, by kernel_rfl, by kernel_rfl, by kernel_rfl, by kernel_rfl, by kernel_rfl, by kernel_rfl, by kernel_rfl, by kernel_rfl, by kernel_rfl, by kernel_rfl, by kernel_rfl, by kernel_rfl, by kernel_rfl, by kernel_rfl, by kernel_rfl, by kernel_rfl, by kernel_rfl, by kernel_rfl, by kernel_rfl, by kernel_rfl, by kernel_rfl, by kernel_rfl, by kernel_rfl, by kernel_rfl, by kernel_rfl, by kernel_rfl, by kernel_rfl, by kernel_rfl, by kernel_rfl, by kernel_rfl, by kernel_rfl, by kernel_rfl, by kernel_rfl, by kernel_rfl, by kernel_rfl, by kernel_rfl, by kernel_rfl, by kernel_rfl, by kernel_rfl, by kernel_rfl, by kernel_rfl, by kernel_rfl, by kernel_rfl, by kernel_rfl, by kernel_rfl, by kernel_rfl, by kernel_rfl, by kernel_rfl, by kernel_rfl, by kernel_rfl, by kernel_rfl, by kernel_rfl, by kernel_rfl, by kernel_rfl, by kernel_rfl, by kernel_rfl, by kernel_rfl, by kernel_rfl, by kernel_rfl, by kernel_rfl, by kernel_rfl, by kernel_rfl, by kernel_rfl, by kernel_rfl, by kernel_rfl, by kernel_rfl, by kernel_rfl, by kernel_rfl, by kernel_rfl, by kernel_rfl, by kernel_rfl, by kernel_rfl, by kernel_rfl, by kernel_rfl, by kernel_rfl, by kernel_rfl, by kernel_rfl, by kernel_rfl, by kernel_rfl, by kernel_rfl, by kernel_rfl, by kernel_rfl, by kernel_rfl, by kernel_rfl, by kernel_rfl, by kernel_rfl, by kernel_rfl, by kernel_rfl, by kernel_rfl, by kernel_rfl, by kernel_rfl, by kernel_rfl, by kernel_rfl, by kernel_rfl, by kernel_rfl, by kernel_rfl, by kernel_rfl, by kernel_rfl, by kernel_rfl, by kernel_rfl, by kernel_rfl, by kernel_rfl, by kernel_rfl, by kernel_rfl, by kernel_rfl, by kernel_rfl, by kernel_rfl, by kernel_rfl⟩
theorem tf2 :
    tconc Try.prog 81 = true ∧
    tinfo Try.prog 85 = some (true, 7) ∧
    tbuilt Try.prog 85 = true ∧
    foff Try.prog 85 0 = some (0, 25) ∧
    bplace Try.prog 85 0 = some (0, 5) ∧
    foff Try.prog 85 1 = some (5, 23) ∧
    bplace Try.prog 85 1 = some (5, 1) ∧
    foff Try.prog 85 2 = some (6, 3) ∧
    bplace Try.prog 85 2 = some (6, 1) ∧
    telem Try.prog 85 = none ∧
    tzero Try.prog 85 = some [.int .i64 0, .int .i64 0, .str ByteArray.empty, .lst true 0 [], .lst true 0 [], .lst true 0 [], .int .i64 0] ∧
    tstr Try.prog 85 = false ∧
    tnoint Try.prog 85 = true ∧
    tconc Try.prog 85 = true ∧
    tinfo Try.prog 95 = some (true, 10) ∧
    tbuilt Try.prog 95 = true ∧
    foff Try.prog 95 0 = some (0, 9) ∧
    bplace Try.prog 95 0 = some (0, 1) ∧
    foff Try.prog 95 1 = some (1, 4) ∧
    bplace Try.prog 95 1 = some (1, 1) ∧
    foff Try.prog 95 2 = some (2, 73) ∧
    bplace Try.prog 95 2 = some (2, 8) ∧
    telem Try.prog 95 = none ∧
    tzero Try.prog 95 = some [.str ByteArray.empty, .bool false, .int .i64 0, .int .i64 0, .int .i64 0, .str ByteArray.empty, .lst true 0 [], .lst true 0 [], .int .i64 0, .lst true 0 []] ∧
    tstr Try.prog 95 = false ∧
    tnoint Try.prog 95 = true ∧
    tconc Try.prog 95 = true ∧
    tinfo Try.prog 99 = some (true, 2) ∧
    tbuilt Try.prog 99 = true ∧
    foff Try.prog 99 0 = some (0, 3) ∧
    bplace Try.prog 99 0 = some (0, 1) ∧
    foff Try.prog 99 1 = some (1, 3) ∧
    bplace Try.prog 99 1 = some (1, 1) ∧
    telem Try.prog 99 = none ∧
    tzero Try.prog 99 = some [.int .i64 0, .int .i64 0] ∧
    tstr Try.prog 99 = false ∧
    tnoint Try.prog 99 = true ∧
    tconc Try.prog 99 = true ∧
    tinfo Try.prog 101 = some (false, 1) ∧
    telem Try.prog 101 = none ∧
    tzero Try.prog 101 = some [.raw .nilFunc] ∧
    tstr Try.prog 101 = false ∧
    tnoint Try.prog 101 = true ∧
    tconc Try.prog 101 = true ∧
    tinfo Try.prog 110 = some (false, 1) ∧
    telem Try.prog 110 = none ∧
    tzero Try.prog 110 = some [.raw .nilFunc] ∧
    tstr Try.prog 110 = false ∧
    tnoint Try.prog 110 = true ∧
    tconc Try.prog 110 = true :=
  ⟨by kernel_rfl, by kernel_rfl, by kernel_rfl, by kernel_rfl, by kernel_rfl, by kernel_rfl, by kernel_rfl, by kernel_rfl, by kernel_rfl, by kernel_rfl, by kernel_rfl, by kernel_rfl, by kernel_rfl, by kernel_rfl, by kernel_rfl, by kernel_rfl, by kernel_rfl, by kernel_rfl, by kernel_rfl, by kernel_rfl, by kernel_rfl, by kernel_rfl, by kernel_rfl, by kernel_rfl, by kernel_rfl, by kernel_rfl, by kernel_rfl, by kernel_rfl, by kernel_rfl, by kernel_rfl, by kernel_rfl, by kernel_rfl, by kernel_rfl, by kernel_rfl, by kernel_rfl, by kernel_rfl, by kernel_rfl, by kernel_rfl, by kernel_rfl, by kernel_rfl, by kernel_rfl, by kernel_rfl, by kernel_rfl, by kernel_rfl, by kernel_rfl, by kernel_rfl, by kernel_rfl, by kernel_rfl, by kernel_rfl, by kernel_rfl⟩
theorem mixed : Try.prog.follows .mixedOrders = true := by kernel_rfl
attribute [go_sem] tf0 tf1 tf2
end Go.Abs
namespace Go.Abs
open Go.Proofs
set_option maxRecDepth 100000
theorem Zs2.aggEq (a b : Zs2) : AggEq Try.prog 99 a.cells b.cells = True := by
  refine eq_true (aggEq_flat (by kernel_rfl) (by kernel_rfl) (by kernel_rfl) ?_)
  rw [Zs2.cells_eq, Zs2.cells_eq]
  exact ⟨⟨by decide, by kernel_rfl, by kernel_rfl, rfl, .i64, by kernel_rfl⟩, ⟨by decide, by kernel_rfl, by kernel_rfl, rfl, .i64, by kernel_rfl⟩, trivial⟩
theorem Zs2.eqB (a b : Zs2) : Go.Abs.eqB a.cells b.cells = ((a.index == b.index) && (a.plus == b.plus)) := by
  rw [Zs2.cells_eq, Zs2.cells_eq]
  simp only [Go.Abs.eqB, eq1, sb_toList, Bool.and_true]
attribute [go_sem] Zs2.aggEq Zs2.eqB
theorem Zs2.aggEqL (a : Zs2) (y0 : Int) (y1 : Int) : AggEq Try.prog 99 a.cells [.int .i64 y0, .int .i64 y1] = True := by
  have := Zs2.aggEq a (Zs2.mk y0 y1)
  rwa [Zs2.cells_eq (Zs2.mk y0 y1)] at this
theorem Zs2.eqBL (a : Zs2) (y0 : Int) (y1 : Int) : Go.Abs.eqB a.cells [.int .i64 y0, .int .i64 y1] = ((a.index == y0) && (a.plus == y1)) := by
  have := Zs2.eqB a (Zs2.mk y0 y1)
  rwa [Zs2.cells_eq (Zs2.mk y0 y1)] at this
attribute [go_sem] Zs2.aggEqL Zs2.eqBL
end Go.Abs
namespace Go.Abs
theorem Ctor.nbset (n : Nat) (xs : List Ctor) (i : Nat) (r : List AV) : Go.Abs.nbR n ((mp Ctor.cells xs).set i r) = (xs.length ≤ i ∨ Go.Abs.nbL n r) := by
  rw [Go.Abs.nbR_set (of_eq_true (Ctor.nbs.2 n xs)), mp_length]
end Go.Abs
