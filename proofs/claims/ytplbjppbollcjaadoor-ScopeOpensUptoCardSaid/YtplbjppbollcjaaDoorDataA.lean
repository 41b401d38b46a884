/- A part of the proof: the data of the program. -/
import Derived.Test.YtplbjppbollcjaaDoorCoreC
import Derived.Test.YtplbjppbollcjaaDoorProg
import Derived.KernelRfl
set_option linter.all false
namespace Go.Abs
set_option linter.unusedSimpArgs false
set_option maxRecDepth 10000
theorem icell_nb (n : Nat) (x : Int) : nbL n (icell x) := ⟨trivial, trivial⟩
theorem ucell_nb (n : Nat) (x : Int) : nbL n (ucell x) := ⟨trivial, trivial⟩
theorem scell_nb (n : Nat) (x : Str) : nbL n (scell x) := ⟨trivial, trivial⟩
theorem bcell_nb (n : Nat) (x : Bool) : nbL n (bcell x) := ⟨trivial, trivial⟩
theorem nbR_map {α : Type} {f : α → List AV} {n : Nat} (h : ∀ x, nbL n (f x)) : ∀ xs : List α, nbR n (mp f xs)
  | [] => by rw [mp_eq]; trivial
  | x :: xs => by have := nbR_map h xs; rw [mp_eq] at this ⊢; exact ⟨h x, this⟩
theorem loadAV_all {cs : List AV} {n : Nat} (h : cs.length = n) : loadAV true n cs = some (.agg cs) := by
  simp only [loadAV, ← h, Nat.le_refl, if_true, List.take_length]
theorem cell_nbs : (∀ (n : Nat) (xs : List Int), nbR n (mp icell xs) = True) ∧ (∀ (n : Nat) (xs : List Int), nbR n (mp ucell xs) = True) ∧ (∀ (n : Nat) (xs : List Str), nbR n (mp scell xs) = True) ∧ ∀ (n : Nat) (xs : List Bool), nbR n (mp bcell xs) = True := ⟨fun n xs => eq_true (nbR_map (icell_nb n) xs), fun n xs => eq_true (nbR_map (ucell_nb n) xs), fun n xs => eq_true (nbR_map (scell_nb n) xs), fun n xs => eq_true (nbR_map (bcell_nb n) xs)⟩
theorem cell_rens : (∀ (ρ : Nat → Nat) (xs : List Int), renR ρ (mp icell xs) = mp icell xs) ∧ (∀ (ρ : Nat → Nat) (xs : List Str), renR ρ (mp scell xs) = mp scell xs) ∧ ∀ (ρ : Nat → Nat) (xs : List Bool), renR ρ (mp bcell xs) = mp bcell xs := ⟨fun ρ xs => renR_of_nb ρ _ (nbR_map (icell_nb 0) xs), fun ρ xs => renR_of_nb ρ _ (nbR_map (scell_nb 0) xs), fun ρ xs => renR_of_nb ρ _ (nbR_map (bcell_nb 0) xs)⟩
attribute [go_sem] icell scell bcell ucell cell_nbs cell_rens
theorem mapO_set {α β : Type} {f : β → Option α} {g : α → β} (h : ∀ x, f (g x) = some x) : ∀ (xs : List α) (i : Nat) (r : β), mapO f ((mp g xs).set i r) = bif decide (i < xs.length) then (f r).bind fun y => some (xs.set i y) else some xs := by
  intro xs
  rw [mp_eq]
  induction xs with
  | nil => intro i r; simp [mapO]
  | cons x xs ih =>
    intro i r
    cases i with
    | zero =>
      simp only [List.map_cons, List.set_cons_zero, mapO, mapO_map h, List.length_cons, Nat.zero_lt_succ, decide_true, cond_true]
      cases f r <;> rfl
    | succ i =>
      simp only [List.map_cons, List.set_cons_succ, mapO, h, ih i r, List.length_cons, Nat.succ_lt_succ_iff, Option.bind_some]
      by_cases hi : i < xs.length
      · simp only [hi, decide_true, cond_true]; cases f r <;> rfl
      · simp only [hi, decide_false, cond_false]; rfl
theorem mapO_set1 : (∀ (xs : List Int) (i : Nat) (r : List AV), mapO (dI1 .i64) ((mp icell xs).set i r) = bif decide (i < xs.length) then (dI1 .i64 r).bind fun y => some (xs.set i y) else some xs) ∧ (∀ (xs : List Bool) (i : Nat) (r : List AV), mapO dB1 ((mp bcell xs).set i r) = bif decide (i < xs.length) then (dB1 r).bind fun y => some (xs.set i y) else some xs) ∧ (∀ (xs : List Str) (i : Nat) (r : List AV), mapO dS1 ((mp scell xs).set i r) = bif decide (i < xs.length) then (dS1 r).bind fun y => some (xs.set i y) else some xs) := ⟨mapO_set fun x => by simp [dI1, icell, dI], mapO_set fun x => rfl, mapO_set fun x => rfl⟩
attribute [go_sem] mapO_set1
theorem mapO_repl {α β : Type} {f : β → Option α} {z : β} : ∀ n : Nat, mapO f (List.replicate n z) = bif n == 0 then some [] else (f z).bind fun y => some (List.replicate n y)
  | 0 => rfl
  | n + 1 => by
    simp only [List.replicate_succ, mapO, mapO_repl n]
    cases f z with
    | none => rfl
    | some y => cases n <;> rfl
attribute [go_sem] mapO_repl
theorem lst_of {β : Type} {t : Bool} {z k : Nat} {r rows' : List (List AV)} {o : Option β} {x : β} (hok : o = some x → SubR r rows') (h : (bif szOK z k r then o else none) = some x) : Sub (.lst t z r) (.lst false k rows') := by
  cases hs : szOK z k r with
  | false => simp [hs] at h
  | true => rw [hs] at h; exact sub_lst_sz hs (hok h)

structure LevelVar where
  index : Int
  plus : Int
def LevelVar.cells (x : LevelVar) : List AV := [.int .i64 x.index, .int .i64 x.plus]
theorem LevelVar.cells_cat (x : LevelVar) : x.cells = [.int .i64 x.index, .int .i64 x.plus] := rfl
theorem LevelVar.cells_eq (x : LevelVar) : x.cells = [.int .i64 x.index, .int .i64 x.plus] := rfl
attribute [irreducible] LevelVar.cells
theorem LevelVar.length (x : LevelVar) : x.cells.length = 2 := by rw [LevelVar.cells_eq]; rfl
theorem LevelVar.scalar (x : LevelVar) : x.cells.all AV.scalar = true := by rw [LevelVar.cells_eq]; rfl
theorem LevelVar.nb (n : Nat) (x : LevelVar) : nbL n x.cells := by
  rw [LevelVar.cells_cat]
  exact ⟨trivial, trivial, trivial⟩
def LevelVar.of (H : List AObj) : List AV → Option LevelVar
  | [c0, c1] => (dI .i64 c0).bind fun x0 => (dI .i64 c1).bind fun x1 => some (.mk x0 x1)
  | _ => none
theorem LevelVar.of_lit {H : List AObj} {c0 c1 : AV} : LevelVar.of H [c0, c1] = (dI .i64 c0).bind fun x0 => (dI .i64 c1).bind fun x1 => some (.mk x0 x1) := rfl
theorem LevelVar.of_lit_cells (H : List AObj) (x : LevelVar) : LevelVar.of H [.int .i64 x.index, .int .i64 x.plus] = some x := by
  simp only [LevelVar.of_lit, dI_int, dB_bool, dS_sb, bind_some', szOK, beq_self_eq_true, Bool.true_or, cond_true, dL]
  try (cases x; rfl)
theorem LevelVar.of_cells (H : List AObj) (x : LevelVar) : LevelVar.of H x.cells = some x := by rw [LevelVar.cells_eq]; exact LevelVar.of_lit_cells H x
theorem LevelVar.of_ok {H : List AObj} {n : Nat} {cs : List AV} {x : LevelVar} (h : LevelVar.of H cs = some x) : CoL1 H n cs x.cells := by
  unfold LevelVar.of at h
  split at h
  · simp only [Option.bind_eq_some_iff, Option.some.injEq] at h
    obtain ⟨x0, h0, x1, h1, rfl⟩ := h
    rw [LevelVar.cells_cat]
    exact (CoL1.cons (dI_ok h0) (CoL1.cons (dI_ok h1) CoL1.nil))
  · cases h
def LevelVar.cel : Cel LevelVar := ⟨LevelVar.cells, LevelVar.of, fun _ _ _ _ h => LevelVar.of_ok h, LevelVar.nb⟩
def LevelVar.row : Row LevelVar := ⟨LevelVar.cells, LevelVar.of [], 2, fun _ _ h => (LevelVar.of_ok (n := 0) h).toSub, LevelVar.nb⟩
theorem LevelVar.mapO_cells (xs : List LevelVar) : mapO (LevelVar.of []) (mp LevelVar.cells xs) = some xs := mapO_mp (LevelVar.of_cells []) xs
theorem LevelVar.mapO_set (xs : List LevelVar) (i : Nat) (r : List AV) : mapO (LevelVar.of []) ((mp LevelVar.cells xs).set i r) = bif decide (i < xs.length) then (LevelVar.of [] r).bind fun y => some (xs.set i y) else some xs := Go.Abs.mapO_set (LevelVar.of_cells []) xs i r
attribute [go_sem low] LevelVar.mapO_set
theorem LevelVar.row_f : LevelVar.row.enc = LevelVar.cells ∧ LevelVar.row.dec = LevelVar.of [] ∧ LevelVar.row.sz = 2 ∧ LevelVar.cel.enc = LevelVar.cells ∧ LevelVar.cel.dec = LevelVar.of := ⟨rfl, rfl, rfl, rfl, rfl⟩
theorem LevelVar.eta (x : LevelVar) : LevelVar.mk x.index x.plus = x := by cases x; rfl
attribute [go_sem] LevelVar.of_lit LevelVar.of_cells LevelVar.mapO_cells LevelVar.row_f LevelVar.eta
theorem LevelVar.prj : (∀ (y0 : Int) (y1 : Int), (LevelVar.mk y0 y1).index = y0) ∧ (∀ (y0 : Int) (y1 : Int), (LevelVar.mk y0 y1).plus = y1) := ⟨fun _ _ => rfl, fun _ _ => rfl⟩
attribute [go_sem] LevelVar.prj
theorem LevelVar.nbs : (∀ (n : Nat) (x : LevelVar), Go.Abs.nbL n x.cells = True) ∧ ∀ (n : Nat) (xs : List LevelVar), Go.Abs.nbR n (mp LevelVar.cells xs) = True := ⟨fun n x => eq_true (LevelVar.nb n x), fun n xs => eq_true (nbR_map (LevelVar.nb n) xs)⟩
theorem LevelVar.rens : (∀ (ρ : Nat → Nat) (x : LevelVar), renL ρ x.cells = x.cells) ∧ ∀ (ρ : Nat → Nat) (xs : List LevelVar), renR ρ (mp LevelVar.cells xs) = mp LevelVar.cells xs := ⟨fun ρ x => renL_of_nb ρ _ (LevelVar.nb 0 x), fun ρ xs => renR_of_nb ρ _ (nbR_map (LevelVar.nb 0) xs)⟩
theorem LevelVar.vw (H : List AObj) (x : LevelVar) : vwL H x.cells = some (x.cells, []) := vwL_of_nb H _ (LevelVar.nb 0 x)
attribute [go_sem] LevelVar.vw
theorem LevelVar.frz (low : Nat) (H : List AObj) (x : LevelVar) : frzL low H x.cells = x.cells := frzL_of_nb low H _ (LevelVar.nb 0 x)
theorem LevelVar.rpv (l : Nat) (ds : List AV) (x : LevelVar) : x.cells.map (rpV l ds) = x.cells := rpVL_of_nb _ (LevelVar.nb 0 x)
attribute [go_sem] LevelVar.rpv
theorem LevelVar.tk : (∀ x : LevelVar, List.take 2 x.cells = x.cells) ∧ ∀ x : LevelVar, List.drop 2 x.cells = [] := ⟨fun x => by rw [LevelVar.cells_eq]; rfl, fun x => by rw [LevelVar.cells_eq]; rfl⟩
attribute [go_sem] LevelVar.tk
theorem LevelVar.arr : (∀ (m i : Nat) (v : Tup LevelVar m), chunkA 2 i (tupEnc LevelVar.cells m v) = ((tupList m v)[i]?).bind fun y => some (LevelVar.cells y)) ∧ (∀ (H : List AObj) (m : Nat) (v : Tup LevelVar m), tupDec (LevelVar.of H) 2 m (tupEnc LevelVar.cells m v) = some v) ∧ (∀ (m : Nat) (v : Tup LevelVar m), (tupEnc LevelVar.cells m v).length = m * 2) ∧ (∀ (ρ : Nat → Nat) (m : Nat) (v : Tup LevelVar m), renL ρ (tupEnc LevelVar.cells m v) = tupEnc LevelVar.cells m v) ∧ (∀ (N m : Nat) (v : Tup LevelVar m), nbL N (tupEnc LevelVar.cells m v) = True) ∧ (∀ (l : Nat) (cs : List AV) (m : Nat) (v : Tup LevelVar m), (tupEnc LevelVar.cells m v).map (rp1 l cs) = tupEnc LevelVar.cells m v) ∧ (∀ (l : Nat) (cs : List AV) (m : Nat) (v : Tup LevelVar m), (tupEnc LevelVar.cells m v).map (rpV l cs) = tupEnc LevelVar.cells m v) ∧ (∀ (m : Nat) (v : Tup LevelVar m), cellsOf (.agg (tupEnc LevelVar.cells m v)) = some (tupEnc LevelVar.cells m v)) := ⟨fun m i v => (chunkA_enc LevelVar.length (by decide) m i v).trans (by cases (tupList m v)[i]? <;> rfl), fun H m v => tupDec_enc LevelVar.length (LevelVar.of_cells H) m v, fun m v => tupEnc_len LevelVar.length m v, fun ρ m v => renL_of_nb ρ _ (tupNb LevelVar.nb 0 m v), fun N m v => eq_true (tupNb LevelVar.nb N m v), fun l cs m v => rp1L_of_nb _ (tupNb LevelVar.nb 0 m v), fun l cs m v => rpVL_of_nb _ (tupNb LevelVar.nb 0 m v), fun m v => tupCells LevelVar.scalar m v⟩
attribute [go_sem high] LevelVar.arr
theorem LevelVar.reads :
    (∀ x : LevelVar, cellsOf (.agg x.cells) = some x.cells) ∧
    (∀ x : LevelVar, loadAV true 2 x.cells = some (.agg x.cells)) ∧
    (∀ x : LevelVar, loadAV false 1 x.cells = some (.int .i64 x.index)) ∧
    (∀ x : LevelVar, loadAV false 1 (x.cells.drop 1) = some (.int .i64 x.plus)) :=
  ⟨fun x => by simp only [cellsOf, LevelVar.scalar, if_true],
   fun x => loadAV_all (LevelVar.length x),
   fun x => by rw [LevelVar.cells_eq]; rfl,
   fun x => by rw [LevelVar.cells_eq]; rfl⟩
theorem LevelVar.splc (x : LevelVar) (o : Nat) (xs : List AV) : splice x.cells o xs = splice [.int .i64 x.index, .int .i64 x.plus] o xs := by rw [LevelVar.cells_eq]
theorem LevelVar.splc2 (x : LevelVar) (o : Nat) (c : AV) (cs : List AV) : splice (c :: cs) o x.cells = splice (c :: cs) o [.int .i64 x.index, .int .i64 x.plus] := by rw [LevelVar.cells_eq]
theorem LevelVar.app (x : LevelVar) (l : List AV) : x.cells ++ l = (.int .i64 x.index : AV) :: (.int .i64 x.plus : AV) :: l := by rw [LevelVar.cells_eq]; rfl
theorem LevelVar.cns (x : LevelVar) (c : AV) : c :: x.cells = [c, .int .i64 x.index, .int .i64 x.plus] := by rw [LevelVar.cells_eq]
attribute [go_sem] LevelVar.app LevelVar.cns
attribute [go_sem] LevelVar.nbs LevelVar.rens LevelVar.frz LevelVar.reads LevelVar.length LevelVar.scalar
attribute [go_sem low] LevelVar.splc LevelVar.splc2

structure Level where
  const : Int
  vars : List LevelVar
def Level.cells (x : Level) : List AV := [.int .i64 x.const, .lst false 2 (mp LevelVar.cells x.vars)]
theorem Level.cells_cat (x : Level) : x.cells = [.int .i64 x.const, .lst false 2 (mp LevelVar.cells x.vars)] := rfl
theorem Level.cells_eq (x : Level) : x.cells = [.int .i64 x.const, .lst false 2 (mp LevelVar.cells x.vars)] := rfl
attribute [irreducible] Level.cells
theorem Level.length (x : Level) : x.cells.length = 2 := by rw [Level.cells_eq]; rfl
theorem Level.scalar (x : Level) : x.cells.all AV.scalar = true := by rw [Level.cells_eq]; rfl
theorem Level.nb (n : Nat) (x : Level) : nbL n x.cells := by
  rw [Level.cells_cat]
  exact ⟨trivial, nbR_map (LevelVar.nb n) _, trivial⟩
def Level.of (H : List AObj) : List AV → Option Level
  | [c0, c1] => (dI .i64 c0).bind fun x0 => (dL LevelVar.row H c1).bind fun x1 => some (.mk x0 x1)
  | _ => none
theorem Level.of_lit {H : List AObj} {c0 c1 : AV} : Level.of H [c0, c1] = (dI .i64 c0).bind fun x0 => (dL LevelVar.row H c1).bind fun x1 => some (.mk x0 x1) := rfl
theorem Level.of_lit_cells (H : List AObj) (x : Level) : Level.of H [.int .i64 x.const, .lst false 2 (mp LevelVar.cells x.vars)] = some x := by
  simp only [Level.of_lit, dI_int, dB_bool, dS_sb, bind_some', szOK, beq_self_eq_true, Bool.true_or, cond_true, dL, LevelVar.mapO_cells, LevelVar.row]
  try (cases x; rfl)
theorem Level.of_cells (H : List AObj) (x : Level) : Level.of H x.cells = some x := by rw [Level.cells_eq]; exact Level.of_lit_cells H x
theorem Level.of_ok {H : List AObj} {n : Nat} {cs : List AV} {x : Level} (h : Level.of H cs = some x) : CoL1 H n cs x.cells := by
  unfold Level.of at h
  split at h
  · simp only [Option.bind_eq_some_iff, Option.some.injEq] at h
    obtain ⟨x0, h0, x1, h1, rfl⟩ := h
    rw [Level.cells_cat]
    exact (CoL1.cons (dI_ok h0) (CoL1.cons (dL_ok h1) CoL1.nil))
  · cases h
def Level.cel : Cel Level := ⟨Level.cells, Level.of, fun _ _ _ _ h => Level.of_ok h, Level.nb⟩
def Level.row : Row Level := ⟨Level.cells, Level.of [], 2, fun _ _ h => (Level.of_ok (n := 0) h).toSub, Level.nb⟩
theorem Level.mapO_cells (xs : List Level) : mapO (Level.of []) (mp Level.cells xs) = some xs := mapO_mp (Level.of_cells []) xs
theorem Level.mapO_set (xs : List Level) (i : Nat) (r : List AV) : mapO (Level.of []) ((mp Level.cells xs).set i r) = bif decide (i < xs.length) then (Level.of [] r).bind fun y => some (xs.set i y) else some xs := Go.Abs.mapO_set (Level.of_cells []) xs i r
attribute [go_sem low] Level.mapO_set
theorem Level.row_f : Level.row.enc = Level.cells ∧ Level.row.dec = Level.of [] ∧ Level.row.sz = 2 ∧ Level.cel.enc = Level.cells ∧ Level.cel.dec = Level.of := ⟨rfl, rfl, rfl, rfl, rfl⟩
theorem Level.eta (x : Level) : Level.mk x.const x.vars = x := by cases x; rfl
attribute [go_sem] Level.of_lit Level.of_cells Level.mapO_cells Level.row_f Level.eta
theorem Level.prj : (∀ (y0 : Int) (y1 : List LevelVar), (Level.mk y0 y1).const = y0) ∧ (∀ (y0 : Int) (y1 : List LevelVar), (Level.mk y0 y1).vars = y1) := ⟨fun _ _ => rfl, fun _ _ => rfl⟩
attribute [go_sem] Level.prj
theorem Level.nbs : (∀ (n : Nat) (x : Level), Go.Abs.nbL n x.cells = True) ∧ ∀ (n : Nat) (xs : List Level), Go.Abs.nbR n (mp Level.cells xs) = True := ⟨fun n x => eq_true (Level.nb n x), fun n xs => eq_true (nbR_map (Level.nb n) xs)⟩
theorem Level.rens : (∀ (ρ : Nat → Nat) (x : Level), renL ρ x.cells = x.cells) ∧ ∀ (ρ : Nat → Nat) (xs : List Level), renR ρ (mp Level.cells xs) = mp Level.cells xs := ⟨fun ρ x => renL_of_nb ρ _ (Level.nb 0 x), fun ρ xs => renR_of_nb ρ _ (nbR_map (Level.nb 0) xs)⟩
theorem Level.vw (H : List AObj) (x : Level) : vwL H x.cells = some (x.cells, []) := vwL_of_nb H _ (Level.nb 0 x)
attribute [go_sem] Level.vw
theorem Level.frz (low : Nat) (H : List AObj) (x : Level) : frzL low H x.cells = x.cells := frzL_of_nb low H _ (Level.nb 0 x)
theorem Level.rpv (l : Nat) (ds : List AV) (x : Level) : x.cells.map (rpV l ds) = x.cells := rpVL_of_nb _ (Level.nb 0 x)
attribute [go_sem] Level.rpv
theorem Level.tk : (∀ x : Level, List.take 2 x.cells = x.cells) ∧ ∀ x : Level, List.drop 2 x.cells = [] := ⟨fun x => by rw [Level.cells_eq]; rfl, fun x => by rw [Level.cells_eq]; rfl⟩
attribute [go_sem] Level.tk
theorem Level.arr : (∀ (m i : Nat) (v : Tup Level m), chunkA 2 i (tupEnc Level.cells m v) = ((tupList m v)[i]?).bind fun y => some (Level.cells y)) ∧ (∀ (H : List AObj) (m : Nat) (v : Tup Level m), tupDec (Level.of H) 2 m (tupEnc Level.cells m v) = some v) ∧ (∀ (m : Nat) (v : Tup Level m), (tupEnc Level.cells m v).length = m * 2) ∧ (∀ (ρ : Nat → Nat) (m : Nat) (v : Tup Level m), renL ρ (tupEnc Level.cells m v) = tupEnc Level.cells m v) ∧ (∀ (N m : Nat) (v : Tup Level m), nbL N (tupEnc Level.cells m v) = True) ∧ (∀ (l : Nat) (cs : List AV) (m : Nat) (v : Tup Level m), (tupEnc Level.cells m v).map (rp1 l cs) = tupEnc Level.cells m v) ∧ (∀ (l : Nat) (cs : List AV) (m : Nat) (v : Tup Level m), (tupEnc Level.cells m v).map (rpV l cs) = tupEnc Level.cells m v) ∧ (∀ (m : Nat) (v : Tup Level m), cellsOf (.agg (tupEnc Level.cells m v)) = some (tupEnc Level.cells m v)) := ⟨fun m i v => (chunkA_enc Level.length (by decide) m i v).trans (by cases (tupList m v)[i]? <;> rfl), fun H m v => tupDec_enc Level.length (Level.of_cells H) m v, fun m v => tupEnc_len Level.length m v, fun ρ m v => renL_of_nb ρ _ (tupNb Level.nb 0 m v), fun N m v => eq_true (tupNb Level.nb N m v), fun l cs m v => rp1L_of_nb _ (tupNb Level.nb 0 m v), fun l cs m v => rpVL_of_nb _ (tupNb Level.nb 0 m v), fun m v => tupCells Level.scalar m v⟩
attribute [go_sem high] Level.arr
theorem Level.reads :
    (∀ x : Level, cellsOf (.agg x.cells) = some x.cells) ∧
    (∀ x : Level, loadAV true 2 x.cells = some (.agg x.cells)) ∧
    (∀ x : Level, loadAV false 1 x.cells = some (.int .i64 x.const)) ∧
    (∀ x : Level, loadAV false 1 (x.cells.drop 1) = some (.lst false 2 (mp LevelVar.cells x.vars))) :=
  ⟨fun x => by simp only [cellsOf, Level.scalar, if_true],
   fun x => loadAV_all (Level.length x),
   fun x => by rw [Level.cells_eq]; rfl,
   fun x => by rw [Level.cells_eq]; rfl⟩
theorem Level.splc (x : Level) (o : Nat) (xs : List AV) : splice x.cells o xs = splice [.int .i64 x.const, .lst false 2 (mp LevelVar.cells x.vars)] o xs := by rw [Level.cells_eq]
theorem Level.splc2 (x : Level) (o : Nat) (c : AV) (cs : List AV) : splice (c :: cs) o x.cells = splice (c :: cs) o [.int .i64 x.const, .lst false 2 (mp LevelVar.cells x.vars)] := by rw [Level.cells_eq]
theorem Level.app (x : Level) (l : List AV) : x.cells ++ l = (.int .i64 x.const : AV) :: (.lst false 2 (mp LevelVar.cells x.vars) : AV) :: l := by rw [Level.cells_eq]; rfl
theorem Level.cns (x : Level) (c : AV) : c :: x.cells = [c, .int .i64 x.const, .lst false 2 (mp LevelVar.cells x.vars)] := by rw [Level.cells_eq]
attribute [go_sem] Level.app Level.cns
attribute [go_sem] Level.nbs Level.rens Level.frz Level.reads Level.length Level.scalar
attribute [go_sem low] Level.splc Level.splc2

inductive Term where
  | mk (kind : Int) (index : Int) (name : Str) (levels : List Level) (kids : List Term)
def Term.kind : Term → Int | .mk x _ _ _ _ => x
def Term.index : Term → Int | .mk _ x _ _ _ => x
def Term.name : Term → Str | .mk _ _ x _ _ => x
def Term.levels : Term → List Level | .mk _ _ _ x _ => x
def Term.kids : Term → List Term | .mk _ _ _ _ x => x
mutual
def Term.cells : Term → List AV
  | .mk kind index name levels kids => [.int .i64 kind, .int .i64 index, .str (sb name), .lst false 2 (mp Level.cells levels), .lst false 5 (Term.cellsL kids)]
def Term.cellsL : List Term → List (List AV)
  | [] => []
  | t :: ts => t.cells :: Term.cellsL ts
end
theorem Term.cellsL_eq : ∀ ts : List Term, Term.cellsL ts = mp Term.cells ts
  | [] => by rw [mp_eq]; rfl
  | t :: ts => by rw [Term.cellsL, Term.cellsL_eq ts, mp_eq, mp_eq]; rfl
theorem Term.cells_cat (x : Term) : x.cells = [.int .i64 x.kind, .int .i64 x.index, .str (sb x.name), .lst false 2 (mp Level.cells x.levels), .lst false 5 (mp Term.cells x.kids)] := by
  cases x
  simp only [Term.cells, Term.cellsL_eq]
  rfl
theorem Term.cells_eq (x : Term) : x.cells = [.int .i64 x.kind, .int .i64 x.index, .str (sb x.name), .lst false 2 (mp Level.cells x.levels), .lst false 5 (mp Term.cells x.kids)] := by
  cases x
  simp only [Term.cells, Term.cellsL_eq, List.cons_append, List.nil_append, List.append_nil]
  rfl
attribute [irreducible] Term.cells
theorem Term.length (x : Term) : x.cells.length = 5 := by rw [Term.cells_eq]; rfl
theorem Term.scalar (x : Term) : x.cells.all AV.scalar = true := by rw [Term.cells_eq]; rfl
mutual
theorem Term.nb (n : Nat) : ∀ x : Term, nbL n x.cells
  | .mk kind index name levels kids => by
    rw [Term.cells_cat]
    exact ⟨trivial, trivial, trivial, nbR_map (Level.nb n) _, Term.nbR n kids, trivial⟩
theorem Term.nbR (n : Nat) : ∀ ts : List Term, nbR n (mp Term.cells ts)
  | [] => by rw [mp_eq]; trivial
  | t :: ts => by have := Term.nbR n ts; rw [mp_eq] at this ⊢; exact ⟨Term.nb n t, this⟩
end
mutual
def Term.of0 : List AV → Option Term
  | [c0, c1, c2, c3, .lst _ z4 r4] => (dI .i64 c0).bind fun x0 => (dI .i64 c1).bind fun x1 => (dS c2).bind fun x2 => (dL Level.row [] c3).bind fun x3 => (bif szOK z4 5 r4 then Term.ofR r4 else none).bind fun x4 => some (.mk x0 x1 x2 x3 x4)
  | _ => none
def Term.ofR : List (List AV) → Option (List Term)
  | [] => some []
  | r :: rs => (Term.of0 r).bind fun x => (Term.ofR rs).bind fun xs => some (x :: xs)
end
theorem Term.ofR_eq : ∀ rs, Term.ofR rs = mapO Term.of0 rs
  | [] => by simp only [Term.ofR, mapO]
  | r :: rs => by simp only [Term.ofR, mapO, Term.ofR_eq rs]
mutual
theorem Term.of0_cells : ∀ x : Term, Term.of0 x.cells = some x
  | .mk kind index name levels kids => by
    rw [Term.cells_eq]
    show Term.of0 [.int .i64 kind, .int .i64 index, .str (sb name), .lst false 2 (mp Level.cells levels), .lst false 5 (mp Term.cells kids)] = _
    simp only [Term.of0, dI_int, dB_bool, dS_sb, bind_some', szOK, beq_self_eq_true, Bool.true_or, cond_true, dL, Term.ofR_cells kids, Level.mapO_cells, Level.row]
theorem Term.ofR_cells : ∀ xs : List Term, Term.ofR (mp Term.cells xs) = some xs
  | [] => by rw [mp_eq]; simp only [List.map_nil, Term.ofR]
  | x :: xs => by have h := Term.ofR_cells xs; rw [mp_eq] at h ⊢; simp only [List.map_cons, Term.ofR, Term.of0_cells x, h, bind_some']
end
mutual
theorem Term.of0_ok : ∀ (x : Term) (r : List AV), Term.of0 r = some x → SubE r x.cells
  | .mk kind index name levels kids, r, h => by
    unfold Term.of0 at h
    split at h
    · simp only [Option.bind_eq_some_iff, Option.some.injEq, Term.mk.injEq] at h
      obtain ⟨x0, h0, x1, h1, x2, h2, x3, h3, x4, h4, e0, e1, e2, e3, e4⟩ := h
      rw [e0] at h0
      rw [e1] at h1
      rw [e2] at h2
      rw [e3] at h3
      rw [e4] at h4
      rw [Term.cells_cat]
      exact (SubE.cons ((dI_ok (H := []) (n := 0) h0).toSub) (SubE.cons ((dI_ok (H := []) (n := 0) h1).toSub) (SubE.cons ((dS_ok (H := []) (n := 0) h2).toSub) (SubE.cons ((dL_ok (H := []) (n := 0) h3).toSub) (SubE.cons (lst_of (Term.ofR_ok kids _) h4) SubE.nil)))))
    · cases h
theorem Term.ofR_ok : ∀ (xs : List Term) (rs : List (List AV)), Term.ofR rs = some xs → SubR rs (mp Term.cells xs)
  | [], rs, h => by
    cases rs with
    | nil => rw [mp_eq]; exact SubR.nil
    | cons r rs =>
      simp only [Term.ofR, Option.bind_eq_some_iff, Option.some.injEq] at h
      obtain ⟨_, _, _, _, h⟩ := h
      cases h
  | x :: xs, rs, h => by
    cases rs with
    | nil => simp only [Term.ofR, Option.some.injEq] at h; cases h
    | cons r rs =>
      simp only [Term.ofR, Option.bind_eq_some_iff, Option.some.injEq, List.cons.injEq] at h
      obtain ⟨_, hx, _, hys, rfl, rfl⟩ := h
      have h2 := Term.ofR_ok _ rs hys
      rw [mp_eq] at h2 ⊢
      exact SubR.cons (Term.of0_ok _ r hx).subM h2
end
def Term.row : Row Term := ⟨Term.cells, Term.of0, 5, fun r x h => Term.of0_ok x r h, Term.nb⟩
theorem Term.mapO_cells (xs : List Term) : mapO Term.of0 (mp Term.cells xs) = some xs := mapO_mp Term.of0_cells xs
theorem Term.mapO_set (xs : List Term) (i : Nat) (r : List AV) : mapO Term.of0 ((mp Term.cells xs).set i r) = bif decide (i < xs.length) then (Term.of0 r).bind fun y => some (xs.set i y) else some xs := Go.Abs.mapO_set Term.of0_cells xs i r
attribute [go_sem low] Term.mapO_set
def Term.of (H : List AObj) : List AV → Option Term
  | [c0, c1, c2, c3, c4] => (dI .i64 c0).bind fun x0 => (dI .i64 c1).bind fun x1 => (dS c2).bind fun x2 => (dL Level.row H c3).bind fun x3 => (dL Term.row H c4).bind fun x4 => some (.mk x0 x1 x2 x3 x4)
  | _ => none
theorem Term.of_lit {H : List AObj} {c0 c1 c2 c3 c4 : AV} : Term.of H [c0, c1, c2, c3, c4] = (dI .i64 c0).bind fun x0 => (dI .i64 c1).bind fun x1 => (dS c2).bind fun x2 => (dL Level.row H c3).bind fun x3 => (dL Term.row H c4).bind fun x4 => some (.mk x0 x1 x2 x3 x4) := rfl
theorem Term.of_lit_cells (H : List AObj) (x : Term) : Term.of H [.int .i64 x.kind, .int .i64 x.index, .str (sb x.name), .lst false 2 (mp Level.cells x.levels), .lst false 5 (mp Term.cells x.kids)] = some x := by
  simp only [Term.of_lit, dI_int, dB_bool, dS_sb, bind_some', szOK, beq_self_eq_true, Bool.true_or, cond_true, dL, Level.mapO_cells, Level.row, Term.mapO_cells, Term.row]
  try (cases x; rfl)
theorem Term.of_cells (H : List AObj) (x : Term) : Term.of H x.cells = some x := by rw [Term.cells_eq]; exact Term.of_lit_cells H x
theorem Term.of_ok {H : List AObj} {n : Nat} {cs : List AV} {x : Term} (h : Term.of H cs = some x) : CoL1 H n cs x.cells := by
  unfold Term.of at h
  split at h
  · simp only [Option.bind_eq_some_iff, Option.some.injEq] at h
    obtain ⟨x0, h0, x1, h1, x2, h2, x3, h3, x4, h4, rfl⟩ := h
    rw [Term.cells_cat]
    exact (CoL1.cons (dI_ok h0) (CoL1.cons (dI_ok h1) (CoL1.cons (dS_ok h2) (CoL1.cons (dL_ok h3) (CoL1.cons (dL_ok h4) CoL1.nil)))))
  · cases h
def Term.cel : Cel Term := ⟨Term.cells, Term.of, fun _ _ _ _ h => Term.of_ok h, Term.nb⟩
theorem Term.row_f : Term.row.enc = Term.cells ∧ Term.row.dec = Term.of0 ∧ Term.row.sz = 5 ∧ Term.cel.enc = Term.cells ∧ Term.cel.dec = Term.of := ⟨rfl, rfl, rfl, rfl, rfl⟩
theorem Term.eta (x : Term) : Term.mk x.kind x.index x.name x.levels x.kids = x := by cases x; rfl
attribute [go_sem] Term.of_lit Term.of_cells Term.mapO_cells Term.row_f Term.eta
attribute [go_sem] Term.of0 Term.of0_cells
attribute [go_sem] Term.ofR_eq
theorem Term.prj : (∀ (y0 : Int) (y1 : Int) (y2 : Str) (y3 : List Level) (y4 : List Term), (Term.mk y0 y1 y2 y3 y4).kind = y0) ∧ (∀ (y0 : Int) (y1 : Int) (y2 : Str) (y3 : List Level) (y4 : List Term), (Term.mk y0 y1 y2 y3 y4).index = y1) ∧ (∀ (y0 : Int) (y1 : Int) (y2 : Str) (y3 : List Level) (y4 : List Term), (Term.mk y0 y1 y2 y3 y4).name = y2) ∧ (∀ (y0 : Int) (y1 : Int) (y2 : Str) (y3 : List Level) (y4 : List Term), (Term.mk y0 y1 y2 y3 y4).levels = y3) ∧ (∀ (y0 : Int) (y1 : Int) (y2 : Str) (y3 : List Level) (y4 : List Term), (Term.mk y0 y1 y2 y3 y4).kids = y4) := ⟨fun _ _ _ _ _ => rfl, fun _ _ _ _ _ => rfl, fun _ _ _ _ _ => rfl, fun _ _ _ _ _ => rfl, fun _ _ _ _ _ => rfl⟩
attribute [go_sem] Term.prj
theorem Term.nbs : (∀ (n : Nat) (x : Term), Go.Abs.nbL n x.cells = True) ∧ ∀ (n : Nat) (xs : List Term), Go.Abs.nbR n (mp Term.cells xs) = True := ⟨fun n x => eq_true (Term.nb n x), fun n xs => eq_true (nbR_map (Term.nb n) xs)⟩
theorem Term.rens : (∀ (ρ : Nat → Nat) (x : Term), renL ρ x.cells = x.cells) ∧ ∀ (ρ : Nat → Nat) (xs : List Term), renR ρ (mp Term.cells xs) = mp Term.cells xs := ⟨fun ρ x => renL_of_nb ρ _ (Term.nb 0 x), fun ρ xs => renR_of_nb ρ _ (nbR_map (Term.nb 0) xs)⟩
theorem Term.vw (H : List AObj) (x : Term) : vwL H x.cells = some (x.cells, []) := vwL_of_nb H _ (Term.nb 0 x)
attribute [go_sem] Term.vw
theorem Term.frz (low : Nat) (H : List AObj) (x : Term) : frzL low H x.cells = x.cells := frzL_of_nb low H _ (Term.nb 0 x)
theorem Term.rpv (l : Nat) (ds : List AV) (x : Term) : x.cells.map (rpV l ds) = x.cells := rpVL_of_nb _ (Term.nb 0 x)
attribute [go_sem] Term.rpv
theorem Term.tk : (∀ x : Term, List.take 5 x.cells = x.cells) ∧ ∀ x : Term, List.drop 5 x.cells = [] := ⟨fun x => by rw [Term.cells_eq]; rfl, fun x => by rw [Term.cells_eq]; rfl⟩
attribute [go_sem] Term.tk
theorem Term.arr : (∀ (m i : Nat) (v : Tup Term m), chunkA 5 i (tupEnc Term.cells m v) = ((tupList m v)[i]?).bind fun y => some (Term.cells y)) ∧ (∀ (H : List AObj) (m : Nat) (v : Tup Term m), tupDec (Term.of H) 5 m (tupEnc Term.cells m v) = some v) ∧ (∀ (m : Nat) (v : Tup Term m), (tupEnc Term.cells m v).length = m * 5) ∧ (∀ (ρ : Nat → Nat) (m : Nat) (v : Tup Term m), renL ρ (tupEnc Term.cells m v) = tupEnc Term.cells m v) ∧ (∀ (N m : Nat) (v : Tup Term m), nbL N (tupEnc Term.cells m v) = True) ∧ (∀ (l : Nat) (cs : List AV) (m : Nat) (v : Tup Term m), (tupEnc Term.cells m v).map (rp1 l cs) = tupEnc Term.cells m v) ∧ (∀ (l : Nat) (cs : List AV) (m : Nat) (v : Tup Term m), (tupEnc Term.cells m v).map (rpV l cs) = tupEnc Term.cells m v) ∧ (∀ (m : Nat) (v : Tup Term m), cellsOf (.agg (tupEnc Term.cells m v)) = some (tupEnc Term.cells m v)) := ⟨fun m i v => (chunkA_enc Term.length (by decide) m i v).trans (by cases (tupList m v)[i]? <;> rfl), fun H m v => tupDec_enc Term.length (Term.of_cells H) m v, fun m v => tupEnc_len Term.length m v, fun ρ m v => renL_of_nb ρ _ (tupNb Term.nb 0 m v), fun N m v => eq_true (tupNb Term.nb N m v), fun l cs m v => rp1L_of_nb _ (tupNb Term.nb 0 m v), fun l cs m v => rpVL_of_nb _ (tupNb Term.nb 0 m v), fun m v => tupCells Term.scalar m v⟩
attribute [go_sem high] Term.arr
theorem Term.reads :
    (∀ x : Term, cellsOf (.agg x.cells) = some x.cells) ∧
    (∀ x : Term, loadAV true 5 x.cells = some (.agg x.cells)) ∧
    (∀ x : Term, loadAV false 1 x.cells = some (.int .i64 x.kind)) ∧
    (∀ x : Term, loadAV false 1 (x.cells.drop 1) = some (.int .i64 x.index)) ∧
    (∀ x : Term, loadAV false 1 (x.cells.drop 2) = some (.str (sb x.name))) ∧
    (∀ x : Term, loadAV false 1 (x.cells.drop 3) = some (.lst false 2 (mp Level.cells x.levels))) ∧
    (∀ x : Term, loadAV false 1 (x.cells.drop 4) = some (.lst false 5 (mp Term.cells x.kids))) :=
  ⟨fun x => by simp only [cellsOf, Term.scalar, if_true],
   fun x => loadAV_all (Term.length x),
   fun x => by rw [Term.cells_eq]; rfl,
   fun x => by rw [Term.cells_eq]; rfl,
   fun x => by rw [Term.cells_eq]; rfl,
   fun x => by rw [Term.cells_eq]; rfl,
   fun x => by rw [Term.cells_eq]; rfl⟩
theorem Term.splc (x : Term) (o : Nat) (xs : List AV) : splice x.cells o xs = splice [.int .i64 x.kind, .int .i64 x.index, .str (sb x.name), .lst false 2 (mp Level.cells x.levels), .lst false 5 (mp Term.cells x.kids)] o xs := by rw [Term.cells_eq]
theorem Term.splc2 (x : Term) (o : Nat) (c : AV) (cs : List AV) : splice (c :: cs) o x.cells = splice (c :: cs) o [.int .i64 x.kind, .int .i64 x.index, .str (sb x.name), .lst false 2 (mp Level.cells x.levels), .lst false 5 (mp Term.cells x.kids)] := by rw [Term.cells_eq]
theorem Term.app (x : Term) (l : List AV) : x.cells ++ l = (.int .i64 x.kind : AV) :: (.int .i64 x.index : AV) :: (.str (sb x.name) : AV) :: (.lst false 2 (mp Level.cells x.levels) : AV) :: (.lst false 5 (mp Term.cells x.kids) : AV) :: l := by rw [Term.cells_eq]; rfl
theorem Term.cns (x : Term) (c : AV) : c :: x.cells = [c, .int .i64 x.kind, .int .i64 x.index, .str (sb x.name), .lst false 2 (mp Level.cells x.levels), .lst false 5 (mp Term.cells x.kids)] := by rw [Term.cells_eq]
attribute [go_sem] Term.app Term.cns
attribute [go_sem] Term.nbs Term.rens Term.frz Term.reads Term.length Term.scalar
attribute [go_sem low] Term.splc Term.splc2

structure Recursor where
  params : Int
  type : Term
  rules : List Term
def Recursor.cells (x : Recursor) : List AV := [.int .i64 x.params] ++ x.type.cells ++ [.lst false 5 (mp Term.cells x.rules)]
theorem Recursor.cells_cat (x : Recursor) : x.cells = [.int .i64 x.params] ++ x.type.cells ++ [.lst false 5 (mp Term.cells x.rules)] := rfl
theorem Recursor.cells_eq (x : Recursor) : x.cells = [.int .i64 x.params, .int .i64 x.type.kind, .int .i64 x.type.index, .str (sb x.type.name), .lst false 2 (mp Level.cells x.type.levels), .lst false 5 (mp Term.cells x.type.kids), .lst false 5 (mp Term.cells x.rules)] := by
  simp only [Recursor.cells, Term.cells_eq, List.cons_append, List.nil_append, List.append_nil]
attribute [irreducible] Recursor.cells
theorem Recursor.length (x : Recursor) : x.cells.length = 7 := by rw [Recursor.cells_eq]; rfl
theorem Recursor.scalar (x : Recursor) : x.cells.all AV.scalar = true := by rw [Recursor.cells_eq]; rfl
theorem Recursor.nb (n : Nat) (x : Recursor) : nbL n x.cells := by
  rw [Recursor.cells_cat]
  exact (nbL_append (nbL_append ⟨trivial, trivial⟩ (Term.nb n x.type)) ⟨nbR_map (Term.nb n) _, trivial⟩)
def Recursor.of (H : List AObj) : List AV → Option Recursor
  | [c0, c1, c2, c3, c4, c5, c6] => (dI .i64 c0).bind fun x0 => (Term.of H [c1, c2, c3, c4, c5]).bind fun x1 => (dL Term.row H c6).bind fun x2 => some (.mk x0 x1 x2)
  | _ => none
theorem Recursor.of_lit {H : List AObj} {c0 c1 c2 c3 c4 c5 c6 : AV} : Recursor.of H [c0, c1, c2, c3, c4, c5, c6] = (dI .i64 c0).bind fun x0 => (Term.of H [c1, c2, c3, c4, c5]).bind fun x1 => (dL Term.row H c6).bind fun x2 => some (.mk x0 x1 x2) := rfl
theorem Recursor.of_lit_cells (H : List AObj) (x : Recursor) : Recursor.of H [.int .i64 x.params, .int .i64 x.type.kind, .int .i64 x.type.index, .str (sb x.type.name), .lst false 2 (mp Level.cells x.type.levels), .lst false 5 (mp Term.cells x.type.kids), .lst false 5 (mp Term.cells x.rules)] = some x := by
  simp only [Recursor.of_lit, dI_int, dB_bool, dS_sb, bind_some', szOK, beq_self_eq_true, Bool.true_or, cond_true, dL, Term.mapO_cells, Term.row, Term.of_lit_cells]
  try (cases x; rfl)
theorem Recursor.of_cells (H : List AObj) (x : Recursor) : Recursor.of H x.cells = some x := by rw [Recursor.cells_eq]; exact Recursor.of_lit_cells H x
theorem Recursor.of_ok {H : List AObj} {n : Nat} {cs : List AV} {x : Recursor} (h : Recursor.of H cs = some x) : CoL1 H n cs x.cells := by
  unfold Recursor.of at h
  split at h
  · simp only [Option.bind_eq_some_iff, Option.some.injEq] at h
    obtain ⟨x0, h0, x1, h1, x2, h2, rfl⟩ := h
    rw [Recursor.cells_cat]
    exact (CoL1.append (CoL1.append (CoL1.cons (dI_ok h0) CoL1.nil) (Term.of_ok h1)) (CoL1.cons (dL_ok h2) CoL1.nil))
  · cases h
def Recursor.cel : Cel Recursor := ⟨Recursor.cells, Recursor.of, fun _ _ _ _ h => Recursor.of_ok h, Recursor.nb⟩
def Recursor.row : Row Recursor := ⟨Recursor.cells, Recursor.of [], 7, fun _ _ h => (Recursor.of_ok (n := 0) h).toSub, Recursor.nb⟩
theorem Recursor.mapO_cells (xs : List Recursor) : mapO (Recursor.of []) (mp Recursor.cells xs) = some xs := mapO_mp (Recursor.of_cells []) xs
theorem Recursor.mapO_set (xs : List Recursor) (i : Nat) (r : List AV) : mapO (Recursor.of []) ((mp Recursor.cells xs).set i r) = bif decide (i < xs.length) then (Recursor.of [] r).bind fun y => some (xs.set i y) else some xs := Go.Abs.mapO_set (Recursor.of_cells []) xs i r
attribute [go_sem low] Recursor.mapO_set
theorem Recursor.row_f : Recursor.row.enc = Recursor.cells ∧ Recursor.row.dec = Recursor.of [] ∧ Recursor.row.sz = 7 ∧ Recursor.cel.enc = Recursor.cells ∧ Recursor.cel.dec = Recursor.of := ⟨rfl, rfl, rfl, rfl, rfl⟩
theorem Recursor.eta (x : Recursor) : Recursor.mk x.params x.type x.rules = x := by cases x; rfl
attribute [go_sem] Recursor.of_lit Recursor.of_cells Recursor.mapO_cells Recursor.row_f Recursor.eta
theorem Recursor.prj : (∀ (y0 : Int) (y1 : Term) (y2 : List Term), (Recursor.mk y0 y1 y2).params = y0) ∧ (∀ (y0 : Int) (y1 : Term) (y2 : List Term), (Recursor.mk y0 y1 y2).type = y1) ∧ (∀ (y0 : Int) (y1 : Term) (y2 : List Term), (Recursor.mk y0 y1 y2).rules = y2) := ⟨fun _ _ _ => rfl, fun _ _ _ => rfl, fun _ _ _ => rfl⟩
attribute [go_sem] Recursor.prj
theorem Recursor.nbs : (∀ (n : Nat) (x : Recursor), Go.Abs.nbL n x.cells = True) ∧ ∀ (n : Nat) (xs : List Recursor), Go.Abs.nbR n (mp Recursor.cells xs) = True := ⟨fun n x => eq_true (Recursor.nb n x), fun n xs => eq_true (nbR_map (Recursor.nb n) xs)⟩
theorem Recursor.rens : (∀ (ρ : Nat → Nat) (x : Recursor), renL ρ x.cells = x.cells) ∧ ∀ (ρ : Nat → Nat) (xs : List Recursor), renR ρ (mp Recursor.cells xs) = mp Recursor.cells xs := ⟨fun ρ x => renL_of_nb ρ _ (Recursor.nb 0 x), fun ρ xs => renR_of_nb ρ _ (nbR_map (Recursor.nb 0) xs)⟩
theorem Recursor.vw (H : List AObj) (x : Recursor) : vwL H x.cells = some (x.cells, []) := vwL_of_nb H _ (Recursor.nb 0 x)
attribute [go_sem] Recursor.vw
theorem Recursor.frz (low : Nat) (H : List AObj) (x : Recursor) : frzL low H x.cells = x.cells := frzL_of_nb low H _ (Recursor.nb 0 x)
theorem Recursor.rpv (l : Nat) (ds : List AV) (x : Recursor) : x.cells.map (rpV l ds) = x.cells := rpVL_of_nb _ (Recursor.nb 0 x)
attribute [go_sem] Recursor.rpv
theorem Recursor.tk : (∀ x : Recursor, List.take 7 x.cells = x.cells) ∧ ∀ x : Recursor, List.drop 7 x.cells = [] := ⟨fun x => by rw [Recursor.cells_eq]; rfl, fun x => by rw [Recursor.cells_eq]; rfl⟩
attribute [go_sem] Recursor.tk
theorem Recursor.arr : (∀ (m i : Nat) (v : Tup Recursor m), chunkA 7 i (tupEnc Recursor.cells m v) = ((tupList m v)[i]?).bind fun y => some (Recursor.cells y)) ∧ (∀ (H : List AObj) (m : Nat) (v : Tup Recursor m), tupDec (Recursor.of H) 7 m (tupEnc Recursor.cells m v) = some v) ∧ (∀ (m : Nat) (v : Tup Recursor m), (tupEnc Recursor.cells m v).length = m * 7) ∧ (∀ (ρ : Nat → Nat) (m : Nat) (v : Tup Recursor m), renL ρ (tupEnc Recursor.cells m v) = tupEnc Recursor.cells m v) ∧ (∀ (N m : Nat) (v : Tup Recursor m), nbL N (tupEnc Recursor.cells m v) = True) ∧ (∀ (l : Nat) (cs : List AV) (m : Nat) (v : Tup Recursor m), (tupEnc Recursor.cells m v).map (rp1 l cs) = tupEnc Recursor.cells m v) ∧ (∀ (l : Nat) (cs : List AV) (m : Nat) (v : Tup Recursor m), (tupEnc Recursor.cells m v).map (rpV l cs) = tupEnc Recursor.cells m v) ∧ (∀ (m : Nat) (v : Tup Recursor m), cellsOf (.agg (tupEnc Recursor.cells m v)) = some (tupEnc Recursor.cells m v)) := ⟨fun m i v => (chunkA_enc Recursor.length (by decide) m i v).trans (by cases (tupList m v)[i]? <;> rfl), fun H m v => tupDec_enc Recursor.length (Recursor.of_cells H) m v, fun m v => tupEnc_len Recursor.length m v, fun ρ m v => renL_of_nb ρ _ (tupNb Recursor.nb 0 m v), fun N m v => eq_true (tupNb Recursor.nb N m v), fun l cs m v => rp1L_of_nb _ (tupNb Recursor.nb 0 m v), fun l cs m v => rpVL_of_nb _ (tupNb Recursor.nb 0 m v), fun m v => tupCells Recursor.scalar m v⟩
attribute [go_sem high] Recursor.arr
theorem Recursor.reads :
    (∀ x : Recursor, cellsOf (.agg x.cells) = some x.cells) ∧
    (∀ x : Recursor, loadAV true 7 x.cells = some (.agg x.cells)) ∧
    (∀ x : Recursor, loadAV false 1 x.cells = some (.int .i64 x.params)) ∧
    (∀ x : Recursor, loadAV false 1 (x.cells.drop 1) = some (.int .i64 x.type.kind)) ∧
    (∀ x : Recursor, loadAV false 1 (x.cells.drop 2) = some (.int .i64 x.type.index)) ∧
    (∀ x : Recursor, loadAV false 1 (x.cells.drop 3) = some (.str (sb x.type.name))) ∧
    (∀ x : Recursor, loadAV false 1 (x.cells.drop 4) = some (.lst false 2 (mp Level.cells x.type.levels))) ∧
    (∀ x : Recursor, loadAV false 1 (x.cells.drop 5) = some (.lst false 5 (mp Term.cells x.type.kids))) ∧
    (∀ x : Recursor, loadAV false 1 (x.cells.drop 6) = some (.lst false 5 (mp Term.cells x.rules))) ∧
    (∀ x : Recursor, loadAV true 5 (x.cells.drop 1) = some (.agg x.type.cells)) :=
  ⟨fun x => by simp only [cellsOf, Recursor.scalar, if_true],
   fun x => loadAV_all (Recursor.length x),
   fun x => by rw [Recursor.cells_eq]; rfl,
   fun x => by rw [Recursor.cells_eq]; rfl,
   fun x => by rw [Recursor.cells_eq]; rfl,
   fun x => by rw [Recursor.cells_eq]; rfl,
   fun x => by rw [Recursor.cells_eq]; rfl,
   fun x => by rw [Recursor.cells_eq]; rfl,
   fun x => by rw [Recursor.cells_eq]; rfl,
   fun x => by rw [Recursor.cells_eq]; simp only [Term.cells_eq, List.drop_succ_cons, List.drop_zero]; rfl⟩
theorem Recursor.splc (x : Recursor) (o : Nat) (xs : List AV) : splice x.cells o xs = splice [.int .i64 x.params, .int .i64 x.type.kind, .int .i64 x.type.index, .str (sb x.type.name), .lst false 2 (mp Level.cells x.type.levels), .lst false 5 (mp Term.cells x.type.kids), .lst false 5 (mp Term.cells x.rules)] o xs := by rw [Recursor.cells_eq]
theorem Recursor.splc2 (x : Recursor) (o : Nat) (c : AV) (cs : List AV) : splice (c :: cs) o x.cells = splice (c :: cs) o [.int .i64 x.params, .int .i64 x.type.kind, .int .i64 x.type.index, .str (sb x.type.name), .lst false 2 (mp Level.cells x.type.levels), .lst false 5 (mp Term.cells x.type.kids), .lst false 5 (mp Term.cells x.rules)] := by rw [Recursor.cells_eq]
theorem Recursor.app (x : Recursor) (l : List AV) : x.cells ++ l = (.int .i64 x.params : AV) :: (.int .i64 x.type.kind : AV) :: (.int .i64 x.type.index : AV) :: (.str (sb x.type.name) : AV) :: (.lst false 2 (mp Level.cells x.type.levels) : AV) :: (.lst false 5 (mp Term.cells x.type.kids) : AV) :: (.lst false 5 (mp Term.cells x.rules) : AV) :: l := by rw [Recursor.cells_eq]; rfl
theorem Recursor.cns (x : Recursor) (c : AV) : c :: x.cells = [c, .int .i64 x.params, .int .i64 x.type.kind, .int .i64 x.type.index, .str (sb x.type.name), .lst false 2 (mp Level.cells x.type.levels), .lst false 5 (mp Term.cells x.type.kids), .lst false 5 (mp Term.cells x.rules)] := by rw [Recursor.cells_eq]
attribute [go_sem] Recursor.app Recursor.cns
attribute [go_sem] Recursor.nbs Recursor.rens Recursor.frz Recursor.reads Recursor.length Recursor.scalar
attribute [go_sem low] Recursor.splc Recursor.splc2

structure Ctor where
  name : Str
  type : Term
def Ctor.cells (x : Ctor) : List AV := [.str (sb x.name)] ++ x.type.cells
theorem Ctor.cells_cat (x : Ctor) : x.cells = [.str (sb x.name)] ++ x.type.cells := rfl
theorem Ctor.cells_eq (x : Ctor) : x.cells = [.str (sb x.name), .int .i64 x.type.kind, .int .i64 x.type.index, .str (sb x.type.name), .lst false 2 (mp Level.cells x.type.levels), .lst false 5 (mp Term.cells x.type.kids)] := by
  simp only [Ctor.cells, Term.cells_eq, List.cons_append, List.nil_append, List.append_nil]
attribute [irreducible] Ctor.cells
theorem Ctor.length (x : Ctor) : x.cells.length = 6 := by rw [Ctor.cells_eq]; rfl
theorem Ctor.scalar (x : Ctor) : x.cells.all AV.scalar = true := by rw [Ctor.cells_eq]; rfl
theorem Ctor.nb (n : Nat) (x : Ctor) : nbL n x.cells := by
  rw [Ctor.cells_cat]
  exact (nbL_append ⟨trivial, trivial⟩ (Term.nb n x.type))
def Ctor.of (H : List AObj) : List AV → Option Ctor
  | [c0, c1, c2, c3, c4, c5] => (dS c0).bind fun x0 => (Term.of H [c1, c2, c3, c4, c5]).bind fun x1 => some (.mk x0 x1)
  | _ => none
theorem Ctor.of_lit {H : List AObj} {c0 c1 c2 c3 c4 c5 : AV} : Ctor.of H [c0, c1, c2, c3, c4, c5] = (dS c0).bind fun x0 => (Term.of H [c1, c2, c3, c4, c5]).bind fun x1 => some (.mk x0 x1) := rfl
theorem Ctor.of_lit_cells (H : List AObj) (x : Ctor) : Ctor.of H [.str (sb x.name), .int .i64 x.type.kind, .int .i64 x.type.index, .str (sb x.type.name), .lst false 2 (mp Level.cells x.type.levels), .lst false 5 (mp Term.cells x.type.kids)] = some x := by
  simp only [Ctor.of_lit, dI_int, dB_bool, dS_sb, bind_some', szOK, beq_self_eq_true, Bool.true_or, cond_true, dL, Term.of_lit_cells]
  try (cases x; rfl)
theorem Ctor.of_cells (H : List AObj) (x : Ctor) : Ctor.of H x.cells = some x := by rw [Ctor.cells_eq]; exact Ctor.of_lit_cells H x
theorem Ctor.of_ok {H : List AObj} {n : Nat} {cs : List AV} {x : Ctor} (h : Ctor.of H cs = some x) : CoL1 H n cs x.cells := by
  unfold Ctor.of at h
  split at h
  · simp only [Option.bind_eq_some_iff, Option.some.injEq] at h
    obtain ⟨x0, h0, x1, h1, rfl⟩ := h
    rw [Ctor.cells_cat]
    exact (CoL1.append (CoL1.cons (dS_ok h0) CoL1.nil) (Term.of_ok h1))
  · cases h
def Ctor.cel : Cel Ctor := ⟨Ctor.cells, Ctor.of, fun _ _ _ _ h => Ctor.of_ok h, Ctor.nb⟩
def Ctor.row : Row Ctor := ⟨Ctor.cells, Ctor.of [], 6, fun _ _ h => (Ctor.of_ok (n := 0) h).toSub, Ctor.nb⟩
theorem Ctor.mapO_cells (xs : List Ctor) : mapO (Ctor.of []) (mp Ctor.cells xs) = some xs := mapO_mp (Ctor.of_cells []) xs
theorem Ctor.mapO_set (xs : List Ctor) (i : Nat) (r : List AV) : mapO (Ctor.of []) ((mp Ctor.cells xs).set i r) = bif decide (i < xs.length) then (Ctor.of [] r).bind fun y => some (xs.set i y) else some xs := Go.Abs.mapO_set (Ctor.of_cells []) xs i r
attribute [go_sem low] Ctor.mapO_set
theorem Ctor.row_f : Ctor.row.enc = Ctor.cells ∧ Ctor.row.dec = Ctor.of [] ∧ Ctor.row.sz = 6 ∧ Ctor.cel.enc = Ctor.cells ∧ Ctor.cel.dec = Ctor.of := ⟨rfl, rfl, rfl, rfl, rfl⟩
theorem Ctor.eta (x : Ctor) : Ctor.mk x.name x.type = x := by cases x; rfl
attribute [go_sem] Ctor.of_lit Ctor.of_cells Ctor.mapO_cells Ctor.row_f Ctor.eta
theorem Ctor.prj : (∀ (y0 : Str) (y1 : Term), (Ctor.mk y0 y1).name = y0) ∧ (∀ (y0 : Str) (y1 : Term), (Ctor.mk y0 y1).type = y1) := ⟨fun _ _ => rfl, fun _ _ => rfl⟩
attribute [go_sem] Ctor.prj
theorem Ctor.nbs : (∀ (n : Nat) (x : Ctor), Go.Abs.nbL n x.cells = True) ∧ ∀ (n : Nat) (xs : List Ctor), Go.Abs.nbR n (mp Ctor.cells xs) = True := ⟨fun n x => eq_true (Ctor.nb n x), fun n xs => eq_true (nbR_map (Ctor.nb n) xs)⟩
theorem Ctor.rens : (∀ (ρ : Nat → Nat) (x : Ctor), renL ρ x.cells = x.cells) ∧ ∀ (ρ : Nat → Nat) (xs : List Ctor), renR ρ (mp Ctor.cells xs) = mp Ctor.cells xs := ⟨fun ρ x => renL_of_nb ρ _ (Ctor.nb 0 x), fun ρ xs => renR_of_nb ρ _ (nbR_map (Ctor.nb 0) xs)⟩
theorem Ctor.vw (H : List AObj) (x : Ctor) : vwL H x.cells = some (x.cells, []) := vwL_of_nb H _ (Ctor.nb 0 x)
attribute [go_sem] Ctor.vw
theorem Ctor.frz (low : Nat) (H : List AObj) (x : Ctor) : frzL low H x.cells = x.cells := frzL_of_nb low H _ (Ctor.nb 0 x)
theorem Ctor.rpv (l : Nat) (ds : List AV) (x : Ctor) : x.cells.map (rpV l ds) = x.cells := rpVL_of_nb _ (Ctor.nb 0 x)
attribute [go_sem] Ctor.rpv
theorem Ctor.tk : (∀ x : Ctor, List.take 6 x.cells = x.cells) ∧ ∀ x : Ctor, List.drop 6 x.cells = [] := ⟨fun x => by rw [Ctor.cells_eq]; rfl, fun x => by rw [Ctor.cells_eq]; rfl⟩
attribute [go_sem] Ctor.tk
theorem Ctor.arr : (∀ (m i : Nat) (v : Tup Ctor m), chunkA 6 i (tupEnc Ctor.cells m v) = ((tupList m v)[i]?).bind fun y => some (Ctor.cells y)) ∧ (∀ (H : List AObj) (m : Nat) (v : Tup Ctor m), tupDec (Ctor.of H) 6 m (tupEnc Ctor.cells m v) = some v) ∧ (∀ (m : Nat) (v : Tup Ctor m), (tupEnc Ctor.cells m v).length = m * 6) ∧ (∀ (ρ : Nat → Nat) (m : Nat) (v : Tup Ctor m), renL ρ (tupEnc Ctor.cells m v) = tupEnc Ctor.cells m v) ∧ (∀ (N m : Nat) (v : Tup Ctor m), nbL N (tupEnc Ctor.cells m v) = True) ∧ (∀ (l : Nat) (cs : List AV) (m : Nat) (v : Tup Ctor m), (tupEnc Ctor.cells m v).map (rp1 l cs) = tupEnc Ctor.cells m v) ∧ (∀ (l : Nat) (cs : List AV) (m : Nat) (v : Tup Ctor m), (tupEnc Ctor.cells m v).map (rpV l cs) = tupEnc Ctor.cells m v) ∧ (∀ (m : Nat) (v : Tup Ctor m), cellsOf (.agg (tupEnc Ctor.cells m v)) = some (tupEnc Ctor.cells m v)) := ⟨fun m i v => (chunkA_enc Ctor.length (by decide) m i v).trans (by cases (tupList m v)[i]? <;> rfl), fun H m v => tupDec_enc Ctor.length (Ctor.of_cells H) m v, fun m v => tupEnc_len Ctor.length m v, fun ρ m v => renL_of_nb ρ _ (tupNb Ctor.nb 0 m v), fun N m v => eq_true (tupNb Ctor.nb N m v), fun l cs m v => rp1L_of_nb _ (tupNb Ctor.nb 0 m v), fun l cs m v => rpVL_of_nb _ (tupNb Ctor.nb 0 m v), fun m v => tupCells Ctor.scalar m v⟩
attribute [go_sem high] Ctor.arr
theorem Ctor.reads :
    (∀ x : Ctor, cellsOf (.agg x.cells) = some x.cells) ∧
    (∀ x : Ctor, loadAV true 6 x.cells = some (.agg x.cells)) ∧
    (∀ x : Ctor, loadAV false 1 x.cells = some (.str (sb x.name))) ∧
    (∀ x : Ctor, loadAV false 1 (x.cells.drop 1) = some (.int .i64 x.type.kind)) ∧
    (∀ x : Ctor, loadAV false 1 (x.cells.drop 2) = some (.int .i64 x.type.index)) ∧
    (∀ x : Ctor, loadAV false 1 (x.cells.drop 3) = some (.str (sb x.type.name))) ∧
    (∀ x : Ctor, loadAV false 1 (x.cells.drop 4) = some (.lst false 2 (mp Level.cells x.type.levels))) ∧
    (∀ x : Ctor, loadAV false 1 (x.cells.drop 5) = some (.lst false 5 (mp Term.cells x.type.kids))) ∧
    (∀ x : Ctor, loadAV true 5 (x.cells.drop 1) = some (.agg x.type.cells)) :=
  ⟨fun x => by simp only [cellsOf, Ctor.scalar, if_true],
   fun x => loadAV_all (Ctor.length x),
   fun x => by rw [Ctor.cells_eq]; rfl,
   fun x => by rw [Ctor.cells_eq]; rfl,
   fun x => by rw [Ctor.cells_eq]; rfl,
   fun x => by rw [Ctor.cells_eq]; rfl,
   fun x => by rw [Ctor.cells_eq]; rfl,
   fun x => by rw [Ctor.cells_eq]; rfl,
   fun x => by rw [Ctor.cells_eq]; simp only [Term.cells_eq, List.drop_succ_cons, List.drop_zero]; rfl⟩
theorem Ctor.splc (x : Ctor) (o : Nat) (xs : List AV) : splice x.cells o xs = splice [.str (sb x.name), .int .i64 x.type.kind, .int .i64 x.type.index, .str (sb x.type.name), .lst false 2 (mp Level.cells x.type.levels), .lst false 5 (mp Term.cells x.type.kids)] o xs := by rw [Ctor.cells_eq]
theorem Ctor.splc2 (x : Ctor) (o : Nat) (c : AV) (cs : List AV) : splice (c :: cs) o x.cells = splice (c :: cs) o [.str (sb x.name), .int .i64 x.type.kind, .int .i64 x.type.index, .str (sb x.type.name), .lst false 2 (mp Level.cells x.type.levels), .lst false 5 (mp Term.cells x.type.kids)] := by rw [Ctor.cells_eq]
theorem Ctor.app (x : Ctor) (l : List AV) : x.cells ++ l = (.str (sb x.name) : AV) :: (.int .i64 x.type.kind : AV) :: (.int .i64 x.type.index : AV) :: (.str (sb x.type.name) : AV) :: (.lst false 2 (mp Level.cells x.type.levels) : AV) :: (.lst false 5 (mp Term.cells x.type.kids) : AV) :: l := by rw [Ctor.cells_eq]; rfl
theorem Ctor.cns (x : Ctor) (c : AV) : c :: x.cells = [c, .str (sb x.name), .int .i64 x.type.kind, .int .i64 x.type.index, .str (sb x.type.name), .lst false 2 (mp Level.cells x.type.levels), .lst false 5 (mp Term.cells x.type.kids)] := by rw [Ctor.cells_eq]
attribute [go_sem] Ctor.app Ctor.cns
attribute [go_sem] Ctor.nbs Ctor.rens Ctor.frz Ctor.reads Ctor.length Ctor.scalar
attribute [go_sem low] Ctor.splc Ctor.splc2

mutual
inductive Tree where
  | mk (kind : Int) (body : Term) (var : Int) (branches : List Branch)
inductive Branch where
  | mk (ctor : Str) (isAbsurd : Bool) (tree : Tree)
end
def Tree.kind : Tree → Int | .mk x _ _ _ => x
def Tree.body : Tree → Term | .mk _ x _ _ => x
def Tree.var : Tree → Int | .mk _ _ x _ => x
def Tree.branches : Tree → List Branch | .mk _ _ _ x => x
def Branch.ctor : Branch → Str | .mk x _ _ => x
def Branch.isAbsurd : Branch → Bool | .mk _ x _ => x
def Branch.tree : Branch → Tree | .mk _ _ x => x
mutual
def Tree.cells : Tree → List AV
  | .mk kind body var branches => [.int .i64 kind] ++ body.cells ++ [.int .i64 var, .lst false 10 (Branch.cellsL branches)]
def Branch.cells : Branch → List AV
  | .mk ctor isAbsurd tree => [.str (sb ctor), .bool isAbsurd] ++ tree.cells
def Branch.cellsL : List Branch → List (List AV)
  | [] => []
  | t :: ts => t.cells :: Branch.cellsL ts
end
theorem Branch.cellsL_eq : ∀ ts : List Branch, Branch.cellsL ts = mp Branch.cells ts
  | [] => by rw [mp_eq]; rfl
  | t :: ts => by rw [Branch.cellsL, Branch.cellsL_eq ts, mp_eq, mp_eq]; rfl
theorem Tree.cells_cat (x : Tree) : x.cells = [.int .i64 x.kind] ++ x.body.cells ++ [.int .i64 x.var, .lst false 10 (mp Branch.cells x.branches)] := by
  cases x
  simp only [Tree.cells, Branch.cellsL_eq]
  rfl
theorem Branch.cells_cat (x : Branch) : x.cells = [.str (sb x.ctor), .bool x.isAbsurd] ++ x.tree.cells := by
  cases x
  simp only [Branch.cells]
  rfl
theorem Tree.cells_eq (x : Tree) : x.cells = [.int .i64 x.kind, .int .i64 x.body.kind, .int .i64 x.body.index, .str (sb x.body.name), .lst false 2 (mp Level.cells x.body.levels), .lst false 5 (mp Term.cells x.body.kids), .int .i64 x.var, .lst false 10 (mp Branch.cells x.branches)] := by
  cases x
  simp only [Tree.cells, Term.cells_eq, Branch.cellsL_eq, List.cons_append, List.nil_append, List.append_nil]
  rfl
theorem Branch.cells_eq (x : Branch) : x.cells = [.str (sb x.ctor), .bool x.isAbsurd, .int .i64 x.tree.kind, .int .i64 x.tree.body.kind, .int .i64 x.tree.body.index, .str (sb x.tree.body.name), .lst false 2 (mp Level.cells x.tree.body.levels), .lst false 5 (mp Term.cells x.tree.body.kids), .int .i64 x.tree.var, .lst false 10 (mp Branch.cells x.tree.branches)] := by
  cases x
  simp only [Branch.cells, Tree.cells_eq, List.cons_append, List.nil_append, List.append_nil]
  rfl
attribute [irreducible] Tree.cells
attribute [irreducible] Branch.cells
theorem Tree.length (x : Tree) : x.cells.length = 8 := by rw [Tree.cells_eq]; rfl
theorem Tree.scalar (x : Tree) : x.cells.all AV.scalar = true := by rw [Tree.cells_eq]; rfl
theorem Branch.length (x : Branch) : x.cells.length = 10 := by rw [Branch.cells_eq]; rfl
theorem Branch.scalar (x : Branch) : x.cells.all AV.scalar = true := by rw [Branch.cells_eq]; rfl
mutual
theorem Tree.nb (n : Nat) : ∀ x : Tree, nbL n x.cells
  | .mk kind body var branches => by
    rw [Tree.cells_cat]
    exact (nbL_append (nbL_append ⟨trivial, trivial⟩ (Term.nb n body)) ⟨trivial, Branch.nbR n branches, trivial⟩)
theorem Branch.nb (n : Nat) : ∀ x : Branch, nbL n x.cells
  | .mk ctor isAbsurd tree => by
    rw [Branch.cells_cat]
    exact (nbL_append ⟨trivial, trivial, trivial⟩ (Tree.nb n tree))
theorem Branch.nbR (n : Nat) : ∀ ts : List Branch, nbR n (mp Branch.cells ts)
  | [] => by rw [mp_eq]; trivial
  | t :: ts => by have := Branch.nbR n ts; rw [mp_eq] at this ⊢; exact ⟨Branch.nb n t, this⟩
end
mutual
def Tree.of0 : List AV → Option Tree
  | [c0, c1, c2, c3, c4, c5, c6, .lst _ z7 r7] => (dI .i64 c0).bind fun x0 => (Term.of [] [c1, c2, c3, c4, c5]).bind fun x1 => (dI .i64 c6).bind fun x2 => (bif szOK z7 10 r7 then Branch.ofR r7 else none).bind fun x3 => some (.mk x0 x1 x2 x3)
  | _ => none
def Branch.of0 : List AV → Option Branch
  | c0 :: c1 :: rest => (dS c0).bind fun x0 => (dB c1).bind fun x1 => (Tree.of0 rest).bind fun x2 => some (.mk x0 x1 x2)
  | _ => none
def Branch.ofR : List (List AV) → Option (List Branch)
  | [] => some []
  | r :: rs => (Branch.of0 r).bind fun x => (Branch.ofR rs).bind fun xs => some (x :: xs)
end
theorem Branch.ofR_eq : ∀ rs, Branch.ofR rs = mapO Branch.of0 rs
  | [] => by simp only [Branch.ofR, mapO]
  | r :: rs => by simp only [Branch.ofR, mapO, Branch.ofR_eq rs]
mutual
theorem Tree.of0_cells : ∀ x : Tree, Tree.of0 x.cells = some x
  | .mk kind body var branches => by
    rw [Tree.cells_eq]
    show Tree.of0 [.int .i64 kind, .int .i64 body.kind, .int .i64 body.index, .str (sb body.name), .lst false 2 (mp Level.cells body.levels), .lst false 5 (mp Term.cells body.kids), .int .i64 var, .lst false 10 (mp Branch.cells branches)] = _
    simp only [Tree.of0, dI_int, dB_bool, dS_sb, bind_some', szOK, beq_self_eq_true, Bool.true_or, cond_true, dL, Branch.ofR_cells branches, Term.of_lit_cells]
theorem Branch.of0_cells : ∀ x : Branch, Branch.of0 x.cells = some x
  | .mk ctor isAbsurd tree => by
    have e : Branch.cells (.mk ctor isAbsurd tree) = (AV.str (sb ctor) : AV) :: (.bool isAbsurd) :: tree.cells := by rw [Branch.cells_cat]; rfl
    rw [e]
    simp only [Branch.of0, Tree.of0_cells tree, dI_int, dB_bool, dS_sb, bind_some']
theorem Branch.ofR_cells : ∀ xs : List Branch, Branch.ofR (mp Branch.cells xs) = some xs
  | [] => by rw [mp_eq]; simp only [List.map_nil, Branch.ofR]
  | x :: xs => by have h := Branch.ofR_cells xs; rw [mp_eq] at h ⊢; simp only [List.map_cons, Branch.ofR, Branch.of0_cells x, h, bind_some']
end
mutual
theorem Tree.of0_ok : ∀ (x : Tree) (r : List AV), Tree.of0 r = some x → SubE r x.cells
  | .mk kind body var branches, r, h => by
    unfold Tree.of0 at h
    split at h
    · simp only [Option.bind_eq_some_iff, Option.some.injEq, Tree.mk.injEq] at h
      obtain ⟨x0, h0, x1, h1, x2, h2, x3, h3, e0, e1, e2, e3⟩ := h
      rw [e0] at h0
      rw [e1] at h1
      rw [e2] at h2
      rw [e3] at h3
      rw [Tree.cells_cat]
      exact (SubE.append (SubE.append (SubE.cons ((dI_ok (H := []) (n := 0) h0).toSub) SubE.nil) ((Term.of_ok (n := 0) h1).toSub)) (SubE.cons ((dI_ok (H := []) (n := 0) h2).toSub) (SubE.cons (lst_of (Branch.ofR_ok branches _) h3) SubE.nil)))
    · cases h
theorem Branch.of0_ok : ∀ (x : Branch) (r : List AV), Branch.of0 r = some x → SubE r x.cells
  | .mk ctor isAbsurd tree, r, h => by
    unfold Branch.of0 at h
    split at h
    · simp only [Option.bind_eq_some_iff, Option.some.injEq, Branch.mk.injEq] at h
      obtain ⟨x0, h0, x1, h1, x2, h2, e0, e1, e2⟩ := h
      rw [e0] at h0
      rw [e1] at h1
      rw [e2] at h2
      rw [Branch.cells_cat]
      exact (SubE.append (SubE.cons ((dS_ok (H := []) (n := 0) h0).toSub) (SubE.cons ((dB_ok (H := []) (n := 0) h1).toSub) SubE.nil)) (Tree.of0_ok tree _ h2))
    · cases h
theorem Branch.ofR_ok : ∀ (xs : List Branch) (rs : List (List AV)), Branch.ofR rs = some xs → SubR rs (mp Branch.cells xs)
  | [], rs, h => by
    cases rs with
    | nil => rw [mp_eq]; exact SubR.nil
    | cons r rs =>
      simp only [Branch.ofR, Option.bind_eq_some_iff, Option.some.injEq] at h
      obtain ⟨_, _, _, _, h⟩ := h
      cases h
  | x :: xs, rs, h => by
    cases rs with
    | nil => simp only [Branch.ofR, Option.some.injEq] at h; cases h
    | cons r rs =>
      simp only [Branch.ofR, Option.bind_eq_some_iff, Option.some.injEq, List.cons.injEq] at h
      obtain ⟨_, hx, _, hys, rfl, rfl⟩ := h
      have h2 := Branch.ofR_ok _ rs hys
      rw [mp_eq] at h2 ⊢
      exact SubR.cons (Branch.of0_ok _ r hx).subM h2
end
def Tree.row : Row Tree := ⟨Tree.cells, Tree.of0, 8, fun r x h => Tree.of0_ok x r h, Tree.nb⟩
theorem Tree.mapO_cells (xs : List Tree) : mapO Tree.of0 (mp Tree.cells xs) = some xs := mapO_mp Tree.of0_cells xs
theorem Tree.mapO_set (xs : List Tree) (i : Nat) (r : List AV) : mapO Tree.of0 ((mp Tree.cells xs).set i r) = bif decide (i < xs.length) then (Tree.of0 r).bind fun y => some (xs.set i y) else some xs := Go.Abs.mapO_set Tree.of0_cells xs i r
attribute [go_sem low] Tree.mapO_set
def Branch.row : Row Branch := ⟨Branch.cells, Branch.of0, 10, fun r x h => Branch.of0_ok x r h, Branch.nb⟩
theorem Branch.mapO_cells (xs : List Branch) : mapO Branch.of0 (mp Branch.cells xs) = some xs := mapO_mp Branch.of0_cells xs
theorem Branch.mapO_set (xs : List Branch) (i : Nat) (r : List AV) : mapO Branch.of0 ((mp Branch.cells xs).set i r) = bif decide (i < xs.length) then (Branch.of0 r).bind fun y => some (xs.set i y) else some xs := Go.Abs.mapO_set Branch.of0_cells xs i r
attribute [go_sem low] Branch.mapO_set
def Tree.of (H : List AObj) : List AV → Option Tree
  | [c0, c1, c2, c3, c4, c5, c6, c7] => (dI .i64 c0).bind fun x0 => (Term.of H [c1, c2, c3, c4, c5]).bind fun x1 => (dI .i64 c6).bind fun x2 => (dL Branch.row H c7).bind fun x3 => some (.mk x0 x1 x2 x3)
  | _ => none
theorem Tree.of_lit {H : List AObj} {c0 c1 c2 c3 c4 c5 c6 c7 : AV} : Tree.of H [c0, c1, c2, c3, c4, c5, c6, c7] = (dI .i64 c0).bind fun x0 => (Term.of H [c1, c2, c3, c4, c5]).bind fun x1 => (dI .i64 c6).bind fun x2 => (dL Branch.row H c7).bind fun x3 => some (.mk x0 x1 x2 x3) := rfl
theorem Tree.of_lit_cells (H : List AObj) (x : Tree) : Tree.of H [.int .i64 x.kind, .int .i64 x.body.kind, .int .i64 x.body.index, .str (sb x.body.name), .lst false 2 (mp Level.cells x.body.levels), .lst false 5 (mp Term.cells x.body.kids), .int .i64 x.var, .lst false 10 (mp Branch.cells x.branches)] = some x := by
  simp only [Tree.of_lit, dI_int, dB_bool, dS_sb, bind_some', szOK, beq_self_eq_true, Bool.true_or, cond_true, dL, Branch.mapO_cells, Branch.row, Term.of_lit_cells]
  try (cases x; rfl)
theorem Tree.of_cells (H : List AObj) (x : Tree) : Tree.of H x.cells = some x := by rw [Tree.cells_eq]; exact Tree.of_lit_cells H x
theorem Tree.of_ok {H : List AObj} {n : Nat} {cs : List AV} {x : Tree} (h : Tree.of H cs = some x) : CoL1 H n cs x.cells := by
  unfold Tree.of at h
  split at h
  · simp only [Option.bind_eq_some_iff, Option.some.injEq] at h
    obtain ⟨x0, h0, x1, h1, x2, h2, x3, h3, rfl⟩ := h
    rw [Tree.cells_cat]
    exact (CoL1.append (CoL1.append (CoL1.cons (dI_ok h0) CoL1.nil) (Term.of_ok h1)) (CoL1.cons (dI_ok h2) (CoL1.cons (dL_ok h3) CoL1.nil)))
  · cases h
def Tree.cel : Cel Tree := ⟨Tree.cells, Tree.of, fun _ _ _ _ h => Tree.of_ok h, Tree.nb⟩
theorem Tree.row_f : Tree.row.enc = Tree.cells ∧ Tree.row.dec = Tree.of0 ∧ Tree.row.sz = 8 ∧ Tree.cel.enc = Tree.cells ∧ Tree.cel.dec = Tree.of := ⟨rfl, rfl, rfl, rfl, rfl⟩
theorem Tree.eta (x : Tree) : Tree.mk x.kind x.body x.var x.branches = x := by cases x; rfl
attribute [go_sem] Tree.of_lit Tree.of_cells Tree.mapO_cells Tree.row_f Tree.eta
attribute [go_sem] Tree.of0 Tree.of0_cells
theorem Tree.prj : (∀ (y0 : Int) (y1 : Term) (y2 : Int) (y3 : List Branch), (Tree.mk y0 y1 y2 y3).kind = y0) ∧ (∀ (y0 : Int) (y1 : Term) (y2 : Int) (y3 : List Branch), (Tree.mk y0 y1 y2 y3).body = y1) ∧ (∀ (y0 : Int) (y1 : Term) (y2 : Int) (y3 : List Branch), (Tree.mk y0 y1 y2 y3).var = y2) ∧ (∀ (y0 : Int) (y1 : Term) (y2 : Int) (y3 : List Branch), (Tree.mk y0 y1 y2 y3).branches = y3) := ⟨fun _ _ _ _ => rfl, fun _ _ _ _ => rfl, fun _ _ _ _ => rfl, fun _ _ _ _ => rfl⟩
attribute [go_sem] Tree.prj
def Branch.of (H : List AObj) : List AV → Option Branch
  | [c0, c1, c2, c3, c4, c5, c6, c7, c8, c9] => (dS c0).bind fun x0 => (dB c1).bind fun x1 => (Tree.of H [c2, c3, c4, c5, c6, c7, c8, c9]).bind fun x2 => some (.mk x0 x1 x2)
  | _ => none
theorem Branch.of_lit {H : List AObj} {c0 c1 c2 c3 c4 c5 c6 c7 c8 c9 : AV} : Branch.of H [c0, c1, c2, c3, c4, c5, c6, c7, c8, c9] = (dS c0).bind fun x0 => (dB c1).bind fun x1 => (Tree.of H [c2, c3, c4, c5, c6, c7, c8, c9]).bind fun x2 => some (.mk x0 x1 x2) := rfl
theorem Branch.of_lit_cells (H : List AObj) (x : Branch) : Branch.of H [.str (sb x.ctor), .bool x.isAbsurd, .int .i64 x.tree.kind, .int .i64 x.tree.body.kind, .int .i64 x.tree.body.index, .str (sb x.tree.body.name), .lst false 2 (mp Level.cells x.tree.body.levels), .lst false 5 (mp Term.cells x.tree.body.kids), .int .i64 x.tree.var, .lst false 10 (mp Branch.cells x.tree.branches)] = some x := by
  simp only [Branch.of_lit, dI_int, dB_bool, dS_sb, bind_some', szOK, beq_self_eq_true, Bool.true_or, cond_true, dL, Tree.of_lit_cells]
  try (cases x; rfl)
theorem Branch.of_cells (H : List AObj) (x : Branch) : Branch.of H x.cells = some x := by rw [Branch.cells_eq]; exact Branch.of_lit_cells H x
theorem Branch.of_ok {H : List AObj} {n : Nat} {cs : List AV} {x : Branch} (h : Branch.of H cs = some x) : CoL1 H n cs x.cells := by
  unfold Branch.of at h
  split at h
  · simp only [Option.bind_eq_some_iff, Option.some.injEq] at h
    obtain ⟨x0, h0, x1, h1, x2, h2, rfl⟩ := h
    rw [Branch.cells_cat]
    exact (CoL1.append (CoL1.cons (dS_ok h0) (CoL1.cons (dB_ok h1) CoL1.nil)) (Tree.of_ok h2))
  · cases h
def Branch.cel : Cel Branch := ⟨Branch.cells, Branch.of, fun _ _ _ _ h => Branch.of_ok h, Branch.nb⟩
theorem Branch.row_f : Branch.row.enc = Branch.cells ∧ Branch.row.dec = Branch.of0 ∧ Branch.row.sz = 10 ∧ Branch.cel.enc = Branch.cells ∧ Branch.cel.dec = Branch.of := ⟨rfl, rfl, rfl, rfl, rfl⟩
theorem Branch.eta (x : Branch) : Branch.mk x.ctor x.isAbsurd x.tree = x := by cases x; rfl
attribute [go_sem] Branch.of_lit Branch.of_cells Branch.mapO_cells Branch.row_f Branch.eta
attribute [go_sem] Branch.of0 Branch.of0_cells
attribute [go_sem] Branch.ofR_eq
theorem Branch.prj : (∀ (y0 : Str) (y1 : Bool) (y2 : Tree), (Branch.mk y0 y1 y2).ctor = y0) ∧ (∀ (y0 : Str) (y1 : Bool) (y2 : Tree), (Branch.mk y0 y1 y2).isAbsurd = y1) ∧ (∀ (y0 : Str) (y1 : Bool) (y2 : Tree), (Branch.mk y0 y1 y2).tree = y2) := ⟨fun _ _ _ => rfl, fun _ _ _ => rfl, fun _ _ _ => rfl⟩
attribute [go_sem] Branch.prj
theorem Tree.nbs : (∀ (n : Nat) (x : Tree), Go.Abs.nbL n x.cells = True) ∧ ∀ (n : Nat) (xs : List Tree), Go.Abs.nbR n (mp Tree.cells xs) = True := ⟨fun n x => eq_true (Tree.nb n x), fun n xs => eq_true (nbR_map (Tree.nb n) xs)⟩
theorem Tree.rens : (∀ (ρ : Nat → Nat) (x : Tree), renL ρ x.cells = x.cells) ∧ ∀ (ρ : Nat → Nat) (xs : List Tree), renR ρ (mp Tree.cells xs) = mp Tree.cells xs := ⟨fun ρ x => renL_of_nb ρ _ (Tree.nb 0 x), fun ρ xs => renR_of_nb ρ _ (nbR_map (Tree.nb 0) xs)⟩
theorem Tree.vw (H : List AObj) (x : Tree) : vwL H x.cells = some (x.cells, []) := vwL_of_nb H _ (Tree.nb 0 x)
attribute [go_sem] Tree.vw
theorem Tree.frz (low : Nat) (H : List AObj) (x : Tree) : frzL low H x.cells = x.cells := frzL_of_nb low H _ (Tree.nb 0 x)
theorem Tree.rpv (l : Nat) (ds : List AV) (x : Tree) : x.cells.map (rpV l ds) = x.cells := rpVL_of_nb _ (Tree.nb 0 x)
attribute [go_sem] Tree.rpv
theorem Tree.tk : (∀ x : Tree, List.take 8 x.cells = x.cells) ∧ ∀ x : Tree, List.drop 8 x.cells = [] := ⟨fun x => by rw [Tree.cells_eq]; rfl, fun x => by rw [Tree.cells_eq]; rfl⟩
attribute [go_sem] Tree.tk
theorem Tree.arr : (∀ (m i : Nat) (v : Tup Tree m), chunkA 8 i (tupEnc Tree.cells m v) = ((tupList m v)[i]?).bind fun y => some (Tree.cells y)) ∧ (∀ (H : List AObj) (m : Nat) (v : Tup Tree m), tupDec (Tree.of H) 8 m (tupEnc Tree.cells m v) = some v) ∧ (∀ (m : Nat) (v : Tup Tree m), (tupEnc Tree.cells m v).length = m * 8) ∧ (∀ (ρ : Nat → Nat) (m : Nat) (v : Tup Tree m), renL ρ (tupEnc Tree.cells m v) = tupEnc Tree.cells m v) ∧ (∀ (N m : Nat) (v : Tup Tree m), nbL N (tupEnc Tree.cells m v) = True) ∧ (∀ (l : Nat) (cs : List AV) (m : Nat) (v : Tup Tree m), (tupEnc Tree.cells m v).map (rp1 l cs) = tupEnc Tree.cells m v) ∧ (∀ (l : Nat) (cs : List AV) (m : Nat) (v : Tup Tree m), (tupEnc Tree.cells m v).map (rpV l cs) = tupEnc Tree.cells m v) ∧ (∀ (m : Nat) (v : Tup Tree m), cellsOf (.agg (tupEnc Tree.cells m v)) = some (tupEnc Tree.cells m v)) := ⟨fun m i v => (chunkA_enc Tree.length (by decide) m i v).trans (by cases (tupList m v)[i]? <;> rfl), fun H m v => tupDec_enc Tree.length (Tree.of_cells H) m v, fun m v => tupEnc_len Tree.length m v, fun ρ m v => renL_of_nb ρ _ (tupNb Tree.nb 0 m v), fun N m v => eq_true (tupNb Tree.nb N m v), fun l cs m v => rp1L_of_nb _ (tupNb Tree.nb 0 m v), fun l cs m v => rpVL_of_nb _ (tupNb Tree.nb 0 m v), fun m v => tupCells Tree.scalar m v⟩
attribute [go_sem high] Tree.arr
theorem Tree.reads :
    (∀ x : Tree, cellsOf (.agg x.cells) = some x.cells) ∧
    (∀ x : Tree, loadAV true 8 x.cells = some (.agg x.cells)) ∧
    (∀ x : Tree, loadAV false 1 x.cells = some (.int .i64 x.kind)) ∧
    (∀ x : Tree, loadAV false 1 (x.cells.drop 1) = some (.int .i64 x.body.kind)) ∧
    (∀ x : Tree, loadAV false 1 (x.cells.drop 2) = some (.int .i64 x.body.index)) ∧
    (∀ x : Tree, loadAV false 1 (x.cells.drop 3) = some (.str (sb x.body.name))) ∧
    (∀ x : Tree, loadAV false 1 (x.cells.drop 4) = some (.lst false 2 (mp Level.cells x.body.levels))) ∧
    (∀ x : Tree, loadAV false 1 (x.cells.drop 5) = some (.lst false 5 (mp Term.cells x.body.kids))) ∧
    (∀ x : Tree, loadAV false 1 (x.cells.drop 6) = some (.int .i64 x.var)) ∧
    (∀ x : Tree, loadAV false 1 (x.cells.drop 7) = some (.lst false 10 (mp Branch.cells x.branches))) ∧
    (∀ x : Tree, loadAV true 5 (x.cells.drop 1) = some (.agg x.body.cells)) :=
  ⟨fun x => by simp only [cellsOf, Tree.scalar, if_true],
   fun x => loadAV_all (Tree.length x),
   fun x => by rw [Tree.cells_eq]; rfl,
   fun x => by rw [Tree.cells_eq]; rfl,
   fun x => by rw [Tree.cells_eq]; rfl,
   fun x => by rw [Tree.cells_eq]; rfl,
   fun x => by rw [Tree.cells_eq]; rfl,
   fun x => by rw [Tree.cells_eq]; rfl,
   fun x => by rw [Tree.cells_eq]; rfl,
   fun x => by rw [Tree.cells_eq]; rfl,
   fun x => by rw [Tree.cells_eq]; simp only [Term.cells_eq, List.drop_succ_cons, List.drop_zero]; rfl⟩
theorem Tree.splc (x : Tree) (o : Nat) (xs : List AV) : splice x.cells o xs = splice [.int .i64 x.kind, .int .i64 x.body.kind, .int .i64 x.body.index, .str (sb x.body.name), .lst false 2 (mp Level.cells x.body.levels), .lst false 5 (mp Term.cells x.body.kids), .int .i64 x.var, .lst false 10 (mp Branch.cells x.branches)] o xs := by rw [Tree.cells_eq]
theorem Tree.splc2 (x : Tree) (o : Nat) (c : AV) (cs : List AV) : splice (c :: cs) o x.cells = splice (c :: cs) o [.int .i64 x.kind, .int .i64 x.body.kind, .int .i64 x.body.index, .str (sb x.body.name), .lst false 2 (mp Level.cells x.body.levels), .lst false 5 (mp Term.cells x.body.kids), .int .i64 x.var, .lst false 10 (mp Branch.cells x.branches)] := by rw [Tree.cells_eq]
theorem Tree.app (x : Tree) (l : List AV) : x.cells ++ l = (.int .i64 x.kind : AV) :: (.int .i64 x.body.kind : AV) :: (.int .i64 x.body.index : AV) :: (.str (sb x.body.name) : AV) :: (.lst false 2 (mp Level.cells x.body.levels) : AV) :: (.lst false 5 (mp Term.cells x.body.kids) : AV) :: (.int .i64 x.var : AV) :: (.lst false 10 (mp Branch.cells x.branches) : AV) :: l := by rw [Tree.cells_eq]; rfl
theorem Tree.cns (x : Tree) (c : AV) : c :: x.cells = [c, .int .i64 x.kind, .int .i64 x.body.kind, .int .i64 x.body.index, .str (sb x.body.name), .lst false 2 (mp Level.cells x.body.levels), .lst false 5 (mp Term.cells x.body.kids), .int .i64 x.var, .lst false 10 (mp Branch.cells x.branches)] := by rw [Tree.cells_eq]
attribute [go_sem] Tree.app Tree.cns
attribute [go_sem] Tree.nbs Tree.rens Tree.frz Tree.reads Tree.length Tree.scalar
attribute [go_sem low] Tree.splc Tree.splc2
theorem Branch.nbs : (∀ (n : Nat) (x : Branch), Go.Abs.nbL n x.cells = True) ∧ ∀ (n : Nat) (xs : List Branch), Go.Abs.nbR n (mp Branch.cells xs) = True := ⟨fun n x => eq_true (Branch.nb n x), fun n xs => eq_true (nbR_map (Branch.nb n) xs)⟩
theorem Branch.rens : (∀ (ρ : Nat → Nat) (x : Branch), renL ρ x.cells = x.cells) ∧ ∀ (ρ : Nat → Nat) (xs : List Branch), renR ρ (mp Branch.cells xs) = mp Branch.cells xs := ⟨fun ρ x => renL_of_nb ρ _ (Branch.nb 0 x), fun ρ xs => renR_of_nb ρ _ (nbR_map (Branch.nb 0) xs)⟩
theorem Branch.vw (H : List AObj) (x : Branch) : vwL H x.cells = some (x.cells, []) := vwL_of_nb H _ (Branch.nb 0 x)
attribute [go_sem] Branch.vw
theorem Branch.frz (low : Nat) (H : List AObj) (x : Branch) : frzL low H x.cells = x.cells := frzL_of_nb low H _ (Branch.nb 0 x)
theorem Branch.rpv (l : Nat) (ds : List AV) (x : Branch) : x.cells.map (rpV l ds) = x.cells := rpVL_of_nb _ (Branch.nb 0 x)
attribute [go_sem] Branch.rpv
theorem Branch.tk : (∀ x : Branch, List.take 10 x.cells = x.cells) ∧ ∀ x : Branch, List.drop 10 x.cells = [] := ⟨fun x => by rw [Branch.cells_eq]; rfl, fun x => by rw [Branch.cells_eq]; rfl⟩
attribute [go_sem] Branch.tk
theorem Branch.arr : (∀ (m i : Nat) (v : Tup Branch m), chunkA 10 i (tupEnc Branch.cells m v) = ((tupList m v)[i]?).bind fun y => some (Branch.cells y)) ∧ (∀ (H : List AObj) (m : Nat) (v : Tup Branch m), tupDec (Branch.of H) 10 m (tupEnc Branch.cells m v) = some v) ∧ (∀ (m : Nat) (v : Tup Branch m), (tupEnc Branch.cells m v).length = m * 10) ∧ (∀ (ρ : Nat → Nat) (m : Nat) (v : Tup Branch m), renL ρ (tupEnc Branch.cells m v) = tupEnc Branch.cells m v) ∧ (∀ (N m : Nat) (v : Tup Branch m), nbL N (tupEnc Branch.cells m v) = True) ∧ (∀ (l : Nat) (cs : List AV) (m : Nat) (v : Tup Branch m), (tupEnc Branch.cells m v).map (rp1 l cs) = tupEnc Branch.cells m v) ∧ (∀ (l : Nat) (cs : List AV) (m : Nat) (v : Tup Branch m), (tupEnc Branch.cells m v).map (rpV l cs) = tupEnc Branch.cells m v) ∧ (∀ (m : Nat) (v : Tup Branch m), cellsOf (.agg (tupEnc Branch.cells m v)) = some (tupEnc Branch.cells m v)) := ⟨fun m i v => (chunkA_enc Branch.length (by decide) m i v).trans (by cases (tupList m v)[i]? <;> rfl), fun H m v => tupDec_enc Branch.length (Branch.of_cells H) m v, fun m v => tupEnc_len Branch.length m v, fun ρ m v => renL_of_nb ρ _ (tupNb Branch.nb 0 m v), fun N m v => eq_true (tupNb Branch.nb N m v), fun l cs m v => rp1L_of_nb _ (tupNb Branch.nb 0 m v), fun l cs m v => rpVL_of_nb _ (tupNb Branch.nb 0 m v), fun m v => tupCells Branch.scalar m v⟩
attribute [go_sem high] Branch.arr
theorem Branch.reads :
    (∀ x : Branch, cellsOf (.agg x.cells) = some x.cells) ∧
    (∀ x : Branch, loadAV true 10 x.cells = some (.agg x.cells)) ∧
    (∀ x : Branch, loadAV false 1 x.cells = some (.str (sb x.ctor))) ∧
    (∀ x : Branch, loadAV false 1 (x.cells.drop 1) = some (.bool x.isAbsurd)) ∧
    (∀ x : Branch, loadAV false 1 (x.cells.drop 2) = some (.int .i64 x.tree.kind)) ∧
    (∀ x : Branch, loadAV false 1 (x.cells.drop 3) = some (.int .i64 x.tree.body.kind)) ∧
    (∀ x : Branch, loadAV false 1 (x.cells.drop 4) = some (.int .i64 x.tree.body.index)) ∧
    (∀ x : Branch, loadAV false 1 (x.cells.drop 5) = some (.str (sb x.tree.body.name))) ∧
    (∀ x : Branch, loadAV false 1 (x.cells.drop 6) = some (.lst false 2 (mp Level.cells x.tree.body.levels))) ∧
    (∀ x : Branch, loadAV false 1 (x.cells.drop 7) = some (.lst false 5 (mp Term.cells x.tree.body.kids))) ∧
    (∀ x : Branch, loadAV false 1 (x.cells.drop 8) = some (.int .i64 x.tree.var)) ∧
    (∀ x : Branch, loadAV false 1 (x.cells.drop 9) = some (.lst false 10 (mp Branch.cells x.tree.branches))) ∧
    (∀ x : Branch, loadAV true 8 (x.cells.drop 2) = some (.agg x.tree.cells)) ∧
    (∀ x : Branch, loadAV true 5 (x.cells.drop 3) = some (.agg x.tree.body.cells)) :=
  ⟨fun x => by simp only [cellsOf, Branch.scalar, if_true],
   fun x => loadAV_all (Branch.length x),
   fun x => by rw [Branch.cells_eq]; rfl,
   fun x => by rw [Branch.cells_eq]; rfl,
   fun x => by rw [Branch.cells_eq]; rfl,
   fun x => by rw [Branch.cells_eq]; rfl,
   fun x => by rw [Branch.cells_eq]; rfl,
   fun x => by rw [Branch.cells_eq]; rfl,
   fun x => by rw [Branch.cells_eq]; rfl,
   fun x => by rw [Branch.cells_eq]; rfl,
   fun x => by rw [Branch.cells_eq]; rfl,
   fun x => by rw [Branch.cells_eq]; rfl,
   fun x => by rw [Branch.cells_eq]; simp only [Term.cells_eq, Tree.cells_eq, List.drop_succ_cons, List.drop_zero]; rfl,
   fun x => by rw [Branch.cells_eq]; simp only [Term.cells_eq, Tree.cells_eq, List.drop_succ_cons, List.drop_zero]; rfl⟩
theorem Branch.splc (x : Branch) (o : Nat) (xs : List AV) : splice x.cells o xs = splice [.str (sb x.ctor), .bool x.isAbsurd, .int .i64 x.tree.kind, .int .i64 x.tree.body.kind, .int .i64 x.tree.body.index, .str (sb x.tree.body.name), .lst false 2 (mp Level.cells x.tree.body.levels), .lst false 5 (mp Term.cells x.tree.body.kids), .int .i64 x.tree.var, .lst false 10 (mp Branch.cells x.tree.branches)] o xs := by rw [Branch.cells_eq]
theorem Branch.splc2 (x : Branch) (o : Nat) (c : AV) (cs : List AV) : splice (c :: cs) o x.cells = splice (c :: cs) o [.str (sb x.ctor), .bool x.isAbsurd, .int .i64 x.tree.kind, .int .i64 x.tree.body.kind, .int .i64 x.tree.body.index, .str (sb x.tree.body.name), .lst false 2 (mp Level.cells x.tree.body.levels), .lst false 5 (mp Term.cells x.tree.body.kids), .int .i64 x.tree.var, .lst false 10 (mp Branch.cells x.tree.branches)] := by rw [Branch.cells_eq]
theorem Branch.app (x : Branch) (l : List AV) : x.cells ++ l = (.str (sb x.ctor) : AV) :: (.bool x.isAbsurd : AV) :: (.int .i64 x.tree.kind : AV) :: (.int .i64 x.tree.body.kind : AV) :: (.int .i64 x.tree.body.index : AV) :: (.str (sb x.tree.body.name) : AV) :: (.lst false 2 (mp Level.cells x.tree.body.levels) : AV) :: (.lst false 5 (mp Term.cells x.tree.body.kids) : AV) :: (.int .i64 x.tree.var : AV) :: (.lst false 10 (mp Branch.cells x.tree.branches) : AV) :: l := by rw [Branch.cells_eq]; rfl
theorem Branch.cns (x : Branch) (c : AV) : c :: x.cells = [c, .str (sb x.ctor), .bool x.isAbsurd, .int .i64 x.tree.kind, .int .i64 x.tree.body.kind, .int .i64 x.tree.body.index, .str (sb x.tree.body.name), .lst false 2 (mp Level.cells x.tree.body.levels), .lst false 5 (mp Term.cells x.tree.body.kids), .int .i64 x.tree.var, .lst false 10 (mp Branch.cells x.tree.branches)] := by rw [Branch.cells_eq]
attribute [go_sem] Branch.app Branch.cns
attribute [go_sem] Branch.nbs Branch.rens Branch.frz Branch.reads Branch.length Branch.scalar
attribute [go_sem low] Branch.splc Branch.splc2

structure Fun where
  name : Str
  type : Term
  arity : Int
  tree : Tree
def Fun.cells (x : Fun) : List AV := [.str (sb x.name)] ++ x.type.cells ++ [.int .i64 x.arity] ++ x.tree.cells
theorem Fun.cells_cat (x : Fun) : x.cells = [.str (sb x.name)] ++ x.type.cells ++ [.int .i64 x.arity] ++ x.tree.cells := rfl
theorem Fun.cells_eq (x : Fun) : x.cells = [.str (sb x.name), .int .i64 x.type.kind, .int .i64 x.type.index, .str (sb x.type.name), .lst false 2 (mp Level.cells x.type.levels), .lst false 5 (mp Term.cells x.type.kids), .int .i64 x.arity, .int .i64 x.tree.kind, .int .i64 x.tree.body.kind, .int .i64 x.tree.body.index, .str (sb x.tree.body.name), .lst false 2 (mp Level.cells x.tree.body.levels), .lst false 5 (mp Term.cells x.tree.body.kids), .int .i64 x.tree.var, .lst false 10 (mp Branch.cells x.tree.branches)] := by
  simp only [Fun.cells, Term.cells_eq, Tree.cells_eq, List.cons_append, List.nil_append, List.append_nil]
attribute [irreducible] Fun.cells
theorem Fun.length (x : Fun) : x.cells.length = 15 := by rw [Fun.cells_eq]; rfl
theorem Fun.scalar (x : Fun) : x.cells.all AV.scalar = true := by rw [Fun.cells_eq]; rfl
theorem Fun.nb (n : Nat) (x : Fun) : nbL n x.cells := by
  rw [Fun.cells_cat]
  exact (nbL_append (nbL_append (nbL_append ⟨trivial, trivial⟩ (Term.nb n x.type)) ⟨trivial, trivial⟩) (Tree.nb n x.tree))
def Fun.of (H : List AObj) : List AV → Option Fun
  | [c0, c1, c2, c3, c4, c5, c6, c7, c8, c9, c10, c11, c12, c13, c14] => (dS c0).bind fun x0 => (Term.of H [c1, c2, c3, c4, c5]).bind fun x1 => (dI .i64 c6).bind fun x2 => (Tree.of H [c7, c8, c9, c10, c11, c12, c13, c14]).bind fun x3 => some (.mk x0 x1 x2 x3)
  | _ => none
theorem Fun.of_lit {H : List AObj} {c0 c1 c2 c3 c4 c5 c6 c7 c8 c9 c10 c11 c12 c13 c14 : AV} : Fun.of H [c0, c1, c2, c3, c4, c5, c6, c7, c8, c9, c10, c11, c12, c13, c14] = (dS c0).bind fun x0 => (Term.of H [c1, c2, c3, c4, c5]).bind fun x1 => (dI .i64 c6).bind fun x2 => (Tree.of H [c7, c8, c9, c10, c11, c12, c13, c14]).bind fun x3 => some (.mk x0 x1 x2 x3) := rfl
theorem Fun.of_lit_cells (H : List AObj) (x : Fun) : Fun.of H [.str (sb x.name), .int .i64 x.type.kind, .int .i64 x.type.index, .str (sb x.type.name), .lst false 2 (mp Level.cells x.type.levels), .lst false 5 (mp Term.cells x.type.kids), .int .i64 x.arity, .int .i64 x.tree.kind, .int .i64 x.tree.body.kind, .int .i64 x.tree.body.index, .str (sb x.tree.body.name), .lst false 2 (mp Level.cells x.tree.body.levels), .lst false 5 (mp Term.cells x.tree.body.kids), .int .i64 x.tree.var, .lst false 10 (mp Branch.cells x.tree.branches)] = some x := by
  simp only [Fun.of_lit, dI_int, dB_bool, dS_sb, bind_some', szOK, beq_self_eq_true, Bool.true_or, cond_true, dL, Term.of_lit_cells, Tree.of_lit_cells]
  try (cases x; rfl)
theorem Fun.of_cells (H : List AObj) (x : Fun) : Fun.of H x.cells = some x := by rw [Fun.cells_eq]; exact Fun.of_lit_cells H x
theorem Fun.of_ok {H : List AObj} {n : Nat} {cs : List AV} {x : Fun} (h : Fun.of H cs = some x) : CoL1 H n cs x.cells := by
  unfold Fun.of at h
  split at h
  · simp only [Option.bind_eq_some_iff, Option.some.injEq] at h
    obtain ⟨x0, h0, x1, h1, x2, h2, x3, h3, rfl⟩ := h
    rw [Fun.cells_cat]
    exact (CoL1.append (CoL1.append (CoL1.append (CoL1.cons (dS_ok h0) CoL1.nil) (Term.of_ok h1)) (CoL1.cons (dI_ok h2) CoL1.nil)) (Tree.of_ok h3))
  · cases h
def Fun.cel : Cel Fun := ⟨Fun.cells, Fun.of, fun _ _ _ _ h => Fun.of_ok h, Fun.nb⟩
def Fun.row : Row Fun := ⟨Fun.cells, Fun.of [], 15, fun _ _ h => (Fun.of_ok (n := 0) h).toSub, Fun.nb⟩
theorem Fun.mapO_cells (xs : List Fun) : mapO (Fun.of []) (mp Fun.cells xs) = some xs := mapO_mp (Fun.of_cells []) xs
theorem Fun.mapO_set (xs : List Fun) (i : Nat) (r : List AV) : mapO (Fun.of []) ((mp Fun.cells xs).set i r) = bif decide (i < xs.length) then (Fun.of [] r).bind fun y => some (xs.set i y) else some xs := Go.Abs.mapO_set (Fun.of_cells []) xs i r
attribute [go_sem low] Fun.mapO_set
theorem Fun.row_f : Fun.row.enc = Fun.cells ∧ Fun.row.dec = Fun.of [] ∧ Fun.row.sz = 15 ∧ Fun.cel.enc = Fun.cells ∧ Fun.cel.dec = Fun.of := ⟨rfl, rfl, rfl, rfl, rfl⟩
theorem Fun.eta (x : Fun) : Fun.mk x.name x.type x.arity x.tree = x := by cases x; rfl
attribute [go_sem] Fun.of_lit Fun.of_cells Fun.mapO_cells Fun.row_f Fun.eta
theorem Fun.prj : (∀ (y0 : Str) (y1 : Term) (y2 : Int) (y3 : Tree), (Fun.mk y0 y1 y2 y3).name = y0) ∧ (∀ (y0 : Str) (y1 : Term) (y2 : Int) (y3 : Tree), (Fun.mk y0 y1 y2 y3).type = y1) ∧ (∀ (y0 : Str) (y1 : Term) (y2 : Int) (y3 : Tree), (Fun.mk y0 y1 y2 y3).arity = y2) ∧ (∀ (y0 : Str) (y1 : Term) (y2 : Int) (y3 : Tree), (Fun.mk y0 y1 y2 y3).tree = y3) := ⟨fun _ _ _ _ => rfl, fun _ _ _ _ => rfl, fun _ _ _ _ => rfl, fun _ _ _ _ => rfl⟩
attribute [go_sem] Fun.prj
theorem Fun.nbs : (∀ (n : Nat) (x : Fun), Go.Abs.nbL n x.cells = True) ∧ ∀ (n : Nat) (xs : List Fun), Go.Abs.nbR n (mp Fun.cells xs) = True := ⟨fun n x => eq_true (Fun.nb n x), fun n xs => eq_true (nbR_map (Fun.nb n) xs)⟩
theorem Fun.rens : (∀ (ρ : Nat → Nat) (x : Fun), renL ρ x.cells = x.cells) ∧ ∀ (ρ : Nat → Nat) (xs : List Fun), renR ρ (mp Fun.cells xs) = mp Fun.cells xs := ⟨fun ρ x => renL_of_nb ρ _ (Fun.nb 0 x), fun ρ xs => renR_of_nb ρ _ (nbR_map (Fun.nb 0) xs)⟩
theorem Fun.vw (H : List AObj) (x : Fun) : vwL H x.cells = some (x.cells, []) := vwL_of_nb H _ (Fun.nb 0 x)
attribute [go_sem] Fun.vw
theorem Fun.frz (low : Nat) (H : List AObj) (x : Fun) : frzL low H x.cells = x.cells := frzL_of_nb low H _ (Fun.nb 0 x)
theorem Fun.rpv (l : Nat) (ds : List AV) (x : Fun) : x.cells.map (rpV l ds) = x.cells := rpVL_of_nb _ (Fun.nb 0 x)
attribute [go_sem] Fun.rpv
theorem Fun.tk : (∀ x : Fun, List.take 15 x.cells = x.cells) ∧ ∀ x : Fun, List.drop 15 x.cells = [] := ⟨fun x => by rw [Fun.cells_eq]; rfl, fun x => by rw [Fun.cells_eq]; rfl⟩
attribute [go_sem] Fun.tk
theorem Fun.arr : (∀ (m i : Nat) (v : Tup Fun m), chunkA 15 i (tupEnc Fun.cells m v) = ((tupList m v)[i]?).bind fun y => some (Fun.cells y)) ∧ (∀ (H : List AObj) (m : Nat) (v : Tup Fun m), tupDec (Fun.of H) 15 m (tupEnc Fun.cells m v) = some v) ∧ (∀ (m : Nat) (v : Tup Fun m), (tupEnc Fun.cells m v).length = m * 15) ∧ (∀ (ρ : Nat → Nat) (m : Nat) (v : Tup Fun m), renL ρ (tupEnc Fun.cells m v) = tupEnc Fun.cells m v) ∧ (∀ (N m : Nat) (v : Tup Fun m), nbL N (tupEnc Fun.cells m v) = True) ∧ (∀ (l : Nat) (cs : List AV) (m : Nat) (v : Tup Fun m), (tupEnc Fun.cells m v).map (rp1 l cs) = tupEnc Fun.cells m v) ∧ (∀ (l : Nat) (cs : List AV) (m : Nat) (v : Tup Fun m), (tupEnc Fun.cells m v).map (rpV l cs) = tupEnc Fun.cells m v) ∧ (∀ (m : Nat) (v : Tup Fun m), cellsOf (.agg (tupEnc Fun.cells m v)) = some (tupEnc Fun.cells m v)) := ⟨fun m i v => (chunkA_enc Fun.length (by decide) m i v).trans (by cases (tupList m v)[i]? <;> rfl), fun H m v => tupDec_enc Fun.length (Fun.of_cells H) m v, fun m v => tupEnc_len Fun.length m v, fun ρ m v => renL_of_nb ρ _ (tupNb Fun.nb 0 m v), fun N m v => eq_true (tupNb Fun.nb N m v), fun l cs m v => rp1L_of_nb _ (tupNb Fun.nb 0 m v), fun l cs m v => rpVL_of_nb _ (tupNb Fun.nb 0 m v), fun m v => tupCells Fun.scalar m v⟩
attribute [go_sem high] Fun.arr
theorem Fun.reads :
    (∀ x : Fun, cellsOf (.agg x.cells) = some x.cells) ∧
    (∀ x : Fun, loadAV true 15 x.cells = some (.agg x.cells)) ∧
    (∀ x : Fun, loadAV false 1 x.cells = some (.str (sb x.name))) ∧
    (∀ x : Fun, loadAV false 1 (x.cells.drop 1) = some (.int .i64 x.type.kind)) ∧
    (∀ x : Fun, loadAV false 1 (x.cells.drop 2) = some (.int .i64 x.type.index)) ∧
    (∀ x : Fun, loadAV false 1 (x.cells.drop 3) = some (.str (sb x.type.name))) ∧
    (∀ x : Fun, loadAV false 1 (x.cells.drop 4) = some (.lst false 2 (mp Level.cells x.type.levels))) ∧
    (∀ x : Fun, loadAV false 1 (x.cells.drop 5) = some (.lst false 5 (mp Term.cells x.type.kids))) ∧
    (∀ x : Fun, loadAV false 1 (x.cells.drop 6) = some (.int .i64 x.arity)) ∧
    (∀ x : Fun, loadAV false 1 (x.cells.drop 7) = some (.int .i64 x.tree.kind)) ∧
    (∀ x : Fun, loadAV false 1 (x.cells.drop 8) = some (.int .i64 x.tree.body.kind)) ∧
    (∀ x : Fun, loadAV false 1 (x.cells.drop 9) = some (.int .i64 x.tree.body.index)) ∧
    (∀ x : Fun, loadAV false 1 (x.cells.drop 10) = some (.str (sb x.tree.body.name))) ∧
    (∀ x : Fun, loadAV false 1 (x.cells.drop 11) = some (.lst false 2 (mp Level.cells x.tree.body.levels))) ∧
    (∀ x : Fun, loadAV false 1 (x.cells.drop 12) = some (.lst false 5 (mp Term.cells x.tree.body.kids))) ∧
    (∀ x : Fun, loadAV false 1 (x.cells.drop 13) = some (.int .i64 x.tree.var)) ∧
    (∀ x : Fun, loadAV false 1 (x.cells.drop 14) = some (.lst false 10 (mp Branch.cells x.tree.branches))) ∧
    (∀ x : Fun, loadAV true 5 (x.cells.drop 1) = some (.agg x.type.cells)) ∧
    (∀ x : Fun, loadAV true 8 (x.cells.drop 7) = some (.agg x.tree.cells)) ∧
    (∀ x : Fun, loadAV true 5 (x.cells.drop 8) = some (.agg x.tree.body.cells)) :=
  ⟨fun x => by simp only [cellsOf, Fun.scalar, if_true],
   fun x => loadAV_all (Fun.length x),
   fun x => by rw [Fun.cells_eq]; rfl,
   fun x => by rw [Fun.cells_eq]; rfl,
   fun x => by rw [Fun.cells_eq]; rfl,
   fun x => by rw [Fun.cells_eq]; rfl,
   fun x => by rw [Fun.cells_eq]; rfl,
   fun x => by rw [Fun.cells_eq]; rfl,
   fun x => by rw [Fun.cells_eq]; rfl,
   fun x => by rw [Fun.cells_eq]; rfl,
   fun x => by rw [Fun.cells_eq]; rfl,
   fun x => by rw [Fun.cells_eq]; rfl,
   fun x => by rw [Fun.cells_eq]; rfl,
   fun x => by rw [Fun.cells_eq]; rfl,
   fun x => by rw [Fun.cells_eq]; rfl,
   fun x => by rw [Fun.cells_eq]; rfl,
   fun x => by rw [Fun.cells_eq]; rfl,
   fun x => by rw [Fun.cells_eq]; simp only [Term.cells_eq, Tree.cells_eq, List.drop_succ_cons, List.drop_zero]; rfl,
   fun x => by rw [Fun.cells_eq]; simp only [Term.cells_eq, Tree.cells_eq, List.drop_succ_cons, List.drop_zero]; rfl,
   fun x => by rw [Fun.cells_eq]; simp only [Term.cells_eq, Tree.cells_eq, List.drop_succ_cons, List.drop_zero]; rfl⟩
theorem Fun.splc (x : Fun) (o : Nat) (xs : List AV) : splice x.cells o xs = splice [.str (sb x.name), .int .i64 x.type.kind, .int .i64 x.type.index, .str (sb x.type.name), .lst false 2 (mp Level.cells x.type.levels), .lst false 5 (mp Term.cells x.type.kids), .int .i64 x.arity, .int .i64 x.tree.kind, .int .i64 x.tree.body.kind, .int .i64 x.tree.body.index, .str (sb x.tree.body.name), .lst false 2 (mp Level.cells x.tree.body.levels), .lst false 5 (mp Term.cells x.tree.body.kids), .int .i64 x.tree.var, .lst false 10 (mp Branch.cells x.tree.branches)] o xs := by rw [Fun.cells_eq]
theorem Fun.splc2 (x : Fun) (o : Nat) (c : AV) (cs : List AV) : splice (c :: cs) o x.cells = splice (c :: cs) o [.str (sb x.name), .int .i64 x.type.kind, .int .i64 x.type.index, .str (sb x.type.name), .lst false 2 (mp Level.cells x.type.levels), .lst false 5 (mp Term.cells x.type.kids), .int .i64 x.arity, .int .i64 x.tree.kind, .int .i64 x.tree.body.kind, .int .i64 x.tree.body.index, .str (sb x.tree.body.name), .lst false 2 (mp Level.cells x.tree.body.levels), .lst false 5 (mp Term.cells x.tree.body.kids), .int .i64 x.tree.var, .lst false 10 (mp Branch.cells x.tree.branches)] := by rw [Fun.cells_eq]
theorem Fun.app (x : Fun) (l : List AV) : x.cells ++ l = (.str (sb x.name) : AV) :: (.int .i64 x.type.kind : AV) :: (.int .i64 x.type.index : AV) :: (.str (sb x.type.name) : AV) :: (.lst false 2 (mp Level.cells x.type.levels) : AV) :: (.lst false 5 (mp Term.cells x.type.kids) : AV) :: (.int .i64 x.arity : AV) :: (.int .i64 x.tree.kind : AV) :: (.int .i64 x.tree.body.kind : AV) :: (.int .i64 x.tree.body.index : AV) :: (.str (sb x.tree.body.name) : AV) :: (.lst false 2 (mp Level.cells x.tree.body.levels) : AV) :: (.lst false 5 (mp Term.cells x.tree.body.kids) : AV) :: (.int .i64 x.tree.var : AV) :: (.lst false 10 (mp Branch.cells x.tree.branches) : AV) :: l := by rw [Fun.cells_eq]; rfl
theorem Fun.cns (x : Fun) (c : AV) : c :: x.cells = [c, .str (sb x.name), .int .i64 x.type.kind, .int .i64 x.type.index, .str (sb x.type.name), .lst false 2 (mp Level.cells x.type.levels), .lst false 5 (mp Term.cells x.type.kids), .int .i64 x.arity, .int .i64 x.tree.kind, .int .i64 x.tree.body.kind, .int .i64 x.tree.body.index, .str (sb x.tree.body.name), .lst false 2 (mp Level.cells x.tree.body.levels), .lst false 5 (mp Term.cells x.tree.body.kids), .int .i64 x.tree.var, .lst false 10 (mp Branch.cells x.tree.branches)] := by rw [Fun.cells_eq]
attribute [go_sem] Fun.app Fun.cns
attribute [go_sem] Fun.nbs Fun.rens Fun.frz Fun.reads Fun.length Fun.scalar
attribute [go_sem low] Fun.splc Fun.splc2

structure Decl where
  kind : Int
  name : Str
  params : Int
  type : Term
  value : Term
  fixed : Int
  ctors : List Ctor
  recu : Recursor
  funs : List Fun
def Decl.cells (x : Decl) : List AV := [.int .i64 x.kind, .str (sb x.name), .int .i64 x.params] ++ x.type.cells ++ x.value.cells ++ [.int .i64 x.fixed, .lst false 6 (mp Ctor.cells x.ctors)] ++ x.recu.cells ++ [.lst false 15 (mp Fun.cells x.funs)]
theorem Decl.cells_cat (x : Decl) : x.cells = [.int .i64 x.kind, .str (sb x.name), .int .i64 x.params] ++ x.type.cells ++ x.value.cells ++ [.int .i64 x.fixed, .lst false 6 (mp Ctor.cells x.ctors)] ++ x.recu.cells ++ [.lst false 15 (mp Fun.cells x.funs)] := rfl
theorem Decl.cells_eq (x : Decl) : x.cells = [.int .i64 x.kind, .str (sb x.name), .int .i64 x.params, .int .i64 x.type.kind, .int .i64 x.type.index, .str (sb x.type.name), .lst false 2 (mp Level.cells x.type.levels), .lst false 5 (mp Term.cells x.type.kids), .int .i64 x.value.kind, .int .i64 x.value.index, .str (sb x.value.name), .lst false 2 (mp Level.cells x.value.levels), .lst false 5 (mp Term.cells x.value.kids), .int .i64 x.fixed, .lst false 6 (mp Ctor.cells x.ctors), .int .i64 x.recu.params, .int .i64 x.recu.type.kind, .int .i64 x.recu.type.index, .str (sb x.recu.type.name), .lst false 2 (mp Level.cells x.recu.type.levels), .lst false 5 (mp Term.cells x.recu.type.kids), .lst false 5 (mp Term.cells x.recu.rules), .lst false 15 (mp Fun.cells x.funs)] := by
  simp only [Decl.cells, Recursor.cells_eq, Term.cells_eq, List.cons_append, List.nil_append, List.append_nil]
attribute [irreducible] Decl.cells
theorem Decl.length (x : Decl) : x.cells.length = 23 := by rw [Decl.cells_eq]; rfl
theorem Decl.scalar (x : Decl) : x.cells.all AV.scalar = true := by rw [Decl.cells_eq]; rfl
theorem Decl.nb (n : Nat) (x : Decl) : nbL n x.cells := by
  rw [Decl.cells_cat]
  exact (nbL_append (nbL_append (nbL_append (nbL_append (nbL_append ⟨trivial, trivial, trivial, trivial⟩ (Term.nb n x.type)) (Term.nb n x.value)) ⟨trivial, nbR_map (Ctor.nb n) _, trivial⟩) (Recursor.nb n x.recu)) ⟨nbR_map (Fun.nb n) _, trivial⟩)
def Decl.of (H : List AObj) : List AV → Option Decl
  | [c0, c1, c2, c3, c4, c5, c6, c7, c8, c9, c10, c11, c12, c13, c14, c15, c16, c17, c18, c19, c20, c21, c22] => (dI .i64 c0).bind fun x0 => (dS c1).bind fun x1 => (dI .i64 c2).bind fun x2 => (Term.of H [c3, c4, c5, c6, c7]).bind fun x3 => (Term.of H [c8, c9, c10, c11, c12]).bind fun x4 => (dI .i64 c13).bind fun x5 => (dL Ctor.row H c14).bind fun x6 => (Recursor.of H [c15, c16, c17, c18, c19, c20, c21]).bind fun x7 => (dL Fun.row H c22).bind fun x8 => some (.mk x0 x1 x2 x3 x4 x5 x6 x7 x8)
  | _ => none
theorem Decl.of_lit {H : List AObj} {c0 c1 c2 c3 c4 c5 c6 c7 c8 c9 c10 c11 c12 c13 c14 c15 c16 c17 c18 c19 c20 c21 c22 : AV} : Decl.of H [c0, c1, c2, c3, c4, c5, c6, c7, c8, c9, c10, c11, c12, c13, c14, c15, c16, c17, c18, c19, c20, c21, c22] = (dI .i64 c0).bind fun x0 => (dS c1).bind fun x1 => (dI .i64 c2).bind fun x2 => (Term.of H [c3, c4, c5, c6, c7]).bind fun x3 => (Term.of H [c8, c9, c10, c11, c12]).bind fun x4 => (dI .i64 c13).bind fun x5 => (dL Ctor.row H c14).bind fun x6 => (Recursor.of H [c15, c16, c17, c18, c19, c20, c21]).bind fun x7 => (dL Fun.row H c22).bind fun x8 => some (.mk x0 x1 x2 x3 x4 x5 x6 x7 x8) := rfl
theorem Decl.of_lit_cells (H : List AObj) (x : Decl) : Decl.of H [.int .i64 x.kind, .str (sb x.name), .int .i64 x.params, .int .i64 x.type.kind, .int .i64 x.type.index, .str (sb x.type.name), .lst false 2 (mp Level.cells x.type.levels), .lst false 5 (mp Term.cells x.type.kids), .int .i64 x.value.kind, .int .i64 x.value.index, .str (sb x.value.name), .lst false 2 (mp Level.cells x.value.levels), .lst false 5 (mp Term.cells x.value.kids), .int .i64 x.fixed, .lst false 6 (mp Ctor.cells x.ctors), .int .i64 x.recu.params, .int .i64 x.recu.type.kind, .int .i64 x.recu.type.index, .str (sb x.recu.type.name), .lst false 2 (mp Level.cells x.recu.type.levels), .lst false 5 (mp Term.cells x.recu.type.kids), .lst false 5 (mp Term.cells x.recu.rules), .lst false 15 (mp Fun.cells x.funs)] = some x := by
  simp only [Decl.of_lit, dI_int, dB_bool, dS_sb, bind_some', szOK, beq_self_eq_true, Bool.true_or, cond_true, dL, Ctor.mapO_cells, Ctor.row, Fun.mapO_cells, Fun.row, Recursor.of_lit_cells, Term.of_lit_cells]
  try (cases x; rfl)
theorem Decl.of_cells (H : List AObj) (x : Decl) : Decl.of H x.cells = some x := by rw [Decl.cells_eq]; exact Decl.of_lit_cells H x
theorem Decl.of_ok {H : List AObj} {n : Nat} {cs : List AV} {x : Decl} (h : Decl.of H cs = some x) : CoL1 H n cs x.cells := by
  unfold Decl.of at h
  split at h
  · simp only [Option.bind_eq_some_iff, Option.some.injEq] at h
    obtain ⟨x0, h0, x1, h1, x2, h2, x3, h3, x4, h4, x5, h5, x6, h6, x7, h7, x8, h8, rfl⟩ := h
    rw [Decl.cells_cat]
    exact (CoL1.append (CoL1.append (CoL1.append (CoL1.append (CoL1.append (CoL1.cons (dI_ok h0) (CoL1.cons (dS_ok h1) (CoL1.cons (dI_ok h2) CoL1.nil))) (Term.of_ok h3)) (Term.of_ok h4)) (CoL1.cons (dI_ok h5) (CoL1.cons (dL_ok h6) CoL1.nil))) (Recursor.of_ok h7)) (CoL1.cons (dL_ok h8) CoL1.nil))
  · cases h
def Decl.cel : Cel Decl := ⟨Decl.cells, Decl.of, fun _ _ _ _ h => Decl.of_ok h, Decl.nb⟩
def Decl.row : Row Decl := ⟨Decl.cells, Decl.of [], 23, fun _ _ h => (Decl.of_ok (n := 0) h).toSub, Decl.nb⟩
theorem Decl.mapO_cells (xs : List Decl) : mapO (Decl.of []) (mp Decl.cells xs) = some xs := mapO_mp (Decl.of_cells []) xs
theorem Decl.mapO_set (xs : List Decl) (i : Nat) (r : List AV) : mapO (Decl.of []) ((mp Decl.cells xs).set i r) = bif decide (i < xs.length) then (Decl.of [] r).bind fun y => some (xs.set i y) else some xs := Go.Abs.mapO_set (Decl.of_cells []) xs i r
attribute [go_sem low] Decl.mapO_set
theorem Decl.row_f : Decl.row.enc = Decl.cells ∧ Decl.row.dec = Decl.of [] ∧ Decl.row.sz = 23 ∧ Decl.cel.enc = Decl.cells ∧ Decl.cel.dec = Decl.of := ⟨rfl, rfl, rfl, rfl, rfl⟩
theorem Decl.eta (x : Decl) : Decl.mk x.kind x.name x.params x.type x.value x.fixed x.ctors x.recu x.funs = x := by cases x; rfl
attribute [go_sem] Decl.of_lit Decl.of_cells Decl.mapO_cells Decl.row_f Decl.eta
theorem Decl.prj : (∀ (y0 : Int) (y1 : Str) (y2 : Int) (y3 : Term) (y4 : Term) (y5 : Int) (y6 : List Ctor) (y7 : Recursor) (y8 : List Fun), (Decl.mk y0 y1 y2 y3 y4 y5 y6 y7 y8).kind = y0) ∧ (∀ (y0 : Int) (y1 : Str) (y2 : Int) (y3 : Term) (y4 : Term) (y5 : Int) (y6 : List Ctor) (y7 : Recursor) (y8 : List Fun), (Decl.mk y0 y1 y2 y3 y4 y5 y6 y7 y8).name = y1) ∧ (∀ (y0 : Int) (y1 : Str) (y2 : Int) (y3 : Term) (y4 : Term) (y5 : Int) (y6 : List Ctor) (y7 : Recursor) (y8 : List Fun), (Decl.mk y0 y1 y2 y3 y4 y5 y6 y7 y8).params = y2) ∧ (∀ (y0 : Int) (y1 : Str) (y2 : Int) (y3 : Term) (y4 : Term) (y5 : Int) (y6 : List Ctor) (y7 : Recursor) (y8 : List Fun), (Decl.mk y0 y1 y2 y3 y4 y5 y6 y7 y8).type = y3) ∧ (∀ (y0 : Int) (y1 : Str) (y2 : Int) (y3 : Term) (y4 : Term) (y5 : Int) (y6 : List Ctor) (y7 : Recursor) (y8 : List Fun), (Decl.mk y0 y1 y2 y3 y4 y5 y6 y7 y8).value = y4) ∧ (∀ (y0 : Int) (y1 : Str) (y2 : Int) (y3 : Term) (y4 : Term) (y5 : Int) (y6 : List Ctor) (y7 : Recursor) (y8 : List Fun), (Decl.mk y0 y1 y2 y3 y4 y5 y6 y7 y8).fixed = y5) ∧ (∀ (y0 : Int) (y1 : Str) (y2 : Int) (y3 : Term) (y4 : Term) (y5 : Int) (y6 : List Ctor) (y7 : Recursor) (y8 : List Fun), (Decl.mk y0 y1 y2 y3 y4 y5 y6 y7 y8).ctors = y6) ∧ (∀ (y0 : Int) (y1 : Str) (y2 : Int) (y3 : Term) (y4 : Term) (y5 : Int) (y6 : List Ctor) (y7 : Recursor) (y8 : List Fun), (Decl.mk y0 y1 y2 y3 y4 y5 y6 y7 y8).recu = y7) ∧ (∀ (y0 : Int) (y1 : Str) (y2 : Int) (y3 : Term) (y4 : Term) (y5 : Int) (y6 : List Ctor) (y7 : Recursor) (y8 : List Fun), (Decl.mk y0 y1 y2 y3 y4 y5 y6 y7 y8).funs = y8) := ⟨fun _ _ _ _ _ _ _ _ _ => rfl, fun _ _ _ _ _ _ _ _ _ => rfl, fun _ _ _ _ _ _ _ _ _ => rfl, fun _ _ _ _ _ _ _ _ _ => rfl, fun _ _ _ _ _ _ _ _ _ => rfl, fun _ _ _ _ _ _ _ _ _ => rfl, fun _ _ _ _ _ _ _ _ _ => rfl, fun _ _ _ _ _ _ _ _ _ => rfl, fun _ _ _ _ _ _ _ _ _ => rfl⟩
attribute [go_sem] Decl.prj
theorem Decl.nbs : (∀ (n : Nat) (x : Decl), Go.Abs.nbL n x.cells = True) ∧ ∀ (n : Nat) (xs : List Decl), Go.Abs.nbR n (mp Decl.cells xs) = True := ⟨fun n x => eq_true (Decl.nb n x), fun n xs => eq_true (nbR_map (Decl.nb n) xs)⟩
theorem Decl.rens : (∀ (ρ : Nat → Nat) (x : Decl), renL ρ x.cells = x.cells) ∧ ∀ (ρ : Nat → Nat) (xs : List Decl), renR ρ (mp Decl.cells xs) = mp Decl.cells xs := ⟨fun ρ x => renL_of_nb ρ _ (Decl.nb 0 x), fun ρ xs => renR_of_nb ρ _ (nbR_map (Decl.nb 0) xs)⟩
theorem Decl.vw (H : List AObj) (x : Decl) : vwL H x.cells = some (x.cells, []) := vwL_of_nb H _ (Decl.nb 0 x)
attribute [go_sem] Decl.vw
theorem Decl.frz (low : Nat) (H : List AObj) (x : Decl) : frzL low H x.cells = x.cells := frzL_of_nb low H _ (Decl.nb 0 x)
theorem Decl.rpv (l : Nat) (ds : List AV) (x : Decl) : x.cells.map (rpV l ds) = x.cells := rpVL_of_nb _ (Decl.nb 0 x)
attribute [go_sem] Decl.rpv
theorem Decl.tk : (∀ x : Decl, List.take 23 x.cells = x.cells) ∧ ∀ x : Decl, List.drop 23 x.cells = [] := ⟨fun x => by rw [Decl.cells_eq]; rfl, fun x => by rw [Decl.cells_eq]; rfl⟩
attribute [go_sem] Decl.tk
theorem Decl.arr : (∀ (m i : Nat) (v : Tup Decl m), chunkA 23 i (tupEnc Decl.cells m v) = ((tupList m v)[i]?).bind fun y => some (Decl.cells y)) ∧ (∀ (H : List AObj) (m : Nat) (v : Tup Decl m), tupDec (Decl.of H) 23 m (tupEnc Decl.cells m v) = some v) ∧ (∀ (m : Nat) (v : Tup Decl m), (tupEnc Decl.cells m v).length = m * 23) ∧ (∀ (ρ : Nat → Nat) (m : Nat) (v : Tup Decl m), renL ρ (tupEnc Decl.cells m v) = tupEnc Decl.cells m v) ∧ (∀ (N m : Nat) (v : Tup Decl m), nbL N (tupEnc Decl.cells m v) = True) ∧ (∀ (l : Nat) (cs : List AV) (m : Nat) (v : Tup Decl m), (tupEnc Decl.cells m v).map (rp1 l cs) = tupEnc Decl.cells m v) ∧ (∀ (l : Nat) (cs : List AV) (m : Nat) (v : Tup Decl m), (tupEnc Decl.cells m v).map (rpV l cs) = tupEnc Decl.cells m v) ∧ (∀ (m : Nat) (v : Tup Decl m), cellsOf (.agg (tupEnc Decl.cells m v)) = some (tupEnc Decl.cells m v)) := ⟨fun m i v => (chunkA_enc Decl.length (by decide) m i v).trans (by cases (tupList m v)[i]? <;> rfl), fun H m v => tupDec_enc Decl.length (Decl.of_cells H) m v, fun m v => tupEnc_len Decl.length m v, fun ρ m v => renL_of_nb ρ _ (tupNb Decl.nb 0 m v), fun N m v => eq_true (tupNb Decl.nb N m v), fun l cs m v => rp1L_of_nb _ (tupNb Decl.nb 0 m v), fun l cs m v => rpVL_of_nb _ (tupNb Decl.nb 0 m v), fun m v => tupCells Decl.scalar m v⟩
attribute [go_sem high] Decl.arr
theorem Decl.reads :
    (∀ x : Decl, cellsOf (.agg x.cells) = some x.cells) ∧
    (∀ x : Decl, loadAV true 23 x.cells = some (.agg x.cells)) ∧
    (∀ x : Decl, loadAV false 1 x.cells = some (.int .i64 x.kind)) ∧
    (∀ x : Decl, loadAV false 1 (x.cells.drop 1) = some (.str (sb x.name))) ∧
    (∀ x : Decl, loadAV false 1 (x.cells.drop 2) = some (.int .i64 x.params)) ∧
    (∀ x : Decl, loadAV false 1 (x.cells.drop 3) = some (.int .i64 x.type.kind)) ∧
    (∀ x : Decl, loadAV false 1 (x.cells.drop 4) = some (.int .i64 x.type.index)) ∧
    (∀ x : Decl, loadAV false 1 (x.cells.drop 5) = some (.str (sb x.type.name))) ∧
    (∀ x : Decl, loadAV false 1 (x.cells.drop 6) = some (.lst false 2 (mp Level.cells x.type.levels))) ∧
    (∀ x : Decl, loadAV false 1 (x.cells.drop 7) = some (.lst false 5 (mp Term.cells x.type.kids))) ∧
    (∀ x : Decl, loadAV false 1 (x.cells.drop 8) = some (.int .i64 x.value.kind)) ∧
    (∀ x : Decl, loadAV false 1 (x.cells.drop 9) = some (.int .i64 x.value.index)) ∧
    (∀ x : Decl, loadAV false 1 (x.cells.drop 10) = some (.str (sb x.value.name))) ∧
    (∀ x : Decl, loadAV false 1 (x.cells.drop 11) = some (.lst false 2 (mp Level.cells x.value.levels))) ∧
    (∀ x : Decl, loadAV false 1 (x.cells.drop 12) = some (.lst false 5 (mp Term.cells x.value.kids))) ∧
    (∀ x : Decl, loadAV false 1 (x.cells.drop 13) = some (.int .i64 x.fixed)) ∧
    (∀ x : Decl, loadAV false 1 (x.cells.drop 14) = some (.lst false 6 (mp Ctor.cells x.ctors))) ∧
    (∀ x : Decl, loadAV false 1 (x.cells.drop 15) = some (.int .i64 x.recu.params)) ∧
    (∀ x : Decl, loadAV false 1 (x.cells.drop 16) = some (.int .i64 x.recu.type.kind)) ∧
    (∀ x : Decl, loadAV false 1 (x.cells.drop 17) = some (.int .i64 x.recu.type.index)) ∧
    (∀ x : Decl, loadAV false 1 (x.cells.drop 18) = some (.str (sb x.recu.type.name))) ∧
    (∀ x : Decl, loadAV false 1 (x.cells.drop 19) = some (.lst false 2 (mp Level.cells x.recu.type.levels))) ∧
    (∀ x : Decl, loadAV false 1 (x.cells.drop 20) = some (.lst false 5 (mp Term.cells x.recu.type.kids))) ∧
    (∀ x : Decl, loadAV false 1 (x.cells.drop 21) = some (.lst false 5 (mp Term.cells x.recu.rules))) ∧
    (∀ x : Decl, loadAV false 1 (x.cells.drop 22) = some (.lst false 15 (mp Fun.cells x.funs))) ∧
    (∀ x : Decl, loadAV true 5 (x.cells.drop 3) = some (.agg x.type.cells)) ∧
    (∀ x : Decl, loadAV true 5 (x.cells.drop 8) = some (.agg x.value.cells)) ∧
    (∀ x : Decl, loadAV true 7 (x.cells.drop 15) = some (.agg x.recu.cells)) ∧
    (∀ x : Decl, loadAV true 5 (x.cells.drop 16) = some (.agg x.recu.type.cells)) :=
  ⟨fun x => by simp only [cellsOf, Decl.scalar, if_true],
   fun x => loadAV_all (Decl.length x),
   fun x => by rw [Decl.cells_eq]; rfl,
   fun x => by rw [Decl.cells_eq]; rfl,
   fun x => by rw [Decl.cells_eq]; rfl,
   fun x => by rw [Decl.cells_eq]; rfl,
   fun x => by rw [Decl.cells_eq]; rfl,
   fun x => by rw [Decl.cells_eq]; rfl,
   fun x => by rw [Decl.cells_eq]; rfl,
   fun x => by rw [Decl.cells_eq]; rfl,
   fun x => by rw [Decl.cells_eq]; rfl,
   fun x => by rw [Decl.cells_eq]; rfl,
   fun x => by rw [Decl.cells_eq]; rfl,
   fun x => by rw [Decl.cells_eq]; rfl,
   fun x => by rw [Decl.cells_eq]; rfl,
   fun x => by rw [Decl.cells_eq]; rfl,
   fun x => by rw [Decl.cells_eq]; rfl,
   fun x => by rw [Decl.cells_eq]; rfl,
   fun x => by rw [Decl.cells_eq]; rfl,
   fun x => by rw [Decl.cells_eq]; rfl,
   fun x => by rw [Decl.cells_eq]; rfl,
   fun x => by rw [Decl.cells_eq]; rfl,
   fun x => by rw [Decl.cells_eq]; rfl,
   fun x => by rw [Decl.cells_eq]; rfl,
   fun x => by rw [Decl.cells_eq]; rfl,
   fun x => by rw [Decl.cells_eq]; simp only [Recursor.cells_eq, Term.cells_eq, List.drop_succ_cons, List.drop_zero]; rfl,
   fun x => by rw [Decl.cells_eq]; simp only [Recursor.cells_eq, Term.cells_eq, List.drop_succ_cons, List.drop_zero]; rfl,
   fun x => by rw [Decl.cells_eq]; simp only [Recursor.cells_eq, Term.cells_eq, List.drop_succ_cons, List.drop_zero]; rfl,
   fun x => by rw [Decl.cells_eq]; simp only [Recursor.cells_eq, Term.cells_eq, List.drop_succ_cons, List.drop_zero]; rfl⟩
theorem Decl.splc (x : Decl) (o : Nat) (xs : List AV) : splice x.cells o xs = splice [.int .i64 x.kind, .str (sb x.name), .int .i64 x.params, .int .i64 x.type.kind, .int .i64 x.type.index, .str (sb x.type.name), .lst false 2 (mp Level.cells x.type.levels), .lst false 5 (mp Term.cells x.type.kids), .int .i64 x.value.kind, .int .i64 x.value.index, .str (sb x.value.name), .lst false 2 (mp Level.cells x.value.levels), .lst false 5 (mp Term.cells x.value.kids), .int .i64 x.fixed, .lst false 6 (mp Ctor.cells x.ctors), .int .i64 x.recu.params, .int .i64 x.recu.type.kind, .int .i64 x.recu.type.index, .str (sb x.recu.type.name), .lst false 2 (mp Level.cells x.recu.type.levels), .lst false 5 (mp Term.cells x.recu.type.kids), .lst false 5 (mp Term.cells x.recu.rules), .lst false 15 (mp Fun.cells x.funs)] o xs := by rw [Decl.cells_eq]
theorem Decl.splc2 (x : Decl) (o : Nat) (c : AV) (cs : List AV) : splice (c :: cs) o x.cells = splice (c :: cs) o [.int .i64 x.kind, .str (sb x.name), .int .i64 x.params, .int .i64 x.type.kind, .int .i64 x.type.index, .str (sb x.type.name), .lst false 2 (mp Level.cells x.type.levels), .lst false 5 (mp Term.cells x.type.kids), .int .i64 x.value.kind, .int .i64 x.value.index, .str (sb x.value.name), .lst false 2 (mp Level.cells x.value.levels), .lst false 5 (mp Term.cells x.value.kids), .int .i64 x.fixed, .lst false 6 (mp Ctor.cells x.ctors), .int .i64 x.recu.params, .int .i64 x.recu.type.kind, .int .i64 x.recu.type.index, .str (sb x.recu.type.name), .lst false 2 (mp Level.cells x.recu.type.levels), .lst false 5 (mp Term.cells x.recu.type.kids), .lst false 5 (mp Term.cells x.recu.rules), .lst false 15 (mp Fun.cells x.funs)] := by rw [Decl.cells_eq]
theorem Decl.app (x : Decl) (l : List AV) : x.cells ++ l = (.int .i64 x.kind : AV) :: (.str (sb x.name) : AV) :: (.int .i64 x.params : AV) :: (.int .i64 x.type.kind : AV) :: (.int .i64 x.type.index : AV) :: (.str (sb x.type.name) : AV) :: (.lst false 2 (mp Level.cells x.type.levels) : AV) :: (.lst false 5 (mp Term.cells x.type.kids) : AV) :: (.int .i64 x.value.kind : AV) :: (.int .i64 x.value.index : AV) :: (.str (sb x.value.name) : AV) :: (.lst false 2 (mp Level.cells x.value.levels) : AV) :: (.lst false 5 (mp Term.cells x.value.kids) : AV) :: (.int .i64 x.fixed : AV) :: (.lst false 6 (mp Ctor.cells x.ctors) : AV) :: (.int .i64 x.recu.params : AV) :: (.int .i64 x.recu.type.kind : AV) :: (.int .i64 x.recu.type.index : AV) :: (.str (sb x.recu.type.name) : AV) :: (.lst false 2 (mp Level.cells x.recu.type.levels) : AV) :: (.lst false 5 (mp Term.cells x.recu.type.kids) : AV) :: (.lst false 5 (mp Term.cells x.recu.rules) : AV) :: (.lst false 15 (mp Fun.cells x.funs) : AV) :: l := by rw [Decl.cells_eq]; rfl
theorem Decl.cns (x : Decl) (c : AV) : c :: x.cells = [c, .int .i64 x.kind, .str (sb x.name), .int .i64 x.params, .int .i64 x.type.kind, .int .i64 x.type.index, .str (sb x.type.name), .lst false 2 (mp Level.cells x.type.levels), .lst false 5 (mp Term.cells x.type.kids), .int .i64 x.value.kind, .int .i64 x.value.index, .str (sb x.value.name), .lst false 2 (mp Level.cells x.value.levels), .lst false 5 (mp Term.cells x.value.kids), .int .i64 x.fixed, .lst false 6 (mp Ctor.cells x.ctors), .int .i64 x.recu.params, .int .i64 x.recu.type.kind, .int .i64 x.recu.type.index, .str (sb x.recu.type.name), .lst false 2 (mp Level.cells x.recu.type.levels), .lst false 5 (mp Term.cells x.recu.type.kids), .lst false 5 (mp Term.cells x.recu.rules), .lst false 15 (mp Fun.cells x.funs)] := by rw [Decl.cells_eq]
attribute [go_sem] Decl.app Decl.cns
attribute [go_sem] Decl.nbs Decl.rens Decl.frz Decl.reads Decl.length Decl.scalar
attribute [go_sem low] Decl.splc Decl.splc2

structure Implicits where
  name : Str
  infos : List Int
def Implicits.cells (x : Implicits) : List AV := [.str (sb x.name), .lst false 1 (mp icell x.infos)]
theorem Implicits.cells_cat (x : Implicits) : x.cells = [.str (sb x.name), .lst false 1 (mp icell x.infos)] := rfl
theorem Implicits.cells_eq (x : Implicits) : x.cells = [.str (sb x.name), .lst false 1 (mp icell x.infos)] := rfl
attribute [irreducible] Implicits.cells
theorem Implicits.length (x : Implicits) : x.cells.length = 2 := by rw [Implicits.cells_eq]; rfl
theorem Implicits.scalar (x : Implicits) : x.cells.all AV.scalar = true := by rw [Implicits.cells_eq]; rfl
theorem Implicits.nb (n : Nat) (x : Implicits) : nbL n x.cells := by
  rw [Implicits.cells_cat]
  exact ⟨trivial, nbR_map (icell_nb n) _, trivial⟩
def Implicits.of (H : List AObj) : List AV → Option Implicits
  | [c0, c1] => (dS c0).bind fun x0 => (dL rowI H c1).bind fun x1 => some (.mk x0 x1)
  | _ => none
theorem Implicits.of_lit {H : List AObj} {c0 c1 : AV} : Implicits.of H [c0, c1] = (dS c0).bind fun x0 => (dL rowI H c1).bind fun x1 => some (.mk x0 x1) := rfl
theorem Implicits.of_lit_cells (H : List AObj) (x : Implicits) : Implicits.of H [.str (sb x.name), .lst false 1 (mp icell x.infos)] = some x := by
  simp only [Implicits.of_lit, dI_int, dB_bool, dS_sb, bind_some', szOK, beq_self_eq_true, Bool.true_or, cond_true, dL, mapO_cells1, rowI_f]
  try (cases x; rfl)
theorem Implicits.of_cells (H : List AObj) (x : Implicits) : Implicits.of H x.cells = some x := by rw [Implicits.cells_eq]; exact Implicits.of_lit_cells H x
theorem Implicits.of_ok {H : List AObj} {n : Nat} {cs : List AV} {x : Implicits} (h : Implicits.of H cs = some x) : CoL1 H n cs x.cells := by
  unfold Implicits.of at h
  split at h
  · simp only [Option.bind_eq_some_iff, Option.some.injEq] at h
    obtain ⟨x0, h0, x1, h1, rfl⟩ := h
    rw [Implicits.cells_cat]
    exact (CoL1.cons (dS_ok h0) (CoL1.cons (dL_ok h1) CoL1.nil))
  · cases h
def Implicits.cel : Cel Implicits := ⟨Implicits.cells, Implicits.of, fun _ _ _ _ h => Implicits.of_ok h, Implicits.nb⟩
def Implicits.row : Row Implicits := ⟨Implicits.cells, Implicits.of [], 2, fun _ _ h => (Implicits.of_ok (n := 0) h).toSub, Implicits.nb⟩
theorem Implicits.mapO_cells (xs : List Implicits) : mapO (Implicits.of []) (mp Implicits.cells xs) = some xs := mapO_mp (Implicits.of_cells []) xs
theorem Implicits.mapO_set (xs : List Implicits) (i : Nat) (r : List AV) : mapO (Implicits.of []) ((mp Implicits.cells xs).set i r) = bif decide (i < xs.length) then (Implicits.of [] r).bind fun y => some (xs.set i y) else some xs := Go.Abs.mapO_set (Implicits.of_cells []) xs i r
attribute [go_sem low] Implicits.mapO_set
theorem Implicits.row_f : Implicits.row.enc = Implicits.cells ∧ Implicits.row.dec = Implicits.of [] ∧ Implicits.row.sz = 2 ∧ Implicits.cel.enc = Implicits.cells ∧ Implicits.cel.dec = Implicits.of := ⟨rfl, rfl, rfl, rfl, rfl⟩
theorem Implicits.eta (x : Implicits) : Implicits.mk x.name x.infos = x := by cases x; rfl
attribute [go_sem] Implicits.of_lit Implicits.of_cells Implicits.mapO_cells Implicits.row_f Implicits.eta
theorem Implicits.prj : (∀ (y0 : Str) (y1 : List Int), (Implicits.mk y0 y1).name = y0) ∧ (∀ (y0 : Str) (y1 : List Int), (Implicits.mk y0 y1).infos = y1) := ⟨fun _ _ => rfl, fun _ _ => rfl⟩
attribute [go_sem] Implicits.prj
theorem Implicits.nbs : (∀ (n : Nat) (x : Implicits), Go.Abs.nbL n x.cells = True) ∧ ∀ (n : Nat) (xs : List Implicits), Go.Abs.nbR n (mp Implicits.cells xs) = True := ⟨fun n x => eq_true (Implicits.nb n x), fun n xs => eq_true (nbR_map (Implicits.nb n) xs)⟩
theorem Implicits.rens : (∀ (ρ : Nat → Nat) (x : Implicits), renL ρ x.cells = x.cells) ∧ ∀ (ρ : Nat → Nat) (xs : List Implicits), renR ρ (mp Implicits.cells xs) = mp Implicits.cells xs := ⟨fun ρ x => renL_of_nb ρ _ (Implicits.nb 0 x), fun ρ xs => renR_of_nb ρ _ (nbR_map (Implicits.nb 0) xs)⟩
theorem Implicits.vw (H : List AObj) (x : Implicits) : vwL H x.cells = some (x.cells, []) := vwL_of_nb H _ (Implicits.nb 0 x)
attribute [go_sem] Implicits.vw
theorem Implicits.frz (low : Nat) (H : List AObj) (x : Implicits) : frzL low H x.cells = x.cells := frzL_of_nb low H _ (Implicits.nb 0 x)
theorem Implicits.rpv (l : Nat) (ds : List AV) (x : Implicits) : x.cells.map (rpV l ds) = x.cells := rpVL_of_nb _ (Implicits.nb 0 x)
attribute [go_sem] Implicits.rpv
theorem Implicits.tk : (∀ x : Implicits, List.take 2 x.cells = x.cells) ∧ ∀ x : Implicits, List.drop 2 x.cells = [] := ⟨fun x => by rw [Implicits.cells_eq]; rfl, fun x => by rw [Implicits.cells_eq]; rfl⟩
attribute [go_sem] Implicits.tk
theorem Implicits.arr : (∀ (m i : Nat) (v : Tup Implicits m), chunkA 2 i (tupEnc Implicits.cells m v) = ((tupList m v)[i]?).bind fun y => some (Implicits.cells y)) ∧ (∀ (H : List AObj) (m : Nat) (v : Tup Implicits m), tupDec (Implicits.of H) 2 m (tupEnc Implicits.cells m v) = some v) ∧ (∀ (m : Nat) (v : Tup Implicits m), (tupEnc Implicits.cells m v).length = m * 2) ∧ (∀ (ρ : Nat → Nat) (m : Nat) (v : Tup Implicits m), renL ρ (tupEnc Implicits.cells m v) = tupEnc Implicits.cells m v) ∧ (∀ (N m : Nat) (v : Tup Implicits m), nbL N (tupEnc Implicits.cells m v) = True) ∧ (∀ (l : Nat) (cs : List AV) (m : Nat) (v : Tup Implicits m), (tupEnc Implicits.cells m v).map (rp1 l cs) = tupEnc Implicits.cells m v) ∧ (∀ (l : Nat) (cs : List AV) (m : Nat) (v : Tup Implicits m), (tupEnc Implicits.cells m v).map (rpV l cs) = tupEnc Implicits.cells m v) ∧ (∀ (m : Nat) (v : Tup Implicits m), cellsOf (.agg (tupEnc Implicits.cells m v)) = some (tupEnc Implicits.cells m v)) := ⟨fun m i v => (chunkA_enc Implicits.length (by decide) m i v).trans (by cases (tupList m v)[i]? <;> rfl), fun H m v => tupDec_enc Implicits.length (Implicits.of_cells H) m v, fun m v => tupEnc_len Implicits.length m v, fun ρ m v => renL_of_nb ρ _ (tupNb Implicits.nb 0 m v), fun N m v => eq_true (tupNb Implicits.nb N m v), fun l cs m v => rp1L_of_nb _ (tupNb Implicits.nb 0 m v), fun l cs m v => rpVL_of_nb _ (tupNb Implicits.nb 0 m v), fun m v => tupCells Implicits.scalar m v⟩
attribute [go_sem high] Implicits.arr
theorem Implicits.reads :
    (∀ x : Implicits, cellsOf (.agg x.cells) = some x.cells) ∧
    (∀ x : Implicits, loadAV true 2 x.cells = some (.agg x.cells)) ∧
    (∀ x : Implicits, loadAV false 1 x.cells = some (.str (sb x.name))) ∧
    (∀ x : Implicits, loadAV false 1 (x.cells.drop 1) = some (.lst false 1 (mp icell x.infos))) :=
  ⟨fun x => by simp only [cellsOf, Implicits.scalar, if_true],
   fun x => loadAV_all (Implicits.length x),
   fun x => by rw [Implicits.cells_eq]; rfl,
   fun x => by rw [Implicits.cells_eq]; rfl⟩
theorem Implicits.splc (x : Implicits) (o : Nat) (xs : List AV) : splice x.cells o xs = splice [.str (sb x.name), .lst false 1 (mp icell x.infos)] o xs := by rw [Implicits.cells_eq]
theorem Implicits.splc2 (x : Implicits) (o : Nat) (c : AV) (cs : List AV) : splice (c :: cs) o x.cells = splice (c :: cs) o [.str (sb x.name), .lst false 1 (mp icell x.infos)] := by rw [Implicits.cells_eq]
theorem Implicits.app (x : Implicits) (l : List AV) : x.cells ++ l = (.str (sb x.name) : AV) :: (.lst false 1 (mp icell x.infos) : AV) :: l := by rw [Implicits.cells_eq]; rfl
theorem Implicits.cns (x : Implicits) (c : AV) : c :: x.cells = [c, .str (sb x.name), .lst false 1 (mp icell x.infos)] := by rw [Implicits.cells_eq]
attribute [go_sem] Implicits.app Implicits.cns
attribute [go_sem] Implicits.nbs Implicits.rens Implicits.frz Implicits.reads Implicits.length Implicits.scalar
attribute [go_sem low] Implicits.splc Implicits.splc2

structure Notation where
  parts : List Str
  level : Int
  assoc : Int
  target : Str
def Notation.cells (x : Notation) : List AV := [.lst false 1 (mp scell x.parts), .int .i64 x.level, .int .i64 x.assoc, .str (sb x.target)]
theorem Notation.cells_cat (x : Notation) : x.cells = [.lst false 1 (mp scell x.parts), .int .i64 x.level, .int .i64 x.assoc, .str (sb x.target)] := rfl
theorem Notation.cells_eq (x : Notation) : x.cells = [.lst false 1 (mp scell x.parts), .int .i64 x.level, .int .i64 x.assoc, .str (sb x.target)] := rfl
attribute [irreducible] Notation.cells
theorem Notation.length (x : Notation) : x.cells.length = 4 := by rw [Notation.cells_eq]; rfl
theorem Notation.scalar (x : Notation) : x.cells.all AV.scalar = true := by rw [Notation.cells_eq]; rfl
theorem Notation.nb (n : Nat) (x : Notation) : nbL n x.cells := by
  rw [Notation.cells_cat]
  exact ⟨nbR_map (scell_nb n) _, trivial, trivial, trivial, trivial⟩
def Notation.of (H : List AObj) : List AV → Option Notation
  | [c0, c1, c2, c3] => (dL rowS H c0).bind fun x0 => (dI .i64 c1).bind fun x1 => (dI .i64 c2).bind fun x2 => (dS c3).bind fun x3 => some (.mk x0 x1 x2 x3)
  | _ => none
theorem Notation.of_lit {H : List AObj} {c0 c1 c2 c3 : AV} : Notation.of H [c0, c1, c2, c3] = (dL rowS H c0).bind fun x0 => (dI .i64 c1).bind fun x1 => (dI .i64 c2).bind fun x2 => (dS c3).bind fun x3 => some (.mk x0 x1 x2 x3) := rfl
theorem Notation.of_lit_cells (H : List AObj) (x : Notation) : Notation.of H [.lst false 1 (mp scell x.parts), .int .i64 x.level, .int .i64 x.assoc, .str (sb x.target)] = some x := by
  simp only [Notation.of_lit, dI_int, dB_bool, dS_sb, bind_some', szOK, beq_self_eq_true, Bool.true_or, cond_true, dL, mapO_cells1, rowS_f]
  try (cases x; rfl)
theorem Notation.of_cells (H : List AObj) (x : Notation) : Notation.of H x.cells = some x := by rw [Notation.cells_eq]; exact Notation.of_lit_cells H x
theorem Notation.of_ok {H : List AObj} {n : Nat} {cs : List AV} {x : Notation} (h : Notation.of H cs = some x) : CoL1 H n cs x.cells := by
  unfold Notation.of at h
  split at h
  · simp only [Option.bind_eq_some_iff, Option.some.injEq] at h
    obtain ⟨x0, h0, x1, h1, x2, h2, x3, h3, rfl⟩ := h
    rw [Notation.cells_cat]
    exact (CoL1.cons (dL_ok h0) (CoL1.cons (dI_ok h1) (CoL1.cons (dI_ok h2) (CoL1.cons (dS_ok h3) CoL1.nil))))
  · cases h
def Notation.cel : Cel Notation := ⟨Notation.cells, Notation.of, fun _ _ _ _ h => Notation.of_ok h, Notation.nb⟩
def Notation.row : Row Notation := ⟨Notation.cells, Notation.of [], 4, fun _ _ h => (Notation.of_ok (n := 0) h).toSub, Notation.nb⟩
theorem Notation.mapO_cells (xs : List Notation) : mapO (Notation.of []) (mp Notation.cells xs) = some xs := mapO_mp (Notation.of_cells []) xs
theorem Notation.mapO_set (xs : List Notation) (i : Nat) (r : List AV) : mapO (Notation.of []) ((mp Notation.cells xs).set i r) = bif decide (i < xs.length) then (Notation.of [] r).bind fun y => some (xs.set i y) else some xs := Go.Abs.mapO_set (Notation.of_cells []) xs i r
attribute [go_sem low] Notation.mapO_set
theorem Notation.row_f : Notation.row.enc = Notation.cells ∧ Notation.row.dec = Notation.of [] ∧ Notation.row.sz = 4 ∧ Notation.cel.enc = Notation.cells ∧ Notation.cel.dec = Notation.of := ⟨rfl, rfl, rfl, rfl, rfl⟩
theorem Notation.eta (x : Notation) : Notation.mk x.parts x.level x.assoc x.target = x := by cases x; rfl
attribute [go_sem] Notation.of_lit Notation.of_cells Notation.mapO_cells Notation.row_f Notation.eta
theorem Notation.prj : (∀ (y0 : List Str) (y1 : Int) (y2 : Int) (y3 : Str), (Notation.mk y0 y1 y2 y3).parts = y0) ∧ (∀ (y0 : List Str) (y1 : Int) (y2 : Int) (y3 : Str), (Notation.mk y0 y1 y2 y3).level = y1) ∧ (∀ (y0 : List Str) (y1 : Int) (y2 : Int) (y3 : Str), (Notation.mk y0 y1 y2 y3).assoc = y2) ∧ (∀ (y0 : List Str) (y1 : Int) (y2 : Int) (y3 : Str), (Notation.mk y0 y1 y2 y3).target = y3) := ⟨fun _ _ _ _ => rfl, fun _ _ _ _ => rfl, fun _ _ _ _ => rfl, fun _ _ _ _ => rfl⟩
attribute [go_sem] Notation.prj
theorem Notation.nbs : (∀ (n : Nat) (x : Notation), Go.Abs.nbL n x.cells = True) ∧ ∀ (n : Nat) (xs : List Notation), Go.Abs.nbR n (mp Notation.cells xs) = True := ⟨fun n x => eq_true (Notation.nb n x), fun n xs => eq_true (nbR_map (Notation.nb n) xs)⟩
theorem Notation.rens : (∀ (ρ : Nat → Nat) (x : Notation), renL ρ x.cells = x.cells) ∧ ∀ (ρ : Nat → Nat) (xs : List Notation), renR ρ (mp Notation.cells xs) = mp Notation.cells xs := ⟨fun ρ x => renL_of_nb ρ _ (Notation.nb 0 x), fun ρ xs => renR_of_nb ρ _ (nbR_map (Notation.nb 0) xs)⟩
theorem Notation.vw (H : List AObj) (x : Notation) : vwL H x.cells = some (x.cells, []) := vwL_of_nb H _ (Notation.nb 0 x)
attribute [go_sem] Notation.vw
theorem Notation.frz (low : Nat) (H : List AObj) (x : Notation) : frzL low H x.cells = x.cells := frzL_of_nb low H _ (Notation.nb 0 x)
theorem Notation.rpv (l : Nat) (ds : List AV) (x : Notation) : x.cells.map (rpV l ds) = x.cells := rpVL_of_nb _ (Notation.nb 0 x)
attribute [go_sem] Notation.rpv
theorem Notation.tk : (∀ x : Notation, List.take 4 x.cells = x.cells) ∧ ∀ x : Notation, List.drop 4 x.cells = [] := ⟨fun x => by rw [Notation.cells_eq]; rfl, fun x => by rw [Notation.cells_eq]; rfl⟩
attribute [go_sem] Notation.tk
theorem Notation.arr : (∀ (m i : Nat) (v : Tup Notation m), chunkA 4 i (tupEnc Notation.cells m v) = ((tupList m v)[i]?).bind fun y => some (Notation.cells y)) ∧ (∀ (H : List AObj) (m : Nat) (v : Tup Notation m), tupDec (Notation.of H) 4 m (tupEnc Notation.cells m v) = some v) ∧ (∀ (m : Nat) (v : Tup Notation m), (tupEnc Notation.cells m v).length = m * 4) ∧ (∀ (ρ : Nat → Nat) (m : Nat) (v : Tup Notation m), renL ρ (tupEnc Notation.cells m v) = tupEnc Notation.cells m v) ∧ (∀ (N m : Nat) (v : Tup Notation m), nbL N (tupEnc Notation.cells m v) = True) ∧ (∀ (l : Nat) (cs : List AV) (m : Nat) (v : Tup Notation m), (tupEnc Notation.cells m v).map (rp1 l cs) = tupEnc Notation.cells m v) ∧ (∀ (l : Nat) (cs : List AV) (m : Nat) (v : Tup Notation m), (tupEnc Notation.cells m v).map (rpV l cs) = tupEnc Notation.cells m v) ∧ (∀ (m : Nat) (v : Tup Notation m), cellsOf (.agg (tupEnc Notation.cells m v)) = some (tupEnc Notation.cells m v)) := ⟨fun m i v => (chunkA_enc Notation.length (by decide) m i v).trans (by cases (tupList m v)[i]? <;> rfl), fun H m v => tupDec_enc Notation.length (Notation.of_cells H) m v, fun m v => tupEnc_len Notation.length m v, fun ρ m v => renL_of_nb ρ _ (tupNb Notation.nb 0 m v), fun N m v => eq_true (tupNb Notation.nb N m v), fun l cs m v => rp1L_of_nb _ (tupNb Notation.nb 0 m v), fun l cs m v => rpVL_of_nb _ (tupNb Notation.nb 0 m v), fun m v => tupCells Notation.scalar m v⟩
attribute [go_sem high] Notation.arr
theorem Notation.reads :
    (∀ x : Notation, cellsOf (.agg x.cells) = some x.cells) ∧
    (∀ x : Notation, loadAV true 4 x.cells = some (.agg x.cells)) ∧
    (∀ x : Notation, loadAV false 1 x.cells = some (.lst false 1 (mp scell x.parts))) ∧
    (∀ x : Notation, loadAV false 1 (x.cells.drop 1) = some (.int .i64 x.level)) ∧
    (∀ x : Notation, loadAV false 1 (x.cells.drop 2) = some (.int .i64 x.assoc)) ∧
    (∀ x : Notation, loadAV false 1 (x.cells.drop 3) = some (.str (sb x.target))) :=
  ⟨fun x => by simp only [cellsOf, Notation.scalar, if_true],
   fun x => loadAV_all (Notation.length x),
   fun x => by rw [Notation.cells_eq]; rfl,
   fun x => by rw [Notation.cells_eq]; rfl,
   fun x => by rw [Notation.cells_eq]; rfl,
   fun x => by rw [Notation.cells_eq]; rfl⟩
theorem Notation.splc (x : Notation) (o : Nat) (xs : List AV) : splice x.cells o xs = splice [.lst false 1 (mp scell x.parts), .int .i64 x.level, .int .i64 x.assoc, .str (sb x.target)] o xs := by rw [Notation.cells_eq]
theorem Notation.splc2 (x : Notation) (o : Nat) (c : AV) (cs : List AV) : splice (c :: cs) o x.cells = splice (c :: cs) o [.lst false 1 (mp scell x.parts), .int .i64 x.level, .int .i64 x.assoc, .str (sb x.target)] := by rw [Notation.cells_eq]
theorem Notation.app (x : Notation) (l : List AV) : x.cells ++ l = (.lst false 1 (mp scell x.parts) : AV) :: (.int .i64 x.level : AV) :: (.int .i64 x.assoc : AV) :: (.str (sb x.target) : AV) :: l := by rw [Notation.cells_eq]; rfl
theorem Notation.cns (x : Notation) (c : AV) : c :: x.cells = [c, .lst false 1 (mp scell x.parts), .int .i64 x.level, .int .i64 x.assoc, .str (sb x.target)] := by rw [Notation.cells_eq]
attribute [go_sem] Notation.app Notation.cns
attribute [go_sem] Notation.nbs Notation.rens Notation.frz Notation.reads Notation.length Notation.scalar
attribute [go_sem low] Notation.splc Notation.splc2

structure State where
  env : List Decl
  implicits : List Implicits
  classes : List Str
  instances : List Str
  notations : List Notation
  nspace : List Str
  opens : List Str
def State.cells (x : State) : List AV := [.lst false 23 (mp Decl.cells x.env), .lst false 2 (mp Implicits.cells x.implicits), .lst false 1 (mp scell x.classes), .lst false 1 (mp scell x.instances), .lst false 4 (mp Notation.cells x.notations), .lst false 1 (mp scell x.nspace), .lst false 1 (mp scell x.opens)]
theorem State.cells_cat (x : State) : x.cells = [.lst false 23 (mp Decl.cells x.env), .lst false 2 (mp Implicits.cells x.implicits), .lst false 1 (mp scell x.classes), .lst false 1 (mp scell x.instances), .lst false 4 (mp Notation.cells x.notations), .lst false 1 (mp scell x.nspace), .lst false 1 (mp scell x.opens)] := rfl
theorem State.cells_eq (x : State) : x.cells = [.lst false 23 (mp Decl.cells x.env), .lst false 2 (mp Implicits.cells x.implicits), .lst false 1 (mp scell x.classes), .lst false 1 (mp scell x.instances), .lst false 4 (mp Notation.cells x.notations), .lst false 1 (mp scell x.nspace), .lst false 1 (mp scell x.opens)] := rfl
attribute [irreducible] State.cells
theorem State.length (x : State) : x.cells.length = 7 := by rw [State.cells_eq]; rfl
theorem State.scalar (x : State) : x.cells.all AV.scalar = true := by rw [State.cells_eq]; rfl
theorem State.nb (n : Nat) (x : State) : nbL n x.cells := by
  rw [State.cells_cat]
  exact ⟨nbR_map (Decl.nb n) _, nbR_map (Implicits.nb n) _, nbR_map (scell_nb n) _, nbR_map (scell_nb n) _, nbR_map (Notation.nb n) _, nbR_map (scell_nb n) _, nbR_map (scell_nb n) _, trivial⟩
def State.of (H : List AObj) : List AV → Option State
  | [c0, c1, c2, c3, c4, c5, c6] => (dL Decl.row H c0).bind fun x0 => (dL Implicits.row H c1).bind fun x1 => (dL rowS H c2).bind fun x2 => (dL rowS H c3).bind fun x3 => (dL Notation.row H c4).bind fun x4 => (dL rowS H c5).bind fun x5 => (dL rowS H c6).bind fun x6 => some (.mk x0 x1 x2 x3 x4 x5 x6)
  | _ => none
theorem State.of_lit {H : List AObj} {c0 c1 c2 c3 c4 c5 c6 : AV} : State.of H [c0, c1, c2, c3, c4, c5, c6] = (dL Decl.row H c0).bind fun x0 => (dL Implicits.row H c1).bind fun x1 => (dL rowS H c2).bind fun x2 => (dL rowS H c3).bind fun x3 => (dL Notation.row H c4).bind fun x4 => (dL rowS H c5).bind fun x5 => (dL rowS H c6).bind fun x6 => some (.mk x0 x1 x2 x3 x4 x5 x6) := rfl
theorem State.of_lit_cells (H : List AObj) (x : State) : State.of H [.lst false 23 (mp Decl.cells x.env), .lst false 2 (mp Implicits.cells x.implicits), .lst false 1 (mp scell x.classes), .lst false 1 (mp scell x.instances), .lst false 4 (mp Notation.cells x.notations), .lst false 1 (mp scell x.nspace), .lst false 1 (mp scell x.opens)] = some x := by
  simp only [State.of_lit, dI_int, dB_bool, dS_sb, bind_some', szOK, beq_self_eq_true, Bool.true_or, cond_true, dL, Decl.mapO_cells, Decl.row, Implicits.mapO_cells, Implicits.row, Notation.mapO_cells, Notation.row, mapO_cells1, rowS_f]
  try (cases x; rfl)
theorem State.of_cells (H : List AObj) (x : State) : State.of H x.cells = some x := by rw [State.cells_eq]; exact State.of_lit_cells H x
theorem State.of_ok {H : List AObj} {n : Nat} {cs : List AV} {x : State} (h : State.of H cs = some x) : CoL1 H n cs x.cells := by
  unfold State.of at h
  split at h
  · simp only [Option.bind_eq_some_iff, Option.some.injEq] at h
    obtain ⟨x0, h0, x1, h1, x2, h2, x3, h3, x4, h4, x5, h5, x6, h6, rfl⟩ := h
    rw [State.cells_cat]
    exact (CoL1.cons (dL_ok h0) (CoL1.cons (dL_ok h1) (CoL1.cons (dL_ok h2) (CoL1.cons (dL_ok h3) (CoL1.cons (dL_ok h4) (CoL1.cons (dL_ok h5) (CoL1.cons (dL_ok h6) CoL1.nil)))))))
  · cases h
def State.cel : Cel State := ⟨State.cells, State.of, fun _ _ _ _ h => State.of_ok h, State.nb⟩
def State.row : Row State := ⟨State.cells, State.of [], 7, fun _ _ h => (State.of_ok (n := 0) h).toSub, State.nb⟩
theorem State.mapO_cells (xs : List State) : mapO (State.of []) (mp State.cells xs) = some xs := mapO_mp (State.of_cells []) xs
theorem State.mapO_set (xs : List State) (i : Nat) (r : List AV) : mapO (State.of []) ((mp State.cells xs).set i r) = bif decide (i < xs.length) then (State.of [] r).bind fun y => some (xs.set i y) else some xs := Go.Abs.mapO_set (State.of_cells []) xs i r
attribute [go_sem low] State.mapO_set
theorem State.row_f : State.row.enc = State.cells ∧ State.row.dec = State.of [] ∧ State.row.sz = 7 ∧ State.cel.enc = State.cells ∧ State.cel.dec = State.of := ⟨rfl, rfl, rfl, rfl, rfl⟩
theorem State.eta (x : State) : State.mk x.env x.implicits x.classes x.instances x.notations x.nspace x.opens = x := by cases x; rfl
attribute [go_sem] State.of_lit State.of_cells State.mapO_cells State.row_f State.eta
theorem State.prj : (∀ (y0 : List Decl) (y1 : List Implicits) (y2 : List Str) (y3 : List Str) (y4 : List Notation) (y5 : List Str) (y6 : List Str), (State.mk y0 y1 y2 y3 y4 y5 y6).env = y0) ∧ (∀ (y0 : List Decl) (y1 : List Implicits) (y2 : List Str) (y3 : List Str) (y4 : List Notation) (y5 : List Str) (y6 : List Str), (State.mk y0 y1 y2 y3 y4 y5 y6).implicits = y1) ∧ (∀ (y0 : List Decl) (y1 : List Implicits) (y2 : List Str) (y3 : List Str) (y4 : List Notation) (y5 : List Str) (y6 : List Str), (State.mk y0 y1 y2 y3 y4 y5 y6).classes = y2) ∧ (∀ (y0 : List Decl) (y1 : List Implicits) (y2 : List Str) (y3 : List Str) (y4 : List Notation) (y5 : List Str) (y6 : List Str), (State.mk y0 y1 y2 y3 y4 y5 y6).instances = y3) ∧ (∀ (y0 : List Decl) (y1 : List Implicits) (y2 : List Str) (y3 : List Str) (y4 : List Notation) (y5 : List Str) (y6 : List Str), (State.mk y0 y1 y2 y3 y4 y5 y6).notations = y4) ∧ (∀ (y0 : List Decl) (y1 : List Implicits) (y2 : List Str) (y3 : List Str) (y4 : List Notation) (y5 : List Str) (y6 : List Str), (State.mk y0 y1 y2 y3 y4 y5 y6).nspace = y5) ∧ (∀ (y0 : List Decl) (y1 : List Implicits) (y2 : List Str) (y3 : List Str) (y4 : List Notation) (y5 : List Str) (y6 : List Str), (State.mk y0 y1 y2 y3 y4 y5 y6).opens = y6) := ⟨fun _ _ _ _ _ _ _ => rfl, fun _ _ _ _ _ _ _ => rfl, fun _ _ _ _ _ _ _ => rfl, fun _ _ _ _ _ _ _ => rfl, fun _ _ _ _ _ _ _ => rfl, fun _ _ _ _ _ _ _ => rfl, fun _ _ _ _ _ _ _ => rfl⟩
attribute [go_sem] State.prj
theorem State.nbs : (∀ (n : Nat) (x : State), Go.Abs.nbL n x.cells = True) ∧ ∀ (n : Nat) (xs : List State), Go.Abs.nbR n (mp State.cells xs) = True := ⟨fun n x => eq_true (State.nb n x), fun n xs => eq_true (nbR_map (State.nb n) xs)⟩
theorem State.rens : (∀ (ρ : Nat → Nat) (x : State), renL ρ x.cells = x.cells) ∧ ∀ (ρ : Nat → Nat) (xs : List State), renR ρ (mp State.cells xs) = mp State.cells xs := ⟨fun ρ x => renL_of_nb ρ _ (State.nb 0 x), fun ρ xs => renR_of_nb ρ _ (nbR_map (State.nb 0) xs)⟩
theorem State.vw (H : List AObj) (x : State) : vwL H x.cells = some (x.cells, []) := vwL_of_nb H _ (State.nb 0 x)
attribute [go_sem] State.vw
theorem State.frz (low : Nat) (H : List AObj) (x : State) : frzL low H x.cells = x.cells := frzL_of_nb low H _ (State.nb 0 x)
theorem State.rpv (l : Nat) (ds : List AV) (x : State) : x.cells.map (rpV l ds) = x.cells := rpVL_of_nb _ (State.nb 0 x)
attribute [go_sem] State.rpv
theorem State.tk : (∀ x : State, List.take 7 x.cells = x.cells) ∧ ∀ x : State, List.drop 7 x.cells = [] := ⟨fun x => by rw [State.cells_eq]; rfl, fun x => by rw [State.cells_eq]; rfl⟩
attribute [go_sem] State.tk
theorem State.arr : (∀ (m i : Nat) (v : Tup State m), chunkA 7 i (tupEnc State.cells m v) = ((tupList m v)[i]?).bind fun y => some (State.cells y)) ∧ (∀ (H : List AObj) (m : Nat) (v : Tup State m), tupDec (State.of H) 7 m (tupEnc State.cells m v) = some v) ∧ (∀ (m : Nat) (v : Tup State m), (tupEnc State.cells m v).length = m * 7) ∧ (∀ (ρ : Nat → Nat) (m : Nat) (v : Tup State m), renL ρ (tupEnc State.cells m v) = tupEnc State.cells m v) ∧ (∀ (N m : Nat) (v : Tup State m), nbL N (tupEnc State.cells m v) = True) ∧ (∀ (l : Nat) (cs : List AV) (m : Nat) (v : Tup State m), (tupEnc State.cells m v).map (rp1 l cs) = tupEnc State.cells m v) ∧ (∀ (l : Nat) (cs : List AV) (m : Nat) (v : Tup State m), (tupEnc State.cells m v).map (rpV l cs) = tupEnc State.cells m v) ∧ (∀ (m : Nat) (v : Tup State m), cellsOf (.agg (tupEnc State.cells m v)) = some (tupEnc State.cells m v)) := ⟨fun m i v => (chunkA_enc State.length (by decide) m i v).trans (by cases (tupList m v)[i]? <;> rfl), fun H m v => tupDec_enc State.length (State.of_cells H) m v, fun m v => tupEnc_len State.length m v, fun ρ m v => renL_of_nb ρ _ (tupNb State.nb 0 m v), fun N m v => eq_true (tupNb State.nb N m v), fun l cs m v => rp1L_of_nb _ (tupNb State.nb 0 m v), fun l cs m v => rpVL_of_nb _ (tupNb State.nb 0 m v), fun m v => tupCells State.scalar m v⟩
attribute [go_sem high] State.arr
theorem State.reads :
    (∀ x : State, cellsOf (.agg x.cells) = some x.cells) ∧
    (∀ x : State, loadAV true 7 x.cells = some (.agg x.cells)) ∧
    (∀ x : State, loadAV false 1 x.cells = some (.lst false 23 (mp Decl.cells x.env))) ∧
    (∀ x : State, loadAV false 1 (x.cells.drop 1) = some (.lst false 2 (mp Implicits.cells x.implicits))) ∧
    (∀ x : State, loadAV false 1 (x.cells.drop 2) = some (.lst false 1 (mp scell x.classes))) ∧
    (∀ x : State, loadAV false 1 (x.cells.drop 3) = some (.lst false 1 (mp scell x.instances))) ∧
    (∀ x : State, loadAV false 1 (x.cells.drop 4) = some (.lst false 4 (mp Notation.cells x.notations))) ∧
    (∀ x : State, loadAV false 1 (x.cells.drop 5) = some (.lst false 1 (mp scell x.nspace))) ∧
    (∀ x : State, loadAV false 1 (x.cells.drop 6) = some (.lst false 1 (mp scell x.opens))) :=
  ⟨fun x => by simp only [cellsOf, State.scalar, if_true],
   fun x => loadAV_all (State.length x),
   fun x => by rw [State.cells_eq]; rfl,
   fun x => by rw [State.cells_eq]; rfl,
   fun x => by rw [State.cells_eq]; rfl,
   fun x => by rw [State.cells_eq]; rfl,
   fun x => by rw [State.cells_eq]; rfl,
   fun x => by rw [State.cells_eq]; rfl,
   fun x => by rw [State.cells_eq]; rfl⟩
theorem State.splc (x : State) (o : Nat) (xs : List AV) : splice x.cells o xs = splice [.lst false 23 (mp Decl.cells x.env), .lst false 2 (mp Implicits.cells x.implicits), .lst false 1 (mp scell x.classes), .lst false 1 (mp scell x.instances), .lst false 4 (mp Notation.cells x.notations), .lst false 1 (mp scell x.nspace), .lst false 1 (mp scell x.opens)] o xs := by rw [State.cells_eq]
theorem State.splc2 (x : State) (o : Nat) (c : AV) (cs : List AV) : splice (c :: cs) o x.cells = splice (c :: cs) o [.lst false 23 (mp Decl.cells x.env), .lst false 2 (mp Implicits.cells x.implicits), .lst false 1 (mp scell x.classes), .lst false 1 (mp scell x.instances), .lst false 4 (mp Notation.cells x.notations), .lst false 1 (mp scell x.nspace), .lst false 1 (mp scell x.opens)] := by rw [State.cells_eq]
theorem State.app (x : State) (l : List AV) : x.cells ++ l = (.lst false 23 (mp Decl.cells x.env) : AV) :: (.lst false 2 (mp Implicits.cells x.implicits) : AV) :: (.lst false 1 (mp scell x.classes) : AV) :: (.lst false 1 (mp scell x.instances) : AV) :: (.lst false 4 (mp Notation.cells x.notations) : AV) :: (.lst false 1 (mp scell x.nspace) : AV) :: (.lst false 1 (mp scell x.opens) : AV) :: l := by rw [State.cells_eq]; rfl
theorem State.cns (x : State) (c : AV) : c :: x.cells = [c, .lst false 23 (mp Decl.cells x.env), .lst false 2 (mp Implicits.cells x.implicits), .lst false 1 (mp scell x.classes), .lst false 1 (mp scell x.instances), .lst false 4 (mp Notation.cells x.notations), .lst false 1 (mp scell x.nspace), .lst false 1 (mp scell x.opens)] := by rw [State.cells_eq]
attribute [go_sem] State.app State.cns
attribute [go_sem] State.nbs State.rens State.frz State.reads State.length State.scalar
attribute [go_sem low] State.splc State.splc2
end Go.Abs
namespace Go.Abs
open Go.Proofs
theorem tf0 :
    tinfo Tryd.prog 3 = some (false, 1) ∧
    telem Tryd.prog 3 = none ∧
    tzero Tryd.prog 3 = some [.int .i64 0] ∧
    tstr Tryd.prog 3 = false ∧
    tint Tryd.prog 3 = some .i64 ∧
    tnoint Tryd.prog 3 = false ∧
    tconc Tryd.prog 3 = true ∧
    tinfo Tryd.prog 4 = some (false, 1) ∧
    telem Tryd.prog 4 = none ∧
    tzero Tryd.prog 4 = some [.bool false] ∧
    tstr Tryd.prog 4 = false ∧
    tnoint Tryd.prog 4 = true ∧
    tconc Tryd.prog 4 = true ∧
    tinfo Tryd.prog 5 = some (false, 1) ∧
    telem Tryd.prog 5 = none ∧
    tzero Tryd.prog 5 = some [.int .u8 0] ∧
    tstr Tryd.prog 5 = false ∧
    tint Tryd.prog 5 = some .u8 ∧
    tnoint Tryd.prog 5 = false ∧
    tconc Tryd.prog 5 = true ∧
    tinfo Tryd.prog 9 = some (false, 1) ∧
    telem Tryd.prog 9 = none ∧
    tzero Tryd.prog 9 = some [.str ByteArray.empty] ∧
    tstr Tryd.prog 9 = true ∧
    tnoint Tryd.prog 9 = true ∧
    tconc Tryd.prog 9 = true ∧
    tinfo Tryd.prog 21 = some (false, 1) ∧
    telem Tryd.prog 21 = none ∧
    tzero Tryd.prog 21 = some [.int .i32 0] ∧
    tstr Tryd.prog 21 = false ∧
    tint Tryd.prog 21 = some .i32 ∧
    tnoint Tryd.prog 21 = false ∧
    tconc Tryd.prog 21 = true ∧
    tinfo Tryd.prog 22 = some (false, 1) ∧
    telem Tryd.prog 22 = some (59, 23, 360) ∧
    tzero Tryd.prog 22 = some [.lst true 0 []] ∧
    tstr Tryd.prog 22 = false ∧
    tnoint Tryd.prog 22 = true ∧
    tconc Tryd.prog 22 = true ∧
    tinfo Tryd.prog 23 = some (false, 1) ∧
    telem Tryd.prog 23 = some (132, 2, 40) ∧
    tzero Tryd.prog 23 = some [.lst true 0 []] ∧
    tstr Tryd.prog 23 = false ∧
    tnoint Tryd.prog 23 = true ∧
    tconc Tryd.prog 23 = true ∧
    tinfo Tryd.prog 24 = some (false, 1) ∧
    telem Tryd.prog 24 = some (9, 1, 16) ∧
    tzero Tryd.prog 24 = some [.lst true 0 []] ∧
    tstr Tryd.prog 24 = false ∧
    tnoint Tryd.prog 24 = true ∧
    tconc Tryd.prog 24 = true ∧
    tinfo Tryd.prog 25 = some (false, 1) ∧
    telem Tryd.prog 25 = some (134, 4, 56) ∧
    tzero Tryd.prog 25 = some [.lst true 0 []] ∧
    tstr Tryd.prog 25 = false ∧
    tnoint Tryd.prog 25 = true ∧
    tconc Tryd.prog 25 = true ∧
    tinfo Tryd.prog 27 = some (true, 7) ∧
    tbuilt Tryd.prog 27 = true ∧
    foff Tryd.prog 27 0 = some (0, 22) ∧
    bplace Tryd.prog 27 0 = some (0, 1) ∧
    foff Tryd.prog 27 1 = some (1, 23) ∧
    bplace Tryd.prog 27 1 = some (1, 1) ∧
    foff Tryd.prog 27 2 = some (2, 24) ∧
    bplace Tryd.prog 27 2 = some (2, 1) ∧
    foff Tryd.prog 27 3 = some (3, 24) ∧
    bplace Tryd.prog 27 3 = some (3, 1) ∧
    foff Tryd.prog 27 4 = some (4, 25) ∧
    bplace Tryd.prog 27 4 = some (4, 1) ∧
    foff Tryd.prog 27 5 = some (5, 24) ∧
    bplace Tryd.prog 27 5 = some (5, 1) ∧
    foff Tryd.prog 27 6 = some (6, 24) ∧
    bplace Tryd.prog 27 6 = some (6, 1) ∧
    telem Tryd.prog 27 = none ∧
    tzero Tryd.prog 27 = some [.lst true 0 [], .lst true 0 [], .lst true 0 [], .lst true 0 [], .lst true 0 [], .lst true 0 [], .lst true 0 []] ∧
    tstr Tryd.prog 27 = false ∧
    tnoint Tryd.prog 27 = true ∧
    tconc Tryd.prog 27 = true ∧
    tinfo Tryd.prog 30 = some (false, 1) ∧
    telem Tryd.prog 30 = none ∧
    tzero Tryd.prog 30 = some [.int .i64 0] ∧
    tstr Tryd.prog 30 = false ∧
    tint Tryd.prog 30 = some .i64 ∧
    tnoint Tryd.prog 30 = false ∧
    tconc Tryd.prog 30 = true ∧
    tinfo Tryd.prog 50 = some (false, 1) ∧
    telem Tryd.prog 50 = some (137, 2, 32) ∧
    tzero Tryd.prog 50 = some [.lst true 0 []] ∧
    tstr Tryd.prog 50 = false ∧
    tnoint Tryd.prog 50 = true ∧
    tconc Tryd.prog 50 = true ∧
    tinfo Tryd.prog 51 = some (false, 1) ∧
    telem Tryd.prog 51 = some (53, 5, 80) ∧
    tzero Tryd.prog 51 = some [.lst true 0 []] ∧
    tstr Tryd.prog 51 = false ∧
    tnoint Tryd.prog 51 = true ∧
    tconc Tryd.prog 51 = true ∧
    tinfo Tryd.prog 53 = some (true, 5) ∧
    tbuilt Tryd.prog 53 = true ∧
    foff Tryd.prog 53 0 = some (0, 3) ∧
    bplace Tryd.prog 53 0 = some (0, 1) ∧
    foff Tryd.prog 53 1 = some (1, 3) ∧
    bplace Tryd.prog 53 1 = some (1, 1) ∧
    foff Tryd.prog 53 2 = some (2, 9) ∧
    bplace Tryd.prog 53 2 = some (2, 1) ∧
    foff Tryd.prog 53 3 = some (3, 50) ∧
    bplace Tryd.prog 53 3 = some (3, 1) ∧
    foff Tryd.prog 53 4 = some (4, 51) ∧
    bplace Tryd.prog 53 4 = some (4, 1) ∧
    telem Tryd.prog 53 = none ∧
    tzero Tryd.prog 53 = some [.int .i64 0, .int .i64 0, .str ByteArray.empty, .lst true 0 [], .lst true 0 []] ∧
    tstr Tryd.prog 53 = false ∧
    tnoint Tryd.prog 53 = true ∧
    tconc Tryd.prog 53 = true ∧
    tinfo Tryd.prog 54 = some (false, 1) ∧
    telem Tryd.prog 54 = some (61, 6, 96) ∧
    tzero Tryd.prog 54 = some [.lst true 0 []] ∧
    tstr Tryd.prog 54 = false ∧
    tnoint Tryd.prog 54 = true ∧
    tconc Tryd.prog 54 = true :=
  ⟨by kernel_rfl, by kernel_rfl, by kernel_rfl, by kernel_rfl, by kernel_rfl, by kernel_rfl, by kernel_rfl, by kernel_rfl, by kernel_rfl, by kernel_rfl, by kernel_rfl, by kernel_rfl, by kernel_rfl, by kernel_rfl, by kernel_rfl, by kernel_rfl, by kernel_rfl, by kernel_rfl, by kernel_rfl, by kernel_rfl, by kernel_rfl, by kernel_rfl, by kernel_rfl, by kernel_rfl, by kernel_rfl, by kernel_rfl, by kernel_rfl, by kernel_rfl, by kernel_rfl, by kernel_rfl, by kernel_rfl, by kernel_rfl, by kernel_rfl, by kernel_rfl, by kernel_rfl, by kernel_rfl, by kernel_rfl, by kernel_rfl, by kernel_rfl, by kernel_rfl, by kernel_rfl, by kernel_rfl, by kernel_rfl, by kernel_rfl, by kernel_rfl, by kernel_rfl, by kernel_rfl, by kernel_rfl, by kernel_rfl, by kernel_rfl, by kernel_rfl, by kernel_rfl, by kernel_rfl, by kernel_rfl, by kernel_rfl, by kernel_rfl, by kernel_rfl, by kernel_rfl, by kernel_rfl, by kernel_rfl, by kernel_rfl, by kernel_rfl, by kernel_rfl, by kernel_rfl, by kernel_rfl, by kernel_rfl, by kernel_rfl, by kernel_rfl, by kernel_rfl, by kernel_rfl, by kernel_rfl, by kernel_rfl, by kernel_rfl, by kernel_rfl, by kernel_rfl, by kernel_rfl, by kernel_rfl, by kernel_rfl, by kernel_rfl, by kernel_rfl, by kernel_rfl, by kernel_rfl, by kernel_rfl, by kernel_rfl, by kernel_rfl, by kernel_rfl, by kernel_rfl, by kernel_rfl, by kernel_rfl, by kernel_rfl, by kernel_rfl, by kernel_rfl, by kernel_rfl, by kernel_rfl, by kernel_rfl, by kernel_rfl, by kernel_rfl, by kernel_rfl, by kernel_rfl, by kernel_rfl, by kernel_rfl, by kernel_rfl, by kernel_rfl, by kernel_rfl, by kernel_rfl, by kernel_rfl, by kernel_rfl, by kernel_rfl, by kernel_rfl, by kernel_rfl, by kernel_rfl, by kernel_rfl, by kernel_rfl, by kernel_rfl, by kernel_rfl, by kernel_rfl, by kernel_rfl, by kernel_rfl, by kernel_rfl, by kernel_rfl⟩
theorem tf1 :
    tinfo Tryd.prog 56 = some (true, 7) ∧
    tbuilt Tryd.prog 56 = true ∧
    foff Tryd.prog 56 0 = some (0, 3) ∧
    bplace Tryd.prog 56 0 = some (0, 1) ∧
    foff Tryd.prog 56 1 = some (1, 53) ∧
    bplace Tryd.prog 56 1 = some (1, 5) ∧
    foff Tryd.prog 56 2 = some (6, 51) ∧
    bplace Tryd.prog 56 2 = some (6, 1) ∧
    telem Tryd.prog 56 = none ∧
    tzero Tryd.prog 56 = some [.int .i64 0, .int .i64 0, .int .i64 0, .str ByteArray.empty, .lst true 0 [], .lst true 0 [], .lst true 0 []] ∧
    tstr Tryd.prog 56 = false ∧
    tnoint Tryd.prog 56 = true ∧
    tconc Tryd.prog 56 = true ∧
    tinfo Tryd.prog 57 = some (false, 1) ∧
    telem Tryd.prog 57 = some (66, 15, 224) ∧
    tzero Tryd.prog 57 = some [.lst true 0 []] ∧
    tstr Tryd.prog 57 = false ∧
    tnoint Tryd.prog 57 = true ∧
    tconc Tryd.prog 57 = true ∧
    tinfo Tryd.prog 59 = some (true, 23) ∧
    tbuilt Tryd.prog 59 = true ∧
    foff Tryd.prog 59 0 = some (0, 3) ∧
    bplace Tryd.prog 59 0 = some (0, 1) ∧
    foff Tryd.prog 59 1 = some (1, 9) ∧
    bplace Tryd.prog 59 1 = some (1, 1) ∧
    foff Tryd.prog 59 2 = some (2, 3) ∧
    bplace Tryd.prog 59 2 = some (2, 1) ∧
    foff Tryd.prog 59 3 = some (3, 53) ∧
    bplace Tryd.prog 59 3 = some (3, 5) ∧
    foff Tryd.prog 59 4 = some (8, 53) ∧
    bplace Tryd.prog 59 4 = some (8, 5) ∧
    foff Tryd.prog 59 5 = some (13, 3) ∧
    bplace Tryd.prog 59 5 = some (13, 1) ∧
    foff Tryd.prog 59 6 = some (14, 54) ∧
    bplace Tryd.prog 59 6 = some (14, 1) ∧
    foff Tryd.prog 59 7 = some (15, 56) ∧
    bplace Tryd.prog 59 7 = some (15, 7) ∧
    foff Tryd.prog 59 8 = some (22, 57) ∧
    bplace Tryd.prog 59 8 = some (22, 1) ∧
    telem Tryd.prog 59 = none ∧
    tzero Tryd.prog 59 = some [.int .i64 0, .str ByteArray.empty, .int .i64 0, .int .i64 0, .int .i64 0, .str ByteArray.empty, .lst true 0 [], .lst true 0 [], .int .i64 0, .int .i64 0, .str ByteArray.empty, .lst true 0 [], .lst true 0 [], .int .i64 0, .lst true 0 [], .int .i64 0, .int .i64 0, .int .i64 0, .str ByteArray.empty, .lst true 0 [], .lst true 0 [], .lst true 0 [], .lst true 0 []] ∧
    tstr Tryd.prog 59 = false ∧
    tnoint Tryd.prog 59 = true ∧
    tconc Tryd.prog 59 = true ∧
    tinfo Tryd.prog 61 = some (true, 6) ∧
    tbuilt Tryd.prog 61 = true ∧
    foff Tryd.prog 61 0 = some (0, 9) ∧
    bplace Tryd.prog 61 0 = some (0, 1) ∧
    foff Tryd.prog 61 1 = some (1, 53) ∧
    bplace Tryd.prog 61 1 = some (1, 5) ∧
    telem Tryd.prog 61 = none ∧
    tzero Tryd.prog 61 = some [.str ByteArray.empty, .int .i64 0, .int .i64 0, .str ByteArray.empty, .lst true 0 [], .lst true 0 []] ∧
    tstr Tryd.prog 61 = false ∧
    tnoint Tryd.prog 61 = true ∧
    tconc Tryd.prog 61 = true ∧
    tinfo Tryd.prog 62 = some (false, 1) ∧
    telem Tryd.prog 62 = some (139, 10, 144) ∧
    tzero Tryd.prog 62 = some [.lst true 0 []] ∧
    tstr Tryd.prog 62 = false ∧
    tnoint Tryd.prog 62 = true ∧
    tconc Tryd.prog 62 = true ∧
    tinfo Tryd.prog 64 = some (true, 8) ∧
    tbuilt Tryd.prog 64 = true ∧
    foff Tryd.prog 64 0 = some (0, 3) ∧
    bplace Tryd.prog 64 0 = some (0, 1) ∧
    foff Tryd.prog 64 1 = some (1, 53) ∧
    bplace Tryd.prog 64 1 = some (1, 5) ∧
    foff Tryd.prog 64 2 = some (6, 3) ∧
    bplace Tryd.prog 64 2 = some (6, 1) ∧
    foff Tryd.prog 64 3 = some (7, 62) ∧
    bplace Tryd.prog 64 3 = some (7, 1) ∧
    telem Tryd.prog 64 = none ∧
    tzero Tryd.prog 64 = some [.int .i64 0, .int .i64 0, .int .i64 0, .str ByteArray.empty, .lst true 0 [], .lst true 0 [], .int .i64 0, .lst true 0 []] ∧
    tstr Tryd.prog 64 = false ∧
    tnoint Tryd.prog 64 = true ∧
    tconc Tryd.prog 64 = true ∧
    tinfo Tryd.prog 66 = some (true, 15) ∧
    tbuilt Tryd.prog 66 = true ∧
    foff Tryd.prog 66 0 = some (0, 9) ∧
    bplace Tryd.prog 66 0 = some (0, 1) ∧
    foff Tryd.prog 66 1 = some (1, 53) ∧
    bplace Tryd.prog 66 1 = some (1, 5) ∧
    foff Tryd.prog 66 2 = some (6, 3) ∧
    bplace Tryd.prog 66 2 = some (6, 1) ∧
    foff Tryd.prog 66 3 = some (7, 64) ∧
    bplace Tryd.prog 66 3 = some (7, 8) ∧
    telem Tryd.prog 66 = none ∧
    tzero Tryd.prog 66 = some [.str ByteArray.empty, .int .i64 0, .int .i64 0, .str ByteArray.empty, .lst true 0 [], .lst true 0 [], .int .i64 0, .int .i64 0, .int .i64 0, .int .i64 0, .str ByteArray.empty, .lst true 0 [], .lst true 0 [], .int .i64 0, .lst true 0 []] ∧
    tstr Tryd.prog 66 = false ∧
    tnoint Tryd.prog 66 = true ∧
    tconc Tryd.prog 66 = true ∧
    tinfo Tryd.prog 68 = some (false, 1) ∧
    telem Tryd.prog 68 = none ∧
    tzero Tryd.prog 68 = some [.raw .nilFunc] ∧
    tstr Tryd.prog 68 = false ∧
    tnoint Tryd.prog 68 = true ∧
    tconc Tryd.prog 68 = true ∧
    tinfo Tryd.prog 72 = some (false, 1) ∧
    telem Tryd.prog 72 = some (9, 1, 16) ∧
    tzero Tryd.prog 72 = some [.lst true 0 []] ∧
    tstr Tryd.prog 72 = false ∧
    tnoint Tryd.prog 72 = true ∧
    tconc Tryd.prog 72 = true ∧
    tinfo Tryd.prog 79 = some (false, 1) ∧
    telem Tryd.prog 79 = none ∧
    tzero Tryd.prog 79 = some [.raw .nilFunc] ∧
    tstr Tryd.prog 79 = false ∧
    tnoint Tryd.prog 79 = true ∧
    tconc Tryd.prog 79 = true ∧
    tinfo Tryd.prog 81 = some (false, 1) ∧
    telem Tryd.prog 81 = none ∧
    tzero Tryd.prog 81 = some [.raw (.pointer none)] ∧
    tstr Tryd.prog 81 = false ∧
    tnoint Tryd.prog 81 = true ∧
    tconc Tryd.prog 81 = true ∧
    tinfo Tryd.prog 82 = some (false, 1) ∧
    telem Tryd.prog 82 = some (5, 1, 1) ∧
    tzero Tryd.prog 82 = some [.lst true 0 []] ∧
    tstr Tryd.prog 82 = false ∧
    tnoint Tryd.prog 82 = true :=
  ⟨by kernel_rfl, by kernel_rfl, by kernel_rfl, by kernel_rfl, by kernel_rfl, by kernel_rfl, by kernel_rfl, by kernel_rfl, by kernel_rfl, by kernel_rfl, by kernel_rfl, by kernel_rfl, by kernel_rfl, by kernel_rfl, by kernel_rfl, by kernel_rfl, by kernel_rfl, by kernel_rfl, by kernel_rfl, by kernel_rfl, by kernel_rfl, by kernel_rfl, by kernel_rfl, by kernel_rfl, by kernel_rfl, by kernel_rfl, by kernel_rfl, by kernel_rfl, by kernel_rfl, by kernel_rfl, by kernel_rfl, by kernel_rfl, by kernel_rfl, by kernel_rfl, by kernel_rfl, by kernel_rfl, by kernel_rfl, by kernel_rfl, by kernel_rfl, by kernel_rfl, by kernel_rfl, by kernel_rfl, by kernel_rfl, by kernel_rfl, by kernel_rfl, by kernel_rfl, by kernel_rfl, by kernel_rfl, by kernel_rfl, by kernel_rfl, by kernel_rfl, by kernel_rfl, by kernel_rfl, by kernel_rfl, by kernel_rfl, by kernel_rfl, by kernel_rfl, by kernel_rfl, by kernel_rfl, by kernel_rfl, by kernel_rfl, by kernel_rfl, by kernel_rfl, by kernel_rfl, by kernel_rfl, by kernel_rfl, by kernel_rfl, by kernel_rfl, by kernel_rfl, by kernel_rfl, by kernel_rfl, by kernel_rfl, by kernel_rfl, by kernel_rfl, by kernel_rfl, by kernel_rfl, by kernel_rfl, by kernel_rfl, by kernel_rfl, by kernel_rfl, by kernel_rfl, by kernel_rfl, by kernel_rfl, by kernel_rfl, by kernel_rfl, by kernel_rfl, by kernel_rfl, by kernel_rfl, by kernel_rfl, by kernel_rfl, by kernel_rfl, by kernel_rfl, by kernel_rfl, by kernel_rfl, by kernel_rfl, by kernel_rfl, by kernel_rfl, by kernel_rfl, by kernel_rfl, by kernel_rfl, by kernel_rfl, by kernel_rfl, by kernel_rfl, by kernel_rfl, by kernel_rfl, by kernel_rfl, by kernel_rfl, by kernel_rfl, by kernel_rfl, by kernel_rfl, by kernel_rfl, by kernel_rfl, by kernel_rfl, by kernel_rfl, by kernel_rfl, by kernel_rfl, by kernel_rfl, by kernel_rfl, by kernel_rfl, by kernel_rfl⟩
theorem tf2 :
    tconc Tryd.prog 82 = true ∧
    tinfo Tryd.prog 84 = some (true, 2) ∧
    tbuilt Tryd.prog 84 = true ∧
    foff Tryd.prog 84 0 = some (0, 81) ∧
    bplace Tryd.prog 84 0 = some (0, 1) ∧
    foff Tryd.prog 84 1 = some (1, 82) ∧
    bplace Tryd.prog 84 1 = some (1, 1) ∧
    telem Tryd.prog 84 = none ∧
    tzero Tryd.prog 84 = some [.raw (.pointer none), .lst true 0 []] ∧
    tstr Tryd.prog 84 = false ∧
    tnoint Tryd.prog 84 = true ∧
    tconc Tryd.prog 84 = true ∧
    tinfo Tryd.prog 100 = some (false, 1) ∧
    telem Tryd.prog 100 = none ∧
    tzero Tryd.prog 100 = some [.raw (.pointer none)] ∧
    tstr Tryd.prog 100 = false ∧
    tnoint Tryd.prog 100 = true ∧
    tconc Tryd.prog 100 = true ∧
    tinfo Tryd.prog 105 = some (false, 1) ∧
    telem Tryd.prog 105 = none ∧
    tzero Tryd.prog 105 = some [.raw (.pointer none)] ∧
    tstr Tryd.prog 105 = false ∧
    tnoint Tryd.prog 105 = true ∧
    tconc Tryd.prog 105 = true ∧
    tinfo Tryd.prog 110 = some (true, 256) ∧
    tarr Tryd.prog 110 = some (256, 1) ∧
    tbuilt Tryd.prog 110 = true ∧
    telem Tryd.prog 110 = none ∧
    tstr Tryd.prog 110 = false ∧
    tnoint Tryd.prog 110 = true ∧
    tconc Tryd.prog 110 = true ∧
    tinfo Tryd.prog 112 = some (true, 2) ∧
    tbuilt Tryd.prog 112 = true ∧
    foff Tryd.prog 112 0 = some (0, 5) ∧
    bplace Tryd.prog 112 0 = some (0, 1) ∧
    foff Tryd.prog 112 1 = some (1, 5) ∧
    bplace Tryd.prog 112 1 = some (1, 1) ∧
    telem Tryd.prog 112 = none ∧
    tzero Tryd.prog 112 = some [.int .u8 0, .int .u8 0] ∧
    tstr Tryd.prog 112 = false ∧
    tnoint Tryd.prog 112 = true ∧
    tconc Tryd.prog 112 = true ∧
    tinfo Tryd.prog 113 = some (true, 32) ∧
    tarr Tryd.prog 113 = some (16, 2) ∧
    tbuilt Tryd.prog 113 = true ∧
    bplace Tryd.prog 113 0 = some (0, 2) ∧
    bplace Tryd.prog 113 1 = some (2, 2) ∧
    bplace Tryd.prog 113 2 = some (4, 2) ∧
    bplace Tryd.prog 113 3 = some (6, 2) ∧
    bplace Tryd.prog 113 4 = some (8, 2) ∧
    bplace Tryd.prog 113 5 = some (10, 2) ∧
    bplace Tryd.prog 113 6 = some (12, 2) ∧
    bplace Tryd.prog 113 7 = some (14, 2) ∧
    bplace Tryd.prog 113 8 = some (16, 2) ∧
    bplace Tryd.prog 113 9 = some (18, 2) ∧
    bplace Tryd.prog 113 10 = some (20, 2) ∧
    bplace Tryd.prog 113 11 = some (22, 2) ∧
    bplace Tryd.prog 113 12 = some (24, 2) ∧
    bplace Tryd.prog 113 13 = some (26, 2) ∧
    bplace Tryd.prog 113 14 = some (28, 2) ∧
    bplace Tryd.prog 113 15 = some (30, 2) ∧
    telem Tryd.prog 113 = none ∧
    tzero Tryd.prog 113 = some [.int .u8 0, .int .u8 0, .int .u8 0, .int .u8 0, .int .u8 0, .int .u8 0, .int .u8 0, .int .u8 0, .int .u8 0, .int .u8 0, .int .u8 0, .int .u8 0, .int .u8 0, .int .u8 0, .int .u8 0, .int .u8 0, .int .u8 0, .int .u8 0, .int .u8 0, .int .u8 0, .int .u8 0, .int .u8 0, .int .u8 0, .int .u8 0, .int .u8 0, .int .u8 0, .int .u8 0, .int .u8 0, .int .u8 0, .int .u8 0, .int .u8 0, .int .u8 0] ∧
    tstr Tryd.prog 113 = false ∧
    tnoint Tryd.prog 113 = true ∧
    tconc Tryd.prog 113 = true ∧
    tinfo Tryd.prog 114 = some (false, 1) ∧
    telem Tryd.prog 114 = none ∧
    tzero Tryd.prog 114 = some [.int .u32 0] ∧
    tstr Tryd.prog 114 = false ∧
    tint Tryd.prog 114 = some .u32 ∧
    tnoint Tryd.prog 114 = false ∧
    tconc Tryd.prog 114 = true ∧
    tinfo Tryd.prog 130 = some (false, 1) ∧
    telem Tryd.prog 130 = some (3, 1, 8) ∧
    tzero Tryd.prog 130 = some [.lst true 0 []] ∧
    tstr Tryd.prog 130 = false ∧
    tnoint Tryd.prog 130 = true ∧
    tconc Tryd.prog 130 = true ∧
    tinfo Tryd.prog 132 = some (true, 2) ∧
    tbuilt Tryd.prog 132 = true ∧
    foff Tryd.prog 132 0 = some (0, 9) ∧
    bplace Tryd.prog 132 0 = some (0, 1) ∧
    foff Tryd.prog 132 1 = some (1, 130) ∧
    bplace Tryd.prog 132 1 = some (1, 1) ∧
    telem Tryd.prog 132 = none ∧
    tzero Tryd.prog 132 = some [.str ByteArray.empty, .lst true 0 []] ∧
    tstr Tryd.prog 132 = false ∧
    tnoint Tryd.prog 132 = true ∧
    tconc Tryd.prog 132 = true ∧
    tinfo Tryd.prog 134 = some (true, 4) ∧
    tbuilt Tryd.prog 134 = true ∧
    foff Tryd.prog 134 0 = some (0, 24) ∧
    bplace Tryd.prog 134 0 = some (0, 1) ∧
    foff Tryd.prog 134 1 = some (1, 3) ∧
    bplace Tryd.prog 134 1 = some (1, 1) ∧
    foff Tryd.prog 134 2 = some (2, 3) ∧
    bplace Tryd.prog 134 2 = some (2, 1) ∧
    foff Tryd.prog 134 3 = some (3, 9) ∧
    bplace Tryd.prog 134 3 = some (3, 1) ∧
    telem Tryd.prog 134 = none ∧
    tzero Tryd.prog 134 = some [.lst true 0 [], .int .i64 0, .int .i64 0, .str ByteArray.empty] ∧
    tstr Tryd.prog 134 = false ∧
    tnoint Tryd.prog 134 = true ∧
    tconc Tryd.prog 134 = true ∧
    tinfo Tryd.prog 135 = some (false, 1) ∧
    telem Tryd.prog 135 = some (141, 2, 16) ∧
    tzero Tryd.prog 135 = some [.lst true 0 []] ∧
    tstr Tryd.prog 135 = false ∧
    tnoint Tryd.prog 135 = true ∧
    tconc Tryd.prog 135 = true ∧
    tinfo Tryd.prog 137 = some (true, 2) ∧
    tbuilt Tryd.prog 137 = true ∧
    foff Tryd.prog 137 0 = some (0, 3) ∧
    bplace Tryd.prog 137 0 = some (0, 1) ∧
    foff Tryd.prog 137 1 = some (1, 135) ∧
    bplace Tryd.prog 137 1 = some (1, 1) ∧
    telem Tryd.prog 137 = none ∧
    tzero Tryd.prog 137 = some [.int .i64 0, .lst true 0 []] ∧
    tstr Tryd.prog 137 = false :=
  ⟨by kernel_rfl, by kernel_rfl, by kernel_rfl, by kernel_rfl, by kernel_rfl, by kernel_rfl, by kernel_rfl, by kernel_rfl, by kernel_rfl, by kernel_rfl, by kernel_rfl, by kernel_rfl, by kernel_rfl, by kernel_rfl, by kernel_rfl, by kernel_rfl, by kernel_rfl, by kernel_rfl, by kernel_rfl, by kernel_rfl, by kernel_rfl, by kernel_rfl, by kernel_rfl, by kernel_rfl, by kernel_rfl, by kernel_rfl, by kernel_rfl, by kernel_rfl, by kernel_rfl, by kernel_rfl, by kernel_rfl, by kernel_rfl, by kernel_rfl, by kernel_rfl, by kernel_rfl, by kernel_rfl, by kernel_rfl, by kernel_rfl, by kernel_rfl, by kernel_rfl, by kernel_rfl, by kernel_rfl, by kernel_rfl, by kernel_rfl, by kernel_rfl, by kernel_rfl, by kernel_rfl, by kernel_rfl, by kernel_rfl, by kernel_rfl, by kernel_rfl, by kernel_rfl, by kernel_rfl, by kernel_rfl, by kernel_rfl, by kernel_rfl, by kernel_rfl, by kernel_rfl, by kernel_rfl, by kernel_rfl, by kernel_rfl, by kernel_rfl, by kernel_rfl, by kernel_rfl, by kernel_rfl, by kernel_rfl, by kernel_rfl, by kernel_rfl, by kernel_rfl, by kernel_rfl, by kernel_rfl, by kernel_rfl, by kernel_rfl, by kernel_rfl, by kernel_rfl, by kernel_rfl, by kernel_rfl, by kernel_rfl, by kernel_rfl, by kernel_rfl, by kernel_rfl, by kernel_rfl, by kernel_rfl, by kernel_rfl, by kernel_rfl, by kernel_rfl, by kernel_rfl, by kernel_rfl, by kernel_rfl, by kernel_rfl, by kernel_rfl, by kernel_rfl, by kernel_rfl, by kernel_rfl, by kernel_rfl, by kernel_rfl, by kernel_rfl, by kernel_rfl, by kernel_rfl, by kernel_rfl, by kernel_rfl, by kernel_rfl, by kernel_rfl, by kernel_rfl, by kernel_rfl, by kernel_rfl, by kernel_rfl, by kernel_rfl, by kernel_rfl, by kernel_rfl, by kernel_rfl, by kernel_rfl, by kernel_rfl, by kernel_rfl, by kernel_rfl, by kernel_rfl, by kernel_rfl, by kernel_rfl, by kernel_rfl, by kernel_rfl⟩
theorem tf3 :
    tnoint Tryd.prog 137 = true ∧
    tconc Tryd.prog 137 = true ∧
    tinfo Tryd.prog 139 = some (true, 10) ∧
    tbuilt Tryd.prog 139 = true ∧
    foff Tryd.prog 139 0 = some (0, 9) ∧
    bplace Tryd.prog 139 0 = some (0, 1) ∧
    foff Tryd.prog 139 1 = some (1, 4) ∧
    bplace Tryd.prog 139 1 = some (1, 1) ∧
    foff Tryd.prog 139 2 = some (2, 64) ∧
    bplace Tryd.prog 139 2 = some (2, 8) ∧
    telem Tryd.prog 139 = none ∧
    tzero Tryd.prog 139 = some [.str ByteArray.empty, .bool false, .int .i64 0, .int .i64 0, .int .i64 0, .str ByteArray.empty, .lst true 0 [], .lst true 0 [], .int .i64 0, .lst true 0 []] ∧
    tstr Tryd.prog 139 = false ∧
    tnoint Tryd.prog 139 = true ∧
    tconc Tryd.prog 139 = true ∧
    tinfo Tryd.prog 141 = some (true, 2) ∧
    tbuilt Tryd.prog 141 = true ∧
    foff Tryd.prog 141 0 = some (0, 3) ∧
    bplace Tryd.prog 141 0 = some (0, 1) ∧
    foff Tryd.prog 141 1 = some (1, 3) ∧
    bplace Tryd.prog 141 1 = some (1, 1) ∧
    telem Tryd.prog 141 = none ∧
    tzero Tryd.prog 141 = some [.int .i64 0, .int .i64 0] ∧
    tstr Tryd.prog 141 = false ∧
    tnoint Tryd.prog 141 = true ∧
    tconc Tryd.prog 141 = true ∧
    tbl Tryd.prog 4 = true :=
  ⟨by kernel_rfl, by kernel_rfl, by kernel_rfl, by kernel_rfl, by kernel_rfl, by kernel_rfl, by kernel_rfl, by kernel_rfl, by kernel_rfl, by kernel_rfl, by kernel_rfl, by kernel_rfl, by kernel_rfl, by kernel_rfl, by kernel_rfl, by kernel_rfl, by kernel_rfl, by kernel_rfl, by kernel_rfl, by kernel_rfl, by kernel_rfl, by kernel_rfl, by kernel_rfl, by kernel_rfl, by kernel_rfl, by kernel_rfl, by kernel_rfl⟩
theorem mixed : Tryd.prog.follows .mixedOrders = true := by kernel_rfl
attribute [go_sem] tf0 tf1 tf2 tf3
end Go.Abs
namespace Go.Abs
open Go.Proofs
set_option maxRecDepth 100000
end Go.Abs
