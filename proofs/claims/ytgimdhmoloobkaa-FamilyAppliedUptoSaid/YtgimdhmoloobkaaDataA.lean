/- A part of the proof: the data of the program. -/
import Derived.Test.YtgimdhmoloobkaaCoreC
import Derived.Test.YtgimdhmoloobkaaProg
import Derived.KernelRfl
set_option linter.all false
namespace Go.Abs
set_option linter.unusedSimpArgs false
set_option maxRecDepth 10000
theorem icell_nb (n : Nat) (x : Int) : nbL n (icell x) := ⟨trivial, trivial⟩
theorem ucell_nb (n : Nat) (x : Int) : nbL n (ucell x) := ⟨trivial, trivial⟩
theorem scell_nb (n : Nat) (x : Str) : nbL n (scell x) := ⟨trivial, trivial⟩
theorem bcell_nb (n : Nat) (x : Bool) : nbL n (bcell x) := ⟨trivial, trivial⟩
theorem nbR_map {α : Type} {f : α → List AV} {n : Nat} (h : ∀ x, nbL n (f x)) : ∀ xs : List α, nbR n (mp f xs)
  | [] => by rw [mp_eq]; trivial
  | x :: xs => by have := nbR_map h xs; rw [mp_eq] at this ⊢; exact ⟨h x, this⟩
theorem loadAV_all {cs : List AV} {n : Nat} (h : cs.length = n) : loadAV true n cs = some (.agg cs) := by
  simp only [loadAV, ← h, Nat.le_refl, if_true, List.take_length]
theorem cell_nbs : (∀ (n : Nat) (xs : List Int), nbR n (mp icell xs) = True) ∧ (∀ (n : Nat) (xs : List Int), nbR n (mp ucell xs) = True) ∧ (∀ (n : Nat) (xs : List Str), nbR n (mp scell xs) = True) ∧ ∀ (n : Nat) (xs : List Bool), nbR n (mp bcell xs) = True := ⟨fun n xs => eq_true (nbR_map (icell_nb n) xs), fun n xs => eq_true (nbR_map (ucell_nb n) xs), fun n xs => eq_true (nbR_map (scell_nb n) xs), fun n xs => eq_true (nbR_map (bcell_nb n) xs)⟩
theorem cell_rens : (∀ (ρ : Nat → Nat) (xs : List Int), renR ρ (mp icell xs) = mp icell xs) ∧ (∀ (ρ : Nat → Nat) (xs : List Str), renR ρ (mp scell xs) = mp scell xs) ∧ ∀ (ρ : Nat → Nat) (xs : List Bool), renR ρ (mp bcell xs) = mp bcell xs := ⟨fun ρ xs => renR_of_nb ρ _ (nbR_map (icell_nb 0) xs), fun ρ xs => renR_of_nb ρ _ (nbR_map (scell_nb 0) xs), fun ρ xs => renR_of_nb ρ _ (nbR_map (bcell_nb 0) xs)⟩
attribute [go_sem] icell scell bcell ucell cell_nbs cell_rens
theorem mapO_set {α β : Type} {f : β → Option α} {g : α → β} (h : ∀ x, f (g x) = some x) : ∀ (xs : List α) (i : Nat) (r : β), mapO f ((mp g xs).set i r) = bif decide (i < xs.length) then (f r).bind fun y => some (xs.set i y) else some xs := by
  intro xs
  rw [mp_eq]
  induction xs with
  | nil => intro i r; simp [mapO]
  | cons x xs ih =>
    intro i r
    cases i with
    | zero =>
      simp only [List.map_cons, List.set_cons_zero, mapO, mapO_map h, List.length_cons, Nat.zero_lt_succ, decide_true, cond_true]
      cases f r <;> rfl
    | succ i =>
      simp only [List.map_cons, List.set_cons_succ, mapO, h, ih i r, List.length_cons, Nat.succ_lt_succ_iff, Option.bind_some]
      by_cases hi : i < xs.length
      · simp only [hi, decide_true, cond_true]; cases f r <;> rfl
      · simp only [hi, decide_false, cond_false]; rfl
theorem mapO_set1 : (∀ (xs : List Int) (i : Nat) (r : List AV), mapO (dI1 .i64) ((mp icell xs).set i r) = bif decide (i < xs.length) then (dI1 .i64 r).bind fun y => some (xs.set i y) else some xs) ∧ (∀ (xs : List Bool) (i : Nat) (r : List AV), mapO dB1 ((mp bcell xs).set i r) = bif decide (i < xs.length) then (dB1 r).bind fun y => some (xs.set i y) else some xs) ∧ (∀ (xs : List Str) (i : Nat) (r : List AV), mapO dS1 ((mp scell xs).set i r) = bif decide (i < xs.length) then (dS1 r).bind fun y => some (xs.set i y) else some xs) := ⟨mapO_set fun x => by simp [dI1, icell, dI], mapO_set fun x => rfl, mapO_set fun x => rfl⟩
attribute [go_sem] mapO_set1
theorem mapO_repl {α β : Type} {f : β → Option α} {z : β} : ∀ n : Nat, mapO f (List.replicate n z) = bif n == 0 then some [] else (f z).bind fun y => some (List.replicate n y)
  | 0 => rfl
  | n + 1 => by
    simp only [List.replicate_succ, mapO, mapO_repl n]
    cases f z with
    | none => rfl
    | some y => cases n <;> rfl
attribute [go_sem] mapO_repl
theorem lst_of {β : Type} {t : Bool} {z k : Nat} {r rows' : List (List AV)} {o : Option β} {x : β} (hok : o = some x → SubR r rows') (h : (bif szOK z k r then o else none) = some x) : Sub (.lst t z r) (.lst false k rows') := by
  cases hs : szOK z k r with
  | false => simp [hs] at h
  | true => rw [hs] at h; exact sub_lst_sz hs (hok h)

structure LevelVar where
  index : Int
  plus : Int
def LevelVar.cells (x : LevelVar) : List AV := [.int .i64 x.index, .int .i64 x.plus]
theorem LevelVar.cells_cat (x : LevelVar) : x.cells = [.int .i64 x.index, .int .i64 x.plus] := rfl
theorem LevelVar.cells_eq (x : LevelVar) : x.cells = [.int .i64 x.index, .int .i64 x.plus] := rfl
attribute [irreducible] LevelVar.cells
theorem LevelVar.length (x : LevelVar) : x.cells.length = 2 := by rw [LevelVar.cells_eq]; rfl
theorem LevelVar.scalar (x : LevelVar) : x.cells.all AV.scalar = true := by rw [LevelVar.cells_eq]; rfl
theorem LevelVar.nb (n : Nat) (x : LevelVar) : nbL n x.cells := by
  rw [LevelVar.cells_cat]
  exact ⟨trivial, trivial, trivial⟩
def LevelVar.of (H : List AObj) : List AV → Option LevelVar
  | [c0, c1] => (dI .i64 c0).bind fun x0 => (dI .i64 c1).bind fun x1 => some (.mk x0 x1)
  | _ => none
theorem LevelVar.of_lit {H : List AObj} {c0 c1 : AV} : LevelVar.of H [c0, c1] = (dI .i64 c0).bind fun x0 => (dI .i64 c1).bind fun x1 => some (.mk x0 x1) := rfl
theorem LevelVar.of_lit_cells (H : List AObj) (x : LevelVar) : LevelVar.of H [.int .i64 x.index, .int .i64 x.plus] = some x := by
  simp only [LevelVar.of_lit, dI_int, dB_bool, dS_sb, bind_some', szOK, beq_self_eq_true, Bool.true_or, cond_true, dL]
  try (cases x; rfl)
theorem LevelVar.of_cells (H : List AObj) (x : LevelVar) : LevelVar.of H x.cells = some x := by rw [LevelVar.cells_eq]; exact LevelVar.of_lit_cells H x
theorem LevelVar.of_ok {H : List AObj} {n : Nat} {cs : List AV} {x : LevelVar} (h : LevelVar.of H cs = some x) : CoL1 H n cs x.cells := by
  unfold LevelVar.of at h
  split at h
  · simp only [Option.bind_eq_some_iff, Option.some.injEq] at h
    obtain ⟨x0, h0, x1, h1, rfl⟩ := h
    rw [LevelVar.cells_cat]
    exact (CoL1.cons (dI_ok h0) (CoL1.cons (dI_ok h1) CoL1.nil))
  · cases h
def LevelVar.cel : Cel LevelVar := ⟨LevelVar.cells, LevelVar.of, fun _ _ _ _ h => LevelVar.of_ok h, LevelVar.nb⟩
def LevelVar.row : Row LevelVar := ⟨LevelVar.cells, LevelVar.of [], 2, fun _ _ h => (LevelVar.of_ok (n := 0) h).toSub, LevelVar.nb⟩
theorem LevelVar.mapO_cells (xs : List LevelVar) : mapO (LevelVar.of []) (mp LevelVar.cells xs) = some xs := mapO_mp (LevelVar.of_cells []) xs
theorem LevelVar.mapO_set (xs : List LevelVar) (i : Nat) (r : List AV) : mapO (LevelVar.of []) ((mp LevelVar.cells xs).set i r) = bif decide (i < xs.length) then (LevelVar.of [] r).bind fun y => some (xs.set i y) else some xs := Go.Abs.mapO_set (LevelVar.of_cells []) xs i r
attribute [go_sem low] LevelVar.mapO_set
theorem LevelVar.row_f : LevelVar.row.enc = LevelVar.cells ∧ LevelVar.row.dec = LevelVar.of [] ∧ LevelVar.row.sz = 2 ∧ LevelVar.cel.enc = LevelVar.cells ∧ LevelVar.cel.dec = LevelVar.of := ⟨rfl, rfl, rfl, rfl, rfl⟩
theorem LevelVar.eta (x : LevelVar) : LevelVar.mk x.index x.plus = x := by cases x; rfl
attribute [go_sem] LevelVar.of_lit LevelVar.of_cells LevelVar.mapO_cells LevelVar.row_f LevelVar.eta
theorem LevelVar.prj : (∀ (y0 : Int) (y1 : Int), (LevelVar.mk y0 y1).index = y0) ∧ (∀ (y0 : Int) (y1 : Int), (LevelVar.mk y0 y1).plus = y1) := ⟨fun _ _ => rfl, fun _ _ => rfl⟩
attribute [go_sem] LevelVar.prj
theorem LevelVar.nbs : (∀ (n : Nat) (x : LevelVar), Go.Abs.nbL n x.cells = True) ∧ ∀ (n : Nat) (xs : List LevelVar), Go.Abs.nbR n (mp LevelVar.cells xs) = True := ⟨fun n x => eq_true (LevelVar.nb n x), fun n xs => eq_true (nbR_map (LevelVar.nb n) xs)⟩
theorem LevelVar.rens : (∀ (ρ : Nat → Nat) (x : LevelVar), renL ρ x.cells = x.cells) ∧ ∀ (ρ : Nat → Nat) (xs : List LevelVar), renR ρ (mp LevelVar.cells xs) = mp LevelVar.cells xs := ⟨fun ρ x => renL_of_nb ρ _ (LevelVar.nb 0 x), fun ρ xs => renR_of_nb ρ _ (nbR_map (LevelVar.nb 0) xs)⟩
theorem LevelVar.vw (H : List AObj) (x : LevelVar) : vwL H x.cells = some (x.cells, []) := vwL_of_nb H _ (LevelVar.nb 0 x)
attribute [go_sem] LevelVar.vw
theorem LevelVar.frz (low : Nat) (H : List AObj) (x : LevelVar) : frzL low H x.cells = x.cells := frzL_of_nb low H _ (LevelVar.nb 0 x)
theorem LevelVar.rpv (l : Nat) (ds : List AV) (x : LevelVar) : x.cells.map (rpV l ds) = x.cells := rpVL_of_nb _ (LevelVar.nb 0 x)
attribute [go_sem] LevelVar.rpv
theorem LevelVar.tk : (∀ x : LevelVar, List.take 2 x.cells = x.cells) ∧ ∀ x : LevelVar, List.drop 2 x.cells = [] := ⟨fun x => by rw [LevelVar.cells_eq]; rfl, fun x => by rw [LevelVar.cells_eq]; rfl⟩
attribute [go_sem] LevelVar.tk
theorem LevelVar.reads :
    (∀ x : LevelVar, cellsOf (.agg x.cells) = some x.cells) ∧
    (∀ x : LevelVar, loadAV true 2 x.cells = some (.agg x.cells)) ∧
    (∀ x : LevelVar, loadAV false 1 x.cells = some (.int .i64 x.index)) ∧
    (∀ x : LevelVar, loadAV false 1 (x.cells.drop 1) = some (.int .i64 x.plus)) :=
  ⟨fun x => by simp only [cellsOf, LevelVar.scalar, if_true],
   fun x => loadAV_all (LevelVar.length x),
   fun x => by rw [LevelVar.cells_eq]; rfl,
   fun x => by rw [LevelVar.cells_eq]; rfl⟩
theorem LevelVar.splc (x : LevelVar) (o : Nat) (xs : List AV) : splice x.cells o xs = splice [.int .i64 x.index, .int .i64 x.plus] o xs := by rw [LevelVar.cells_eq]
theorem LevelVar.splc2 (x : LevelVar) (o : Nat) (c : AV) (cs : List AV) : splice (c :: cs) o x.cells = splice (c :: cs) o [.int .i64 x.index, .int .i64 x.plus] := by rw [LevelVar.cells_eq]
theorem LevelVar.app (x : LevelVar) (l : List AV) : x.cells ++ l = (.int .i64 x.index : AV) :: (.int .i64 x.plus : AV) :: l := by rw [LevelVar.cells_eq]; rfl
theorem LevelVar.cns (x : LevelVar) (c : AV) : c :: x.cells = [c, .int .i64 x.index, .int .i64 x.plus] := by rw [LevelVar.cells_eq]
attribute [go_sem] LevelVar.app LevelVar.cns
attribute [go_sem] LevelVar.nbs LevelVar.rens LevelVar.frz LevelVar.reads LevelVar.length LevelVar.scalar
attribute [go_sem low] LevelVar.splc LevelVar.splc2

structure Level where
  const : Int
  vars : List LevelVar
def Level.cells (x : Level) : List AV := [.int .i64 x.const, .lst false 2 (mp LevelVar.cells x.vars)]
theorem Level.cells_cat (x : Level) : x.cells = [.int .i64 x.const, .lst false 2 (mp LevelVar.cells x.vars)] := rfl
theorem Level.cells_eq (x : Level) : x.cells = [.int .i64 x.const, .lst false 2 (mp LevelVar.cells x.vars)] := rfl
attribute [irreducible] Level.cells
theorem Level.length (x : Level) : x.cells.length = 2 := by rw [Level.cells_eq]; rfl
theorem Level.scalar (x : Level) : x.cells.all AV.scalar = true := by rw [Level.cells_eq]; rfl
theorem Level.nb (n : Nat) (x : Level) : nbL n x.cells := by
  rw [Level.cells_cat]
  exact ⟨trivial, nbR_map (LevelVar.nb n) _, trivial⟩
def Level.of (H : List AObj) : List AV → Option Level
  | [c0, c1] => (dI .i64 c0).bind fun x0 => (dL LevelVar.row H c1).bind fun x1 => some (.mk x0 x1)
  | _ => none
theorem Level.of_lit {H : List AObj} {c0 c1 : AV} : Level.of H [c0, c1] = (dI .i64 c0).bind fun x0 => (dL LevelVar.row H c1).bind fun x1 => some (.mk x0 x1) := rfl
theorem Level.of_lit_cells (H : List AObj) (x : Level) : Level.of H [.int .i64 x.const, .lst false 2 (mp LevelVar.cells x.vars)] = some x := by
  simp only [Level.of_lit, dI_int, dB_bool, dS_sb, bind_some', szOK, beq_self_eq_true, Bool.true_or, cond_true, dL, LevelVar.mapO_cells, LevelVar.row]
  try (cases x; rfl)
theorem Level.of_cells (H : List AObj) (x : Level) : Level.of H x.cells = some x := by rw [Level.cells_eq]; exact Level.of_lit_cells H x
theorem Level.of_ok {H : List AObj} {n : Nat} {cs : List AV} {x : Level} (h : Level.of H cs = some x) : CoL1 H n cs x.cells := by
  unfold Level.of at h
  split at h
  · simp only [Option.bind_eq_some_iff, Option.some.injEq] at h
    obtain ⟨x0, h0, x1, h1, rfl⟩ := h
    rw [Level.cells_cat]
    exact (CoL1.cons (dI_ok h0) (CoL1.cons (dL_ok h1) CoL1.nil))
  · cases h
def Level.cel : Cel Level := ⟨Level.cells, Level.of, fun _ _ _ _ h => Level.of_ok h, Level.nb⟩
def Level.row : Row Level := ⟨Level.cells, Level.of [], 2, fun _ _ h => (Level.of_ok (n := 0) h).toSub, Level.nb⟩
theorem Level.mapO_cells (xs : List Level) : mapO (Level.of []) (mp Level.cells xs) = some xs := mapO_mp (Level.of_cells []) xs
theorem Level.mapO_set (xs : List Level) (i : Nat) (r : List AV) : mapO (Level.of []) ((mp Level.cells xs).set i r) = bif decide (i < xs.length) then (Level.of [] r).bind fun y => some (xs.set i y) else some xs := Go.Abs.mapO_set (Level.of_cells []) xs i r
attribute [go_sem low] Level.mapO_set
theorem Level.row_f : Level.row.enc = Level.cells ∧ Level.row.dec = Level.of [] ∧ Level.row.sz = 2 ∧ Level.cel.enc = Level.cells ∧ Level.cel.dec = Level.of := ⟨rfl, rfl, rfl, rfl, rfl⟩
theorem Level.eta (x : Level) : Level.mk x.const x.vars = x := by cases x; rfl
attribute [go_sem] Level.of_lit Level.of_cells Level.mapO_cells Level.row_f Level.eta
theorem Level.prj : (∀ (y0 : Int) (y1 : List LevelVar), (Level.mk y0 y1).const = y0) ∧ (∀ (y0 : Int) (y1 : List LevelVar), (Level.mk y0 y1).vars = y1) := ⟨fun _ _ => rfl, fun _ _ => rfl⟩
attribute [go_sem] Level.prj
theorem Level.nbs : (∀ (n : Nat) (x : Level), Go.Abs.nbL n x.cells = True) ∧ ∀ (n : Nat) (xs : List Level), Go.Abs.nbR n (mp Level.cells xs) = True := ⟨fun n x => eq_true (Level.nb n x), fun n xs => eq_true (nbR_map (Level.nb n) xs)⟩
theorem Level.rens : (∀ (ρ : Nat → Nat) (x : Level), renL ρ x.cells = x.cells) ∧ ∀ (ρ : Nat → Nat) (xs : List Level), renR ρ (mp Level.cells xs) = mp Level.cells xs := ⟨fun ρ x => renL_of_nb ρ _ (Level.nb 0 x), fun ρ xs => renR_of_nb ρ _ (nbR_map (Level.nb 0) xs)⟩
theorem Level.vw (H : List AObj) (x : Level) : vwL H x.cells = some (x.cells, []) := vwL_of_nb H _ (Level.nb 0 x)
attribute [go_sem] Level.vw
theorem Level.frz (low : Nat) (H : List AObj) (x : Level) : frzL low H x.cells = x.cells := frzL_of_nb low H _ (Level.nb 0 x)
theorem Level.rpv (l : Nat) (ds : List AV) (x : Level) : x.cells.map (rpV l ds) = x.cells := rpVL_of_nb _ (Level.nb 0 x)
attribute [go_sem] Level.rpv
theorem Level.tk : (∀ x : Level, List.take 2 x.cells = x.cells) ∧ ∀ x : Level, List.drop 2 x.cells = [] := ⟨fun x => by rw [Level.cells_eq]; rfl, fun x => by rw [Level.cells_eq]; rfl⟩
attribute [go_sem] Level.tk
theorem Level.reads :
    (∀ x : Level, cellsOf (.agg x.cells) = some x.cells) ∧
    (∀ x : Level, loadAV true 2 x.cells = some (.agg x.cells)) ∧
    (∀ x : Level, loadAV false 1 x.cells = some (.int .i64 x.const)) ∧
    (∀ x : Level, loadAV false 1 (x.cells.drop 1) = some (.lst false 2 (mp LevelVar.cells x.vars))) :=
  ⟨fun x => by simp only [cellsOf, Level.scalar, if_true],
   fun x => loadAV_all (Level.length x),
   fun x => by rw [Level.cells_eq]; rfl,
   fun x => by rw [Level.cells_eq]; rfl⟩
theorem Level.splc (x : Level) (o : Nat) (xs : List AV) : splice x.cells o xs = splice [.int .i64 x.const, .lst false 2 (mp LevelVar.cells x.vars)] o xs := by rw [Level.cells_eq]
theorem Level.splc2 (x : Level) (o : Nat) (c : AV) (cs : List AV) : splice (c :: cs) o x.cells = splice (c :: cs) o [.int .i64 x.const, .lst false 2 (mp LevelVar.cells x.vars)] := by rw [Level.cells_eq]
theorem Level.app (x : Level) (l : List AV) : x.cells ++ l = (.int .i64 x.const : AV) :: (.lst false 2 (mp LevelVar.cells x.vars) : AV) :: l := by rw [Level.cells_eq]; rfl
theorem Level.cns (x : Level) (c : AV) : c :: x.cells = [c, .int .i64 x.const, .lst false 2 (mp LevelVar.cells x.vars)] := by rw [Level.cells_eq]
attribute [go_sem] Level.app Level.cns
attribute [go_sem] Level.nbs Level.rens Level.frz Level.reads Level.length Level.scalar
attribute [go_sem low] Level.splc Level.splc2

inductive Term where
  | mk (kind : Int) (index : Int) (name : Str) (levels : List Level) (kids : List Term)
def Term.kind : Term → Int | .mk x _ _ _ _ => x
def Term.index : Term → Int | .mk _ x _ _ _ => x
def Term.name : Term → Str | .mk _ _ x _ _ => x
def Term.levels : Term → List Level | .mk _ _ _ x _ => x
def Term.kids : Term → List Term | .mk _ _ _ _ x => x
mutual
def Term.cells : Term → List AV
  | .mk kind index name levels kids => [.int .i64 kind, .int .i64 index, .str (sb name), .lst false 2 (mp Level.cells levels), .lst false 5 (Term.cellsL kids)]
def Term.cellsL : List Term → List (List AV)
  | [] => []
  | t :: ts => t.cells :: Term.cellsL ts
end
theorem Term.cellsL_eq : ∀ ts : List Term, Term.cellsL ts = mp Term.cells ts
  | [] => by rw [mp_eq]; rfl
  | t :: ts => by rw [Term.cellsL, Term.cellsL_eq ts, mp_eq, mp_eq]; rfl
theorem Term.cells_cat (x : Term) : x.cells = [.int .i64 x.kind, .int .i64 x.index, .str (sb x.name), .lst false 2 (mp Level.cells x.levels), .lst false 5 (mp Term.cells x.kids)] := by
  cases x
  simp only [Term.cells, Term.cellsL_eq]
  rfl
theorem Term.cells_eq (x : Term) : x.cells = [.int .i64 x.kind, .int .i64 x.index, .str (sb x.name), .lst false 2 (mp Level.cells x.levels), .lst false 5 (mp Term.cells x.kids)] := by
  cases x
  simp only [Term.cells, Term.cellsL_eq, List.cons_append, List.nil_append, List.append_nil]
  rfl
attribute [irreducible] Term.cells
theorem Term.length (x : Term) : x.cells.length = 5 := by rw [Term.cells_eq]; rfl
theorem Term.scalar (x : Term) : x.cells.all AV.scalar = true := by rw [Term.cells_eq]; rfl
mutual
theorem Term.nb (n : Nat) : ∀ x : Term, nbL n x.cells
  | .mk kind index name levels kids => by
    rw [Term.cells_cat]
    exact ⟨trivial, trivial, trivial, nbR_map (Level.nb n) _, Term.nbR n kids, trivial⟩
theorem Term.nbR (n : Nat) : ∀ ts : List Term, nbR n (mp Term.cells ts)
  | [] => by rw [mp_eq]; trivial
  | t :: ts => by have := Term.nbR n ts; rw [mp_eq] at this ⊢; exact ⟨Term.nb n t, this⟩
end
mutual
def Term.of0 : List AV → Option Term
  | [c0, c1, c2, c3, .lst _ z4 r4] => (dI .i64 c0).bind fun x0 => (dI .i64 c1).bind fun x1 => (dS c2).bind fun x2 => (dL Level.row [] c3).bind fun x3 => (bif szOK z4 5 r4 then Term.ofR r4 else none).bind fun x4 => some (.mk x0 x1 x2 x3 x4)
  | _ => none
def Term.ofR : List (List AV) → Option (List Term)
  | [] => some []
  | r :: rs => (Term.of0 r).bind fun x => (Term.ofR rs).bind fun xs => some (x :: xs)
end
theorem Term.ofR_eq : ∀ rs, Term.ofR rs = mapO Term.of0 rs
  | [] => by simp only [Term.ofR, mapO]
  | r :: rs => by simp only [Term.ofR, mapO, Term.ofR_eq rs]
mutual
theorem Term.of0_cells : ∀ x : Term, Term.of0 x.cells = some x
  | .mk kind index name levels kids => by
    rw [Term.cells_eq]
    show Term.of0 [.int .i64 kind, .int .i64 index, .str (sb name), .lst false 2 (mp Level.cells levels), .lst false 5 (mp Term.cells kids)] = _
    simp only [Term.of0, dI_int, dB_bool, dS_sb, bind_some', szOK, beq_self_eq_true, Bool.true_or, cond_true, dL, Term.ofR_cells kids, Level.mapO_cells, Level.row]
theorem Term.ofR_cells : ∀ xs : List Term, Term.ofR (mp Term.cells xs) = some xs
  | [] => by rw [mp_eq]; simp only [List.map_nil, Term.ofR]
  | x :: xs => by have h := Term.ofR_cells xs; rw [mp_eq] at h ⊢; simp only [List.map_cons, Term.ofR, Term.of0_cells x, h, bind_some']
end
mutual
theorem Term.of0_ok : ∀ (x : Term) (r : List AV), Term.of0 r = some x → SubE r x.cells
  | .mk kind index name levels kids, r, h => by
    unfold Term.of0 at h
    split at h
    · simp only [Option.bind_eq_some_iff, Option.some.injEq, Term.mk.injEq] at h
      obtain ⟨x0, h0, x1, h1, x2, h2, x3, h3, x4, h4, e0, e1, e2, e3, e4⟩ := h
      rw [e0] at h0
      rw [e1] at h1
      rw [e2] at h2
      rw [e3] at h3
      rw [e4] at h4
      rw [Term.cells_cat]
      exact (SubE.cons ((dI_ok (H := []) (n := 0) h0).toSub) (SubE.cons ((dI_ok (H := []) (n := 0) h1).toSub) (SubE.cons ((dS_ok (H := []) (n := 0) h2).toSub) (SubE.cons ((dL_ok (H := []) (n := 0) h3).toSub) (SubE.cons (lst_of (Term.ofR_ok kids _) h4) SubE.nil)))))
    · cases h
theorem Term.ofR_ok : ∀ (xs : List Term) (rs : List (List AV)), Term.ofR rs = some xs → SubR rs (mp Term.cells xs)
  | [], rs, h => by
    cases rs with
    | nil => rw [mp_eq]; exact SubR.nil
    | cons r rs =>
      simp only [Term.ofR, Option.bind_eq_some_iff, Option.some.injEq] at h
      obtain ⟨_, _, _, _, h⟩ := h
      cases h
  | x :: xs, rs, h => by
    cases rs with
    | nil => simp only [Term.ofR, Option.some.injEq] at h; cases h
    | cons r rs =>
      simp only [Term.ofR, Option.bind_eq_some_iff, Option.some.injEq, List.cons.injEq] at h
      obtain ⟨_, hx, _, hys, rfl, rfl⟩ := h
      have h2 := Term.ofR_ok _ rs hys
      rw [mp_eq] at h2 ⊢
      exact SubR.cons (Term.of0_ok _ r hx).subM h2
end
def Term.row : Row Term := ⟨Term.cells, Term.of0, 5, fun r x h => Term.of0_ok x r h, Term.nb⟩
theorem Term.mapO_cells (xs : List Term) : mapO Term.of0 (mp Term.cells xs) = some xs := mapO_mp Term.of0_cells xs
theorem Term.mapO_set (xs : List Term) (i : Nat) (r : List AV) : mapO Term.of0 ((mp Term.cells xs).set i r) = bif decide (i < xs.length) then (Term.of0 r).bind fun y => some (xs.set i y) else some xs := Go.Abs.mapO_set Term.of0_cells xs i r
attribute [go_sem low] Term.mapO_set
def Term.of (H : List AObj) : List AV → Option Term
  | [c0, c1, c2, c3, c4] => (dI .i64 c0).bind fun x0 => (dI .i64 c1).bind fun x1 => (dS c2).bind fun x2 => (dL Level.row H c3).bind fun x3 => (dL Term.row H c4).bind fun x4 => some (.mk x0 x1 x2 x3 x4)
  | _ => none
theorem Term.of_lit {H : List AObj} {c0 c1 c2 c3 c4 : AV} : Term.of H [c0, c1, c2, c3, c4] = (dI .i64 c0).bind fun x0 => (dI .i64 c1).bind fun x1 => (dS c2).bind fun x2 => (dL Level.row H c3).bind fun x3 => (dL Term.row H c4).bind fun x4 => some (.mk x0 x1 x2 x3 x4) := rfl
theorem Term.of_lit_cells (H : List AObj) (x : Term) : Term.of H [.int .i64 x.kind, .int .i64 x.index, .str (sb x.name), .lst false 2 (mp Level.cells x.levels), .lst false 5 (mp Term.cells x.kids)] = some x := by
  simp only [Term.of_lit, dI_int, dB_bool, dS_sb, bind_some', szOK, beq_self_eq_true, Bool.true_or, cond_true, dL, Level.mapO_cells, Level.row, Term.mapO_cells, Term.row]
  try (cases x; rfl)
theorem Term.of_cells (H : List AObj) (x : Term) : Term.of H x.cells = some x := by rw [Term.cells_eq]; exact Term.of_lit_cells H x
theorem Term.of_ok {H : List AObj} {n : Nat} {cs : List AV} {x : Term} (h : Term.of H cs = some x) : CoL1 H n cs x.cells := by
  unfold Term.of at h
  split at h
  · simp only [Option.bind_eq_some_iff, Option.some.injEq] at h
    obtain ⟨x0, h0, x1, h1, x2, h2, x3, h3, x4, h4, rfl⟩ := h
    rw [Term.cells_cat]
    exact (CoL1.cons (dI_ok h0) (CoL1.cons (dI_ok h1) (CoL1.cons (dS_ok h2) (CoL1.cons (dL_ok h3) (CoL1.cons (dL_ok h4) CoL1.nil)))))
  · cases h
def Term.cel : Cel Term := ⟨Term.cells, Term.of, fun _ _ _ _ h => Term.of_ok h, Term.nb⟩
theorem Term.row_f : Term.row.enc = Term.cells ∧ Term.row.dec = Term.of0 ∧ Term.row.sz = 5 ∧ Term.cel.enc = Term.cells ∧ Term.cel.dec = Term.of := ⟨rfl, rfl, rfl, rfl, rfl⟩
theorem Term.eta (x : Term) : Term.mk x.kind x.index x.name x.levels x.kids = x := by cases x; rfl
attribute [go_sem] Term.of_lit Term.of_cells Term.mapO_cells Term.row_f Term.eta
attribute [go_sem] Term.of0 Term.of0_cells
attribute [go_sem] Term.ofR_eq
theorem Term.prj : (∀ (y0 : Int) (y1 : Int) (y2 : Str) (y3 : List Level) (y4 : List Term), (Term.mk y0 y1 y2 y3 y4).kind = y0) ∧ (∀ (y0 : Int) (y1 : Int) (y2 : Str) (y3 : List Level) (y4 : List Term), (Term.mk y0 y1 y2 y3 y4).index = y1) ∧ (∀ (y0 : Int) (y1 : Int) (y2 : Str) (y3 : List Level) (y4 : List Term), (Term.mk y0 y1 y2 y3 y4).name = y2) ∧ (∀ (y0 : Int) (y1 : Int) (y2 : Str) (y3 : List Level) (y4 : List Term), (Term.mk y0 y1 y2 y3 y4).levels = y3) ∧ (∀ (y0 : Int) (y1 : Int) (y2 : Str) (y3 : List Level) (y4 : List Term), (Term.mk y0 y1 y2 y3 y4).kids = y4) := ⟨fun _ _ _ _ _ => rfl, fun _ _ _ _ _ => rfl, fun _ _ _ _ _ => rfl, fun _ _ _ _ _ => rfl, fun _ _ _ _ _ => rfl⟩
attribute [go_sem] Term.prj
theorem Term.nbs : (∀ (n : Nat) (x : Term), Go.Abs.nbL n x.cells = True) ∧ ∀ (n : Nat) (xs : List Term), Go.Abs.nbR n (mp Term.cells xs) = True := ⟨fun n x => eq_true (Term.nb n x), fun n xs => eq_true (nbR_map (Term.nb n) xs)⟩
theorem Term.rens : (∀ (ρ : Nat → Nat) (x : Term), renL ρ x.cells = x.cells) ∧ ∀ (ρ : Nat → Nat) (xs : List Term), renR ρ (mp Term.cells xs) = mp Term.cells xs := ⟨fun ρ x => renL_of_nb ρ _ (Term.nb 0 x), fun ρ xs => renR_of_nb ρ _ (nbR_map (Term.nb 0) xs)⟩
theorem Term.vw (H : List AObj) (x : Term) : vwL H x.cells = some (x.cells, []) := vwL_of_nb H _ (Term.nb 0 x)
attribute [go_sem] Term.vw
theorem Term.frz (low : Nat) (H : List AObj) (x : Term) : frzL low H x.cells = x.cells := frzL_of_nb low H _ (Term.nb 0 x)
theorem Term.rpv (l : Nat) (ds : List AV) (x : Term) : x.cells.map (rpV l ds) = x.cells := rpVL_of_nb _ (Term.nb 0 x)
attribute [go_sem] Term.rpv
theorem Term.tk : (∀ x : Term, List.take 5 x.cells = x.cells) ∧ ∀ x : Term, List.drop 5 x.cells = [] := ⟨fun x => by rw [Term.cells_eq]; rfl, fun x => by rw [Term.cells_eq]; rfl⟩
attribute [go_sem] Term.tk
theorem Term.reads :
    (∀ x : Term, cellsOf (.agg x.cells) = some x.cells) ∧
    (∀ x : Term, loadAV true 5 x.cells = some (.agg x.cells)) ∧
    (∀ x : Term, loadAV false 1 x.cells = some (.int .i64 x.kind)) ∧
    (∀ x : Term, loadAV false 1 (x.cells.drop 1) = some (.int .i64 x.index)) ∧
    (∀ x : Term, loadAV false 1 (x.cells.drop 2) = some (.str (sb x.name))) ∧
    (∀ x : Term, loadAV false 1 (x.cells.drop 3) = some (.lst false 2 (mp Level.cells x.levels))) ∧
    (∀ x : Term, loadAV false 1 (x.cells.drop 4) = some (.lst false 5 (mp Term.cells x.kids))) :=
  ⟨fun x => by simp only [cellsOf, Term.scalar, if_true],
   fun x => loadAV_all (Term.length x),
   fun x => by rw [Term.cells_eq]; rfl,
   fun x => by rw [Term.cells_eq]; rfl,
   fun x => by rw [Term.cells_eq]; rfl,
   fun x => by rw [Term.cells_eq]; rfl,
   fun x => by rw [Term.cells_eq]; rfl⟩
theorem Term.splc (x : Term) (o : Nat) (xs : List AV) : splice x.cells o xs = splice [.int .i64 x.kind, .int .i64 x.index, .str (sb x.name), .lst false 2 (mp Level.cells x.levels), .lst false 5 (mp Term.cells x.kids)] o xs := by rw [Term.cells_eq]
theorem Term.splc2 (x : Term) (o : Nat) (c : AV) (cs : List AV) : splice (c :: cs) o x.cells = splice (c :: cs) o [.int .i64 x.kind, .int .i64 x.index, .str (sb x.name), .lst false 2 (mp Level.cells x.levels), .lst false 5 (mp Term.cells x.kids)] := by rw [Term.cells_eq]
theorem Term.app (x : Term) (l : List AV) : x.cells ++ l = (.int .i64 x.kind : AV) :: (.int .i64 x.index : AV) :: (.str (sb x.name) : AV) :: (.lst false 2 (mp Level.cells x.levels) : AV) :: (.lst false 5 (mp Term.cells x.kids) : AV) :: l := by rw [Term.cells_eq]; rfl
theorem Term.cns (x : Term) (c : AV) : c :: x.cells = [c, .int .i64 x.kind, .int .i64 x.index, .str (sb x.name), .lst false 2 (mp Level.cells x.levels), .lst false 5 (mp Term.cells x.kids)] := by rw [Term.cells_eq]
attribute [go_sem] Term.app Term.cns
attribute [go_sem] Term.nbs Term.rens Term.frz Term.reads Term.length Term.scalar
attribute [go_sem low] Term.splc Term.splc2

structure Recursor where
  params : Int
  type : Term
  rules : List Term
def Recursor.cells (x : Recursor) : List AV := [.int .i64 x.params] ++ x.type.cells ++ [.lst false 5 (mp Term.cells x.rules)]
theorem Recursor.cells_cat (x : Recursor) : x.cells = [.int .i64 x.params] ++ x.type.cells ++ [.lst false 5 (mp Term.cells x.rules)] := rfl
theorem Recursor.cells_eq (x : Recursor) : x.cells = [.int .i64 x.params, .int .i64 x.type.kind, .int .i64 x.type.index, .str (sb x.type.name), .lst false 2 (mp Level.cells x.type.levels), .lst false 5 (mp Term.cells x.type.kids), .lst false 5 (mp Term.cells x.rules)] := by
  simp only [Recursor.cells, Term.cells_eq, List.cons_append, List.nil_append, List.append_nil]
attribute [irreducible] Recursor.cells
theorem Recursor.length (x : Recursor) : x.cells.length = 7 := by rw [Recursor.cells_eq]; rfl
theorem Recursor.scalar (x : Recursor) : x.cells.all AV.scalar = true := by rw [Recursor.cells_eq]; rfl
theorem Recursor.nb (n : Nat) (x : Recursor) : nbL n x.cells := by
  rw [Recursor.cells_cat]
  exact (nbL_append (nbL_append ⟨trivial, trivial⟩ (Term.nb n x.type)) ⟨nbR_map (Term.nb n) _, trivial⟩)
def Recursor.of (H : List AObj) : List AV → Option Recursor
  | [c0, c1, c2, c3, c4, c5, c6] => (dI .i64 c0).bind fun x0 => (Term.of H [c1, c2, c3, c4, c5]).bind fun x1 => (dL Term.row H c6).bind fun x2 => some (.mk x0 x1 x2)
  | _ => none
theorem Recursor.of_lit {H : List AObj} {c0 c1 c2 c3 c4 c5 c6 : AV} : Recursor.of H [c0, c1, c2, c3, c4, c5, c6] = (dI .i64 c0).bind fun x0 => (Term.of H [c1, c2, c3, c4, c5]).bind fun x1 => (dL Term.row H c6).bind fun x2 => some (.mk x0 x1 x2) := rfl
theorem Recursor.of_lit_cells (H : List AObj) (x : Recursor) : Recursor.of H [.int .i64 x.params, .int .i64 x.type.kind, .int .i64 x.type.index, .str (sb x.type.name), .lst false 2 (mp Level.cells x.type.levels), .lst false 5 (mp Term.cells x.type.kids), .lst false 5 (mp Term.cells x.rules)] = some x := by
  simp only [Recursor.of_lit, dI_int, dB_bool, dS_sb, bind_some', szOK, beq_self_eq_true, Bool.true_or, cond_true, dL, Term.mapO_cells, Term.row, Term.of_lit_cells]
  try (cases x; rfl)
theorem Recursor.of_cells (H : List AObj) (x : Recursor) : Recursor.of H x.cells = some x := by rw [Recursor.cells_eq]; exact Recursor.of_lit_cells H x
theorem Recursor.of_ok {H : List AObj} {n : Nat} {cs : List AV} {x : Recursor} (h : Recursor.of H cs = some x) : CoL1 H n cs x.cells := by
  unfold Recursor.of at h
  split at h
  · simp only [Option.bind_eq_some_iff, Option.some.injEq] at h
    obtain ⟨x0, h0, x1, h1, x2, h2, rfl⟩ := h
    rw [Recursor.cells_cat]
    exact (CoL1.append (CoL1.append (CoL1.cons (dI_ok h0) CoL1.nil) (Term.of_ok h1)) (CoL1.cons (dL_ok h2) CoL1.nil))
  · cases h
def Recursor.cel : Cel Recursor := ⟨Recursor.cells, Recursor.of, fun _ _ _ _ h => Recursor.of_ok h, Recursor.nb⟩
def Recursor.row : Row Recursor := ⟨Recursor.cells, Recursor.of [], 7, fun _ _ h => (Recursor.of_ok (n := 0) h).toSub, Recursor.nb⟩
theorem Recursor.mapO_cells (xs : List Recursor) : mapO (Recursor.of []) (mp Recursor.cells xs) = some xs := mapO_mp (Recursor.of_cells []) xs
theorem Recursor.mapO_set (xs : List Recursor) (i : Nat) (r : List AV) : mapO (Recursor.of []) ((mp Recursor.cells xs).set i r) = bif decide (i < xs.length) then (Recursor.of [] r).bind fun y => some (xs.set i y) else some xs := Go.Abs.mapO_set (Recursor.of_cells []) xs i r
attribute [go_sem low] Recursor.mapO_set
theorem Recursor.row_f : Recursor.row.enc = Recursor.cells ∧ Recursor.row.dec = Recursor.of [] ∧ Recursor.row.sz = 7 ∧ Recursor.cel.enc = Recursor.cells ∧ Recursor.cel.dec = Recursor.of := ⟨rfl, rfl, rfl, rfl, rfl⟩
theorem Recursor.eta (x : Recursor) : Recursor.mk x.params x.type x.rules = x := by cases x; rfl
attribute [go_sem] Recursor.of_lit Recursor.of_cells Recursor.mapO_cells Recursor.row_f Recursor.eta
theorem Recursor.prj : (∀ (y0 : Int) (y1 : Term) (y2 : List Term), (Recursor.mk y0 y1 y2).params = y0) ∧ (∀ (y0 : Int) (y1 : Term) (y2 : List Term), (Recursor.mk y0 y1 y2).type = y1) ∧ (∀ (y0 : Int) (y1 : Term) (y2 : List Term), (Recursor.mk y0 y1 y2).rules = y2) := ⟨fun _ _ _ => rfl, fun _ _ _ => rfl, fun _ _ _ => rfl⟩
attribute [go_sem] Recursor.prj
theorem Recursor.nbs : (∀ (n : Nat) (x : Recursor), Go.Abs.nbL n x.cells = True) ∧ ∀ (n : Nat) (xs : List Recursor), Go.Abs.nbR n (mp Recursor.cells xs) = True := ⟨fun n x => eq_true (Recursor.nb n x), fun n xs => eq_true (nbR_map (Recursor.nb n) xs)⟩
theorem Recursor.rens : (∀ (ρ : Nat → Nat) (x : Recursor), renL ρ x.cells = x.cells) ∧ ∀ (ρ : Nat → Nat) (xs : List Recursor), renR ρ (mp Recursor.cells xs) = mp Recursor.cells xs := ⟨fun ρ x => renL_of_nb ρ _ (Recursor.nb 0 x), fun ρ xs => renR_of_nb ρ _ (nbR_map (Recursor.nb 0) xs)⟩
theorem Recursor.vw (H : List AObj) (x : Recursor) : vwL H x.cells = some (x.cells, []) := vwL_of_nb H _ (Recursor.nb 0 x)
attribute [go_sem] Recursor.vw
theorem Recursor.frz (low : Nat) (H : List AObj) (x : Recursor) : frzL low H x.cells = x.cells := frzL_of_nb low H _ (Recursor.nb 0 x)
theorem Recursor.rpv (l : Nat) (ds : List AV) (x : Recursor) : x.cells.map (rpV l ds) = x.cells := rpVL_of_nb _ (Recursor.nb 0 x)
attribute [go_sem] Recursor.rpv
theorem Recursor.tk : (∀ x : Recursor, List.take 7 x.cells = x.cells) ∧ ∀ x : Recursor, List.drop 7 x.cells = [] := ⟨fun x => by rw [Recursor.cells_eq]; rfl, fun x => by rw [Recursor.cells_eq]; rfl⟩
attribute [go_sem] Recursor.tk
theorem Recursor.reads :
    (∀ x : Recursor, cellsOf (.agg x.cells) = some x.cells) ∧
    (∀ x : Recursor, loadAV true 7 x.cells = some (.agg x.cells)) ∧
    (∀ x : Recursor, loadAV false 1 x.cells = some (.int .i64 x.params)) ∧
    (∀ x : Recursor, loadAV false 1 (x.cells.drop 1) = some (.int .i64 x.type.kind)) ∧
    (∀ x : Recursor, loadAV false 1 (x.cells.drop 2) = some (.int .i64 x.type.index)) ∧
    (∀ x : Recursor, loadAV false 1 (x.cells.drop 3) = some (.str (sb x.type.name))) ∧
    (∀ x : Recursor, loadAV false 1 (x.cells.drop 4) = some (.lst false 2 (mp Level.cells x.type.levels))) ∧
    (∀ x : Recursor, loadAV false 1 (x.cells.drop 5) = some (.lst false 5 (mp Term.cells x.type.kids))) ∧
    (∀ x : Recursor, loadAV false 1 (x.cells.drop 6) = some (.lst false 5 (mp Term.cells x.rules))) ∧
    (∀ x : Recursor, loadAV true 5 (x.cells.drop 1) = some (.agg x.type.cells)) :=
  ⟨fun x => by simp only [cellsOf, Recursor.scalar, if_true],
   fun x => loadAV_all (Recursor.length x),
   fun x => by rw [Recursor.cells_eq]; rfl,
   fun x => by rw [Recursor.cells_eq]; rfl,
   fun x => by rw [Recursor.cells_eq]; rfl,
   fun x => by rw [Recursor.cells_eq]; rfl,
   fun x => by rw [Recursor.cells_eq]; rfl,
   fun x => by rw [Recursor.cells_eq]; rfl,
   fun x => by rw [Recursor.cells_eq]; rfl,
   fun x => by rw [Recursor.cells_eq]; simp only [Term.cells_eq, List.drop_succ_cons, List.drop_zero]; rfl⟩
theorem Recursor.splc (x : Recursor) (o : Nat) (xs : List AV) : splice x.cells o xs = splice [.int .i64 x.params, .int .i64 x.type.kind, .int .i64 x.type.index, .str (sb x.type.name), .lst false 2 (mp Level.cells x.type.levels), .lst false 5 (mp Term.cells x.type.kids), .lst false 5 (mp Term.cells x.rules)] o xs := by rw [Recursor.cells_eq]
theorem Recursor.splc2 (x : Recursor) (o : Nat) (c : AV) (cs : List AV) : splice (c :: cs) o x.cells = splice (c :: cs) o [.int .i64 x.params, .int .i64 x.type.kind, .int .i64 x.type.index, .str (sb x.type.name), .lst false 2 (mp Level.cells x.type.levels), .lst false 5 (mp Term.cells x.type.kids), .lst false 5 (mp Term.cells x.rules)] := by rw [Recursor.cells_eq]
theorem Recursor.app (x : Recursor) (l : List AV) : x.cells ++ l = (.int .i64 x.params : AV) :: (.int .i64 x.type.kind : AV) :: (.int .i64 x.type.index : AV) :: (.str (sb x.type.name) : AV) :: (.lst false 2 (mp Level.cells x.type.levels) : AV) :: (.lst false 5 (mp Term.cells x.type.kids) : AV) :: (.lst false 5 (mp Term.cells x.rules) : AV) :: l := by rw [Recursor.cells_eq]; rfl
theorem Recursor.cns (x : Recursor) (c : AV) : c :: x.cells = [c, .int .i64 x.params, .int .i64 x.type.kind, .int .i64 x.type.index, .str (sb x.type.name), .lst false 2 (mp Level.cells x.type.levels), .lst false 5 (mp Term.cells x.type.kids), .lst false 5 (mp Term.cells x.rules)] := by rw [Recursor.cells_eq]
attribute [go_sem] Recursor.app Recursor.cns
attribute [go_sem] Recursor.nbs Recursor.rens Recursor.frz Recursor.reads Recursor.length Recursor.scalar
attribute [go_sem low] Recursor.splc Recursor.splc2

structure Ctor where
  name : Str
  type : Term
def Ctor.cells (x : Ctor) : List AV := [.str (sb x.name)] ++ x.type.cells
theorem Ctor.cells_cat (x : Ctor) : x.cells = [.str (sb x.name)] ++ x.type.cells := rfl
theorem Ctor.cells_eq (x : Ctor) : x.cells = [.str (sb x.name), .int .i64 x.type.kind, .int .i64 x.type.index, .str (sb x.type.name), .lst false 2 (mp Level.cells x.type.levels), .lst false 5 (mp Term.cells x.type.kids)] := by
  simp only [Ctor.cells, Term.cells_eq, List.cons_append, List.nil_append, List.append_nil]
attribute [irreducible] Ctor.cells
theorem Ctor.length (x : Ctor) : x.cells.length = 6 := by rw [Ctor.cells_eq]; rfl
theorem Ctor.scalar (x : Ctor) : x.cells.all AV.scalar = true := by rw [Ctor.cells_eq]; rfl
theorem Ctor.nb (n : Nat) (x : Ctor) : nbL n x.cells := by
  rw [Ctor.cells_cat]
  exact (nbL_append ⟨trivial, trivial⟩ (Term.nb n x.type))
def Ctor.of (H : List AObj) : List AV → Option Ctor
  | [c0, c1, c2, c3, c4, c5] => (dS c0).bind fun x0 => (Term.of H [c1, c2, c3, c4, c5]).bind fun x1 => some (.mk x0 x1)
  | _ => none
theorem Ctor.of_lit {H : List AObj} {c0 c1 c2 c3 c4 c5 : AV} : Ctor.of H [c0, c1, c2, c3, c4, c5] = (dS c0).bind fun x0 => (Term.of H [c1, c2, c3, c4, c5]).bind fun x1 => some (.mk x0 x1) := rfl
theorem Ctor.of_lit_cells (H : List AObj) (x : Ctor) : Ctor.of H [.str (sb x.name), .int .i64 x.type.kind, .int .i64 x.type.index, .str (sb x.type.name), .lst false 2 (mp Level.cells x.type.levels), .lst false 5 (mp Term.cells x.type.kids)] = some x := by
  simp only [Ctor.of_lit, dI_int, dB_bool, dS_sb, bind_some', szOK, beq_self_eq_true, Bool.true_or, cond_true, dL, Term.of_lit_cells]
  try (cases x; rfl)
theorem Ctor.of_cells (H : List AObj) (x : Ctor) : Ctor.of H x.cells = some x := by rw [Ctor.cells_eq]; exact Ctor.of_lit_cells H x
theorem Ctor.of_ok {H : List AObj} {n : Nat} {cs : List AV} {x : Ctor} (h : Ctor.of H cs = some x) : CoL1 H n cs x.cells := by
  unfold Ctor.of at h
  split at h
  · simp only [Option.bind_eq_some_iff, Option.some.injEq] at h
    obtain ⟨x0, h0, x1, h1, rfl⟩ := h
    rw [Ctor.cells_cat]
    exact (CoL1.append (CoL1.cons (dS_ok h0) CoL1.nil) (Term.of_ok h1))
  · cases h
def Ctor.cel : Cel Ctor := ⟨Ctor.cells, Ctor.of, fun _ _ _ _ h => Ctor.of_ok h, Ctor.nb⟩
def Ctor.row : Row Ctor := ⟨Ctor.cells, Ctor.of [], 6, fun _ _ h => (Ctor.of_ok (n := 0) h).toSub, Ctor.nb⟩
theorem Ctor.mapO_cells (xs : List Ctor) : mapO (Ctor.of []) (mp Ctor.cells xs) = some xs := mapO_mp (Ctor.of_cells []) xs
theorem Ctor.mapO_set (xs : List Ctor) (i : Nat) (r : List AV) : mapO (Ctor.of []) ((mp Ctor.cells xs).set i r) = bif decide (i < xs.length) then (Ctor.of [] r).bind fun y => some (xs.set i y) else some xs := Go.Abs.mapO_set (Ctor.of_cells []) xs i r
attribute [go_sem low] Ctor.mapO_set
theorem Ctor.row_f : Ctor.row.enc = Ctor.cells ∧ Ctor.row.dec = Ctor.of [] ∧ Ctor.row.sz = 6 ∧ Ctor.cel.enc = Ctor.cells ∧ Ctor.cel.dec = Ctor.of := ⟨rfl, rfl, rfl, rfl, rfl⟩
theorem Ctor.eta (x : Ctor) : Ctor.mk x.name x.type = x := by cases x; rfl
attribute [go_sem] Ctor.of_lit Ctor.of_cells Ctor.mapO_cells Ctor.row_f Ctor.eta
theorem Ctor.prj : (∀ (y0 : Str) (y1 : Term), (Ctor.mk y0 y1).name = y0) ∧ (∀ (y0 : Str) (y1 : Term), (Ctor.mk y0 y1).type = y1) := ⟨fun _ _ => rfl, fun _ _ => rfl⟩
attribute [go_sem] Ctor.prj
theorem Ctor.nbs : (∀ (n : Nat) (x : Ctor), Go.Abs.nbL n x.cells = True) ∧ ∀ (n : Nat) (xs : List Ctor), Go.Abs.nbR n (mp Ctor.cells xs) = True := ⟨fun n x => eq_true (Ctor.nb n x), fun n xs => eq_true (nbR_map (Ctor.nb n) xs)⟩
theorem Ctor.rens : (∀ (ρ : Nat → Nat) (x : Ctor), renL ρ x.cells = x.cells) ∧ ∀ (ρ : Nat → Nat) (xs : List Ctor), renR ρ (mp Ctor.cells xs) = mp Ctor.cells xs := ⟨fun ρ x => renL_of_nb ρ _ (Ctor.nb 0 x), fun ρ xs => renR_of_nb ρ _ (nbR_map (Ctor.nb 0) xs)⟩
theorem Ctor.vw (H : List AObj) (x : Ctor) : vwL H x.cells = some (x.cells, []) := vwL_of_nb H _ (Ctor.nb 0 x)
attribute [go_sem] Ctor.vw
theorem Ctor.frz (low : Nat) (H : List AObj) (x : Ctor) : frzL low H x.cells = x.cells := frzL_of_nb low H _ (Ctor.nb 0 x)
theorem Ctor.rpv (l : Nat) (ds : List AV) (x : Ctor) : x.cells.map (rpV l ds) = x.cells := rpVL_of_nb _ (Ctor.nb 0 x)
attribute [go_sem] Ctor.rpv
theorem Ctor.tk : (∀ x : Ctor, List.take 6 x.cells = x.cells) ∧ ∀ x : Ctor, List.drop 6 x.cells = [] := ⟨fun x => by rw [Ctor.cells_eq]; rfl, fun x => by rw [Ctor.cells_eq]; rfl⟩
attribute [go_sem] Ctor.tk
theorem Ctor.reads :
    (∀ x : Ctor, cellsOf (.agg x.cells) = some x.cells) ∧
    (∀ x : Ctor, loadAV true 6 x.cells = some (.agg x.cells)) ∧
    (∀ x : Ctor, loadAV false 1 x.cells = some (.str (sb x.name))) ∧
    (∀ x : Ctor, loadAV false 1 (x.cells.drop 1) = some (.int .i64 x.type.kind)) ∧
    (∀ x : Ctor, loadAV false 1 (x.cells.drop 2) = some (.int .i64 x.type.index)) ∧
    (∀ x : Ctor, loadAV false 1 (x.cells.drop 3) = some (.str (sb x.type.name))) ∧
    (∀ x : Ctor, loadAV false 1 (x.cells.drop 4) = some (.lst false 2 (mp Level.cells x.type.levels))) ∧
    (∀ x : Ctor, loadAV false 1 (x.cells.drop 5) = some (.lst false 5 (mp Term.cells x.type.kids))) ∧
    (∀ x : Ctor, loadAV true 5 (x.cells.drop 1) = some (.agg x.type.cells)) :=
  ⟨fun x => by simp only [cellsOf, Ctor.scalar, if_true],
   fun x => loadAV_all (Ctor.length x),
   fun x => by rw [Ctor.cells_eq]; rfl,
   fun x => by rw [Ctor.cells_eq]; rfl,
   fun x => by rw [Ctor.cells_eq]; rfl,
   fun x => by rw [Ctor.cells_eq]; rfl,
   fun x => by rw [Ctor.cells_eq]; rfl,
   fun x => by rw [Ctor.cells_eq]; rfl,
   fun x => by rw [Ctor.cells_eq]; simp only [Term.cells_eq, List.drop_succ_cons, List.drop_zero]; rfl⟩
theorem Ctor.splc (x : Ctor) (o : Nat) (xs : List AV) : splice x.cells o xs = splice [.str (sb x.name), .int .i64 x.type.kind, .int .i64 x.type.index, .str (sb x.type.name), .lst false 2 (mp Level.cells x.type.levels), .lst false 5 (mp Term.cells x.type.kids)] o xs := by rw [Ctor.cells_eq]
theorem Ctor.splc2 (x : Ctor) (o : Nat) (c : AV) (cs : List AV) : splice (c :: cs) o x.cells = splice (c :: cs) o [.str (sb x.name), .int .i64 x.type.kind, .int .i64 x.type.index, .str (sb x.type.name), .lst false 2 (mp Level.cells x.type.levels), .lst false 5 (mp Term.cells x.type.kids)] := by rw [Ctor.cells_eq]
theorem Ctor.app (x : Ctor) (l : List AV) : x.cells ++ l = (.str (sb x.name) : AV) :: (.int .i64 x.type.kind : AV) :: (.int .i64 x.type.index : AV) :: (.str (sb x.type.name) : AV) :: (.lst false 2 (mp Level.cells x.type.levels) : AV) :: (.lst false 5 (mp Term.cells x.type.kids) : AV) :: l := by rw [Ctor.cells_eq]; rfl
theorem Ctor.cns (x : Ctor) (c : AV) : c :: x.cells = [c, .str (sb x.name), .int .i64 x.type.kind, .int .i64 x.type.index, .str (sb x.type.name), .lst false 2 (mp Level.cells x.type.levels), .lst false 5 (mp Term.cells x.type.kids)] := by rw [Ctor.cells_eq]
attribute [go_sem] Ctor.app Ctor.cns
attribute [go_sem] Ctor.nbs Ctor.rens Ctor.frz Ctor.reads Ctor.length Ctor.scalar
attribute [go_sem low] Ctor.splc Ctor.splc2

mutual
inductive Tree where
  | mk (kind : Int) (body : Term) (var : Int) (branches : List Branch)
inductive Branch where
  | mk (ctor : Str) (isAbsurd : Bool) (tree : Tree)
end
def Tree.kind : Tree → Int | .mk x _ _ _ => x
def Tree.body : Tree → Term | .mk _ x _ _ => x
def Tree.var : Tree → Int | .mk _ _ x _ => x
def Tree.branches : Tree → List Branch | .mk _ _ _ x => x
def Branch.ctor : Branch → Str | .mk x _ _ => x
def Branch.isAbsurd : Branch → Bool | .mk _ x _ => x
def Branch.tree : Branch → Tree | .mk _ _ x => x
mutual
def Tree.cells : Tree → List AV
  | .mk kind body var branches => [.int .i64 kind] ++ body.cells ++ [.int .i64 var, .lst false 10 (Branch.cellsL branches)]
def Branch.cells : Branch → List AV
  | .mk ctor isAbsurd tree => [.str (sb ctor), .bool isAbsurd] ++ tree.cells
def Branch.cellsL : List Branch → List (List AV)
  | [] => []
  | t :: ts => t.cells :: Branch.cellsL ts
end
theorem Branch.cellsL_eq : ∀ ts : List Branch, Branch.cellsL ts = mp Branch.cells ts
  | [] => by rw [mp_eq]; rfl
  | t :: ts => by rw [Branch.cellsL, Branch.cellsL_eq ts, mp_eq, mp_eq]; rfl
theorem Tree.cells_cat (x : Tree) : x.cells = [.int .i64 x.kind] ++ x.body.cells ++ [.int .i64 x.var, .lst false 10 (mp Branch.cells x.branches)] := by
  cases x
  simp only [Tree.cells, Branch.cellsL_eq]
  rfl
theorem Branch.cells_cat (x : Branch) : x.cells = [.str (sb x.ctor), .bool x.isAbsurd] ++ x.tree.cells := by
  cases x
  simp only [Branch.cells]
  rfl
theorem Tree.cells_eq (x : Tree) : x.cells = [.int .i64 x.kind, .int .i64 x.body.kind, .int .i64 x.body.index, .str (sb x.body.name), .lst false 2 (mp Level.cells x.body.levels), .lst false 5 (mp Term.cells x.body.kids), .int .i64 x.var, .lst false 10 (mp Branch.cells x.branches)] := by
  cases x
  simp only [Tree.cells, Term.cells_eq, Branch.cellsL_eq, List.cons_append, List.nil_append, List.append_nil]
  rfl
theorem Branch.cells_eq (x : Branch) : x.cells = [.str (sb x.ctor), .bool x.isAbsurd, .int .i64 x.tree.kind, .int .i64 x.tree.body.kind, .int .i64 x.tree.body.index, .str (sb x.tree.body.name), .lst false 2 (mp Level.cells x.tree.body.levels), .lst false 5 (mp Term.cells x.tree.body.kids), .int .i64 x.tree.var, .lst false 10 (mp Branch.cells x.tree.branches)] := by
  cases x
  simp only [Branch.cells, Tree.cells_eq, List.cons_append, List.nil_append, List.append_nil]
  rfl
attribute [irreducible] Tree.cells
attribute [irreducible] Branch.cells
theorem Tree.length (x : Tree) : x.cells.length = 8 := by rw [Tree.cells_eq]; rfl
theorem Tree.scalar (x : Tree) : x.cells.all AV.scalar = true := by rw [Tree.cells_eq]; rfl
theorem Branch.length (x : Branch) : x.cells.length = 10 := by rw [Branch.cells_eq]; rfl
theorem Branch.scalar (x : Branch) : x.cells.all AV.scalar = true := by rw [Branch.cells_eq]; rfl
mutual
theorem Tree.nb (n : Nat) : ∀ x : Tree, nbL n x.cells
  | .mk kind body var branches => by
    rw [Tree.cells_cat]
    exact (nbL_append (nbL_append ⟨trivial, trivial⟩ (Term.nb n body)) ⟨trivial, Branch.nbR n branches, trivial⟩)
theorem Branch.nb (n : Nat) : ∀ x : Branch, nbL n x.cells
  | .mk ctor isAbsurd tree => by
    rw [Branch.cells_cat]
    exact (nbL_append ⟨trivial, trivial, trivial⟩ (Tree.nb n tree))
theorem Branch.nbR (n : Nat) : ∀ ts : List Branch, nbR n (mp Branch.cells ts)
  | [] => by rw [mp_eq]; trivial
  | t :: ts => by have := Branch.nbR n ts; rw [mp_eq] at this ⊢; exact ⟨Branch.nb n t, this⟩
end
mutual
def Tree.of0 : List AV → Option Tree
  | [c0, c1, c2, c3, c4, c5, c6, .lst _ z7 r7] => (dI .i64 c0).bind fun x0 => (Term.of [] [c1, c2, c3, c4, c5]).bind fun x1 => (dI .i64 c6).bind fun x2 => (bif szOK z7 10 r7 then Branch.ofR r7 else none).bind fun x3 => some (.mk x0 x1 x2 x3)
  | _ => none
def Branch.of0 : List AV → Option Branch
  | c0 :: c1 :: rest => (dS c0).bind fun x0 => (dB c1).bind fun x1 => (Tree.of0 rest).bind fun x2 => some (.mk x0 x1 x2)
  | _ => none
def Branch.ofR : List (List AV) → Option (List Branch)
  | [] => some []
  | r :: rs => (Branch.of0 r).bind fun x => (Branch.ofR rs).bind fun xs => some (x :: xs)
end
theorem Branch.ofR_eq : ∀ rs, Branch.ofR rs = mapO Branch.of0 rs
  | [] => by simp only [Branch.ofR, mapO]
  | r :: rs => by simp only [Branch.ofR, mapO, Branch.ofR_eq rs]
mutual
theorem Tree.of0_cells : ∀ x : Tree, Tree.of0 x.cells = some x
  | .mk kind body var branches => by
    rw [Tree.cells_eq]
    show Tree.of0 [.int .i64 kind, .int .i64 body.kind, .int .i64 body.index, .str (sb body.name), .lst false 2 (mp Level.cells body.levels), .lst false 5 (mp Term.cells body.kids), .int .i64 var, .lst false 10 (mp Branch.cells branches)] = _
    simp only [Tree.of0, dI_int, dB_bool, dS_sb, bind_some', szOK, beq_self_eq_true, Bool.true_or, cond_true, dL, Branch.ofR_cells branches, Term.of_lit_cells]
theorem Branch.of0_cells : ∀ x : Branch, Branch.of0 x.cells = some x
  | .mk ctor isAbsurd tree => by
    have e : Branch.cells (.mk ctor isAbsurd tree) = (AV.str (sb ctor) : AV) :: (.bool isAbsurd) :: tree.cells := by rw [Branch.cells_cat]; rfl
    rw [e]
    simp only [Branch.of0, Tree.of0_cells tree, dI_int, dB_bool, dS_sb, bind_some']
theorem Branch.ofR_cells : ∀ xs : List Branch, Branch.ofR (mp Branch.cells xs) = some xs
  | [] => by rw [mp_eq]; simp only [List.map_nil, Branch.ofR]
  | x :: xs => by have h := Branch.ofR_cells xs; rw [mp_eq] at h ⊢; simp only [List.map_cons, Branch.ofR, Branch.of0_cells x, h, bind_some']
end
mutual
theorem Tree.of0_ok : ∀ (x : Tree) (r : List AV), Tree.of0 r = some x → SubE r x.cells
  | .mk kind body var branches, r, h => by
    unfold Tree.of0 at h
    split at h
    · simp only [Option.bind_eq_some_iff, Option.some.injEq, Tree.mk.injEq] at h
      obtain ⟨x0, h0, x1, h1, x2, h2, x3, h3, e0, e1, e2, e3⟩ := h
      rw [e0] at h0
      rw [e1] at h1
      rw [e2] at h2
      rw [e3] at h3
      rw [Tree.cells_cat]
      exact (SubE.append (SubE.append (SubE.cons ((dI_ok (H := []) (n := 0) h0).toSub) SubE.nil) ((Term.of_ok (n := 0) h1).toSub)) (SubE.cons ((dI_ok (H := []) (n := 0) h2).toSub) (SubE.cons (lst_of (Branch.ofR_ok branches _) h3) SubE.nil)))
    · cases h
theorem Branch.of0_ok : ∀ (x : Branch) (r : List AV), Branch.of0 r = some x → SubE r x.cells
  | .mk ctor isAbsurd tree, r, h => by
    unfold Branch.of0 at h
    split at h
    · simp only [Option.bind_eq_some_iff, Option.some.injEq, Branch.mk.injEq] at h
      obtain ⟨x0, h0, x1, h1, x2, h2, e0, e1, e2⟩ := h
      rw [e0] at h0
      rw [e1] at h1
      rw [e2] at h2
      rw [Branch.cells_cat]
      exact (SubE.append (SubE.cons ((dS_ok (H := []) (n := 0) h0).toSub) (SubE.cons ((dB_ok (H := []) (n := 0) h1).toSub) SubE.nil)) (Tree.of0_ok tree _ h2))
    · cases h
theorem Branch.ofR_ok : ∀ (xs : List Branch) (rs : List (List AV)), Branch.ofR rs = some xs → SubR rs (mp Branch.cells xs)
  | [], rs, h => by
    cases rs with
    | nil => rw [mp_eq]; exact SubR.nil
    | cons r rs =>
      simp only [Branch.ofR, Option.bind_eq_some_iff, Option.some.injEq] at h
      obtain ⟨_, _, _, _, h⟩ := h
      cases h
  | x :: xs, rs, h => by
    cases rs with
    | nil => simp only [Branch.ofR, Option.some.injEq] at h; cases h
    | cons r rs =>
      simp only [Branch.ofR, Option.bind_eq_some_iff, Option.some.injEq, List.cons.injEq] at h
      obtain ⟨_, hx, _, hys, rfl, rfl⟩ := h
      have h2 := Branch.ofR_ok _ rs hys
      rw [mp_eq] at h2 ⊢
      exact SubR.cons (Branch.of0_ok _ r hx).subM h2
end
def Tree.row : Row Tree := ⟨Tree.cells, Tree.of0, 8, fun r x h => Tree.of0_ok x r h, Tree.nb⟩
theorem Tree.mapO_cells (xs : List Tree) : mapO Tree.of0 (mp Tree.cells xs) = some xs := mapO_mp Tree.of0_cells xs
theorem Tree.mapO_set (xs : List Tree) (i : Nat) (r : List AV) : mapO Tree.of0 ((mp Tree.cells xs).set i r) = bif decide (i < xs.length) then (Tree.of0 r).bind fun y => some (xs.set i y) else some xs := Go.Abs.mapO_set Tree.of0_cells xs i r
attribute [go_sem low] Tree.mapO_set
def Branch.row : Row Branch := ⟨Branch.cells, Branch.of0, 10, fun r x h => Branch.of0_ok x r h, Branch.nb⟩
theorem Branch.mapO_cells (xs : List Branch) : mapO Branch.of0 (mp Branch.cells xs) = some xs := mapO_mp Branch.of0_cells xs
theorem Branch.mapO_set (xs : List Branch) (i : Nat) (r : List AV) : mapO Branch.of0 ((mp Branch.cells xs).set i r) = bif decide (i < xs.length) then (Branch.of0 r).bind fun y => some (xs.set i y) else some xs := Go.Abs.mapO_set Branch.of0_cells xs i r
attribute [go_sem low] Branch.mapO_set
def Tree.of (H : List AObj) : List AV → Option Tree
  | [c0, c1, c2, c3, c4, c5, c6, c7] => (dI .i64 c0).bind fun x0 => (Term.of H [c1, c2, c3, c4, c5]).bind fun x1 => (dI .i64 c6).bind fun x2 => (dL Branch.row H c7).bind fun x3 => some (.mk x0 x1 x2 x3)
  | _ => none
theorem Tree.of_lit {H : List AObj} {c0 c1 c2 c3 c4 c5 c6 c7 : AV} : Tree.of H [c0, c1, c2, c3, c4, c5, c6, c7] = (dI .i64 c0).bind fun x0 => (Term.of H [c1, c2, c3, c4, c5]).bind fun x1 => (dI .i64 c6).bind fun x2 => (dL Branch.row H c7).bind fun x3 => some (.mk x0 x1 x2 x3) := rfl
theorem Tree.of_lit_cells (H : List AObj) (x : Tree) : Tree.of H [.int .i64 x.kind, .int .i64 x.body.kind, .int .i64 x.body.index, .str (sb x.body.name), .lst false 2 (mp Level.cells x.body.levels), .lst false 5 (mp Term.cells x.body.kids), .int .i64 x.var, .lst false 10 (mp Branch.cells x.branches)] = some x := by
  simp only [Tree.of_lit, dI_int, dB_bool, dS_sb, bind_some', szOK, beq_self_eq_true, Bool.true_or, cond_true, dL, Branch.mapO_cells, Branch.row, Term.of_lit_cells]
  try (cases x; rfl)
theorem Tree.of_cells (H : List AObj) (x : Tree) : Tree.of H x.cells = some x := by rw [Tree.cells_eq]; exact Tree.of_lit_cells H x
theorem Tree.of_ok {H : List AObj} {n : Nat} {cs : List AV} {x : Tree} (h : Tree.of H cs = some x) : CoL1 H n cs x.cells := by
  unfold Tree.of at h
  split at h
  · simp only [Option.bind_eq_some_iff, Option.some.injEq] at h
    obtain ⟨x0, h0, x1, h1, x2, h2, x3, h3, rfl⟩ := h
    rw [Tree.cells_cat]
    exact (CoL1.append (CoL1.append (CoL1.cons (dI_ok h0) CoL1.nil) (Term.of_ok h1)) (CoL1.cons (dI_ok h2) (CoL1.cons (dL_ok h3) CoL1.nil)))
  · cases h
def Tree.cel : Cel Tree := ⟨Tree.cells, Tree.of, fun _ _ _ _ h => Tree.of_ok h, Tree.nb⟩
theorem Tree.row_f : Tree.row.enc = Tree.cells ∧ Tree.row.dec = Tree.of0 ∧ Tree.row.sz = 8 ∧ Tree.cel.enc = Tree.cells ∧ Tree.cel.dec = Tree.of := ⟨rfl, rfl, rfl, rfl, rfl⟩
theorem Tree.eta (x : Tree) : Tree.mk x.kind x.body x.var x.branches = x := by cases x; rfl
attribute [go_sem] Tree.of_lit Tree.of_cells Tree.mapO_cells Tree.row_f Tree.eta
attribute [go_sem] Tree.of0 Tree.of0_cells
theorem Tree.prj : (∀ (y0 : Int) (y1 : Term) (y2 : Int) (y3 : List Branch), (Tree.mk y0 y1 y2 y3).kind = y0) ∧ (∀ (y0 : Int) (y1 : Term) (y2 : Int) (y3 : List Branch), (Tree.mk y0 y1 y2 y3).body = y1) ∧ (∀ (y0 : Int) (y1 : Term) (y2 : Int) (y3 : List Branch), (Tree.mk y0 y1 y2 y3).var = y2) ∧ (∀ (y0 : Int) (y1 : Term) (y2 : Int) (y3 : List Branch), (Tree.mk y0 y1 y2 y3).branches = y3) := ⟨fun _ _ _ _ => rfl, fun _ _ _ _ => rfl, fun _ _ _ _ => rfl, fun _ _ _ _ => rfl⟩
attribute [go_sem] Tree.prj
def Branch.of (H : List AObj) : List AV → Option Branch
  | [c0, c1, c2, c3, c4, c5, c6, c7, c8, c9] => (dS c0).bind fun x0 => (dB c1).bind fun x1 => (Tree.of H [c2, c3, c4, c5, c6, c7, c8, c9]).bind fun x2 => some (.mk x0 x1 x2)
  | _ => none
theorem Branch.of_lit {H : List AObj} {c0 c1 c2 c3 c4 c5 c6 c7 c8 c9 : AV} : Branch.of H [c0, c1, c2, c3, c4, c5, c6, c7, c8, c9] = (dS c0).bind fun x0 => (dB c1).bind fun x1 => (Tree.of H [c2, c3, c4, c5, c6, c7, c8, c9]).bind fun x2 => some (.mk x0 x1 x2) := rfl
theorem Branch.of_lit_cells (H : List AObj) (x : Branch) : Branch.of H [.str (sb x.ctor), .bool x.isAbsurd, .int .i64 x.tree.kind, .int .i64 x.tree.body.kind, .int .i64 x.tree.body.index, .str (sb x.tree.body.name), .lst false 2 (mp Level.cells x.tree.body.levels), .lst false 5 (mp Term.cells x.tree.body.kids), .int .i64 x.tree.var, .lst false 10 (mp Branch.cells x.tree.branches)] = some x := by
  simp only [Branch.of_lit, dI_int, dB_bool, dS_sb, bind_some', szOK, beq_self_eq_true, Bool.true_or, cond_true, dL, Tree.of_lit_cells]
  try (cases x; rfl)
theorem Branch.of_cells (H : List AObj) (x : Branch) : Branch.of H x.cells = some x := by rw [Branch.cells_eq]; exact Branch.of_lit_cells H x
theorem Branch.of_ok {H : List AObj} {n : Nat} {cs : List AV} {x : Branch} (h : Branch.of H cs = some x) : CoL1 H n cs x.cells := by
  unfold Branch.of at h
  split at h
  · simp only [Option.bind_eq_some_iff, Option.some.injEq] at h
    obtain ⟨x0, h0, x1, h1, x2, h2, rfl⟩ := h
    rw [Branch.cells_cat]
    exact (CoL1.append (CoL1.cons (dS_ok h0) (CoL1.cons (dB_ok h1) CoL1.nil)) (Tree.of_ok h2))
  · cases h
def Branch.cel : Cel Branch := ⟨Branch.cells, Branch.of, fun _ _ _ _ h => Branch.of_ok h, Branch.nb⟩
theorem Branch.row_f : Branch.row.enc = Branch.cells ∧ Branch.row.dec = Branch.of0 ∧ Branch.row.sz = 10 ∧ Branch.cel.enc = Branch.cells ∧ Branch.cel.dec = Branch.of := ⟨rfl, rfl, rfl, rfl, rfl⟩
theorem Branch.eta (x : Branch) : Branch.mk x.ctor x.isAbsurd x.tree = x := by cases x; rfl
attribute [go_sem] Branch.of_lit Branch.of_cells Branch.mapO_cells Branch.row_f Branch.eta
attribute [go_sem] Branch.of0 Branch.of0_cells
attribute [go_sem] Branch.ofR_eq
theorem Branch.prj : (∀ (y0 : Str) (y1 : Bool) (y2 : Tree), (Branch.mk y0 y1 y2).ctor = y0) ∧ (∀ (y0 : Str) (y1 : Bool) (y2 : Tree), (Branch.mk y0 y1 y2).isAbsurd = y1) ∧ (∀ (y0 : Str) (y1 : Bool) (y2 : Tree), (Branch.mk y0 y1 y2).tree = y2) := ⟨fun _ _ _ => rfl, fun _ _ _ => rfl, fun _ _ _ => rfl⟩
attribute [go_sem] Branch.prj
theorem Tree.nbs : (∀ (n : Nat) (x : Tree), Go.Abs.nbL n x.cells = True) ∧ ∀ (n : Nat) (xs : List Tree), Go.Abs.nbR n (mp Tree.cells xs) = True := ⟨fun n x => eq_true (Tree.nb n x), fun n xs => eq_true (nbR_map (Tree.nb n) xs)⟩
theorem Tree.rens : (∀ (ρ : Nat → Nat) (x : Tree), renL ρ x.cells = x.cells) ∧ ∀ (ρ : Nat → Nat) (xs : List Tree), renR ρ (mp Tree.cells xs) = mp Tree.cells xs := ⟨fun ρ x => renL_of_nb ρ _ (Tree.nb 0 x), fun ρ xs => renR_of_nb ρ _ (nbR_map (Tree.nb 0) xs)⟩
theorem Tree.vw (H : List AObj) (x : Tree) : vwL H x.cells = some (x.cells, []) := vwL_of_nb H _ (Tree.nb 0 x)
attribute [go_sem] Tree.vw
theorem Tree.frz (low : Nat) (H : List AObj) (x : Tree) : frzL low H x.cells = x.cells := frzL_of_nb low H _ (Tree.nb 0 x)
theorem Tree.rpv (l : Nat) (ds : List AV) (x : Tree) : x.cells.map (rpV l ds) = x.cells := rpVL_of_nb _ (Tree.nb 0 x)
attribute [go_sem] Tree.rpv
theorem Tree.tk : (∀ x : Tree, List.take 8 x.cells = x.cells) ∧ ∀ x : Tree, List.drop 8 x.cells = [] := ⟨fun x => by rw [Tree.cells_eq]; rfl, fun x => by rw [Tree.cells_eq]; rfl⟩
attribute [go_sem] Tree.tk
theorem Tree.reads :
    (∀ x : Tree, cellsOf (.agg x.cells) = some x.cells) ∧
    (∀ x : Tree, loadAV true 8 x.cells = some (.agg x.cells)) ∧
    (∀ x : Tree, loadAV false 1 x.cells = some (.int .i64 x.kind)) ∧
    (∀ x : Tree, loadAV false 1 (x.cells.drop 1) = some (.int .i64 x.body.kind)) ∧
    (∀ x : Tree, loadAV false 1 (x.cells.drop 2) = some (.int .i64 x.body.index)) ∧
    (∀ x : Tree, loadAV false 1 (x.cells.drop 3) = some (.str (sb x.body.name))) ∧
    (∀ x : Tree, loadAV false 1 (x.cells.drop 4) = some (.lst false 2 (mp Level.cells x.body.levels))) ∧
    (∀ x : Tree, loadAV false 1 (x.cells.drop 5) = some (.lst false 5 (mp Term.cells x.body.kids))) ∧
    (∀ x : Tree, loadAV false 1 (x.cells.drop 6) = some (.int .i64 x.var)) ∧
    (∀ x : Tree, loadAV false 1 (x.cells.drop 7) = some (.lst false 10 (mp Branch.cells x.branches))) ∧
    (∀ x : Tree, loadAV true 5 (x.cells.drop 1) = some (.agg x.body.cells)) :=
  ⟨fun x => by simp only [cellsOf, Tree.scalar, if_true],
   fun x => loadAV_all (Tree.length x),
   fun x => by rw [Tree.cells_eq]; rfl,
   fun x => by rw [Tree.cells_eq]; rfl,
   fun x => by rw [Tree.cells_eq]; rfl,
   fun x => by rw [Tree.cells_eq]; rfl,
   fun x => by rw [Tree.cells_eq]; rfl,
   fun x => by rw [Tree.cells_eq]; rfl,
   fun x => by rw [Tree.cells_eq]; rfl,
   fun x => by rw [Tree.cells_eq]; rfl,
   fun x => by rw [Tree.cells_eq]; simp only [Term.cells_eq, List.drop_succ_cons, List.drop_zero]; rfl⟩
theorem Tree.splc (x : Tree) (o : Nat) (xs : List AV) : splice x.cells o xs = splice [.int .i64 x.kind, .int .i64 x.body.kind, .int .i64 x.body.index, .str (sb x.body.name), .lst false 2 (mp Level.cells x.body.levels), .lst false 5 (mp Term.cells x.body.kids), .int .i64 x.var, .lst false 10 (mp Branch.cells x.branches)] o xs := by rw [Tree.cells_eq]
theorem Tree.splc2 (x : Tree) (o : Nat) (c : AV) (cs : List AV) : splice (c :: cs) o x.cells = splice (c :: cs) o [.int .i64 x.kind, .int .i64 x.body.kind, .int .i64 x.body.index, .str (sb x.body.name), .lst false 2 (mp Level.cells x.body.levels), .lst false 5 (mp Term.cells x.body.kids), .int .i64 x.var, .lst false 10 (mp Branch.cells x.branches)] := by rw [Tree.cells_eq]
theorem Tree.app (x : Tree) (l : List AV) : x.cells ++ l = (.int .i64 x.kind : AV) :: (.int .i64 x.body.kind : AV) :: (.int .i64 x.body.index : AV) :: (.str (sb x.body.name) : AV) :: (.lst false 2 (mp Level.cells x.body.levels) : AV) :: (.lst false 5 (mp Term.cells x.body.kids) : AV) :: (.int .i64 x.var : AV) :: (.lst false 10 (mp Branch.cells x.branches) : AV) :: l := by rw [Tree.cells_eq]; rfl
theorem Tree.cns (x : Tree) (c : AV) : c :: x.cells = [c, .int .i64 x.kind, .int .i64 x.body.kind, .int .i64 x.body.index, .str (sb x.body.name), .lst false 2 (mp Level.cells x.body.levels), .lst false 5 (mp Term.cells x.body.kids), .int .i64 x.var, .lst false 10 (mp Branch.cells x.branches)] := by rw [Tree.cells_eq]
attribute [go_sem] Tree.app Tree.cns
attribute [go_sem] Tree.nbs Tree.rens Tree.frz Tree.reads Tree.length Tree.scalar
attribute [go_sem low] Tree.splc Tree.splc2
theorem Branch.nbs : (∀ (n : Nat) (x : Branch), Go.Abs.nbL n x.cells = True) ∧ ∀ (n : Nat) (xs : List Branch), Go.Abs.nbR n (mp Branch.cells xs) = True := ⟨fun n x => eq_true (Branch.nb n x), fun n xs => eq_true (nbR_map (Branch.nb n) xs)⟩
theorem Branch.rens : (∀ (ρ : Nat → Nat) (x : Branch), renL ρ x.cells = x.cells) ∧ ∀ (ρ : Nat → Nat) (xs : List Branch), renR ρ (mp Branch.cells xs) = mp Branch.cells xs := ⟨fun ρ x => renL_of_nb ρ _ (Branch.nb 0 x), fun ρ xs => renR_of_nb ρ _ (nbR_map (Branch.nb 0) xs)⟩
theorem Branch.vw (H : List AObj) (x : Branch) : vwL H x.cells = some (x.cells, []) := vwL_of_nb H _ (Branch.nb 0 x)
attribute [go_sem] Branch.vw
theorem Branch.frz (low : Nat) (H : List AObj) (x : Branch) : frzL low H x.cells = x.cells := frzL_of_nb low H _ (Branch.nb 0 x)
theorem Branch.rpv (l : Nat) (ds : List AV) (x : Branch) : x.cells.map (rpV l ds) = x.cells := rpVL_of_nb _ (Branch.nb 0 x)
attribute [go_sem] Branch.rpv
theorem Branch.tk : (∀ x : Branch, List.take 10 x.cells = x.cells) ∧ ∀ x : Branch, List.drop 10 x.cells = [] := ⟨fun x => by rw [Branch.cells_eq]; rfl, fun x => by rw [Branch.cells_eq]; rfl⟩
attribute [go_sem] Branch.tk
theorem Branch.reads :
    (∀ x : Branch, cellsOf (.agg x.cells) = some x.cells) ∧
    (∀ x : Branch, loadAV true 10 x.cells = some (.agg x.cells)) ∧
    (∀ x : Branch, loadAV false 1 x.cells = some (.str (sb x.ctor))) ∧
    (∀ x : Branch, loadAV false 1 (x.cells.drop 1) = some (.bool x.isAbsurd)) ∧
    (∀ x : Branch, loadAV false 1 (x.cells.drop 2) = some (.int .i64 x.tree.kind)) ∧
    (∀ x : Branch, loadAV false 1 (x.cells.drop 3) = some (.int .i64 x.tree.body.kind)) ∧
    (∀ x : Branch, loadAV false 1 (x.cells.drop 4) = some (.int .i64 x.tree.body.index)) ∧
    (∀ x : Branch, loadAV false 1 (x.cells.drop 5) = some (.str (sb x.tree.body.name))) ∧
    (∀ x : Branch, loadAV false 1 (x.cells.drop 6) = some (.lst false 2 (mp Level.cells x.tree.body.levels))) ∧
    (∀ x : Branch, loadAV false 1 (x.cells.drop 7) = some (.lst false 5 (mp Term.cells x.tree.body.kids))) ∧
    (∀ x : Branch, loadAV false 1 (x.cells.drop 8) = some (.int .i64 x.tree.var)) ∧
    (∀ x : Branch, loadAV false 1 (x.cells.drop 9) = some (.lst false 10 (mp Branch.cells x.tree.branches))) ∧
    (∀ x : Branch, loadAV true 8 (x.cells.drop 2) = some (.agg x.tree.cells)) ∧
    (∀ x : Branch, loadAV true 5 (x.cells.drop 3) = some (.agg x.tree.body.cells)) :=
  ⟨fun x => by simp only [cellsOf, Branch.scalar, if_true],
   fun x => loadAV_all (Branch.length x),
   fun x => by rw [Branch.cells_eq]; rfl,
   fun x => by rw [Branch.cells_eq]; rfl,
   fun x => by rw [Branch.cells_eq]; rfl,
   fun x => by rw [Branch.cells_eq]; rfl,
   fun x => by rw [Branch.cells_eq]; rfl,
   fun x => by rw [Branch.cells_eq]; rfl,
   fun x => by rw [Branch.cells_eq]; rfl,
   fun x => by rw [Branch.cells_eq]; rfl,
   fun x => by rw [Branch.cells_eq]; rfl,
   fun x => by rw [Branch.cells_eq]; rfl,
   fun x => by rw [Branch.cells_eq]; simp only [Term.cells_eq, Tree.cells_eq, List.drop_succ_cons, List.drop_zero]; rfl,
   fun x => by rw [Branch.cells_eq]; simp only [Term.cells_eq, Tree.cells_eq, List.drop_succ_cons, List.drop_zero]; rfl⟩
theorem Branch.splc (x : Branch) (o : Nat) (xs : List AV) : splice x.cells o xs = splice [.str (sb x.ctor), .bool x.isAbsurd, .int .i64 x.tree.kind, .int .i64 x.tree.body.kind, .int .i64 x.tree.body.index, .str (sb x.tree.body.name), .lst false 2 (mp Level.cells x.tree.body.levels), .lst false 5 (mp Term.cells x.tree.body.kids), .int .i64 x.tree.var, .lst false 10 (mp Branch.cells x.tree.branches)] o xs := by rw [Branch.cells_eq]
theorem Branch.splc2 (x : Branch) (o : Nat) (c : AV) (cs : List AV) : splice (c :: cs) o x.cells = splice (c :: cs) o [.str (sb x.ctor), .bool x.isAbsurd, .int .i64 x.tree.kind, .int .i64 x.tree.body.kind, .int .i64 x.tree.body.index, .str (sb x.tree.body.name), .lst false 2 (mp Level.cells x.tree.body.levels), .lst false 5 (mp Term.cells x.tree.body.kids), .int .i64 x.tree.var, .lst false 10 (mp Branch.cells x.tree.branches)] := by rw [Branch.cells_eq]
theorem Branch.app (x : Branch) (l : List AV) : x.cells ++ l = (.str (sb x.ctor) : AV) :: (.bool x.isAbsurd : AV) :: (.int .i64 x.tree.kind : AV) :: (.int .i64 x.tree.body.kind : AV) :: (.int .i64 x.tree.body.index : AV) :: (.str (sb x.tree.body.name) : AV) :: (.lst false 2 (mp Level.cells x.tree.body.levels) : AV) :: (.lst false 5 (mp Term.cells x.tree.body.kids) : AV) :: (.int .i64 x.tree.var : AV) :: (.lst false 10 (mp Branch.cells x.tree.branches) : AV) :: l := by rw [Branch.cells_eq]; rfl
theorem Branch.cns (x : Branch) (c : AV) : c :: x.cells = [c, .str (sb x.ctor), .bool x.isAbsurd, .int .i64 x.tree.kind, .int .i64 x.tree.body.kind, .int .i64 x.tree.body.index, .str (sb x.tree.body.name), .lst false 2 (mp Level.cells x.tree.body.levels), .lst false 5 (mp Term.cells x.tree.body.kids), .int .i64 x.tree.var, .lst false 10 (mp Branch.cells x.tree.branches)] := by rw [Branch.cells_eq]
attribute [go_sem] Branch.app Branch.cns
attribute [go_sem] Branch.nbs Branch.rens Branch.frz Branch.reads Branch.length Branch.scalar
attribute [go_sem low] Branch.splc Branch.splc2

structure Fun where
  name : Str
  type : Term
  arity : Int
  tree : Tree
def Fun.cells (x : Fun) : List AV := [.str (sb x.name)] ++ x.type.cells ++ [.int .i64 x.arity] ++ x.tree.cells
theorem Fun.cells_cat (x : Fun) : x.cells = [.str (sb x.name)] ++ x.type.cells ++ [.int .i64 x.arity] ++ x.tree.cells := rfl
theorem Fun.cells_eq (x : Fun) : x.cells = [.str (sb x.name), .int .i64 x.type.kind, .int .i64 x.type.index, .str (sb x.type.name), .lst false 2 (mp Level.cells x.type.levels), .lst false 5 (mp Term.cells x.type.kids), .int .i64 x.arity, .int .i64 x.tree.kind, .int .i64 x.tree.body.kind, .int .i64 x.tree.body.index, .str (sb x.tree.body.name), .lst false 2 (mp Level.cells x.tree.body.levels), .lst false 5 (mp Term.cells x.tree.body.kids), .int .i64 x.tree.var, .lst false 10 (mp Branch.cells x.tree.branches)] := by
  simp only [Fun.cells, Term.cells_eq, Tree.cells_eq, List.cons_append, List.nil_append, List.append_nil]
attribute [irreducible] Fun.cells
theorem Fun.length (x : Fun) : x.cells.length = 15 := by rw [Fun.cells_eq]; rfl
theorem Fun.scalar (x : Fun) : x.cells.all AV.scalar = true := by rw [Fun.cells_eq]; rfl
theorem Fun.nb (n : Nat) (x : Fun) : nbL n x.cells := by
  rw [Fun.cells_cat]
  exact (nbL_append (nbL_append (nbL_append ⟨trivial, trivial⟩ (Term.nb n x.type)) ⟨trivial, trivial⟩) (Tree.nb n x.tree))
def Fun.of (H : List AObj) : List AV → Option Fun
  | [c0, c1, c2, c3, c4, c5, c6, c7, c8, c9, c10, c11, c12, c13, c14] => (dS c0).bind fun x0 => (Term.of H [c1, c2, c3, c4, c5]).bind fun x1 => (dI .i64 c6).bind fun x2 => (Tree.of H [c7, c8, c9, c10, c11, c12, c13, c14]).bind fun x3 => some (.mk x0 x1 x2 x3)
  | _ => none
theorem Fun.of_lit {H : List AObj} {c0 c1 c2 c3 c4 c5 c6 c7 c8 c9 c10 c11 c12 c13 c14 : AV} : Fun.of H [c0, c1, c2, c3, c4, c5, c6, c7, c8, c9, c10, c11, c12, c13, c14] = (dS c0).bind fun x0 => (Term.of H [c1, c2, c3, c4, c5]).bind fun x1 => (dI .i64 c6).bind fun x2 => (Tree.of H [c7, c8, c9, c10, c11, c12, c13, c14]).bind fun x3 => some (.mk x0 x1 x2 x3) := rfl
theorem Fun.of_lit_cells (H : List AObj) (x : Fun) : Fun.of H [.str (sb x.name), .int .i64 x.type.kind, .int .i64 x.type.index, .str (sb x.type.name), .lst false 2 (mp Level.cells x.type.levels), .lst false 5 (mp Term.cells x.type.kids), .int .i64 x.arity, .int .i64 x.tree.kind, .int .i64 x.tree.body.kind, .int .i64 x.tree.body.index, .str (sb x.tree.body.name), .lst false 2 (mp Level.cells x.tree.body.levels), .lst false 5 (mp Term.cells x.tree.body.kids), .int .i64 x.tree.var, .lst false 10 (mp Branch.cells x.tree.branches)] = some x := by
  simp only [Fun.of_lit, dI_int, dB_bool, dS_sb, bind_some', szOK, beq_self_eq_true, Bool.true_or, cond_true, dL, Term.of_lit_cells, Tree.of_lit_cells]
  try (cases x; rfl)
theorem Fun.of_cells (H : List AObj) (x : Fun) : Fun.of H x.cells = some x := by rw [Fun.cells_eq]; exact Fun.of_lit_cells H x
theorem Fun.of_ok {H : List AObj} {n : Nat} {cs : List AV} {x : Fun} (h : Fun.of H cs = some x) : CoL1 H n cs x.cells := by
  unfold Fun.of at h
  split at h
  · simp only [Option.bind_eq_some_iff, Option.some.injEq] at h
    obtain ⟨x0, h0, x1, h1, x2, h2, x3, h3, rfl⟩ := h
    rw [Fun.cells_cat]
    exact (CoL1.append (CoL1.append (CoL1.append (CoL1.cons (dS_ok h0) CoL1.nil) (Term.of_ok h1)) (CoL1.cons (dI_ok h2) CoL1.nil)) (Tree.of_ok h3))
  · cases h
def Fun.cel : Cel Fun := ⟨Fun.cells, Fun.of, fun _ _ _ _ h => Fun.of_ok h, Fun.nb⟩
def Fun.row : Row Fun := ⟨Fun.cells, Fun.of [], 15, fun _ _ h => (Fun.of_ok (n := 0) h).toSub, Fun.nb⟩
theorem Fun.mapO_cells (xs : List Fun) : mapO (Fun.of []) (mp Fun.cells xs) = some xs := mapO_mp (Fun.of_cells []) xs
theorem Fun.mapO_set (xs : List Fun) (i : Nat) (r : List AV) : mapO (Fun.of []) ((mp Fun.cells xs).set i r) = bif decide (i < xs.length) then (Fun.of [] r).bind fun y => some (xs.set i y) else some xs := Go.Abs.mapO_set (Fun.of_cells []) xs i r
attribute [go_sem low] Fun.mapO_set
theorem Fun.row_f : Fun.row.enc = Fun.cells ∧ Fun.row.dec = Fun.of [] ∧ Fun.row.sz = 15 ∧ Fun.cel.enc = Fun.cells ∧ Fun.cel.dec = Fun.of := ⟨rfl, rfl, rfl, rfl, rfl⟩
theorem Fun.eta (x : Fun) : Fun.mk x.name x.type x.arity x.tree = x := by cases x; rfl
attribute [go_sem] Fun.of_lit Fun.of_cells Fun.mapO_cells Fun.row_f Fun.eta
theorem Fun.prj : (∀ (y0 : Str) (y1 : Term) (y2 : Int) (y3 : Tree), (Fun.mk y0 y1 y2 y3).name = y0) ∧ (∀ (y0 : Str) (y1 : Term) (y2 : Int) (y3 : Tree), (Fun.mk y0 y1 y2 y3).type = y1) ∧ (∀ (y0 : Str) (y1 : Term) (y2 : Int) (y3 : Tree), (Fun.mk y0 y1 y2 y3).arity = y2) ∧ (∀ (y0 : Str) (y1 : Term) (y2 : Int) (y3 : Tree), (Fun.mk y0 y1 y2 y3).tree = y3) := ⟨fun _ _ _ _ => rfl, fun _ _ _ _ => rfl, fun _ _ _ _ => rfl, fun _ _ _ _ => rfl⟩
attribute [go_sem] Fun.prj
theorem Fun.nbs : (∀ (n : Nat) (x : Fun), Go.Abs.nbL n x.cells = True) ∧ ∀ (n : Nat) (xs : List Fun), Go.Abs.nbR n (mp Fun.cells xs) = True := ⟨fun n x => eq_true (Fun.nb n x), fun n xs => eq_true (nbR_map (Fun.nb n) xs)⟩
theorem Fun.rens : (∀ (ρ : Nat → Nat) (x : Fun), renL ρ x.cells = x.cells) ∧ ∀ (ρ : Nat → Nat) (xs : List Fun), renR ρ (mp Fun.cells xs) = mp Fun.cells xs := ⟨fun ρ x => renL_of_nb ρ _ (Fun.nb 0 x), fun ρ xs => renR_of_nb ρ _ (nbR_map (Fun.nb 0) xs)⟩
theorem Fun.vw (H : List AObj) (x : Fun) : vwL H x.cells = some (x.cells, []) := vwL_of_nb H _ (Fun.nb 0 x)
attribute [go_sem] Fun.vw
theorem Fun.frz (low : Nat) (H : List AObj) (x : Fun) : frzL low H x.cells = x.cells := frzL_of_nb low H _ (Fun.nb 0 x)
theorem Fun.rpv (l : Nat) (ds : List AV) (x : Fun) : x.cells.map (rpV l ds) = x.cells := rpVL_of_nb _ (Fun.nb 0 x)
attribute [go_sem] Fun.rpv
theorem Fun.tk : (∀ x : Fun, List.take 15 x.cells = x.cells) ∧ ∀ x : Fun, List.drop 15 x.cells = [] := ⟨fun x => by rw [Fun.cells_eq]; rfl, fun x => by rw [Fun.cells_eq]; rfl⟩
attribute [go_sem] Fun.tk
theorem Fun.reads :
    (∀ x : Fun, cellsOf (.agg x.cells) = some x.cells) ∧
    (∀ x : Fun, loadAV true 15 x.cells = some (.agg x.cells)) ∧
    (∀ x : Fun, loadAV false 1 x.cells = some (.str (sb x.name))) ∧
    (∀ x : Fun, loadAV false 1 (x.cells.drop 1) = some (.int .i64 x.type.kind)) ∧
    (∀ x : Fun, loadAV false 1 (x.cells.drop 2) = some (.int .i64 x.type.index)) ∧
    (∀ x : Fun, loadAV false 1 (x.cells.drop 3) = some (.str (sb x.type.name))) ∧
    (∀ x : Fun, loadAV false 1 (x.cells.drop 4) = some (.lst false 2 (mp Level.cells x.type.levels))) ∧
    (∀ x : Fun, loadAV false 1 (x.cells.drop 5) = some (.lst false 5 (mp Term.cells x.type.kids))) ∧
    (∀ x : Fun, loadAV false 1 (x.cells.drop 6) = some (.int .i64 x.arity)) ∧
    (∀ x : Fun, loadAV false 1 (x.cells.drop 7) = some (.int .i64 x.tree.kind)) ∧
    (∀ x : Fun, loadAV false 1 (x.cells.drop 8) = some (.int .i64 x.tree.body.kind)) ∧
    (∀ x : Fun, loadAV false 1 (x.cells.drop 9) = some (.int .i64 x.tree.body.index)) ∧
    (∀ x : Fun, loadAV false 1 (x.cells.drop 10) = some (.str (sb x.tree.body.name))) ∧
    (∀ x : Fun, loadAV false 1 (x.cells.drop 11) = some (.lst false 2 (mp Level.cells x.tree.body.levels))) ∧
    (∀ x : Fun, loadAV false 1 (x.cells.drop 12) = some (.lst false 5 (mp Term.cells x.tree.body.kids))) ∧
    (∀ x : Fun, loadAV false 1 (x.cells.drop 13) = some (.int .i64 x.tree.var)) ∧
    (∀ x : Fun, loadAV false 1 (x.cells.drop 14) = some (.lst false 10 (mp Branch.cells x.tree.branches))) ∧
    (∀ x : Fun, loadAV true 5 (x.cells.drop 1) = some (.agg x.type.cells)) ∧
    (∀ x : Fun, loadAV true 8 (x.cells.drop 7) = some (.agg x.tree.cells)) ∧
    (∀ x : Fun, loadAV true 5 (x.cells.drop 8) = some (.agg x.tree.body.cells)) :=
  ⟨fun x => by simp only [cellsOf, Fun.scalar, if_true],
   fun x => loadAV_all (Fun.length x),
   fun x => by rw [Fun.cells_eq]; rfl,
   fun x => by rw [Fun.cells_eq]; rfl,
   fun x => by rw [Fun.cells_eq]; rfl,
   fun x => by rw [Fun.cells_eq]; rfl,
   fun x => by rw [Fun.cells_eq]; rfl,
   fun x => by rw [Fun.cells_eq]; rfl,
   fun x => by rw [Fun.cells_eq]; rfl,
   fun x => by rw [Fun.cells_eq]; rfl,
   fun x => by rw [Fun.cells_eq]; rfl,
   fun x => by rw [Fun.cells_eq]; rfl,
   fun x => by rw [Fun.cells_eq]; rfl,
   fun x => by rw [Fun.cells_eq]; rfl,
   fun x => by rw [Fun.cells_eq]; rfl,
   fun x => by rw [Fun.cells_eq]; rfl,
   fun x => by rw [Fun.cells_eq]; rfl,
   fun x => by rw [Fun.cells_eq]; simp only [Term.cells_eq, Tree.cells_eq, List.drop_succ_cons, List.drop_zero]; rfl,
   fun x => by rw [Fun.cells_eq]; simp only [Term.cells_eq, Tree.cells_eq, List.drop_succ_cons, List.drop_zero]; rfl,
   fun x => by rw [Fun.cells_eq]; simp only [Term.cells_eq, Tree.cells_eq, List.drop_succ_cons, List.drop_zero]; rfl⟩
theorem Fun.splc (x : Fun) (o : Nat) (xs : List AV) : splice x.cells o xs = splice [.str (sb x.name), .int .i64 x.type.kind, .int .i64 x.type.index, .str (sb x.type.name), .lst false 2 (mp Level.cells x.type.levels), .lst false 5 (mp Term.cells x.type.kids), .int .i64 x.arity, .int .i64 x.tree.kind, .int .i64 x.tree.body.kind, .int .i64 x.tree.body.index, .str (sb x.tree.body.name), .lst false 2 (mp Level.cells x.tree.body.levels), .lst false 5 (mp Term.cells x.tree.body.kids), .int .i64 x.tree.var, .lst false 10 (mp Branch.cells x.tree.branches)] o xs := by rw [Fun.cells_eq]
theorem Fun.splc2 (x : Fun) (o : Nat) (c : AV) (cs : List AV) : splice (c :: cs) o x.cells = splice (c :: cs) o [.str (sb x.name), .int .i64 x.type.kind, .int .i64 x.type.index, .str (sb x.type.name), .lst false 2 (mp Level.cells x.type.levels), .lst false 5 (mp Term.cells x.type.kids), .int .i64 x.arity, .int .i64 x.tree.kind, .int .i64 x.tree.body.kind, .int .i64 x.tree.body.index, .str (sb x.tree.body.name), .lst false 2 (mp Level.cells x.tree.body.levels), .lst false 5 (mp Term.cells x.tree.body.kids), .int .i64 x.tree.var, .lst false 10 (mp Branch.cells x.tree.branches)] := by rw [Fun.cells_eq]
theorem Fun.app (x : Fun) (l : List AV) : x.cells ++ l = (.str (sb x.name) : AV) :: (.int .i64 x.type.kind : AV) :: (.int .i64 x.type.index : AV) :: (.str (sb x.type.name) : AV) :: (.lst false 2 (mp Level.cells x.type.levels) : AV) :: (.lst false 5 (mp Term.cells x.type.kids) : AV) :: (.int .i64 x.arity : AV) :: (.int .i64 x.tree.kind : AV) :: (.int .i64 x.tree.body.kind : AV) :: (.int .i64 x.tree.body.index : AV) :: (.str (sb x.tree.body.name) : AV) :: (.lst false 2 (mp Level.cells x.tree.body.levels) : AV) :: (.lst false 5 (mp Term.cells x.tree.body.kids) : AV) :: (.int .i64 x.tree.var : AV) :: (.lst false 10 (mp Branch.cells x.tree.branches) : AV) :: l := by rw [Fun.cells_eq]; rfl
theorem Fun.cns (x : Fun) (c : AV) : c :: x.cells = [c, .str (sb x.name), .int .i64 x.type.kind, .int .i64 x.type.index, .str (sb x.type.name), .lst false 2 (mp Level.cells x.type.levels), .lst false 5 (mp Term.cells x.type.kids), .int .i64 x.arity, .int .i64 x.tree.kind, .int .i64 x.tree.body.kind, .int .i64 x.tree.body.index, .str (sb x.tree.body.name), .lst false 2 (mp Level.cells x.tree.body.levels), .lst false 5 (mp Term.cells x.tree.body.kids), .int .i64 x.tree.var, .lst false 10 (mp Branch.cells x.tree.branches)] := by rw [Fun.cells_eq]
attribute [go_sem] Fun.app Fun.cns
attribute [go_sem] Fun.nbs Fun.rens Fun.frz Fun.reads Fun.length Fun.scalar
attribute [go_sem low] Fun.splc Fun.splc2

structure Decl where
  kind : Int
  name : Str
  params : Int
  type : Term
  value : Term
  fixed : Int
  ctors : List Ctor
  recu : Recursor
  funs : List Fun
def Decl.cells (x : Decl) : List AV := [.int .i64 x.kind, .str (sb x.name), .int .i64 x.params] ++ x.type.cells ++ x.value.cells ++ [.int .i64 x.fixed, .lst false 6 (mp Ctor.cells x.ctors)] ++ x.recu.cells ++ [.lst false 15 (mp Fun.cells x.funs)]
theorem Decl.cells_cat (x : Decl) : x.cells = [.int .i64 x.kind, .str (sb x.name), .int .i64 x.params] ++ x.type.cells ++ x.value.cells ++ [.int .i64 x.fixed, .lst false 6 (mp Ctor.cells x.ctors)] ++ x.recu.cells ++ [.lst false 15 (mp Fun.cells x.funs)] := rfl
theorem Decl.cells_eq (x : Decl) : x.cells = [.int .i64 x.kind, .str (sb x.name), .int .i64 x.params, .int .i64 x.type.kind, .int .i64 x.type.index, .str (sb x.type.name), .lst false 2 (mp Level.cells x.type.levels), .lst false 5 (mp Term.cells x.type.kids), .int .i64 x.value.kind, .int .i64 x.value.index, .str (sb x.value.name), .lst false 2 (mp Level.cells x.value.levels), .lst false 5 (mp Term.cells x.value.kids), .int .i64 x.fixed, .lst false 6 (mp Ctor.cells x.ctors), .int .i64 x.recu.params, .int .i64 x.recu.type.kind, .int .i64 x.recu.type.index, .str (sb x.recu.type.name), .lst false 2 (mp Level.cells x.recu.type.levels), .lst false 5 (mp Term.cells x.recu.type.kids), .lst false 5 (mp Term.cells x.recu.rules), .lst false 15 (mp Fun.cells x.funs)] := by
  simp only [Decl.cells, Recursor.cells_eq, Term.cells_eq, List.cons_append, List.nil_append, List.append_nil]
attribute [irreducible] Decl.cells
theorem Decl.length (x : Decl) : x.cells.length = 23 := by rw [Decl.cells_eq]; rfl
theorem Decl.scalar (x : Decl) : x.cells.all AV.scalar = true := by rw [Decl.cells_eq]; rfl
theorem Decl.nb (n : Nat) (x : Decl) : nbL n x.cells := by
  rw [Decl.cells_cat]
  exact (nbL_append (nbL_append (nbL_append (nbL_append (nbL_append ⟨trivial, trivial, trivial, trivial⟩ (Term.nb n x.type)) (Term.nb n x.value)) ⟨trivial, nbR_map (Ctor.nb n) _, trivial⟩) (Recursor.nb n x.recu)) ⟨nbR_map (Fun.nb n) _, trivial⟩)
def Decl.of (H : List AObj) : List AV → Option Decl
  | [c0, c1, c2, c3, c4, c5, c6, c7, c8, c9, c10, c11, c12, c13, c14, c15, c16, c17, c18, c19, c20, c21, c22] => (dI .i64 c0).bind fun x0 => (dS c1).bind fun x1 => (dI .i64 c2).bind fun x2 => (Term.of H [c3, c4, c5, c6, c7]).bind fun x3 => (Term.of H [c8, c9, c10, c11, c12]).bind fun x4 => (dI .i64 c13).bind fun x5 => (dL Ctor.row H c14).bind fun x6 => (Recursor.of H [c15, c16, c17, c18, c19, c20, c21]).bind fun x7 => (dL Fun.row H c22).bind fun x8 => some (.mk x0 x1 x2 x3 x4 x5 x6 x7 x8)
  | _ => none
theorem Decl.of_lit {H : List AObj} {c0 c1 c2 c3 c4 c5 c6 c7 c8 c9 c10 c11 c12 c13 c14 c15 c16 c17 c18 c19 c20 c21 c22 : AV} : Decl.of H [c0, c1, c2, c3, c4, c5, c6, c7, c8, c9, c10, c11, c12, c13, c14, c15, c16, c17, c18, c19, c20, c21, c22] = (dI .i64 c0).bind fun x0 => (dS c1).bind fun x1 => (dI .i64 c2).bind fun x2 => (Term.of H [c3, c4, c5, c6, c7]).bind fun x3 => (Term.of H [c8, c9, c10, c11, c12]).bind fun x4 => (dI .i64 c13).bind fun x5 => (dL Ctor.row H c14).bind fun x6 => (Recursor.of H [c15, c16, c17, c18, c19, c20, c21]).bind fun x7 => (dL Fun.row H c22).bind fun x8 => some (.mk x0 x1 x2 x3 x4 x5 x6 x7 x8) := rfl
theorem Decl.of_lit_cells (H : List AObj) (x : Decl) : Decl.of H [.int .i64 x.kind, .str (sb x.name), .int .i64 x.params, .int .i64 x.type.kind, .int .i64 x.type.index, .str (sb x.type.name), .lst false 2 (mp Level.cells x.type.levels), .lst false 5 (mp Term.cells x.type.kids), .int .i64 x.value.kind, .int .i64 x.value.index, .str (sb x.value.name), .lst false 2 (mp Level.cells x.value.levels), .lst false 5 (mp Term.cells x.value.kids), .int .i64 x.fixed, .lst false 6 (mp Ctor.cells x.ctors), .int .i64 x.recu.params, .int .i64 x.recu.type.kind, .int .i64 x.recu.type.index, .str (sb x.recu.type.name), .lst false 2 (mp Level.cells x.recu.type.levels), .lst false 5 (mp Term.cells x.recu.type.kids), .lst false 5 (mp Term.cells x.recu.rules), .lst false 15 (mp Fun.cells x.funs)] = some x := by
  simp only [Decl.of_lit, dI_int, dB_bool, dS_sb, bind_some', szOK, beq_self_eq_true, Bool.true_or, cond_true, dL, Ctor.mapO_cells, Ctor.row, Fun.mapO_cells, Fun.row, Recursor.of_lit_cells, Term.of_lit_cells]
  try (cases x; rfl)
theorem Decl.of_cells (H : List AObj) (x : Decl) : Decl.of H x.cells = some x := by rw [Decl.cells_eq]; exact Decl.of_lit_cells H x
theorem Decl.of_ok {H : List AObj} {n : Nat} {cs : List AV} {x : Decl} (h : Decl.of H cs = some x) : CoL1 H n cs x.cells := by
  unfold Decl.of at h
  split at h
  · simp only [Option.bind_eq_some_iff, Option.some.injEq] at h
    obtain ⟨x0, h0, x1, h1, x2, h2, x3, h3, x4, h4, x5, h5, x6, h6, x7, h7, x8, h8, rfl⟩ := h
    rw [Decl.cells_cat]
    exact (CoL1.append (CoL1.append (CoL1.append (CoL1.append (CoL1.append (CoL1.cons (dI_ok h0) (CoL1.cons (dS_ok h1) (CoL1.cons (dI_ok h2) CoL1.nil))) (Term.of_ok h3)) (Term.of_ok h4)) (CoL1.cons (dI_ok h5) (CoL1.cons (dL_ok h6) CoL1.nil))) (Recursor.of_ok h7)) (CoL1.cons (dL_ok h8) CoL1.nil))
  · cases h
def Decl.cel : Cel Decl := ⟨Decl.cells, Decl.of, fun _ _ _ _ h => Decl.of_ok h, Decl.nb⟩
def Decl.row : Row Decl := ⟨Decl.cells, Decl.of [], 23, fun _ _ h => (Decl.of_ok (n := 0) h).toSub, Decl.nb⟩
theorem Decl.mapO_cells (xs : List Decl) : mapO (Decl.of []) (mp Decl.cells xs) = some xs := mapO_mp (Decl.of_cells []) xs
theorem Decl.mapO_set (xs : List Decl) (i : Nat) (r : List AV) : mapO (Decl.of []) ((mp Decl.cells xs).set i r) = bif decide (i < xs.length) then (Decl.of [] r).bind fun y => some (xs.set i y) else some xs := Go.Abs.mapO_set (Decl.of_cells []) xs i r
attribute [go_sem low] Decl.mapO_set
theorem Decl.row_f : Decl.row.enc = Decl.cells ∧ Decl.row.dec = Decl.of [] ∧ Decl.row.sz = 23 ∧ Decl.cel.enc = Decl.cells ∧ Decl.cel.dec = Decl.of := ⟨rfl, rfl, rfl, rfl, rfl⟩
theorem Decl.eta (x : Decl) : Decl.mk x.kind x.name x.params x.type x.value x.fixed x.ctors x.recu x.funs = x := by cases x; rfl
attribute [go_sem] Decl.of_lit Decl.of_cells Decl.mapO_cells Decl.row_f Decl.eta
theorem Decl.prj : (∀ (y0 : Int) (y1 : Str) (y2 : Int) (y3 : Term) (y4 : Term) (y5 : Int) (y6 : List Ctor) (y7 : Recursor) (y8 : List Fun), (Decl.mk y0 y1 y2 y3 y4 y5 y6 y7 y8).kind = y0) ∧ (∀ (y0 : Int) (y1 : Str) (y2 : Int) (y3 : Term) (y4 : Term) (y5 : Int) (y6 : List Ctor) (y7 : Recursor) (y8 : List Fun), (Decl.mk y0 y1 y2 y3 y4 y5 y6 y7 y8).name = y1) ∧ (∀ (y0 : Int) (y1 : Str) (y2 : Int) (y3 : Term) (y4 : Term) (y5 : Int) (y6 : List Ctor) (y7 : Recursor) (y8 : List Fun), (Decl.mk y0 y1 y2 y3 y4 y5 y6 y7 y8).params = y2) ∧ (∀ (y0 : Int) (y1 : Str) (y2 : Int) (y3 : Term) (y4 : Term) (y5 : Int) (y6 : List Ctor) (y7 : Recursor) (y8 : List Fun), (Decl.mk y0 y1 y2 y3 y4 y5 y6 y7 y8).type = y3) ∧ (∀ (y0 : Int) (y1 : Str) (y2 : Int) (y3 : Term) (y4 : Term) (y5 : Int) (y6 : List Ctor) (y7 : Recursor) (y8 : List Fun), (Decl.mk y0 y1 y2 y3 y4 y5 y6 y7 y8).value = y4) ∧ (∀ (y0 : Int) (y1 : Str) (y2 : Int) (y3 : Term) (y4 : Term) (y5 : Int) (y6 : List Ctor) (y7 : Recursor) (y8 : List Fun), (Decl.mk y0 y1 y2 y3 y4 y5 y6 y7 y8).fixed = y5) ∧ (∀ (y0 : Int) (y1 : Str) (y2 : Int) (y3 : Term) (y4 : Term) (y5 : Int) (y6 : List Ctor) (y7 : Recursor) (y8 : List Fun), (Decl.mk y0 y1 y2 y3 y4 y5 y6 y7 y8).ctors = y6) ∧ (∀ (y0 : Int) (y1 : Str) (y2 : Int) (y3 : Term) (y4 : Term) (y5 : Int) (y6 : List Ctor) (y7 : Recursor) (y8 : List Fun), (Decl.mk y0 y1 y2 y3 y4 y5 y6 y7 y8).recu = y7) ∧ (∀ (y0 : Int) (y1 : Str) (y2 : Int) (y3 : Term) (y4 : Term) (y5 : Int) (y6 : List Ctor) (y7 : Recursor) (y8 : List Fun), (Decl.mk y0 y1 y2 y3 y4 y5 y6 y7 y8).funs = y8) := ⟨fun _ _ _ _ _ _ _ _ _ => rfl, fun _ _ _ _ _ _ _ _ _ => rfl, fun _ _ _ _ _ _ _ _ _ => rfl, fun _ _ _ _ _ _ _ _ _ => rfl, fun _ _ _ _ _ _ _ _ _ => rfl, fun _ _ _ _ _ _ _ _ _ => rfl, fun _ _ _ _ _ _ _ _ _ => rfl, fun _ _ _ _ _ _ _ _ _ => rfl, fun _ _ _ _ _ _ _ _ _ => rfl⟩
attribute [go_sem] Decl.prj
theorem Decl.nbs : (∀ (n : Nat) (x : Decl), Go.Abs.nbL n x.cells = True) ∧ ∀ (n : Nat) (xs : List Decl), Go.Abs.nbR n (mp Decl.cells xs) = True := ⟨fun n x => eq_true (Decl.nb n x), fun n xs => eq_true (nbR_map (Decl.nb n) xs)⟩
theorem Decl.rens : (∀ (ρ : Nat → Nat) (x : Decl), renL ρ x.cells = x.cells) ∧ ∀ (ρ : Nat → Nat) (xs : List Decl), renR ρ (mp Decl.cells xs) = mp Decl.cells xs := ⟨fun ρ x => renL_of_nb ρ _ (Decl.nb 0 x), fun ρ xs => renR_of_nb ρ _ (nbR_map (Decl.nb 0) xs)⟩
theorem Decl.vw (H : List AObj) (x : Decl) : vwL H x.cells = some (x.cells, []) := vwL_of_nb H _ (Decl.nb 0 x)
attribute [go_sem] Decl.vw
theorem Decl.frz (low : Nat) (H : List AObj) (x : Decl) : frzL low H x.cells = x.cells := frzL_of_nb low H _ (Decl.nb 0 x)
theorem Decl.rpv (l : Nat) (ds : List AV) (x : Decl) : x.cells.map (rpV l ds) = x.cells := rpVL_of_nb _ (Decl.nb 0 x)
attribute [go_sem] Decl.rpv
theorem Decl.tk : (∀ x : Decl, List.take 23 x.cells = x.cells) ∧ ∀ x : Decl, List.drop 23 x.cells = [] := ⟨fun x => by rw [Decl.cells_eq]; rfl, fun x => by rw [Decl.cells_eq]; rfl⟩
attribute [go_sem] Decl.tk
theorem Decl.reads :
    (∀ x : Decl, cellsOf (.agg x.cells) = some x.cells) ∧
    (∀ x : Decl, loadAV true 23 x.cells = some (.agg x.cells)) ∧
    (∀ x : Decl, loadAV false 1 x.cells = some (.int .i64 x.kind)) ∧
    (∀ x : Decl, loadAV false 1 (x.cells.drop 1) = some (.str (sb x.name))) ∧
    (∀ x : Decl, loadAV false 1 (x.cells.drop 2) = some (.int .i64 x.params)) ∧
    (∀ x : Decl, loadAV false 1 (x.cells.drop 3) = some (.int .i64 x.type.kind)) ∧
    (∀ x : Decl, loadAV false 1 (x.cells.drop 4) = some (.int .i64 x.type.index)) ∧
    (∀ x : Decl, loadAV false 1 (x.cells.drop 5) = some (.str (sb x.type.name))) ∧
    (∀ x : Decl, loadAV false 1 (x.cells.drop 6) = some (.lst false 2 (mp Level.cells x.type.levels))) ∧
    (∀ x : Decl, loadAV false 1 (x.cells.drop 7) = some (.lst false 5 (mp Term.cells x.type.kids))) ∧
    (∀ x : Decl, loadAV false 1 (x.cells.drop 8) = some (.int .i64 x.value.kind)) ∧
    (∀ x : Decl, loadAV false 1 (x.cells.drop 9) = some (.int .i64 x.value.index)) ∧
    (∀ x : Decl, loadAV false 1 (x.cells.drop 10) = some (.str (sb x.value.name))) ∧
    (∀ x : Decl, loadAV false 1 (x.cells.drop 11) = some (.lst false 2 (mp Level.cells x.value.levels))) ∧
    (∀ x : Decl, loadAV false 1 (x.cells.drop 12) = some (.lst false 5 (mp Term.cells x.value.kids))) ∧
    (∀ x : Decl, loadAV false 1 (x.cells.drop 13) = some (.int .i64 x.fixed)) ∧
    (∀ x : Decl, loadAV false 1 (x.cells.drop 14) = some (.lst false 6 (mp Ctor.cells x.ctors))) ∧
    (∀ x : Decl, loadAV false 1 (x.cells.drop 15) = some (.int .i64 x.recu.params)) ∧
    (∀ x : Decl, loadAV false 1 (x.cells.drop 16) = some (.int .i64 x.recu.type.kind)) ∧
    (∀ x : Decl, loadAV false 1 (x.cells.drop 17) = some (.int .i64 x.recu.type.index)) ∧
    (∀ x : Decl, loadAV false 1 (x.cells.drop 18) = some (.str (sb x.recu.type.name))) ∧
    (∀ x : Decl, loadAV false 1 (x.cells.drop 19) = some (.lst false 2 (mp Level.cells x.recu.type.levels))) ∧
    (∀ x : Decl, loadAV false 1 (x.cells.drop 20) = some (.lst false 5 (mp Term.cells x.recu.type.kids))) ∧
    (∀ x : Decl, loadAV false 1 (x.cells.drop 21) = some (.lst false 5 (mp Term.cells x.recu.rules))) ∧
    (∀ x : Decl, loadAV false 1 (x.cells.drop 22) = some (.lst false 15 (mp Fun.cells x.funs))) ∧
    (∀ x : Decl, loadAV true 5 (x.cells.drop 3) = some (.agg x.type.cells)) ∧
    (∀ x : Decl, loadAV true 5 (x.cells.drop 8) = some (.agg x.value.cells)) ∧
    (∀ x : Decl, loadAV true 7 (x.cells.drop 15) = some (.agg x.recu.cells)) ∧
    (∀ x : Decl, loadAV true 5 (x.cells.drop 16) = some (.agg x.recu.type.cells)) :=
  ⟨fun x => by simp only [cellsOf, Decl.scalar, if_true],
   fun x => loadAV_all (Decl.length x),
   fun x => by rw [Decl.cells_eq]; rfl,
   fun x => by rw [Decl.cells_eq]; rfl,
   fun x => by rw [Decl.cells_eq]; rfl,
   fun x => by rw [Decl.cells_eq]; rfl,
   fun x => by rw [Decl.cells_eq]; rfl,
   fun x => by rw [Decl.cells_eq]; rfl,
   fun x => by rw [Decl.cells_eq]; rfl,
   fun x => by rw [Decl.cells_eq]; rfl,
   fun x => by rw [Decl.cells_eq]; rfl,
   fun x => by rw [Decl.cells_eq]; rfl,
   fun x => by rw [Decl.cells_eq]; rfl,
   fun x => by rw [Decl.cells_eq]; rfl,
   fun x => by rw [Decl.cells_eq]; rfl,
   fun x => by rw [Decl.cells_eq]; rfl,
   fun x => by rw [Decl.cells_eq]; rfl,
   fun x => by rw [Decl.cells_eq]; rfl,
   fun x => by rw [Decl.cells_eq]; rfl,
   fun x => by rw [Decl.cells_eq]; rfl,
   fun x => by rw [Decl.cells_eq]; rfl,
   fun x => by rw [Decl.cells_eq]; rfl,
   fun x => by rw [Decl.cells_eq]; rfl,
   fun x => by rw [Decl.cells_eq]; rfl,
   fun x => by rw [Decl.cells_eq]; rfl,
   fun x => by rw [Decl.cells_eq]; simp only [Recursor.cells_eq, Term.cells_eq, List.drop_succ_cons, List.drop_zero]; rfl,
   fun x => by rw [Decl.cells_eq]; simp only [Recursor.cells_eq, Term.cells_eq, List.drop_succ_cons, List.drop_zero]; rfl,
   fun x => by rw [Decl.cells_eq]; simp only [Recursor.cells_eq, Term.cells_eq, List.drop_succ_cons, List.drop_zero]; rfl,
   fun x => by rw [Decl.cells_eq]; simp only [Recursor.cells_eq, Term.cells_eq, List.drop_succ_cons, List.drop_zero]; rfl⟩
theorem Decl.splc (x : Decl) (o : Nat) (xs : List AV) : splice x.cells o xs = splice [.int .i64 x.kind, .str (sb x.name), .int .i64 x.params, .int .i64 x.type.kind, .int .i64 x.type.index, .str (sb x.type.name), .lst false 2 (mp Level.cells x.type.levels), .lst false 5 (mp Term.cells x.type.kids), .int .i64 x.value.kind, .int .i64 x.value.index, .str (sb x.value.name), .lst false 2 (mp Level.cells x.value.levels), .lst false 5 (mp Term.cells x.value.kids), .int .i64 x.fixed, .lst false 6 (mp Ctor.cells x.ctors), .int .i64 x.recu.params, .int .i64 x.recu.type.kind, .int .i64 x.recu.type.index, .str (sb x.recu.type.name), .lst false 2 (mp Level.cells x.recu.type.levels), .lst false 5 (mp Term.cells x.recu.type.kids), .lst false 5 (mp Term.cells x.recu.rules), .lst false 15 (mp Fun.cells x.funs)] o xs := by rw [Decl.cells_eq]
theorem Decl.splc2 (x : Decl) (o : Nat) (c : AV) (cs : List AV) : splice (c :: cs) o x.cells = splice (c :: cs) o [.int .i64 x.kind, .str (sb x.name), .int .i64 x.params, .int .i64 x.type.kind, .int .i64 x.type.index, .str (sb x.type.name), .lst false 2 (mp Level.cells x.type.levels), .lst false 5 (mp Term.cells x.type.kids), .int .i64 x.value.kind, .int .i64 x.value.index, .str (sb x.value.name), .lst false 2 (mp Level.cells x.value.levels), .lst false 5 (mp Term.cells x.value.kids), .int .i64 x.fixed, .lst false 6 (mp Ctor.cells x.ctors), .int .i64 x.recu.params, .int .i64 x.recu.type.kind, .int .i64 x.recu.type.index, .str (sb x.recu.type.name), .lst false 2 (mp Level.cells x.recu.type.levels), .lst false 5 (mp Term.cells x.recu.type.kids), .lst false 5 (mp Term.cells x.recu.rules), .lst false 15 (mp Fun.cells x.funs)] := by rw [Decl.cells_eq]
theorem Decl.app (x : Decl) (l : List AV) : x.cells ++ l = (.int .i64 x.kind : AV) :: (.str (sb x.name) : AV) :: (.int .i64 x.params : AV) :: (.int .i64 x.type.kind : AV) :: (.int .i64 x.type.index : AV) :: (.str (sb x.type.name) : AV) :: (.lst false 2 (mp Level.cells x.type.levels) : AV) :: (.lst false 5 (mp Term.cells x.type.kids) : AV) :: (.int .i64 x.value.kind : AV) :: (.int .i64 x.value.index : AV) :: (.str (sb x.value.name) : AV) :: (.lst false 2 (mp Level.cells x.value.levels) : AV) :: (.lst false 5 (mp Term.cells x.value.kids) : AV) :: (.int .i64 x.fixed : AV) :: (.lst false 6 (mp Ctor.cells x.ctors) : AV) :: (.int .i64 x.recu.params : AV) :: (.int .i64 x.recu.type.kind : AV) :: (.int .i64 x.recu.type.index : AV) :: (.str (sb x.recu.type.name) : AV) :: (.lst false 2 (mp Level.cells x.recu.type.levels) : AV) :: (.lst false 5 (mp Term.cells x.recu.type.kids) : AV) :: (.lst false 5 (mp Term.cells x.recu.rules) : AV) :: (.lst false 15 (mp Fun.cells x.funs) : AV) :: l := by rw [Decl.cells_eq]; rfl
theorem Decl.cns (x : Decl) (c : AV) : c :: x.cells = [c, .int .i64 x.kind, .str (sb x.name), .int .i64 x.params, .int .i64 x.type.kind, .int .i64 x.type.index, .str (sb x.type.name), .lst false 2 (mp Level.cells x.type.levels), .lst false 5 (mp Term.cells x.type.kids), .int .i64 x.value.kind, .int .i64 x.value.index, .str (sb x.value.name), .lst false 2 (mp Level.cells x.value.levels), .lst false 5 (mp Term.cells x.value.kids), .int .i64 x.fixed, .lst false 6 (mp Ctor.cells x.ctors), .int .i64 x.recu.params, .int .i64 x.recu.type.kind, .int .i64 x.recu.type.index, .str (sb x.recu.type.name), .lst false 2 (mp Level.cells x.recu.type.levels), .lst false 5 (mp Term.cells x.recu.type.kids), .lst false 5 (mp Term.cells x.recu.rules), .lst false 15 (mp Fun.cells x.funs)] := by rw [Decl.cells_eq]
attribute [go_sem] Decl.app Decl.cns
attribute [go_sem] Decl.nbs Decl.rens Decl.frz Decl.reads Decl.length Decl.scalar
attribute [go_sem low] Decl.splc Decl.splc2

structure RecField where
  field : Int
  args : List Term
  results : List Term
def RecField.cells (x : RecField) : List AV := [.int .i64 x.field, .lst false 5 (mp Term.cells x.args), .lst false 5 (mp Term.cells x.results)]
theorem RecField.cells_cat (x : RecField) : x.cells = [.int .i64 x.field, .lst false 5 (mp Term.cells x.args), .lst false 5 (mp Term.cells x.results)] := rfl
theorem RecField.cells_eq (x : RecField) : x.cells = [.int .i64 x.field, .lst false 5 (mp Term.cells x.args), .lst false 5 (mp Term.cells x.results)] := rfl
attribute [irreducible] RecField.cells
theorem RecField.length (x : RecField) : x.cells.length = 3 := by rw [RecField.cells_eq]; rfl
theorem RecField.scalar (x : RecField) : x.cells.all AV.scalar = true := by rw [RecField.cells_eq]; rfl
theorem RecField.nb (n : Nat) (x : RecField) : nbL n x.cells := by
  rw [RecField.cells_cat]
  exact ⟨trivial, nbR_map (Term.nb n) _, nbR_map (Term.nb n) _, trivial⟩
def RecField.of (H : List AObj) : List AV → Option RecField
  | [c0, c1, c2] => (dI .i64 c0).bind fun x0 => (dL Term.row H c1).bind fun x1 => (dL Term.row H c2).bind fun x2 => some (.mk x0 x1 x2)
  | _ => none
theorem RecField.of_lit {H : List AObj} {c0 c1 c2 : AV} : RecField.of H [c0, c1, c2] = (dI .i64 c0).bind fun x0 => (dL Term.row H c1).bind fun x1 => (dL Term.row H c2).bind fun x2 => some (.mk x0 x1 x2) := rfl
theorem RecField.of_lit_cells (H : List AObj) (x : RecField) : RecField.of H [.int .i64 x.field, .lst false 5 (mp Term.cells x.args), .lst false 5 (mp Term.cells x.results)] = some x := by
  simp only [RecField.of_lit, dI_int, dB_bool, dS_sb, bind_some', szOK, beq_self_eq_true, Bool.true_or, cond_true, dL, Term.mapO_cells, Term.row]
  try (cases x; rfl)
theorem RecField.of_cells (H : List AObj) (x : RecField) : RecField.of H x.cells = some x := by rw [RecField.cells_eq]; exact RecField.of_lit_cells H x
theorem RecField.of_ok {H : List AObj} {n : Nat} {cs : List AV} {x : RecField} (h : RecField.of H cs = some x) : CoL1 H n cs x.cells := by
  unfold RecField.of at h
  split at h
  · simp only [Option.bind_eq_some_iff, Option.some.injEq] at h
    obtain ⟨x0, h0, x1, h1, x2, h2, rfl⟩ := h
    rw [RecField.cells_cat]
    exact (CoL1.cons (dI_ok h0) (CoL1.cons (dL_ok h1) (CoL1.cons (dL_ok h2) CoL1.nil)))
  · cases h
def RecField.cel : Cel RecField := ⟨RecField.cells, RecField.of, fun _ _ _ _ h => RecField.of_ok h, RecField.nb⟩
def RecField.row : Row RecField := ⟨RecField.cells, RecField.of [], 3, fun _ _ h => (RecField.of_ok (n := 0) h).toSub, RecField.nb⟩
theorem RecField.mapO_cells (xs : List RecField) : mapO (RecField.of []) (mp RecField.cells xs) = some xs := mapO_mp (RecField.of_cells []) xs
theorem RecField.mapO_set (xs : List RecField) (i : Nat) (r : List AV) : mapO (RecField.of []) ((mp RecField.cells xs).set i r) = bif decide (i < xs.length) then (RecField.of [] r).bind fun y => some (xs.set i y) else some xs := Go.Abs.mapO_set (RecField.of_cells []) xs i r
attribute [go_sem low] RecField.mapO_set
theorem RecField.row_f : RecField.row.enc = RecField.cells ∧ RecField.row.dec = RecField.of [] ∧ RecField.row.sz = 3 ∧ RecField.cel.enc = RecField.cells ∧ RecField.cel.dec = RecField.of := ⟨rfl, rfl, rfl, rfl, rfl⟩
theorem RecField.eta (x : RecField) : RecField.mk x.field x.args x.results = x := by cases x; rfl
attribute [go_sem] RecField.of_lit RecField.of_cells RecField.mapO_cells RecField.row_f RecField.eta
theorem RecField.prj : (∀ (y0 : Int) (y1 : List Term) (y2 : List Term), (RecField.mk y0 y1 y2).field = y0) ∧ (∀ (y0 : Int) (y1 : List Term) (y2 : List Term), (RecField.mk y0 y1 y2).args = y1) ∧ (∀ (y0 : Int) (y1 : List Term) (y2 : List Term), (RecField.mk y0 y1 y2).results = y2) := ⟨fun _ _ _ => rfl, fun _ _ _ => rfl, fun _ _ _ => rfl⟩
attribute [go_sem] RecField.prj
theorem RecField.nbs : (∀ (n : Nat) (x : RecField), Go.Abs.nbL n x.cells = True) ∧ ∀ (n : Nat) (xs : List RecField), Go.Abs.nbR n (mp RecField.cells xs) = True := ⟨fun n x => eq_true (RecField.nb n x), fun n xs => eq_true (nbR_map (RecField.nb n) xs)⟩
theorem RecField.rens : (∀ (ρ : Nat → Nat) (x : RecField), renL ρ x.cells = x.cells) ∧ ∀ (ρ : Nat → Nat) (xs : List RecField), renR ρ (mp RecField.cells xs) = mp RecField.cells xs := ⟨fun ρ x => renL_of_nb ρ _ (RecField.nb 0 x), fun ρ xs => renR_of_nb ρ _ (nbR_map (RecField.nb 0) xs)⟩
theorem RecField.vw (H : List AObj) (x : RecField) : vwL H x.cells = some (x.cells, []) := vwL_of_nb H _ (RecField.nb 0 x)
attribute [go_sem] RecField.vw
theorem RecField.frz (low : Nat) (H : List AObj) (x : RecField) : frzL low H x.cells = x.cells := frzL_of_nb low H _ (RecField.nb 0 x)
theorem RecField.rpv (l : Nat) (ds : List AV) (x : RecField) : x.cells.map (rpV l ds) = x.cells := rpVL_of_nb _ (RecField.nb 0 x)
attribute [go_sem] RecField.rpv
theorem RecField.tk : (∀ x : RecField, List.take 3 x.cells = x.cells) ∧ ∀ x : RecField, List.drop 3 x.cells = [] := ⟨fun x => by rw [RecField.cells_eq]; rfl, fun x => by rw [RecField.cells_eq]; rfl⟩
attribute [go_sem] RecField.tk
theorem RecField.reads :
    (∀ x : RecField, cellsOf (.agg x.cells) = some x.cells) ∧
    (∀ x : RecField, loadAV true 3 x.cells = some (.agg x.cells)) ∧
    (∀ x : RecField, loadAV false 1 x.cells = some (.int .i64 x.field)) ∧
    (∀ x : RecField, loadAV false 1 (x.cells.drop 1) = some (.lst false 5 (mp Term.cells x.args))) ∧
    (∀ x : RecField, loadAV false 1 (x.cells.drop 2) = some (.lst false 5 (mp Term.cells x.results))) :=
  ⟨fun x => by simp only [cellsOf, RecField.scalar, if_true],
   fun x => loadAV_all (RecField.length x),
   fun x => by rw [RecField.cells_eq]; rfl,
   fun x => by rw [RecField.cells_eq]; rfl,
   fun x => by rw [RecField.cells_eq]; rfl⟩
theorem RecField.splc (x : RecField) (o : Nat) (xs : List AV) : splice x.cells o xs = splice [.int .i64 x.field, .lst false 5 (mp Term.cells x.args), .lst false 5 (mp Term.cells x.results)] o xs := by rw [RecField.cells_eq]
theorem RecField.splc2 (x : RecField) (o : Nat) (c : AV) (cs : List AV) : splice (c :: cs) o x.cells = splice (c :: cs) o [.int .i64 x.field, .lst false 5 (mp Term.cells x.args), .lst false 5 (mp Term.cells x.results)] := by rw [RecField.cells_eq]
theorem RecField.app (x : RecField) (l : List AV) : x.cells ++ l = (.int .i64 x.field : AV) :: (.lst false 5 (mp Term.cells x.args) : AV) :: (.lst false 5 (mp Term.cells x.results) : AV) :: l := by rw [RecField.cells_eq]; rfl
theorem RecField.cns (x : RecField) (c : AV) : c :: x.cells = [c, .int .i64 x.field, .lst false 5 (mp Term.cells x.args), .lst false 5 (mp Term.cells x.results)] := by rw [RecField.cells_eq]
attribute [go_sem] RecField.app RecField.cns
attribute [go_sem] RecField.nbs RecField.rens RecField.frz RecField.reads RecField.length RecField.scalar
attribute [go_sem low] RecField.splc RecField.splc2

structure CtorForm where
  name : Str
  fields : List Term
  recu : List RecField
  results : List Term
def CtorForm.cells (x : CtorForm) : List AV := [.str (sb x.name), .lst false 5 (mp Term.cells x.fields), .lst false 3 (mp RecField.cells x.recu), .lst false 5 (mp Term.cells x.results)]
theorem CtorForm.cells_cat (x : CtorForm) : x.cells = [.str (sb x.name), .lst false 5 (mp Term.cells x.fields), .lst false 3 (mp RecField.cells x.recu), .lst false 5 (mp Term.cells x.results)] := rfl
theorem CtorForm.cells_eq (x : CtorForm) : x.cells = [.str (sb x.name), .lst false 5 (mp Term.cells x.fields), .lst false 3 (mp RecField.cells x.recu), .lst false 5 (mp Term.cells x.results)] := rfl
attribute [irreducible] CtorForm.cells
theorem CtorForm.length (x : CtorForm) : x.cells.length = 4 := by rw [CtorForm.cells_eq]; rfl
theorem CtorForm.scalar (x : CtorForm) : x.cells.all AV.scalar = true := by rw [CtorForm.cells_eq]; rfl
theorem CtorForm.nb (n : Nat) (x : CtorForm) : nbL n x.cells := by
  rw [CtorForm.cells_cat]
  exact ⟨trivial, nbR_map (Term.nb n) _, nbR_map (RecField.nb n) _, nbR_map (Term.nb n) _, trivial⟩
def CtorForm.of (H : List AObj) : List AV → Option CtorForm
  | [c0, c1, c2, c3] => (dS c0).bind fun x0 => (dL Term.row H c1).bind fun x1 => (dL RecField.row H c2).bind fun x2 => (dL Term.row H c3).bind fun x3 => some (.mk x0 x1 x2 x3)
  | _ => none
theorem CtorForm.of_lit {H : List AObj} {c0 c1 c2 c3 : AV} : CtorForm.of H [c0, c1, c2, c3] = (dS c0).bind fun x0 => (dL Term.row H c1).bind fun x1 => (dL RecField.row H c2).bind fun x2 => (dL Term.row H c3).bind fun x3 => some (.mk x0 x1 x2 x3) := rfl
theorem CtorForm.of_lit_cells (H : List AObj) (x : CtorForm) : CtorForm.of H [.str (sb x.name), .lst false 5 (mp Term.cells x.fields), .lst false 3 (mp RecField.cells x.recu), .lst false 5 (mp Term.cells x.results)] = some x := by
  simp only [CtorForm.of_lit, dI_int, dB_bool, dS_sb, bind_some', szOK, beq_self_eq_true, Bool.true_or, cond_true, dL, RecField.mapO_cells, RecField.row, Term.mapO_cells, Term.row]
  try (cases x; rfl)
theorem CtorForm.of_cells (H : List AObj) (x : CtorForm) : CtorForm.of H x.cells = some x := by rw [CtorForm.cells_eq]; exact CtorForm.of_lit_cells H x
theorem CtorForm.of_ok {H : List AObj} {n : Nat} {cs : List AV} {x : CtorForm} (h : CtorForm.of H cs = some x) : CoL1 H n cs x.cells := by
  unfold CtorForm.of at h
  split at h
  · simp only [Option.bind_eq_some_iff, Option.some.injEq] at h
    obtain ⟨x0, h0, x1, h1, x2, h2, x3, h3, rfl⟩ := h
    rw [CtorForm.cells_cat]
    exact (CoL1.cons (dS_ok h0) (CoL1.cons (dL_ok h1) (CoL1.cons (dL_ok h2) (CoL1.cons (dL_ok h3) CoL1.nil))))
  · cases h
def CtorForm.cel : Cel CtorForm := ⟨CtorForm.cells, CtorForm.of, fun _ _ _ _ h => CtorForm.of_ok h, CtorForm.nb⟩
def CtorForm.row : Row CtorForm := ⟨CtorForm.cells, CtorForm.of [], 4, fun _ _ h => (CtorForm.of_ok (n := 0) h).toSub, CtorForm.nb⟩
theorem CtorForm.mapO_cells (xs : List CtorForm) : mapO (CtorForm.of []) (mp CtorForm.cells xs) = some xs := mapO_mp (CtorForm.of_cells []) xs
theorem CtorForm.mapO_set (xs : List CtorForm) (i : Nat) (r : List AV) : mapO (CtorForm.of []) ((mp CtorForm.cells xs).set i r) = bif decide (i < xs.length) then (CtorForm.of [] r).bind fun y => some (xs.set i y) else some xs := Go.Abs.mapO_set (CtorForm.of_cells []) xs i r
attribute [go_sem low] CtorForm.mapO_set
theorem CtorForm.row_f : CtorForm.row.enc = CtorForm.cells ∧ CtorForm.row.dec = CtorForm.of [] ∧ CtorForm.row.sz = 4 ∧ CtorForm.cel.enc = CtorForm.cells ∧ CtorForm.cel.dec = CtorForm.of := ⟨rfl, rfl, rfl, rfl, rfl⟩
theorem CtorForm.eta (x : CtorForm) : CtorForm.mk x.name x.fields x.recu x.results = x := by cases x; rfl
attribute [go_sem] CtorForm.of_lit CtorForm.of_cells CtorForm.mapO_cells CtorForm.row_f CtorForm.eta
theorem CtorForm.prj : (∀ (y0 : Str) (y1 : List Term) (y2 : List RecField) (y3 : List Term), (CtorForm.mk y0 y1 y2 y3).name = y0) ∧ (∀ (y0 : Str) (y1 : List Term) (y2 : List RecField) (y3 : List Term), (CtorForm.mk y0 y1 y2 y3).fields = y1) ∧ (∀ (y0 : Str) (y1 : List Term) (y2 : List RecField) (y3 : List Term), (CtorForm.mk y0 y1 y2 y3).recu = y2) ∧ (∀ (y0 : Str) (y1 : List Term) (y2 : List RecField) (y3 : List Term), (CtorForm.mk y0 y1 y2 y3).results = y3) := ⟨fun _ _ _ _ => rfl, fun _ _ _ _ => rfl, fun _ _ _ _ => rfl, fun _ _ _ _ => rfl⟩
attribute [go_sem] CtorForm.prj
theorem CtorForm.nbs : (∀ (n : Nat) (x : CtorForm), Go.Abs.nbL n x.cells = True) ∧ ∀ (n : Nat) (xs : List CtorForm), Go.Abs.nbR n (mp CtorForm.cells xs) = True := ⟨fun n x => eq_true (CtorForm.nb n x), fun n xs => eq_true (nbR_map (CtorForm.nb n) xs)⟩
theorem CtorForm.rens : (∀ (ρ : Nat → Nat) (x : CtorForm), renL ρ x.cells = x.cells) ∧ ∀ (ρ : Nat → Nat) (xs : List CtorForm), renR ρ (mp CtorForm.cells xs) = mp CtorForm.cells xs := ⟨fun ρ x => renL_of_nb ρ _ (CtorForm.nb 0 x), fun ρ xs => renR_of_nb ρ _ (nbR_map (CtorForm.nb 0) xs)⟩
theorem CtorForm.vw (H : List AObj) (x : CtorForm) : vwL H x.cells = some (x.cells, []) := vwL_of_nb H _ (CtorForm.nb 0 x)
attribute [go_sem] CtorForm.vw
theorem CtorForm.frz (low : Nat) (H : List AObj) (x : CtorForm) : frzL low H x.cells = x.cells := frzL_of_nb low H _ (CtorForm.nb 0 x)
theorem CtorForm.rpv (l : Nat) (ds : List AV) (x : CtorForm) : x.cells.map (rpV l ds) = x.cells := rpVL_of_nb _ (CtorForm.nb 0 x)
attribute [go_sem] CtorForm.rpv
theorem CtorForm.tk : (∀ x : CtorForm, List.take 4 x.cells = x.cells) ∧ ∀ x : CtorForm, List.drop 4 x.cells = [] := ⟨fun x => by rw [CtorForm.cells_eq]; rfl, fun x => by rw [CtorForm.cells_eq]; rfl⟩
attribute [go_sem] CtorForm.tk
theorem CtorForm.reads :
    (∀ x : CtorForm, cellsOf (.agg x.cells) = some x.cells) ∧
    (∀ x : CtorForm, loadAV true 4 x.cells = some (.agg x.cells)) ∧
    (∀ x : CtorForm, loadAV false 1 x.cells = some (.str (sb x.name))) ∧
    (∀ x : CtorForm, loadAV false 1 (x.cells.drop 1) = some (.lst false 5 (mp Term.cells x.fields))) ∧
    (∀ x : CtorForm, loadAV false 1 (x.cells.drop 2) = some (.lst false 3 (mp RecField.cells x.recu))) ∧
    (∀ x : CtorForm, loadAV false 1 (x.cells.drop 3) = some (.lst false 5 (mp Term.cells x.results))) :=
  ⟨fun x => by simp only [cellsOf, CtorForm.scalar, if_true],
   fun x => loadAV_all (CtorForm.length x),
   fun x => by rw [CtorForm.cells_eq]; rfl,
   fun x => by rw [CtorForm.cells_eq]; rfl,
   fun x => by rw [CtorForm.cells_eq]; rfl,
   fun x => by rw [CtorForm.cells_eq]; rfl⟩
theorem CtorForm.splc (x : CtorForm) (o : Nat) (xs : List AV) : splice x.cells o xs = splice [.str (sb x.name), .lst false 5 (mp Term.cells x.fields), .lst false 3 (mp RecField.cells x.recu), .lst false 5 (mp Term.cells x.results)] o xs := by rw [CtorForm.cells_eq]
theorem CtorForm.splc2 (x : CtorForm) (o : Nat) (c : AV) (cs : List AV) : splice (c :: cs) o x.cells = splice (c :: cs) o [.str (sb x.name), .lst false 5 (mp Term.cells x.fields), .lst false 3 (mp RecField.cells x.recu), .lst false 5 (mp Term.cells x.results)] := by rw [CtorForm.cells_eq]
theorem CtorForm.app (x : CtorForm) (l : List AV) : x.cells ++ l = (.str (sb x.name) : AV) :: (.lst false 5 (mp Term.cells x.fields) : AV) :: (.lst false 3 (mp RecField.cells x.recu) : AV) :: (.lst false 5 (mp Term.cells x.results) : AV) :: l := by rw [CtorForm.cells_eq]; rfl
theorem CtorForm.cns (x : CtorForm) (c : AV) : c :: x.cells = [c, .str (sb x.name), .lst false 5 (mp Term.cells x.fields), .lst false 3 (mp RecField.cells x.recu), .lst false 5 (mp Term.cells x.results)] := by rw [CtorForm.cells_eq]
attribute [go_sem] CtorForm.app CtorForm.cns
attribute [go_sem] CtorForm.nbs CtorForm.rens CtorForm.frz CtorForm.reads CtorForm.length CtorForm.scalar
attribute [go_sem low] CtorForm.splc CtorForm.splc2

structure Family where
  name : Str
  levels : Int
  params : List Term
  indices : List Term
  sort : Term
  ctors : List CtorForm
def Family.cells (x : Family) : List AV := [.str (sb x.name), .int .i64 x.levels, .lst false 5 (mp Term.cells x.params), .lst false 5 (mp Term.cells x.indices)] ++ x.sort.cells ++ [.lst false 4 (mp CtorForm.cells x.ctors)]
theorem Family.cells_cat (x : Family) : x.cells = [.str (sb x.name), .int .i64 x.levels, .lst false 5 (mp Term.cells x.params), .lst false 5 (mp Term.cells x.indices)] ++ x.sort.cells ++ [.lst false 4 (mp CtorForm.cells x.ctors)] := rfl
theorem Family.cells_eq (x : Family) : x.cells = [.str (sb x.name), .int .i64 x.levels, .lst false 5 (mp Term.cells x.params), .lst false 5 (mp Term.cells x.indices), .int .i64 x.sort.kind, .int .i64 x.sort.index, .str (sb x.sort.name), .lst false 2 (mp Level.cells x.sort.levels), .lst false 5 (mp Term.cells x.sort.kids), .lst false 4 (mp CtorForm.cells x.ctors)] := by
  simp only [Family.cells, Term.cells_eq, List.cons_append, List.nil_append, List.append_nil]
attribute [irreducible] Family.cells
theorem Family.length (x : Family) : x.cells.length = 10 := by rw [Family.cells_eq]; rfl
theorem Family.scalar (x : Family) : x.cells.all AV.scalar = true := by rw [Family.cells_eq]; rfl
theorem Family.nb (n : Nat) (x : Family) : nbL n x.cells := by
  rw [Family.cells_cat]
  exact (nbL_append (nbL_append ⟨trivial, trivial, nbR_map (Term.nb n) _, nbR_map (Term.nb n) _, trivial⟩ (Term.nb n x.sort)) ⟨nbR_map (CtorForm.nb n) _, trivial⟩)
def Family.of (H : List AObj) : List AV → Option Family
  | [c0, c1, c2, c3, c4, c5, c6, c7, c8, c9] => (dS c0).bind fun x0 => (dI .i64 c1).bind fun x1 => (dL Term.row H c2).bind fun x2 => (dL Term.row H c3).bind fun x3 => (Term.of H [c4, c5, c6, c7, c8]).bind fun x4 => (dL CtorForm.row H c9).bind fun x5 => some (.mk x0 x1 x2 x3 x4 x5)
  | _ => none
theorem Family.of_lit {H : List AObj} {c0 c1 c2 c3 c4 c5 c6 c7 c8 c9 : AV} : Family.of H [c0, c1, c2, c3, c4, c5, c6, c7, c8, c9] = (dS c0).bind fun x0 => (dI .i64 c1).bind fun x1 => (dL Term.row H c2).bind fun x2 => (dL Term.row H c3).bind fun x3 => (Term.of H [c4, c5, c6, c7, c8]).bind fun x4 => (dL CtorForm.row H c9).bind fun x5 => some (.mk x0 x1 x2 x3 x4 x5) := rfl
theorem Family.of_lit_cells (H : List AObj) (x : Family) : Family.of H [.str (sb x.name), .int .i64 x.levels, .lst false 5 (mp Term.cells x.params), .lst false 5 (mp Term.cells x.indices), .int .i64 x.sort.kind, .int .i64 x.sort.index, .str (sb x.sort.name), .lst false 2 (mp Level.cells x.sort.levels), .lst false 5 (mp Term.cells x.sort.kids), .lst false 4 (mp CtorForm.cells x.ctors)] = some x := by
  simp only [Family.of_lit, dI_int, dB_bool, dS_sb, bind_some', szOK, beq_self_eq_true, Bool.true_or, cond_true, dL, CtorForm.mapO_cells, CtorForm.row, Term.mapO_cells, Term.row, Term.of_lit_cells]
  try (cases x; rfl)
theorem Family.of_cells (H : List AObj) (x : Family) : Family.of H x.cells = some x := by rw [Family.cells_eq]; exact Family.of_lit_cells H x
theorem Family.of_ok {H : List AObj} {n : Nat} {cs : List AV} {x : Family} (h : Family.of H cs = some x) : CoL1 H n cs x.cells := by
  unfold Family.of at h
  split at h
  · simp only [Option.bind_eq_some_iff, Option.some.injEq] at h
    obtain ⟨x0, h0, x1, h1, x2, h2, x3, h3, x4, h4, x5, h5, rfl⟩ := h
    rw [Family.cells_cat]
    exact (CoL1.append (CoL1.append (CoL1.cons (dS_ok h0) (CoL1.cons (dI_ok h1) (CoL1.cons (dL_ok h2) (CoL1.cons (dL_ok h3) CoL1.nil)))) (Term.of_ok h4)) (CoL1.cons (dL_ok h5) CoL1.nil))
  · cases h
def Family.cel : Cel Family := ⟨Family.cells, Family.of, fun _ _ _ _ h => Family.of_ok h, Family.nb⟩
def Family.row : Row Family := ⟨Family.cells, Family.of [], 10, fun _ _ h => (Family.of_ok (n := 0) h).toSub, Family.nb⟩
theorem Family.mapO_cells (xs : List Family) : mapO (Family.of []) (mp Family.cells xs) = some xs := mapO_mp (Family.of_cells []) xs
theorem Family.mapO_set (xs : List Family) (i : Nat) (r : List AV) : mapO (Family.of []) ((mp Family.cells xs).set i r) = bif decide (i < xs.length) then (Family.of [] r).bind fun y => some (xs.set i y) else some xs := Go.Abs.mapO_set (Family.of_cells []) xs i r
attribute [go_sem low] Family.mapO_set
theorem Family.row_f : Family.row.enc = Family.cells ∧ Family.row.dec = Family.of [] ∧ Family.row.sz = 10 ∧ Family.cel.enc = Family.cells ∧ Family.cel.dec = Family.of := ⟨rfl, rfl, rfl, rfl, rfl⟩
theorem Family.eta (x : Family) : Family.mk x.name x.levels x.params x.indices x.sort x.ctors = x := by cases x; rfl
attribute [go_sem] Family.of_lit Family.of_cells Family.mapO_cells Family.row_f Family.eta
theorem Family.prj : (∀ (y0 : Str) (y1 : Int) (y2 : List Term) (y3 : List Term) (y4 : Term) (y5 : List CtorForm), (Family.mk y0 y1 y2 y3 y4 y5).name = y0) ∧ (∀ (y0 : Str) (y1 : Int) (y2 : List Term) (y3 : List Term) (y4 : Term) (y5 : List CtorForm), (Family.mk y0 y1 y2 y3 y4 y5).levels = y1) ∧ (∀ (y0 : Str) (y1 : Int) (y2 : List Term) (y3 : List Term) (y4 : Term) (y5 : List CtorForm), (Family.mk y0 y1 y2 y3 y4 y5).params = y2) ∧ (∀ (y0 : Str) (y1 : Int) (y2 : List Term) (y3 : List Term) (y4 : Term) (y5 : List CtorForm), (Family.mk y0 y1 y2 y3 y4 y5).indices = y3) ∧ (∀ (y0 : Str) (y1 : Int) (y2 : List Term) (y3 : List Term) (y4 : Term) (y5 : List CtorForm), (Family.mk y0 y1 y2 y3 y4 y5).sort = y4) ∧ (∀ (y0 : Str) (y1 : Int) (y2 : List Term) (y3 : List Term) (y4 : Term) (y5 : List CtorForm), (Family.mk y0 y1 y2 y3 y4 y5).ctors = y5) := ⟨fun _ _ _ _ _ _ => rfl, fun _ _ _ _ _ _ => rfl, fun _ _ _ _ _ _ => rfl, fun _ _ _ _ _ _ => rfl, fun _ _ _ _ _ _ => rfl, fun _ _ _ _ _ _ => rfl⟩
attribute [go_sem] Family.prj
theorem Family.nbs : (∀ (n : Nat) (x : Family), Go.Abs.nbL n x.cells = True) ∧ ∀ (n : Nat) (xs : List Family), Go.Abs.nbR n (mp Family.cells xs) = True := ⟨fun n x => eq_true (Family.nb n x), fun n xs => eq_true (nbR_map (Family.nb n) xs)⟩
theorem Family.rens : (∀ (ρ : Nat → Nat) (x : Family), renL ρ x.cells = x.cells) ∧ ∀ (ρ : Nat → Nat) (xs : List Family), renR ρ (mp Family.cells xs) = mp Family.cells xs := ⟨fun ρ x => renL_of_nb ρ _ (Family.nb 0 x), fun ρ xs => renR_of_nb ρ _ (nbR_map (Family.nb 0) xs)⟩
theorem Family.vw (H : List AObj) (x : Family) : vwL H x.cells = some (x.cells, []) := vwL_of_nb H _ (Family.nb 0 x)
attribute [go_sem] Family.vw
theorem Family.frz (low : Nat) (H : List AObj) (x : Family) : frzL low H x.cells = x.cells := frzL_of_nb low H _ (Family.nb 0 x)
theorem Family.rpv (l : Nat) (ds : List AV) (x : Family) : x.cells.map (rpV l ds) = x.cells := rpVL_of_nb _ (Family.nb 0 x)
attribute [go_sem] Family.rpv
theorem Family.tk : (∀ x : Family, List.take 10 x.cells = x.cells) ∧ ∀ x : Family, List.drop 10 x.cells = [] := ⟨fun x => by rw [Family.cells_eq]; rfl, fun x => by rw [Family.cells_eq]; rfl⟩
attribute [go_sem] Family.tk
theorem Family.reads :
    (∀ x : Family, cellsOf (.agg x.cells) = some x.cells) ∧
    (∀ x : Family, loadAV true 10 x.cells = some (.agg x.cells)) ∧
    (∀ x : Family, loadAV false 1 x.cells = some (.str (sb x.name))) ∧
    (∀ x : Family, loadAV false 1 (x.cells.drop 1) = some (.int .i64 x.levels)) ∧
    (∀ x : Family, loadAV false 1 (x.cells.drop 2) = some (.lst false 5 (mp Term.cells x.params))) ∧
    (∀ x : Family, loadAV false 1 (x.cells.drop 3) = some (.lst false 5 (mp Term.cells x.indices))) ∧
    (∀ x : Family, loadAV false 1 (x.cells.drop 4) = some (.int .i64 x.sort.kind)) ∧
    (∀ x : Family, loadAV false 1 (x.cells.drop 5) = some (.int .i64 x.sort.index)) ∧
    (∀ x : Family, loadAV false 1 (x.cells.drop 6) = some (.str (sb x.sort.name))) ∧
    (∀ x : Family, loadAV false 1 (x.cells.drop 7) = some (.lst false 2 (mp Level.cells x.sort.levels))) ∧
    (∀ x : Family, loadAV false 1 (x.cells.drop 8) = some (.lst false 5 (mp Term.cells x.sort.kids))) ∧
    (∀ x : Family, loadAV false 1 (x.cells.drop 9) = some (.lst false 4 (mp CtorForm.cells x.ctors))) ∧
    (∀ x : Family, loadAV true 5 (x.cells.drop 4) = some (.agg x.sort.cells)) :=
  ⟨fun x => by simp only [cellsOf, Family.scalar, if_true],
   fun x => loadAV_all (Family.length x),
   fun x => by rw [Family.cells_eq]; rfl,
   fun x => by rw [Family.cells_eq]; rfl,
   fun x => by rw [Family.cells_eq]; rfl,
   fun x => by rw [Family.cells_eq]; rfl,
   fun x => by rw [Family.cells_eq]; rfl,
   fun x => by rw [Family.cells_eq]; rfl,
   fun x => by rw [Family.cells_eq]; rfl,
   fun x => by rw [Family.cells_eq]; rfl,
   fun x => by rw [Family.cells_eq]; rfl,
   fun x => by rw [Family.cells_eq]; rfl,
   fun x => by rw [Family.cells_eq]; simp only [Term.cells_eq, List.drop_succ_cons, List.drop_zero]; rfl⟩
theorem Family.splc (x : Family) (o : Nat) (xs : List AV) : splice x.cells o xs = splice [.str (sb x.name), .int .i64 x.levels, .lst false 5 (mp Term.cells x.params), .lst false 5 (mp Term.cells x.indices), .int .i64 x.sort.kind, .int .i64 x.sort.index, .str (sb x.sort.name), .lst false 2 (mp Level.cells x.sort.levels), .lst false 5 (mp Term.cells x.sort.kids), .lst false 4 (mp CtorForm.cells x.ctors)] o xs := by rw [Family.cells_eq]
theorem Family.splc2 (x : Family) (o : Nat) (c : AV) (cs : List AV) : splice (c :: cs) o x.cells = splice (c :: cs) o [.str (sb x.name), .int .i64 x.levels, .lst false 5 (mp Term.cells x.params), .lst false 5 (mp Term.cells x.indices), .int .i64 x.sort.kind, .int .i64 x.sort.index, .str (sb x.sort.name), .lst false 2 (mp Level.cells x.sort.levels), .lst false 5 (mp Term.cells x.sort.kids), .lst false 4 (mp CtorForm.cells x.ctors)] := by rw [Family.cells_eq]
theorem Family.app (x : Family) (l : List AV) : x.cells ++ l = (.str (sb x.name) : AV) :: (.int .i64 x.levels : AV) :: (.lst false 5 (mp Term.cells x.params) : AV) :: (.lst false 5 (mp Term.cells x.indices) : AV) :: (.int .i64 x.sort.kind : AV) :: (.int .i64 x.sort.index : AV) :: (.str (sb x.sort.name) : AV) :: (.lst false 2 (mp Level.cells x.sort.levels) : AV) :: (.lst false 5 (mp Term.cells x.sort.kids) : AV) :: (.lst false 4 (mp CtorForm.cells x.ctors) : AV) :: l := by rw [Family.cells_eq]; rfl
theorem Family.cns (x : Family) (c : AV) : c :: x.cells = [c, .str (sb x.name), .int .i64 x.levels, .lst false 5 (mp Term.cells x.params), .lst false 5 (mp Term.cells x.indices), .int .i64 x.sort.kind, .int .i64 x.sort.index, .str (sb x.sort.name), .lst false 2 (mp Level.cells x.sort.levels), .lst false 5 (mp Term.cells x.sort.kids), .lst false 4 (mp CtorForm.cells x.ctors)] := by rw [Family.cells_eq]
attribute [go_sem] Family.app Family.cns
attribute [go_sem] Family.nbs Family.rens Family.frz Family.reads Family.length Family.scalar
attribute [go_sem low] Family.splc Family.splc2

structure FamilyShape where
  own : Term
  params : List Term
  indices : Int
def FamilyShape.cells (x : FamilyShape) : List AV := x.own.cells ++ [.lst false 5 (mp Term.cells x.params), .int .i64 x.indices]
theorem FamilyShape.cells_cat (x : FamilyShape) : x.cells = x.own.cells ++ [.lst false 5 (mp Term.cells x.params), .int .i64 x.indices] := rfl
theorem FamilyShape.cells_eq (x : FamilyShape) : x.cells = [.int .i64 x.own.kind, .int .i64 x.own.index, .str (sb x.own.name), .lst false 2 (mp Level.cells x.own.levels), .lst false 5 (mp Term.cells x.own.kids), .lst false 5 (mp Term.cells x.params), .int .i64 x.indices] := by
  simp only [FamilyShape.cells, Term.cells_eq, List.cons_append, List.nil_append, List.append_nil]
attribute [irreducible] FamilyShape.cells
theorem FamilyShape.length (x : FamilyShape) : x.cells.length = 7 := by rw [FamilyShape.cells_eq]; rfl
theorem FamilyShape.scalar (x : FamilyShape) : x.cells.all AV.scalar = true := by rw [FamilyShape.cells_eq]; rfl
theorem FamilyShape.nb (n : Nat) (x : FamilyShape) : nbL n x.cells := by
  rw [FamilyShape.cells_cat]
  exact (nbL_append (Term.nb n x.own) ⟨nbR_map (Term.nb n) _, trivial, trivial⟩)
def FamilyShape.of (H : List AObj) : List AV → Option FamilyShape
  | [c0, c1, c2, c3, c4, c5, c6] => (Term.of H [c0, c1, c2, c3, c4]).bind fun x0 => (dL Term.row H c5).bind fun x1 => (dI .i64 c6).bind fun x2 => some (.mk x0 x1 x2)
  | _ => none
theorem FamilyShape.of_lit {H : List AObj} {c0 c1 c2 c3 c4 c5 c6 : AV} : FamilyShape.of H [c0, c1, c2, c3, c4, c5, c6] = (Term.of H [c0, c1, c2, c3, c4]).bind fun x0 => (dL Term.row H c5).bind fun x1 => (dI .i64 c6).bind fun x2 => some (.mk x0 x1 x2) := rfl
theorem FamilyShape.of_lit_cells (H : List AObj) (x : FamilyShape) : FamilyShape.of H [.int .i64 x.own.kind, .int .i64 x.own.index, .str (sb x.own.name), .lst false 2 (mp Level.cells x.own.levels), .lst false 5 (mp Term.cells x.own.kids), .lst false 5 (mp Term.cells x.params), .int .i64 x.indices] = some x := by
  simp only [FamilyShape.of_lit, dI_int, dB_bool, dS_sb, bind_some', szOK, beq_self_eq_true, Bool.true_or, cond_true, dL, Term.mapO_cells, Term.row, Term.of_lit_cells]
  try (cases x; rfl)
theorem FamilyShape.of_cells (H : List AObj) (x : FamilyShape) : FamilyShape.of H x.cells = some x := by rw [FamilyShape.cells_eq]; exact FamilyShape.of_lit_cells H x
theorem FamilyShape.of_ok {H : List AObj} {n : Nat} {cs : List AV} {x : FamilyShape} (h : FamilyShape.of H cs = some x) : CoL1 H n cs x.cells := by
  unfold FamilyShape.of at h
  split at h
  · simp only [Option.bind_eq_some_iff, Option.some.injEq] at h
    obtain ⟨x0, h0, x1, h1, x2, h2, rfl⟩ := h
    rw [FamilyShape.cells_cat]
    exact (CoL1.append (Term.of_ok h0) (CoL1.cons (dL_ok h1) (CoL1.cons (dI_ok h2) CoL1.nil)))
  · cases h
def FamilyShape.cel : Cel FamilyShape := ⟨FamilyShape.cells, FamilyShape.of, fun _ _ _ _ h => FamilyShape.of_ok h, FamilyShape.nb⟩
def FamilyShape.row : Row FamilyShape := ⟨FamilyShape.cells, FamilyShape.of [], 7, fun _ _ h => (FamilyShape.of_ok (n := 0) h).toSub, FamilyShape.nb⟩
theorem FamilyShape.mapO_cells (xs : List FamilyShape) : mapO (FamilyShape.of []) (mp FamilyShape.cells xs) = some xs := mapO_mp (FamilyShape.of_cells []) xs
theorem FamilyShape.mapO_set (xs : List FamilyShape) (i : Nat) (r : List AV) : mapO (FamilyShape.of []) ((mp FamilyShape.cells xs).set i r) = bif decide (i < xs.length) then (FamilyShape.of [] r).bind fun y => some (xs.set i y) else some xs := Go.Abs.mapO_set (FamilyShape.of_cells []) xs i r
attribute [go_sem low] FamilyShape.mapO_set
theorem FamilyShape.row_f : FamilyShape.row.enc = FamilyShape.cells ∧ FamilyShape.row.dec = FamilyShape.of [] ∧ FamilyShape.row.sz = 7 ∧ FamilyShape.cel.enc = FamilyShape.cells ∧ FamilyShape.cel.dec = FamilyShape.of := ⟨rfl, rfl, rfl, rfl, rfl⟩
theorem FamilyShape.eta (x : FamilyShape) : FamilyShape.mk x.own x.params x.indices = x := by cases x; rfl
attribute [go_sem] FamilyShape.of_lit FamilyShape.of_cells FamilyShape.mapO_cells FamilyShape.row_f FamilyShape.eta
theorem FamilyShape.prj : (∀ (y0 : Term) (y1 : List Term) (y2 : Int), (FamilyShape.mk y0 y1 y2).own = y0) ∧ (∀ (y0 : Term) (y1 : List Term) (y2 : Int), (FamilyShape.mk y0 y1 y2).params = y1) ∧ (∀ (y0 : Term) (y1 : List Term) (y2 : Int), (FamilyShape.mk y0 y1 y2).indices = y2) := ⟨fun _ _ _ => rfl, fun _ _ _ => rfl, fun _ _ _ => rfl⟩
attribute [go_sem] FamilyShape.prj
theorem FamilyShape.nbs : (∀ (n : Nat) (x : FamilyShape), Go.Abs.nbL n x.cells = True) ∧ ∀ (n : Nat) (xs : List FamilyShape), Go.Abs.nbR n (mp FamilyShape.cells xs) = True := ⟨fun n x => eq_true (FamilyShape.nb n x), fun n xs => eq_true (nbR_map (FamilyShape.nb n) xs)⟩
theorem FamilyShape.rens : (∀ (ρ : Nat → Nat) (x : FamilyShape), renL ρ x.cells = x.cells) ∧ ∀ (ρ : Nat → Nat) (xs : List FamilyShape), renR ρ (mp FamilyShape.cells xs) = mp FamilyShape.cells xs := ⟨fun ρ x => renL_of_nb ρ _ (FamilyShape.nb 0 x), fun ρ xs => renR_of_nb ρ _ (nbR_map (FamilyShape.nb 0) xs)⟩
theorem FamilyShape.vw (H : List AObj) (x : FamilyShape) : vwL H x.cells = some (x.cells, []) := vwL_of_nb H _ (FamilyShape.nb 0 x)
attribute [go_sem] FamilyShape.vw
theorem FamilyShape.frz (low : Nat) (H : List AObj) (x : FamilyShape) : frzL low H x.cells = x.cells := frzL_of_nb low H _ (FamilyShape.nb 0 x)
theorem FamilyShape.rpv (l : Nat) (ds : List AV) (x : FamilyShape) : x.cells.map (rpV l ds) = x.cells := rpVL_of_nb _ (FamilyShape.nb 0 x)
attribute [go_sem] FamilyShape.rpv
theorem FamilyShape.tk : (∀ x : FamilyShape, List.take 7 x.cells = x.cells) ∧ ∀ x : FamilyShape, List.drop 7 x.cells = [] := ⟨fun x => by rw [FamilyShape.cells_eq]; rfl, fun x => by rw [FamilyShape.cells_eq]; rfl⟩
attribute [go_sem] FamilyShape.tk
theorem FamilyShape.reads :
    (∀ x : FamilyShape, cellsOf (.agg x.cells) = some x.cells) ∧
    (∀ x : FamilyShape, loadAV true 7 x.cells = some (.agg x.cells)) ∧
    (∀ x : FamilyShape, loadAV false 1 x.cells = some (.int .i64 x.own.kind)) ∧
    (∀ x : FamilyShape, loadAV false 1 (x.cells.drop 1) = some (.int .i64 x.own.index)) ∧
    (∀ x : FamilyShape, loadAV false 1 (x.cells.drop 2) = some (.str (sb x.own.name))) ∧
    (∀ x : FamilyShape, loadAV false 1 (x.cells.drop 3) = some (.lst false 2 (mp Level.cells x.own.levels))) ∧
    (∀ x : FamilyShape, loadAV false 1 (x.cells.drop 4) = some (.lst false 5 (mp Term.cells x.own.kids))) ∧
    (∀ x : FamilyShape, loadAV false 1 (x.cells.drop 5) = some (.lst false 5 (mp Term.cells x.params))) ∧
    (∀ x : FamilyShape, loadAV false 1 (x.cells.drop 6) = some (.int .i64 x.indices)) ∧
    (∀ x : FamilyShape, loadAV true 5 x.cells = some (.agg x.own.cells)) :=
  ⟨fun x => by simp only [cellsOf, FamilyShape.scalar, if_true],
   fun x => loadAV_all (FamilyShape.length x),
   fun x => by rw [FamilyShape.cells_eq]; rfl,
   fun x => by rw [FamilyShape.cells_eq]; rfl,
   fun x => by rw [FamilyShape.cells_eq]; rfl,
   fun x => by rw [FamilyShape.cells_eq]; rfl,
   fun x => by rw [FamilyShape.cells_eq]; rfl,
   fun x => by rw [FamilyShape.cells_eq]; rfl,
   fun x => by rw [FamilyShape.cells_eq]; rfl,
   fun x => by rw [FamilyShape.cells_eq]; simp only [Term.cells_eq, List.drop_succ_cons, List.drop_zero]; rfl⟩
theorem FamilyShape.splc (x : FamilyShape) (o : Nat) (xs : List AV) : splice x.cells o xs = splice [.int .i64 x.own.kind, .int .i64 x.own.index, .str (sb x.own.name), .lst false 2 (mp Level.cells x.own.levels), .lst false 5 (mp Term.cells x.own.kids), .lst false 5 (mp Term.cells x.params), .int .i64 x.indices] o xs := by rw [FamilyShape.cells_eq]
theorem FamilyShape.splc2 (x : FamilyShape) (o : Nat) (c : AV) (cs : List AV) : splice (c :: cs) o x.cells = splice (c :: cs) o [.int .i64 x.own.kind, .int .i64 x.own.index, .str (sb x.own.name), .lst false 2 (mp Level.cells x.own.levels), .lst false 5 (mp Term.cells x.own.kids), .lst false 5 (mp Term.cells x.params), .int .i64 x.indices] := by rw [FamilyShape.cells_eq]
theorem FamilyShape.app (x : FamilyShape) (l : List AV) : x.cells ++ l = (.int .i64 x.own.kind : AV) :: (.int .i64 x.own.index : AV) :: (.str (sb x.own.name) : AV) :: (.lst false 2 (mp Level.cells x.own.levels) : AV) :: (.lst false 5 (mp Term.cells x.own.kids) : AV) :: (.lst false 5 (mp Term.cells x.params) : AV) :: (.int .i64 x.indices : AV) :: l := by rw [FamilyShape.cells_eq]; rfl
theorem FamilyShape.cns (x : FamilyShape) (c : AV) : c :: x.cells = [c, .int .i64 x.own.kind, .int .i64 x.own.index, .str (sb x.own.name), .lst false 2 (mp Level.cells x.own.levels), .lst false 5 (mp Term.cells x.own.kids), .lst false 5 (mp Term.cells x.params), .int .i64 x.indices] := by rw [FamilyShape.cells_eq]
attribute [go_sem] FamilyShape.app FamilyShape.cns
attribute [go_sem] FamilyShape.nbs FamilyShape.rens FamilyShape.frz FamilyShape.reads FamilyShape.length FamilyShape.scalar
attribute [go_sem low] FamilyShape.splc FamilyShape.splc2

structure Entry where
  kind : Int
  decl : Int
  item : Int
  params : Int
  type : Term
def Entry.cells (x : Entry) : List AV := [.int .i64 x.kind, .int .i64 x.decl, .int .i64 x.item, .int .i64 x.params] ++ x.type.cells
theorem Entry.cells_cat (x : Entry) : x.cells = [.int .i64 x.kind, .int .i64 x.decl, .int .i64 x.item, .int .i64 x.params] ++ x.type.cells := rfl
theorem Entry.cells_eq (x : Entry) : x.cells = [.int .i64 x.kind, .int .i64 x.decl, .int .i64 x.item, .int .i64 x.params, .int .i64 x.type.kind, .int .i64 x.type.index, .str (sb x.type.name), .lst false 2 (mp Level.cells x.type.levels), .lst false 5 (mp Term.cells x.type.kids)] := by
  simp only [Entry.cells, Term.cells_eq, List.cons_append, List.nil_append, List.append_nil]
attribute [irreducible] Entry.cells
theorem Entry.length (x : Entry) : x.cells.length = 9 := by rw [Entry.cells_eq]; rfl
theorem Entry.scalar (x : Entry) : x.cells.all AV.scalar = true := by rw [Entry.cells_eq]; rfl
theorem Entry.nb (n : Nat) (x : Entry) : nbL n x.cells := by
  rw [Entry.cells_cat]
  exact (nbL_append ⟨trivial, trivial, trivial, trivial, trivial⟩ (Term.nb n x.type))
def Entry.of (H : List AObj) : List AV → Option Entry
  | [c0, c1, c2, c3, c4, c5, c6, c7, c8] => (dI .i64 c0).bind fun x0 => (dI .i64 c1).bind fun x1 => (dI .i64 c2).bind fun x2 => (dI .i64 c3).bind fun x3 => (Term.of H [c4, c5, c6, c7, c8]).bind fun x4 => some (.mk x0 x1 x2 x3 x4)
  | _ => none
theorem Entry.of_lit {H : List AObj} {c0 c1 c2 c3 c4 c5 c6 c7 c8 : AV} : Entry.of H [c0, c1, c2, c3, c4, c5, c6, c7, c8] = (dI .i64 c0).bind fun x0 => (dI .i64 c1).bind fun x1 => (dI .i64 c2).bind fun x2 => (dI .i64 c3).bind fun x3 => (Term.of H [c4, c5, c6, c7, c8]).bind fun x4 => some (.mk x0 x1 x2 x3 x4) := rfl
theorem Entry.of_lit_cells (H : List AObj) (x : Entry) : Entry.of H [.int .i64 x.kind, .int .i64 x.decl, .int .i64 x.item, .int .i64 x.params, .int .i64 x.type.kind, .int .i64 x.type.index, .str (sb x.type.name), .lst false 2 (mp Level.cells x.type.levels), .lst false 5 (mp Term.cells x.type.kids)] = some x := by
  simp only [Entry.of_lit, dI_int, dB_bool, dS_sb, bind_some', szOK, beq_self_eq_true, Bool.true_or, cond_true, dL, Term.of_lit_cells]
  try (cases x; rfl)
theorem Entry.of_cells (H : List AObj) (x : Entry) : Entry.of H x.cells = some x := by rw [Entry.cells_eq]; exact Entry.of_lit_cells H x
theorem Entry.of_ok {H : List AObj} {n : Nat} {cs : List AV} {x : Entry} (h : Entry.of H cs = some x) : CoL1 H n cs x.cells := by
  unfold Entry.of at h
  split at h
  · simp only [Option.bind_eq_some_iff, Option.some.injEq] at h
    obtain ⟨x0, h0, x1, h1, x2, h2, x3, h3, x4, h4, rfl⟩ := h
    rw [Entry.cells_cat]
    exact (CoL1.append (CoL1.cons (dI_ok h0) (CoL1.cons (dI_ok h1) (CoL1.cons (dI_ok h2) (CoL1.cons (dI_ok h3) CoL1.nil)))) (Term.of_ok h4))
  · cases h
def Entry.cel : Cel Entry := ⟨Entry.cells, Entry.of, fun _ _ _ _ h => Entry.of_ok h, Entry.nb⟩
def Entry.row : Row Entry := ⟨Entry.cells, Entry.of [], 9, fun _ _ h => (Entry.of_ok (n := 0) h).toSub, Entry.nb⟩
theorem Entry.mapO_cells (xs : List Entry) : mapO (Entry.of []) (mp Entry.cells xs) = some xs := mapO_mp (Entry.of_cells []) xs
theorem Entry.mapO_set (xs : List Entry) (i : Nat) (r : List AV) : mapO (Entry.of []) ((mp Entry.cells xs).set i r) = bif decide (i < xs.length) then (Entry.of [] r).bind fun y => some (xs.set i y) else some xs := Go.Abs.mapO_set (Entry.of_cells []) xs i r
attribute [go_sem low] Entry.mapO_set
theorem Entry.row_f : Entry.row.enc = Entry.cells ∧ Entry.row.dec = Entry.of [] ∧ Entry.row.sz = 9 ∧ Entry.cel.enc = Entry.cells ∧ Entry.cel.dec = Entry.of := ⟨rfl, rfl, rfl, rfl, rfl⟩
theorem Entry.eta (x : Entry) : Entry.mk x.kind x.decl x.item x.params x.type = x := by cases x; rfl
attribute [go_sem] Entry.of_lit Entry.of_cells Entry.mapO_cells Entry.row_f Entry.eta
theorem Entry.prj : (∀ (y0 : Int) (y1 : Int) (y2 : Int) (y3 : Int) (y4 : Term), (Entry.mk y0 y1 y2 y3 y4).kind = y0) ∧ (∀ (y0 : Int) (y1 : Int) (y2 : Int) (y3 : Int) (y4 : Term), (Entry.mk y0 y1 y2 y3 y4).decl = y1) ∧ (∀ (y0 : Int) (y1 : Int) (y2 : Int) (y3 : Int) (y4 : Term), (Entry.mk y0 y1 y2 y3 y4).item = y2) ∧ (∀ (y0 : Int) (y1 : Int) (y2 : Int) (y3 : Int) (y4 : Term), (Entry.mk y0 y1 y2 y3 y4).params = y3) ∧ (∀ (y0 : Int) (y1 : Int) (y2 : Int) (y3 : Int) (y4 : Term), (Entry.mk y0 y1 y2 y3 y4).type = y4) := ⟨fun _ _ _ _ _ => rfl, fun _ _ _ _ _ => rfl, fun _ _ _ _ _ => rfl, fun _ _ _ _ _ => rfl, fun _ _ _ _ _ => rfl⟩
attribute [go_sem] Entry.prj
theorem Entry.nbs : (∀ (n : Nat) (x : Entry), Go.Abs.nbL n x.cells = True) ∧ ∀ (n : Nat) (xs : List Entry), Go.Abs.nbR n (mp Entry.cells xs) = True := ⟨fun n x => eq_true (Entry.nb n x), fun n xs => eq_true (nbR_map (Entry.nb n) xs)⟩
theorem Entry.rens : (∀ (ρ : Nat → Nat) (x : Entry), renL ρ x.cells = x.cells) ∧ ∀ (ρ : Nat → Nat) (xs : List Entry), renR ρ (mp Entry.cells xs) = mp Entry.cells xs := ⟨fun ρ x => renL_of_nb ρ _ (Entry.nb 0 x), fun ρ xs => renR_of_nb ρ _ (nbR_map (Entry.nb 0) xs)⟩
theorem Entry.vw (H : List AObj) (x : Entry) : vwL H x.cells = some (x.cells, []) := vwL_of_nb H _ (Entry.nb 0 x)
attribute [go_sem] Entry.vw
theorem Entry.frz (low : Nat) (H : List AObj) (x : Entry) : frzL low H x.cells = x.cells := frzL_of_nb low H _ (Entry.nb 0 x)
theorem Entry.rpv (l : Nat) (ds : List AV) (x : Entry) : x.cells.map (rpV l ds) = x.cells := rpVL_of_nb _ (Entry.nb 0 x)
attribute [go_sem] Entry.rpv
theorem Entry.tk : (∀ x : Entry, List.take 9 x.cells = x.cells) ∧ ∀ x : Entry, List.drop 9 x.cells = [] := ⟨fun x => by rw [Entry.cells_eq]; rfl, fun x => by rw [Entry.cells_eq]; rfl⟩
attribute [go_sem] Entry.tk
theorem Entry.reads :
    (∀ x : Entry, cellsOf (.agg x.cells) = some x.cells) ∧
    (∀ x : Entry, loadAV true 9 x.cells = some (.agg x.cells)) ∧
    (∀ x : Entry, loadAV false 1 x.cells = some (.int .i64 x.kind)) ∧
    (∀ x : Entry, loadAV false 1 (x.cells.drop 1) = some (.int .i64 x.decl)) ∧
    (∀ x : Entry, loadAV false 1 (x.cells.drop 2) = some (.int .i64 x.item)) ∧
    (∀ x : Entry, loadAV false 1 (x.cells.drop 3) = some (.int .i64 x.params)) ∧
    (∀ x : Entry, loadAV false 1 (x.cells.drop 4) = some (.int .i64 x.type.kind)) ∧
    (∀ x : Entry, loadAV false 1 (x.cells.drop 5) = some (.int .i64 x.type.index)) ∧
    (∀ x : Entry, loadAV false 1 (x.cells.drop 6) = some (.str (sb x.type.name))) ∧
    (∀ x : Entry, loadAV false 1 (x.cells.drop 7) = some (.lst false 2 (mp Level.cells x.type.levels))) ∧
    (∀ x : Entry, loadAV false 1 (x.cells.drop 8) = some (.lst false 5 (mp Term.cells x.type.kids))) ∧
    (∀ x : Entry, loadAV true 5 (x.cells.drop 4) = some (.agg x.type.cells)) :=
  ⟨fun x => by simp only [cellsOf, Entry.scalar, if_true],
   fun x => loadAV_all (Entry.length x),
   fun x => by rw [Entry.cells_eq]; rfl,
   fun x => by rw [Entry.cells_eq]; rfl,
   fun x => by rw [Entry.cells_eq]; rfl,
   fun x => by rw [Entry.cells_eq]; rfl,
   fun x => by rw [Entry.cells_eq]; rfl,
   fun x => by rw [Entry.cells_eq]; rfl,
   fun x => by rw [Entry.cells_eq]; rfl,
   fun x => by rw [Entry.cells_eq]; rfl,
   fun x => by rw [Entry.cells_eq]; rfl,
   fun x => by rw [Entry.cells_eq]; simp only [Term.cells_eq, List.drop_succ_cons, List.drop_zero]; rfl⟩
theorem Entry.splc (x : Entry) (o : Nat) (xs : List AV) : splice x.cells o xs = splice [.int .i64 x.kind, .int .i64 x.decl, .int .i64 x.item, .int .i64 x.params, .int .i64 x.type.kind, .int .i64 x.type.index, .str (sb x.type.name), .lst false 2 (mp Level.cells x.type.levels), .lst false 5 (mp Term.cells x.type.kids)] o xs := by rw [Entry.cells_eq]
theorem Entry.splc2 (x : Entry) (o : Nat) (c : AV) (cs : List AV) : splice (c :: cs) o x.cells = splice (c :: cs) o [.int .i64 x.kind, .int .i64 x.decl, .int .i64 x.item, .int .i64 x.params, .int .i64 x.type.kind, .int .i64 x.type.index, .str (sb x.type.name), .lst false 2 (mp Level.cells x.type.levels), .lst false 5 (mp Term.cells x.type.kids)] := by rw [Entry.cells_eq]
theorem Entry.app (x : Entry) (l : List AV) : x.cells ++ l = (.int .i64 x.kind : AV) :: (.int .i64 x.decl : AV) :: (.int .i64 x.item : AV) :: (.int .i64 x.params : AV) :: (.int .i64 x.type.kind : AV) :: (.int .i64 x.type.index : AV) :: (.str (sb x.type.name) : AV) :: (.lst false 2 (mp Level.cells x.type.levels) : AV) :: (.lst false 5 (mp Term.cells x.type.kids) : AV) :: l := by rw [Entry.cells_eq]; rfl
theorem Entry.cns (x : Entry) (c : AV) : c :: x.cells = [c, .int .i64 x.kind, .int .i64 x.decl, .int .i64 x.item, .int .i64 x.params, .int .i64 x.type.kind, .int .i64 x.type.index, .str (sb x.type.name), .lst false 2 (mp Level.cells x.type.levels), .lst false 5 (mp Term.cells x.type.kids)] := by rw [Entry.cells_eq]
attribute [go_sem] Entry.app Entry.cns
attribute [go_sem] Entry.nbs Entry.rens Entry.frz Entry.reads Entry.length Entry.scalar
attribute [go_sem low] Entry.splc Entry.splc2

structure Ref07Scope where
  env : List Decl
  own : List Str
  d : Decl
def Ref07Scope.cells (x : Ref07Scope) : List AV := [.lst false 23 (mp Decl.cells x.env), .lst false 1 (mp scell x.own)] ++ x.d.cells
theorem Ref07Scope.cells_cat (x : Ref07Scope) : x.cells = [.lst false 23 (mp Decl.cells x.env), .lst false 1 (mp scell x.own)] ++ x.d.cells := rfl
theorem Ref07Scope.cells_eq (x : Ref07Scope) : x.cells = [.lst false 23 (mp Decl.cells x.env), .lst false 1 (mp scell x.own), .int .i64 x.d.kind, .str (sb x.d.name), .int .i64 x.d.params, .int .i64 x.d.type.kind, .int .i64 x.d.type.index, .str (sb x.d.type.name), .lst false 2 (mp Level.cells x.d.type.levels), .lst false 5 (mp Term.cells x.d.type.kids), .int .i64 x.d.value.kind, .int .i64 x.d.value.index, .str (sb x.d.value.name), .lst false 2 (mp Level.cells x.d.value.levels), .lst false 5 (mp Term.cells x.d.value.kids), .int .i64 x.d.fixed, .lst false 6 (mp Ctor.cells x.d.ctors), .int .i64 x.d.recu.params, .int .i64 x.d.recu.type.kind, .int .i64 x.d.recu.type.index, .str (sb x.d.recu.type.name), .lst false 2 (mp Level.cells x.d.recu.type.levels), .lst false 5 (mp Term.cells x.d.recu.type.kids), .lst false 5 (mp Term.cells x.d.recu.rules), .lst false 15 (mp Fun.cells x.d.funs)] := by
  simp only [Ref07Scope.cells, Decl.cells_eq, List.cons_append, List.nil_append, List.append_nil]
attribute [irreducible] Ref07Scope.cells
theorem Ref07Scope.length (x : Ref07Scope) : x.cells.length = 25 := by rw [Ref07Scope.cells_eq]; rfl
theorem Ref07Scope.scalar (x : Ref07Scope) : x.cells.all AV.scalar = true := by rw [Ref07Scope.cells_eq]; rfl
theorem Ref07Scope.nb (n : Nat) (x : Ref07Scope) : nbL n x.cells := by
  rw [Ref07Scope.cells_cat]
  exact (nbL_append ⟨nbR_map (Decl.nb n) _, nbR_map (scell_nb n) _, trivial⟩ (Decl.nb n x.d))
def Ref07Scope.of (H : List AObj) : List AV → Option Ref07Scope
  | [c0, c1, c2, c3, c4, c5, c6, c7, c8, c9, c10, c11, c12, c13, c14, c15, c16, c17, c18, c19, c20, c21, c22, c23, c24] => (dL Decl.row H c0).bind fun x0 => (dL rowS H c1).bind fun x1 => (Decl.of H [c2, c3, c4, c5, c6, c7, c8, c9, c10, c11, c12, c13, c14, c15, c16, c17, c18, c19, c20, c21, c22, c23, c24]).bind fun x2 => some (.mk x0 x1 x2)
  | _ => none
theorem Ref07Scope.of_lit {H : List AObj} {c0 c1 c2 c3 c4 c5 c6 c7 c8 c9 c10 c11 c12 c13 c14 c15 c16 c17 c18 c19 c20 c21 c22 c23 c24 : AV} : Ref07Scope.of H [c0, c1, c2, c3, c4, c5, c6, c7, c8, c9, c10, c11, c12, c13, c14, c15, c16, c17, c18, c19, c20, c21, c22, c23, c24] = (dL Decl.row H c0).bind fun x0 => (dL rowS H c1).bind fun x1 => (Decl.of H [c2, c3, c4, c5, c6, c7, c8, c9, c10, c11, c12, c13, c14, c15, c16, c17, c18, c19, c20, c21, c22, c23, c24]).bind fun x2 => some (.mk x0 x1 x2) := rfl
theorem Ref07Scope.of_lit_cells (H : List AObj) (x : Ref07Scope) : Ref07Scope.of H [.lst false 23 (mp Decl.cells x.env), .lst false 1 (mp scell x.own), .int .i64 x.d.kind, .str (sb x.d.name), .int .i64 x.d.params, .int .i64 x.d.type.kind, .int .i64 x.d.type.index, .str (sb x.d.type.name), .lst false 2 (mp Level.cells x.d.type.levels), .lst false 5 (mp Term.cells x.d.type.kids), .int .i64 x.d.value.kind, .int .i64 x.d.value.index, .str (sb x.d.value.name), .lst false 2 (mp Level.cells x.d.value.levels), .lst false 5 (mp Term.cells x.d.value.kids), .int .i64 x.d.fixed, .lst false 6 (mp Ctor.cells x.d.ctors), .int .i64 x.d.recu.params, .int .i64 x.d.recu.type.kind, .int .i64 x.d.recu.type.index, .str (sb x.d.recu.type.name), .lst false 2 (mp Level.cells x.d.recu.type.levels), .lst false 5 (mp Term.cells x.d.recu.type.kids), .lst false 5 (mp Term.cells x.d.recu.rules), .lst false 15 (mp Fun.cells x.d.funs)] = some x := by
  simp only [Ref07Scope.of_lit, dI_int, dB_bool, dS_sb, bind_some', szOK, beq_self_eq_true, Bool.true_or, cond_true, dL, Decl.mapO_cells, Decl.row, mapO_cells1, rowS_f, Decl.of_lit_cells]
  try (cases x; rfl)
theorem Ref07Scope.of_cells (H : List AObj) (x : Ref07Scope) : Ref07Scope.of H x.cells = some x := by rw [Ref07Scope.cells_eq]; exact Ref07Scope.of_lit_cells H x
theorem Ref07Scope.of_ok {H : List AObj} {n : Nat} {cs : List AV} {x : Ref07Scope} (h : Ref07Scope.of H cs = some x) : CoL1 H n cs x.cells := by
  unfold Ref07Scope.of at h
  split at h
  · simp only [Option.bind_eq_some_iff, Option.some.injEq] at h
    obtain ⟨x0, h0, x1, h1, x2, h2, rfl⟩ := h
    rw [Ref07Scope.cells_cat]
    exact (CoL1.append (CoL1.cons (dL_ok h0) (CoL1.cons (dL_ok h1) CoL1.nil)) (Decl.of_ok h2))
  · cases h
def Ref07Scope.cel : Cel Ref07Scope := ⟨Ref07Scope.cells, Ref07Scope.of, fun _ _ _ _ h => Ref07Scope.of_ok h, Ref07Scope.nb⟩
def Ref07Scope.row : Row Ref07Scope := ⟨Ref07Scope.cells, Ref07Scope.of [], 25, fun _ _ h => (Ref07Scope.of_ok (n := 0) h).toSub, Ref07Scope.nb⟩
theorem Ref07Scope.mapO_cells (xs : List Ref07Scope) : mapO (Ref07Scope.of []) (mp Ref07Scope.cells xs) = some xs := mapO_mp (Ref07Scope.of_cells []) xs
theorem Ref07Scope.mapO_set (xs : List Ref07Scope) (i : Nat) (r : List AV) : mapO (Ref07Scope.of []) ((mp Ref07Scope.cells xs).set i r) = bif decide (i < xs.length) then (Ref07Scope.of [] r).bind fun y => some (xs.set i y) else some xs := Go.Abs.mapO_set (Ref07Scope.of_cells []) xs i r
attribute [go_sem low] Ref07Scope.mapO_set
theorem Ref07Scope.row_f : Ref07Scope.row.enc = Ref07Scope.cells ∧ Ref07Scope.row.dec = Ref07Scope.of [] ∧ Ref07Scope.row.sz = 25 ∧ Ref07Scope.cel.enc = Ref07Scope.cells ∧ Ref07Scope.cel.dec = Ref07Scope.of := ⟨rfl, rfl, rfl, rfl, rfl⟩
theorem Ref07Scope.eta (x : Ref07Scope) : Ref07Scope.mk x.env x.own x.d = x := by cases x; rfl
attribute [go_sem] Ref07Scope.of_lit Ref07Scope.of_cells Ref07Scope.mapO_cells Ref07Scope.row_f Ref07Scope.eta
theorem Ref07Scope.prj : (∀ (y0 : List Decl) (y1 : List Str) (y2 : Decl), (Ref07Scope.mk y0 y1 y2).env = y0) ∧ (∀ (y0 : List Decl) (y1 : List Str) (y2 : Decl), (Ref07Scope.mk y0 y1 y2).own = y1) ∧ (∀ (y0 : List Decl) (y1 : List Str) (y2 : Decl), (Ref07Scope.mk y0 y1 y2).d = y2) := ⟨fun _ _ _ => rfl, fun _ _ _ => rfl, fun _ _ _ => rfl⟩
attribute [go_sem] Ref07Scope.prj
theorem Ref07Scope.nbs : (∀ (n : Nat) (x : Ref07Scope), Go.Abs.nbL n x.cells = True) ∧ ∀ (n : Nat) (xs : List Ref07Scope), Go.Abs.nbR n (mp Ref07Scope.cells xs) = True := ⟨fun n x => eq_true (Ref07Scope.nb n x), fun n xs => eq_true (nbR_map (Ref07Scope.nb n) xs)⟩
theorem Ref07Scope.rens : (∀ (ρ : Nat → Nat) (x : Ref07Scope), renL ρ x.cells = x.cells) ∧ ∀ (ρ : Nat → Nat) (xs : List Ref07Scope), renR ρ (mp Ref07Scope.cells xs) = mp Ref07Scope.cells xs := ⟨fun ρ x => renL_of_nb ρ _ (Ref07Scope.nb 0 x), fun ρ xs => renR_of_nb ρ _ (nbR_map (Ref07Scope.nb 0) xs)⟩
theorem Ref07Scope.vw (H : List AObj) (x : Ref07Scope) : vwL H x.cells = some (x.cells, []) := vwL_of_nb H _ (Ref07Scope.nb 0 x)
attribute [go_sem] Ref07Scope.vw
theorem Ref07Scope.frz (low : Nat) (H : List AObj) (x : Ref07Scope) : frzL low H x.cells = x.cells := frzL_of_nb low H _ (Ref07Scope.nb 0 x)
theorem Ref07Scope.rpv (l : Nat) (ds : List AV) (x : Ref07Scope) : x.cells.map (rpV l ds) = x.cells := rpVL_of_nb _ (Ref07Scope.nb 0 x)
attribute [go_sem] Ref07Scope.rpv
theorem Ref07Scope.tk : (∀ x : Ref07Scope, List.take 25 x.cells = x.cells) ∧ ∀ x : Ref07Scope, List.drop 25 x.cells = [] := ⟨fun x => by rw [Ref07Scope.cells_eq]; rfl, fun x => by rw [Ref07Scope.cells_eq]; rfl⟩
attribute [go_sem] Ref07Scope.tk
theorem Ref07Scope.reads :
    (∀ x : Ref07Scope, cellsOf (.agg x.cells) = some x.cells) ∧
    (∀ x : Ref07Scope, loadAV true 25 x.cells = some (.agg x.cells)) ∧
    (∀ x : Ref07Scope, loadAV false 1 x.cells = some (.lst false 23 (mp Decl.cells x.env))) ∧
    (∀ x : Ref07Scope, loadAV false 1 (x.cells.drop 1) = some (.lst false 1 (mp scell x.own))) ∧
    (∀ x : Ref07Scope, loadAV false 1 (x.cells.drop 2) = some (.int .i64 x.d.kind)) ∧
    (∀ x : Ref07Scope, loadAV false 1 (x.cells.drop 3) = some (.str (sb x.d.name))) ∧
    (∀ x : Ref07Scope, loadAV false 1 (x.cells.drop 4) = some (.int .i64 x.d.params)) ∧
    (∀ x : Ref07Scope, loadAV false 1 (x.cells.drop 5) = some (.int .i64 x.d.type.kind)) ∧
    (∀ x : Ref07Scope, loadAV false 1 (x.cells.drop 6) = some (.int .i64 x.d.type.index)) ∧
    (∀ x : Ref07Scope, loadAV false 1 (x.cells.drop 7) = some (.str (sb x.d.type.name))) ∧
    (∀ x : Ref07Scope, loadAV false 1 (x.cells.drop 8) = some (.lst false 2 (mp Level.cells x.d.type.levels))) ∧
    (∀ x : Ref07Scope, loadAV false 1 (x.cells.drop 9) = some (.lst false 5 (mp Term.cells x.d.type.kids))) ∧
    (∀ x : Ref07Scope, loadAV false 1 (x.cells.drop 10) = some (.int .i64 x.d.value.kind)) ∧
    (∀ x : Ref07Scope, loadAV false 1 (x.cells.drop 11) = some (.int .i64 x.d.value.index)) ∧
    (∀ x : Ref07Scope, loadAV false 1 (x.cells.drop 12) = some (.str (sb x.d.value.name))) ∧
    (∀ x : Ref07Scope, loadAV false 1 (x.cells.drop 13) = some (.lst false 2 (mp Level.cells x.d.value.levels))) ∧
    (∀ x : Ref07Scope, loadAV false 1 (x.cells.drop 14) = some (.lst false 5 (mp Term.cells x.d.value.kids))) ∧
    (∀ x : Ref07Scope, loadAV false 1 (x.cells.drop 15) = some (.int .i64 x.d.fixed)) ∧
    (∀ x : Ref07Scope, loadAV false 1 (x.cells.drop 16) = some (.lst false 6 (mp Ctor.cells x.d.ctors))) ∧
    (∀ x : Ref07Scope, loadAV false 1 (x.cells.drop 17) = some (.int .i64 x.d.recu.params)) ∧
    (∀ x : Ref07Scope, loadAV false 1 (x.cells.drop 18) = some (.int .i64 x.d.recu.type.kind)) ∧
    (∀ x : Ref07Scope, loadAV false 1 (x.cells.drop 19) = some (.int .i64 x.d.recu.type.index)) ∧
    (∀ x : Ref07Scope, loadAV false 1 (x.cells.drop 20) = some (.str (sb x.d.recu.type.name))) ∧
    (∀ x : Ref07Scope, loadAV false 1 (x.cells.drop 21) = some (.lst false 2 (mp Level.cells x.d.recu.type.levels))) ∧
    (∀ x : Ref07Scope, loadAV false 1 (x.cells.drop 22) = some (.lst false 5 (mp Term.cells x.d.recu.type.kids))) ∧
    (∀ x : Ref07Scope, loadAV false 1 (x.cells.drop 23) = some (.lst false 5 (mp Term.cells x.d.recu.rules))) ∧
    (∀ x : Ref07Scope, loadAV false 1 (x.cells.drop 24) = some (.lst false 15 (mp Fun.cells x.d.funs))) ∧
    (∀ x : Ref07Scope, loadAV true 23 (x.cells.drop 2) = some (.agg x.d.cells)) ∧
    (∀ x : Ref07Scope, loadAV true 5 (x.cells.drop 5) = some (.agg x.d.type.cells)) ∧
    (∀ x : Ref07Scope, loadAV true 5 (x.cells.drop 10) = some (.agg x.d.value.cells)) ∧
    (∀ x : Ref07Scope, loadAV true 7 (x.cells.drop 17) = some (.agg x.d.recu.cells)) ∧
    (∀ x : Ref07Scope, loadAV true 5 (x.cells.drop 18) = some (.agg x.d.recu.type.cells)) :=
  ⟨fun x => by simp only [cellsOf, Ref07Scope.scalar, if_true],
   fun x => loadAV_all (Ref07Scope.length x),
   fun x => by rw [Ref07Scope.cells_eq]; rfl,
   fun x => by rw [Ref07Scope.cells_eq]; rfl,
   fun x => by rw [Ref07Scope.cells_eq]; rfl,
   fun x => by rw [Ref07Scope.cells_eq]; rfl,
   fun x => by rw [Ref07Scope.cells_eq]; rfl,
   fun x => by rw [Ref07Scope.cells_eq]; rfl,
   fun x => by rw [Ref07Scope.cells_eq]; rfl,
   fun x => by rw [Ref07Scope.cells_eq]; rfl,
   fun x => by rw [Ref07Scope.cells_eq]; rfl,
   fun x => by rw [Ref07Scope.cells_eq]; rfl,
   fun x => by rw [Ref07Scope.cells_eq]; rfl,
   fun x => by rw [Ref07Scope.cells_eq]; rfl,
   fun x => by rw [Ref07Scope.cells_eq]; rfl,
   fun x => by rw [Ref07Scope.cells_eq]; rfl,
   fun x => by rw [Ref07Scope.cells_eq]; rfl,
   fun x => by rw [Ref07Scope.cells_eq]; rfl,
   fun x => by rw [Ref07Scope.cells_eq]; rfl,
   fun x => by rw [Ref07Scope.cells_eq]; rfl,
   fun x => by rw [Ref07Scope.cells_eq]; rfl,
   fun x => by rw [Ref07Scope.cells_eq]; rfl,
   fun x => by rw [Ref07Scope.cells_eq]; rfl,
   fun x => by rw [Ref07Scope.cells_eq]; rfl,
   fun x => by rw [Ref07Scope.cells_eq]; rfl,
   fun x => by rw [Ref07Scope.cells_eq]; rfl,
   fun x => by rw [Ref07Scope.cells_eq]; rfl,
   fun x => by rw [Ref07Scope.cells_eq]; simp only [Decl.cells_eq, Recursor.cells_eq, Term.cells_eq, List.drop_succ_cons, List.drop_zero]; rfl,
   fun x => by rw [Ref07Scope.cells_eq]; simp only [Decl.cells_eq, Recursor.cells_eq, Term.cells_eq, List.drop_succ_cons, List.drop_zero]; rfl,
   fun x => by rw [Ref07Scope.cells_eq]; simp only [Decl.cells_eq, Recursor.cells_eq, Term.cells_eq, List.drop_succ_cons, List.drop_zero]; rfl,
   fun x => by rw [Ref07Scope.cells_eq]; simp only [Decl.cells_eq, Recursor.cells_eq, Term.cells_eq, List.drop_succ_cons, List.drop_zero]; rfl,
   fun x => by rw [Ref07Scope.cells_eq]; simp only [Decl.cells_eq, Recursor.cells_eq, Term.cells_eq, List.drop_succ_cons, List.drop_zero]; rfl⟩
theorem Ref07Scope.splc (x : Ref07Scope) (o : Nat) (xs : List AV) : splice x.cells o xs = splice [.lst false 23 (mp Decl.cells x.env), .lst false 1 (mp scell x.own), .int .i64 x.d.kind, .str (sb x.d.name), .int .i64 x.d.params, .int .i64 x.d.type.kind, .int .i64 x.d.type.index, .str (sb x.d.type.name), .lst false 2 (mp Level.cells x.d.type.levels), .lst false 5 (mp Term.cells x.d.type.kids), .int .i64 x.d.value.kind, .int .i64 x.d.value.index, .str (sb x.d.value.name), .lst false 2 (mp Level.cells x.d.value.levels), .lst false 5 (mp Term.cells x.d.value.kids), .int .i64 x.d.fixed, .lst false 6 (mp Ctor.cells x.d.ctors), .int .i64 x.d.recu.params, .int .i64 x.d.recu.type.kind, .int .i64 x.d.recu.type.index, .str (sb x.d.recu.type.name), .lst false 2 (mp Level.cells x.d.recu.type.levels), .lst false 5 (mp Term.cells x.d.recu.type.kids), .lst false 5 (mp Term.cells x.d.recu.rules), .lst false 15 (mp Fun.cells x.d.funs)] o xs := by rw [Ref07Scope.cells_eq]
theorem Ref07Scope.splc2 (x : Ref07Scope) (o : Nat) (c : AV) (cs : List AV) : splice (c :: cs) o x.cells = splice (c :: cs) o [.lst false 23 (mp Decl.cells x.env), .lst false 1 (mp scell x.own), .int .i64 x.d.kind, .str (sb x.d.name), .int .i64 x.d.params, .int .i64 x.d.type.kind, .int .i64 x.d.type.index, .str (sb x.d.type.name), .lst false 2 (mp Level.cells x.d.type.levels), .lst false 5 (mp Term.cells x.d.type.kids), .int .i64 x.d.value.kind, .int .i64 x.d.value.index, .str (sb x.d.value.name), .lst false 2 (mp Level.cells x.d.value.levels), .lst false 5 (mp Term.cells x.d.value.kids), .int .i64 x.d.fixed, .lst false 6 (mp Ctor.cells x.d.ctors), .int .i64 x.d.recu.params, .int .i64 x.d.recu.type.kind, .int .i64 x.d.recu.type.index, .str (sb x.d.recu.type.name), .lst false 2 (mp Level.cells x.d.recu.type.levels), .lst false 5 (mp Term.cells x.d.recu.type.kids), .lst false 5 (mp Term.cells x.d.recu.rules), .lst false 15 (mp Fun.cells x.d.funs)] := by rw [Ref07Scope.cells_eq]
theorem Ref07Scope.app (x : Ref07Scope) (l : List AV) : x.cells ++ l = (.lst false 23 (mp Decl.cells x.env) : AV) :: (.lst false 1 (mp scell x.own) : AV) :: (.int .i64 x.d.kind : AV) :: (.str (sb x.d.name) : AV) :: (.int .i64 x.d.params : AV) :: (.int .i64 x.d.type.kind : AV) :: (.int .i64 x.d.type.index : AV) :: (.str (sb x.d.type.name) : AV) :: (.lst false 2 (mp Level.cells x.d.type.levels) : AV) :: (.lst false 5 (mp Term.cells x.d.type.kids) : AV) :: (.int .i64 x.d.value.kind : AV) :: (.int .i64 x.d.value.index : AV) :: (.str (sb x.d.value.name) : AV) :: (.lst false 2 (mp Level.cells x.d.value.levels) : AV) :: (.lst false 5 (mp Term.cells x.d.value.kids) : AV) :: (.int .i64 x.d.fixed : AV) :: (.lst false 6 (mp Ctor.cells x.d.ctors) : AV) :: (.int .i64 x.d.recu.params : AV) :: (.int .i64 x.d.recu.type.kind : AV) :: (.int .i64 x.d.recu.type.index : AV) :: (.str (sb x.d.recu.type.name) : AV) :: (.lst false 2 (mp Level.cells x.d.recu.type.levels) : AV) :: (.lst false 5 (mp Term.cells x.d.recu.type.kids) : AV) :: (.lst false 5 (mp Term.cells x.d.recu.rules) : AV) :: (.lst false 15 (mp Fun.cells x.d.funs) : AV) :: l := by rw [Ref07Scope.cells_eq]; rfl
theorem Ref07Scope.cns (x : Ref07Scope) (c : AV) : c :: x.cells = [c, .lst false 23 (mp Decl.cells x.env), .lst false 1 (mp scell x.own), .int .i64 x.d.kind, .str (sb x.d.name), .int .i64 x.d.params, .int .i64 x.d.type.kind, .int .i64 x.d.type.index, .str (sb x.d.type.name), .lst false 2 (mp Level.cells x.d.type.levels), .lst false 5 (mp Term.cells x.d.type.kids), .int .i64 x.d.value.kind, .int .i64 x.d.value.index, .str (sb x.d.value.name), .lst false 2 (mp Level.cells x.d.value.levels), .lst false 5 (mp Term.cells x.d.value.kids), .int .i64 x.d.fixed, .lst false 6 (mp Ctor.cells x.d.ctors), .int .i64 x.d.recu.params, .int .i64 x.d.recu.type.kind, .int .i64 x.d.recu.type.index, .str (sb x.d.recu.type.name), .lst false 2 (mp Level.cells x.d.recu.type.levels), .lst false 5 (mp Term.cells x.d.recu.type.kids), .lst false 5 (mp Term.cells x.d.recu.rules), .lst false 15 (mp Fun.cells x.d.funs)] := by rw [Ref07Scope.cells_eq]
attribute [go_sem] Ref07Scope.app Ref07Scope.cns
attribute [go_sem] Ref07Scope.nbs Ref07Scope.rens Ref07Scope.frz Ref07Scope.reads Ref07Scope.length Ref07Scope.scalar
attribute [go_sem low] Ref07Scope.splc Ref07Scope.splc2
end Go.Abs
namespace Go.Abs
open Go.Proofs
theorem tf0 :
    tinfo Try.prog 3 = some (false, 1) ∧
    telem Try.prog 3 = none ∧
    tzero Try.prog 3 = some [.int .i64 0] ∧
    tstr Try.prog 3 = false ∧
    tint Try.prog 3 = some .i64 ∧
    tnoint Try.prog 3 = false ∧
    tconc Try.prog 3 = true ∧
    tinfo Try.prog 4 = some (false, 1) ∧
    telem Try.prog 4 = none ∧
    tzero Try.prog 4 = some [.bool false] ∧
    tstr Try.prog 4 = false ∧
    tnoint Try.prog 4 = true ∧
    tconc Try.prog 4 = true ∧
    tinfo Try.prog 5 = some (false, 1) ∧
    telem Try.prog 5 = none ∧
    tzero Try.prog 5 = some [.int .u8 0] ∧
    tstr Try.prog 5 = false ∧
    tint Try.prog 5 = some .u8 ∧
    tnoint Try.prog 5 = false ∧
    tconc Try.prog 5 = true ∧
    tinfo Try.prog 9 = some (false, 1) ∧
    telem Try.prog 9 = none ∧
    tzero Try.prog 9 = some [.str ByteArray.empty] ∧
    tstr Try.prog 9 = true ∧
    tnoint Try.prog 9 = true ∧
    tconc Try.prog 9 = true ∧
    tinfo Try.prog 22 = some (false, 1) ∧
    telem Try.prog 22 = some (51, 2, 32) ∧
    tzero Try.prog 22 = some [.lst true 0 []] ∧
    tstr Try.prog 22 = false ∧
    tnoint Try.prog 22 = true ∧
    tconc Try.prog 22 = true ∧
    tinfo Try.prog 23 = some (false, 1) ∧
    telem Try.prog 23 = some (25, 5, 80) ∧
    tzero Try.prog 23 = some [.lst true 0 []] ∧
    tstr Try.prog 23 = false ∧
    tnoint Try.prog 23 = true ∧
    tconc Try.prog 23 = true ∧
    tinfo Try.prog 25 = some (true, 5) ∧
    tbuilt Try.prog 25 = true ∧
    foff Try.prog 25 0 = some (0, 3) ∧
    bplace Try.prog 25 0 = some (0, 1) ∧
    foff Try.prog 25 1 = some (1, 3) ∧
    bplace Try.prog 25 1 = some (1, 1) ∧
    foff Try.prog 25 2 = some (2, 9) ∧
    bplace Try.prog 25 2 = some (2, 1) ∧
    foff Try.prog 25 3 = some (3, 22) ∧
    bplace Try.prog 25 3 = some (3, 1) ∧
    foff Try.prog 25 4 = some (4, 23) ∧
    bplace Try.prog 25 4 = some (4, 1) ∧
    telem Try.prog 25 = none ∧
    tzero Try.prog 25 = some [.int .i64 0, .int .i64 0, .str ByteArray.empty, .lst true 0 [], .lst true 0 []] ∧
    tstr Try.prog 25 = false ∧
    tnoint Try.prog 25 = true ∧
    tconc Try.prog 25 = true ∧
    tinfo Try.prog 26 = some (false, 1) ∧
    telem Try.prog 26 = some (46, 6, 96) ∧
    tzero Try.prog 26 = some [.lst true 0 []] ∧
    tstr Try.prog 26 = false ∧
    tnoint Try.prog 26 = true ∧
    tconc Try.prog 26 = true ∧
    tinfo Try.prog 28 = some (true, 7) ∧
    tbuilt Try.prog 28 = true ∧
    foff Try.prog 28 0 = some (0, 3) ∧
    bplace Try.prog 28 0 = some (0, 1) ∧
    foff Try.prog 28 1 = some (1, 25) ∧
    bplace Try.prog 28 1 = some (1, 5) ∧
    foff Try.prog 28 2 = some (6, 23) ∧
    bplace Try.prog 28 2 = some (6, 1) ∧
    telem Try.prog 28 = none ∧
    tzero Try.prog 28 = some [.int .i64 0, .int .i64 0, .int .i64 0, .str ByteArray.empty, .lst true 0 [], .lst true 0 [], .lst true 0 []] ∧
    tstr Try.prog 28 = false ∧
    tnoint Try.prog 28 = true ∧
    tconc Try.prog 28 = true ∧
    tinfo Try.prog 29 = some (false, 1) ∧
    telem Try.prog 29 = some (121, 15, 224) ∧
    tzero Try.prog 29 = some [.lst true 0 []] ∧
    tstr Try.prog 29 = false ∧
    tnoint Try.prog 29 = true ∧
    tconc Try.prog 29 = true ∧
    tinfo Try.prog 31 = some (true, 23) ∧
    tbuilt Try.prog 31 = true ∧
    foff Try.prog 31 0 = some (0, 3) ∧
    bplace Try.prog 31 0 = some (0, 1) ∧
    foff Try.prog 31 1 = some (1, 9) ∧
    bplace Try.prog 31 1 = some (1, 1) ∧
    foff Try.prog 31 2 = some (2, 3) ∧
    bplace Try.prog 31 2 = some (2, 1) ∧
    foff Try.prog 31 3 = some (3, 25) ∧
    bplace Try.prog 31 3 = some (3, 5) ∧
    foff Try.prog 31 4 = some (8, 25) ∧
    bplace Try.prog 31 4 = some (8, 5) ∧
    foff Try.prog 31 5 = some (13, 3) ∧
    bplace Try.prog 31 5 = some (13, 1) ∧
    foff Try.prog 31 6 = some (14, 26) ∧
    bplace Try.prog 31 6 = some (14, 1) ∧
    foff Try.prog 31 7 = some (15, 28) ∧
    bplace Try.prog 31 7 = some (15, 7) ∧
    foff Try.prog 31 8 = some (22, 29) ∧
    bplace Try.prog 31 8 = some (22, 1) ∧
    telem Try.prog 31 = none ∧
    tzero Try.prog 31 = some [.int .i64 0, .str ByteArray.empty, .int .i64 0, .int .i64 0, .int .i64 0, .str ByteArray.empty, .lst true 0 [], .lst true 0 [], .int .i64 0, .int .i64 0, .str ByteArray.empty, .lst true 0 [], .lst true 0 [], .int .i64 0, .lst true 0 [], .int .i64 0, .int .i64 0, .int .i64 0, .str ByteArray.empty, .lst true 0 [], .lst true 0 [], .lst true 0 [], .lst true 0 []] ∧
    tstr Try.prog 31 = false ∧
    tnoint Try.prog 31 = true ∧
    tconc Try.prog 31 = true ∧
    tinfo Try.prog 34 = some (false, 1) ∧
    telem Try.prog 34 = some (60, 4, 88) ∧
    tzero Try.prog 34 = some [.lst true 0 []] ∧
    tstr Try.prog 34 = false ∧
    tnoint Try.prog 34 = true ∧
    tconc Try.prog 34 = true ∧
    tinfo Try.prog 36 = some (true, 10) ∧
    tbuilt Try.prog 36 = true ∧
    foff Try.prog 36 0 = some (0, 9) ∧
    bplace Try.prog 36 0 = some (0, 1) ∧
    foff Try.prog 36 1 = some (1, 3) ∧
    bplace Try.prog 36 1 = some (1, 1) ∧
    foff Try.prog 36 2 = some (2, 23) ∧
    bplace Try.prog 36 2 = some (2, 1) ∧
    foff Try.prog 36 3 = some (3, 23) :=
  ⟨by kernel_rfl, by kernel_rfl, by kernel_rfl, by kernel_rfl, by kernel_rfl, by kernel_rfl, by kernel_rfl, by kernel_rfl, by kernel_rfl, by kernel_rfl, by kernel_rfl, by kernel_rfl, by kernel_rfl, by kernel_rfl, by kernel_rfl, by kernel_rfl, by kernel_rfl, by kernel_rfl, by kernel_rfl, by kernel_rfl, by kernel_rfl, by kernel_rfl, by kernel_rfl, by kernel_rfl, by kernel_rfl, by kernel_rfl, by kernel_rfl, by kernel_rfl, by kernel_rfl, by kernel_rfl, by kernel_rfl, by kernel_rfl, by kernel_rfl, by kernel_rfl, by kernel_rfl, by kernel_rfl, by kernel_rfl, by kernel_rfl, by kernel_rfl, by kernel_rfl, by kernel_rfl, by kernel_rfl, by kernel_rfl, by kernel_rfl, by kernel_rfl, by kernel_rfl, by kernel_rfl, by kernel_rfl, by kernel_rfl, by kernel_rfl, by kernel_rfl, by kernel_rfl, by kernel_rfl, by kernel_rfl, by kernel_rfl, by kernel_rfl, by kernel_rfl, by kernel_rfl, by kernel_rfl, by kernel_rfl, by kernel_rfl, by kernel_rfl, by kernel_rfl, by kernel_rfl, by kernel_rfl, by kernel_rfl, by kernel_rfl, by kernel_rfl, by kernel_rfl, by kernel_rfl, by kernel_rfl, by kernel_rfl, by kernel_rfl, by kernel_rfl, by kernel_rfl, by kernel_rfl, by kernel_rfl, by kernel_rfl, by kernel_rfl, by kernel_rfl, by kernel_rfl, by kernel_rfl, by kernel_rfl, by kernel_rfl, by kernel_rfl, by kernel_rfl, by kernel_rfl, by kernel_rfl, by kernel_rfl, by kernel_rfl, by kernel_rfl, by kernel_rfl, by kernel_rfl, by kernel_rfl, by kernel_rfl, by kernel_rfl, by kernel_rfl, by kernel_rfl, by kernel_rfl, by kernel_rfl, by kernel_rfl, by kernel_rfl, by kernel_rfl, by kernel_rfl, by kernel_rfl, by kernel_rfl, by kernel_rfl, by kernel_rfl, by kernel_rfl, by kernel_rfl, by kernel_rfl, by kernel_rfl, by kernel_rfl, by kernel_rfl, by kernel_rfl, by kernel_rfl, by kernel_rfl, by kernel_rfl, by kernel_rfl, by kernel_rfl⟩
theorem tf1 :
    bplace Try.prog 36 3 = some (3, 1) ∧
    foff Try.prog 36 4 = some (4, 25) ∧
    bplace Try.prog 36 4 = some (4, 5) ∧
    foff Try.prog 36 5 = some (9, 34) ∧
    bplace Try.prog 36 5 = some (9, 1) ∧
    telem Try.prog 36 = none ∧
    tzero Try.prog 36 = some [.str ByteArray.empty, .int .i64 0, .lst true 0 [], .lst true 0 [], .int .i64 0, .int .i64 0, .str ByteArray.empty, .lst true 0 [], .lst true 0 [], .lst true 0 []] ∧
    tstr Try.prog 36 = false ∧
    tnoint Try.prog 36 = true ∧
    tconc Try.prog 36 = true ∧
    tinfo Try.prog 37 = some (false, 1) ∧
    telem Try.prog 37 = none ∧
    tzero Try.prog 37 = some [.int .i64 0] ∧
    tstr Try.prog 37 = false ∧
    tint Try.prog 37 = some .i64 ∧
    tnoint Try.prog 37 = false ∧
    tconc Try.prog 37 = true ∧
    tinfo Try.prog 46 = some (true, 6) ∧
    tbuilt Try.prog 46 = true ∧
    foff Try.prog 46 0 = some (0, 9) ∧
    bplace Try.prog 46 0 = some (0, 1) ∧
    foff Try.prog 46 1 = some (1, 25) ∧
    bplace Try.prog 46 1 = some (1, 5) ∧
    telem Try.prog 46 = none ∧
    tzero Try.prog 46 = some [.str ByteArray.empty, .int .i64 0, .int .i64 0, .str ByteArray.empty, .lst true 0 [], .lst true 0 []] ∧
    tstr Try.prog 46 = false ∧
    tnoint Try.prog 46 = true ∧
    tconc Try.prog 46 = true ∧
    tinfo Try.prog 48 = some (false, 1) ∧
    telem Try.prog 48 = none ∧
    tzero Try.prog 48 = some [.raw .nilFunc] ∧
    tstr Try.prog 48 = false ∧
    tnoint Try.prog 48 = true ∧
    tconc Try.prog 48 = true ∧
    tinfo Try.prog 49 = some (false, 1) ∧
    telem Try.prog 49 = some (140, 2, 16) ∧
    tzero Try.prog 49 = some [.lst true 0 []] ∧
    tstr Try.prog 49 = false ∧
    tnoint Try.prog 49 = true ∧
    tconc Try.prog 49 = true ∧
    tinfo Try.prog 51 = some (true, 2) ∧
    tbuilt Try.prog 51 = true ∧
    foff Try.prog 51 0 = some (0, 3) ∧
    bplace Try.prog 51 0 = some (0, 1) ∧
    foff Try.prog 51 1 = some (1, 49) ∧
    bplace Try.prog 51 1 = some (1, 1) ∧
    telem Try.prog 51 = none ∧
    tzero Try.prog 51 = some [.int .i64 0, .lst true 0 []] ∧
    tstr Try.prog 51 = false ∧
    tnoint Try.prog 51 = true ∧
    tconc Try.prog 51 = true ∧
    tinfo Try.prog 58 = some (false, 1) ∧
    telem Try.prog 58 = some (82, 3, 56) ∧
    tzero Try.prog 58 = some [.lst true 0 []] ∧
    tstr Try.prog 58 = false ∧
    tnoint Try.prog 58 = true ∧
    tconc Try.prog 58 = true ∧
    tinfo Try.prog 60 = some (true, 4) ∧
    tbuilt Try.prog 60 = true ∧
    foff Try.prog 60 0 = some (0, 9) ∧
    bplace Try.prog 60 0 = some (0, 1) ∧
    foff Try.prog 60 1 = some (1, 23) ∧
    bplace Try.prog 60 1 = some (1, 1) ∧
    foff Try.prog 60 2 = some (2, 58) ∧
    bplace Try.prog 60 2 = some (2, 1) ∧
    foff Try.prog 60 3 = some (3, 23) ∧
    bplace Try.prog 60 3 = some (3, 1) ∧
    telem Try.prog 60 = none ∧
    tzero Try.prog 60 = some [.str ByteArray.empty, .lst true 0 [], .lst true 0 [], .lst true 0 []] ∧
    tstr Try.prog 60 = false ∧
    tnoint Try.prog 60 = true ∧
    tconc Try.prog 60 = true ∧
    tinfo Try.prog 61 = some (false, 1) ∧
    telem Try.prog 61 = some (31, 23, 360) ∧
    tzero Try.prog 61 = some [.lst true 0 []] ∧
    tstr Try.prog 61 = false ∧
    tnoint Try.prog 61 = true ∧
    tconc Try.prog 61 = true ∧
    tinfo Try.prog 63 = some (false, 1) ∧
    telem Try.prog 63 = none ∧
    tzero Try.prog 63 = some [.raw .nilFunc] ∧
    tstr Try.prog 63 = false ∧
    tnoint Try.prog 63 = true ∧
    tconc Try.prog 63 = true ∧
    tinfo Try.prog 75 = some (false, 1) ∧
    telem Try.prog 75 = none ∧
    tzero Try.prog 75 = some [.raw .nilFunc] ∧
    tstr Try.prog 75 = false ∧
    tnoint Try.prog 75 = true ∧
    tconc Try.prog 75 = true ∧
    tinfo Try.prog 78 = some (false, 1) ∧
    telem Try.prog 78 = some (9, 1, 16) ∧
    tzero Try.prog 78 = some [.lst true 0 []] ∧
    tstr Try.prog 78 = false ∧
    tnoint Try.prog 78 = true ∧
    tconc Try.prog 78 = true ∧
    tinfo Try.prog 82 = some (true, 3) ∧
    tbuilt Try.prog 82 = true ∧
    foff Try.prog 82 0 = some (0, 3) ∧
    bplace Try.prog 82 0 = some (0, 1) ∧
    foff Try.prog 82 1 = some (1, 23) ∧
    bplace Try.prog 82 1 = some (1, 1) ∧
    foff Try.prog 82 2 = some (2, 23) ∧
    bplace Try.prog 82 2 = some (2, 1) ∧
    telem Try.prog 82 = none ∧
    tzero Try.prog 82 = some [.int .i64 0, .lst true 0 [], .lst true 0 []] ∧
    tstr Try.prog 82 = false ∧
    tnoint Try.prog 82 = true ∧
    tconc Try.prog 82 = true ∧
    tinfo Try.prog 87 = some (false, 1) ∧
    telem Try.prog 87 = none ∧
    tzero Try.prog 87 = some [.raw .nilFunc] ∧
    tstr Try.prog 87 = false ∧
    tnoint Try.prog 87 = true ∧
    tconc Try.prog 87 = true ∧
    tinfo Try.prog 94 = some (true, 7) ∧
    tbuilt Try.prog 94 = true ∧
    foff Try.prog 94 0 = some (0, 25) ∧
    bplace Try.prog 94 0 = some (0, 5) ∧
    foff Try.prog 94 1 = some (5, 23) :=
  ⟨by kernel_rfl, by kernel_rfl, by kernel_rfl, by kernel_rfl, by kernel_rfl, by kernel_rfl, by kernel_rfl, by kernel_rfl, by kernel_rfl, by kernel_rfl, by kernel_rfl, by kernel_rfl, by kernel_rfl, by kernel_rfl, by kernel_rfl, by kernel_rfl, by kernel_rfl, by kernel_rfl, by kernel_rfl, by kernel_rfl, by kernel_rfl, by kernel_rfl, by kernel_rfl, by kernel_rfl, by kernel_rfl, by kernel_rfl, by kernel_rfl, by kernel_rfl, by kernel_rfl, by kernel_rfl, by kernel_rfl, by kernel_rfl, by kernel_rfl, by kernel_rfl, by kernel_rfl, by kernel_rfl, by kernel_rfl, by kernel_rfl, by kernel_rfl, by kernel_rfl, by kernel_rfl, by kernel_rfl, by kernel_rfl, by kernel_rfl, by kernel_rfl, by kernel_rfl, by kernel_rfl, by kernel_rfl, by kernel_rfl, by kernel_rfl, by kernel_rfl, by kernel_rfl, by kernel_rfl, by kernel_rfl, by kernel_rfl, by kernel_rfl, by kernel_rfl, by kernel_rfl, by kernel_rfl, by kernel_rfl, by kernel_rfl, by kernel_rfl, by kernel_rfl, by kernel_rfl, by kernel_rfl, by kernel_rfl, by kernel_rfl, by kernel_rfl, by kernel_rfl, by kernel_rfl, by kernel_rfl, by kernel_rfl, by kernel_rfl, by kernel_rfl, by kernel_rfl, by kernel_rfl, by kernel_rfl, by kernel_rfl, by kernel_rfl, by kernel_rfl, by kernel_rfl, by kernel_rfl, by kernel_rfl, by kernel_rfl, by kernel_rfl, by kernel_rfl, by kernel_rfl, by kernel_rfl, by kernel_rfl, by kernel_rfl, by kernel_rfl, by kernel_rfl, by kernel_rfl, by kernel_rfl, by kernel_rfl, by kernel_rfl, by kernel_rfl, by kernel_rfl, by kernel_rfl, by kernel_rfl, by kernel_rfl, by kernel_rfl, by kernel_rfl, by kernel_rfl, by kernel_rfl, by kernel_rfl, by kernel_rfl, by kernel_rfl, by kernel_rfl, by kernel_rfl, by kernel_rfl, by kernel_rfl, by kernel_rfl, by kernel_rfl, by kernel_rfl, by kernel_rfl, by kernel_rfl, by kernel_rfl, by kernel_rfl, by kernel_rfl⟩
theorem tf2 :
    bplace Try.prog 94 1 = some (5, 1) ∧
    foff Try.prog 94 2 = some (6, 3) ∧
    bplace Try.prog 94 2 = some (6, 1) ∧
    telem Try.prog 94 = none ∧
    tzero Try.prog 94 = some [.int .i64 0, .int .i64 0, .str ByteArray.empty, .lst true 0 [], .lst true 0 [], .lst true 0 [], .int .i64 0] ∧
    tstr Try.prog 94 = false ∧
    tnoint Try.prog 94 = true ∧
    tconc Try.prog 94 = true ∧
    tinfo Try.prog 101 = some (false, 1) ∧
    telem Try.prog 101 = none ∧
    tzero Try.prog 101 = some [.raw .nilFunc] ∧
    tstr Try.prog 101 = false ∧
    tnoint Try.prog 101 = true ∧
    tconc Try.prog 101 = true ∧
    tinfo Try.prog 111 = some (true, 9) ∧
    tbuilt Try.prog 111 = true ∧
    foff Try.prog 111 0 = some (0, 3) ∧
    bplace Try.prog 111 0 = some (0, 1) ∧
    foff Try.prog 111 1 = some (1, 3) ∧
    bplace Try.prog 111 1 = some (1, 1) ∧
    foff Try.prog 111 2 = some (2, 3) ∧
    bplace Try.prog 111 2 = some (2, 1) ∧
    foff Try.prog 111 3 = some (3, 3) ∧
    bplace Try.prog 111 3 = some (3, 1) ∧
    foff Try.prog 111 4 = some (4, 25) ∧
    bplace Try.prog 111 4 = some (4, 5) ∧
    telem Try.prog 111 = none ∧
    tzero Try.prog 111 = some [.int .i64 0, .int .i64 0, .int .i64 0, .int .i64 0, .int .i64 0, .int .i64 0, .str ByteArray.empty, .lst true 0 [], .lst true 0 []] ∧
    tstr Try.prog 111 = false ∧
    tnoint Try.prog 111 = true ∧
    tconc Try.prog 111 = true ∧
    tinfo Try.prog 117 = some (false, 1) ∧
    telem Try.prog 117 = some (155, 10, 144) ∧
    tzero Try.prog 117 = some [.lst true 0 []] ∧
    tstr Try.prog 117 = false ∧
    tnoint Try.prog 117 = true ∧
    tconc Try.prog 117 = true ∧
    tinfo Try.prog 119 = some (true, 8) ∧
    tbuilt Try.prog 119 = true ∧
    foff Try.prog 119 0 = some (0, 3) ∧
    bplace Try.prog 119 0 = some (0, 1) ∧
    foff Try.prog 119 1 = some (1, 25) ∧
    bplace Try.prog 119 1 = some (1, 5) ∧
    foff Try.prog 119 2 = some (6, 3) ∧
    bplace Try.prog 119 2 = some (6, 1) ∧
    foff Try.prog 119 3 = some (7, 117) ∧
    bplace Try.prog 119 3 = some (7, 1) ∧
    telem Try.prog 119 = none ∧
    tzero Try.prog 119 = some [.int .i64 0, .int .i64 0, .int .i64 0, .str ByteArray.empty, .lst true 0 [], .lst true 0 [], .int .i64 0, .lst true 0 []] ∧
    tstr Try.prog 119 = false ∧
    tnoint Try.prog 119 = true ∧
    tconc Try.prog 119 = true ∧
    tinfo Try.prog 121 = some (true, 15) ∧
    tbuilt Try.prog 121 = true ∧
    foff Try.prog 121 0 = some (0, 9) ∧
    bplace Try.prog 121 0 = some (0, 1) ∧
    foff Try.prog 121 1 = some (1, 25) ∧
    bplace Try.prog 121 1 = some (1, 5) ∧
    foff Try.prog 121 2 = some (6, 3) ∧
    bplace Try.prog 121 2 = some (6, 1) ∧
    foff Try.prog 121 3 = some (7, 119) ∧
    bplace Try.prog 121 3 = some (7, 8) ∧
    telem Try.prog 121 = none ∧
    tzero Try.prog 121 = some [.str ByteArray.empty, .int .i64 0, .int .i64 0, .str ByteArray.empty, .lst true 0 [], .lst true 0 [], .int .i64 0, .int .i64 0, .int .i64 0, .int .i64 0, .str ByteArray.empty, .lst true 0 [], .lst true 0 [], .int .i64 0, .lst true 0 []] ∧
    tstr Try.prog 121 = false ∧
    tnoint Try.prog 121 = true ∧
    tconc Try.prog 121 = true ∧
    tinfo Try.prog 125 = some (false, 1) ∧
    telem Try.prog 125 = none ∧
    tzero Try.prog 125 = some [.raw .nilFunc] ∧
    tstr Try.prog 125 = false ∧
    tnoint Try.prog 125 = true ∧
    tconc Try.prog 125 = true ∧
    tinfo Try.prog 132 = some (false, 1) ∧
    telem Try.prog 132 = none ∧
    tzero Try.prog 132 = some [.raw (.map none)] ∧
    tmapz Try.prog 132 = some (.bool false) ∧
    tstr Try.prog 132 = false ∧
    tnoint Try.prog 132 = true ∧
    tconc Try.prog 132 = true ∧
    tinfo Try.prog 140 = some (true, 2) ∧
    tbuilt Try.prog 140 = true ∧
    foff Try.prog 140 0 = some (0, 3) ∧
    bplace Try.prog 140 0 = some (0, 1) ∧
    foff Try.prog 140 1 = some (1, 3) ∧
    bplace Try.prog 140 1 = some (1, 1) ∧
    telem Try.prog 140 = none ∧
    tzero Try.prog 140 = some [.int .i64 0, .int .i64 0] ∧
    tstr Try.prog 140 = false ∧
    tnoint Try.prog 140 = true ∧
    tconc Try.prog 140 = true ∧
    tinfo Try.prog 155 = some (true, 10) ∧
    tbuilt Try.prog 155 = true ∧
    foff Try.prog 155 0 = some (0, 9) ∧
    bplace Try.prog 155 0 = some (0, 1) ∧
    foff Try.prog 155 1 = some (1, 4) ∧
    bplace Try.prog 155 1 = some (1, 1) ∧
    foff Try.prog 155 2 = some (2, 119) ∧
    bplace Try.prog 155 2 = some (2, 8) ∧
    telem Try.prog 155 = none ∧
    tzero Try.prog 155 = some [.str ByteArray.empty, .bool false, .int .i64 0, .int .i64 0, .int .i64 0, .str ByteArray.empty, .lst true 0 [], .lst true 0 [], .int .i64 0, .lst true 0 []] ∧
    tstr Try.prog 155 = false ∧
    tnoint Try.prog 155 = true ∧
    tconc Try.prog 155 = true ∧
    tinfo Try.prog 158 = some (false, 1) ∧
    telem Try.prog 158 = none ∧
    tzero Try.prog 158 = some [.raw .nilFunc] ∧
    tstr Try.prog 158 = false ∧
    tnoint Try.prog 158 = true ∧
    tconc Try.prog 158 = true ∧
    tinfo Try.prog 160 = some (true, 5) ∧
    tbuilt Try.prog 160 = true ∧
    foff Try.prog 160 0 = some (0, 4) ∧
    bplace Try.prog 160 0 = some (0, 1) ∧
    foff Try.prog 160 1 = some (1, 4) ∧
    bplace Try.prog 160 1 = some (1, 1) ∧
    foff Try.prog 160 2 = some (2, 3) ∧
    bplace Try.prog 160 2 = some (2, 1) ∧
    foff Try.prog 160 3 = some (3, 3) ∧
    bplace Try.prog 160 3 = some (3, 1) :=
  ⟨by kernel_rfl, by kernel_rfl, by kernel_rfl, by kernel_rfl, by kernel_rfl, by kernel_rfl, by kernel_rfl, by kernel_rfl, by kernel_rfl, by kernel_rfl, by kernel_rfl, by kernel_rfl, by kernel_rfl, by kernel_rfl, by kernel_rfl, by kernel_rfl, by kernel_rfl, by kernel_rfl, by kernel_rfl, by kernel_rfl, by kernel_rfl, by kernel_rfl, by kernel_rfl, by kernel_rfl, by kernel_rfl, by kernel_rfl, by kernel_rfl, by kernel_rfl, by kernel_rfl, by kernel_rfl, by kernel_rfl, by kernel_rfl, by kernel_rfl, by kernel_rfl, by kernel_rfl, by kernel_rfl, by kernel_rfl, by kernel_rfl, by kernel_rfl, by kernel_rfl, by kernel_rfl, by kernel_rfl, by kernel_rfl, by kernel_rfl, by kernel_rfl, by kernel_rfl, by kernel_rfl, by kernel_rfl, by kernel_rfl, by kernel_rfl, by kernel_rfl, by kernel_rfl, by kernel_rfl, by kernel_rfl, by kernel_rfl, by kernel_rfl, by kernel_rfl, by kernel_rfl, by kernel_rfl, by kernel_rfl, by kernel_rfl, by kernel_rfl, by kernel_rfl, by kernel_rfl, by kernel_rfl, by kernel_rfl, by kernel_rfl, by kernel_rfl, by kernel_rfl, by kernel_rfl, by kernel_rfl, by kernel_rfl, by kernel_rfl, by kernel_rfl, by kernel_rfl, by kernel_rfl, by kernel_rfl, by kernel_rfl, by kernel_rfl, by kernel_rfl, by kernel_rfl, by kernel_rfl, by kernel_rfl, by kernel_rfl, by kernel_rfl, by kernel_rfl, by kernel_rfl, by kernel_rfl, by kernel_rfl, by kernel_rfl, by kernel_rfl, by kernel_rfl, by kernel_rfl, by kernel_rfl, by kernel_rfl, by kernel_rfl, by kernel_rfl, by kernel_rfl, by kernel_rfl, by kernel_rfl, by kernel_rfl, by kernel_rfl, by kernel_rfl, by kernel_rfl, by kernel_rfl, by kernel_rfl, by kernel_rfl, by kernel_rfl, by kernel_rfl, by kernel_rfl, by kernel_rfl, by kernel_rfl, by kernel_rfl, by kernel_rfl, by kernel_rfl, by kernel_rfl, by kernel_rfl, by kernel_rfl, by kernel_rfl, by kernel_rfl⟩
theorem tf3 :
    foff Try.prog 160 4 = some (4, 3) ∧
    bplace Try.prog 160 4 = some (4, 1) ∧
    telem Try.prog 160 = none ∧
    tzero Try.prog 160 = some [.bool false, .bool false, .int .i64 0, .int .i64 0, .int .i64 0] ∧
    tstr Try.prog 160 = false ∧
    tnoint Try.prog 160 = true ∧
    tconc Try.prog 160 = true ∧
    tinfo Try.prog 161 = some (true, 65) ∧
    tarr Try.prog 161 = some (13, 5) ∧
    tbuilt Try.prog 161 = true ∧
    bplace Try.prog 161 0 = some (0, 5) ∧
    bplace Try.prog 161 1 = some (5, 5) ∧
    bplace Try.prog 161 2 = some (10, 5) ∧
    bplace Try.prog 161 3 = some (15, 5) ∧
    bplace Try.prog 161 4 = some (20, 5) ∧
    bplace Try.prog 161 5 = some (25, 5) ∧
    bplace Try.prog 161 6 = some (30, 5) ∧
    bplace Try.prog 161 7 = some (35, 5) ∧
    bplace Try.prog 161 8 = some (40, 5) ∧
    bplace Try.prog 161 9 = some (45, 5) ∧
    bplace Try.prog 161 10 = some (50, 5) ∧
    bplace Try.prog 161 11 = some (55, 5) ∧
    bplace Try.prog 161 12 = some (60, 5) ∧
    telem Try.prog 161 = none ∧
    tzero Try.prog 161 = some [.bool false, .bool false, .int .i64 0, .int .i64 0, .int .i64 0, .bool false, .bool false, .int .i64 0, .int .i64 0, .int .i64 0, .bool false, .bool false, .int .i64 0, .int .i64 0, .int .i64 0, .bool false, .bool false, .int .i64 0, .int .i64 0, .int .i64 0, .bool false, .bool false, .int .i64 0, .int .i64 0, .int .i64 0, .bool false, .bool false, .int .i64 0, .int .i64 0, .int .i64 0, .bool false, .bool false, .int .i64 0, .int .i64 0, .int .i64 0, .bool false, .bool false, .int .i64 0, .int .i64 0, .int .i64 0, .bool false, .bool false, .int .i64 0, .int .i64 0, .int .i64 0, .bool false, .bool false, .int .i64 0, .int .i64 0, .int .i64 0, .bool false, .bool false, .int .i64 0, .int .i64 0, .int .i64 0, .bool false, .bool false, .int .i64 0, .int .i64 0, .int .i64 0, .bool false, .bool false, .int .i64 0, .int .i64 0, .int .i64 0] ∧
    tstr Try.prog 161 = false ∧
    tnoint Try.prog 161 = true ∧
    tconc Try.prog 161 = true ∧
    tinfo Try.prog 167 = some (false, 1) ∧
    telem Try.prog 167 = some (3, 1, 8) ∧
    tzero Try.prog 167 = some [.lst true 0 []] ∧
    tstr Try.prog 167 = false ∧
    tnoint Try.prog 167 = true ∧
    tconc Try.prog 167 = true ∧
    tinfo Try.prog 172 = some (true, 25) ∧
    tbuilt Try.prog 172 = true ∧
    foff Try.prog 172 0 = some (0, 61) ∧
    bplace Try.prog 172 0 = some (0, 1) ∧
    foff Try.prog 172 1 = some (1, 78) ∧
    bplace Try.prog 172 1 = some (1, 1) ∧
    foff Try.prog 172 2 = some (2, 31) ∧
    bplace Try.prog 172 2 = some (2, 23) ∧
    telem Try.prog 172 = none ∧
    tzero Try.prog 172 = some [.lst true 0 [], .lst true 0 [], .int .i64 0, .str ByteArray.empty, .int .i64 0, .int .i64 0, .int .i64 0, .str ByteArray.empty, .lst true 0 [], .lst true 0 [], .int .i64 0, .int .i64 0, .str ByteArray.empty, .lst true 0 [], .lst true 0 [], .int .i64 0, .lst true 0 [], .int .i64 0, .int .i64 0, .int .i64 0, .str ByteArray.empty, .lst true 0 [], .lst true 0 [], .lst true 0 [], .lst true 0 []] ∧
    tstr Try.prog 172 = false ∧
    tnoint Try.prog 172 = true ∧
    tconc Try.prog 172 = true ∧
    tbl Try.prog 4 = true :=
  ⟨by kernel_rfl, by kernel_rfl, by kernel_rfl, by kernel_rfl, by kernel_rfl, by kernel_rfl, by kernel_rfl, by kernel_rfl, by kernel_rfl, by kernel_rfl, by kernel_rfl, by kernel_rfl, by kernel_rfl, by kernel_rfl, by kernel_rfl, by kernel_rfl, by kernel_rfl, by kernel_rfl, by kernel_rfl, by kernel_rfl, by kernel_rfl, by kernel_rfl, by kernel_rfl, by kernel_rfl, by kernel_rfl, by kernel_rfl, by kernel_rfl, by kernel_rfl, by kernel_rfl, by kernel_rfl, by kernel_rfl, by kernel_rfl, by kernel_rfl, by kernel_rfl, by kernel_rfl, by kernel_rfl, by kernel_rfl, by kernel_rfl, by kernel_rfl, by kernel_rfl, by kernel_rfl, by kernel_rfl, by kernel_rfl, by kernel_rfl, by kernel_rfl, by kernel_rfl, by kernel_rfl, by kernel_rfl⟩
theorem mixed : Try.prog.follows .mixedOrders = true := by kernel_rfl
attribute [go_sem] tf0 tf1 tf2 tf3
end Go.Abs
namespace Go.Abs
open Go.Proofs
set_option maxRecDepth 100000
theorem LevelVar.aggEq (a b : LevelVar) : AggEq Try.prog 140 a.cells b.cells = True := by
  refine eq_true (aggEq_flat (by kernel_rfl) (by kernel_rfl) (by kernel_rfl) ?_)
  rw [LevelVar.cells_eq, LevelVar.cells_eq]
  exact ⟨⟨by decide, by kernel_rfl, by kernel_rfl, rfl, .i64, by kernel_rfl⟩, ⟨by decide, by kernel_rfl, by kernel_rfl, rfl, .i64, by kernel_rfl⟩, trivial⟩
theorem LevelVar.eqB (a b : LevelVar) : Go.Abs.eqB a.cells b.cells = ((a.index == b.index) && (a.plus == b.plus)) := by
  rw [LevelVar.cells_eq, LevelVar.cells_eq]
  simp only [Go.Abs.eqB, eq1, sb_toList, Bool.and_true]
attribute [go_sem] LevelVar.aggEq LevelVar.eqB
end Go.Abs
