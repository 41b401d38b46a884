/- A part of the proof: the data of the program. -/
import Derived.Test.YtecpjooedpkedaaDoorCoreC
import Derived.Test.YtecpjooedpkedaaDoorProg
import Derived.KernelRfl
set_option linter.all false
namespace Go.Abs
set_option linter.unusedSimpArgs false
set_option maxRecDepth 10000
theorem icell_nb (n : Nat) (x : Int) : nbL n (icell x) := ⟨trivial, trivial⟩
theorem ucell_nb (n : Nat) (x : Int) : nbL n (ucell x) := ⟨trivial, trivial⟩
theorem scell_nb (n : Nat) (x : Str) : nbL n (scell x) := ⟨trivial, trivial⟩
theorem bcell_nb (n : Nat) (x : Bool) : nbL n (bcell x) := ⟨trivial, trivial⟩
theorem nbR_map {α : Type} {f : α → List AV} {n : Nat} (h : ∀ x, nbL n (f x)) : ∀ xs : List α, nbR n (mp f xs)
  | [] => by rw [mp_eq]; trivial
  | x :: xs => by have := nbR_map h xs; rw [mp_eq] at this ⊢; exact ⟨h x, this⟩
theorem loadAV_all {cs : List AV} {n : Nat} (h : cs.length = n) : loadAV true n cs = some (.agg cs) := by
  simp only [loadAV, ← h, Nat.le_refl, if_true, List.take_length]
theorem cell_nbs : (∀ (n : Nat) (xs : List Int), nbR n (mp icell xs) = True) ∧ (∀ (n : Nat) (xs : List Int), nbR n (mp ucell xs) = True) ∧ (∀ (n : Nat) (xs : List Str), nbR n (mp scell xs) = True) ∧ ∀ (n : Nat) (xs : List Bool), nbR n (mp bcell xs) = True := ⟨fun n xs => eq_true (nbR_map (icell_nb n) xs), fun n xs => eq_true (nbR_map (ucell_nb n) xs), fun n xs => eq_true (nbR_map (scell_nb n) xs), fun n xs => eq_true (nbR_map (bcell_nb n) xs)⟩
theorem cell_rens : (∀ (ρ : Nat → Nat) (xs : List Int), renR ρ (mp icell xs) = mp icell xs) ∧ (∀ (ρ : Nat → Nat) (xs : List Str), renR ρ (mp scell xs) = mp scell xs) ∧ ∀ (ρ : Nat → Nat) (xs : List Bool), renR ρ (mp bcell xs) = mp bcell xs := ⟨fun ρ xs => renR_of_nb ρ _ (nbR_map (icell_nb 0) xs), fun ρ xs => renR_of_nb ρ _ (nbR_map (scell_nb 0) xs), fun ρ xs => renR_of_nb ρ _ (nbR_map (bcell_nb 0) xs)⟩
attribute [go_sem] icell scell bcell ucell cell_nbs cell_rens
theorem mapO_set {α β : Type} {f : β → Option α} {g : α → β} (h : ∀ x, f (g x) = some x) : ∀ (xs : List α) (i : Nat) (r : β), mapO f ((mp g xs).set i r) = bif decide (i < xs.length) then (f r).bind fun y => some (xs.set i y) else some xs := by
  intro xs
  rw [mp_eq]
  induction xs with
  | nil => intro i r; simp [mapO]
  | cons x xs ih =>
    intro i r
    cases i with
    | zero =>
      simp only [List.map_cons, List.set_cons_zero, mapO, mapO_map h, List.length_cons, Nat.zero_lt_succ, decide_true, cond_true]
      cases f r <;> rfl
    | succ i =>
      simp only [List.map_cons, List.set_cons_succ, mapO, h, ih i r, List.length_cons, Nat.succ_lt_succ_iff, Option.bind_some]
      by_cases hi : i < xs.length
      · simp only [hi, decide_true, cond_true]; cases f r <;> rfl
      · simp only [hi, decide_false, cond_false]; rfl
theorem mapO_set1 : (∀ (xs : List Int) (i : Nat) (r : List AV), mapO (dI1 .i64) ((mp icell xs).set i r) = bif decide (i < xs.length) then (dI1 .i64 r).bind fun y => some (xs.set i y) else some xs) ∧ (∀ (xs : List Bool) (i : Nat) (r : List AV), mapO dB1 ((mp bcell xs).set i r) = bif decide (i < xs.length) then (dB1 r).bind fun y => some (xs.set i y) else some xs) ∧ (∀ (xs : List Str) (i : Nat) (r : List AV), mapO dS1 ((mp scell xs).set i r) = bif decide (i < xs.length) then (dS1 r).bind fun y => some (xs.set i y) else some xs) := ⟨mapO_set fun x => by simp [dI1, icell, dI], mapO_set fun x => rfl, mapO_set fun x => rfl⟩
attribute [go_sem] mapO_set1
theorem mapO_repl {α β : Type} {f : β → Option α} {z : β} : ∀ n : Nat, mapO f (List.replicate n z) = bif n == 0 then some [] else (f z).bind fun y => some (List.replicate n y)
  | 0 => rfl
  | n + 1 => by
    simp only [List.replicate_succ, mapO, mapO_repl n]
    cases f z with
    | none => rfl
    | some y => cases n <;> rfl
attribute [go_sem] mapO_repl
theorem lst_of {β : Type} {t : Bool} {z k : Nat} {r rows' : List (List AV)} {o : Option β} {x : β} (hok : o = some x → SubR r rows') (h : (bif szOK z k r then o else none) = some x) : Sub (.lst t z r) (.lst false k rows') := by
  cases hs : szOK z k r with
  | false => simp [hs] at h
  | true => rw [hs] at h; exact sub_lst_sz hs (hok h)

structure Token where
  kind : Int
  text : Str
  at_ : Int
def Token.cells (x : Token) : List AV := [.int .i64 x.kind, .str (sb x.text), .int .i64 x.at_]
theorem Token.cells_cat (x : Token) : x.cells = [.int .i64 x.kind, .str (sb x.text), .int .i64 x.at_] := rfl
theorem Token.cells_eq (x : Token) : x.cells = [.int .i64 x.kind, .str (sb x.text), .int .i64 x.at_] := rfl
attribute [irreducible] Token.cells
theorem Token.length (x : Token) : x.cells.length = 3 := by rw [Token.cells_eq]; rfl
theorem Token.scalar (x : Token) : x.cells.all AV.scalar = true := by rw [Token.cells_eq]; rfl
theorem Token.nb (n : Nat) (x : Token) : nbL n x.cells := by
  rw [Token.cells_cat]
  exact ⟨trivial, trivial, trivial, trivial⟩
def Token.of (H : List AObj) : List AV → Option Token
  | [c0, c1, c2] => (dI .i64 c0).bind fun x0 => (dS c1).bind fun x1 => (dI .i64 c2).bind fun x2 => some (.mk x0 x1 x2)
  | _ => none
theorem Token.of_lit {H : List AObj} {c0 c1 c2 : AV} : Token.of H [c0, c1, c2] = (dI .i64 c0).bind fun x0 => (dS c1).bind fun x1 => (dI .i64 c2).bind fun x2 => some (.mk x0 x1 x2) := rfl
theorem Token.of_lit_cells (H : List AObj) (x : Token) : Token.of H [.int .i64 x.kind, .str (sb x.text), .int .i64 x.at_] = some x := by
  simp only [Token.of_lit, dI_int, dB_bool, dS_sb, bind_some', szOK, beq_self_eq_true, Bool.true_or, cond_true, dL]
  try (cases x; rfl)
theorem Token.of_cells (H : List AObj) (x : Token) : Token.of H x.cells = some x := by rw [Token.cells_eq]; exact Token.of_lit_cells H x
theorem Token.of_ok {H : List AObj} {n : Nat} {cs : List AV} {x : Token} (h : Token.of H cs = some x) : CoL1 H n cs x.cells := by
  unfold Token.of at h
  split at h
  · simp only [Option.bind_eq_some_iff, Option.some.injEq] at h
    obtain ⟨x0, h0, x1, h1, x2, h2, rfl⟩ := h
    rw [Token.cells_cat]
    exact (CoL1.cons (dI_ok h0) (CoL1.cons (dS_ok h1) (CoL1.cons (dI_ok h2) CoL1.nil)))
  · cases h
def Token.cel : Cel Token := ⟨Token.cells, Token.of, fun _ _ _ _ h => Token.of_ok h, Token.nb⟩
def Token.row : Row Token := ⟨Token.cells, Token.of [], 3, fun _ _ h => (Token.of_ok (n := 0) h).toSub, Token.nb⟩
theorem Token.mapO_cells (xs : List Token) : mapO (Token.of []) (mp Token.cells xs) = some xs := mapO_mp (Token.of_cells []) xs
theorem Token.mapO_set (xs : List Token) (i : Nat) (r : List AV) : mapO (Token.of []) ((mp Token.cells xs).set i r) = bif decide (i < xs.length) then (Token.of [] r).bind fun y => some (xs.set i y) else some xs := Go.Abs.mapO_set (Token.of_cells []) xs i r
attribute [go_sem low] Token.mapO_set
theorem Token.row_f : Token.row.enc = Token.cells ∧ Token.row.dec = Token.of [] ∧ Token.row.sz = 3 ∧ Token.cel.enc = Token.cells ∧ Token.cel.dec = Token.of := ⟨rfl, rfl, rfl, rfl, rfl⟩
theorem Token.eta (x : Token) : Token.mk x.kind x.text x.at_ = x := by cases x; rfl
attribute [go_sem] Token.of_lit Token.of_cells Token.mapO_cells Token.row_f Token.eta
theorem Token.prj : (∀ (y0 : Int) (y1 : Str) (y2 : Int), (Token.mk y0 y1 y2).kind = y0) ∧ (∀ (y0 : Int) (y1 : Str) (y2 : Int), (Token.mk y0 y1 y2).text = y1) ∧ (∀ (y0 : Int) (y1 : Str) (y2 : Int), (Token.mk y0 y1 y2).at_ = y2) := ⟨fun _ _ _ => rfl, fun _ _ _ => rfl, fun _ _ _ => rfl⟩
attribute [go_sem] Token.prj
theorem Token.nbs : (∀ (n : Nat) (x : Token), Go.Abs.nbL n x.cells = True) ∧ ∀ (n : Nat) (xs : List Token), Go.Abs.nbR n (mp Token.cells xs) = True := ⟨fun n x => eq_true (Token.nb n x), fun n xs => eq_true (nbR_map (Token.nb n) xs)⟩
theorem Token.rens : (∀ (ρ : Nat → Nat) (x : Token), renL ρ x.cells = x.cells) ∧ ∀ (ρ : Nat → Nat) (xs : List Token), renR ρ (mp Token.cells xs) = mp Token.cells xs := ⟨fun ρ x => renL_of_nb ρ _ (Token.nb 0 x), fun ρ xs => renR_of_nb ρ _ (nbR_map (Token.nb 0) xs)⟩
theorem Token.vw (H : List AObj) (x : Token) : vwL H x.cells = some (x.cells, []) := vwL_of_nb H _ (Token.nb 0 x)
attribute [go_sem] Token.vw
theorem Token.frz (low : Nat) (H : List AObj) (x : Token) : frzL low H x.cells = x.cells := frzL_of_nb low H _ (Token.nb 0 x)
theorem Token.rpv (l : Nat) (ds : List AV) (x : Token) : x.cells.map (rpV l ds) = x.cells := rpVL_of_nb _ (Token.nb 0 x)
attribute [go_sem] Token.rpv
theorem Token.tk : (∀ x : Token, List.take 3 x.cells = x.cells) ∧ ∀ x : Token, List.drop 3 x.cells = [] := ⟨fun x => by rw [Token.cells_eq]; rfl, fun x => by rw [Token.cells_eq]; rfl⟩
attribute [go_sem] Token.tk
theorem Token.reads :
    (∀ x : Token, cellsOf (.agg x.cells) = some x.cells) ∧
    (∀ x : Token, loadAV true 3 x.cells = some (.agg x.cells)) ∧
    (∀ x : Token, loadAV false 1 x.cells = some (.int .i64 x.kind)) ∧
    (∀ x : Token, loadAV false 1 (x.cells.drop 1) = some (.str (sb x.text))) ∧
    (∀ x : Token, loadAV false 1 (x.cells.drop 2) = some (.int .i64 x.at_)) :=
  ⟨fun x => by simp only [cellsOf, Token.scalar, if_true],
   fun x => loadAV_all (Token.length x),
   fun x => by rw [Token.cells_eq]; rfl,
   fun x => by rw [Token.cells_eq]; rfl,
   fun x => by rw [Token.cells_eq]; rfl⟩
theorem Token.splc (x : Token) (o : Nat) (xs : List AV) : splice x.cells o xs = splice [.int .i64 x.kind, .str (sb x.text), .int .i64 x.at_] o xs := by rw [Token.cells_eq]
theorem Token.splc2 (x : Token) (o : Nat) (c : AV) (cs : List AV) : splice (c :: cs) o x.cells = splice (c :: cs) o [.int .i64 x.kind, .str (sb x.text), .int .i64 x.at_] := by rw [Token.cells_eq]
theorem Token.app (x : Token) (l : List AV) : x.cells ++ l = (.int .i64 x.kind : AV) :: (.str (sb x.text) : AV) :: (.int .i64 x.at_ : AV) :: l := by rw [Token.cells_eq]; rfl
theorem Token.cns (x : Token) (c : AV) : c :: x.cells = [c, .int .i64 x.kind, .str (sb x.text), .int .i64 x.at_] := by rw [Token.cells_eq]
attribute [go_sem] Token.app Token.cns
attribute [go_sem] Token.nbs Token.rens Token.frz Token.reads Token.length Token.scalar
attribute [go_sem low] Token.splc Token.splc2
end Go.Abs
namespace Go.Abs
open Go.Proofs
theorem tf0 :
    tinfo Tryd.prog 3 = some (false, 1) ∧
    telem Tryd.prog 3 = none ∧
    tzero Tryd.prog 3 = some [.int .i64 0] ∧
    tstr Tryd.prog 3 = false ∧
    tint Tryd.prog 3 = some .i64 ∧
    tnoint Tryd.prog 3 = false ∧
    tconc Tryd.prog 3 = true ∧
    tinfo Tryd.prog 4 = some (false, 1) ∧
    telem Tryd.prog 4 = none ∧
    tzero Tryd.prog 4 = some [.bool false] ∧
    tstr Tryd.prog 4 = false ∧
    tnoint Tryd.prog 4 = true ∧
    tconc Tryd.prog 4 = true ∧
    tinfo Tryd.prog 5 = some (false, 1) ∧
    telem Tryd.prog 5 = none ∧
    tzero Tryd.prog 5 = some [.int .u8 0] ∧
    tstr Tryd.prog 5 = false ∧
    tint Tryd.prog 5 = some .u8 ∧
    tnoint Tryd.prog 5 = false ∧
    tconc Tryd.prog 5 = true ∧
    tinfo Tryd.prog 9 = some (false, 1) ∧
    telem Tryd.prog 9 = none ∧
    tzero Tryd.prog 9 = some [.str ByteArray.empty] ∧
    tstr Tryd.prog 9 = true ∧
    tint Tryd.prog 9 = none ∧
    tnoint Tryd.prog 9 = true ∧
    tconc Tryd.prog 9 = true ∧
    tinfo Tryd.prog 21 = some (false, 1) ∧
    telem Tryd.prog 21 = none ∧
    tzero Tryd.prog 21 = some [.int .i32 0] ∧
    tstr Tryd.prog 21 = false ∧
    tint Tryd.prog 21 = some .i32 ∧
    tnoint Tryd.prog 21 = false ∧
    tconc Tryd.prog 21 = true ∧
    tinfo Tryd.prog 22 = some (false, 1) ∧
    telem Tryd.prog 22 = some (9, 1, 16) ∧
    tzero Tryd.prog 22 = some [.lst true 0 []] ∧
    tstr Tryd.prog 22 = false ∧
    tnoint Tryd.prog 22 = true ∧
    tconc Tryd.prog 22 = true ∧
    tinfo Tryd.prog 25 = some (false, 1) ∧
    telem Tryd.prog 25 = some (35, 3, 32) ∧
    tzero Tryd.prog 25 = some [.lst true 0 []] ∧
    tstr Tryd.prog 25 = false ∧
    tnoint Tryd.prog 25 = true ∧
    tconc Tryd.prog 25 = true ∧
    tinfo Tryd.prog 35 = some (true, 3) ∧
    tbuilt Tryd.prog 35 = true ∧
    foff Tryd.prog 35 0 = some (0, 3) ∧
    bplace Tryd.prog 35 0 = some (0, 1) ∧
    foff Tryd.prog 35 1 = some (1, 9) ∧
    bplace Tryd.prog 35 1 = some (1, 1) ∧
    foff Tryd.prog 35 2 = some (2, 3) ∧
    bplace Tryd.prog 35 2 = some (2, 1) ∧
    telem Tryd.prog 35 = none ∧
    tzero Tryd.prog 35 = some [.int .i64 0, .str ByteArray.empty, .int .i64 0] ∧
    tstr Tryd.prog 35 = false ∧
    tnoint Tryd.prog 35 = true ∧
    tconc Tryd.prog 35 = true ∧
    tinfo Tryd.prog 40 = some (false, 1) ∧
    telem Tryd.prog 40 = none ∧
    tzero Tryd.prog 40 = some [.raw (.pointer none)] ∧
    tstr Tryd.prog 40 = false ∧
    tnoint Tryd.prog 40 = true ∧
    tconc Tryd.prog 40 = true ∧
    tinfo Tryd.prog 41 = some (false, 1) ∧
    telem Tryd.prog 41 = none ∧
    tzero Tryd.prog 41 = some [.raw (.map none)] ∧
    tmapz Tryd.prog 41 = some (.bool false) ∧
    tstr Tryd.prog 41 = false ∧
    tnoint Tryd.prog 41 = true ∧
    tconc Tryd.prog 41 = true ∧
    tinfo Tryd.prog 44 = some (true, 5) ∧
    tbuilt Tryd.prog 44 = true ∧
    foff Tryd.prog 44 0 = some (0, 9) ∧
    bplace Tryd.prog 44 0 = some (0, 1) ∧
    foff Tryd.prog 44 1 = some (1, 3) ∧
    bplace Tryd.prog 44 1 = some (1, 1) ∧
    foff Tryd.prog 44 2 = some (2, 41) ∧
    bplace Tryd.prog 44 2 = some (2, 1) ∧
    foff Tryd.prog 44 3 = some (3, 41) ∧
    bplace Tryd.prog 44 3 = some (3, 1) ∧
    foff Tryd.prog 44 4 = some (4, 41) ∧
    bplace Tryd.prog 44 4 = some (4, 1) ∧
    telem Tryd.prog 44 = none ∧
    tzero Tryd.prog 44 = some [.str ByteArray.empty, .int .i64 0, .raw (.map none), .raw (.map none), .raw (.map none)] ∧
    tstr Tryd.prog 44 = false ∧
    tnoint Tryd.prog 44 = true ∧
    tconc Tryd.prog 44 = true ∧
    tinfo Tryd.prog 46 = some (false, 1) ∧
    telem Tryd.prog 46 = some (22, 1, 24) ∧
    tzero Tryd.prog 46 = some [.lst true 0 []] ∧
    tstr Tryd.prog 46 = false ∧
    tnoint Tryd.prog 46 = true ∧
    tconc Tryd.prog 46 = true ∧
    tinfo Tryd.prog 47 = some (false, 1) ∧
    telem Tryd.prog 47 = none ∧
    tzero Tryd.prog 47 = some [.raw .nilFunc] ∧
    tstr Tryd.prog 47 = false ∧
    tnoint Tryd.prog 47 = true ∧
    tconc Tryd.prog 47 = true ∧
    tinfo Tryd.prog 48 = some (true, 4) ∧
    tarr Tryd.prog 48 = some (4, 1) ∧
    tbuilt Tryd.prog 48 = true ∧
    bplace Tryd.prog 48 0 = some (0, 1) ∧
    bplace Tryd.prog 48 1 = some (1, 1) ∧
    bplace Tryd.prog 48 2 = some (2, 1) ∧
    bplace Tryd.prog 48 3 = some (3, 1) ∧
    telem Tryd.prog 48 = none ∧
    tzero Tryd.prog 48 = some [.raw .nilFunc, .raw .nilFunc, .raw .nilFunc, .raw .nilFunc] ∧
    tstr Tryd.prog 48 = false ∧
    tnoint Tryd.prog 48 = true ∧
    tconc Tryd.prog 48 = true ∧
    tinfo Tryd.prog 65 = some (true, 256) ∧
    tarr Tryd.prog 65 = some (256, 1) ∧
    tbuilt Tryd.prog 65 = true ∧
    telem Tryd.prog 65 = none ∧
    tstr Tryd.prog 65 = false ∧
    tnoint Tryd.prog 65 = true ∧
    tconc Tryd.prog 65 = true :=
  ⟨by kernel_rfl, by kernel_rfl, by kernel_rfl, by kernel_rfl, by kernel_rfl, by kernel_rfl, by kernel_rfl, by kernel_rfl, by kernel_rfl, by kernel_rfl, by kernel_rfl, by kernel_rfl, by kernel_rfl, by kernel_rfl, by kernel_rfl, by kernel_rfl, by kernel_rfl, by kernel_rfl, by kernel_rfl, by kernel_rfl, by kernel_rfl, by kernel_rfl, by kernel_rfl, by kernel_rfl, by kernel_rfl, by kernel_rfl, by kernel_rfl, by kernel_rfl, by kernel_rfl, by kernel_rfl, by kernel_rfl, by kernel_rfl, by kernel_rfl, by kernel_rfl, by kernel_rfl, by kernel_rfl, by kernel_rfl, by kernel_rfl, by kernel_rfl, by kernel_rfl, by kernel_rfl, by kernel_rfl, by kernel_rfl, by kernel_rfl, by kernel_rfl, by kernel_rfl, by kernel_rfl, by kernel_rfl, by kernel_rfl, by kernel_rfl, by kernel_rfl, by kernel_rfl, by kernel_rfl, by kernel_rfl, by kernel_rfl, by kernel_rfl, by kernel_rfl, by kernel_rfl, by kernel_rfl, by kernel_rfl, by kernel_rfl, by kernel_rfl, by kernel_rfl, by kernel_rfl, by kernel_rfl, by kernel_rfl, by kernel_rfl, by kernel_rfl, by kernel_rfl, by kernel_rfl, by kernel_rfl, by kernel_rfl, by kernel_rfl, by kernel_rfl, by kernel_rfl, by kernel_rfl, by kernel_rfl, by kernel_rfl, by kernel_rfl, by kernel_rfl, by kernel_rfl, by kernel_rfl, by kernel_rfl, by kernel_rfl, by kernel_rfl, by kernel_rfl, by kernel_rfl, by kernel_rfl, by kernel_rfl, by kernel_rfl, by kernel_rfl, by kernel_rfl, by kernel_rfl, by kernel_rfl, by kernel_rfl, by kernel_rfl, by kernel_rfl, by kernel_rfl, by kernel_rfl, by kernel_rfl, by kernel_rfl, by kernel_rfl, by kernel_rfl, by kernel_rfl, by kernel_rfl, by kernel_rfl, by kernel_rfl, by kernel_rfl, by kernel_rfl, by kernel_rfl, by kernel_rfl, by kernel_rfl, by kernel_rfl, by kernel_rfl, by kernel_rfl, by kernel_rfl, by kernel_rfl, by kernel_rfl, by kernel_rfl, by kernel_rfl⟩
theorem tf1 :
    tinfo Tryd.prog 68 = some (false, 1) ∧
    telem Tryd.prog 68 = none ∧
    tzero Tryd.prog 68 = some [.raw .nilFunc] ∧
    tstr Tryd.prog 68 = false ∧
    tnoint Tryd.prog 68 = true ∧
    tconc Tryd.prog 68 = true ∧
    tinfo Tryd.prog 73 = some (true, 256) ∧
    tarr Tryd.prog 73 = some (256, 1) ∧
    tbuilt Tryd.prog 73 = true ∧
    telem Tryd.prog 73 = none ∧
    tstr Tryd.prog 73 = false ∧
    tnoint Tryd.prog 73 = true ∧
    tconc Tryd.prog 73 = true ∧
    tinfo Tryd.prog 76 = some (false, 1) ∧
    telem Tryd.prog 76 = none ∧
    tzero Tryd.prog 76 = some [.int .u32 0] ∧
    tstr Tryd.prog 76 = false ∧
    tint Tryd.prog 76 = some .u32 ∧
    tnoint Tryd.prog 76 = false ∧
    tconc Tryd.prog 76 = true ∧
    tinfo Tryd.prog 78 = some (false, 1) ∧
    telem Tryd.prog 78 = none ∧
    tzero Tryd.prog 78 = some [.raw (.pointer none)] ∧
    tstr Tryd.prog 78 = false ∧
    tnoint Tryd.prog 78 = true ∧
    tconc Tryd.prog 78 = true ∧
    tinfo Tryd.prog 79 = some (false, 1) ∧
    telem Tryd.prog 79 = some (81, 2, 16) ∧
    tzero Tryd.prog 79 = some [.lst true 0 []] ∧
    tstr Tryd.prog 79 = false ∧
    tnoint Tryd.prog 79 = true ∧
    tconc Tryd.prog 79 = true ∧
    tinfo Tryd.prog 81 = some (true, 2) ∧
    tbuilt Tryd.prog 81 = true ∧
    foff Tryd.prog 81 0 = some (0, 3) ∧
    bplace Tryd.prog 81 0 = some (0, 1) ∧
    foff Tryd.prog 81 1 = some (1, 3) ∧
    bplace Tryd.prog 81 1 = some (1, 1) ∧
    telem Tryd.prog 81 = none ∧
    tzero Tryd.prog 81 = some [.int .i64 0, .int .i64 0] ∧
    tstr Tryd.prog 81 = false ∧
    tnoint Tryd.prog 81 = true ∧
    tconc Tryd.prog 81 = true ∧
    tinfo Tryd.prog 84 = some (false, 1) ∧
    telem Tryd.prog 84 = none ∧
    tzero Tryd.prog 84 = some [.int .u64 0] ∧
    tstr Tryd.prog 84 = false ∧
    tint Tryd.prog 84 = some .u64 ∧
    tnoint Tryd.prog 84 = false ∧
    tconc Tryd.prog 84 = true ∧
    tinfo Tryd.prog 87 = some (true, 2) ∧
    tbuilt Tryd.prog 87 = true ∧
    foff Tryd.prog 87 0 = some (0, 5) ∧
    bplace Tryd.prog 87 0 = some (0, 1) ∧
    foff Tryd.prog 87 1 = some (1, 5) ∧
    bplace Tryd.prog 87 1 = some (1, 1) ∧
    telem Tryd.prog 87 = none ∧
    tzero Tryd.prog 87 = some [.int .u8 0, .int .u8 0] ∧
    tstr Tryd.prog 87 = false ∧
    tnoint Tryd.prog 87 = true ∧
    tconc Tryd.prog 87 = true ∧
    tinfo Tryd.prog 88 = some (true, 32) ∧
    tarr Tryd.prog 88 = some (16, 2) ∧
    tbuilt Tryd.prog 88 = true ∧
    bplace Tryd.prog 88 0 = some (0, 2) ∧
    bplace Tryd.prog 88 1 = some (2, 2) ∧
    bplace Tryd.prog 88 2 = some (4, 2) ∧
    bplace Tryd.prog 88 3 = some (6, 2) ∧
    bplace Tryd.prog 88 4 = some (8, 2) ∧
    bplace Tryd.prog 88 5 = some (10, 2) ∧
    bplace Tryd.prog 88 6 = some (12, 2) ∧
    bplace Tryd.prog 88 7 = some (14, 2) ∧
    bplace Tryd.prog 88 8 = some (16, 2) ∧
    bplace Tryd.prog 88 9 = some (18, 2) ∧
    bplace Tryd.prog 88 10 = some (20, 2) ∧
    bplace Tryd.prog 88 11 = some (22, 2) ∧
    bplace Tryd.prog 88 12 = some (24, 2) ∧
    bplace Tryd.prog 88 13 = some (26, 2) ∧
    bplace Tryd.prog 88 14 = some (28, 2) ∧
    bplace Tryd.prog 88 15 = some (30, 2) ∧
    telem Tryd.prog 88 = none ∧
    tzero Tryd.prog 88 = some [.int .u8 0, .int .u8 0, .int .u8 0, .int .u8 0, .int .u8 0, .int .u8 0, .int .u8 0, .int .u8 0, .int .u8 0, .int .u8 0, .int .u8 0, .int .u8 0, .int .u8 0, .int .u8 0, .int .u8 0, .int .u8 0, .int .u8 0, .int .u8 0, .int .u8 0, .int .u8 0, .int .u8 0, .int .u8 0, .int .u8 0, .int .u8 0, .int .u8 0, .int .u8 0, .int .u8 0, .int .u8 0, .int .u8 0, .int .u8 0, .int .u8 0, .int .u8 0] ∧
    tstr Tryd.prog 88 = false ∧
    tnoint Tryd.prog 88 = true ∧
    tconc Tryd.prog 88 = true ∧
    tinfo Tryd.prog 89 = some (false, 1) ∧
    telem Tryd.prog 89 = some (95, 3, 6) ∧
    tzero Tryd.prog 89 = some [.lst true 0 []] ∧
    tstr Tryd.prog 89 = false ∧
    tnoint Tryd.prog 89 = true ∧
    tconc Tryd.prog 89 = true ∧
    tinfo Tryd.prog 90 = some (false, 1) ∧
    telem Tryd.prog 90 = some (98, 3, 12) ∧
    tzero Tryd.prog 90 = some [.lst true 0 []] ∧
    tstr Tryd.prog 90 = false ∧
    tnoint Tryd.prog 90 = true ∧
    tconc Tryd.prog 90 = true ∧
    tinfo Tryd.prog 92 = some (true, 3) ∧
    tbuilt Tryd.prog 92 = true ∧
    foff Tryd.prog 92 0 = some (0, 89) ∧
    bplace Tryd.prog 92 0 = some (0, 1) ∧
    foff Tryd.prog 92 1 = some (1, 90) ∧
    bplace Tryd.prog 92 1 = some (1, 1) ∧
    foff Tryd.prog 92 2 = some (2, 3) ∧
    bplace Tryd.prog 92 2 = some (2, 1) ∧
    telem Tryd.prog 92 = none ∧
    tzero Tryd.prog 92 = some [.lst true 0 [], .lst true 0 [], .int .i64 0] ∧
    tstr Tryd.prog 92 = false ∧
    tnoint Tryd.prog 92 = true ∧
    tconc Tryd.prog 92 = true ∧
    tinfo Tryd.prog 93 = some (false, 1) ∧
    telem Tryd.prog 93 = none ∧
    tzero Tryd.prog 93 = some [.int .u16 0] ∧
    tstr Tryd.prog 93 = false ∧
    tint Tryd.prog 93 = some .u16 ∧
    tnoint Tryd.prog 93 = false ∧
    tconc Tryd.prog 93 = true ∧
    tinfo Tryd.prog 95 = some (true, 3) ∧
    tbuilt Tryd.prog 95 = true ∧
    foff Tryd.prog 95 0 = some (0, 93) :=
  ⟨by kernel_rfl, by kernel_rfl, by kernel_rfl, by kernel_rfl, by kernel_rfl, by kernel_rfl, by kernel_rfl, by kernel_rfl, by kernel_rfl, by kernel_rfl, by kernel_rfl, by kernel_rfl, by kernel_rfl, by kernel_rfl, by kernel_rfl, by kernel_rfl, by kernel_rfl, by kernel_rfl, by kernel_rfl, by kernel_rfl, by kernel_rfl, by kernel_rfl, by kernel_rfl, by kernel_rfl, by kernel_rfl, by kernel_rfl, by kernel_rfl, by kernel_rfl, by kernel_rfl, by kernel_rfl, by kernel_rfl, by kernel_rfl, by kernel_rfl, by kernel_rfl, by kernel_rfl, by kernel_rfl, by kernel_rfl, by kernel_rfl, by kernel_rfl, by kernel_rfl, by kernel_rfl, by kernel_rfl, by kernel_rfl, by kernel_rfl, by kernel_rfl, by kernel_rfl, by kernel_rfl, by kernel_rfl, by kernel_rfl, by kernel_rfl, by kernel_rfl, by kernel_rfl, by kernel_rfl, by kernel_rfl, by kernel_rfl, by kernel_rfl, by kernel_rfl, by kernel_rfl, by kernel_rfl, by kernel_rfl, by kernel_rfl, by kernel_rfl, by kernel_rfl, by kernel_rfl, by kernel_rfl, by kernel_rfl, by kernel_rfl, by kernel_rfl, by kernel_rfl, by kernel_rfl, by kernel_rfl, by kernel_rfl, by kernel_rfl, by kernel_rfl, by kernel_rfl, by kernel_rfl, by kernel_rfl, by kernel_rfl, by kernel_rfl, by kernel_rfl, by kernel_rfl, by kernel_rfl, by kernel_rfl, by kernel_rfl, by kernel_rfl, by kernel_rfl, by kernel_rfl, by kernel_rfl, by kernel_rfl, by kernel_rfl, by kernel_rfl, by kernel_rfl, by kernel_rfl, by kernel_rfl, by kernel_rfl, by kernel_rfl, by kernel_rfl, by kernel_rfl, by kernel_rfl, by kernel_rfl, by kernel_rfl, by kernel_rfl, by kernel_rfl, by kernel_rfl, by kernel_rfl, by kernel_rfl, by kernel_rfl, by kernel_rfl, by kernel_rfl, by kernel_rfl, by kernel_rfl, by kernel_rfl, by kernel_rfl, by kernel_rfl, by kernel_rfl, by kernel_rfl, by kernel_rfl, by kernel_rfl, by kernel_rfl, by kernel_rfl⟩
theorem tf2 :
    bplace Tryd.prog 95 0 = some (0, 1) ∧
    foff Tryd.prog 95 1 = some (1, 93) ∧
    bplace Tryd.prog 95 1 = some (1, 1) ∧
    foff Tryd.prog 95 2 = some (2, 93) ∧
    bplace Tryd.prog 95 2 = some (2, 1) ∧
    telem Tryd.prog 95 = none ∧
    tzero Tryd.prog 95 = some [.int .u16 0, .int .u16 0, .int .u16 0] ∧
    tstr Tryd.prog 95 = false ∧
    tnoint Tryd.prog 95 = true ∧
    tconc Tryd.prog 95 = true ∧
    tinfo Tryd.prog 98 = some (true, 3) ∧
    tbuilt Tryd.prog 98 = true ∧
    foff Tryd.prog 98 0 = some (0, 76) ∧
    bplace Tryd.prog 98 0 = some (0, 1) ∧
    foff Tryd.prog 98 1 = some (1, 76) ∧
    bplace Tryd.prog 98 1 = some (1, 1) ∧
    foff Tryd.prog 98 2 = some (2, 76) ∧
    bplace Tryd.prog 98 2 = some (2, 1) ∧
    telem Tryd.prog 98 = none ∧
    tzero Tryd.prog 98 = some [.int .u32 0, .int .u32 0, .int .u32 0] ∧
    tstr Tryd.prog 98 = false ∧
    tnoint Tryd.prog 98 = true ∧
    tconc Tryd.prog 98 = true ∧
    tbl Tryd.prog 4 = true :=
  ⟨by kernel_rfl, by kernel_rfl, by kernel_rfl, by kernel_rfl, by kernel_rfl, by kernel_rfl, by kernel_rfl, by kernel_rfl, by kernel_rfl, by kernel_rfl, by kernel_rfl, by kernel_rfl, by kernel_rfl, by kernel_rfl, by kernel_rfl, by kernel_rfl, by kernel_rfl, by kernel_rfl, by kernel_rfl, by kernel_rfl, by kernel_rfl, by kernel_rfl, by kernel_rfl, by kernel_rfl⟩
theorem mixed : Tryd.prog.follows .mixedOrders = true := by kernel_rfl
attribute [go_sem] tf0 tf1 tf2
end Go.Abs
namespace Go.Abs
open Go.Proofs
set_option maxRecDepth 100000
theorem Token.aggEq (a b : Token) : AggEq Tryd.prog 35 a.cells b.cells = True := by
  refine eq_true (aggEq_flat (by kernel_rfl) (by kernel_rfl) (by kernel_rfl) ?_)
  rw [Token.cells_eq, Token.cells_eq]
  exact ⟨⟨by decide, by kernel_rfl, by kernel_rfl, rfl, .i64, by kernel_rfl⟩, ⟨by decide, by kernel_rfl, by kernel_rfl, by dsimp only; kernel_rfl⟩, ⟨by decide, by kernel_rfl, by kernel_rfl, rfl, .i64, by kernel_rfl⟩, trivial⟩
theorem Token.eqB (a b : Token) : Go.Abs.eqB a.cells b.cells = ((a.kind == b.kind) && ((a.text == b.text) && ((a.at_ == b.at_)))) := by
  rw [Token.cells_eq, Token.cells_eq]
  simp only [Go.Abs.eqB, eq1, sb_toList, Bool.and_true]
attribute [go_sem] Token.aggEq Token.eqB
theorem Token.aggEqL (a : Token) (y0 : Int) (y1 : Str) (y2 : Int) : AggEq Tryd.prog 35 a.cells [.int .i64 y0, .str (sb y1), .int .i64 y2] = True := by
  have := Token.aggEq a (Token.mk y0 y1 y2)
  rwa [Token.cells_eq (Token.mk y0 y1 y2)] at this
theorem Token.eqBL (a : Token) (y0 : Int) (y1 : Str) (y2 : Int) : Go.Abs.eqB a.cells [.int .i64 y0, .str (sb y1), .int .i64 y2] = ((a.kind == y0) && ((a.text == y1) && ((a.at_ == y2)))) := by
  have := Token.eqB a (Token.mk y0 y1 y2)
  rwa [Token.cells_eq (Token.mk y0 y1 y2)] at this
attribute [go_sem] Token.aggEqL Token.eqBL
end Go.Abs
