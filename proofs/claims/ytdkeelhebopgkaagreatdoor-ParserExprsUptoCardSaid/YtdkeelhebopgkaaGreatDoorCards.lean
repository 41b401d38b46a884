/-
  DERIVED. GIVEN WITH THE SEED: THE CARDS: each row of YtdkeelhebopgkaaGreatDoorRows.lean that lists a variable, with what it lists TIED to the program's text (the seventh form; the later family's looks); each row that meets fmt, with fmt's text TOLD by the authors' own Lean function (tested against real Go, not proved from fmt's source: count such statements apart). THE CARD IS WHAT COUNTS. Prove the row's statement (the work); the ties are given (YtdkeelhebopgkaaGreatDoorTie.lean); close each card by the builder's one call (the guide's Derived/Test/ToyasCard.lean, 'card_holds'). Laid BY PROGRAM, IN A SANDBOX (cutbox-door.mjs). By AI agents, Wed Nov 11 2026. No macro, syntax, notation, axiom, sorry.
-/
import Derived.Test.YtdkeelhebopgkaaGreatDoorRows
import GoSem.ClaimSeven
namespace Go.Proofs.YtdkeelhebopgkaaGreatDoor
namespace Rows

/-- THE TIED CARD OF 'euclidlaw26.ParserExprs'. -/
def parserExprsCard : Claim7 := { stood := { row := parserExprsRow, standIns := [], harness := (true, "6d9a3926e64faed1e84291138798164177a0d9d6bc555fd30d2ec6bf4628edfd"), looks := true }, kinds := [], alts := [], laidByText := true, laidKinds := [.data, .data, .data, .data, .sentinel, .sentinel, .listed, .data, .pinned], laidTests := true, laidLooks := .later }
def ParserExprsCardSaid : Prop := Claim7.holds Tryz.pinned (.plain (OpenSpec.ofChange parserExprsSpec)) parserExprsCard

/-- THE TIED CARD OF 'euclidlaw26.ParserRanges'. -/
def parserRangesCard : Claim7 := { stood := { row := parserRangesRow, standIns := [], harness := (true, "6d9a3926e64faed1e84291138798164177a0d9d6bc555fd30d2ec6bf4628edfd"), looks := true }, kinds := [], alts := [], laidByText := true, laidKinds := [.data, .data, .data, .data, .sentinel, .sentinel, .listed, .data, .pinned], laidTests := true, laidLooks := .later }
def ParserRangesCardSaid : Prop := Claim7.holds Tryz.pinned (.plain (OpenSpec.ofChange parserRangesSpec)) parserRangesCard

/-- THE TIED CARD OF 'euclidlaw26.ParserSame'. -/
def parserSameCard : Claim7 := { stood := { row := parserSameRow, standIns := [], harness := (true, "6d9a3926e64faed1e84291138798164177a0d9d6bc555fd30d2ec6bf4628edfd"), looks := true }, kinds := [], alts := [], laidByText := true, laidKinds := [.data, .data, .data, .data, .sentinel, .sentinel, .listed, .data, .pinned], laidTests := true, laidLooks := .later }
def ParserSameCardSaid : Prop := Claim7.holds Tryz.pinned (.plain (OpenSpec.ofChange parserSameSpec)) parserSameCard

/-- THE TIED CARD OF 'euclidlaw26.ParserParens'. -/
def parserParensCard : Claim7 := { stood := { row := parserParensRow, standIns := [], harness := (true, "6d9a3926e64faed1e84291138798164177a0d9d6bc555fd30d2ec6bf4628edfd"), looks := true }, kinds := [], alts := [], laidByText := true, laidKinds := [.data, .data, .data, .data, .sentinel, .sentinel, .listed, .data, .pinned], laidTests := true, laidLooks := .later }
def ParserParensCardSaid : Prop := Claim7.holds Tryz.pinned (.plain (OpenSpec.ofChange parserParensSpec)) parserParensCard

/-- THE TIED CARD OF 'euclidlaw26.ParserSpaces'. -/
def parserSpacesCard : Claim7 := { stood := { row := parserSpacesRow, standIns := [], harness := (true, "6d9a3926e64faed1e84291138798164177a0d9d6bc555fd30d2ec6bf4628edfd"), looks := true }, kinds := [], alts := [], laidByText := true, laidKinds := [.data, .data, .data, .data, .sentinel, .sentinel, .listed, .data, .pinned], laidTests := true, laidLooks := .later }
def ParserSpacesCardSaid : Prop := Claim7.holds Tryz.pinned (.plain (OpenSpec.ofChange parserSpacesSpec)) parserSpacesCard

/-- THE TIED CARD OF 'euclidlaw26.ParserArrows'. -/
def parserArrowsCard : Claim7 := { stood := { row := parserArrowsRow, standIns := [], harness := (true, "6d9a3926e64faed1e84291138798164177a0d9d6bc555fd30d2ec6bf4628edfd"), looks := true }, kinds := [], alts := [], laidByText := true, laidKinds := [.data, .data, .data, .data, .sentinel, .sentinel, .listed, .data, .pinned], laidTests := true, laidLooks := .later }
def ParserArrowsCardSaid : Prop := Claim7.holds Tryz.pinned (.plain (OpenSpec.ofChange parserArrowsSpec)) parserArrowsCard

/-- THE TIED CARD OF 'euclidlaw26.ParserBack'. -/
def parserBackCard : Claim7 := { stood := { row := parserBackRow, standIns := [], harness := (true, "6d9a3926e64faed1e84291138798164177a0d9d6bc555fd30d2ec6bf4628edfd"), looks := true }, kinds := [], alts := [], laidByText := true, laidKinds := [.data, .data, .data, .data, .sentinel, .sentinel, .listed, .data, .pinned], laidTests := true, laidLooks := .later }
def ParserBackCardSaid : Prop := Claim7.holds Tryz.pinned (.plain (OpenSpec.ofChange parserBackSpec)) parserBackCard

/-- THE TIED CARD OF 'euclidlaw26.ParserCommands'. -/
def parserCommandsCard : Claim7 := { stood := { row := parserCommandsRow, standIns := [], harness := (true, "6d9a3926e64faed1e84291138798164177a0d9d6bc555fd30d2ec6bf4628edfd"), looks := true }, kinds := [], alts := [], laidByText := true, laidKinds := [.data, .data, .data, .data, .sentinel, .sentinel, .listed, .data, .pinned], laidTests := true, laidLooks := .later }
def ParserCommandsCardSaid : Prop := Claim7.holds Tryz.pinned (.plain (OpenSpec.ofChange parserCommandsSpec)) parserCommandsCard

/-- THE TIED CARD OF 'euclidlaw26.ParserExtents'. -/
def parserExtentsCard : Claim7 := { stood := { row := parserExtentsRow, standIns := [], harness := (true, "6d9a3926e64faed1e84291138798164177a0d9d6bc555fd30d2ec6bf4628edfd"), looks := true }, kinds := [], alts := [], laidByText := true, laidKinds := [.data, .data, .data, .data, .sentinel, .sentinel, .listed, .data, .pinned], laidTests := true, laidLooks := .later }
def ParserExtentsCardSaid : Prop := Claim7.holds Tryz.pinned (.plain (OpenSpec.ofChange parserExtentsSpec)) parserExtentsCard

/-- THE SECOND FORM's CARD OF 'euclidlaw26.ParserExprs'. -/
def parserExprsUptoCard : Claim7 := { stood := { row := parserExprsUptoRow, standIns := [], harness := (true, "6d9a3926e64faed1e84291138798164177a0d9d6bc555fd30d2ec6bf4628edfd"), looks := true }, kinds := [], alts := [], laidByText := true, laidKinds := [.data, .data, .data, .data, .sentinel, .sentinel, .listed, .data, .pinned], laidTests := true, laidLooks := .later }
def ParserExprsUptoCardSaid : Prop := Claim7.holds Tryz.pinned (.plain (OpenSpec.upto parserExprsSpec)) parserExprsUptoCard

/-- THE SECOND FORM's CARD OF 'euclidlaw26.ParserRanges'. -/
def parserRangesUptoCard : Claim7 := { stood := { row := parserRangesUptoRow, standIns := [], harness := (true, "6d9a3926e64faed1e84291138798164177a0d9d6bc555fd30d2ec6bf4628edfd"), looks := true }, kinds := [], alts := [], laidByText := true, laidKinds := [.data, .data, .data, .data, .sentinel, .sentinel, .listed, .data, .pinned], laidTests := true, laidLooks := .later }
def ParserRangesUptoCardSaid : Prop := Claim7.holds Tryz.pinned (.plain (OpenSpec.upto parserRangesSpec)) parserRangesUptoCard

/-- THE SECOND FORM's CARD OF 'euclidlaw26.ParserSame'. -/
def parserSameUptoCard : Claim7 := { stood := { row := parserSameUptoRow, standIns := [], harness := (true, "6d9a3926e64faed1e84291138798164177a0d9d6bc555fd30d2ec6bf4628edfd"), looks := true }, kinds := [], alts := [], laidByText := true, laidKinds := [.data, .data, .data, .data, .sentinel, .sentinel, .listed, .data, .pinned], laidTests := true, laidLooks := .later }
def ParserSameUptoCardSaid : Prop := Claim7.holds Tryz.pinned (.plain (OpenSpec.upto parserSameSpec)) parserSameUptoCard

/-- THE SECOND FORM's CARD OF 'euclidlaw26.ParserParens'. -/
def parserParensUptoCard : Claim7 := { stood := { row := parserParensUptoRow, standIns := [], harness := (true, "6d9a3926e64faed1e84291138798164177a0d9d6bc555fd30d2ec6bf4628edfd"), looks := true }, kinds := [], alts := [], laidByText := true, laidKinds := [.data, .data, .data, .data, .sentinel, .sentinel, .listed, .data, .pinned], laidTests := true, laidLooks := .later }
def ParserParensUptoCardSaid : Prop := Claim7.holds Tryz.pinned (.plain (OpenSpec.upto parserParensSpec)) parserParensUptoCard

/-- THE SECOND FORM's CARD OF 'euclidlaw26.ParserSpaces'. -/
def parserSpacesUptoCard : Claim7 := { stood := { row := parserSpacesUptoRow, standIns := [], harness := (true, "6d9a3926e64faed1e84291138798164177a0d9d6bc555fd30d2ec6bf4628edfd"), looks := true }, kinds := [], alts := [], laidByText := true, laidKinds := [.data, .data, .data, .data, .sentinel, .sentinel, .listed, .data, .pinned], laidTests := true, laidLooks := .later }
def ParserSpacesUptoCardSaid : Prop := Claim7.holds Tryz.pinned (.plain (OpenSpec.upto parserSpacesSpec)) parserSpacesUptoCard

/-- THE SECOND FORM's CARD OF 'euclidlaw26.ParserArrows'. -/
def parserArrowsUptoCard : Claim7 := { stood := { row := parserArrowsUptoRow, standIns := [], harness := (true, "6d9a3926e64faed1e84291138798164177a0d9d6bc555fd30d2ec6bf4628edfd"), looks := true }, kinds := [], alts := [], laidByText := true, laidKinds := [.data, .data, .data, .data, .sentinel, .sentinel, .listed, .data, .pinned], laidTests := true, laidLooks := .later }
def ParserArrowsUptoCardSaid : Prop := Claim7.holds Tryz.pinned (.plain (OpenSpec.upto parserArrowsSpec)) parserArrowsUptoCard

/-- THE SECOND FORM's CARD OF 'euclidlaw26.ParserBack'. -/
def parserBackUptoCard : Claim7 := { stood := { row := parserBackUptoRow, standIns := [], harness := (true, "6d9a3926e64faed1e84291138798164177a0d9d6bc555fd30d2ec6bf4628edfd"), looks := true }, kinds := [], alts := [], laidByText := true, laidKinds := [.data, .data, .data, .data, .sentinel, .sentinel, .listed, .data, .pinned], laidTests := true, laidLooks := .later }
def ParserBackUptoCardSaid : Prop := Claim7.holds Tryz.pinned (.plain (OpenSpec.upto parserBackSpec)) parserBackUptoCard

/-- THE SECOND FORM's CARD OF 'euclidlaw26.ParserCommands'. -/
def parserCommandsUptoCard : Claim7 := { stood := { row := parserCommandsUptoRow, standIns := [], harness := (true, "6d9a3926e64faed1e84291138798164177a0d9d6bc555fd30d2ec6bf4628edfd"), looks := true }, kinds := [], alts := [], laidByText := true, laidKinds := [.data, .data, .data, .data, .sentinel, .sentinel, .listed, .data, .pinned], laidTests := true, laidLooks := .later }
def ParserCommandsUptoCardSaid : Prop := Claim7.holds Tryz.pinned (.plain (OpenSpec.upto parserCommandsSpec)) parserCommandsUptoCard

/-- THE SECOND FORM's CARD OF 'euclidlaw26.ParserExtents'. -/
def parserExtentsUptoCard : Claim7 := { stood := { row := parserExtentsUptoRow, standIns := [], harness := (true, "6d9a3926e64faed1e84291138798164177a0d9d6bc555fd30d2ec6bf4628edfd"), looks := true }, kinds := [], alts := [], laidByText := true, laidKinds := [.data, .data, .data, .data, .sentinel, .sentinel, .listed, .data, .pinned], laidTests := true, laidLooks := .later }
def ParserExtentsUptoCardSaid : Prop := Claim7.holds Tryz.pinned (.plain (OpenSpec.upto parserExtentsSpec)) parserExtentsUptoCard
end Rows
end Go.Proofs.YtdkeelhebopgkaaGreatDoor
