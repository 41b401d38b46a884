/-
  DERIVED. GIVEN WITH THE SEED: THE CARDS: each row of YtpdbjkgnmjnebaaGreatDoorRows.lean that lists a variable, with what it lists TIED to the program's text (the seventh form; the later family's looks); each row that meets fmt, with fmt's text TOLD by the authors' own Lean function (tested against real Go, not proved from fmt's source: count such statements apart). THE CARD IS WHAT COUNTS. Prove the row's statement (the work); the ties are given (YtpdbjkgnmjnebaaGreatDoorTie.lean); close each card by the builder's one call (the guide's Derived/Test/ToyasCard.lean, 'card_holds'). Laid BY PROGRAM, IN A SANDBOX (cutbox-door.mjs). By AI agents, Wed Nov 11 2026. No macro, syntax, notation, axiom, sorry.
-/
import Derived.Test.YtpdbjkgnmjnebaaGreatDoorRows
import GoSem.ClaimSeven
namespace Go.Proofs.YtpdbjkgnmjnebaaGreatDoor
namespace Rows

/-- THE TIED CARD OF 'euclidtop.TopNotationsApart'. -/
def topNotationsApartCard : Claim7 := { stood := { row := topNotationsApartRow, standIns := [], harness := (true, "c848c3a2cc2acd42f9d4693343546b0caf934a4c89d2d72530eea0face694716"), looks := true }, kinds := [], alts := [], laidByText := true, laidKinds := [.data, .data, .data, .data, .sentinel, .sentinel, .listed, .data, .pinned], laidTests := true, laidLooks := .later }
def TopNotationsApartCardSaid : Prop := Claim7.holds Tryz.pinned (.plain (OpenSpec.ofChange topNotationsApartSpec)) topNotationsApartCard

/-- THE TIED CARD OF 'euclidlaw34.PrinterTrees'. -/
def printerTreesCard : Claim7 := { stood := { row := printerTreesRow, standIns := [], harness := (true, "c848c3a2cc2acd42f9d4693343546b0caf934a4c89d2d72530eea0face694716"), looks := true }, kinds := [], alts := [], laidByText := true, laidKinds := [.data, .data, .data, .data, .sentinel, .sentinel, .listed, .data, .pinned], laidTests := true, laidLooks := .later }
def PrinterTreesCardSaid : Prop := Claim7.holds Tryz.pinned (.plain (OpenSpec.ofChange printerTreesSpec)) printerTreesCard

/-- THE TIED CARD OF 'euclidlaw34.PrinterReads'. -/
def printerReadsCard : Claim7 := { stood := { row := printerReadsRow, standIns := [], harness := (true, "c848c3a2cc2acd42f9d4693343546b0caf934a4c89d2d72530eea0face694716"), looks := true }, kinds := [], alts := [], laidByText := true, laidKinds := [.data, .data, .data, .data, .sentinel, .sentinel, .listed, .data, .pinned], laidTests := true, laidLooks := .later }
def PrinterReadsCardSaid : Prop := Claim7.holds Tryz.pinned (.plain (OpenSpec.ofChange printerReadsSpec)) printerReadsCard

/-- THE TIED CARD OF 'euclidlaw34.PrinterForgets'. -/
def printerForgetsCard : Claim7 := { stood := { row := printerForgetsRow, standIns := [], harness := (true, "c848c3a2cc2acd42f9d4693343546b0caf934a4c89d2d72530eea0face694716"), looks := true }, kinds := [], alts := [], laidByText := true, laidKinds := [.data, .data, .data, .data, .sentinel, .sentinel, .listed, .data, .pinned], laidTests := true, laidLooks := .later }
def PrinterForgetsCardSaid : Prop := Claim7.holds Tryz.pinned (.plain (OpenSpec.ofChange printerForgetsSpec)) printerForgetsCard

/-- THE SECOND FORM's CARD OF 'euclidtop.TopNotationsApart'. -/
def topNotationsApartUptoCard : Claim7 := { stood := { row := topNotationsApartUptoRow, standIns := [], harness := (true, "c848c3a2cc2acd42f9d4693343546b0caf934a4c89d2d72530eea0face694716"), looks := true }, kinds := [], alts := [], laidByText := true, laidKinds := [.data, .data, .data, .data, .sentinel, .sentinel, .listed, .data, .pinned], laidTests := true, laidLooks := .later }
def TopNotationsApartUptoCardSaid : Prop := Claim7.holds Tryz.pinned (.plain (OpenSpec.upto topNotationsApartSpec)) topNotationsApartUptoCard

/-- THE SECOND FORM's CARD OF 'euclidlaw34.PrinterTrees'. -/
def printerTreesUptoCard : Claim7 := { stood := { row := printerTreesUptoRow, standIns := [], harness := (true, "c848c3a2cc2acd42f9d4693343546b0caf934a4c89d2d72530eea0face694716"), looks := true }, kinds := [], alts := [], laidByText := true, laidKinds := [.data, .data, .data, .data, .sentinel, .sentinel, .listed, .data, .pinned], laidTests := true, laidLooks := .later }
def PrinterTreesUptoCardSaid : Prop := Claim7.holds Tryz.pinned (.plain (OpenSpec.upto printerTreesSpec)) printerTreesUptoCard

/-- THE SECOND FORM's CARD OF 'euclidlaw34.PrinterReads'. -/
def printerReadsUptoCard : Claim7 := { stood := { row := printerReadsUptoRow, standIns := [], harness := (true, "c848c3a2cc2acd42f9d4693343546b0caf934a4c89d2d72530eea0face694716"), looks := true }, kinds := [], alts := [], laidByText := true, laidKinds := [.data, .data, .data, .data, .sentinel, .sentinel, .listed, .data, .pinned], laidTests := true, laidLooks := .later }
def PrinterReadsUptoCardSaid : Prop := Claim7.holds Tryz.pinned (.plain (OpenSpec.upto printerReadsSpec)) printerReadsUptoCard

/-- THE SECOND FORM's CARD OF 'euclidlaw34.PrinterForgets'. -/
def printerForgetsUptoCard : Claim7 := { stood := { row := printerForgetsUptoRow, standIns := [], harness := (true, "c848c3a2cc2acd42f9d4693343546b0caf934a4c89d2d72530eea0face694716"), looks := true }, kinds := [], alts := [], laidByText := true, laidKinds := [.data, .data, .data, .data, .sentinel, .sentinel, .listed, .data, .pinned], laidTests := true, laidLooks := .later }
def PrinterForgetsUptoCardSaid : Prop := Claim7.holds Tryz.pinned (.plain (OpenSpec.upto printerForgetsSpec)) printerForgetsUptoCard
end Rows
end Go.Proofs.YtpdbjkgnmjnebaaGreatDoor
