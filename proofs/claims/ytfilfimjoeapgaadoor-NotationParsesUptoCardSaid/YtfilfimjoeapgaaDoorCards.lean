/-
  DERIVED. GIVEN WITH THE SEED: THE CARDS: each row of YtfilfimjoeapgaaDoorRows.lean that lists a variable, with what it lists TIED to the program's text (the seventh form; the later family's looks); each row that meets fmt, with fmt's text TOLD by the authors' own Lean function (tested against real Go, not proved from fmt's source: count such statements apart). THE CARD IS WHAT COUNTS. Prove the row's statement (the work); the ties are given (YtfilfimjoeapgaaDoorTie.lean); close each card by the builder's one call (the guide's Derived/Test/ToyasCard.lean, 'card_holds'). Laid BY PROGRAM, IN A SANDBOX (cutbox-door.mjs). By AI agents, Wed Nov 11 2026. No macro, syntax, notation, axiom, sorry.
-/
import Derived.Test.YtfilfimjoeapgaaDoorRows
import GoSem.ClaimSeven
namespace Go.Proofs.YtfilfimjoeapgaaDoor
namespace Rows

/-- THE TIED CARD OF 'euclidlaw25.NotationChecks'. -/
def notationChecksCard : Claim7 := { stood := { row := notationChecksRow, standIns := [], harness := (true, "16f7fde0b34caa63bc8db8e0ad5786296c75850d06a99f84aa6ac81837fe0f4f"), looks := true }, kinds := [], alts := [], laidByText := true, laidKinds := [.data, .listed, .data, .pinned], laidTests := true, laidLooks := .later }
def NotationChecksCardSaid : Prop := Claim7.holds Tryd.pinned (.plain (OpenSpec.ofChange notationChecksSpec)) notationChecksCard

/-- THE TIED CARD OF 'euclidlaw25.NotationParses'. -/
def notationParsesCard : Claim7 := { stood := { row := notationParsesRow, standIns := [], harness := (true, "16f7fde0b34caa63bc8db8e0ad5786296c75850d06a99f84aa6ac81837fe0f4f"), looks := true }, kinds := [], alts := [], laidByText := true, laidKinds := [.data, .listed, .data, .pinned], laidTests := true, laidLooks := .later }
def NotationParsesCardSaid : Prop := Claim7.holds Tryd.pinned (.plain (OpenSpec.ofChange notationParsesSpec)) notationParsesCard

/-- THE TIED CARD OF 'euclidlaw25.NotationPrints'. -/
def notationPrintsCard : Claim7 := { stood := { row := notationPrintsRow, standIns := [], harness := (true, "16f7fde0b34caa63bc8db8e0ad5786296c75850d06a99f84aa6ac81837fe0f4f"), looks := true }, kinds := [], alts := [], laidByText := true, laidKinds := [.data, .listed, .data, .pinned], laidTests := true, laidLooks := .later }
def NotationPrintsCardSaid : Prop := Claim7.holds Tryd.pinned (.plain (OpenSpec.ofChange notationPrintsSpec)) notationPrintsCard

/-- THE TIED CARD OF 'euclidlaw25.NotationBack'. -/
def notationBackCard : Claim7 := { stood := { row := notationBackRow, standIns := [], harness := (true, "16f7fde0b34caa63bc8db8e0ad5786296c75850d06a99f84aa6ac81837fe0f4f"), looks := true }, kinds := [], alts := [], laidByText := true, laidKinds := [.data, .listed, .data, .pinned], laidTests := true, laidLooks := .later }
def NotationBackCardSaid : Prop := Claim7.holds Tryd.pinned (.plain (OpenSpec.ofChange notationBackSpec)) notationBackCard

/-- THE TIED CARD OF 'euclidlaw25.NotationOrders'. -/
def notationOrdersCard : Claim7 := { stood := { row := notationOrdersRow, standIns := [], harness := (true, "16f7fde0b34caa63bc8db8e0ad5786296c75850d06a99f84aa6ac81837fe0f4f"), looks := true }, kinds := [], alts := [], laidByText := true, laidKinds := [.data, .listed, .data, .pinned], laidTests := true, laidLooks := .later }
def NotationOrdersCardSaid : Prop := Claim7.holds Tryd.pinned (.plain (OpenSpec.ofChange notationOrdersSpec)) notationOrdersCard

/-- THE TIED CARD OF 'euclidlaw25.NotationLevels'. -/
def notationLevelsCard : Claim7 := { stood := { row := notationLevelsRow, standIns := [], harness := (true, "16f7fde0b34caa63bc8db8e0ad5786296c75850d06a99f84aa6ac81837fe0f4f"), looks := true }, kinds := [], alts := [], laidByText := true, laidKinds := [.data, .listed, .data, .pinned], laidTests := true, laidLooks := .later }
def NotationLevelsCardSaid : Prop := Claim7.holds Tryd.pinned (.plain (OpenSpec.ofChange notationLevelsSpec)) notationLevelsCard

/-- THE TIED CARD OF 'euclidlaw25.NotationAdds'. -/
def notationAddsCard : Claim7 := { stood := { row := notationAddsRow, standIns := [], harness := (true, "16f7fde0b34caa63bc8db8e0ad5786296c75850d06a99f84aa6ac81837fe0f4f"), looks := true }, kinds := [], alts := [], laidByText := true, laidKinds := [.data, .listed, .data, .pinned], laidTests := true, laidLooks := .later }
def NotationAddsCardSaid : Prop := Claim7.holds Tryd.pinned (.plain (OpenSpec.ofChange notationAddsSpec)) notationAddsCard

/-- THE SECOND FORM's CARD OF 'euclidlaw25.NotationChecks'. -/
def notationChecksUptoCard : Claim7 := { stood := { row := notationChecksUptoRow, standIns := [], harness := (true, "16f7fde0b34caa63bc8db8e0ad5786296c75850d06a99f84aa6ac81837fe0f4f"), looks := true }, kinds := [], alts := [], laidByText := true, laidKinds := [.data, .listed, .data, .pinned], laidTests := true, laidLooks := .later }
def NotationChecksUptoCardSaid : Prop := Claim7.holds Tryd.pinned (.plain (OpenSpec.upto notationChecksSpec)) notationChecksUptoCard

/-- THE SECOND FORM's CARD OF 'euclidlaw25.NotationParses'. -/
def notationParsesUptoCard : Claim7 := { stood := { row := notationParsesUptoRow, standIns := [], harness := (true, "16f7fde0b34caa63bc8db8e0ad5786296c75850d06a99f84aa6ac81837fe0f4f"), looks := true }, kinds := [], alts := [], laidByText := true, laidKinds := [.data, .listed, .data, .pinned], laidTests := true, laidLooks := .later }
def NotationParsesUptoCardSaid : Prop := Claim7.holds Tryd.pinned (.plain (OpenSpec.upto notationParsesSpec)) notationParsesUptoCard

/-- THE SECOND FORM's CARD OF 'euclidlaw25.NotationPrints'. -/
def notationPrintsUptoCard : Claim7 := { stood := { row := notationPrintsUptoRow, standIns := [], harness := (true, "16f7fde0b34caa63bc8db8e0ad5786296c75850d06a99f84aa6ac81837fe0f4f"), looks := true }, kinds := [], alts := [], laidByText := true, laidKinds := [.data, .listed, .data, .pinned], laidTests := true, laidLooks := .later }
def NotationPrintsUptoCardSaid : Prop := Claim7.holds Tryd.pinned (.plain (OpenSpec.upto notationPrintsSpec)) notationPrintsUptoCard

/-- THE SECOND FORM's CARD OF 'euclidlaw25.NotationBack'. -/
def notationBackUptoCard : Claim7 := { stood := { row := notationBackUptoRow, standIns := [], harness := (true, "16f7fde0b34caa63bc8db8e0ad5786296c75850d06a99f84aa6ac81837fe0f4f"), looks := true }, kinds := [], alts := [], laidByText := true, laidKinds := [.data, .listed, .data, .pinned], laidTests := true, laidLooks := .later }
def NotationBackUptoCardSaid : Prop := Claim7.holds Tryd.pinned (.plain (OpenSpec.upto notationBackSpec)) notationBackUptoCard

/-- THE SECOND FORM's CARD OF 'euclidlaw25.NotationOrders'. -/
def notationOrdersUptoCard : Claim7 := { stood := { row := notationOrdersUptoRow, standIns := [], harness := (true, "16f7fde0b34caa63bc8db8e0ad5786296c75850d06a99f84aa6ac81837fe0f4f"), looks := true }, kinds := [], alts := [], laidByText := true, laidKinds := [.data, .listed, .data, .pinned], laidTests := true, laidLooks := .later }
def NotationOrdersUptoCardSaid : Prop := Claim7.holds Tryd.pinned (.plain (OpenSpec.upto notationOrdersSpec)) notationOrdersUptoCard

/-- THE SECOND FORM's CARD OF 'euclidlaw25.NotationLevels'. -/
def notationLevelsUptoCard : Claim7 := { stood := { row := notationLevelsUptoRow, standIns := [], harness := (true, "16f7fde0b34caa63bc8db8e0ad5786296c75850d06a99f84aa6ac81837fe0f4f"), looks := true }, kinds := [], alts := [], laidByText := true, laidKinds := [.data, .listed, .data, .pinned], laidTests := true, laidLooks := .later }
def NotationLevelsUptoCardSaid : Prop := Claim7.holds Tryd.pinned (.plain (OpenSpec.upto notationLevelsSpec)) notationLevelsUptoCard

/-- THE SECOND FORM's CARD OF 'euclidlaw25.NotationAdds'. -/
def notationAddsUptoCard : Claim7 := { stood := { row := notationAddsUptoRow, standIns := [], harness := (true, "16f7fde0b34caa63bc8db8e0ad5786296c75850d06a99f84aa6ac81837fe0f4f"), looks := true }, kinds := [], alts := [], laidByText := true, laidKinds := [.data, .listed, .data, .pinned], laidTests := true, laidLooks := .later }
def NotationAddsUptoCardSaid : Prop := Claim7.holds Tryd.pinned (.plain (OpenSpec.upto notationAddsSpec)) notationAddsUptoCard
end Rows
end Go.Proofs.YtfilfimjoeapgaaDoor
