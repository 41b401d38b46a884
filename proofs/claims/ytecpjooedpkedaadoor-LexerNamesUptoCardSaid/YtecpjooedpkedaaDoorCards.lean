/-
  DERIVED. GIVEN WITH THE SEED: THE CARDS: each row of YtecpjooedpkedaaDoorRows.lean that lists a variable, with what it lists TIED to the program's text (the seventh form; the later family's looks); each row that meets fmt, with fmt's text TOLD by the authors' own Lean function (tested against real Go, not proved from fmt's source: count such statements apart). THE CARD IS WHAT COUNTS. Prove the row's statement (the work); the ties are given (YtecpjooedpkedaaDoorTie.lean); close each card by the builder's one call (the guide's Derived/Test/ToyasCard.lean, 'card_holds'). Laid BY PROGRAM, IN A SANDBOX (cutbox-door.mjs). By AI agents, Wed Nov 11 2026. No macro, syntax, notation, axiom, sorry.
-/
import Derived.Test.YtecpjooedpkedaaDoorRows
import GoSem.ClaimSeven
namespace Go.Proofs.YtecpjooedpkedaaDoor
namespace Rows

/-- THE TIED CARD OF 'euclidlaw24.LexerScans'. -/
def lexerScansCard : Claim7 := { stood := { row := lexerScansRow, standIns := [], harness := (true, "a3b5fce1e9dff5fe44f093e6b5b20d5b938491fc4e83b7bcd80f4a8ffc365fb1"), looks := false }, kinds := [], alts := [], laidByText := true, laidKinds := [.data, .listed, .data, .pinned], laidTests := true, laidLooks := .later }
def LexerScansCardSaid : Prop := Claim7.holds Tryd.pinned (.plain (OpenSpec.ofChange lexerScansSpec)) lexerScansCard

/-- THE TIED CARD OF 'euclidlaw24.LexerWords'. -/
def lexerWordsCard : Claim7 := { stood := { row := lexerWordsRow, standIns := [], harness := (true, "a3b5fce1e9dff5fe44f093e6b5b20d5b938491fc4e83b7bcd80f4a8ffc365fb1"), looks := false }, kinds := [], alts := [], laidByText := true, laidKinds := [.data, .listed, .data, .pinned], laidTests := true, laidLooks := .later }
def LexerWordsCardSaid : Prop := Claim7.holds Tryd.pinned (.plain (OpenSpec.ofChange lexerWordsSpec)) lexerWordsCard

/-- THE TIED CARD OF 'euclidlaw24.LexerCovers'. -/
def lexerCoversCard : Claim7 := { stood := { row := lexerCoversRow, standIns := [], harness := (true, "a3b5fce1e9dff5fe44f093e6b5b20d5b938491fc4e83b7bcd80f4a8ffc365fb1"), looks := false }, kinds := [], alts := [], laidByText := true, laidKinds := [.data, .listed, .data, .pinned], laidTests := true, laidLooks := .later }
def LexerCoversCardSaid : Prop := Claim7.holds Tryd.pinned (.plain (OpenSpec.ofChange lexerCoversSpec)) lexerCoversCard

/-- THE TIED CARD OF 'euclidlaw24.LexerBack'. -/
def lexerBackCard : Claim7 := { stood := { row := lexerBackRow, standIns := [], harness := (true, "a3b5fce1e9dff5fe44f093e6b5b20d5b938491fc4e83b7bcd80f4a8ffc365fb1"), looks := false }, kinds := [], alts := [], laidByText := true, laidKinds := [.data, .listed, .data, .pinned], laidTests := true, laidLooks := .later }
def LexerBackCardSaid : Prop := Claim7.holds Tryd.pinned (.plain (OpenSpec.ofChange lexerBackSpec)) lexerBackCard

/-- THE TIED CARD OF 'euclidlaw24.LexerSpaces'. -/
def lexerSpacesCard : Claim7 := { stood := { row := lexerSpacesRow, standIns := [], harness := (true, "a3b5fce1e9dff5fe44f093e6b5b20d5b938491fc4e83b7bcd80f4a8ffc365fb1"), looks := false }, kinds := [], alts := [], laidByText := true, laidKinds := [.data, .listed, .data, .pinned], laidTests := true, laidLooks := .later }
def LexerSpacesCardSaid : Prop := Claim7.holds Tryd.pinned (.plain (OpenSpec.ofChange lexerSpacesSpec)) lexerSpacesCard

/-- THE TIED CARD OF 'euclidlaw24.LexerOthers'. -/
def lexerOthersCard : Claim7 := { stood := { row := lexerOthersRow, standIns := [], harness := (true, "a3b5fce1e9dff5fe44f093e6b5b20d5b938491fc4e83b7bcd80f4a8ffc365fb1"), looks := false }, kinds := [], alts := [], laidByText := true, laidKinds := [.data, .listed, .data, .pinned], laidTests := true, laidLooks := .later }
def LexerOthersCardSaid : Prop := Claim7.holds Tryd.pinned (.plain (OpenSpec.ofChange lexerOthersSpec)) lexerOthersCard

/-- THE TIED CARD OF 'euclidlaw24.LexerNames'. -/
def lexerNamesCard : Claim7 := { stood := { row := lexerNamesRow, standIns := [], harness := (true, "a3b5fce1e9dff5fe44f093e6b5b20d5b938491fc4e83b7bcd80f4a8ffc365fb1"), looks := false }, kinds := [], alts := [], laidByText := true, laidKinds := [.data, .listed, .data, .pinned], laidTests := true, laidLooks := .later }
def LexerNamesCardSaid : Prop := Claim7.holds Tryd.pinned (.plain (OpenSpec.ofChange lexerNamesSpec)) lexerNamesCard

/-- THE TIED CARD OF 'euclidlaw24.LexerPrefixes'. -/
def lexerPrefixesCard : Claim7 := { stood := { row := lexerPrefixesRow, standIns := [], harness := (true, "a3b5fce1e9dff5fe44f093e6b5b20d5b938491fc4e83b7bcd80f4a8ffc365fb1"), looks := false }, kinds := [], alts := [], laidByText := true, laidKinds := [.data, .listed, .data, .pinned], laidTests := true, laidLooks := .later }
def LexerPrefixesCardSaid : Prop := Claim7.holds Tryd.pinned (.plain (OpenSpec.ofChange lexerPrefixesSpec)) lexerPrefixesCard

/-- THE SECOND FORM's CARD OF 'euclidlaw24.LexerScans'. -/
def lexerScansUptoCard : Claim7 := { stood := { row := lexerScansUptoRow, standIns := [], harness := (true, "a3b5fce1e9dff5fe44f093e6b5b20d5b938491fc4e83b7bcd80f4a8ffc365fb1"), looks := false }, kinds := [], alts := [], laidByText := true, laidKinds := [.data, .listed, .data, .pinned], laidTests := true, laidLooks := .later }
def LexerScansUptoCardSaid : Prop := Claim7.holds Tryd.pinned (.plain (OpenSpec.upto lexerScansSpec)) lexerScansUptoCard

/-- THE SECOND FORM's CARD OF 'euclidlaw24.LexerWords'. -/
def lexerWordsUptoCard : Claim7 := { stood := { row := lexerWordsUptoRow, standIns := [], harness := (true, "a3b5fce1e9dff5fe44f093e6b5b20d5b938491fc4e83b7bcd80f4a8ffc365fb1"), looks := false }, kinds := [], alts := [], laidByText := true, laidKinds := [.data, .listed, .data, .pinned], laidTests := true, laidLooks := .later }
def LexerWordsUptoCardSaid : Prop := Claim7.holds Tryd.pinned (.plain (OpenSpec.upto lexerWordsSpec)) lexerWordsUptoCard

/-- THE SECOND FORM's CARD OF 'euclidlaw24.LexerCovers'. -/
def lexerCoversUptoCard : Claim7 := { stood := { row := lexerCoversUptoRow, standIns := [], harness := (true, "a3b5fce1e9dff5fe44f093e6b5b20d5b938491fc4e83b7bcd80f4a8ffc365fb1"), looks := false }, kinds := [], alts := [], laidByText := true, laidKinds := [.data, .listed, .data, .pinned], laidTests := true, laidLooks := .later }
def LexerCoversUptoCardSaid : Prop := Claim7.holds Tryd.pinned (.plain (OpenSpec.upto lexerCoversSpec)) lexerCoversUptoCard

/-- THE SECOND FORM's CARD OF 'euclidlaw24.LexerBack'. -/
def lexerBackUptoCard : Claim7 := { stood := { row := lexerBackUptoRow, standIns := [], harness := (true, "a3b5fce1e9dff5fe44f093e6b5b20d5b938491fc4e83b7bcd80f4a8ffc365fb1"), looks := false }, kinds := [], alts := [], laidByText := true, laidKinds := [.data, .listed, .data, .pinned], laidTests := true, laidLooks := .later }
def LexerBackUptoCardSaid : Prop := Claim7.holds Tryd.pinned (.plain (OpenSpec.upto lexerBackSpec)) lexerBackUptoCard

/-- THE SECOND FORM's CARD OF 'euclidlaw24.LexerSpaces'. -/
def lexerSpacesUptoCard : Claim7 := { stood := { row := lexerSpacesUptoRow, standIns := [], harness := (true, "a3b5fce1e9dff5fe44f093e6b5b20d5b938491fc4e83b7bcd80f4a8ffc365fb1"), looks := false }, kinds := [], alts := [], laidByText := true, laidKinds := [.data, .listed, .data, .pinned], laidTests := true, laidLooks := .later }
def LexerSpacesUptoCardSaid : Prop := Claim7.holds Tryd.pinned (.plain (OpenSpec.upto lexerSpacesSpec)) lexerSpacesUptoCard

/-- THE SECOND FORM's CARD OF 'euclidlaw24.LexerOthers'. -/
def lexerOthersUptoCard : Claim7 := { stood := { row := lexerOthersUptoRow, standIns := [], harness := (true, "a3b5fce1e9dff5fe44f093e6b5b20d5b938491fc4e83b7bcd80f4a8ffc365fb1"), looks := false }, kinds := [], alts := [], laidByText := true, laidKinds := [.data, .listed, .data, .pinned], laidTests := true, laidLooks := .later }
def LexerOthersUptoCardSaid : Prop := Claim7.holds Tryd.pinned (.plain (OpenSpec.upto lexerOthersSpec)) lexerOthersUptoCard

/-- THE SECOND FORM's CARD OF 'euclidlaw24.LexerNames'. -/
def lexerNamesUptoCard : Claim7 := { stood := { row := lexerNamesUptoRow, standIns := [], harness := (true, "a3b5fce1e9dff5fe44f093e6b5b20d5b938491fc4e83b7bcd80f4a8ffc365fb1"), looks := false }, kinds := [], alts := [], laidByText := true, laidKinds := [.data, .listed, .data, .pinned], laidTests := true, laidLooks := .later }
def LexerNamesUptoCardSaid : Prop := Claim7.holds Tryd.pinned (.plain (OpenSpec.upto lexerNamesSpec)) lexerNamesUptoCard

/-- THE SECOND FORM's CARD OF 'euclidlaw24.LexerPrefixes'. -/
def lexerPrefixesUptoCard : Claim7 := { stood := { row := lexerPrefixesUptoRow, standIns := [], harness := (true, "a3b5fce1e9dff5fe44f093e6b5b20d5b938491fc4e83b7bcd80f4a8ffc365fb1"), looks := false }, kinds := [], alts := [], laidByText := true, laidKinds := [.data, .listed, .data, .pinned], laidTests := true, laidLooks := .later }
def LexerPrefixesUptoCardSaid : Prop := Claim7.holds Tryd.pinned (.plain (OpenSpec.upto lexerPrefixesSpec)) lexerPrefixesUptoCard
end Rows
end Go.Proofs.YtecpjooedpkedaaDoor
