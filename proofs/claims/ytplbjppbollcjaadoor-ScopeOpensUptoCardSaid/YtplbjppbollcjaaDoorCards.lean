/-
  DERIVED. GIVEN WITH THE SEED: THE CARDS: each row of YtplbjppbollcjaaDoorRows.lean that lists a variable, with what it lists TIED to the program's text (the seventh form; the later family's looks); each row that meets fmt, with fmt's text TOLD by the authors' own Lean function (tested against real Go, not proved from fmt's source: count such statements apart). THE CARD IS WHAT COUNTS. Prove the row's statement (the work); the ties are given (YtplbjppbollcjaaDoorTie.lean); close each card by the builder's one call (the guide's Derived/Test/ToyasCard.lean, 'card_holds'). Laid BY PROGRAM, IN A SANDBOX (cutbox-door.mjs). By AI agents, Wed Nov 11 2026. No macro, syntax, notation, axiom, sorry.
-/
import Derived.Test.YtplbjppbollcjaaDoorRows
import GoSem.ClaimSeven
namespace Go.Proofs.YtplbjppbollcjaaDoor
namespace Rows

/-- THE TIED CARD OF 'euclidlaw27.ScopeResolves'. -/
def scopeResolvesCard : Claim7 := { stood := { row := scopeResolvesRow, standIns := [], harness := (true, "e63e7eca81744b48cbdf835c266fd606b53848b994545f75912faa1611ec782a"), looks := false }, kinds := [], alts := [], laidByText := true, laidKinds := [.data, .pinned], laidTests := true, laidLooks := .later }
def ScopeResolvesCardSaid : Prop := Claim7.holds Tryd.pinned (.plain (OpenSpec.ofChange scopeResolvesSpec)) scopeResolvesCard

/-- THE TIED CARD OF 'euclidlaw27.ScopeShortens'. -/
def scopeShortensCard : Claim7 := { stood := { row := scopeShortensRow, standIns := [], harness := (true, "e63e7eca81744b48cbdf835c266fd606b53848b994545f75912faa1611ec782a"), looks := false }, kinds := [], alts := [], laidByText := true, laidKinds := [.data, .pinned], laidTests := true, laidLooks := .later }
def ScopeShortensCardSaid : Prop := Claim7.holds Tryd.pinned (.plain (OpenSpec.ofChange scopeShortensSpec)) scopeShortensCard

/-- THE TIED CARD OF 'euclidlaw27.ScopeFinds'. -/
def scopeFindsCard : Claim7 := { stood := { row := scopeFindsRow, standIns := [], harness := (true, "e63e7eca81744b48cbdf835c266fd606b53848b994545f75912faa1611ec782a"), looks := false }, kinds := [], alts := [], laidByText := true, laidKinds := [.data, .pinned], laidTests := true, laidLooks := .later }
def ScopeFindsCardSaid : Prop := Claim7.holds Tryd.pinned (.plain (OpenSpec.ofChange scopeFindsSpec)) scopeFindsCard

/-- THE TIED CARD OF 'euclidlaw27.ScopeOpens'. -/
def scopeOpensCard : Claim7 := { stood := { row := scopeOpensRow, standIns := [], harness := (true, "e63e7eca81744b48cbdf835c266fd606b53848b994545f75912faa1611ec782a"), looks := false }, kinds := [], alts := [], laidByText := true, laidKinds := [.data, .pinned], laidTests := true, laidLooks := .later }
def ScopeOpensCardSaid : Prop := Claim7.holds Tryd.pinned (.plain (OpenSpec.ofChange scopeOpensSpec)) scopeOpensCard

/-- THE TIED CARD OF 'euclidlaw27.ScopeEnters'. -/
def scopeEntersCard : Claim7 := { stood := { row := scopeEntersRow, standIns := [], harness := (true, "e63e7eca81744b48cbdf835c266fd606b53848b994545f75912faa1611ec782a"), looks := false }, kinds := [], alts := [], laidByText := true, laidKinds := [.data, .pinned], laidTests := true, laidLooks := .later }
def ScopeEntersCardSaid : Prop := Claim7.holds Tryd.pinned (.plain (OpenSpec.ofChange scopeEntersSpec)) scopeEntersCard

/-- THE TIED CARD OF 'euclidlaw27.ScopeBacks'. -/
def scopeBacksCard : Claim7 := { stood := { row := scopeBacksRow, standIns := [], harness := (true, "e63e7eca81744b48cbdf835c266fd606b53848b994545f75912faa1611ec782a"), looks := false }, kinds := [], alts := [], laidByText := true, laidKinds := [.data, .pinned], laidTests := true, laidLooks := .later }
def ScopeBacksCardSaid : Prop := Claim7.holds Tryd.pinned (.plain (OpenSpec.ofChange scopeBacksSpec)) scopeBacksCard

/-- THE SECOND FORM's CARD OF 'euclidlaw27.ScopeResolves'. -/
def scopeResolvesUptoCard : Claim7 := { stood := { row := scopeResolvesUptoRow, standIns := [], harness := (true, "e63e7eca81744b48cbdf835c266fd606b53848b994545f75912faa1611ec782a"), looks := false }, kinds := [], alts := [], laidByText := true, laidKinds := [.data, .pinned], laidTests := true, laidLooks := .later }
def ScopeResolvesUptoCardSaid : Prop := Claim7.holds Tryd.pinned (.plain (OpenSpec.upto scopeResolvesSpec)) scopeResolvesUptoCard

/-- THE SECOND FORM's CARD OF 'euclidlaw27.ScopeShortens'. -/
def scopeShortensUptoCard : Claim7 := { stood := { row := scopeShortensUptoRow, standIns := [], harness := (true, "e63e7eca81744b48cbdf835c266fd606b53848b994545f75912faa1611ec782a"), looks := false }, kinds := [], alts := [], laidByText := true, laidKinds := [.data, .pinned], laidTests := true, laidLooks := .later }
def ScopeShortensUptoCardSaid : Prop := Claim7.holds Tryd.pinned (.plain (OpenSpec.upto scopeShortensSpec)) scopeShortensUptoCard

/-- THE SECOND FORM's CARD OF 'euclidlaw27.ScopeFinds'. -/
def scopeFindsUptoCard : Claim7 := { stood := { row := scopeFindsUptoRow, standIns := [], harness := (true, "e63e7eca81744b48cbdf835c266fd606b53848b994545f75912faa1611ec782a"), looks := false }, kinds := [], alts := [], laidByText := true, laidKinds := [.data, .pinned], laidTests := true, laidLooks := .later }
def ScopeFindsUptoCardSaid : Prop := Claim7.holds Tryd.pinned (.plain (OpenSpec.upto scopeFindsSpec)) scopeFindsUptoCard

/-- THE SECOND FORM's CARD OF 'euclidlaw27.ScopeOpens'. -/
def scopeOpensUptoCard : Claim7 := { stood := { row := scopeOpensUptoRow, standIns := [], harness := (true, "e63e7eca81744b48cbdf835c266fd606b53848b994545f75912faa1611ec782a"), looks := false }, kinds := [], alts := [], laidByText := true, laidKinds := [.data, .pinned], laidTests := true, laidLooks := .later }
def ScopeOpensUptoCardSaid : Prop := Claim7.holds Tryd.pinned (.plain (OpenSpec.upto scopeOpensSpec)) scopeOpensUptoCard

/-- THE SECOND FORM's CARD OF 'euclidlaw27.ScopeEnters'. -/
def scopeEntersUptoCard : Claim7 := { stood := { row := scopeEntersUptoRow, standIns := [], harness := (true, "e63e7eca81744b48cbdf835c266fd606b53848b994545f75912faa1611ec782a"), looks := false }, kinds := [], alts := [], laidByText := true, laidKinds := [.data, .pinned], laidTests := true, laidLooks := .later }
def ScopeEntersUptoCardSaid : Prop := Claim7.holds Tryd.pinned (.plain (OpenSpec.upto scopeEntersSpec)) scopeEntersUptoCard

/-- THE SECOND FORM's CARD OF 'euclidlaw27.ScopeBacks'. -/
def scopeBacksUptoCard : Claim7 := { stood := { row := scopeBacksUptoRow, standIns := [], harness := (true, "e63e7eca81744b48cbdf835c266fd606b53848b994545f75912faa1611ec782a"), looks := false }, kinds := [], alts := [], laidByText := true, laidKinds := [.data, .pinned], laidTests := true, laidLooks := .later }
def ScopeBacksUptoCardSaid : Prop := Claim7.holds Tryd.pinned (.plain (OpenSpec.upto scopeBacksSpec)) scopeBacksUptoCard
end Rows
end Go.Proofs.YtplbjppbollcjaaDoor
