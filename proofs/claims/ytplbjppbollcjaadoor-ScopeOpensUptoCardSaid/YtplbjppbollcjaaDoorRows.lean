/-
  NARROWER THAN 'FOR EVERY INPUT', by the rows' own cells (each row's printed sentence says how): ScopeResolves: loops, laid · ScopeShortens: loops, laid · ScopeFinds: loops, laid · ScopeOpens: laid · ScopeEnters: loops, laid · ScopeBacks: loops, laid.
  DERIVED. THE GIVEN ROWS OF THIS SEAT. 6 by the template 'for every input the law returns true; each argument reads behind the call as it read before'; 0 by the template 'total and deterministic' (their statements: YtplbjppbollcjaaDoorTotals.lean).
  GIVEN WITH THE SEED: the statements are not yours to turn. If you find one false, say at which input.
  Laid BY PROGRAM, IN A SANDBOX (cutbox-rows.mjs): the forced cells as the released guide's own fill.sh prints them over the translation b58aaad81b5c49a6… (all of the seat's roots in one cut). By AI agents, Wed Nov 11 2026. No macro, syntax, notation, axiom, sorry.
-/
import Derived.Test.YtplbjppbollcjaaDoorChecked
import GoSem.PinnedTables
import GoSem.Claim
import GoSem.ClaimJoined
import GoSem.ClaimMapViews
import Derived.JoinedTies
import Derived.KernelRfl
namespace Go.Proofs.YtplbjppbollcjaaDoor
/- THE CELL 'sum', in the pinned program and in every row, IS THE sha256 OF THE DUMP (.gsa) THAT YtplbjppbollcjaaDoorProg.lean LOADS. Nothing in Lean hashes anything: it is a label: what it is worth is what the hold of that sum in a sandbox is worth. -/
noncomputable def Tryd.pinned : Pinned := { name := "ytplbjppbollcjaadoor", sum := "b58aaad81b5c49a6772b84c4286028168dc7160b1c0783c196a69e821b4292e1", checked := Tryd.checked }
namespace Rows
def none {H : Type} : Left H := { results := [], args := [] }

/- WHAT THE LISTED PACKAGE-LEVEL VARIABLES READ AS WHEN THE CALL BEGINS. Each datum BY PROGRAM (the guide's laid-datum.mjs) off the statement by which the dump's own 'gosem.cut.vars' lays the variable. In a bare row this is a premise. The card (YtplbjppbollcjaaDoorCards.lean) ties it to the program's text. -/
def laid_unicode_utf8_acceptRanges {H : Type} : DataW H := .agg [.agg [.lit (.int .u8 128), .lit (.int .u8 191)], .agg [.lit (.int .u8 160), .lit (.int .u8 191)], .agg [.lit (.int .u8 128), .lit (.int .u8 159)], .agg [.lit (.int .u8 144), .lit (.int .u8 191)], .agg [.lit (.int .u8 128), .lit (.int .u8 143)], .agg [.lit (.int .u8 0), .lit (.int .u8 0)], .agg [.lit (.int .u8 0), .lit (.int .u8 0)], .agg [.lit (.int .u8 0), .lit (.int .u8 0)], .agg [.lit (.int .u8 0), .lit (.int .u8 0)], .agg [.lit (.int .u8 0), .lit (.int .u8 0)], .agg [.lit (.int .u8 0), .lit (.int .u8 0)], .agg [.lit (.int .u8 0), .lit (.int .u8 0)], .agg [.lit (.int .u8 0), .lit (.int .u8 0)], .agg [.lit (.int .u8 0), .lit (.int .u8 0)], .agg [.lit (.int .u8 0), .lit (.int .u8 0)], .agg [.lit (.int .u8 0), .lit (.int .u8 0)]]
/-- One of Go's own tables, pinned by name: the form's constant. -/
def laid_unicode_utf8_first : DataW Unit := Go.Pinned.utf8First

/-- 'euclidlaw27.ScopeResolves': WHATEVER THE INPUT: true; the input reads as it did. -/
def scopeResolvesSpec : ChangeSpec := { name := "scopeResolves", fn := fun _ => fun
  | [d1, d2] => { results := [.lit (.bool true)], args := [d1, d2] }
  | _ => none }
def scopeResolvesRow : OpenClaim := { program := "ytplbjppbollcjaadoor", sum := "b58aaad81b5c49a6772b84c4286028168dc7160b1c0783c196a69e821b4292e1", func := "euclid/euclidlaw27.ScopeResolves", spec := "scopeResolves", inPlace := ["internal/abi.NoEscape", "internal/bytealg.MakeNoZero", "internal/bytealg.CountString", "internal/bytealg.IndexByteString", "internal/bytealg.IndexString"], unfollowed := true, recurses := true, named := ["unicode/utf8.first", "unicode/utf8.acceptRanges", "internal/bytealg.MaxLen"], loops := true, apart := false, laid := [("unicode/utf8.acceptRanges", laid_unicode_utf8_acceptRanges), ("unicode/utf8.first", laid_unicode_utf8_first)] }
def ScopeResolvesSaid : Prop := scopeResolvesRow.holds Tryd.pinned (OpenSpec.ofChange scopeResolvesSpec)

/-- ITS FALSE NEIGHBOUR: 'it returns false'. Refute it at one input. -/
def scopeResolvesWrong : ChangeSpec := { name := "scopeResolves", fn := fun _ => fun
  | [d1, d2] => { results := [.lit (.bool false)], args := [d1, d2] }
  | _ => none }
def ScopeResolvesWrongFalsely : Prop := scopeResolvesRow.holds Tryd.pinned (OpenSpec.ofChange scopeResolvesWrong)

/-- 'euclidlaw27.ScopeShortens': WHATEVER THE INPUT: true; the input reads as it did. -/
def scopeShortensSpec : ChangeSpec := { name := "scopeShortens", fn := fun _ => fun
  | [d1, d2] => { results := [.lit (.bool true)], args := [d1, d2] }
  | _ => none }
def scopeShortensRow : OpenClaim := { program := "ytplbjppbollcjaadoor", sum := "b58aaad81b5c49a6772b84c4286028168dc7160b1c0783c196a69e821b4292e1", func := "euclid/euclidlaw27.ScopeShortens", spec := "scopeShortens", inPlace := ["internal/abi.NoEscape", "internal/bytealg.MakeNoZero", "internal/bytealg.CountString", "internal/bytealg.IndexByteString", "internal/bytealg.IndexString"], unfollowed := true, recurses := true, named := ["unicode/utf8.first", "unicode/utf8.acceptRanges", "internal/bytealg.MaxLen"], loops := true, apart := false, laid := [("unicode/utf8.acceptRanges", laid_unicode_utf8_acceptRanges), ("unicode/utf8.first", laid_unicode_utf8_first)] }
def ScopeShortensSaid : Prop := scopeShortensRow.holds Tryd.pinned (OpenSpec.ofChange scopeShortensSpec)

/-- ITS FALSE NEIGHBOUR: 'it returns false'. Refute it at one input. -/
def scopeShortensWrong : ChangeSpec := { name := "scopeShortens", fn := fun _ => fun
  | [d1, d2] => { results := [.lit (.bool false)], args := [d1, d2] }
  | _ => none }
def ScopeShortensWrongFalsely : Prop := scopeShortensRow.holds Tryd.pinned (OpenSpec.ofChange scopeShortensWrong)

/-- 'euclidlaw27.ScopeFinds': WHATEVER THE INPUT: true; the input reads as it did. -/
def scopeFindsSpec : ChangeSpec := { name := "scopeFinds", fn := fun _ => fun
  | [d1, d2] => { results := [.lit (.bool true)], args := [d1, d2] }
  | _ => none }
def scopeFindsRow : OpenClaim := { program := "ytplbjppbollcjaadoor", sum := "b58aaad81b5c49a6772b84c4286028168dc7160b1c0783c196a69e821b4292e1", func := "euclid/euclidlaw27.ScopeFinds", spec := "scopeFinds", inPlace := ["internal/abi.NoEscape", "internal/bytealg.MakeNoZero", "internal/bytealg.CountString", "internal/bytealg.IndexByteString", "internal/bytealg.IndexString"], unfollowed := true, recurses := true, named := ["unicode/utf8.first", "unicode/utf8.acceptRanges", "internal/bytealg.MaxLen"], loops := true, apart := false, laid := [("unicode/utf8.acceptRanges", laid_unicode_utf8_acceptRanges), ("unicode/utf8.first", laid_unicode_utf8_first)] }
def ScopeFindsSaid : Prop := scopeFindsRow.holds Tryd.pinned (OpenSpec.ofChange scopeFindsSpec)

/-- ITS FALSE NEIGHBOUR: 'it returns false'. Refute it at one input. -/
def scopeFindsWrong : ChangeSpec := { name := "scopeFinds", fn := fun _ => fun
  | [d1, d2] => { results := [.lit (.bool false)], args := [d1, d2] }
  | _ => none }
def ScopeFindsWrongFalsely : Prop := scopeFindsRow.holds Tryd.pinned (OpenSpec.ofChange scopeFindsWrong)

/-- 'euclidlaw27.ScopeOpens': WHATEVER THE INPUT: true; the input reads as it did. -/
def scopeOpensSpec : ChangeSpec := { name := "scopeOpens", fn := fun _ => fun
  | [d1, d2, d3] => { results := [.lit (.bool true)], args := [d1, d2, d3] }
  | _ => none }
def scopeOpensRow : OpenClaim := { program := "ytplbjppbollcjaadoor", sum := "b58aaad81b5c49a6772b84c4286028168dc7160b1c0783c196a69e821b4292e1", func := "euclid/euclidlaw27.ScopeOpens", spec := "scopeOpens", inPlace := ["internal/abi.NoEscape", "internal/bytealg.MakeNoZero", "internal/bytealg.CountString", "internal/bytealg.IndexByteString", "internal/bytealg.IndexString"], unfollowed := true, recurses := true, named := ["unicode/utf8.first", "unicode/utf8.acceptRanges", "internal/bytealg.MaxLen"], apart := false, laid := [("unicode/utf8.acceptRanges", laid_unicode_utf8_acceptRanges), ("unicode/utf8.first", laid_unicode_utf8_first)] }
def ScopeOpensSaid : Prop := scopeOpensRow.holds Tryd.pinned (OpenSpec.ofChange scopeOpensSpec)

/-- ITS FALSE NEIGHBOUR: 'it returns false'. Refute it at one input. -/
def scopeOpensWrong : ChangeSpec := { name := "scopeOpens", fn := fun _ => fun
  | [d1, d2, d3] => { results := [.lit (.bool false)], args := [d1, d2, d3] }
  | _ => none }
def ScopeOpensWrongFalsely : Prop := scopeOpensRow.holds Tryd.pinned (OpenSpec.ofChange scopeOpensWrong)

/-- 'euclidlaw27.ScopeEnters': WHATEVER THE INPUT: true; the input reads as it did. -/
def scopeEntersSpec : ChangeSpec := { name := "scopeEnters", fn := fun _ => fun
  | [d1, d2] => { results := [.lit (.bool true)], args := [d1, d2] }
  | _ => none }
def scopeEntersRow : OpenClaim := { program := "ytplbjppbollcjaadoor", sum := "b58aaad81b5c49a6772b84c4286028168dc7160b1c0783c196a69e821b4292e1", func := "euclid/euclidlaw27.ScopeEnters", spec := "scopeEnters", inPlace := ["internal/abi.NoEscape", "internal/bytealg.MakeNoZero", "internal/bytealg.CountString", "internal/bytealg.IndexByteString", "internal/bytealg.IndexString"], unfollowed := true, recurses := true, named := ["unicode/utf8.first", "unicode/utf8.acceptRanges", "internal/bytealg.MaxLen"], loops := true, apart := false, laid := [("unicode/utf8.acceptRanges", laid_unicode_utf8_acceptRanges), ("unicode/utf8.first", laid_unicode_utf8_first)] }
def ScopeEntersSaid : Prop := scopeEntersRow.holds Tryd.pinned (OpenSpec.ofChange scopeEntersSpec)

/-- ITS FALSE NEIGHBOUR: 'it returns false'. Refute it at one input. -/
def scopeEntersWrong : ChangeSpec := { name := "scopeEnters", fn := fun _ => fun
  | [d1, d2] => { results := [.lit (.bool false)], args := [d1, d2] }
  | _ => none }
def ScopeEntersWrongFalsely : Prop := scopeEntersRow.holds Tryd.pinned (OpenSpec.ofChange scopeEntersWrong)

/-- 'euclidlaw27.ScopeBacks': WHATEVER THE INPUT: true; the input reads as it did. -/
def scopeBacksSpec : ChangeSpec := { name := "scopeBacks", fn := fun _ => fun
  | [d1, d2] => { results := [.lit (.bool true)], args := [d1, d2] }
  | _ => none }
def scopeBacksRow : OpenClaim := { program := "ytplbjppbollcjaadoor", sum := "b58aaad81b5c49a6772b84c4286028168dc7160b1c0783c196a69e821b4292e1", func := "euclid/euclidlaw27.ScopeBacks", spec := "scopeBacks", inPlace := ["internal/abi.NoEscape", "internal/bytealg.MakeNoZero", "internal/bytealg.CountString", "internal/bytealg.IndexByteString", "internal/bytealg.IndexString"], unfollowed := true, recurses := true, named := ["unicode/utf8.first", "unicode/utf8.acceptRanges", "internal/bytealg.MaxLen"], loops := true, apart := false, laid := [("unicode/utf8.acceptRanges", laid_unicode_utf8_acceptRanges), ("unicode/utf8.first", laid_unicode_utf8_first)] }
def ScopeBacksSaid : Prop := scopeBacksRow.holds Tryd.pinned (OpenSpec.ofChange scopeBacksSpec)

/-- ITS FALSE NEIGHBOUR: 'it returns false'. Refute it at one input. -/
def scopeBacksWrong : ChangeSpec := { name := "scopeBacks", fn := fun _ => fun
  | [d1, d2] => { results := [.lit (.bool false)], args := [d1, d2] }
  | _ => none }
def ScopeBacksWrongFalsely : Prop := scopeBacksRow.holds Tryd.pinned (OpenSpec.ofChange scopeBacksWrong)

/- THE SECOND FORM. 'bulk': how many values and letters a reading holds, each counted each time it is reached (what is shared counts as often as it is met; a slice's spare places count too). A statement '..UptoSaid' is the law's where the arguments, and the package variables that the reading takes, are together of bulk at most 1048576: NARROWER than '..Said'. Prove '..Said' where nothing that the law and all that it calls make is longer than what came in: it says more and counts as full. Else prove '..UptoSaid'. A law counts once. -/
mutual
def uptoBulk {H : Type} : DataW H → Nat
  | .lit (.string bytes) => bytes.length + 1
  | .lit _ => 1
  | .nil => 1
  | .ptr d => uptoBulk d + 1
  | .slice elems spare => uptoBulkAll elems + uptoBulkAll spare + 1
  | .agg parts => uptoBulkAll parts + 1
  | .iface _ d => uptoBulk d + 1
  | .map entries => uptoBulkEntries entries + 1
  | .held _ => 1
def uptoBulkAll {H : Type} : List (DataW H) → Nat
  | [] => 0
  | d :: r => uptoBulk d + uptoBulkAll r
def uptoBulkEntries {H : Type} : List (Lit × DataW H) → Nat
  | [] => 0
  | x :: r => uptoBulkEntry x + uptoBulkEntries r
def uptoBulkEntry {H : Type} : Lit × DataW H → Nat
  | (.string bytes, d) => bytes.length + uptoBulk d + 1
  | (_, d) => uptoBulk d + 1
 end
def uptoSmall : (H : Type) → List (DataW H) → Bool := fun _ ds => decide (uptoBulkAll ds ≤ 1048576)
def OpenSpec.upto (s : _root_.Go.ChangeSpec) : _root_.Go.OpenSpec := { _root_.Go.OpenSpec.ofChange s with cond := some uptoSmall }

/-- 'euclidlaw27.ScopeResolves', WHERE WHAT IT READS IS OF BULK AT MOST 1048576: true; the input reads as it did. -/
def scopeResolvesUptoRow : OpenClaim := { program := "ytplbjppbollcjaadoor", sum := "b58aaad81b5c49a6772b84c4286028168dc7160b1c0783c196a69e821b4292e1", func := "euclid/euclidlaw27.ScopeResolves", spec := "scopeResolves", inPlace := ["internal/abi.NoEscape", "internal/bytealg.MakeNoZero", "internal/bytealg.CountString", "internal/bytealg.IndexByteString", "internal/bytealg.IndexString"], unfollowed := true, recurses := true, named := ["unicode/utf8.first", "unicode/utf8.acceptRanges", "internal/bytealg.MaxLen"], loops := true, apart := false, laid := [("unicode/utf8.acceptRanges", laid_unicode_utf8_acceptRanges), ("unicode/utf8.first", laid_unicode_utf8_first)], narrowed := true }
def ScopeResolvesUptoSaid : Prop := scopeResolvesUptoRow.holds Tryd.pinned (OpenSpec.upto scopeResolvesSpec)

/-- 'euclidlaw27.ScopeShortens', WHERE WHAT IT READS IS OF BULK AT MOST 1048576: true; the input reads as it did. -/
def scopeShortensUptoRow : OpenClaim := { program := "ytplbjppbollcjaadoor", sum := "b58aaad81b5c49a6772b84c4286028168dc7160b1c0783c196a69e821b4292e1", func := "euclid/euclidlaw27.ScopeShortens", spec := "scopeShortens", inPlace := ["internal/abi.NoEscape", "internal/bytealg.MakeNoZero", "internal/bytealg.CountString", "internal/bytealg.IndexByteString", "internal/bytealg.IndexString"], unfollowed := true, recurses := true, named := ["unicode/utf8.first", "unicode/utf8.acceptRanges", "internal/bytealg.MaxLen"], loops := true, apart := false, laid := [("unicode/utf8.acceptRanges", laid_unicode_utf8_acceptRanges), ("unicode/utf8.first", laid_unicode_utf8_first)], narrowed := true }
def ScopeShortensUptoSaid : Prop := scopeShortensUptoRow.holds Tryd.pinned (OpenSpec.upto scopeShortensSpec)

/-- 'euclidlaw27.ScopeFinds', WHERE WHAT IT READS IS OF BULK AT MOST 1048576: true; the input reads as it did. -/
def scopeFindsUptoRow : OpenClaim := { program := "ytplbjppbollcjaadoor", sum := "b58aaad81b5c49a6772b84c4286028168dc7160b1c0783c196a69e821b4292e1", func := "euclid/euclidlaw27.ScopeFinds", spec := "scopeFinds", inPlace := ["internal/abi.NoEscape", "internal/bytealg.MakeNoZero", "internal/bytealg.CountString", "internal/bytealg.IndexByteString", "internal/bytealg.IndexString"], unfollowed := true, recurses := true, named := ["unicode/utf8.first", "unicode/utf8.acceptRanges", "internal/bytealg.MaxLen"], loops := true, apart := false, laid := [("unicode/utf8.acceptRanges", laid_unicode_utf8_acceptRanges), ("unicode/utf8.first", laid_unicode_utf8_first)], narrowed := true }
def ScopeFindsUptoSaid : Prop := scopeFindsUptoRow.holds Tryd.pinned (OpenSpec.upto scopeFindsSpec)

/-- 'euclidlaw27.ScopeOpens', WHERE WHAT IT READS IS OF BULK AT MOST 1048576: true; the input reads as it did. -/
def scopeOpensUptoRow : OpenClaim := { program := "ytplbjppbollcjaadoor", sum := "b58aaad81b5c49a6772b84c4286028168dc7160b1c0783c196a69e821b4292e1", func := "euclid/euclidlaw27.ScopeOpens", spec := "scopeOpens", inPlace := ["internal/abi.NoEscape", "internal/bytealg.MakeNoZero", "internal/bytealg.CountString", "internal/bytealg.IndexByteString", "internal/bytealg.IndexString"], unfollowed := true, recurses := true, named := ["unicode/utf8.first", "unicode/utf8.acceptRanges", "internal/bytealg.MaxLen"], apart := false, laid := [("unicode/utf8.acceptRanges", laid_unicode_utf8_acceptRanges), ("unicode/utf8.first", laid_unicode_utf8_first)], narrowed := true }
def ScopeOpensUptoSaid : Prop := scopeOpensUptoRow.holds Tryd.pinned (OpenSpec.upto scopeOpensSpec)

/-- 'euclidlaw27.ScopeEnters', WHERE WHAT IT READS IS OF BULK AT MOST 1048576: true; the input reads as it did. -/
def scopeEntersUptoRow : OpenClaim := { program := "ytplbjppbollcjaadoor", sum := "b58aaad81b5c49a6772b84c4286028168dc7160b1c0783c196a69e821b4292e1", func := "euclid/euclidlaw27.ScopeEnters", spec := "scopeEnters", inPlace := ["internal/abi.NoEscape", "internal/bytealg.MakeNoZero", "internal/bytealg.CountString", "internal/bytealg.IndexByteString", "internal/bytealg.IndexString"], unfollowed := true, recurses := true, named := ["unicode/utf8.first", "unicode/utf8.acceptRanges", "internal/bytealg.MaxLen"], loops := true, apart := false, laid := [("unicode/utf8.acceptRanges", laid_unicode_utf8_acceptRanges), ("unicode/utf8.first", laid_unicode_utf8_first)], narrowed := true }
def ScopeEntersUptoSaid : Prop := scopeEntersUptoRow.holds Tryd.pinned (OpenSpec.upto scopeEntersSpec)

/-- 'euclidlaw27.ScopeBacks', WHERE WHAT IT READS IS OF BULK AT MOST 1048576: true; the input reads as it did. -/
def scopeBacksUptoRow : OpenClaim := { program := "ytplbjppbollcjaadoor", sum := "b58aaad81b5c49a6772b84c4286028168dc7160b1c0783c196a69e821b4292e1", func := "euclid/euclidlaw27.ScopeBacks", spec := "scopeBacks", inPlace := ["internal/abi.NoEscape", "internal/bytealg.MakeNoZero", "internal/bytealg.CountString", "internal/bytealg.IndexByteString", "internal/bytealg.IndexString"], unfollowed := true, recurses := true, named := ["unicode/utf8.first", "unicode/utf8.acceptRanges", "internal/bytealg.MaxLen"], loops := true, apart := false, laid := [("unicode/utf8.acceptRanges", laid_unicode_utf8_acceptRanges), ("unicode/utf8.first", laid_unicode_utf8_first)], narrowed := true }
def ScopeBacksUptoSaid : Prop := scopeBacksUptoRow.holds Tryd.pinned (OpenSpec.upto scopeBacksSpec)

end Rows
end Go.Proofs.YtplbjppbollcjaaDoor
