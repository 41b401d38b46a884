/-
  NARROWER THAN 'FOR EVERY INPUT', by the rows' own cells (each row's printed sentence says how): FamilyAnalyses: loops · FamilyParameters: loops · FamilyTypes: loops · FamilyRebuilds: loops · FamilyApplied: loops · PositivityChecks: loops · PositivityTerms: loops · PositivityBegins: loops · PositivityRefuses: loops · PositivityAllows: loops · FamilyFields: loops · FamilyFinds: loops · PositivityArrows: loops.
  DERIVED. THE GIVEN ROWS OF THIS SEAT. 13 by the template 'for every input the law returns true; each argument reads behind the call as it read before'; 0 by the template 'total and deterministic' (their statements: YtgimdhmoloobkaaTotals.lean).
  GIVEN WITH THE SEED: the statements are not yours to turn. If you find one false, say at which input.
  Laid BY PROGRAM, IN A SANDBOX (cutbox-rows.mjs): the forced cells as the released guide's own fill.sh prints them over the translation 584f9d3a4bbe3fa8… (all of the seat's roots in one cut). By AI agents, Wed Nov 11 2026. No macro, syntax, notation, axiom, sorry.
-/
import Derived.Test.YtgimdhmoloobkaaChecked
import GoSem.Claim
import GoSem.ClaimJoined
import GoSem.ClaimMapViews
import Derived.JoinedTies
import Derived.KernelRfl
namespace Go.Proofs.Ytgimdhmoloobkaa
/- THE CELL 'sum', in the pinned program and in every row, IS THE sha256 OF THE DUMP (.gsa) THAT YtgimdhmoloobkaaProg.lean LOADS. Nothing in Lean hashes anything: it is a label: what it is worth is what the hold of that sum in a sandbox is worth. -/
noncomputable def Try.pinned : Pinned := { name := "ytgimdhmoloobkaa", sum := "584f9d3a4bbe3fa88ea36f434ad4f3686e0b0f63ae62d215ae1ebe76f45eb112", checked := Try.checked }
namespace Rows
def none {H : Type} : Left H := { results := [], args := [] }

/-- 'euclidlaw12.FamilyAnalyses': WHATEVER THE INPUT: true; the input reads as it did. -/
def familyAnalysesSpec : ChangeSpec := { name := "familyAnalyses", fn := fun _ => fun
  | [d] => { results := [.lit (.bool true)], args := [d] }
  | _ => none }
def familyAnalysesRow : OpenClaim := { program := "ytgimdhmoloobkaa", sum := "584f9d3a4bbe3fa88ea36f434ad4f3686e0b0f63ae62d215ae1ebe76f45eb112", func := "euclid/euclidlaw12.FamilyAnalyses", spec := "familyAnalyses", unfollowed := true, recurses := true, loops := true, apart := false }
def FamilyAnalysesSaid : Prop := familyAnalysesRow.holds Try.pinned (OpenSpec.ofChange familyAnalysesSpec)

/-- ITS FALSE NEIGHBOUR: 'it returns false'. Refute it at one input. -/
def familyAnalysesWrong : ChangeSpec := { name := "familyAnalyses", fn := fun _ => fun
  | [d] => { results := [.lit (.bool false)], args := [d] }
  | _ => none }
def FamilyAnalysesWrongFalsely : Prop := familyAnalysesRow.holds Try.pinned (OpenSpec.ofChange familyAnalysesWrong)

/-- 'euclidlaw12.FamilyParameters': WHATEVER THE INPUT: true; the input reads as it did. -/
def familyParametersSpec : ChangeSpec := { name := "familyParameters", fn := fun _ => fun
  | [d1, d2] => { results := [.lit (.bool true)], args := [d1, d2] }
  | _ => none }
def familyParametersRow : OpenClaim := { program := "ytgimdhmoloobkaa", sum := "584f9d3a4bbe3fa88ea36f434ad4f3686e0b0f63ae62d215ae1ebe76f45eb112", func := "euclid/euclidlaw12.FamilyParameters", spec := "familyParameters", unfollowed := true, recurses := true, loops := true, apart := false }
def FamilyParametersSaid : Prop := familyParametersRow.holds Try.pinned (OpenSpec.ofChange familyParametersSpec)

/-- ITS FALSE NEIGHBOUR: 'it returns false'. Refute it at one input. -/
def familyParametersWrong : ChangeSpec := { name := "familyParameters", fn := fun _ => fun
  | [d1, d2] => { results := [.lit (.bool false)], args := [d1, d2] }
  | _ => none }
def FamilyParametersWrongFalsely : Prop := familyParametersRow.holds Try.pinned (OpenSpec.ofChange familyParametersWrong)

/-- 'euclidlaw12.FamilyTypes': WHATEVER THE INPUT: true; the input reads as it did. -/
def familyTypesSpec : ChangeSpec := { name := "familyTypes", fn := fun _ => fun
  | [d1, d2] => { results := [.lit (.bool true)], args := [d1, d2] }
  | _ => none }
def familyTypesRow : OpenClaim := { program := "ytgimdhmoloobkaa", sum := "584f9d3a4bbe3fa88ea36f434ad4f3686e0b0f63ae62d215ae1ebe76f45eb112", func := "euclid/euclidlaw12.FamilyTypes", spec := "familyTypes", unfollowed := true, recurses := true, loops := true, apart := false }
def FamilyTypesSaid : Prop := familyTypesRow.holds Try.pinned (OpenSpec.ofChange familyTypesSpec)

/-- ITS FALSE NEIGHBOUR: 'it returns false'. Refute it at one input. -/
def familyTypesWrong : ChangeSpec := { name := "familyTypes", fn := fun _ => fun
  | [d1, d2] => { results := [.lit (.bool false)], args := [d1, d2] }
  | _ => none }
def FamilyTypesWrongFalsely : Prop := familyTypesRow.holds Try.pinned (OpenSpec.ofChange familyTypesWrong)

/-- 'euclidlaw12.FamilyRebuilds': WHATEVER THE INPUT: true; the input reads as it did. -/
def familyRebuildsSpec : ChangeSpec := { name := "familyRebuilds", fn := fun _ => fun
  | [d] => { results := [.lit (.bool true)], args := [d] }
  | _ => none }
def familyRebuildsRow : OpenClaim := { program := "ytgimdhmoloobkaa", sum := "584f9d3a4bbe3fa88ea36f434ad4f3686e0b0f63ae62d215ae1ebe76f45eb112", func := "euclid/euclidlaw12.FamilyRebuilds", spec := "familyRebuilds", unfollowed := true, recurses := true, loops := true, apart := false }
def FamilyRebuildsSaid : Prop := familyRebuildsRow.holds Try.pinned (OpenSpec.ofChange familyRebuildsSpec)

/-- ITS FALSE NEIGHBOUR: 'it returns false'. Refute it at one input. -/
def familyRebuildsWrong : ChangeSpec := { name := "familyRebuilds", fn := fun _ => fun
  | [d] => { results := [.lit (.bool false)], args := [d] }
  | _ => none }
def FamilyRebuildsWrongFalsely : Prop := familyRebuildsRow.holds Try.pinned (OpenSpec.ofChange familyRebuildsWrong)

/-- 'euclidlaw12.FamilyApplied': WHATEVER THE INPUT: true; the input reads as it did. -/
def familyAppliedSpec : ChangeSpec := { name := "familyApplied", fn := fun _ => fun
  | [d1, d2] => { results := [.lit (.bool true)], args := [d1, d2] }
  | _ => none }
def familyAppliedRow : OpenClaim := { program := "ytgimdhmoloobkaa", sum := "584f9d3a4bbe3fa88ea36f434ad4f3686e0b0f63ae62d215ae1ebe76f45eb112", func := "euclid/euclidlaw12.FamilyApplied", spec := "familyApplied", unfollowed := true, recurses := true, loops := true, apart := false }
def FamilyAppliedSaid : Prop := familyAppliedRow.holds Try.pinned (OpenSpec.ofChange familyAppliedSpec)

/-- ITS FALSE NEIGHBOUR: 'it returns false'. Refute it at one input. -/
def familyAppliedWrong : ChangeSpec := { name := "familyApplied", fn := fun _ => fun
  | [d1, d2] => { results := [.lit (.bool false)], args := [d1, d2] }
  | _ => none }
def FamilyAppliedWrongFalsely : Prop := familyAppliedRow.holds Try.pinned (OpenSpec.ofChange familyAppliedWrong)

/-- 'euclidlaw13.PositivityChecks': WHATEVER THE INPUT: true; the input reads as it did. -/
def positivityChecksSpec : ChangeSpec := { name := "positivityChecks", fn := fun _ => fun
  | [d] => { results := [.lit (.bool true)], args := [d] }
  | _ => none }
def positivityChecksRow : OpenClaim := { program := "ytgimdhmoloobkaa", sum := "584f9d3a4bbe3fa88ea36f434ad4f3686e0b0f63ae62d215ae1ebe76f45eb112", func := "euclid/euclidlaw13.PositivityChecks", spec := "positivityChecks", unfollowed := true, recurses := true, loops := true, apart := false }
def PositivityChecksSaid : Prop := positivityChecksRow.holds Try.pinned (OpenSpec.ofChange positivityChecksSpec)

/-- ITS FALSE NEIGHBOUR: 'it returns false'. Refute it at one input. -/
def positivityChecksWrong : ChangeSpec := { name := "positivityChecks", fn := fun _ => fun
  | [d] => { results := [.lit (.bool false)], args := [d] }
  | _ => none }
def PositivityChecksWrongFalsely : Prop := positivityChecksRow.holds Try.pinned (OpenSpec.ofChange positivityChecksWrong)

/-- 'euclidlaw13.PositivityTerms': WHATEVER THE INPUT: true; the input reads as it did. -/
def positivityTermsSpec : ChangeSpec := { name := "positivityTerms", fn := fun _ => fun
  | [d1, d2] => { results := [.lit (.bool true)], args := [d1, d2] }
  | _ => none }
def positivityTermsRow : OpenClaim := { program := "ytgimdhmoloobkaa", sum := "584f9d3a4bbe3fa88ea36f434ad4f3686e0b0f63ae62d215ae1ebe76f45eb112", func := "euclid/euclidlaw13.PositivityTerms", spec := "positivityTerms", unfollowed := true, recurses := true, loops := true, apart := false }
def PositivityTermsSaid : Prop := positivityTermsRow.holds Try.pinned (OpenSpec.ofChange positivityTermsSpec)

/-- ITS FALSE NEIGHBOUR: 'it returns false'. Refute it at one input. -/
def positivityTermsWrong : ChangeSpec := { name := "positivityTerms", fn := fun _ => fun
  | [d1, d2] => { results := [.lit (.bool false)], args := [d1, d2] }
  | _ => none }
def PositivityTermsWrongFalsely : Prop := positivityTermsRow.holds Try.pinned (OpenSpec.ofChange positivityTermsWrong)

/-- 'euclidlaw13.PositivityBegins': WHATEVER THE INPUT: true; the input reads as it did. -/
def positivityBeginsSpec : ChangeSpec := { name := "positivityBegins", fn := fun _ => fun
  | [d] => { results := [.lit (.bool true)], args := [d] }
  | _ => none }
def positivityBeginsRow : OpenClaim := { program := "ytgimdhmoloobkaa", sum := "584f9d3a4bbe3fa88ea36f434ad4f3686e0b0f63ae62d215ae1ebe76f45eb112", func := "euclid/euclidlaw13.PositivityBegins", spec := "positivityBegins", unfollowed := true, recurses := true, loops := true, apart := false }
def PositivityBeginsSaid : Prop := positivityBeginsRow.holds Try.pinned (OpenSpec.ofChange positivityBeginsSpec)

/-- ITS FALSE NEIGHBOUR: 'it returns false'. Refute it at one input. -/
def positivityBeginsWrong : ChangeSpec := { name := "positivityBegins", fn := fun _ => fun
  | [d] => { results := [.lit (.bool false)], args := [d] }
  | _ => none }
def PositivityBeginsWrongFalsely : Prop := positivityBeginsRow.holds Try.pinned (OpenSpec.ofChange positivityBeginsWrong)

/-- 'euclidlaw13.PositivityRefuses': WHATEVER THE INPUT: true; the input reads as it did. -/
def positivityRefusesSpec : ChangeSpec := { name := "positivityRefuses", fn := fun _ => fun
  | [d1, d2] => { results := [.lit (.bool true)], args := [d1, d2] }
  | _ => none }
def positivityRefusesRow : OpenClaim := { program := "ytgimdhmoloobkaa", sum := "584f9d3a4bbe3fa88ea36f434ad4f3686e0b0f63ae62d215ae1ebe76f45eb112", func := "euclid/euclidlaw13.PositivityRefuses", spec := "positivityRefuses", unfollowed := true, recurses := true, loops := true, apart := false }
def PositivityRefusesSaid : Prop := positivityRefusesRow.holds Try.pinned (OpenSpec.ofChange positivityRefusesSpec)

/-- ITS FALSE NEIGHBOUR: 'it returns false'. Refute it at one input. -/
def positivityRefusesWrong : ChangeSpec := { name := "positivityRefuses", fn := fun _ => fun
  | [d1, d2] => { results := [.lit (.bool false)], args := [d1, d2] }
  | _ => none }
def PositivityRefusesWrongFalsely : Prop := positivityRefusesRow.holds Try.pinned (OpenSpec.ofChange positivityRefusesWrong)

/-- 'euclidlaw13.PositivityAllows': WHATEVER THE INPUT: true; the input reads as it did. -/
def positivityAllowsSpec : ChangeSpec := { name := "positivityAllows", fn := fun _ => fun
  | [d] => { results := [.lit (.bool true)], args := [d] }
  | _ => none }
def positivityAllowsRow : OpenClaim := { program := "ytgimdhmoloobkaa", sum := "584f9d3a4bbe3fa88ea36f434ad4f3686e0b0f63ae62d215ae1ebe76f45eb112", func := "euclid/euclidlaw13.PositivityAllows", spec := "positivityAllows", unfollowed := true, recurses := true, loops := true, apart := false }
def PositivityAllowsSaid : Prop := positivityAllowsRow.holds Try.pinned (OpenSpec.ofChange positivityAllowsSpec)

/-- ITS FALSE NEIGHBOUR: 'it returns false'. Refute it at one input. -/
def positivityAllowsWrong : ChangeSpec := { name := "positivityAllows", fn := fun _ => fun
  | [d] => { results := [.lit (.bool false)], args := [d] }
  | _ => none }
def PositivityAllowsWrongFalsely : Prop := positivityAllowsRow.holds Try.pinned (OpenSpec.ofChange positivityAllowsWrong)

/-- 'euclidlaw12.FamilyFields': WHATEVER THE INPUT: true; the input reads as it did. -/
def familyFieldsSpec : ChangeSpec := { name := "familyFields", fn := fun _ => fun
  | [d] => { results := [.lit (.bool true)], args := [d] }
  | _ => none }
def familyFieldsRow : OpenClaim := { program := "ytgimdhmoloobkaa", sum := "584f9d3a4bbe3fa88ea36f434ad4f3686e0b0f63ae62d215ae1ebe76f45eb112", func := "euclid/euclidlaw12.FamilyFields", spec := "familyFields", unfollowed := true, recurses := true, loops := true, apart := false }
def FamilyFieldsSaid : Prop := familyFieldsRow.holds Try.pinned (OpenSpec.ofChange familyFieldsSpec)

/-- ITS FALSE NEIGHBOUR: 'it returns false'. Refute it at one input. -/
def familyFieldsWrong : ChangeSpec := { name := "familyFields", fn := fun _ => fun
  | [d] => { results := [.lit (.bool false)], args := [d] }
  | _ => none }
def FamilyFieldsWrongFalsely : Prop := familyFieldsRow.holds Try.pinned (OpenSpec.ofChange familyFieldsWrong)

/-- 'euclidlaw12.FamilyFinds': WHATEVER THE INPUT: true; the input reads as it did. -/
def familyFindsSpec : ChangeSpec := { name := "familyFinds", fn := fun _ => fun
  | [d1, d2] => { results := [.lit (.bool true)], args := [d1, d2] }
  | _ => none }
def familyFindsRow : OpenClaim := { program := "ytgimdhmoloobkaa", sum := "584f9d3a4bbe3fa88ea36f434ad4f3686e0b0f63ae62d215ae1ebe76f45eb112", func := "euclid/euclidlaw12.FamilyFinds", spec := "familyFinds", unfollowed := true, recurses := true, loops := true, apart := false }
def FamilyFindsSaid : Prop := familyFindsRow.holds Try.pinned (OpenSpec.ofChange familyFindsSpec)

/-- ITS FALSE NEIGHBOUR: 'it returns false'. Refute it at one input. -/
def familyFindsWrong : ChangeSpec := { name := "familyFinds", fn := fun _ => fun
  | [d1, d2] => { results := [.lit (.bool false)], args := [d1, d2] }
  | _ => none }
def FamilyFindsWrongFalsely : Prop := familyFindsRow.holds Try.pinned (OpenSpec.ofChange familyFindsWrong)

/-- 'euclidlaw13.PositivityArrows': WHATEVER THE INPUT: true; the input reads as it did. -/
def positivityArrowsSpec : ChangeSpec := { name := "positivityArrows", fn := fun _ => fun
  | [d1, d2, d3] => { results := [.lit (.bool true)], args := [d1, d2, d3] }
  | _ => none }
def positivityArrowsRow : OpenClaim := { program := "ytgimdhmoloobkaa", sum := "584f9d3a4bbe3fa88ea36f434ad4f3686e0b0f63ae62d215ae1ebe76f45eb112", func := "euclid/euclidlaw13.PositivityArrows", spec := "positivityArrows", unfollowed := true, recurses := true, loops := true, apart := false }
def PositivityArrowsSaid : Prop := positivityArrowsRow.holds Try.pinned (OpenSpec.ofChange positivityArrowsSpec)

/-- ITS FALSE NEIGHBOUR: 'it returns false'. Refute it at one input. -/
def positivityArrowsWrong : ChangeSpec := { name := "positivityArrows", fn := fun _ => fun
  | [d1, d2, d3] => { results := [.lit (.bool false)], args := [d1, d2, d3] }
  | _ => none }
def PositivityArrowsWrongFalsely : Prop := positivityArrowsRow.holds Try.pinned (OpenSpec.ofChange positivityArrowsWrong)

/- THE SECOND FORM. 'bulk': how many values and letters a reading holds, each counted each time it is reached (what is shared counts as often as it is met; a slice's spare places count too). A statement '..UptoSaid' is the law's where the arguments, and the package variables that the reading takes, are together of bulk at most 1048576: NARROWER than '..Said'. Prove '..Said' where nothing that the law and all that it calls make is longer than what came in: it says more and counts as full. Else prove '..UptoSaid'. A law counts once. -/
mutual
def uptoBulk {H : Type} : DataW H → Nat
  | .lit (.string bytes) => bytes.length + 1
  | .lit _ => 1
  | .nil => 1
  | .ptr d => uptoBulk d + 1
  | .slice elems spare => uptoBulkAll elems + uptoBulkAll spare + 1
  | .agg parts => uptoBulkAll parts + 1
  | .iface _ d => uptoBulk d + 1
  | .map entries => uptoBulkEntries entries + 1
  | .held _ => 1
def uptoBulkAll {H : Type} : List (DataW H) → Nat
  | [] => 0
  | d :: r => uptoBulk d + uptoBulkAll r
def uptoBulkEntries {H : Type} : List (Lit × DataW H) → Nat
  | [] => 0
  | x :: r => uptoBulkEntry x + uptoBulkEntries r
def uptoBulkEntry {H : Type} : Lit × DataW H → Nat
  | (.string bytes, d) => bytes.length + uptoBulk d + 1
  | (_, d) => uptoBulk d + 1
 end
def uptoSmall : (H : Type) → List (DataW H) → Bool := fun _ ds => decide (uptoBulkAll ds ≤ 1048576)
def OpenSpec.upto (s : _root_.Go.ChangeSpec) : _root_.Go.OpenSpec := { _root_.Go.OpenSpec.ofChange s with cond := some uptoSmall }

/-- 'euclidlaw12.FamilyAnalyses', WHERE WHAT IT READS IS OF BULK AT MOST 1048576: true; the input reads as it did. -/
def familyAnalysesUptoRow : OpenClaim := { program := "ytgimdhmoloobkaa", sum := "584f9d3a4bbe3fa88ea36f434ad4f3686e0b0f63ae62d215ae1ebe76f45eb112", func := "euclid/euclidlaw12.FamilyAnalyses", spec := "familyAnalyses", unfollowed := true, recurses := true, loops := true, apart := false, narrowed := true }
def FamilyAnalysesUptoSaid : Prop := familyAnalysesUptoRow.holds Try.pinned (OpenSpec.upto familyAnalysesSpec)

/-- 'euclidlaw12.FamilyParameters', WHERE WHAT IT READS IS OF BULK AT MOST 1048576: true; the input reads as it did. -/
def familyParametersUptoRow : OpenClaim := { program := "ytgimdhmoloobkaa", sum := "584f9d3a4bbe3fa88ea36f434ad4f3686e0b0f63ae62d215ae1ebe76f45eb112", func := "euclid/euclidlaw12.FamilyParameters", spec := "familyParameters", unfollowed := true, recurses := true, loops := true, apart := false, narrowed := true }
def FamilyParametersUptoSaid : Prop := familyParametersUptoRow.holds Try.pinned (OpenSpec.upto familyParametersSpec)

/-- 'euclidlaw12.FamilyTypes', WHERE WHAT IT READS IS OF BULK AT MOST 1048576: true; the input reads as it did. -/
def familyTypesUptoRow : OpenClaim := { program := "ytgimdhmoloobkaa", sum := "584f9d3a4bbe3fa88ea36f434ad4f3686e0b0f63ae62d215ae1ebe76f45eb112", func := "euclid/euclidlaw12.FamilyTypes", spec := "familyTypes", unfollowed := true, recurses := true, loops := true, apart := false, narrowed := true }
def FamilyTypesUptoSaid : Prop := familyTypesUptoRow.holds Try.pinned (OpenSpec.upto familyTypesSpec)

/-- 'euclidlaw12.FamilyRebuilds', WHERE WHAT IT READS IS OF BULK AT MOST 1048576: true; the input reads as it did. -/
def familyRebuildsUptoRow : OpenClaim := { program := "ytgimdhmoloobkaa", sum := "584f9d3a4bbe3fa88ea36f434ad4f3686e0b0f63ae62d215ae1ebe76f45eb112", func := "euclid/euclidlaw12.FamilyRebuilds", spec := "familyRebuilds", unfollowed := true, recurses := true, loops := true, apart := false, narrowed := true }
def FamilyRebuildsUptoSaid : Prop := familyRebuildsUptoRow.holds Try.pinned (OpenSpec.upto familyRebuildsSpec)

/-- 'euclidlaw12.FamilyApplied', WHERE WHAT IT READS IS OF BULK AT MOST 1048576: true; the input reads as it did. -/
def familyAppliedUptoRow : OpenClaim := { program := "ytgimdhmoloobkaa", sum := "584f9d3a4bbe3fa88ea36f434ad4f3686e0b0f63ae62d215ae1ebe76f45eb112", func := "euclid/euclidlaw12.FamilyApplied", spec := "familyApplied", unfollowed := true, recurses := true, loops := true, apart := false, narrowed := true }
def FamilyAppliedUptoSaid : Prop := familyAppliedUptoRow.holds Try.pinned (OpenSpec.upto familyAppliedSpec)

/-- 'euclidlaw13.PositivityChecks', WHERE WHAT IT READS IS OF BULK AT MOST 1048576: true; the input reads as it did. -/
def positivityChecksUptoRow : OpenClaim := { program := "ytgimdhmoloobkaa", sum := "584f9d3a4bbe3fa88ea36f434ad4f3686e0b0f63ae62d215ae1ebe76f45eb112", func := "euclid/euclidlaw13.PositivityChecks", spec := "positivityChecks", unfollowed := true, recurses := true, loops := true, apart := false, narrowed := true }
def PositivityChecksUptoSaid : Prop := positivityChecksUptoRow.holds Try.pinned (OpenSpec.upto positivityChecksSpec)

/-- 'euclidlaw13.PositivityTerms', WHERE WHAT IT READS IS OF BULK AT MOST 1048576: true; the input reads as it did. -/
def positivityTermsUptoRow : OpenClaim := { program := "ytgimdhmoloobkaa", sum := "584f9d3a4bbe3fa88ea36f434ad4f3686e0b0f63ae62d215ae1ebe76f45eb112", func := "euclid/euclidlaw13.PositivityTerms", spec := "positivityTerms", unfollowed := true, recurses := true, loops := true, apart := false, narrowed := true }
def PositivityTermsUptoSaid : Prop := positivityTermsUptoRow.holds Try.pinned (OpenSpec.upto positivityTermsSpec)

/-- 'euclidlaw13.PositivityBegins', WHERE WHAT IT READS IS OF BULK AT MOST 1048576: true; the input reads as it did. -/
def positivityBeginsUptoRow : OpenClaim := { program := "ytgimdhmoloobkaa", sum := "584f9d3a4bbe3fa88ea36f434ad4f3686e0b0f63ae62d215ae1ebe76f45eb112", func := "euclid/euclidlaw13.PositivityBegins", spec := "positivityBegins", unfollowed := true, recurses := true, loops := true, apart := false, narrowed := true }
def PositivityBeginsUptoSaid : Prop := positivityBeginsUptoRow.holds Try.pinned (OpenSpec.upto positivityBeginsSpec)

/-- 'euclidlaw13.PositivityRefuses', WHERE WHAT IT READS IS OF BULK AT MOST 1048576: true; the input reads as it did. -/
def positivityRefusesUptoRow : OpenClaim := { program := "ytgimdhmoloobkaa", sum := "584f9d3a4bbe3fa88ea36f434ad4f3686e0b0f63ae62d215ae1ebe76f45eb112", func := "euclid/euclidlaw13.PositivityRefuses", spec := "positivityRefuses", unfollowed := true, recurses := true, loops := true, apart := false, narrowed := true }
def PositivityRefusesUptoSaid : Prop := positivityRefusesUptoRow.holds Try.pinned (OpenSpec.upto positivityRefusesSpec)

/-- 'euclidlaw13.PositivityAllows', WHERE WHAT IT READS IS OF BULK AT MOST 1048576: true; the input reads as it did. -/
def positivityAllowsUptoRow : OpenClaim := { program := "ytgimdhmoloobkaa", sum := "584f9d3a4bbe3fa88ea36f434ad4f3686e0b0f63ae62d215ae1ebe76f45eb112", func := "euclid/euclidlaw13.PositivityAllows", spec := "positivityAllows", unfollowed := true, recurses := true, loops := true, apart := false, narrowed := true }
def PositivityAllowsUptoSaid : Prop := positivityAllowsUptoRow.holds Try.pinned (OpenSpec.upto positivityAllowsSpec)

/-- 'euclidlaw12.FamilyFields', WHERE WHAT IT READS IS OF BULK AT MOST 1048576: true; the input reads as it did. -/
def familyFieldsUptoRow : OpenClaim := { program := "ytgimdhmoloobkaa", sum := "584f9d3a4bbe3fa88ea36f434ad4f3686e0b0f63ae62d215ae1ebe76f45eb112", func := "euclid/euclidlaw12.FamilyFields", spec := "familyFields", unfollowed := true, recurses := true, loops := true, apart := false, narrowed := true }
def FamilyFieldsUptoSaid : Prop := familyFieldsUptoRow.holds Try.pinned (OpenSpec.upto familyFieldsSpec)

/-- 'euclidlaw12.FamilyFinds', WHERE WHAT IT READS IS OF BULK AT MOST 1048576: true; the input reads as it did. -/
def familyFindsUptoRow : OpenClaim := { program := "ytgimdhmoloobkaa", sum := "584f9d3a4bbe3fa88ea36f434ad4f3686e0b0f63ae62d215ae1ebe76f45eb112", func := "euclid/euclidlaw12.FamilyFinds", spec := "familyFinds", unfollowed := true, recurses := true, loops := true, apart := false, narrowed := true }
def FamilyFindsUptoSaid : Prop := familyFindsUptoRow.holds Try.pinned (OpenSpec.upto familyFindsSpec)

/-- 'euclidlaw13.PositivityArrows', WHERE WHAT IT READS IS OF BULK AT MOST 1048576: true; the input reads as it did. -/
def positivityArrowsUptoRow : OpenClaim := { program := "ytgimdhmoloobkaa", sum := "584f9d3a4bbe3fa88ea36f434ad4f3686e0b0f63ae62d215ae1ebe76f45eb112", func := "euclid/euclidlaw13.PositivityArrows", spec := "positivityArrows", unfollowed := true, recurses := true, loops := true, apart := false, narrowed := true }
def PositivityArrowsUptoSaid : Prop := positivityArrowsUptoRow.holds Try.pinned (OpenSpec.upto positivityArrowsSpec)

end Rows
end Go.Proofs.Ytgimdhmoloobkaa
