/-
  NARROWER THAN 'FOR EVERY INPUT', by the rows' own cells (each row's printed sentence says how): CategoryPuts: laid · CategoryAsks: laid · CategoryVisible: laid · CategoryRows: laid · CategorySteps: laid · CategoryAgrees: laid · CategoryBelow: laid.
  DERIVED. THE GIVEN ROWS OF THIS SEAT. 7 by the template 'for every input the law returns true; each argument reads behind the call as it read before'; 0 by the template 'total and deterministic' (their statements: YtjblgpmagampbaaGreatDoorTotals.lean).
  GIVEN WITH THE SEED: the statements are not yours to turn. If you find one false, say at which input.
  Laid BY PROGRAM, IN A SANDBOX (cutbox-rows.mjs): the forced cells as the released guide's own fill.sh prints them over the translation ca36fb67d576dcbd… (all of the seat's roots in one cut). By AI agents, Wed Nov 11 2026. No macro, syntax, notation, axiom, sorry.
-/
import Derived.Test.YtjblgpmagampbaaGreatDoorChecked
import GoSem.PinnedTables
import GoSem.Claim
import GoSem.ClaimJoined
import GoSem.ClaimMapViews
import Derived.JoinedTies
import Derived.KernelRfl
namespace Go.Proofs.YtjblgpmagampbaaGreatDoor
/- THE CELL 'sum', in the pinned program and in every row, IS THE sha256 OF THE DUMP (.gsa) THAT YtjblgpmagampbaaGreatDoorProg.lean LOADS. Nothing in Lean hashes anything: it is a label: what it is worth is what the hold of that sum in a sandbox is worth. -/
noncomputable def Tryz.pinned : Pinned := { name := "ytjblgpmagampbaagreatdoor", sum := "ca36fb67d576dcbd3a36ab08b7566ce5c5c6a5e0d02fdb07864180957f7e5c9f", checked := Tryz.checked }
namespace Rows
def none {H : Type} : Left H := { results := [], args := [] }

/- WHAT THE LISTED PACKAGE-LEVEL VARIABLES READ AS WHEN THE CALL BEGINS. Each datum BY PROGRAM (the guide's laid-datum.mjs) off the statement by which the dump's own 'gosem.cut.vars' lays the variable. In a bare row this is a premise. The card (YtjblgpmagampbaaGreatDoorCards.lean) ties it to the program's text. -/
def laid_unicode_utf8_acceptRanges {H : Type} : DataW H := .agg [.agg [.lit (.int .u8 128), .lit (.int .u8 191)], .agg [.lit (.int .u8 160), .lit (.int .u8 191)], .agg [.lit (.int .u8 128), .lit (.int .u8 159)], .agg [.lit (.int .u8 144), .lit (.int .u8 191)], .agg [.lit (.int .u8 128), .lit (.int .u8 143)], .agg [.lit (.int .u8 0), .lit (.int .u8 0)], .agg [.lit (.int .u8 0), .lit (.int .u8 0)], .agg [.lit (.int .u8 0), .lit (.int .u8 0)], .agg [.lit (.int .u8 0), .lit (.int .u8 0)], .agg [.lit (.int .u8 0), .lit (.int .u8 0)], .agg [.lit (.int .u8 0), .lit (.int .u8 0)], .agg [.lit (.int .u8 0), .lit (.int .u8 0)], .agg [.lit (.int .u8 0), .lit (.int .u8 0)], .agg [.lit (.int .u8 0), .lit (.int .u8 0)], .agg [.lit (.int .u8 0), .lit (.int .u8 0)], .agg [.lit (.int .u8 0), .lit (.int .u8 0)]]
/-- One of Go's own tables, pinned by name: the form's constant. -/
def laid_unicode_utf8_first : DataW Unit := Go.Pinned.utf8First

/-- 'trclaw34.CategoryPuts': WHATEVER THE INPUT: true; the input reads as it did. -/
def categoryPutsSpec : ChangeSpec := { name := "categoryPuts", fn := fun _ => fun
  | [d1, d2, d3, d4, d5, d6] => { results := [.lit (.bool true)], args := [d1, d2, d3, d4, d5, d6] }
  | _ => none }
def categoryPutsRow : OpenClaim := { program := "ytjblgpmagampbaagreatdoor", sum := "ca36fb67d576dcbd3a36ab08b7566ce5c5c6a5e0d02fdb07864180957f7e5c9f", func := "transclude/trclaw34.CategoryPuts", spec := "categoryPuts", inPlace := ["internal/bytealg.IndexByteString", "internal/bytealg.IndexString", "internal/abi.NoEscape", "internal/bytealg.MakeNoZero", "internal/bytealg.CountString", "internal/bytealg.abigen_runtime_cmpstring"], unfollowed := true, recurses := true, named := ["internal/bytealg.MaxLen", "unicode/utf8.first", "unicode/utf8.acceptRanges"], plainKeys := false, apart := false, laid := [("unicode/utf8.acceptRanges", laid_unicode_utf8_acceptRanges), ("unicode/utf8.first", laid_unicode_utf8_first)] }
def CategoryPutsSaid : Prop := categoryPutsRow.holds Tryz.pinned (OpenSpec.ofChange categoryPutsSpec)

/-- ITS FALSE NEIGHBOUR: 'it returns false'. Refute it at one input. -/
def categoryPutsWrong : ChangeSpec := { name := "categoryPuts", fn := fun _ => fun
  | [d1, d2, d3, d4, d5, d6] => { results := [.lit (.bool false)], args := [d1, d2, d3, d4, d5, d6] }
  | _ => none }
def CategoryPutsWrongFalsely : Prop := categoryPutsRow.holds Tryz.pinned (OpenSpec.ofChange categoryPutsWrong)

/-- 'trclaw34.CategoryAsks': WHATEVER THE INPUT: true; the input reads as it did. -/
def categoryAsksSpec : ChangeSpec := { name := "categoryAsks", fn := fun _ => fun
  | [d1, d2, d3, d4, d5, d6, d7] => { results := [.lit (.bool true)], args := [d1, d2, d3, d4, d5, d6, d7] }
  | _ => none }
def categoryAsksRow : OpenClaim := { program := "ytjblgpmagampbaagreatdoor", sum := "ca36fb67d576dcbd3a36ab08b7566ce5c5c6a5e0d02fdb07864180957f7e5c9f", func := "transclude/trclaw34.CategoryAsks", spec := "categoryAsks", inPlace := ["internal/bytealg.IndexByteString", "internal/bytealg.IndexString", "internal/abi.NoEscape", "internal/bytealg.MakeNoZero", "internal/bytealg.CountString", "internal/bytealg.abigen_runtime_cmpstring"], unfollowed := true, recurses := true, named := ["internal/bytealg.MaxLen", "unicode/utf8.first", "unicode/utf8.acceptRanges"], plainKeys := false, apart := false, laid := [("unicode/utf8.acceptRanges", laid_unicode_utf8_acceptRanges), ("unicode/utf8.first", laid_unicode_utf8_first)] }
def CategoryAsksSaid : Prop := categoryAsksRow.holds Tryz.pinned (OpenSpec.ofChange categoryAsksSpec)

/-- ITS FALSE NEIGHBOUR: 'it returns false'. Refute it at one input. -/
def categoryAsksWrong : ChangeSpec := { name := "categoryAsks", fn := fun _ => fun
  | [d1, d2, d3, d4, d5, d6, d7] => { results := [.lit (.bool false)], args := [d1, d2, d3, d4, d5, d6, d7] }
  | _ => none }
def CategoryAsksWrongFalsely : Prop := categoryAsksRow.holds Tryz.pinned (OpenSpec.ofChange categoryAsksWrong)

/-- 'trclaw34.CategoryVisible': WHATEVER THE INPUT: true; the input reads as it did. -/
def categoryVisibleSpec : ChangeSpec := { name := "categoryVisible", fn := fun _ => fun
  | [d1, d2, d3, d4] => { results := [.lit (.bool true)], args := [d1, d2, d3, d4] }
  | _ => none }
def categoryVisibleRow : OpenClaim := { program := "ytjblgpmagampbaagreatdoor", sum := "ca36fb67d576dcbd3a36ab08b7566ce5c5c6a5e0d02fdb07864180957f7e5c9f", func := "transclude/trclaw34.CategoryVisible", spec := "categoryVisible", inPlace := ["internal/bytealg.IndexByteString", "internal/bytealg.IndexString", "internal/abi.NoEscape", "internal/bytealg.MakeNoZero", "internal/bytealg.CountString", "internal/bytealg.abigen_runtime_cmpstring"], unfollowed := true, recurses := true, named := ["internal/bytealg.MaxLen", "unicode/utf8.first", "unicode/utf8.acceptRanges"], plainKeys := false, apart := false, laid := [("unicode/utf8.acceptRanges", laid_unicode_utf8_acceptRanges), ("unicode/utf8.first", laid_unicode_utf8_first)] }
def CategoryVisibleSaid : Prop := categoryVisibleRow.holds Tryz.pinned (OpenSpec.ofChange categoryVisibleSpec)

/-- ITS FALSE NEIGHBOUR: 'it returns false'. Refute it at one input. -/
def categoryVisibleWrong : ChangeSpec := { name := "categoryVisible", fn := fun _ => fun
  | [d1, d2, d3, d4] => { results := [.lit (.bool false)], args := [d1, d2, d3, d4] }
  | _ => none }
def CategoryVisibleWrongFalsely : Prop := categoryVisibleRow.holds Tryz.pinned (OpenSpec.ofChange categoryVisibleWrong)

/-- 'trclaw34.CategoryRows': WHATEVER THE INPUT: true; the input reads as it did. -/
def categoryRowsSpec : ChangeSpec := { name := "categoryRows", fn := fun _ => fun
  | [d1, d2, d3, d4] => { results := [.lit (.bool true)], args := [d1, d2, d3, d4] }
  | _ => none }
def categoryRowsRow : OpenClaim := { program := "ytjblgpmagampbaagreatdoor", sum := "ca36fb67d576dcbd3a36ab08b7566ce5c5c6a5e0d02fdb07864180957f7e5c9f", func := "transclude/trclaw34.CategoryRows", spec := "categoryRows", inPlace := ["internal/bytealg.IndexByteString", "internal/bytealg.IndexString", "internal/abi.NoEscape", "internal/bytealg.MakeNoZero", "internal/bytealg.CountString", "internal/bytealg.abigen_runtime_cmpstring"], unfollowed := true, recurses := true, named := ["internal/bytealg.MaxLen", "unicode/utf8.first", "unicode/utf8.acceptRanges"], plainKeys := false, apart := false, laid := [("unicode/utf8.acceptRanges", laid_unicode_utf8_acceptRanges), ("unicode/utf8.first", laid_unicode_utf8_first)] }
def CategoryRowsSaid : Prop := categoryRowsRow.holds Tryz.pinned (OpenSpec.ofChange categoryRowsSpec)

/-- ITS FALSE NEIGHBOUR: 'it returns false'. Refute it at one input. -/
def categoryRowsWrong : ChangeSpec := { name := "categoryRows", fn := fun _ => fun
  | [d1, d2, d3, d4] => { results := [.lit (.bool false)], args := [d1, d2, d3, d4] }
  | _ => none }
def CategoryRowsWrongFalsely : Prop := categoryRowsRow.holds Tryz.pinned (OpenSpec.ofChange categoryRowsWrong)

/-- 'trclaw34.CategorySteps': WHATEVER THE INPUT: true; the input reads as it did. -/
def categoryStepsSpec : ChangeSpec := { name := "categorySteps", fn := fun _ => fun
  | [d1, d2, d3] => { results := [.lit (.bool true)], args := [d1, d2, d3] }
  | _ => none }
def categoryStepsRow : OpenClaim := { program := "ytjblgpmagampbaagreatdoor", sum := "ca36fb67d576dcbd3a36ab08b7566ce5c5c6a5e0d02fdb07864180957f7e5c9f", func := "transclude/trclaw34.CategorySteps", spec := "categorySteps", inPlace := ["internal/bytealg.IndexByteString", "internal/bytealg.IndexString", "internal/abi.NoEscape", "internal/bytealg.MakeNoZero", "internal/bytealg.CountString", "internal/bytealg.abigen_runtime_cmpstring"], unfollowed := true, recurses := true, named := ["internal/bytealg.MaxLen", "unicode/utf8.first", "unicode/utf8.acceptRanges"], plainKeys := false, apart := false, laid := [("unicode/utf8.acceptRanges", laid_unicode_utf8_acceptRanges), ("unicode/utf8.first", laid_unicode_utf8_first)] }
def CategoryStepsSaid : Prop := categoryStepsRow.holds Tryz.pinned (OpenSpec.ofChange categoryStepsSpec)

/-- ITS FALSE NEIGHBOUR: 'it returns false'. Refute it at one input. -/
def categoryStepsWrong : ChangeSpec := { name := "categorySteps", fn := fun _ => fun
  | [d1, d2, d3] => { results := [.lit (.bool false)], args := [d1, d2, d3] }
  | _ => none }
def CategoryStepsWrongFalsely : Prop := categoryStepsRow.holds Tryz.pinned (OpenSpec.ofChange categoryStepsWrong)

/-- 'trclaw34.CategoryAgrees': WHATEVER THE INPUT: true; the input reads as it did. -/
def categoryAgreesSpec : ChangeSpec := { name := "categoryAgrees", fn := fun _ => fun
  | [d1, d2, d3] => { results := [.lit (.bool true)], args := [d1, d2, d3] }
  | _ => none }
def categoryAgreesRow : OpenClaim := { program := "ytjblgpmagampbaagreatdoor", sum := "ca36fb67d576dcbd3a36ab08b7566ce5c5c6a5e0d02fdb07864180957f7e5c9f", func := "transclude/trclaw34.CategoryAgrees", spec := "categoryAgrees", inPlace := ["internal/bytealg.IndexByteString", "internal/bytealg.IndexString", "internal/abi.NoEscape", "internal/bytealg.MakeNoZero", "internal/bytealg.CountString", "internal/bytealg.abigen_runtime_cmpstring"], unfollowed := true, recurses := true, named := ["internal/bytealg.MaxLen", "unicode/utf8.first", "unicode/utf8.acceptRanges"], plainKeys := false, apart := false, laid := [("unicode/utf8.acceptRanges", laid_unicode_utf8_acceptRanges), ("unicode/utf8.first", laid_unicode_utf8_first)] }
def CategoryAgreesSaid : Prop := categoryAgreesRow.holds Tryz.pinned (OpenSpec.ofChange categoryAgreesSpec)

/-- ITS FALSE NEIGHBOUR: 'it returns false'. Refute it at one input. -/
def categoryAgreesWrong : ChangeSpec := { name := "categoryAgrees", fn := fun _ => fun
  | [d1, d2, d3] => { results := [.lit (.bool false)], args := [d1, d2, d3] }
  | _ => none }
def CategoryAgreesWrongFalsely : Prop := categoryAgreesRow.holds Tryz.pinned (OpenSpec.ofChange categoryAgreesWrong)

/-- 'trclaw34.CategoryBelow': WHATEVER THE INPUT: true; the input reads as it did. -/
def categoryBelowSpec : ChangeSpec := { name := "categoryBelow", fn := fun _ => fun
  | [d1, d2, d3, d4, d5] => { results := [.lit (.bool true)], args := [d1, d2, d3, d4, d5] }
  | _ => none }
def categoryBelowRow : OpenClaim := { program := "ytjblgpmagampbaagreatdoor", sum := "ca36fb67d576dcbd3a36ab08b7566ce5c5c6a5e0d02fdb07864180957f7e5c9f", func := "transclude/trclaw34.CategoryBelow", spec := "categoryBelow", inPlace := ["internal/bytealg.IndexByteString", "internal/bytealg.IndexString", "internal/abi.NoEscape", "internal/bytealg.MakeNoZero", "internal/bytealg.CountString", "internal/bytealg.abigen_runtime_cmpstring"], unfollowed := true, recurses := true, named := ["internal/bytealg.MaxLen", "unicode/utf8.first", "unicode/utf8.acceptRanges"], plainKeys := false, apart := false, laid := [("unicode/utf8.acceptRanges", laid_unicode_utf8_acceptRanges), ("unicode/utf8.first", laid_unicode_utf8_first)] }
def CategoryBelowSaid : Prop := categoryBelowRow.holds Tryz.pinned (OpenSpec.ofChange categoryBelowSpec)

/-- ITS FALSE NEIGHBOUR: 'it returns false'. Refute it at one input. -/
def categoryBelowWrong : ChangeSpec := { name := "categoryBelow", fn := fun _ => fun
  | [d1, d2, d3, d4, d5] => { results := [.lit (.bool false)], args := [d1, d2, d3, d4, d5] }
  | _ => none }
def CategoryBelowWrongFalsely : Prop := categoryBelowRow.holds Tryz.pinned (OpenSpec.ofChange categoryBelowWrong)

/- THE SECOND FORM. 'bulk': how many values and letters a reading holds, each counted each time it is reached (what is shared counts as often as it is met; a slice's spare places count too). A statement '..UptoSaid' is the law's where the arguments, and the package variables that the reading takes, are together of bulk at most 1048576: NARROWER than '..Said'. Prove '..Said' where nothing that the law and all that it calls make is longer than what came in: it says more and counts as full. Else prove '..UptoSaid'. A law counts once. -/
mutual
def uptoBulk {H : Type} : DataW H → Nat
  | .lit (.string bytes) => bytes.length + 1
  | .lit _ => 1
  | .nil => 1
  | .ptr d => uptoBulk d + 1
  | .slice elems spare => uptoBulkAll elems + uptoBulkAll spare + 1
  | .agg parts => uptoBulkAll parts + 1
  | .iface _ d => uptoBulk d + 1
  | .map entries => uptoBulkEntries entries + 1
  | .held _ => 1
def uptoBulkAll {H : Type} : List (DataW H) → Nat
  | [] => 0
  | d :: r => uptoBulk d + uptoBulkAll r
def uptoBulkEntries {H : Type} : List (Lit × DataW H) → Nat
  | [] => 0
  | x :: r => uptoBulkEntry x + uptoBulkEntries r
def uptoBulkEntry {H : Type} : Lit × DataW H → Nat
  | (.string bytes, d) => bytes.length + uptoBulk d + 1
  | (_, d) => uptoBulk d + 1
 end
def uptoSmall : (H : Type) → List (DataW H) → Bool := fun _ ds => decide (uptoBulkAll ds ≤ 1048576)
def OpenSpec.upto (s : _root_.Go.ChangeSpec) : _root_.Go.OpenSpec := { _root_.Go.OpenSpec.ofChange s with cond := some uptoSmall }

/-- 'trclaw34.CategoryPuts', WHERE WHAT IT READS IS OF BULK AT MOST 1048576: true; the input reads as it did. -/
def categoryPutsUptoRow : OpenClaim := { program := "ytjblgpmagampbaagreatdoor", sum := "ca36fb67d576dcbd3a36ab08b7566ce5c5c6a5e0d02fdb07864180957f7e5c9f", func := "transclude/trclaw34.CategoryPuts", spec := "categoryPuts", inPlace := ["internal/bytealg.IndexByteString", "internal/bytealg.IndexString", "internal/abi.NoEscape", "internal/bytealg.MakeNoZero", "internal/bytealg.CountString", "internal/bytealg.abigen_runtime_cmpstring"], unfollowed := true, recurses := true, named := ["internal/bytealg.MaxLen", "unicode/utf8.first", "unicode/utf8.acceptRanges"], plainKeys := false, apart := false, laid := [("unicode/utf8.acceptRanges", laid_unicode_utf8_acceptRanges), ("unicode/utf8.first", laid_unicode_utf8_first)], narrowed := true }
def CategoryPutsUptoSaid : Prop := categoryPutsUptoRow.holds Tryz.pinned (OpenSpec.upto categoryPutsSpec)

/-- 'trclaw34.CategoryAsks', WHERE WHAT IT READS IS OF BULK AT MOST 1048576: true; the input reads as it did. -/
def categoryAsksUptoRow : OpenClaim := { program := "ytjblgpmagampbaagreatdoor", sum := "ca36fb67d576dcbd3a36ab08b7566ce5c5c6a5e0d02fdb07864180957f7e5c9f", func := "transclude/trclaw34.CategoryAsks", spec := "categoryAsks", inPlace := ["internal/bytealg.IndexByteString", "internal/bytealg.IndexString", "internal/abi.NoEscape", "internal/bytealg.MakeNoZero", "internal/bytealg.CountString", "internal/bytealg.abigen_runtime_cmpstring"], unfollowed := true, recurses := true, named := ["internal/bytealg.MaxLen", "unicode/utf8.first", "unicode/utf8.acceptRanges"], plainKeys := false, apart := false, laid := [("unicode/utf8.acceptRanges", laid_unicode_utf8_acceptRanges), ("unicode/utf8.first", laid_unicode_utf8_first)], narrowed := true }
def CategoryAsksUptoSaid : Prop := categoryAsksUptoRow.holds Tryz.pinned (OpenSpec.upto categoryAsksSpec)

/-- 'trclaw34.CategoryVisible', WHERE WHAT IT READS IS OF BULK AT MOST 1048576: true; the input reads as it did. -/
def categoryVisibleUptoRow : OpenClaim := { program := "ytjblgpmagampbaagreatdoor", sum := "ca36fb67d576dcbd3a36ab08b7566ce5c5c6a5e0d02fdb07864180957f7e5c9f", func := "transclude/trclaw34.CategoryVisible", spec := "categoryVisible", inPlace := ["internal/bytealg.IndexByteString", "internal/bytealg.IndexString", "internal/abi.NoEscape", "internal/bytealg.MakeNoZero", "internal/bytealg.CountString", "internal/bytealg.abigen_runtime_cmpstring"], unfollowed := true, recurses := true, named := ["internal/bytealg.MaxLen", "unicode/utf8.first", "unicode/utf8.acceptRanges"], plainKeys := false, apart := false, laid := [("unicode/utf8.acceptRanges", laid_unicode_utf8_acceptRanges), ("unicode/utf8.first", laid_unicode_utf8_first)], narrowed := true }
def CategoryVisibleUptoSaid : Prop := categoryVisibleUptoRow.holds Tryz.pinned (OpenSpec.upto categoryVisibleSpec)

/-- 'trclaw34.CategoryRows', WHERE WHAT IT READS IS OF BULK AT MOST 1048576: true; the input reads as it did. -/
def categoryRowsUptoRow : OpenClaim := { program := "ytjblgpmagampbaagreatdoor", sum := "ca36fb67d576dcbd3a36ab08b7566ce5c5c6a5e0d02fdb07864180957f7e5c9f", func := "transclude/trclaw34.CategoryRows", spec := "categoryRows", inPlace := ["internal/bytealg.IndexByteString", "internal/bytealg.IndexString", "internal/abi.NoEscape", "internal/bytealg.MakeNoZero", "internal/bytealg.CountString", "internal/bytealg.abigen_runtime_cmpstring"], unfollowed := true, recurses := true, named := ["internal/bytealg.MaxLen", "unicode/utf8.first", "unicode/utf8.acceptRanges"], plainKeys := false, apart := false, laid := [("unicode/utf8.acceptRanges", laid_unicode_utf8_acceptRanges), ("unicode/utf8.first", laid_unicode_utf8_first)], narrowed := true }
def CategoryRowsUptoSaid : Prop := categoryRowsUptoRow.holds Tryz.pinned (OpenSpec.upto categoryRowsSpec)

/-- 'trclaw34.CategorySteps', WHERE WHAT IT READS IS OF BULK AT MOST 1048576: true; the input reads as it did. -/
def categoryStepsUptoRow : OpenClaim := { program := "ytjblgpmagampbaagreatdoor", sum := "ca36fb67d576dcbd3a36ab08b7566ce5c5c6a5e0d02fdb07864180957f7e5c9f", func := "transclude/trclaw34.CategorySteps", spec := "categorySteps", inPlace := ["internal/bytealg.IndexByteString", "internal/bytealg.IndexString", "internal/abi.NoEscape", "internal/bytealg.MakeNoZero", "internal/bytealg.CountString", "internal/bytealg.abigen_runtime_cmpstring"], unfollowed := true, recurses := true, named := ["internal/bytealg.MaxLen", "unicode/utf8.first", "unicode/utf8.acceptRanges"], plainKeys := false, apart := false, laid := [("unicode/utf8.acceptRanges", laid_unicode_utf8_acceptRanges), ("unicode/utf8.first", laid_unicode_utf8_first)], narrowed := true }
def CategoryStepsUptoSaid : Prop := categoryStepsUptoRow.holds Tryz.pinned (OpenSpec.upto categoryStepsSpec)

/-- 'trclaw34.CategoryAgrees', WHERE WHAT IT READS IS OF BULK AT MOST 1048576: true; the input reads as it did. -/
def categoryAgreesUptoRow : OpenClaim := { program := "ytjblgpmagampbaagreatdoor", sum := "ca36fb67d576dcbd3a36ab08b7566ce5c5c6a5e0d02fdb07864180957f7e5c9f", func := "transclude/trclaw34.CategoryAgrees", spec := "categoryAgrees", inPlace := ["internal/bytealg.IndexByteString", "internal/bytealg.IndexString", "internal/abi.NoEscape", "internal/bytealg.MakeNoZero", "internal/bytealg.CountString", "internal/bytealg.abigen_runtime_cmpstring"], unfollowed := true, recurses := true, named := ["internal/bytealg.MaxLen", "unicode/utf8.first", "unicode/utf8.acceptRanges"], plainKeys := false, apart := false, laid := [("unicode/utf8.acceptRanges", laid_unicode_utf8_acceptRanges), ("unicode/utf8.first", laid_unicode_utf8_first)], narrowed := true }
def CategoryAgreesUptoSaid : Prop := categoryAgreesUptoRow.holds Tryz.pinned (OpenSpec.upto categoryAgreesSpec)

/-- 'trclaw34.CategoryBelow', WHERE WHAT IT READS IS OF BULK AT MOST 1048576: true; the input reads as it did. -/
def categoryBelowUptoRow : OpenClaim := { program := "ytjblgpmagampbaagreatdoor", sum := "ca36fb67d576dcbd3a36ab08b7566ce5c5c6a5e0d02fdb07864180957f7e5c9f", func := "transclude/trclaw34.CategoryBelow", spec := "categoryBelow", inPlace := ["internal/bytealg.IndexByteString", "internal/bytealg.IndexString", "internal/abi.NoEscape", "internal/bytealg.MakeNoZero", "internal/bytealg.CountString", "internal/bytealg.abigen_runtime_cmpstring"], unfollowed := true, recurses := true, named := ["internal/bytealg.MaxLen", "unicode/utf8.first", "unicode/utf8.acceptRanges"], plainKeys := false, apart := false, laid := [("unicode/utf8.acceptRanges", laid_unicode_utf8_acceptRanges), ("unicode/utf8.first", laid_unicode_utf8_first)], narrowed := true }
def CategoryBelowUptoSaid : Prop := categoryBelowUptoRow.holds Tryz.pinned (OpenSpec.upto categoryBelowSpec)

end Rows
end Go.Proofs.YtjblgpmagampbaaGreatDoor
