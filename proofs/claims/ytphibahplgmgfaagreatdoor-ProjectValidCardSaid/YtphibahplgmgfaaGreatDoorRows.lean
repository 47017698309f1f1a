/-
  NARROWER THAN 'FOR EVERY INPUT', by the rows' own cells (each row's printed sentence says how): ProjectViews: laid · ProjectSame: laid · ProjectValid: laid · ProjectOnly: laid · ProjectHidden: laid · ProjectTick: laid · ProjectOrder: laid.
  DERIVED. THE GIVEN ROWS OF THIS SEAT. 7 by the template 'for every input the law returns true; each argument reads behind the call as it read before'; 0 by the template 'total and deterministic' (their statements: YtphibahplgmgfaaGreatDoorTotals.lean).
  GIVEN WITH THE SEED: the statements are not yours to turn. If you find one false, say at which input.
  Laid BY PROGRAM, IN A SANDBOX (cutbox-rows.mjs): the forced cells as the released guide's own fill.sh prints them over the translation 1cff566e9356b482… (all of the seat's roots in one cut). By AI agents, Wed Nov 11 2026. No macro, syntax, notation, axiom, sorry.
-/
import Derived.Test.YtphibahplgmgfaaGreatDoorChecked
import GoSem.PinnedTables
import GoSem.Claim
import GoSem.ClaimJoined
import GoSem.ClaimMapViews
import Derived.JoinedTies
import Derived.KernelRfl
namespace Go.Proofs.YtphibahplgmgfaaGreatDoor
/- THE CELL 'sum', in the pinned program and in every row, IS THE sha256 OF THE DUMP (.gsa) THAT YtphibahplgmgfaaGreatDoorProg.lean LOADS. Nothing in Lean hashes anything: it is a label: what it is worth is what the hold of that sum in a sandbox is worth. -/
noncomputable def Tryz.pinned : Pinned := { name := "ytphibahplgmgfaagreatdoor", sum := "1cff566e9356b482128024d0813e610ce09c3c4e9a6b3a4c43f6bb008881f080", checked := Tryz.checked }
namespace Rows
def none {H : Type} : Left H := { results := [], args := [] }

/- WHAT THE LISTED PACKAGE-LEVEL VARIABLES READ AS WHEN THE CALL BEGINS. Each datum BY PROGRAM (the guide's laid-datum.mjs) off the statement by which the dump's own 'gosem.cut.vars' lays the variable. In a bare row this is a premise. The card (YtphibahplgmgfaaGreatDoorCards.lean) ties it to the program's text. -/
def laid_unicode_utf8_acceptRanges {H : Type} : DataW H := .agg [.agg [.lit (.int .u8 128), .lit (.int .u8 191)], .agg [.lit (.int .u8 160), .lit (.int .u8 191)], .agg [.lit (.int .u8 128), .lit (.int .u8 159)], .agg [.lit (.int .u8 144), .lit (.int .u8 191)], .agg [.lit (.int .u8 128), .lit (.int .u8 143)], .agg [.lit (.int .u8 0), .lit (.int .u8 0)], .agg [.lit (.int .u8 0), .lit (.int .u8 0)], .agg [.lit (.int .u8 0), .lit (.int .u8 0)], .agg [.lit (.int .u8 0), .lit (.int .u8 0)], .agg [.lit (.int .u8 0), .lit (.int .u8 0)], .agg [.lit (.int .u8 0), .lit (.int .u8 0)], .agg [.lit (.int .u8 0), .lit (.int .u8 0)], .agg [.lit (.int .u8 0), .lit (.int .u8 0)], .agg [.lit (.int .u8 0), .lit (.int .u8 0)], .agg [.lit (.int .u8 0), .lit (.int .u8 0)], .agg [.lit (.int .u8 0), .lit (.int .u8 0)]]
def laid_transclude_edit_rules {H : Type} : DataW H := .agg [.lit (.int .i64 5), .lit (.string [80, 111, 108, 105, 99, 121])]
/-- One of Go's own tables, pinned by name: the form's constant. -/
def laid_unicode_utf8_first : DataW Unit := Go.Pinned.utf8First

/-- 'trclaw31.ProjectViews': WHATEVER THE INPUT: true; the input reads as it did. -/
def projectViewsSpec : ChangeSpec := { name := "projectViews", fn := fun _ => fun
  | [d1, d2, d3, d4, d5, d6] => { results := [.lit (.bool true)], args := [d1, d2, d3, d4, d5, d6] }
  | _ => none }
def projectViewsRow : OpenClaim := { program := "ytphibahplgmgfaagreatdoor", sum := "1cff566e9356b482128024d0813e610ce09c3c4e9a6b3a4c43f6bb008881f080", func := "transclude/trclaw31.ProjectViews", spec := "projectViews", inPlace := ["internal/bytealg.CountString", "internal/bytealg.IndexByteString", "internal/bytealg.IndexString", "internal/abi.NoEscape", "internal/bytealg.MakeNoZero"], unfollowed := true, recurses := true, named := ["transclude/edit.rules", "unicode/utf8.first", "unicode/utf8.acceptRanges", "internal/bytealg.MaxLen"], apart := false, laid := [("unicode/utf8.acceptRanges", laid_unicode_utf8_acceptRanges), ("transclude/edit.rules", laid_transclude_edit_rules), ("unicode/utf8.first", laid_unicode_utf8_first)] }
def ProjectViewsSaid : Prop := projectViewsRow.holds Tryz.pinned (OpenSpec.ofChange projectViewsSpec)

/-- ITS FALSE NEIGHBOUR: 'it returns false'. Refute it at one input. -/
def projectViewsWrong : ChangeSpec := { name := "projectViews", fn := fun _ => fun
  | [d1, d2, d3, d4, d5, d6] => { results := [.lit (.bool false)], args := [d1, d2, d3, d4, d5, d6] }
  | _ => none }
def ProjectViewsWrongFalsely : Prop := projectViewsRow.holds Tryz.pinned (OpenSpec.ofChange projectViewsWrong)

/-- 'trclaw31.ProjectSame': WHATEVER THE INPUT: true; the input reads as it did. -/
def projectSameSpec : ChangeSpec := { name := "projectSame", fn := fun _ => fun
  | [d1, d2, d3, d4, d5, d6, d7] => { results := [.lit (.bool true)], args := [d1, d2, d3, d4, d5, d6, d7] }
  | _ => none }
def projectSameRow : OpenClaim := { program := "ytphibahplgmgfaagreatdoor", sum := "1cff566e9356b482128024d0813e610ce09c3c4e9a6b3a4c43f6bb008881f080", func := "transclude/trclaw31.ProjectSame", spec := "projectSame", inPlace := ["internal/bytealg.CountString", "internal/bytealg.IndexByteString", "internal/bytealg.IndexString", "internal/abi.NoEscape", "internal/bytealg.MakeNoZero"], unfollowed := true, recurses := true, named := ["transclude/edit.rules", "unicode/utf8.first", "unicode/utf8.acceptRanges", "internal/bytealg.MaxLen"], apart := false, laid := [("unicode/utf8.acceptRanges", laid_unicode_utf8_acceptRanges), ("transclude/edit.rules", laid_transclude_edit_rules), ("unicode/utf8.first", laid_unicode_utf8_first)] }
def ProjectSameSaid : Prop := projectSameRow.holds Tryz.pinned (OpenSpec.ofChange projectSameSpec)

/-- ITS FALSE NEIGHBOUR: 'it returns false'. Refute it at one input. -/
def projectSameWrong : ChangeSpec := { name := "projectSame", fn := fun _ => fun
  | [d1, d2, d3, d4, d5, d6, d7] => { results := [.lit (.bool false)], args := [d1, d2, d3, d4, d5, d6, d7] }
  | _ => none }
def ProjectSameWrongFalsely : Prop := projectSameRow.holds Tryz.pinned (OpenSpec.ofChange projectSameWrong)

/-- 'trclaw31.ProjectValid': WHATEVER THE INPUT: true; the input reads as it did. -/
def projectValidSpec : ChangeSpec := { name := "projectValid", fn := fun _ => fun
  | [d1, d2] => { results := [.lit (.bool true)], args := [d1, d2] }
  | _ => none }
def projectValidRow : OpenClaim := { program := "ytphibahplgmgfaagreatdoor", sum := "1cff566e9356b482128024d0813e610ce09c3c4e9a6b3a4c43f6bb008881f080", func := "transclude/trclaw31.ProjectValid", spec := "projectValid", inPlace := ["internal/bytealg.CountString", "internal/bytealg.IndexByteString", "internal/bytealg.IndexString", "internal/abi.NoEscape", "internal/bytealg.MakeNoZero"], unfollowed := true, recurses := true, named := ["transclude/edit.rules", "unicode/utf8.first", "unicode/utf8.acceptRanges", "internal/bytealg.MaxLen"], apart := false, laid := [("unicode/utf8.acceptRanges", laid_unicode_utf8_acceptRanges), ("transclude/edit.rules", laid_transclude_edit_rules), ("unicode/utf8.first", laid_unicode_utf8_first)] }
def ProjectValidSaid : Prop := projectValidRow.holds Tryz.pinned (OpenSpec.ofChange projectValidSpec)

/-- ITS FALSE NEIGHBOUR: 'it returns false'. Refute it at one input. -/
def projectValidWrong : ChangeSpec := { name := "projectValid", fn := fun _ => fun
  | [d1, d2] => { results := [.lit (.bool false)], args := [d1, d2] }
  | _ => none }
def ProjectValidWrongFalsely : Prop := projectValidRow.holds Tryz.pinned (OpenSpec.ofChange projectValidWrong)

/-- 'trclaw31.ProjectOnly': WHATEVER THE INPUT: true; the input reads as it did. -/
def projectOnlySpec : ChangeSpec := { name := "projectOnly", fn := fun _ => fun
  | [d1, d2, d3] => { results := [.lit (.bool true)], args := [d1, d2, d3] }
  | _ => none }
def projectOnlyRow : OpenClaim := { program := "ytphibahplgmgfaagreatdoor", sum := "1cff566e9356b482128024d0813e610ce09c3c4e9a6b3a4c43f6bb008881f080", func := "transclude/trclaw31.ProjectOnly", spec := "projectOnly", inPlace := ["internal/bytealg.CountString", "internal/bytealg.IndexByteString", "internal/bytealg.IndexString", "internal/abi.NoEscape", "internal/bytealg.MakeNoZero"], unfollowed := true, recurses := true, named := ["transclude/edit.rules", "unicode/utf8.first", "unicode/utf8.acceptRanges", "internal/bytealg.MaxLen"], apart := false, laid := [("unicode/utf8.acceptRanges", laid_unicode_utf8_acceptRanges), ("transclude/edit.rules", laid_transclude_edit_rules), ("unicode/utf8.first", laid_unicode_utf8_first)] }
def ProjectOnlySaid : Prop := projectOnlyRow.holds Tryz.pinned (OpenSpec.ofChange projectOnlySpec)

/-- ITS FALSE NEIGHBOUR: 'it returns false'. Refute it at one input. -/
def projectOnlyWrong : ChangeSpec := { name := "projectOnly", fn := fun _ => fun
  | [d1, d2, d3] => { results := [.lit (.bool false)], args := [d1, d2, d3] }
  | _ => none }
def ProjectOnlyWrongFalsely : Prop := projectOnlyRow.holds Tryz.pinned (OpenSpec.ofChange projectOnlyWrong)

/-- 'trclaw31.ProjectHidden': WHATEVER THE INPUT: true; the input reads as it did. -/
def projectHiddenSpec : ChangeSpec := { name := "projectHidden", fn := fun _ => fun
  | [d1, d2, d3, d4] => { results := [.lit (.bool true)], args := [d1, d2, d3, d4] }
  | _ => none }
def projectHiddenRow : OpenClaim := { program := "ytphibahplgmgfaagreatdoor", sum := "1cff566e9356b482128024d0813e610ce09c3c4e9a6b3a4c43f6bb008881f080", func := "transclude/trclaw31.ProjectHidden", spec := "projectHidden", inPlace := ["internal/bytealg.CountString", "internal/bytealg.IndexByteString", "internal/bytealg.IndexString", "internal/abi.NoEscape", "internal/bytealg.MakeNoZero"], unfollowed := true, recurses := true, named := ["transclude/edit.rules", "unicode/utf8.first", "unicode/utf8.acceptRanges", "internal/bytealg.MaxLen"], apart := false, laid := [("unicode/utf8.acceptRanges", laid_unicode_utf8_acceptRanges), ("transclude/edit.rules", laid_transclude_edit_rules), ("unicode/utf8.first", laid_unicode_utf8_first)] }
def ProjectHiddenSaid : Prop := projectHiddenRow.holds Tryz.pinned (OpenSpec.ofChange projectHiddenSpec)

/-- ITS FALSE NEIGHBOUR: 'it returns false'. Refute it at one input. -/
def projectHiddenWrong : ChangeSpec := { name := "projectHidden", fn := fun _ => fun
  | [d1, d2, d3, d4] => { results := [.lit (.bool false)], args := [d1, d2, d3, d4] }
  | _ => none }
def ProjectHiddenWrongFalsely : Prop := projectHiddenRow.holds Tryz.pinned (OpenSpec.ofChange projectHiddenWrong)

/-- 'trclaw31.ProjectTick': WHATEVER THE INPUT: true; the input reads as it did. -/
def projectTickSpec : ChangeSpec := { name := "projectTick", fn := fun _ => fun
  | [d1, d2, d3] => { results := [.lit (.bool true)], args := [d1, d2, d3] }
  | _ => none }
def projectTickRow : OpenClaim := { program := "ytphibahplgmgfaagreatdoor", sum := "1cff566e9356b482128024d0813e610ce09c3c4e9a6b3a4c43f6bb008881f080", func := "transclude/trclaw31.ProjectTick", spec := "projectTick", inPlace := ["internal/bytealg.CountString", "internal/bytealg.IndexByteString", "internal/bytealg.IndexString", "internal/abi.NoEscape", "internal/bytealg.MakeNoZero"], unfollowed := true, recurses := true, named := ["transclude/edit.rules", "unicode/utf8.first", "unicode/utf8.acceptRanges", "internal/bytealg.MaxLen"], apart := false, laid := [("unicode/utf8.acceptRanges", laid_unicode_utf8_acceptRanges), ("transclude/edit.rules", laid_transclude_edit_rules), ("unicode/utf8.first", laid_unicode_utf8_first)] }
def ProjectTickSaid : Prop := projectTickRow.holds Tryz.pinned (OpenSpec.ofChange projectTickSpec)

/-- ITS FALSE NEIGHBOUR: 'it returns false'. Refute it at one input. -/
def projectTickWrong : ChangeSpec := { name := "projectTick", fn := fun _ => fun
  | [d1, d2, d3] => { results := [.lit (.bool false)], args := [d1, d2, d3] }
  | _ => none }
def ProjectTickWrongFalsely : Prop := projectTickRow.holds Tryz.pinned (OpenSpec.ofChange projectTickWrong)

/-- 'trclaw31.ProjectOrder': WHATEVER THE INPUT: true; the input reads as it did. -/
def projectOrderSpec : ChangeSpec := { name := "projectOrder", fn := fun _ => fun
  | [d1, d2] => { results := [.lit (.bool true)], args := [d1, d2] }
  | _ => none }
def projectOrderRow : OpenClaim := { program := "ytphibahplgmgfaagreatdoor", sum := "1cff566e9356b482128024d0813e610ce09c3c4e9a6b3a4c43f6bb008881f080", func := "transclude/trclaw31.ProjectOrder", spec := "projectOrder", inPlace := ["internal/bytealg.CountString", "internal/bytealg.IndexByteString", "internal/bytealg.IndexString", "internal/abi.NoEscape", "internal/bytealg.MakeNoZero"], unfollowed := true, recurses := true, named := ["transclude/edit.rules", "unicode/utf8.first", "unicode/utf8.acceptRanges", "internal/bytealg.MaxLen"], apart := false, laid := [("unicode/utf8.acceptRanges", laid_unicode_utf8_acceptRanges), ("transclude/edit.rules", laid_transclude_edit_rules), ("unicode/utf8.first", laid_unicode_utf8_first)] }
def ProjectOrderSaid : Prop := projectOrderRow.holds Tryz.pinned (OpenSpec.ofChange projectOrderSpec)

/-- ITS FALSE NEIGHBOUR: 'it returns false'. Refute it at one input. -/
def projectOrderWrong : ChangeSpec := { name := "projectOrder", fn := fun _ => fun
  | [d1, d2] => { results := [.lit (.bool false)], args := [d1, d2] }
  | _ => none }
def ProjectOrderWrongFalsely : Prop := projectOrderRow.holds Tryz.pinned (OpenSpec.ofChange projectOrderWrong)

/- THE SECOND FORM. 'bulk': how many values and letters a reading holds, each counted each time it is reached (what is shared counts as often as it is met; a slice's spare places count too). A statement '..UptoSaid' is the law's where the arguments, and the package variables that the reading takes, are together of bulk at most 1048576: NARROWER than '..Said'. Prove '..Said' where nothing that the law and all that it calls make is longer than what came in: it says more and counts as full. Else prove '..UptoSaid'. A law counts once. -/
mutual
def uptoBulk {H : Type} : DataW H → Nat
  | .lit (.string bytes) => bytes.length + 1
  | .lit _ => 1
  | .nil => 1
  | .ptr d => uptoBulk d + 1
  | .slice elems spare => uptoBulkAll elems + uptoBulkAll spare + 1
  | .agg parts => uptoBulkAll parts + 1
  | .iface _ d => uptoBulk d + 1
  | .map entries => uptoBulkEntries entries + 1
  | .held _ => 1
def uptoBulkAll {H : Type} : List (DataW H) → Nat
  | [] => 0
  | d :: r => uptoBulk d + uptoBulkAll r
def uptoBulkEntries {H : Type} : List (Lit × DataW H) → Nat
  | [] => 0
  | x :: r => uptoBulkEntry x + uptoBulkEntries r
def uptoBulkEntry {H : Type} : Lit × DataW H → Nat
  | (.string bytes, d) => bytes.length + uptoBulk d + 1
  | (_, d) => uptoBulk d + 1
 end
def uptoSmall : (H : Type) → List (DataW H) → Bool := fun _ ds => decide (uptoBulkAll ds ≤ 1048576)
def OpenSpec.upto (s : _root_.Go.ChangeSpec) : _root_.Go.OpenSpec := { _root_.Go.OpenSpec.ofChange s with cond := some uptoSmall }

/-- 'trclaw31.ProjectViews', WHERE WHAT IT READS IS OF BULK AT MOST 1048576: true; the input reads as it did. -/
def projectViewsUptoRow : OpenClaim := { program := "ytphibahplgmgfaagreatdoor", sum := "1cff566e9356b482128024d0813e610ce09c3c4e9a6b3a4c43f6bb008881f080", func := "transclude/trclaw31.ProjectViews", spec := "projectViews", inPlace := ["internal/bytealg.CountString", "internal/bytealg.IndexByteString", "internal/bytealg.IndexString", "internal/abi.NoEscape", "internal/bytealg.MakeNoZero"], unfollowed := true, recurses := true, named := ["transclude/edit.rules", "unicode/utf8.first", "unicode/utf8.acceptRanges", "internal/bytealg.MaxLen"], apart := false, laid := [("unicode/utf8.acceptRanges", laid_unicode_utf8_acceptRanges), ("transclude/edit.rules", laid_transclude_edit_rules), ("unicode/utf8.first", laid_unicode_utf8_first)], narrowed := true }
def ProjectViewsUptoSaid : Prop := projectViewsUptoRow.holds Tryz.pinned (OpenSpec.upto projectViewsSpec)

/-- 'trclaw31.ProjectSame', WHERE WHAT IT READS IS OF BULK AT MOST 1048576: true; the input reads as it did. -/
def projectSameUptoRow : OpenClaim := { program := "ytphibahplgmgfaagreatdoor", sum := "1cff566e9356b482128024d0813e610ce09c3c4e9a6b3a4c43f6bb008881f080", func := "transclude/trclaw31.ProjectSame", spec := "projectSame", inPlace := ["internal/bytealg.CountString", "internal/bytealg.IndexByteString", "internal/bytealg.IndexString", "internal/abi.NoEscape", "internal/bytealg.MakeNoZero"], unfollowed := true, recurses := true, named := ["transclude/edit.rules", "unicode/utf8.first", "unicode/utf8.acceptRanges", "internal/bytealg.MaxLen"], apart := false, laid := [("unicode/utf8.acceptRanges", laid_unicode_utf8_acceptRanges), ("transclude/edit.rules", laid_transclude_edit_rules), ("unicode/utf8.first", laid_unicode_utf8_first)], narrowed := true }
def ProjectSameUptoSaid : Prop := projectSameUptoRow.holds Tryz.pinned (OpenSpec.upto projectSameSpec)

/-- 'trclaw31.ProjectValid', WHERE WHAT IT READS IS OF BULK AT MOST 1048576: true; the input reads as it did. -/
def projectValidUptoRow : OpenClaim := { program := "ytphibahplgmgfaagreatdoor", sum := "1cff566e9356b482128024d0813e610ce09c3c4e9a6b3a4c43f6bb008881f080", func := "transclude/trclaw31.ProjectValid", spec := "projectValid", inPlace := ["internal/bytealg.CountString", "internal/bytealg.IndexByteString", "internal/bytealg.IndexString", "internal/abi.NoEscape", "internal/bytealg.MakeNoZero"], unfollowed := true, recurses := true, named := ["transclude/edit.rules", "unicode/utf8.first", "unicode/utf8.acceptRanges", "internal/bytealg.MaxLen"], apart := false, laid := [("unicode/utf8.acceptRanges", laid_unicode_utf8_acceptRanges), ("transclude/edit.rules", laid_transclude_edit_rules), ("unicode/utf8.first", laid_unicode_utf8_first)], narrowed := true }
def ProjectValidUptoSaid : Prop := projectValidUptoRow.holds Tryz.pinned (OpenSpec.upto projectValidSpec)

/-- 'trclaw31.ProjectOnly', WHERE WHAT IT READS IS OF BULK AT MOST 1048576: true; the input reads as it did. -/
def projectOnlyUptoRow : OpenClaim := { program := "ytphibahplgmgfaagreatdoor", sum := "1cff566e9356b482128024d0813e610ce09c3c4e9a6b3a4c43f6bb008881f080", func := "transclude/trclaw31.ProjectOnly", spec := "projectOnly", inPlace := ["internal/bytealg.CountString", "internal/bytealg.IndexByteString", "internal/bytealg.IndexString", "internal/abi.NoEscape", "internal/bytealg.MakeNoZero"], unfollowed := true, recurses := true, named := ["transclude/edit.rules", "unicode/utf8.first", "unicode/utf8.acceptRanges", "internal/bytealg.MaxLen"], apart := false, laid := [("unicode/utf8.acceptRanges", laid_unicode_utf8_acceptRanges), ("transclude/edit.rules", laid_transclude_edit_rules), ("unicode/utf8.first", laid_unicode_utf8_first)], narrowed := true }
def ProjectOnlyUptoSaid : Prop := projectOnlyUptoRow.holds Tryz.pinned (OpenSpec.upto projectOnlySpec)

/-- 'trclaw31.ProjectHidden', WHERE WHAT IT READS IS OF BULK AT MOST 1048576: true; the input reads as it did. -/
def projectHiddenUptoRow : OpenClaim := { program := "ytphibahplgmgfaagreatdoor", sum := "1cff566e9356b482128024d0813e610ce09c3c4e9a6b3a4c43f6bb008881f080", func := "transclude/trclaw31.ProjectHidden", spec := "projectHidden", inPlace := ["internal/bytealg.CountString", "internal/bytealg.IndexByteString", "internal/bytealg.IndexString", "internal/abi.NoEscape", "internal/bytealg.MakeNoZero"], unfollowed := true, recurses := true, named := ["transclude/edit.rules", "unicode/utf8.first", "unicode/utf8.acceptRanges", "internal/bytealg.MaxLen"], apart := false, laid := [("unicode/utf8.acceptRanges", laid_unicode_utf8_acceptRanges), ("transclude/edit.rules", laid_transclude_edit_rules), ("unicode/utf8.first", laid_unicode_utf8_first)], narrowed := true }
def ProjectHiddenUptoSaid : Prop := projectHiddenUptoRow.holds Tryz.pinned (OpenSpec.upto projectHiddenSpec)

/-- 'trclaw31.ProjectTick', WHERE WHAT IT READS IS OF BULK AT MOST 1048576: true; the input reads as it did. -/
def projectTickUptoRow : OpenClaim := { program := "ytphibahplgmgfaagreatdoor", sum := "1cff566e9356b482128024d0813e610ce09c3c4e9a6b3a4c43f6bb008881f080", func := "transclude/trclaw31.ProjectTick", spec := "projectTick", inPlace := ["internal/bytealg.CountString", "internal/bytealg.IndexByteString", "internal/bytealg.IndexString", "internal/abi.NoEscape", "internal/bytealg.MakeNoZero"], unfollowed := true, recurses := true, named := ["transclude/edit.rules", "unicode/utf8.first", "unicode/utf8.acceptRanges", "internal/bytealg.MaxLen"], apart := false, laid := [("unicode/utf8.acceptRanges", laid_unicode_utf8_acceptRanges), ("transclude/edit.rules", laid_transclude_edit_rules), ("unicode/utf8.first", laid_unicode_utf8_first)], narrowed := true }
def ProjectTickUptoSaid : Prop := projectTickUptoRow.holds Tryz.pinned (OpenSpec.upto projectTickSpec)

/-- 'trclaw31.ProjectOrder', WHERE WHAT IT READS IS OF BULK AT MOST 1048576: true; the input reads as it did. -/
def projectOrderUptoRow : OpenClaim := { program := "ytphibahplgmgfaagreatdoor", sum := "1cff566e9356b482128024d0813e610ce09c3c4e9a6b3a4c43f6bb008881f080", func := "transclude/trclaw31.ProjectOrder", spec := "projectOrder", inPlace := ["internal/bytealg.CountString", "internal/bytealg.IndexByteString", "internal/bytealg.IndexString", "internal/abi.NoEscape", "internal/bytealg.MakeNoZero"], unfollowed := true, recurses := true, named := ["transclude/edit.rules", "unicode/utf8.first", "unicode/utf8.acceptRanges", "internal/bytealg.MaxLen"], apart := false, laid := [("unicode/utf8.acceptRanges", laid_unicode_utf8_acceptRanges), ("transclude/edit.rules", laid_transclude_edit_rules), ("unicode/utf8.first", laid_unicode_utf8_first)], narrowed := true }
def ProjectOrderUptoSaid : Prop := projectOrderUptoRow.holds Tryz.pinned (OpenSpec.upto projectOrderSpec)

end Rows
end Go.Proofs.YtphibahplgmgfaaGreatDoor
