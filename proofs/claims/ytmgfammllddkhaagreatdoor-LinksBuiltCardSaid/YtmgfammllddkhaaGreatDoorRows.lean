/-
  NARROWER THAN 'FOR EVERY INPUT', by the rows' own cells (each row's printed sentence says how): LinksOwn: laid · LinksBuilt: laid · LinksSorted: laid · LinksRedirect: laid · LinksHidden: laid · LinksTags: laid · LinksLines: laid.
  DERIVED. THE GIVEN ROWS OF THIS SEAT. 7 by the template 'for every input the law returns true; each argument reads behind the call as it read before'; 0 by the template 'total and deterministic' (their statements: YtmgfammllddkhaaGreatDoorTotals.lean).
  GIVEN WITH THE SEED: the statements are not yours to turn. If you find one false, say at which input.
  Laid BY PROGRAM, IN A SANDBOX (cutbox-rows.mjs): the forced cells as the released guide's own fill.sh prints them over the translation c12608278e6740e4… (all of the seat's roots in one cut). By AI agents, Wed Nov 11 2026. No macro, syntax, notation, axiom, sorry.
-/
import Derived.Test.YtmgfammllddkhaaGreatDoorChecked
import GoSem.PinnedTables
import GoSem.Claim
import GoSem.ClaimJoined
import GoSem.ClaimMapViews
import Derived.JoinedTies
import Derived.KernelRfl
namespace Go.Proofs.YtmgfammllddkhaaGreatDoor
/- THE CELL 'sum', in the pinned program and in every row, IS THE sha256 OF THE DUMP (.gsa) THAT YtmgfammllddkhaaGreatDoorProg.lean LOADS. Nothing in Lean hashes anything: it is a label: what it is worth is what the hold of that sum in a sandbox is worth. -/
noncomputable def Tryz.pinned : Pinned := { name := "ytmgfammllddkhaagreatdoor", sum := "c12608278e6740e41251b82bafd357b60b19dbb0baa62d3fb1577d335d23927f", checked := Tryz.checked }
namespace Rows
def none {H : Type} : Left H := { results := [], args := [] }

/- WHAT THE LISTED PACKAGE-LEVEL VARIABLES READ AS WHEN THE CALL BEGINS. Each datum BY PROGRAM (the guide's laid-datum.mjs) off the statement by which the dump's own 'gosem.cut.vars' lays the variable. In a bare row this is a premise. The card (YtmgfammllddkhaaGreatDoorCards.lean) ties it to the program's text. -/
def laid_unicode_utf8_acceptRanges {H : Type} : DataW H := .agg [.agg [.lit (.int .u8 128), .lit (.int .u8 191)], .agg [.lit (.int .u8 160), .lit (.int .u8 191)], .agg [.lit (.int .u8 128), .lit (.int .u8 159)], .agg [.lit (.int .u8 144), .lit (.int .u8 191)], .agg [.lit (.int .u8 128), .lit (.int .u8 143)], .agg [.lit (.int .u8 0), .lit (.int .u8 0)], .agg [.lit (.int .u8 0), .lit (.int .u8 0)], .agg [.lit (.int .u8 0), .lit (.int .u8 0)], .agg [.lit (.int .u8 0), .lit (.int .u8 0)], .agg [.lit (.int .u8 0), .lit (.int .u8 0)], .agg [.lit (.int .u8 0), .lit (.int .u8 0)], .agg [.lit (.int .u8 0), .lit (.int .u8 0)], .agg [.lit (.int .u8 0), .lit (.int .u8 0)], .agg [.lit (.int .u8 0), .lit (.int .u8 0)], .agg [.lit (.int .u8 0), .lit (.int .u8 0)], .agg [.lit (.int .u8 0), .lit (.int .u8 0)]]
/-- One of Go's own tables, pinned by name: the form's constant. -/
def laid_unicode_utf8_first : DataW Unit := Go.Pinned.utf8First

/-- 'trclaw14.LinksOwn': WHATEVER THE INPUT: true; the input reads as it did. -/
def linksOwnSpec : ChangeSpec := { name := "linksOwn", fn := fun _ => fun
  | [d] => { results := [.lit (.bool true)], args := [d] }
  | _ => none }
def linksOwnRow : OpenClaim := { program := "ytmgfammllddkhaagreatdoor", sum := "c12608278e6740e41251b82bafd357b60b19dbb0baa62d3fb1577d335d23927f", func := "transclude/trclaw14.LinksOwn", spec := "linksOwn", inPlace := ["internal/bytealg.IndexByteString", "internal/bytealg.IndexString", "internal/abi.NoEscape", "internal/bytealg.MakeNoZero", "internal/bytealg.CountString", "internal/bytealg.abigen_runtime_cmpstring"], unfollowed := true, recurses := true, named := ["internal/bytealg.MaxLen", "unicode/utf8.first", "unicode/utf8.acceptRanges"], apart := false, laid := [("unicode/utf8.acceptRanges", laid_unicode_utf8_acceptRanges), ("unicode/utf8.first", laid_unicode_utf8_first)] }
def LinksOwnSaid : Prop := linksOwnRow.holds Tryz.pinned (OpenSpec.ofChange linksOwnSpec)

/-- ITS FALSE NEIGHBOUR: 'it returns false'. Refute it at one input. -/
def linksOwnWrong : ChangeSpec := { name := "linksOwn", fn := fun _ => fun
  | [d] => { results := [.lit (.bool false)], args := [d] }
  | _ => none }
def LinksOwnWrongFalsely : Prop := linksOwnRow.holds Tryz.pinned (OpenSpec.ofChange linksOwnWrong)

/-- 'trclaw14.LinksBuilt': WHATEVER THE INPUT: true; the input reads as it did. -/
def linksBuiltSpec : ChangeSpec := { name := "linksBuilt", fn := fun _ => fun
  | [d] => { results := [.lit (.bool true)], args := [d] }
  | _ => none }
def linksBuiltRow : OpenClaim := { program := "ytmgfammllddkhaagreatdoor", sum := "c12608278e6740e41251b82bafd357b60b19dbb0baa62d3fb1577d335d23927f", func := "transclude/trclaw14.LinksBuilt", spec := "linksBuilt", inPlace := ["internal/bytealg.IndexByteString", "internal/bytealg.IndexString", "internal/abi.NoEscape", "internal/bytealg.MakeNoZero", "internal/bytealg.CountString", "internal/bytealg.abigen_runtime_cmpstring"], unfollowed := true, recurses := true, named := ["internal/bytealg.MaxLen", "unicode/utf8.first", "unicode/utf8.acceptRanges"], apart := false, laid := [("unicode/utf8.acceptRanges", laid_unicode_utf8_acceptRanges), ("unicode/utf8.first", laid_unicode_utf8_first)] }
def LinksBuiltSaid : Prop := linksBuiltRow.holds Tryz.pinned (OpenSpec.ofChange linksBuiltSpec)

/-- ITS FALSE NEIGHBOUR: 'it returns false'. Refute it at one input. -/
def linksBuiltWrong : ChangeSpec := { name := "linksBuilt", fn := fun _ => fun
  | [d] => { results := [.lit (.bool false)], args := [d] }
  | _ => none }
def LinksBuiltWrongFalsely : Prop := linksBuiltRow.holds Tryz.pinned (OpenSpec.ofChange linksBuiltWrong)

/-- 'trclaw14.LinksSorted': WHATEVER THE INPUT: true; the input reads as it did. -/
def linksSortedSpec : ChangeSpec := { name := "linksSorted", fn := fun _ => fun
  | [d] => { results := [.lit (.bool true)], args := [d] }
  | _ => none }
def linksSortedRow : OpenClaim := { program := "ytmgfammllddkhaagreatdoor", sum := "c12608278e6740e41251b82bafd357b60b19dbb0baa62d3fb1577d335d23927f", func := "transclude/trclaw14.LinksSorted", spec := "linksSorted", inPlace := ["internal/bytealg.IndexByteString", "internal/bytealg.IndexString", "internal/abi.NoEscape", "internal/bytealg.MakeNoZero", "internal/bytealg.CountString", "internal/bytealg.abigen_runtime_cmpstring"], unfollowed := true, recurses := true, named := ["internal/bytealg.MaxLen", "unicode/utf8.first", "unicode/utf8.acceptRanges"], apart := false, laid := [("unicode/utf8.acceptRanges", laid_unicode_utf8_acceptRanges), ("unicode/utf8.first", laid_unicode_utf8_first)] }
def LinksSortedSaid : Prop := linksSortedRow.holds Tryz.pinned (OpenSpec.ofChange linksSortedSpec)

/-- ITS FALSE NEIGHBOUR: 'it returns false'. Refute it at one input. -/
def linksSortedWrong : ChangeSpec := { name := "linksSorted", fn := fun _ => fun
  | [d] => { results := [.lit (.bool false)], args := [d] }
  | _ => none }
def LinksSortedWrongFalsely : Prop := linksSortedRow.holds Tryz.pinned (OpenSpec.ofChange linksSortedWrong)

/-- 'trclaw14.LinksRedirect': WHATEVER THE INPUT: true; the input reads as it did. -/
def linksRedirectSpec : ChangeSpec := { name := "linksRedirect", fn := fun _ => fun
  | [d1, d2] => { results := [.lit (.bool true)], args := [d1, d2] }
  | _ => none }
def linksRedirectRow : OpenClaim := { program := "ytmgfammllddkhaagreatdoor", sum := "c12608278e6740e41251b82bafd357b60b19dbb0baa62d3fb1577d335d23927f", func := "transclude/trclaw14.LinksRedirect", spec := "linksRedirect", inPlace := ["internal/bytealg.IndexByteString", "internal/bytealg.IndexString", "internal/abi.NoEscape", "internal/bytealg.MakeNoZero", "internal/bytealg.CountString", "internal/bytealg.abigen_runtime_cmpstring"], unfollowed := true, recurses := true, named := ["internal/bytealg.MaxLen", "unicode/utf8.first", "unicode/utf8.acceptRanges"], apart := false, laid := [("unicode/utf8.acceptRanges", laid_unicode_utf8_acceptRanges), ("unicode/utf8.first", laid_unicode_utf8_first)] }
def LinksRedirectSaid : Prop := linksRedirectRow.holds Tryz.pinned (OpenSpec.ofChange linksRedirectSpec)

/-- ITS FALSE NEIGHBOUR: 'it returns false'. Refute it at one input. -/
def linksRedirectWrong : ChangeSpec := { name := "linksRedirect", fn := fun _ => fun
  | [d1, d2] => { results := [.lit (.bool false)], args := [d1, d2] }
  | _ => none }
def LinksRedirectWrongFalsely : Prop := linksRedirectRow.holds Tryz.pinned (OpenSpec.ofChange linksRedirectWrong)

/-- 'trclaw14.LinksHidden': WHATEVER THE INPUT: true; the input reads as it did. -/
def linksHiddenSpec : ChangeSpec := { name := "linksHidden", fn := fun _ => fun
  | [d] => { results := [.lit (.bool true)], args := [d] }
  | _ => none }
def linksHiddenRow : OpenClaim := { program := "ytmgfammllddkhaagreatdoor", sum := "c12608278e6740e41251b82bafd357b60b19dbb0baa62d3fb1577d335d23927f", func := "transclude/trclaw14.LinksHidden", spec := "linksHidden", inPlace := ["internal/bytealg.IndexByteString", "internal/bytealg.IndexString", "internal/abi.NoEscape", "internal/bytealg.MakeNoZero", "internal/bytealg.CountString", "internal/bytealg.abigen_runtime_cmpstring"], unfollowed := true, recurses := true, named := ["internal/bytealg.MaxLen", "unicode/utf8.first", "unicode/utf8.acceptRanges"], apart := false, laid := [("unicode/utf8.acceptRanges", laid_unicode_utf8_acceptRanges), ("unicode/utf8.first", laid_unicode_utf8_first)] }
def LinksHiddenSaid : Prop := linksHiddenRow.holds Tryz.pinned (OpenSpec.ofChange linksHiddenSpec)

/-- ITS FALSE NEIGHBOUR: 'it returns false'. Refute it at one input. -/
def linksHiddenWrong : ChangeSpec := { name := "linksHidden", fn := fun _ => fun
  | [d] => { results := [.lit (.bool false)], args := [d] }
  | _ => none }
def LinksHiddenWrongFalsely : Prop := linksHiddenRow.holds Tryz.pinned (OpenSpec.ofChange linksHiddenWrong)

/-- 'trclaw14.LinksTags': WHATEVER THE INPUT: true; the input reads as it did. -/
def linksTagsSpec : ChangeSpec := { name := "linksTags", fn := fun _ => fun
  | [d1, d2] => { results := [.lit (.bool true)], args := [d1, d2] }
  | _ => none }
def linksTagsRow : OpenClaim := { program := "ytmgfammllddkhaagreatdoor", sum := "c12608278e6740e41251b82bafd357b60b19dbb0baa62d3fb1577d335d23927f", func := "transclude/trclaw14.LinksTags", spec := "linksTags", inPlace := ["internal/bytealg.IndexByteString", "internal/bytealg.IndexString", "internal/bytealg.CountString", "internal/abi.NoEscape", "internal/bytealg.MakeNoZero", "internal/bytealg.abigen_runtime_cmpstring"], unfollowed := true, recurses := true, named := ["internal/bytealg.MaxLen", "unicode/utf8.first", "unicode/utf8.acceptRanges"], apart := false, laid := [("unicode/utf8.acceptRanges", laid_unicode_utf8_acceptRanges), ("unicode/utf8.first", laid_unicode_utf8_first)] }
def LinksTagsSaid : Prop := linksTagsRow.holds Tryz.pinned (OpenSpec.ofChange linksTagsSpec)

/-- ITS FALSE NEIGHBOUR: 'it returns false'. Refute it at one input. -/
def linksTagsWrong : ChangeSpec := { name := "linksTags", fn := fun _ => fun
  | [d1, d2] => { results := [.lit (.bool false)], args := [d1, d2] }
  | _ => none }
def LinksTagsWrongFalsely : Prop := linksTagsRow.holds Tryz.pinned (OpenSpec.ofChange linksTagsWrong)

/-- 'trclaw14.LinksLines': WHATEVER THE INPUT: true; the input reads as it did. -/
def linksLinesSpec : ChangeSpec := { name := "linksLines", fn := fun _ => fun
  | [d1, d2] => { results := [.lit (.bool true)], args := [d1, d2] }
  | _ => none }
def linksLinesRow : OpenClaim := { program := "ytmgfammllddkhaagreatdoor", sum := "c12608278e6740e41251b82bafd357b60b19dbb0baa62d3fb1577d335d23927f", func := "transclude/trclaw14.LinksLines", spec := "linksLines", inPlace := ["internal/bytealg.IndexByteString", "internal/bytealg.IndexString", "internal/bytealg.CountString", "internal/abi.NoEscape", "internal/bytealg.MakeNoZero", "internal/bytealg.abigen_runtime_cmpstring"], unfollowed := true, recurses := true, named := ["internal/bytealg.MaxLen", "unicode/utf8.first", "unicode/utf8.acceptRanges"], apart := false, laid := [("unicode/utf8.acceptRanges", laid_unicode_utf8_acceptRanges), ("unicode/utf8.first", laid_unicode_utf8_first)] }
def LinksLinesSaid : Prop := linksLinesRow.holds Tryz.pinned (OpenSpec.ofChange linksLinesSpec)

/-- ITS FALSE NEIGHBOUR: 'it returns false'. Refute it at one input. -/
def linksLinesWrong : ChangeSpec := { name := "linksLines", fn := fun _ => fun
  | [d1, d2] => { results := [.lit (.bool false)], args := [d1, d2] }
  | _ => none }
def LinksLinesWrongFalsely : Prop := linksLinesRow.holds Tryz.pinned (OpenSpec.ofChange linksLinesWrong)

/- THE SECOND FORM. 'bulk': how many values and letters a reading holds, each counted each time it is reached (what is shared counts as often as it is met; a slice's spare places count too). A statement '..UptoSaid' is the law's where the arguments, and the package variables that the reading takes, are together of bulk at most 1048576: NARROWER than '..Said'. Prove '..Said' where nothing that the law and all that it calls make is longer than what came in: it says more and counts as full. Else prove '..UptoSaid'. A law counts once. -/
mutual
def uptoBulk {H : Type} : DataW H → Nat
  | .lit (.string bytes) => bytes.length + 1
  | .lit _ => 1
  | .nil => 1
  | .ptr d => uptoBulk d + 1
  | .slice elems spare => uptoBulkAll elems + uptoBulkAll spare + 1
  | .agg parts => uptoBulkAll parts + 1
  | .iface _ d => uptoBulk d + 1
  | .map entries => uptoBulkEntries entries + 1
  | .held _ => 1
def uptoBulkAll {H : Type} : List (DataW H) → Nat
  | [] => 0
  | d :: r => uptoBulk d + uptoBulkAll r
def uptoBulkEntries {H : Type} : List (Lit × DataW H) → Nat
  | [] => 0
  | x :: r => uptoBulkEntry x + uptoBulkEntries r
def uptoBulkEntry {H : Type} : Lit × DataW H → Nat
  | (.string bytes, d) => bytes.length + uptoBulk d + 1
  | (_, d) => uptoBulk d + 1
 end
def uptoSmall : (H : Type) → List (DataW H) → Bool := fun _ ds => decide (uptoBulkAll ds ≤ 1048576)
def OpenSpec.upto (s : _root_.Go.ChangeSpec) : _root_.Go.OpenSpec := { _root_.Go.OpenSpec.ofChange s with cond := some uptoSmall }

/-- 'trclaw14.LinksOwn', WHERE WHAT IT READS IS OF BULK AT MOST 1048576: true; the input reads as it did. -/
def linksOwnUptoRow : OpenClaim := { program := "ytmgfammllddkhaagreatdoor", sum := "c12608278e6740e41251b82bafd357b60b19dbb0baa62d3fb1577d335d23927f", func := "transclude/trclaw14.LinksOwn", spec := "linksOwn", inPlace := ["internal/bytealg.IndexByteString", "internal/bytealg.IndexString", "internal/abi.NoEscape", "internal/bytealg.MakeNoZero", "internal/bytealg.CountString", "internal/bytealg.abigen_runtime_cmpstring"], unfollowed := true, recurses := true, named := ["internal/bytealg.MaxLen", "unicode/utf8.first", "unicode/utf8.acceptRanges"], apart := false, laid := [("unicode/utf8.acceptRanges", laid_unicode_utf8_acceptRanges), ("unicode/utf8.first", laid_unicode_utf8_first)], narrowed := true }
def LinksOwnUptoSaid : Prop := linksOwnUptoRow.holds Tryz.pinned (OpenSpec.upto linksOwnSpec)

/-- 'trclaw14.LinksBuilt', WHERE WHAT IT READS IS OF BULK AT MOST 1048576: true; the input reads as it did. -/
def linksBuiltUptoRow : OpenClaim := { program := "ytmgfammllddkhaagreatdoor", sum := "c12608278e6740e41251b82bafd357b60b19dbb0baa62d3fb1577d335d23927f", func := "transclude/trclaw14.LinksBuilt", spec := "linksBuilt", inPlace := ["internal/bytealg.IndexByteString", "internal/bytealg.IndexString", "internal/abi.NoEscape", "internal/bytealg.MakeNoZero", "internal/bytealg.CountString", "internal/bytealg.abigen_runtime_cmpstring"], unfollowed := true, recurses := true, named := ["internal/bytealg.MaxLen", "unicode/utf8.first", "unicode/utf8.acceptRanges"], apart := false, laid := [("unicode/utf8.acceptRanges", laid_unicode_utf8_acceptRanges), ("unicode/utf8.first", laid_unicode_utf8_first)], narrowed := true }
def LinksBuiltUptoSaid : Prop := linksBuiltUptoRow.holds Tryz.pinned (OpenSpec.upto linksBuiltSpec)

/-- 'trclaw14.LinksSorted', WHERE WHAT IT READS IS OF BULK AT MOST 1048576: true; the input reads as it did. -/
def linksSortedUptoRow : OpenClaim := { program := "ytmgfammllddkhaagreatdoor", sum := "c12608278e6740e41251b82bafd357b60b19dbb0baa62d3fb1577d335d23927f", func := "transclude/trclaw14.LinksSorted", spec := "linksSorted", inPlace := ["internal/bytealg.IndexByteString", "internal/bytealg.IndexString", "internal/abi.NoEscape", "internal/bytealg.MakeNoZero", "internal/bytealg.CountString", "internal/bytealg.abigen_runtime_cmpstring"], unfollowed := true, recurses := true, named := ["internal/bytealg.MaxLen", "unicode/utf8.first", "unicode/utf8.acceptRanges"], apart := false, laid := [("unicode/utf8.acceptRanges", laid_unicode_utf8_acceptRanges), ("unicode/utf8.first", laid_unicode_utf8_first)], narrowed := true }
def LinksSortedUptoSaid : Prop := linksSortedUptoRow.holds Tryz.pinned (OpenSpec.upto linksSortedSpec)

/-- 'trclaw14.LinksRedirect', WHERE WHAT IT READS IS OF BULK AT MOST 1048576: true; the input reads as it did. -/
def linksRedirectUptoRow : OpenClaim := { program := "ytmgfammllddkhaagreatdoor", sum := "c12608278e6740e41251b82bafd357b60b19dbb0baa62d3fb1577d335d23927f", func := "transclude/trclaw14.LinksRedirect", spec := "linksRedirect", inPlace := ["internal/bytealg.IndexByteString", "internal/bytealg.IndexString", "internal/abi.NoEscape", "internal/bytealg.MakeNoZero", "internal/bytealg.CountString", "internal/bytealg.abigen_runtime_cmpstring"], unfollowed := true, recurses := true, named := ["internal/bytealg.MaxLen", "unicode/utf8.first", "unicode/utf8.acceptRanges"], apart := false, laid := [("unicode/utf8.acceptRanges", laid_unicode_utf8_acceptRanges), ("unicode/utf8.first", laid_unicode_utf8_first)], narrowed := true }
def LinksRedirectUptoSaid : Prop := linksRedirectUptoRow.holds Tryz.pinned (OpenSpec.upto linksRedirectSpec)

/-- 'trclaw14.LinksHidden', WHERE WHAT IT READS IS OF BULK AT MOST 1048576: true; the input reads as it did. -/
def linksHiddenUptoRow : OpenClaim := { program := "ytmgfammllddkhaagreatdoor", sum := "c12608278e6740e41251b82bafd357b60b19dbb0baa62d3fb1577d335d23927f", func := "transclude/trclaw14.LinksHidden", spec := "linksHidden", inPlace := ["internal/bytealg.IndexByteString", "internal/bytealg.IndexString", "internal/abi.NoEscape", "internal/bytealg.MakeNoZero", "internal/bytealg.CountString", "internal/bytealg.abigen_runtime_cmpstring"], unfollowed := true, recurses := true, named := ["internal/bytealg.MaxLen", "unicode/utf8.first", "unicode/utf8.acceptRanges"], apart := false, laid := [("unicode/utf8.acceptRanges", laid_unicode_utf8_acceptRanges), ("unicode/utf8.first", laid_unicode_utf8_first)], narrowed := true }
def LinksHiddenUptoSaid : Prop := linksHiddenUptoRow.holds Tryz.pinned (OpenSpec.upto linksHiddenSpec)

/-- 'trclaw14.LinksTags', WHERE WHAT IT READS IS OF BULK AT MOST 1048576: true; the input reads as it did. -/
def linksTagsUptoRow : OpenClaim := { program := "ytmgfammllddkhaagreatdoor", sum := "c12608278e6740e41251b82bafd357b60b19dbb0baa62d3fb1577d335d23927f", func := "transclude/trclaw14.LinksTags", spec := "linksTags", inPlace := ["internal/bytealg.IndexByteString", "internal/bytealg.IndexString", "internal/bytealg.CountString", "internal/abi.NoEscape", "internal/bytealg.MakeNoZero", "internal/bytealg.abigen_runtime_cmpstring"], unfollowed := true, recurses := true, named := ["internal/bytealg.MaxLen", "unicode/utf8.first", "unicode/utf8.acceptRanges"], apart := false, laid := [("unicode/utf8.acceptRanges", laid_unicode_utf8_acceptRanges), ("unicode/utf8.first", laid_unicode_utf8_first)], narrowed := true }
def LinksTagsUptoSaid : Prop := linksTagsUptoRow.holds Tryz.pinned (OpenSpec.upto linksTagsSpec)

/-- 'trclaw14.LinksLines', WHERE WHAT IT READS IS OF BULK AT MOST 1048576: true; the input reads as it did. -/
def linksLinesUptoRow : OpenClaim := { program := "ytmgfammllddkhaagreatdoor", sum := "c12608278e6740e41251b82bafd357b60b19dbb0baa62d3fb1577d335d23927f", func := "transclude/trclaw14.LinksLines", spec := "linksLines", inPlace := ["internal/bytealg.IndexByteString", "internal/bytealg.IndexString", "internal/bytealg.CountString", "internal/abi.NoEscape", "internal/bytealg.MakeNoZero", "internal/bytealg.abigen_runtime_cmpstring"], unfollowed := true, recurses := true, named := ["internal/bytealg.MaxLen", "unicode/utf8.first", "unicode/utf8.acceptRanges"], apart := false, laid := [("unicode/utf8.acceptRanges", laid_unicode_utf8_acceptRanges), ("unicode/utf8.first", laid_unicode_utf8_first)], narrowed := true }
def LinksLinesUptoSaid : Prop := linksLinesUptoRow.holds Tryz.pinned (OpenSpec.upto linksLinesSpec)

end Rows
end Go.Proofs.YtmgfammllddkhaaGreatDoor
