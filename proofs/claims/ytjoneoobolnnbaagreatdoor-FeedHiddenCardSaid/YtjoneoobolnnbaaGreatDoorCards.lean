/-
  DERIVED. GIVEN WITH THE SEED: THE CARDS: each row of YtjoneoobolnnbaaGreatDoorRows.lean that lists a variable, with what it lists TIED to the program's text (the seventh form; the later family's looks); each row that meets fmt, with fmt's text TOLD by the authors' own Lean function (tested against real Go, not proved from fmt's source: count such statements apart). THE CARD IS WHAT COUNTS. Prove the row's statement (the work); the ties are given (YtjoneoobolnnbaaGreatDoorTie.lean); close each card by the builder's one call (the guide's Derived/Test/ToyasCard.lean, 'card_holds'). Laid BY PROGRAM, IN A SANDBOX (cutbox-door.mjs). By AI agents, Wed Nov 11 2026. No macro, syntax, notation, axiom, sorry.
-/
import Derived.Test.YtjoneoobolnnbaaGreatDoorRows
import GoSem.ClaimSeven
namespace Go.Proofs.YtjoneoobolnnbaaGreatDoor
namespace Rows

/-- THE TIED CARD OF 'trclaw42.FeedAny'. -/
def feedAnyCard : Claim7 := { stood := { row := feedAnyRow, standIns := [], harness := (true, "8424e1d96ef1d97a008a2fe2307ab7260c52749b2684938277f031d9bc76b60c"), looks := false }, kinds := [], alts := [], laidByText := true, laidKinds := [.data, .data, .pinned], laidTests := true, laidLooks := .later }
def FeedAnyCardSaid : Prop := Claim7.holds Tryz.pinned (.plain (OpenSpec.ofChange feedAnySpec)) feedAnyCard

/-- THE TIED CARD OF 'trclaw42.FeedMade'. -/
def feedMadeCard : Claim7 := { stood := { row := feedMadeRow, standIns := [], harness := (true, "8424e1d96ef1d97a008a2fe2307ab7260c52749b2684938277f031d9bc76b60c"), looks := false }, kinds := [], alts := [], laidByText := true, laidKinds := [.data, .data, .pinned], laidTests := true, laidLooks := .later }
def FeedMadeCardSaid : Prop := Claim7.holds Tryz.pinned (.plain (OpenSpec.ofChange feedMadeSpec)) feedMadeCard

/-- THE TIED CARD OF 'trclaw42.FeedReadable'. -/
def feedReadableCard : Claim7 := { stood := { row := feedReadableRow, standIns := [], harness := (true, "8424e1d96ef1d97a008a2fe2307ab7260c52749b2684938277f031d9bc76b60c"), looks := false }, kinds := [], alts := [], laidByText := true, laidKinds := [.data, .data, .pinned], laidTests := true, laidLooks := .later }
def FeedReadableCardSaid : Prop := Claim7.holds Tryz.pinned (.plain (OpenSpec.ofChange feedReadableSpec)) feedReadableCard

/-- THE TIED CARD OF 'trclaw42.FeedGrows'. -/
def feedGrowsCard : Claim7 := { stood := { row := feedGrowsRow, standIns := [], harness := (true, "8424e1d96ef1d97a008a2fe2307ab7260c52749b2684938277f031d9bc76b60c"), looks := false }, kinds := [], alts := [], laidByText := true, laidKinds := [.data, .data, .pinned], laidTests := true, laidLooks := .later }
def FeedGrowsCardSaid : Prop := Claim7.holds Tryz.pinned (.plain (OpenSpec.ofChange feedGrowsSpec)) feedGrowsCard

/-- THE TIED CARD OF 'trclaw42.FeedHidden'. -/
def feedHiddenCard : Claim7 := { stood := { row := feedHiddenRow, standIns := [], harness := (true, "8424e1d96ef1d97a008a2fe2307ab7260c52749b2684938277f031d9bc76b60c"), looks := false }, kinds := [], alts := [], laidByText := true, laidKinds := [.data, .data, .pinned], laidTests := true, laidLooks := .later }
def FeedHiddenCardSaid : Prop := Claim7.holds Tryz.pinned (.plain (OpenSpec.ofChange feedHiddenSpec)) feedHiddenCard

/-- THE TIED CARD OF 'trclaw42.FeedDiffs'. -/
def feedDiffsCard : Claim7 := { stood := { row := feedDiffsRow, standIns := [], harness := (true, "8424e1d96ef1d97a008a2fe2307ab7260c52749b2684938277f031d9bc76b60c"), looks := false }, kinds := [], alts := [], laidByText := true, laidKinds := [.data, .data, .pinned], laidTests := true, laidLooks := .later }
def FeedDiffsCardSaid : Prop := Claim7.holds Tryz.pinned (.plain (OpenSpec.ofChange feedDiffsSpec)) feedDiffsCard

/-- THE TIED CARD OF 'trclaw42.FeedRecent'. -/
def feedRecentCard : Claim7 := { stood := { row := feedRecentRow, standIns := [], harness := (true, "8424e1d96ef1d97a008a2fe2307ab7260c52749b2684938277f031d9bc76b60c"), looks := false }, kinds := [], alts := [], laidByText := true, laidKinds := [.data, .data, .pinned], laidTests := true, laidLooks := .later }
def FeedRecentCardSaid : Prop := Claim7.holds Tryz.pinned (.plain (OpenSpec.ofChange feedRecentSpec)) feedRecentCard

/-- THE SECOND FORM's CARD OF 'trclaw42.FeedAny'. -/
def feedAnyUptoCard : Claim7 := { stood := { row := feedAnyUptoRow, standIns := [], harness := (true, "8424e1d96ef1d97a008a2fe2307ab7260c52749b2684938277f031d9bc76b60c"), looks := false }, kinds := [], alts := [], laidByText := true, laidKinds := [.data, .data, .pinned], laidTests := true, laidLooks := .later }
def FeedAnyUptoCardSaid : Prop := Claim7.holds Tryz.pinned (.plain (OpenSpec.upto feedAnySpec)) feedAnyUptoCard

/-- THE SECOND FORM's CARD OF 'trclaw42.FeedMade'. -/
def feedMadeUptoCard : Claim7 := { stood := { row := feedMadeUptoRow, standIns := [], harness := (true, "8424e1d96ef1d97a008a2fe2307ab7260c52749b2684938277f031d9bc76b60c"), looks := false }, kinds := [], alts := [], laidByText := true, laidKinds := [.data, .data, .pinned], laidTests := true, laidLooks := .later }
def FeedMadeUptoCardSaid : Prop := Claim7.holds Tryz.pinned (.plain (OpenSpec.upto feedMadeSpec)) feedMadeUptoCard

/-- THE SECOND FORM's CARD OF 'trclaw42.FeedReadable'. -/
def feedReadableUptoCard : Claim7 := { stood := { row := feedReadableUptoRow, standIns := [], harness := (true, "8424e1d96ef1d97a008a2fe2307ab7260c52749b2684938277f031d9bc76b60c"), looks := false }, kinds := [], alts := [], laidByText := true, laidKinds := [.data, .data, .pinned], laidTests := true, laidLooks := .later }
def FeedReadableUptoCardSaid : Prop := Claim7.holds Tryz.pinned (.plain (OpenSpec.upto feedReadableSpec)) feedReadableUptoCard

/-- THE SECOND FORM's CARD OF 'trclaw42.FeedGrows'. -/
def feedGrowsUptoCard : Claim7 := { stood := { row := feedGrowsUptoRow, standIns := [], harness := (true, "8424e1d96ef1d97a008a2fe2307ab7260c52749b2684938277f031d9bc76b60c"), looks := false }, kinds := [], alts := [], laidByText := true, laidKinds := [.data, .data, .pinned], laidTests := true, laidLooks := .later }
def FeedGrowsUptoCardSaid : Prop := Claim7.holds Tryz.pinned (.plain (OpenSpec.upto feedGrowsSpec)) feedGrowsUptoCard

/-- THE SECOND FORM's CARD OF 'trclaw42.FeedHidden'. -/
def feedHiddenUptoCard : Claim7 := { stood := { row := feedHiddenUptoRow, standIns := [], harness := (true, "8424e1d96ef1d97a008a2fe2307ab7260c52749b2684938277f031d9bc76b60c"), looks := false }, kinds := [], alts := [], laidByText := true, laidKinds := [.data, .data, .pinned], laidTests := true, laidLooks := .later }
def FeedHiddenUptoCardSaid : Prop := Claim7.holds Tryz.pinned (.plain (OpenSpec.upto feedHiddenSpec)) feedHiddenUptoCard

/-- THE SECOND FORM's CARD OF 'trclaw42.FeedDiffs'. -/
def feedDiffsUptoCard : Claim7 := { stood := { row := feedDiffsUptoRow, standIns := [], harness := (true, "8424e1d96ef1d97a008a2fe2307ab7260c52749b2684938277f031d9bc76b60c"), looks := false }, kinds := [], alts := [], laidByText := true, laidKinds := [.data, .data, .pinned], laidTests := true, laidLooks := .later }
def FeedDiffsUptoCardSaid : Prop := Claim7.holds Tryz.pinned (.plain (OpenSpec.upto feedDiffsSpec)) feedDiffsUptoCard

/-- THE SECOND FORM's CARD OF 'trclaw42.FeedRecent'. -/
def feedRecentUptoCard : Claim7 := { stood := { row := feedRecentUptoRow, standIns := [], harness := (true, "8424e1d96ef1d97a008a2fe2307ab7260c52749b2684938277f031d9bc76b60c"), looks := false }, kinds := [], alts := [], laidByText := true, laidKinds := [.data, .data, .pinned], laidTests := true, laidLooks := .later }
def FeedRecentUptoCardSaid : Prop := Claim7.holds Tryz.pinned (.plain (OpenSpec.upto feedRecentSpec)) feedRecentUptoCard
end Rows
end Go.Proofs.YtjoneoobolnnbaaGreatDoor
