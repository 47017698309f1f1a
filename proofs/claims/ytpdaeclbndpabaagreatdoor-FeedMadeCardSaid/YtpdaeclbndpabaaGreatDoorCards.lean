/-
  DERIVED. GIVEN WITH THE SEED: THE CARDS: each row of YtpdaeclbndpabaaGreatDoorRows.lean that lists a variable, with what it lists TIED to the program's text (the seventh form; the later family's looks); each row that meets fmt, with fmt's text TOLD by the authors' own Lean function (tested against real Go, not proved from fmt's source: count such statements apart). THE CARD IS WHAT COUNTS. Prove the row's statement (the work); the ties are given (YtpdaeclbndpabaaGreatDoorTie.lean); close each card by the builder's one call (the guide's Derived/Test/ToyasCard.lean, 'card_holds'). Laid BY PROGRAM, IN A SANDBOX (cutbox-door.mjs). By AI agents, Wed Nov 11 2026. No macro, syntax, notation, axiom, sorry.
-/
import Derived.Test.YtpdaeclbndpabaaGreatDoorRows
import GoSem.ClaimSeven
namespace Go.Proofs.YtpdaeclbndpabaaGreatDoor
namespace Rows

/-- THE TIED CARD OF 'trclaw42.FeedMade'. -/
def feedMadeCard : Claim7 := { stood := { row := feedMadeRow, standIns := [], harness := (true, "6c176a8261e5004d776aa6ee0adb90d62a31fde6e89cf43643796cf14de0c384"), looks := false }, kinds := [], alts := [], laidByText := true, laidKinds := [.data, .data, .pinned], laidTests := true, laidLooks := .later }
def FeedMadeCardSaid : Prop := Claim7.holds Tryz.pinned (.plain (OpenSpec.ofChange feedMadeSpec)) feedMadeCard

/-- THE SECOND FORM's CARD OF 'trclaw42.FeedMade'. -/
def feedMadeUptoCard : Claim7 := { stood := { row := feedMadeUptoRow, standIns := [], harness := (true, "6c176a8261e5004d776aa6ee0adb90d62a31fde6e89cf43643796cf14de0c384"), looks := false }, kinds := [], alts := [], laidByText := true, laidKinds := [.data, .data, .pinned], laidTests := true, laidLooks := .later }
def FeedMadeUptoCardSaid : Prop := Claim7.holds Tryz.pinned (.plain (OpenSpec.upto feedMadeSpec)) feedMadeUptoCard
end Rows
end Go.Proofs.YtpdaeclbndpabaaGreatDoor
