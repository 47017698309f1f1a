/-
  DERIVED. GIVEN WITH THE SEED: THE CARDS: each row of YtknjnciilchgnaaGreatDoorRows.lean that lists a variable, with what it lists TIED to the program's text (the seventh form; the later family's looks); each row that meets fmt, with fmt's text TOLD by the authors' own Lean function (tested against real Go, not proved from fmt's source: count such statements apart). THE CARD IS WHAT COUNTS. Prove the row's statement (the work); the ties are given (YtknjnciilchgnaaGreatDoorTie.lean); close each card by the builder's one call (the guide's Derived/Test/ToyasCard.lean, 'card_holds'). Laid BY PROGRAM, IN A SANDBOX (cutbox-door.mjs). By AI agents, Wed Nov 11 2026. No macro, syntax, notation, axiom, sorry.
-/
import Derived.Test.YtknjnciilchgnaaGreatDoorRows
import GoSem.ClaimSeven
namespace Go.Proofs.YtknjnciilchgnaaGreatDoor
namespace Rows

/-- THE TIED CARD OF 'trclaw15.ViewCompare'. -/
def viewCompareCard : Claim7 := { stood := { row := viewCompareRow, standIns := [], harness := (true, "1ecb9c3ce8f74cbd190b0713c1ab9563f4e8f390131df20f6488ac2e30140662"), looks := false }, kinds := [], alts := [], laidByText := true, laidKinds := [.data, .pinned], laidTests := true, laidLooks := .later }
def ViewCompareCardSaid : Prop := Claim7.holds Tryz.pinned (.plain (OpenSpec.ofChange viewCompareSpec)) viewCompareCard

/-- THE TIED CARD OF 'trclaw15.ViewRecord'. -/
def viewRecordCard : Claim7 := { stood := { row := viewRecordRow, standIns := [], harness := (true, "1ecb9c3ce8f74cbd190b0713c1ab9563f4e8f390131df20f6488ac2e30140662"), looks := false }, kinds := [], alts := [], laidByText := true, laidKinds := [.data, .pinned], laidTests := true, laidLooks := .later }
def ViewRecordCardSaid : Prop := Claim7.holds Tryz.pinned (.plain (OpenSpec.ofChange viewRecordSpec)) viewRecordCard

/-- THE SECOND FORM's CARD OF 'trclaw15.ViewCompare'. -/
def viewCompareUptoCard : Claim7 := { stood := { row := viewCompareUptoRow, standIns := [], harness := (true, "1ecb9c3ce8f74cbd190b0713c1ab9563f4e8f390131df20f6488ac2e30140662"), looks := false }, kinds := [], alts := [], laidByText := true, laidKinds := [.data, .pinned], laidTests := true, laidLooks := .later }
def ViewCompareUptoCardSaid : Prop := Claim7.holds Tryz.pinned (.plain (OpenSpec.upto viewCompareSpec)) viewCompareUptoCard

/-- THE SECOND FORM's CARD OF 'trclaw15.ViewRecord'. -/
def viewRecordUptoCard : Claim7 := { stood := { row := viewRecordUptoRow, standIns := [], harness := (true, "1ecb9c3ce8f74cbd190b0713c1ab9563f4e8f390131df20f6488ac2e30140662"), looks := false }, kinds := [], alts := [], laidByText := true, laidKinds := [.data, .pinned], laidTests := true, laidLooks := .later }
def ViewRecordUptoCardSaid : Prop := Claim7.holds Tryz.pinned (.plain (OpenSpec.upto viewRecordSpec)) viewRecordUptoCard
end Rows
end Go.Proofs.YtknjnciilchgnaaGreatDoor
