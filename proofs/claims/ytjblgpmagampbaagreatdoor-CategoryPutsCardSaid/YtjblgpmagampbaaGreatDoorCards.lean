/-
  DERIVED. GIVEN WITH THE SEED: THE CARDS: each row of YtjblgpmagampbaaGreatDoorRows.lean that lists a variable, with what it lists TIED to the program's text (the seventh form; the later family's looks); each row that meets fmt, with fmt's text TOLD by the authors' own Lean function (tested against real Go, not proved from fmt's source: count such statements apart). THE CARD IS WHAT COUNTS. Prove the row's statement (the work); the ties are given (YtjblgpmagampbaaGreatDoorTie.lean); close each card by the builder's one call (the guide's Derived/Test/ToyasCard.lean, 'card_holds'). Laid BY PROGRAM, IN A SANDBOX (cutbox-door.mjs). By AI agents, Wed Nov 11 2026. No macro, syntax, notation, axiom, sorry.
-/
import Derived.Test.YtjblgpmagampbaaGreatDoorRows
import GoSem.ClaimSeven
namespace Go.Proofs.YtjblgpmagampbaaGreatDoor
namespace Rows

/-- THE TIED CARD OF 'trclaw34.CategoryPuts'. -/
def categoryPutsCard : Claim7 := { stood := { row := categoryPutsRow, standIns := [], harness := (true, "8d283c0992ba005e3e4fa0f8627dc5d41e82c582c5636d86a0b060afae69406a"), looks := false }, kinds := [], alts := [], laidByText := true, laidKinds := [.data, .pinned], laidTests := true, laidLooks := .later }
def CategoryPutsCardSaid : Prop := Claim7.holds Tryz.pinned (.plain (OpenSpec.ofChange categoryPutsSpec)) categoryPutsCard

/-- THE TIED CARD OF 'trclaw34.CategoryAsks'. -/
def categoryAsksCard : Claim7 := { stood := { row := categoryAsksRow, standIns := [], harness := (true, "8d283c0992ba005e3e4fa0f8627dc5d41e82c582c5636d86a0b060afae69406a"), looks := false }, kinds := [], alts := [], laidByText := true, laidKinds := [.data, .pinned], laidTests := true, laidLooks := .later }
def CategoryAsksCardSaid : Prop := Claim7.holds Tryz.pinned (.plain (OpenSpec.ofChange categoryAsksSpec)) categoryAsksCard

/-- THE TIED CARD OF 'trclaw34.CategoryVisible'. -/
def categoryVisibleCard : Claim7 := { stood := { row := categoryVisibleRow, standIns := [], harness := (true, "8d283c0992ba005e3e4fa0f8627dc5d41e82c582c5636d86a0b060afae69406a"), looks := false }, kinds := [], alts := [], laidByText := true, laidKinds := [.data, .pinned], laidTests := true, laidLooks := .later }
def CategoryVisibleCardSaid : Prop := Claim7.holds Tryz.pinned (.plain (OpenSpec.ofChange categoryVisibleSpec)) categoryVisibleCard

/-- THE TIED CARD OF 'trclaw34.CategoryRows'. -/
def categoryRowsCard : Claim7 := { stood := { row := categoryRowsRow, standIns := [], harness := (true, "8d283c0992ba005e3e4fa0f8627dc5d41e82c582c5636d86a0b060afae69406a"), looks := false }, kinds := [], alts := [], laidByText := true, laidKinds := [.data, .pinned], laidTests := true, laidLooks := .later }
def CategoryRowsCardSaid : Prop := Claim7.holds Tryz.pinned (.plain (OpenSpec.ofChange categoryRowsSpec)) categoryRowsCard

/-- THE TIED CARD OF 'trclaw34.CategorySteps'. -/
def categoryStepsCard : Claim7 := { stood := { row := categoryStepsRow, standIns := [], harness := (true, "8d283c0992ba005e3e4fa0f8627dc5d41e82c582c5636d86a0b060afae69406a"), looks := false }, kinds := [], alts := [], laidByText := true, laidKinds := [.data, .pinned], laidTests := true, laidLooks := .later }
def CategoryStepsCardSaid : Prop := Claim7.holds Tryz.pinned (.plain (OpenSpec.ofChange categoryStepsSpec)) categoryStepsCard

/-- THE TIED CARD OF 'trclaw34.CategoryAgrees'. -/
def categoryAgreesCard : Claim7 := { stood := { row := categoryAgreesRow, standIns := [], harness := (true, "8d283c0992ba005e3e4fa0f8627dc5d41e82c582c5636d86a0b060afae69406a"), looks := false }, kinds := [], alts := [], laidByText := true, laidKinds := [.data, .pinned], laidTests := true, laidLooks := .later }
def CategoryAgreesCardSaid : Prop := Claim7.holds Tryz.pinned (.plain (OpenSpec.ofChange categoryAgreesSpec)) categoryAgreesCard

/-- THE TIED CARD OF 'trclaw34.CategoryBelow'. -/
def categoryBelowCard : Claim7 := { stood := { row := categoryBelowRow, standIns := [], harness := (true, "8d283c0992ba005e3e4fa0f8627dc5d41e82c582c5636d86a0b060afae69406a"), looks := false }, kinds := [], alts := [], laidByText := true, laidKinds := [.data, .pinned], laidTests := true, laidLooks := .later }
def CategoryBelowCardSaid : Prop := Claim7.holds Tryz.pinned (.plain (OpenSpec.ofChange categoryBelowSpec)) categoryBelowCard

/-- THE SECOND FORM's CARD OF 'trclaw34.CategoryPuts'. -/
def categoryPutsUptoCard : Claim7 := { stood := { row := categoryPutsUptoRow, standIns := [], harness := (true, "8d283c0992ba005e3e4fa0f8627dc5d41e82c582c5636d86a0b060afae69406a"), looks := false }, kinds := [], alts := [], laidByText := true, laidKinds := [.data, .pinned], laidTests := true, laidLooks := .later }
def CategoryPutsUptoCardSaid : Prop := Claim7.holds Tryz.pinned (.plain (OpenSpec.upto categoryPutsSpec)) categoryPutsUptoCard

/-- THE SECOND FORM's CARD OF 'trclaw34.CategoryAsks'. -/
def categoryAsksUptoCard : Claim7 := { stood := { row := categoryAsksUptoRow, standIns := [], harness := (true, "8d283c0992ba005e3e4fa0f8627dc5d41e82c582c5636d86a0b060afae69406a"), looks := false }, kinds := [], alts := [], laidByText := true, laidKinds := [.data, .pinned], laidTests := true, laidLooks := .later }
def CategoryAsksUptoCardSaid : Prop := Claim7.holds Tryz.pinned (.plain (OpenSpec.upto categoryAsksSpec)) categoryAsksUptoCard

/-- THE SECOND FORM's CARD OF 'trclaw34.CategoryVisible'. -/
def categoryVisibleUptoCard : Claim7 := { stood := { row := categoryVisibleUptoRow, standIns := [], harness := (true, "8d283c0992ba005e3e4fa0f8627dc5d41e82c582c5636d86a0b060afae69406a"), looks := false }, kinds := [], alts := [], laidByText := true, laidKinds := [.data, .pinned], laidTests := true, laidLooks := .later }
def CategoryVisibleUptoCardSaid : Prop := Claim7.holds Tryz.pinned (.plain (OpenSpec.upto categoryVisibleSpec)) categoryVisibleUptoCard

/-- THE SECOND FORM's CARD OF 'trclaw34.CategoryRows'. -/
def categoryRowsUptoCard : Claim7 := { stood := { row := categoryRowsUptoRow, standIns := [], harness := (true, "8d283c0992ba005e3e4fa0f8627dc5d41e82c582c5636d86a0b060afae69406a"), looks := false }, kinds := [], alts := [], laidByText := true, laidKinds := [.data, .pinned], laidTests := true, laidLooks := .later }
def CategoryRowsUptoCardSaid : Prop := Claim7.holds Tryz.pinned (.plain (OpenSpec.upto categoryRowsSpec)) categoryRowsUptoCard

/-- THE SECOND FORM's CARD OF 'trclaw34.CategorySteps'. -/
def categoryStepsUptoCard : Claim7 := { stood := { row := categoryStepsUptoRow, standIns := [], harness := (true, "8d283c0992ba005e3e4fa0f8627dc5d41e82c582c5636d86a0b060afae69406a"), looks := false }, kinds := [], alts := [], laidByText := true, laidKinds := [.data, .pinned], laidTests := true, laidLooks := .later }
def CategoryStepsUptoCardSaid : Prop := Claim7.holds Tryz.pinned (.plain (OpenSpec.upto categoryStepsSpec)) categoryStepsUptoCard

/-- THE SECOND FORM's CARD OF 'trclaw34.CategoryAgrees'. -/
def categoryAgreesUptoCard : Claim7 := { stood := { row := categoryAgreesUptoRow, standIns := [], harness := (true, "8d283c0992ba005e3e4fa0f8627dc5d41e82c582c5636d86a0b060afae69406a"), looks := false }, kinds := [], alts := [], laidByText := true, laidKinds := [.data, .pinned], laidTests := true, laidLooks := .later }
def CategoryAgreesUptoCardSaid : Prop := Claim7.holds Tryz.pinned (.plain (OpenSpec.upto categoryAgreesSpec)) categoryAgreesUptoCard

/-- THE SECOND FORM's CARD OF 'trclaw34.CategoryBelow'. -/
def categoryBelowUptoCard : Claim7 := { stood := { row := categoryBelowUptoRow, standIns := [], harness := (true, "8d283c0992ba005e3e4fa0f8627dc5d41e82c582c5636d86a0b060afae69406a"), looks := false }, kinds := [], alts := [], laidByText := true, laidKinds := [.data, .pinned], laidTests := true, laidLooks := .later }
def CategoryBelowUptoCardSaid : Prop := Claim7.holds Tryz.pinned (.plain (OpenSpec.upto categoryBelowSpec)) categoryBelowUptoCard
end Rows
end Go.Proofs.YtjblgpmagampbaaGreatDoor
