/-
  DERIVED. GIVEN WITH THE SEED: THE CARDS: each row of YthmlnffponjikaaGreatDoorRows.lean that lists a variable, with what it lists TIED to the program's text (the seventh form; the later family's looks); each row that meets fmt, with fmt's text TOLD by the authors' own Lean function (tested against real Go, not proved from fmt's source: count such statements apart). THE CARD IS WHAT COUNTS. Prove the row's statement (the work); the ties are given (YthmlnffponjikaaGreatDoorTie.lean); close each card by the builder's one call (the guide's Derived/Test/ToyasCard.lean, 'card_holds'). Laid BY PROGRAM, IN A SANDBOX (cutbox-door.mjs). By AI agents, Wed Nov 11 2026. No macro, syntax, notation, axiom, sorry.
-/
import Derived.Test.YthmlnffponjikaaGreatDoorRows
import GoSem.ClaimSeven
namespace Go.Proofs.YthmlnffponjikaaGreatDoor
namespace Rows

/-- THE TIED CARD OF 'trclaw15.ViewValidate'. -/
def viewValidateCard : Claim7 := { stood := { row := viewValidateRow, standIns := [], harness := (true, "a719ebe82220e0eea8fce72486146431f01ce8af76f0b834d0316a0f24d24938"), looks := false }, kinds := [], alts := [], laidByText := true, laidKinds := [.data, .pinned], laidTests := true, laidLooks := .later }
def ViewValidateCardSaid : Prop := Claim7.holds Tryz.pinned (.plain (OpenSpec.ofChange viewValidateSpec)) viewValidateCard

/-- THE TIED CARD OF 'trclaw15.ViewAsk'. -/
def viewAskCard : Claim7 := { stood := { row := viewAskRow, standIns := [], harness := (true, "a719ebe82220e0eea8fce72486146431f01ce8af76f0b834d0316a0f24d24938"), looks := false }, kinds := [], alts := [], laidByText := true, laidKinds := [.data, .pinned], laidTests := true, laidLooks := .later }
def ViewAskCardSaid : Prop := Claim7.holds Tryz.pinned (.plain (OpenSpec.ofChange viewAskSpec)) viewAskCard

/-- THE TIED CARD OF 'trclaw15.ViewAnswers'. -/
def viewAnswersCard : Claim7 := { stood := { row := viewAnswersRow, standIns := [], harness := (true, "a719ebe82220e0eea8fce72486146431f01ce8af76f0b834d0316a0f24d24938"), looks := false }, kinds := [], alts := [], laidByText := true, laidKinds := [.data, .pinned], laidTests := true, laidLooks := .later }
def ViewAnswersCardSaid : Prop := Claim7.holds Tryz.pinned (.plain (OpenSpec.ofChange viewAnswersSpec)) viewAnswersCard

/-- THE TIED CARD OF 'trclaw15.ViewMembers'. -/
def viewMembersCard : Claim7 := { stood := { row := viewMembersRow, standIns := [], harness := (true, "a719ebe82220e0eea8fce72486146431f01ce8af76f0b834d0316a0f24d24938"), looks := false }, kinds := [], alts := [], laidByText := true, laidKinds := [.data, .pinned], laidTests := true, laidLooks := .later }
def ViewMembersCardSaid : Prop := Claim7.holds Tryz.pinned (.plain (OpenSpec.ofChange viewMembersSpec)) viewMembersCard

/-- THE TIED CARD OF 'trclaw15.ViewAbsent'. -/
def viewAbsentCard : Claim7 := { stood := { row := viewAbsentRow, standIns := [], harness := (true, "a719ebe82220e0eea8fce72486146431f01ce8af76f0b834d0316a0f24d24938"), looks := false }, kinds := [], alts := [], laidByText := true, laidKinds := [.data, .pinned], laidTests := true, laidLooks := .later }
def ViewAbsentCardSaid : Prop := Claim7.holds Tryz.pinned (.plain (OpenSpec.ofChange viewAbsentSpec)) viewAbsentCard

/-- THE TIED CARD OF 'trclaw15.ViewFixed'. -/
def viewFixedCard : Claim7 := { stood := { row := viewFixedRow, standIns := [], harness := (true, "a719ebe82220e0eea8fce72486146431f01ce8af76f0b834d0316a0f24d24938"), looks := false }, kinds := [], alts := [], laidByText := true, laidKinds := [.data, .pinned], laidTests := true, laidLooks := .later }
def ViewFixedCardSaid : Prop := Claim7.holds Tryz.pinned (.plain (OpenSpec.ofChange viewFixedSpec)) viewFixedCard

/-- THE TIED CARD OF 'trclaw15.ViewChanged'. -/
def viewChangedCard : Claim7 := { stood := { row := viewChangedRow, standIns := [], harness := (true, "a719ebe82220e0eea8fce72486146431f01ce8af76f0b834d0316a0f24d24938"), looks := false }, kinds := [], alts := [], laidByText := true, laidKinds := [.data, .pinned], laidTests := true, laidLooks := .later }
def ViewChangedCardSaid : Prop := Claim7.holds Tryz.pinned (.plain (OpenSpec.ofChange viewChangedSpec)) viewChangedCard

/-- THE SECOND FORM's CARD OF 'trclaw15.ViewValidate'. -/
def viewValidateUptoCard : Claim7 := { stood := { row := viewValidateUptoRow, standIns := [], harness := (true, "a719ebe82220e0eea8fce72486146431f01ce8af76f0b834d0316a0f24d24938"), looks := false }, kinds := [], alts := [], laidByText := true, laidKinds := [.data, .pinned], laidTests := true, laidLooks := .later }
def ViewValidateUptoCardSaid : Prop := Claim7.holds Tryz.pinned (.plain (OpenSpec.upto viewValidateSpec)) viewValidateUptoCard

/-- THE SECOND FORM's CARD OF 'trclaw15.ViewAsk'. -/
def viewAskUptoCard : Claim7 := { stood := { row := viewAskUptoRow, standIns := [], harness := (true, "a719ebe82220e0eea8fce72486146431f01ce8af76f0b834d0316a0f24d24938"), looks := false }, kinds := [], alts := [], laidByText := true, laidKinds := [.data, .pinned], laidTests := true, laidLooks := .later }
def ViewAskUptoCardSaid : Prop := Claim7.holds Tryz.pinned (.plain (OpenSpec.upto viewAskSpec)) viewAskUptoCard

/-- THE SECOND FORM's CARD OF 'trclaw15.ViewAnswers'. -/
def viewAnswersUptoCard : Claim7 := { stood := { row := viewAnswersUptoRow, standIns := [], harness := (true, "a719ebe82220e0eea8fce72486146431f01ce8af76f0b834d0316a0f24d24938"), looks := false }, kinds := [], alts := [], laidByText := true, laidKinds := [.data, .pinned], laidTests := true, laidLooks := .later }
def ViewAnswersUptoCardSaid : Prop := Claim7.holds Tryz.pinned (.plain (OpenSpec.upto viewAnswersSpec)) viewAnswersUptoCard

/-- THE SECOND FORM's CARD OF 'trclaw15.ViewMembers'. -/
def viewMembersUptoCard : Claim7 := { stood := { row := viewMembersUptoRow, standIns := [], harness := (true, "a719ebe82220e0eea8fce72486146431f01ce8af76f0b834d0316a0f24d24938"), looks := false }, kinds := [], alts := [], laidByText := true, laidKinds := [.data, .pinned], laidTests := true, laidLooks := .later }
def ViewMembersUptoCardSaid : Prop := Claim7.holds Tryz.pinned (.plain (OpenSpec.upto viewMembersSpec)) viewMembersUptoCard

/-- THE SECOND FORM's CARD OF 'trclaw15.ViewAbsent'. -/
def viewAbsentUptoCard : Claim7 := { stood := { row := viewAbsentUptoRow, standIns := [], harness := (true, "a719ebe82220e0eea8fce72486146431f01ce8af76f0b834d0316a0f24d24938"), looks := false }, kinds := [], alts := [], laidByText := true, laidKinds := [.data, .pinned], laidTests := true, laidLooks := .later }
def ViewAbsentUptoCardSaid : Prop := Claim7.holds Tryz.pinned (.plain (OpenSpec.upto viewAbsentSpec)) viewAbsentUptoCard

/-- THE SECOND FORM's CARD OF 'trclaw15.ViewFixed'. -/
def viewFixedUptoCard : Claim7 := { stood := { row := viewFixedUptoRow, standIns := [], harness := (true, "a719ebe82220e0eea8fce72486146431f01ce8af76f0b834d0316a0f24d24938"), looks := false }, kinds := [], alts := [], laidByText := true, laidKinds := [.data, .pinned], laidTests := true, laidLooks := .later }
def ViewFixedUptoCardSaid : Prop := Claim7.holds Tryz.pinned (.plain (OpenSpec.upto viewFixedSpec)) viewFixedUptoCard

/-- THE SECOND FORM's CARD OF 'trclaw15.ViewChanged'. -/
def viewChangedUptoCard : Claim7 := { stood := { row := viewChangedUptoRow, standIns := [], harness := (true, "a719ebe82220e0eea8fce72486146431f01ce8af76f0b834d0316a0f24d24938"), looks := false }, kinds := [], alts := [], laidByText := true, laidKinds := [.data, .pinned], laidTests := true, laidLooks := .later }
def ViewChangedUptoCardSaid : Prop := Claim7.holds Tryz.pinned (.plain (OpenSpec.upto viewChangedSpec)) viewChangedUptoCard
end Rows
end Go.Proofs.YthmlnffponjikaaGreatDoor
