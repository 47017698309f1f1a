/-
  DERIVED. GIVEN WITH THE SEED: THE CARDS: each row of YtpffimahajgiaaaGreatDoorRows.lean that lists a variable, with what it lists TIED to the program's text (the seventh form; the later family's looks); each row that meets fmt, with fmt's text TOLD by the authors' own Lean function (tested against real Go, not proved from fmt's source: count such statements apart). THE CARD IS WHAT COUNTS. Prove the row's statement (the work); the ties are given (YtpffimahajgiaaaGreatDoorTie.lean); close each card by the builder's one call (the guide's Derived/Test/ToyasCard.lean, 'card_holds'). Laid BY PROGRAM, IN A SANDBOX (cutbox-door.mjs). By AI agents, Wed Nov 11 2026. No macro, syntax, notation, axiom, sorry.
-/
import Derived.Test.YtpffimahajgiaaaGreatDoorRows
import GoSem.ClaimSeven
namespace Go.Proofs.YtpffimahajgiaaaGreatDoor
namespace Rows

/-- THE TIED CARD OF 'trclaw15.ViewValidate'. -/
def viewValidateCard : Claim7 := { stood := { row := viewValidateRow, standIns := [], harness := (true, "646569a16acde16da2f7cee9419bbb7b7588f94761fa4a0240b0c30a933434b8"), looks := false }, kinds := [], alts := [], laidByText := true, laidKinds := [.data, .pinned], laidTests := true, laidLooks := .later }
def ViewValidateCardSaid : Prop := Claim7.holds Tryz.pinned (.plain (OpenSpec.ofChange viewValidateSpec)) viewValidateCard

/-- THE TIED CARD OF 'trclaw15.ViewMembers'. -/
def viewMembersCard : Claim7 := { stood := { row := viewMembersRow, standIns := [], harness := (true, "646569a16acde16da2f7cee9419bbb7b7588f94761fa4a0240b0c30a933434b8"), looks := false }, kinds := [], alts := [], laidByText := true, laidKinds := [.data, .pinned], laidTests := true, laidLooks := .later }
def ViewMembersCardSaid : Prop := Claim7.holds Tryz.pinned (.plain (OpenSpec.ofChange viewMembersSpec)) viewMembersCard

/-- THE SECOND FORM's CARD OF 'trclaw15.ViewValidate'. -/
def viewValidateUptoCard : Claim7 := { stood := { row := viewValidateUptoRow, standIns := [], harness := (true, "646569a16acde16da2f7cee9419bbb7b7588f94761fa4a0240b0c30a933434b8"), looks := false }, kinds := [], alts := [], laidByText := true, laidKinds := [.data, .pinned], laidTests := true, laidLooks := .later }
def ViewValidateUptoCardSaid : Prop := Claim7.holds Tryz.pinned (.plain (OpenSpec.upto viewValidateSpec)) viewValidateUptoCard

/-- THE SECOND FORM's CARD OF 'trclaw15.ViewMembers'. -/
def viewMembersUptoCard : Claim7 := { stood := { row := viewMembersUptoRow, standIns := [], harness := (true, "646569a16acde16da2f7cee9419bbb7b7588f94761fa4a0240b0c30a933434b8"), looks := false }, kinds := [], alts := [], laidByText := true, laidKinds := [.data, .pinned], laidTests := true, laidLooks := .later }
def ViewMembersUptoCardSaid : Prop := Claim7.holds Tryz.pinned (.plain (OpenSpec.upto viewMembersSpec)) viewMembersUptoCard
end Rows
end Go.Proofs.YtpffimahajgiaaaGreatDoor
