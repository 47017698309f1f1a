/-
  DERIVED. GIVEN WITH THE SEED: THE CARDS: each row of YtphibahplgmgfaaGreatDoorRows.lean that lists a variable, with what it lists TIED to the program's text (the seventh form; the later family's looks); each row that meets fmt, with fmt's text TOLD by the authors' own Lean function (tested against real Go, not proved from fmt's source: count such statements apart). THE CARD IS WHAT COUNTS. Prove the row's statement (the work); the ties are given (YtphibahplgmgfaaGreatDoorTie.lean); close each card by the builder's one call (the guide's Derived/Test/ToyasCard.lean, 'card_holds'). Laid BY PROGRAM, IN A SANDBOX (cutbox-door.mjs). By AI agents, Wed Nov 11 2026. No macro, syntax, notation, axiom, sorry.
-/
import Derived.Test.YtphibahplgmgfaaGreatDoorRows
import GoSem.ClaimSeven
namespace Go.Proofs.YtphibahplgmgfaaGreatDoor
namespace Rows

/-- THE TIED CARD OF 'trclaw31.ProjectViews'. -/
def projectViewsCard : Claim7 := { stood := { row := projectViewsRow, standIns := [], harness := (true, "5e6aeaf49f1336bcdf5775286944a879f2a06b07993694a56f123f21e0f3956d"), looks := false }, kinds := [], alts := [], laidByText := true, laidKinds := [.data, .data, .pinned], laidTests := true, laidLooks := .later }
def ProjectViewsCardSaid : Prop := Claim7.holds Tryz.pinned (.plain (OpenSpec.ofChange projectViewsSpec)) projectViewsCard

/-- THE TIED CARD OF 'trclaw31.ProjectSame'. -/
def projectSameCard : Claim7 := { stood := { row := projectSameRow, standIns := [], harness := (true, "5e6aeaf49f1336bcdf5775286944a879f2a06b07993694a56f123f21e0f3956d"), looks := false }, kinds := [], alts := [], laidByText := true, laidKinds := [.data, .data, .pinned], laidTests := true, laidLooks := .later }
def ProjectSameCardSaid : Prop := Claim7.holds Tryz.pinned (.plain (OpenSpec.ofChange projectSameSpec)) projectSameCard

/-- THE TIED CARD OF 'trclaw31.ProjectValid'. -/
def projectValidCard : Claim7 := { stood := { row := projectValidRow, standIns := [], harness := (true, "5e6aeaf49f1336bcdf5775286944a879f2a06b07993694a56f123f21e0f3956d"), looks := false }, kinds := [], alts := [], laidByText := true, laidKinds := [.data, .data, .pinned], laidTests := true, laidLooks := .later }
def ProjectValidCardSaid : Prop := Claim7.holds Tryz.pinned (.plain (OpenSpec.ofChange projectValidSpec)) projectValidCard

/-- THE TIED CARD OF 'trclaw31.ProjectOnly'. -/
def projectOnlyCard : Claim7 := { stood := { row := projectOnlyRow, standIns := [], harness := (true, "5e6aeaf49f1336bcdf5775286944a879f2a06b07993694a56f123f21e0f3956d"), looks := false }, kinds := [], alts := [], laidByText := true, laidKinds := [.data, .data, .pinned], laidTests := true, laidLooks := .later }
def ProjectOnlyCardSaid : Prop := Claim7.holds Tryz.pinned (.plain (OpenSpec.ofChange projectOnlySpec)) projectOnlyCard

/-- THE TIED CARD OF 'trclaw31.ProjectHidden'. -/
def projectHiddenCard : Claim7 := { stood := { row := projectHiddenRow, standIns := [], harness := (true, "5e6aeaf49f1336bcdf5775286944a879f2a06b07993694a56f123f21e0f3956d"), looks := false }, kinds := [], alts := [], laidByText := true, laidKinds := [.data, .data, .pinned], laidTests := true, laidLooks := .later }
def ProjectHiddenCardSaid : Prop := Claim7.holds Tryz.pinned (.plain (OpenSpec.ofChange projectHiddenSpec)) projectHiddenCard

/-- THE TIED CARD OF 'trclaw31.ProjectTick'. -/
def projectTickCard : Claim7 := { stood := { row := projectTickRow, standIns := [], harness := (true, "5e6aeaf49f1336bcdf5775286944a879f2a06b07993694a56f123f21e0f3956d"), looks := false }, kinds := [], alts := [], laidByText := true, laidKinds := [.data, .data, .pinned], laidTests := true, laidLooks := .later }
def ProjectTickCardSaid : Prop := Claim7.holds Tryz.pinned (.plain (OpenSpec.ofChange projectTickSpec)) projectTickCard

/-- THE TIED CARD OF 'trclaw31.ProjectOrder'. -/
def projectOrderCard : Claim7 := { stood := { row := projectOrderRow, standIns := [], harness := (true, "5e6aeaf49f1336bcdf5775286944a879f2a06b07993694a56f123f21e0f3956d"), looks := false }, kinds := [], alts := [], laidByText := true, laidKinds := [.data, .data, .pinned], laidTests := true, laidLooks := .later }
def ProjectOrderCardSaid : Prop := Claim7.holds Tryz.pinned (.plain (OpenSpec.ofChange projectOrderSpec)) projectOrderCard

/-- THE SECOND FORM's CARD OF 'trclaw31.ProjectViews'. -/
def projectViewsUptoCard : Claim7 := { stood := { row := projectViewsUptoRow, standIns := [], harness := (true, "5e6aeaf49f1336bcdf5775286944a879f2a06b07993694a56f123f21e0f3956d"), looks := false }, kinds := [], alts := [], laidByText := true, laidKinds := [.data, .data, .pinned], laidTests := true, laidLooks := .later }
def ProjectViewsUptoCardSaid : Prop := Claim7.holds Tryz.pinned (.plain (OpenSpec.upto projectViewsSpec)) projectViewsUptoCard

/-- THE SECOND FORM's CARD OF 'trclaw31.ProjectSame'. -/
def projectSameUptoCard : Claim7 := { stood := { row := projectSameUptoRow, standIns := [], harness := (true, "5e6aeaf49f1336bcdf5775286944a879f2a06b07993694a56f123f21e0f3956d"), looks := false }, kinds := [], alts := [], laidByText := true, laidKinds := [.data, .data, .pinned], laidTests := true, laidLooks := .later }
def ProjectSameUptoCardSaid : Prop := Claim7.holds Tryz.pinned (.plain (OpenSpec.upto projectSameSpec)) projectSameUptoCard

/-- THE SECOND FORM's CARD OF 'trclaw31.ProjectValid'. -/
def projectValidUptoCard : Claim7 := { stood := { row := projectValidUptoRow, standIns := [], harness := (true, "5e6aeaf49f1336bcdf5775286944a879f2a06b07993694a56f123f21e0f3956d"), looks := false }, kinds := [], alts := [], laidByText := true, laidKinds := [.data, .data, .pinned], laidTests := true, laidLooks := .later }
def ProjectValidUptoCardSaid : Prop := Claim7.holds Tryz.pinned (.plain (OpenSpec.upto projectValidSpec)) projectValidUptoCard

/-- THE SECOND FORM's CARD OF 'trclaw31.ProjectOnly'. -/
def projectOnlyUptoCard : Claim7 := { stood := { row := projectOnlyUptoRow, standIns := [], harness := (true, "5e6aeaf49f1336bcdf5775286944a879f2a06b07993694a56f123f21e0f3956d"), looks := false }, kinds := [], alts := [], laidByText := true, laidKinds := [.data, .data, .pinned], laidTests := true, laidLooks := .later }
def ProjectOnlyUptoCardSaid : Prop := Claim7.holds Tryz.pinned (.plain (OpenSpec.upto projectOnlySpec)) projectOnlyUptoCard

/-- THE SECOND FORM's CARD OF 'trclaw31.ProjectHidden'. -/
def projectHiddenUptoCard : Claim7 := { stood := { row := projectHiddenUptoRow, standIns := [], harness := (true, "5e6aeaf49f1336bcdf5775286944a879f2a06b07993694a56f123f21e0f3956d"), looks := false }, kinds := [], alts := [], laidByText := true, laidKinds := [.data, .data, .pinned], laidTests := true, laidLooks := .later }
def ProjectHiddenUptoCardSaid : Prop := Claim7.holds Tryz.pinned (.plain (OpenSpec.upto projectHiddenSpec)) projectHiddenUptoCard

/-- THE SECOND FORM's CARD OF 'trclaw31.ProjectTick'. -/
def projectTickUptoCard : Claim7 := { stood := { row := projectTickUptoRow, standIns := [], harness := (true, "5e6aeaf49f1336bcdf5775286944a879f2a06b07993694a56f123f21e0f3956d"), looks := false }, kinds := [], alts := [], laidByText := true, laidKinds := [.data, .data, .pinned], laidTests := true, laidLooks := .later }
def ProjectTickUptoCardSaid : Prop := Claim7.holds Tryz.pinned (.plain (OpenSpec.upto projectTickSpec)) projectTickUptoCard

/-- THE SECOND FORM's CARD OF 'trclaw31.ProjectOrder'. -/
def projectOrderUptoCard : Claim7 := { stood := { row := projectOrderUptoRow, standIns := [], harness := (true, "5e6aeaf49f1336bcdf5775286944a879f2a06b07993694a56f123f21e0f3956d"), looks := false }, kinds := [], alts := [], laidByText := true, laidKinds := [.data, .data, .pinned], laidTests := true, laidLooks := .later }
def ProjectOrderUptoCardSaid : Prop := Claim7.holds Tryz.pinned (.plain (OpenSpec.upto projectOrderSpec)) projectOrderUptoCard
end Rows
end Go.Proofs.YtphibahplgmgfaaGreatDoor
