/-
  DERIVED. GIVEN WITH THE SEED: THE CARDS: each row of YtmgfammllddkhaaGreatDoorRows.lean that lists a variable, with what it lists TIED to the program's text (the seventh form; the later family's looks); each row that meets fmt, with fmt's text TOLD by the authors' own Lean function (tested against real Go, not proved from fmt's source: count such statements apart). THE CARD IS WHAT COUNTS. Prove the row's statement (the work); the ties are given (YtmgfammllddkhaaGreatDoorTie.lean); close each card by the builder's one call (the guide's Derived/Test/ToyasCard.lean, 'card_holds'). Laid BY PROGRAM, IN A SANDBOX (cutbox-door.mjs). By AI agents, Wed Nov 11 2026. No macro, syntax, notation, axiom, sorry.
-/
import Derived.Test.YtmgfammllddkhaaGreatDoorRows
import GoSem.ClaimSeven
namespace Go.Proofs.YtmgfammllddkhaaGreatDoor
namespace Rows

/-- THE TIED CARD OF 'trclaw14.LinksOwn'. -/
def linksOwnCard : Claim7 := { stood := { row := linksOwnRow, standIns := [], harness := (true, "de3141c8ca3711f6590e2df4005c4670cc92bd3a041a2faeb1f8348d622df3ff"), looks := false }, kinds := [], alts := [], laidByText := true, laidKinds := [.data, .pinned], laidTests := true, laidLooks := .later }
def LinksOwnCardSaid : Prop := Claim7.holds Tryz.pinned (.plain (OpenSpec.ofChange linksOwnSpec)) linksOwnCard

/-- THE TIED CARD OF 'trclaw14.LinksBuilt'. -/
def linksBuiltCard : Claim7 := { stood := { row := linksBuiltRow, standIns := [], harness := (true, "de3141c8ca3711f6590e2df4005c4670cc92bd3a041a2faeb1f8348d622df3ff"), looks := false }, kinds := [], alts := [], laidByText := true, laidKinds := [.data, .pinned], laidTests := true, laidLooks := .later }
def LinksBuiltCardSaid : Prop := Claim7.holds Tryz.pinned (.plain (OpenSpec.ofChange linksBuiltSpec)) linksBuiltCard

/-- THE TIED CARD OF 'trclaw14.LinksSorted'. -/
def linksSortedCard : Claim7 := { stood := { row := linksSortedRow, standIns := [], harness := (true, "de3141c8ca3711f6590e2df4005c4670cc92bd3a041a2faeb1f8348d622df3ff"), looks := false }, kinds := [], alts := [], laidByText := true, laidKinds := [.data, .pinned], laidTests := true, laidLooks := .later }
def LinksSortedCardSaid : Prop := Claim7.holds Tryz.pinned (.plain (OpenSpec.ofChange linksSortedSpec)) linksSortedCard

/-- THE TIED CARD OF 'trclaw14.LinksRedirect'. -/
def linksRedirectCard : Claim7 := { stood := { row := linksRedirectRow, standIns := [], harness := (true, "de3141c8ca3711f6590e2df4005c4670cc92bd3a041a2faeb1f8348d622df3ff"), looks := false }, kinds := [], alts := [], laidByText := true, laidKinds := [.data, .pinned], laidTests := true, laidLooks := .later }
def LinksRedirectCardSaid : Prop := Claim7.holds Tryz.pinned (.plain (OpenSpec.ofChange linksRedirectSpec)) linksRedirectCard

/-- THE TIED CARD OF 'trclaw14.LinksHidden'. -/
def linksHiddenCard : Claim7 := { stood := { row := linksHiddenRow, standIns := [], harness := (true, "de3141c8ca3711f6590e2df4005c4670cc92bd3a041a2faeb1f8348d622df3ff"), looks := false }, kinds := [], alts := [], laidByText := true, laidKinds := [.data, .pinned], laidTests := true, laidLooks := .later }
def LinksHiddenCardSaid : Prop := Claim7.holds Tryz.pinned (.plain (OpenSpec.ofChange linksHiddenSpec)) linksHiddenCard

/-- THE TIED CARD OF 'trclaw14.LinksTags'. -/
def linksTagsCard : Claim7 := { stood := { row := linksTagsRow, standIns := [], harness := (true, "de3141c8ca3711f6590e2df4005c4670cc92bd3a041a2faeb1f8348d622df3ff"), looks := false }, kinds := [], alts := [], laidByText := true, laidKinds := [.data, .pinned], laidTests := true, laidLooks := .later }
def LinksTagsCardSaid : Prop := Claim7.holds Tryz.pinned (.plain (OpenSpec.ofChange linksTagsSpec)) linksTagsCard

/-- THE TIED CARD OF 'trclaw14.LinksLines'. -/
def linksLinesCard : Claim7 := { stood := { row := linksLinesRow, standIns := [], harness := (true, "de3141c8ca3711f6590e2df4005c4670cc92bd3a041a2faeb1f8348d622df3ff"), looks := false }, kinds := [], alts := [], laidByText := true, laidKinds := [.data, .pinned], laidTests := true, laidLooks := .later }
def LinksLinesCardSaid : Prop := Claim7.holds Tryz.pinned (.plain (OpenSpec.ofChange linksLinesSpec)) linksLinesCard

/-- THE SECOND FORM's CARD OF 'trclaw14.LinksOwn'. -/
def linksOwnUptoCard : Claim7 := { stood := { row := linksOwnUptoRow, standIns := [], harness := (true, "de3141c8ca3711f6590e2df4005c4670cc92bd3a041a2faeb1f8348d622df3ff"), looks := false }, kinds := [], alts := [], laidByText := true, laidKinds := [.data, .pinned], laidTests := true, laidLooks := .later }
def LinksOwnUptoCardSaid : Prop := Claim7.holds Tryz.pinned (.plain (OpenSpec.upto linksOwnSpec)) linksOwnUptoCard

/-- THE SECOND FORM's CARD OF 'trclaw14.LinksBuilt'. -/
def linksBuiltUptoCard : Claim7 := { stood := { row := linksBuiltUptoRow, standIns := [], harness := (true, "de3141c8ca3711f6590e2df4005c4670cc92bd3a041a2faeb1f8348d622df3ff"), looks := false }, kinds := [], alts := [], laidByText := true, laidKinds := [.data, .pinned], laidTests := true, laidLooks := .later }
def LinksBuiltUptoCardSaid : Prop := Claim7.holds Tryz.pinned (.plain (OpenSpec.upto linksBuiltSpec)) linksBuiltUptoCard

/-- THE SECOND FORM's CARD OF 'trclaw14.LinksSorted'. -/
def linksSortedUptoCard : Claim7 := { stood := { row := linksSortedUptoRow, standIns := [], harness := (true, "de3141c8ca3711f6590e2df4005c4670cc92bd3a041a2faeb1f8348d622df3ff"), looks := false }, kinds := [], alts := [], laidByText := true, laidKinds := [.data, .pinned], laidTests := true, laidLooks := .later }
def LinksSortedUptoCardSaid : Prop := Claim7.holds Tryz.pinned (.plain (OpenSpec.upto linksSortedSpec)) linksSortedUptoCard

/-- THE SECOND FORM's CARD OF 'trclaw14.LinksRedirect'. -/
def linksRedirectUptoCard : Claim7 := { stood := { row := linksRedirectUptoRow, standIns := [], harness := (true, "de3141c8ca3711f6590e2df4005c4670cc92bd3a041a2faeb1f8348d622df3ff"), looks := false }, kinds := [], alts := [], laidByText := true, laidKinds := [.data, .pinned], laidTests := true, laidLooks := .later }
def LinksRedirectUptoCardSaid : Prop := Claim7.holds Tryz.pinned (.plain (OpenSpec.upto linksRedirectSpec)) linksRedirectUptoCard

/-- THE SECOND FORM's CARD OF 'trclaw14.LinksHidden'. -/
def linksHiddenUptoCard : Claim7 := { stood := { row := linksHiddenUptoRow, standIns := [], harness := (true, "de3141c8ca3711f6590e2df4005c4670cc92bd3a041a2faeb1f8348d622df3ff"), looks := false }, kinds := [], alts := [], laidByText := true, laidKinds := [.data, .pinned], laidTests := true, laidLooks := .later }
def LinksHiddenUptoCardSaid : Prop := Claim7.holds Tryz.pinned (.plain (OpenSpec.upto linksHiddenSpec)) linksHiddenUptoCard

/-- THE SECOND FORM's CARD OF 'trclaw14.LinksTags'. -/
def linksTagsUptoCard : Claim7 := { stood := { row := linksTagsUptoRow, standIns := [], harness := (true, "de3141c8ca3711f6590e2df4005c4670cc92bd3a041a2faeb1f8348d622df3ff"), looks := false }, kinds := [], alts := [], laidByText := true, laidKinds := [.data, .pinned], laidTests := true, laidLooks := .later }
def LinksTagsUptoCardSaid : Prop := Claim7.holds Tryz.pinned (.plain (OpenSpec.upto linksTagsSpec)) linksTagsUptoCard

/-- THE SECOND FORM's CARD OF 'trclaw14.LinksLines'. -/
def linksLinesUptoCard : Claim7 := { stood := { row := linksLinesUptoRow, standIns := [], harness := (true, "de3141c8ca3711f6590e2df4005c4670cc92bd3a041a2faeb1f8348d622df3ff"), looks := false }, kinds := [], alts := [], laidByText := true, laidKinds := [.data, .pinned], laidTests := true, laidLooks := .later }
def LinksLinesUptoCardSaid : Prop := Claim7.holds Tryz.pinned (.plain (OpenSpec.upto linksLinesSpec)) linksLinesUptoCard
end Rows
end Go.Proofs.YtmgfammllddkhaaGreatDoor
