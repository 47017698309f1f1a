/- FeedMade: the card, first -/
import Derived.Test.YtpdaeclbndpabaaGreatDoorCM28
set_option linter.unusedVariables false
namespace Go.Proofs.YtpdaeclbndpabaaGreatDoor.lawFeedMade
open Go.ChangeShapes Go.WideShapes Go.ChangeAt Go.RowKit
open Go.ChangeMaps (open_string shut_string)
theorem Zr9:OpenClaim.wfByText (OpenSpec.ofChange Rows.feedMadeSpec) Rows.feedMadeRow=true:=by kernel_rfl
end Go.Proofs.YtpdaeclbndpabaaGreatDoor.lawFeedMade
