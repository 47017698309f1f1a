/- ViewMembers: the card, first part. -/
import Derived.Test.YtpffimahajgiaaaGreatDoorVM14
set_option linter.unusedVariables false
namespace Go.Proofs.YtpffimahajgiaaaGreatDoor.lawViewMembers
open Go.ChangeShapes Go.WideShapes Go.ChangeAt Go.RowKit
open Go.ChangeMaps (open_string shut_string)
theorem Zpf:OpenClaim.wfByText (OpenSpec.ofChange Rows.viewMembersSpec) Rows.viewMembersRow=true:=by kernel_rfl
end Go.Proofs.YtpffimahajgiaaaGreatDoor.lawViewMembers
