/- ViewValidate: the card, first part. -/
import Derived.Test.YtpffimahajgiaaaGreatDoorVV22
set_option linter.unusedVariables false
namespace Go.Proofs.YtpffimahajgiaaaGreatDoor.lawViewValidate
open Go.ChangeShapes Go.WideShapes Go.ChangeAt Go.RowKit
open Go.ChangeMaps (open_string shut_string)
theorem Zjw:OpenClaim.wfByText (OpenSpec.ofChange Rows.viewValidateSpec) Rows.viewValidateRow=true:=by kernel_rfl
end Go.Proofs.YtpffimahajgiaaaGreatDoor.lawViewValidate
