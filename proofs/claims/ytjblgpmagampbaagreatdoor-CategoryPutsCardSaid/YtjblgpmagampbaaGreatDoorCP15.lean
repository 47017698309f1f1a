/- CategoryPuts: the card, first part. -/
import Derived.Test.YtjblgpmagampbaaGreatDoorCP14
set_option linter.unusedVariables false
namespace Go.Proofs.YtjblgpmagampbaaGreatDoor.lawCategoryPuts
open Go.ChangeShapes Go.WideShapes Go.ChangeAt Go.RowKit
open Go.ChangeMaps (open_string shut_string)
theorem Zn6:OpenClaim.wfByText (OpenSpec.ofChange Rows.categoryPutsSpec) Rows.categoryPutsRow=true:=by kernel_rfl
end Go.Proofs.YtjblgpmagampbaaGreatDoor.lawCategoryPuts
