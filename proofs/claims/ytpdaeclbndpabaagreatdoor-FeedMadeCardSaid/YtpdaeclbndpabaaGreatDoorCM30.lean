/- FeedMade: the -/
import Derived.Test.YtpdaeclbndpabaaGreatDoorCM29
set_option linter.unusedVariables false
namespace Go.Proofs.YtpdaeclbndpabaaGreatDoor.lawFeedMade
open Go.ChangeShapes Go.WideShapes Go.ChangeAt Go.RowKit
open Go.ChangeMaps (open_string shut_string)
theorem Zpo (f:FuncId) (fn:Func) (hf:Tryz.pinned.checked.prog.funcNamed "transclude/trclaw42.FeedMade" = some f) (hfn:Tryz.pinned.checked.prog.funcs[f]? = some fn) :
  false=Tryz.pinned.checked.prog.looks []/\∀ (j:Nat) t,fn.params[j]? = some t->Tryz.pinned.checked.prog.wantsStandIn t=false:=by{
obtain rfl:f=3:=Option.some.inj ((show Tryz.prog.funcNamed "transclude/trclaw42.FeedMade" = some 3 by kernel_rfl).symm.trans hf) |>.symm
obtain rfl:fn=Tryz.f3:=(Option.some.inj (Tryz.func3.symm.trans hfn)).symm
refine ⟨by kernel_rfl,fun j t ht=>?_⟩
rw [Tryz.params3] at ht
have hm:t ∈ [22,22,3,3,3,3]:=by simpa using Array.mem_of_getElem? ht
have hall:([22,22,3,3,3,3].all fun u=>!Tryz.prog.wantsStandIn u)=true:=by kernel_rfl
exact (show Tryz.prog.wantsStandIn t=false by simpa using List.all_eq_true.1 hall t hm)}
theorem goesBy:false=Rows.feedMadeRow.goesBy Tryz.pinned.checked.prog:=by kernel_rfl
theorem card:Rows.FeedMadeCardSaid:=
 Claim7.holds_tied_plain_at .later [] _ _ _ _ said (fun _ h=>by cases h) Zr9 (fun _ h=>by cases h) feedMade_row_tie rfl ⟨rfl,rfl⟩ (by kernel_rfl) rfl Zpo goesBy
#print axioms card
end Go.Proofs.YtpdaeclbndpabaaGreatDoor.lawFeedMade
