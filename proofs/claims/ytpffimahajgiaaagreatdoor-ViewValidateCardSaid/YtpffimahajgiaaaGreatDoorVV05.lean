/- A row of the call's own behind the library's turning of it. No program is named. | Arguments two by two. -/
import Derived.Test.YtpffimahajgiaaaGreatDoorVV02
import Derived.Test.YtpffimahajgiaaaGreatDoorVV01
import Derived.Shelf.GgSortFunc.RowK

namespace Go.Proofs.YtpffimahajgiaaaGreatDoor
open VL Go.RowKit
theorem args2 {x:Ctx} {p q:PV} {vs:Array Value} (h:Pre x [p,q] none vs):∃ v w,vs = #[v,w]∧Rep x p v∧Rep x q w:=by
 have hs:vs.size=2:=h.size.symm
 refine ⟨vs[0],vs[1],?_,h.rep 0 p _ rfl (Array.getElem?_eq_getElem (by omega)),h.rep 1 q _ rfl (Array.getElem?_eq_getElem (by omega))⟩
 apply Array.ext
 ·exact hs
 ·intro i h1 h2
  match i,(show i<2 by omega) with
  | 0,_=>rfl
  | 1,_=>rfl
theorem ZmF {x:Ctx} {s:ByteArray} {v:Value} (h:Rep x (.str s) v):v = .string s:=by cases h;rfl
end Go.Proofs.YtpffimahajgiaaaGreatDoor
