/- Functions of the program as Lean functions. Written by fxgen.py. -/
import Derived.Test.YtjoneoobolnnbaaGreatDoorCB15
import Derived.Test.YtjoneoobolnnbaaGreatDoorCB19
import Derived.Test.YtjoneoobolnnbaaGreatDoorCB20
import Derived.Test.YtjoneoobolnnbaaGreatDoorCB10
import Derived.Test.YtjoneoobolnnbaaGreatDoorCB04
import Derived.Test.YtjoneoobolnnbaaGreatDoorCB03
import Derived.Test.YtjoneoobolnnbaaGreatDoorCB02
set_option linter.unusedVariables false
set_option maxHeartbeats 4000000
set_option maxRecDepth 100000
namespace Go.Proofs.YtjoneoobolnnbaaGreatDoor
open VL
def Zdu (p0:State):Option Policy:=
 (Zkv).bind fun r1=>
 (Zlz p0 r1).bind fun r2=>
 if (!r2.2) then
  (some (⟨[],[],[]⟩:Policy):Option Policy)
 else
 (Zai r2.1).bind fun r3=>
 if (!decide (r3.2.2=0)) then
  (some (⟨[],[],[]⟩:Policy):Option Policy)
 else
 (some r3.1:Option Policy)
theorem Znj (p0:State) (r:Policy) (h:Zdu p0=some r):Zd Tryz.prog 81 [p0.pv] (r.pv):=by
 refine cF (fun r=>r.pv) h mix Tryz.func81 fun r h=>?_
 unfold Zdu at h
 refine Zh ?_
 refine rg ?_
 refine rg ?_
 refine aC h Zpi fun r1 h=>?_
 refine aC h (Zso _ _) fun r2 h=>?_
 refine rg ?_
 refine cS h rfl (fun h=>?_) fun h=>?_
 ·refine rg ?_
  cases h
  exact rQ
 refine rg ?_
 refine aC h (Zjr _) fun r3 h=>?_
 refine rg ?_
 refine cS h rfl (fun h=>?_) fun h=>?_
 ·refine rg ?_
  cases h
  exact rQ
 refine rg ?_
 cases h
 exact rQ
def ZoK (p0:State) (p1:ByteArray) (p2:Int) (p3:Title):Option Bool:=
 (Zdu p0).bind fun r1=>
 (Zfk r1 p1).bind fun r2=>
 (Zn3 r1 r2 p2 p3).bind fun r3=>
 (some r3:Option Bool)
theorem Zuw (p0:State) (p1:ByteArray) (p2:Int) (p3:Title) (r:Bool) (h:ZoK p0 p1 p2 p3=some r):Zd Tryz.prog 46 [p0.pv,.str p1,.int .i64 p2,p3.pv] (.bool r):=by
 refine cF (fun r=>.bool r) h mix Tryz.func46 fun r h=>?_
 unfold ZoK at h
 refine Zh ?_
 refine rg ?_
 refine rg ?_
 refine aC h (Znj _) fun r1 h=>?_
 refine rg ?_
 refine aC h (Zqa _ _) fun r2 h=>?_
 refine aC h (Ztk _ _ _ _) fun r3 h=>?_
 cases h
 exact rQ
end Go.Proofs.YtjoneoobolnnbaaGreatDoor
set_option linter.unusedSimpArgs false
namespace Go.Proofs.YtjoneoobolnnbaaGreatDoor
open VL Go.RowKit
theorem ZuF (a b:Item) (W:World):(binOp .eql 52 (.agg #[.int .i64 a.title.space,.string a.title.name,.int .i64 a.number,.string a.user,.string a.note,.int .i64 a.minute]) (.agg #[.int .i64 b.title.space,.string b.title.name,.int .i64 b.number,.string b.user,.string b.note,.int .i64 b.minute])).run Tryz.prog W = .ok (.bool (decide (a=b))) W:=by
 have e:(if a.title.space=b.title.space then if a.title.name.toList=b.title.name.toList then if a.number=b.number then if a.user.toList=b.user.toList then if a.note.toList=b.note.toList then if a.minute=b.minute then true else false else false else false else false else false else false)=(decide (a=b)):=by
  obtain ⟨⟨a1,a2⟩,a3,a4,a5,a6⟩:=a
  obtain ⟨⟨b1,b2⟩,b3,b4,b5,b6⟩:=b
  simp only [Item.mk.injEq,Title.mk.injEq,Zcw]
  (repeat' split)<;>simp_all
 rw [← e]
 go_simp
 (repeat' split)<;>simp_all
end Go.Proofs.YtjoneoobolnnbaaGreatDoor
namespace Go.Proofs.YtjoneoobolnnbaaGreatDoor
open VL
def ZaT (p0:State) (p1:ByteArray) (p2:Title):Option Bool:=
 (Zce p0 p2).bind fun r1=>
 letk (fun (x3:Bool)=>
  (some x3:Option Bool)) fun k1=>
 if r1.2 then
  (ZoK p0 p1 1 p2).bind fun r4=>
  k1 r4
 else
 k1 false
theorem ZbQ (p0:State) (p1:ByteArray) (p2:Title) (r:Bool) (h:ZaT p0 p1 p2=some r):Zd Tryz.prog 19 [p0.pv,.str p1,p2.pv] (.bool r):=by
 refine cF (fun r=>.bool r) h mix Tryz.func19 fun r h=>?_
 unfold ZaT at h
 refine Zh ?_
 refine rg ?_
 refine rg ?_
 refine aC h (Zef _ _) fun r1 h=>?_
 refine jL h (fun x3=>mkS [(6,.bool x3)] [] 2) (fun k1 h=>?_) fun x3 h=>?_
 ·refine rg ?_
  refine kS 16 h rfl (fun h=>?_) fun h=>?_
  ·refine aC h (Zuw _ _ _ _) fun r4 h=>?_
   exact jn r4 h (sR [])
  iterate 4 refine Zi rfl (Zh ?_)
  exact jn false h (sR [])
 cases h
 exact rQ
end Go.Proofs.YtjoneoobolnnbaaGreatDoor
