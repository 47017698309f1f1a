/- Validate of policies, as the others are written. -/
import Derived.Test.YtpffimahajgiaaaGreatDoorVV03
import Derived.Test.YtpffimahajgiaaaGreatDoorVV18
set_option linter.unusedVariables false
namespace Go.Proofs.YtpffimahajgiaaaGreatDoor
open VL Go.RowKit
def Zmc (p:Policy):Bool:=decide (p.groups.length≤1000000)&&decide (p.rules.length≤1000000)&&decide (p.guards.length≤1000000)
def Zcl (p:Policy):Option Int:=if Zmc p=true then some (ZbZ p) else none
theorem Zen (p:Policy) (r:Int) (h:Zcl p=some r):ZH Tryz.prog 32 [p.pv] (.int .i64 r):=by
 unfold Zcl at h
 split at h
 ·rename_i hs
  simp only [Zmc,Bool.and_eq_true,decide_eq_true_eq] at hs
  cases h
  exact Zgn p hs.1.1 hs.1.2 hs.2
 ·cases h
def Zdg (p:Policy):Option Int:=if Zmc p=true then some (ZbZ p) else none
theorem ZfD (p:Policy) (r:Int) (h:Zdg p=some r):ZH Tryz.prog 37 [p.pv] (.int .i64 r):=by
 unfold Zdg at h
 split at h
 ·rename_i hs
  simp only [Zmc,Bool.and_eq_true,decide_eq_true_eq] at hs
  cases h
  exact Zgs p hs.1.1 hs.1.2 hs.2
 ·cases h
def ZdT (s:ByteArray):Option Bool:=some (Zao s)
theorem ZgJ (s:ByteArray) (r:Bool) (h:ZdT s=some r):ZH Tryz.prog 38 [.str s] (.bool r):=by cases h;exact Zc2 s
def ZdG (s:ByteArray):Option Bool:=some (Zao s)
theorem ZeQ (s:ByteArray) (r:Bool) (h:ZdG s=some r):ZH Tryz.prog 74 [.str s] (.bool r):=by cases h;exact Ze0 s
end Go.Proofs.YtpffimahajgiaaaGreatDoor
