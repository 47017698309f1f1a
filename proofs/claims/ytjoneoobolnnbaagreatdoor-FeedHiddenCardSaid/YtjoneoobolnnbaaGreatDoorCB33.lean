/- The made policies, parsed by the program. No program is named. -/
import Derived.Test.YtjoneoobolnnbaaGreatDoorCB32
set_option maxRecDepth 100000
namespace Go.Proofs.YtjoneoobolnnbaaGreatDoor
theorem ZvE:Zat Zxv=some (polS5,0,0):=ZeO (by kernel_rfl) (by kernel_rfl) (by kernel_rfl) (.cons Zl4 (.cons ZmE (.cons ZmW (.cons Zl5 (.cons ZmF (.cons Zwx .nil)))))) (by kernel_rfl)
theorem ZvF:Zat Zxw=some (Zne,0,0):=ZeO (by kernel_rfl) (by kernel_rfl) (by kernel_rfl) (.cons Zl4 (.cons ZmE (.cons ZmW (.cons Zl5 (.cons ZmF (.cons Ztp (.cons ZyW (.cons Zy5 (.cons Zyx .nil))))))))) (by kernel_rfl)
theorem ZvG:Zat Zxx=some (ZiS,0,0):=ZeO (by kernel_rfl) (by kernel_rfl) (by kernel_rfl) (.cons Zl4 (.cons ZmE (.cons ZmW (.cons Zl5 (.cons ZmF (.cons Ztp (.cons Zxg (.cons ZxH (.cons ZwI (.cons Zxh .nil)))))))))) (by kernel_rfl)
theorem ZvH:Zat Zxy=some (ZiT,0,0):=ZeO (by kernel_rfl) (by kernel_rfl) (by kernel_rfl) (.cons ZxI (.cons ZwJ (.cons Zxi (.cons ZxJ (.cons ZwK (.cons Zxj (.cons ZxK (.cons ZwL (.cons Zxk (.cons ZxL (.cons ZwM (.cons Zxl (.cons ZxM .nil))))))))))))) (by kernel_rfl)
theorem ZvI:Zat Zxz=some (ZiU,0,0):=ZeO (by kernel_rfl) (by kernel_rfl) (by kernel_rfl) (.cons Zl4 (.cons ZmE (.cons ZmW (.cons Zl5 (.cons ZmF (.cons ZwN (.cons Zxm (.cons ZxN .nil)))))))) (by kernel_rfl)
theorem ZvJ:Zat ZxA=some (ZiV,0,0):=ZeO (by kernel_rfl) (by kernel_rfl) (by kernel_rfl) (.cons Zl4 (.cons ZmE (.cons ZmW (.cons Zl5 (.cons ZmF (.cons ZwO (.cons Zxn (.cons ZxO .nil)))))))) (by kernel_rfl)
theorem ZvK:Zat ZxB=some (polS5,0,0):=ZeO (by kernel_rfl) (by kernel_rfl) (by kernel_rfl) (.cons Zl4 (.cons ZmE (.cons ZmW (.cons Zl5 (.cons ZmF (.cons Zwx .nil)))))) (by kernel_rfl)
theorem ZvL:Zat ZxC=some (ZiW,0,0):=ZeO (by kernel_rfl) (by kernel_rfl) (by kernel_rfl) (.cons Zl4 (.cons ZmE (.cons ZmW (.cons Zl5 (.cons ZmF (.cons Ztp (.cons ZwP (.cons Zxo (.cons ZxP (.cons ZwQ (.cons Zxp .nil))))))))))) (by kernel_rfl)
end Go.Proofs.YtjoneoobolnnbaaGreatDoor
