/- Readings at this translation's own types: recorded answers. -/
import Derived.Test.YtknjnciilchgnaaGreatDoorR2
namespace Go.Proofs.YtknjnciilchgnaaGreatDoor
open Go.RowKit Go.ChangeShapes Go.WideShapes Go.Deep
theorem cellsAnswer : Tryz.prog.cellsOf 32 = 3 := by kernel_rfl
theorem cellsAsked : Tryz.prog.cellsOf 34 = 7 := by kernel_rfl
section
variable {H : Type} {enc : TypeId × Value → H} {W : World}
theorem rdAnswer : Rd enc Tryz.prog W 32 Answer := fun _ cs _ h => by
  have hl := rd_len Tryz.underlying32 h
  obtain ⟨t0, e0⟩ := rd_field Tryz.underlying32 h 0 0 1 _ rfl cellsBool rdBool
  obtain ⟨t1, e1⟩ := rd_field Tryz.underlying32 h 1 1 1 _ rfl cellsString rdString
  obtain ⟨t2, e2⟩ := rd_field Tryz.underlying32 h 2 2 1 _ rfl cellsInt rdInt
  rw [cellsAnswer] at hl
  obtain ⟨c0, c1, c2, rfl⟩ := list3 hl
  cases (show [c0] = [_] from e0)
  cases (show [c1] = [_] from e1)
  cases (show [c2] = [_] from e2)
  exact ⟨⟨t0, t1, t2⟩, rfl⟩
theorem rdAsked : Rd enc Tryz.prog W 34 Asked := fun _ cs _ h => by
  have hl := rd_len Tryz.underlying34 h
  obtain ⟨t0, e0⟩ := rd_field Tryz.underlying34 h 0 0 4 _ rfl cellsKey rdKey
  obtain ⟨t1, e1⟩ := rd_field Tryz.underlying34 h 1 4 3 _ rfl cellsAnswer rdAnswer
  rw [cellsAsked] at hl
  obtain ⟨c0, c1, c2, c3, c4, c5, c6, rfl⟩ := list7 hl
  cases (show [c0, c1, c2, c3] = [_, _, _, _] from e0)
  cases (show [c4, c5, c6] = [_, _, _] from e1)
  exact ⟨⟨t0, t1⟩, rfl⟩
theorem rdAskeds : Rd enc Tryz.prog W 29 (List Asked) := rd_slice Tryz.underlying29 cellsAsked (by decide) rdAsked
end
end Go.Proofs.YtknjnciilchgnaaGreatDoor
