/- Readings at this translation's own types. -/
import Derived.Test.YtknjnciilchgnaaGreatDoorRows
import Derived.Test.YtknjnciilchgnaaGreatDoorR1
namespace Go.Proofs.YtknjnciilchgnaaGreatDoor
open Go.RowKit Go.ChangeShapes Go.WideShapes Go.Deep
theorem cellsInt : Tryz.prog.cellsOf 3 = 1 := by kernel_rfl
theorem cellsBool : Tryz.prog.cellsOf 4 = 1 := by kernel_rfl
theorem cellsString : Tryz.prog.cellsOf 9 = 1 := by kernel_rfl
theorem cellsTitle : Tryz.prog.cellsOf 23 = 2 := by kernel_rfl
theorem cellsKey : Tryz.prog.cellsOf 25 = 4 := by kernel_rfl
section
variable {H : Type} {enc : TypeId × Value → H} {W : World}
theorem rdInt : Rd enc Tryz.prog W 3 Int := rd_int Tryz.underlying3
theorem rdBool : Rd enc Tryz.prog W 4 Bool := rd_bool Tryz.underlying4
theorem rdString : Rd enc Tryz.prog W 9 ByteArray := rd_string Tryz.underlying9
theorem rdTitle : Rd enc Tryz.prog W 23 Title := fun _ cs _ h => by
  have hl := rd_len Tryz.underlying23 h
  obtain ⟨t0, e0⟩ := rd_field Tryz.underlying23 h 0 0 1 _ rfl cellsInt rdInt
  obtain ⟨t1, e1⟩ := rd_field Tryz.underlying23 h 1 1 1 _ rfl cellsString rdString
  rw [cellsTitle] at hl
  obtain ⟨c0, c1, rfl⟩ := list2 hl
  cases (show [c0] = [_] from e0)
  cases (show [c1] = [_] from e1)
  exact ⟨⟨t0, t1⟩, rfl⟩
theorem rdKey : Rd enc Tryz.prog W 25 Key := fun _ cs _ h => by
  have hl := rd_len Tryz.underlying25 h
  obtain ⟨t0, e0⟩ := rd_field Tryz.underlying25 h 0 0 1 _ rfl cellsInt rdInt
  obtain ⟨t1, e1⟩ := rd_field Tryz.underlying25 h 1 1 2 _ rfl cellsTitle rdTitle
  obtain ⟨t2, e2⟩ := rd_field Tryz.underlying25 h 2 3 1 _ rfl cellsInt rdInt
  rw [cellsKey] at hl
  obtain ⟨c0, c1, c2, c3, rfl⟩ := list4 hl
  cases (show [c0] = [_] from e0)
  cases (show [c1, c2] = [_, _] from e1)
  cases (show [c3] = [_] from e2)
  exact ⟨⟨t0, t1, t2⟩, rfl⟩
end
end Go.Proofs.YtknjnciilchgnaaGreatDoor
