/- strings.genSplit, as the others are written. -/
import Derived.Test.YtjoneoobolnnbaaGreatDoorCB10
import Derived.Test.YtjoneoobolnnbaaGreatDoorCB04
set_option linter.unusedVariables false
namespace Go.Proofs.YtjoneoobolnnbaaGreatDoor
open VL Go.RowKit
def strings_genSplit (s c:ByteArray) (a b:Int):Option (List ByteArray):=if (s.size<4294967281∧1≤c.size)∧Lib.countB s c≤1000000∧b = -1∧0≤a∧a≤(c.size:Int) then some (Lib.splitB c a.toNat (Lib.countB s c) s) else none
theorem ZjS (s c:ByteArray) (a b:Int) (r:List ByteArray) (h:strings_genSplit s c a b=some r):ContractN Tryz.prog 154 [.str s,.str c,.int .i64 a,.int .i64 b] (.row 9 1 false (List.map csS r)):=by
 unfold strings_genSplit at h
 split at h
 ·rename_i hc
  obtain ⟨⟨h1,h2⟩,h3,rfl,h5,h6⟩:=hc
  obtain ⟨sv,rfl⟩:∃ sv:Nat,a=(sv:Int):=⟨a.toNat,by omega⟩
  rw [Int.toNat_natCast] at h
  injection h with h
  have hlen:r.length=Lib.countB s c+1:=by rw [← h];exact Lib.splitB_all c h2 sv _ s rfl
  have hle:=Lib.countB_le c h2 s.size s (Nat.le_refl _)
  refine Ze8 (α:=ByteArray) (vals:=[.string s,.string c,.int .i64 (sv:Int),.int .i64 (-1)]) (enc:=fun x=>[.string x]) (by kernel_rfl) rfl (fun x=>rfl) (fun S w x cs h=>h) (fun x=>rfl) fun w hw=>?_
  obtain ⟨m,hm⟩:=hw.1
  refine (Tryz.strings_genSplit s c sv (-1) (Lib.countB s c+1) m w h1 hm h2 (by omega) (by decide) (by decide) (by rw [if_pos (by decide)];omega)).mono ?_
  rintro e w' ⟨rfl,rfl⟩
  rw [Nat.add_sub_cancel,h]
  have e2:Lib.cellsOf r (Lib.countB s c+1)=(r.map Value.string).toArray:=by rw [← hlen];exact Lib.cellsOf_full _
  rw [e2,hlen]
  refine ⟨_,rfl,OwnL.of_row ⟨by simp,.inr ⟨w.heap.size,r.length,_,by rw [hlen],Nat.le_refl _,heap_alloc_new w _,Nat.le_refl _,?_,by simp,?_⟩⟩,Below.al (Below.refl _ _) _⟩
  ·unfold maxLen;omega
  ·rw [Nat.mul_one,List.take_of_length_le (by simp)]
 ·cases h
end Go.Proofs.YtjoneoobolnnbaaGreatDoor
