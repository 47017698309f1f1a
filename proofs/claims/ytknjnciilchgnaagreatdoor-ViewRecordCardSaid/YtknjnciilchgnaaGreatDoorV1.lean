/- Comparisons of numbers, strings, titles and keys, in the program and in the reference: what each call returns. -/
import Derived.Test.YtknjnciilchgnaaGreatDoorRows
import Derived.Test.YtknjnciilchgnaaGreatDoorK1
import Derived.Test.YtknjnciilchgnaaGreatDoorShelf
namespace Go.Proofs.YtknjnciilchgnaaGreatDoor
open Go.RowKit

def orI : List Int → Int
  | [] => 0
  | x :: xs => if x = 0 then orI xs else x
theorem cmpInt_any (x y : Int) (w : World) : Calls Tryz.prog 13 #[.int .i64 x, .int .i64 y] w fun e w' => e = .returned (.int .i64 (Lib.compareInt x y)) ∧ w = w' :=
  (Tryz.cmp_Compare_int x y w).mono fun _ _ ⟨a, b⟩ => ⟨a, b.symm⟩
theorem cmpStr_any (a b : ByteArray) (w : World) : Calls Tryz.prog 26 #[.string a, .string b] w fun e w' => e = .returned (.int .i64 (Lib.compareBytes a.data.toList b.data.toList)) ∧ w = w' :=
  (Tryz.strings_Compare a b w).mono fun _ _ ⟨a, b⟩ => ⟨a, b.symm⟩
set_option maxHeartbeats 400000 in
theorem or_any (A : Option Addr) (n c : Nat) (xs : List Int) (w : World) (h : SlR w A n c xs) : Calls Tryz.prog 12 #[.slice A n c] w fun e w' => e = .returned (.int .i64 (orI xs)) ∧ w = w' := by
  have HN := Lib.hid h.1
  have hle := h.le
  go_enter Tryz.func12, Tryz.ntmps12
  go_wp2
  go_loop [5, 8] (fun _ i => ∃ q : Nat, q ≤ n ∧ i = .int .i64 q ∧ orI xs = orI (xs.drop q)) (fun _ i => n - (intOf i).toNat)
  case atStart => exact ⟨0, Nat.zero_le _, rfl, rfl⟩
  case round =>
    obtain ⟨q, hq, rfl, hO⟩ := hrel
    by_cases hlt : q < n
    · obtain ⟨b, off, x, cs, rfl, hbl, hx, hd, hR, hc⟩ := h.elem hlt
      have c0 : w.cell? ⟨b, off + q, none⟩ = some (.int .i64 x) := by subst hR; simpa using hc 0 _ rfl
      have HO := Lib.hid hO
      clear hO hc hx h
      have HD := Lib.hid hd
      clear hd
      by_cases h0 : x = 0
      · subst h0
        go_wp2
        go_round
        case rel => exact ⟨q + 1, by omega, by go_num, by rw [HO.out, HD.out]; simp [orI]⟩
        case measure => simp [intOf]; omega
      · have e0 : (!(x == 0)) = true := by simpa using h0
        go_wp2
        go_ret
        exact ⟨ret_int (by rw [HO.out, HD.out]; simp [orI, h0]), rfl⟩
    · have hq' : q = n := by omega
      have hz : orI xs = 0 := by rw [hO, hq', HN.out, List.drop_length]; rfl
      have HZ := Lib.hid hz
      clear hz hO h hq'
      go_wp2
      go_ret
      exact ⟨ret_int HZ.out.symm, rfl⟩
def Title.cmp (a b : Title) : Int := orI [Lib.compareInt a.space b.space, Lib.compareBytes a.name.data.toList b.name.data.toList]
set_option maxHeartbeats 400000 in
theorem titleCompare_any (a b : Title) (w : World) : Calls Tryz.prog 14 #[.agg #[.int .i64 a.space, .string a.name], .agg #[.int .i64 b.space, .string b.name]] w fun e w' => e = .returned (.int .i64 (Title.cmp a b)) ∧ Below w.heap.size w w' := by
  go_enter Tryz.func14, Tryz.ntmps14
  go_wp2
  generalize hw1 : (w.alloc _).alloc _ = w1
  have c0 : w1.cell? ⟨w.heap.size, 0, none⟩ = some (.int .i64 a.space) := by subst hw1; go_simp
  have c1 : w1.cell? ⟨w.heap.size, 1, none⟩ = some (.string a.name) := by subst hw1; go_simp
  have c2 : w1.cell? ⟨w.heap.size + 1, 0, none⟩ = some (.int .i64 b.space) := by subst hw1; go_simp
  have c3 : w1.cell? ⟨w.heap.size + 1, 1, none⟩ = some (.string b.name) := by subst hw1; go_simp
  have hb : Below w.heap.size w w1 := by subst hw1; exact ((Below.refl _ _).alloc (Nat.le_refl _) _).alloc (by simp) _
  have HB := Lib.hid hb
  clear hw1 hb
  go_region_held3 (fun W => W.cell? ⟨w.heap.size, 0, none⟩ = some (.int .i64 a.space) ∧ W.cell? ⟨w.heap.size, 1, none⟩ = some (.string a.name) ∧ W.cell? ⟨w.heap.size + 1, 0, none⟩ = some (.int .i64 b.space) ∧ W.cell? ⟨w.heap.size + 1, 1, none⟩ = some (.string b.name)) (first | exact ⟨c0, c1, c2, c3⟩ | (refine ⟨?_, ?_, ?_, ?_⟩ <;> first | exact re1 (((Below.refl _ _).alloc (Nat.le_refl _) _).drew) (cell_lt (by assumption)) (by assumption))) (first | (go_at_call 13; refine (cmpInt_any _ _ _).mono ?_; rintro e w' ⟨rfl, rfl⟩) | (go_at_call 26; refine (cmpStr_any _ _ _).mono ?_; rintro e w' ⟨rfl, rfl⟩)  | (go_at_call 12; refine (or_any _ _ _ [Lib.compareInt a.space b.space, Lib.compareBytes a.name.data.toList b.name.data.toList] _ (by exact SlR.built (fun x : Int => [.int .i64 x]) (fun _ _ _ => rfl) _ _ rfl (by decide) rfl)).mono ?_; rintro e w' ⟨rfl, rfl⟩))
  go_wp2
  go_ret
  exact ⟨rfl, (HB.out.alloc (Nat.le_trans HB.out.size (Nat.le_refl _)) _).drew⟩
end Go.Proofs.YtknjnciilchgnaaGreatDoor
