/- The first element of a list with a key; the answers to the keys of the law's own example. -/
import Derived.Test.YtknjnciilchgnaaGreatDoorV6
namespace Go.Proofs.YtknjnciilchgnaaGreatDoor
open Go.RowKit

def findA : List Asked → Key → Option Answer
  | [], _ => none
  | x :: xs, k => if x.key = k then some x.answer else findA xs k
def ansV (a : Answer) : Value := .agg #[.bool a.ok, .string a.text, .int .i64 a.n]
theorem key_eq {P : Program} {T : TypeId} (a b : Key) (h : ∀ W, (binOp .eql T (.agg #[.int .i64 a.kind, .int .i64 a.title.space, .string a.title.name, .int .i64 a.n]) (.agg #[.int .i64 b.kind, .int .i64 b.title.space, .string b.title.name, .int .i64 b.n])).run P W =
    .ok (.bool (a.kind == b.kind && (a.title.space == b.title.space && (a.title.name.toList == b.title.name.toList && a.n == b.n)))) W) :
    ∀ W, (binOp .eql T (.agg #[.int .i64 a.kind, .int .i64 a.title.space, .string a.title.name, .int .i64 a.n]) (.agg #[.int .i64 b.kind, .int .i64 b.title.space, .string b.title.name, .int .i64 b.n])).run P W = .ok (.bool (decide (a = b))) W := by
  intro W
  rw [h W]
  have e : (a.kind == b.kind && (a.title.space == b.title.space && (a.title.name.toList == b.title.name.toList && a.n == b.n))) = decide (a = b) := by
    rw [Bool.eq_iff_iff]
    obtain ⟨k, ⟨sp, nm⟩, n⟩ := a
    obtain ⟨k', ⟨sp', nm'⟩, n'⟩ := b
    simp [toList_iff, and_assoc]
  rw [e]
theorem keyEql (a b : Key) (W : World) : (binOp .eql 25 (.agg #[.int .i64 a.kind, .int .i64 a.title.space, .string a.title.name, .int .i64 a.n]) (.agg #[.int .i64 b.kind, .int .i64 b.title.space, .string b.title.name, .int .i64 b.n])).run Tryz.prog W = .ok (.bool (decide (a = b))) W := by
  refine key_eq a b (fun W => ?_) W
  go_simp
  (repeat' split) <;> simp_all
def findV (xs : List Asked) (k : Key) : Value := match findA xs k with
  | some r => .tuple #[ansV r, .bool true]
  | none => .tuple #[.agg #[.bool false, .string ⟨#[]⟩, .int .i64 0], .bool false]
set_option maxRecDepth 100000 in
set_option maxHeartbeats 1000000 in
theorem find_any (A : Option Addr) (n c : Nat) (xs : List Asked) (k : Key) (w : World) (hS : SlR w A n c xs) :
    Calls Tryz.prog 19 #[.slice A n c, .agg #[.int .i64 k.kind, .int .i64 k.title.space, .string k.title.name, .int .i64 k.n]] w fun e w' => e = .returned (findV xs k) ∧ Below w.heap.size w w' := by
  have HN := Lib.hid hS.1
  have hle := hS.le
  go_enter Tryz.func19, Tryz.ntmps19
  go_wp2
  generalize hw1 : (w.alloc _).alloc _ = w1
  have c0_0 : w1.cell? ⟨w.heap.size, 0, none⟩ = some (.int .i64 k.kind) := by subst hw1; go_simp
  have c0_1 : w1.cell? ⟨w.heap.size, 1, none⟩ = some (.int .i64 k.title.space) := by subst hw1; go_simp
  have c0_2 : w1.cell? ⟨w.heap.size, 2, none⟩ = some (.string k.title.name) := by subst hw1; go_simp
  have c0_3 : w1.cell? ⟨w.heap.size, 3, none⟩ = some (.int .i64 k.n) := by subst hw1; go_simp
  have c1_0 : w1.cell? ⟨w.heap.size + 1, 0, none⟩ = some (.bool false) := by subst hw1; go_simp
  have c1_1 : w1.cell? ⟨w.heap.size + 1, 1, none⟩ = some (.string ⟨#[]⟩) := by subst hw1; go_simp
  have c1_2 : w1.cell? ⟨w.heap.size + 1, 2, none⟩ = some (.int .i64 0) := by subst hw1; go_simp
  have f1_0 : w1.frozen? ⟨w.heap.size + 1, 0, none⟩ = false := by subst hw1; go_simp
  have f1_1 : w1.frozen? ⟨w.heap.size + 1, 1, none⟩ = false := by subst hw1; go_simp
  have f1_2 : w1.frozen? ⟨w.heap.size + 1, 2, none⟩ = false := by subst hw1; go_simp
  have HB : Hid (Below w.heap.size w w1) := by subst hw1; exact Below.al (Below.al (Below.refl _ _) _) _
  clear hw1
  have HF : Hid (∀ W, Below w1.heap.size w1 W → W.cell? ⟨w.heap.size, 0, none⟩ = some (.int .i64 k.kind) ∧ W.cell? ⟨w.heap.size, 1, none⟩ = some (.int .i64 k.title.space) ∧ W.cell? ⟨w.heap.size, 2, none⟩ = some (.string k.title.name) ∧ W.cell? ⟨w.heap.size, 3, none⟩ = some (.int .i64 k.n) ∧ W.cell? ⟨w.heap.size + 1, 0, none⟩ = some (.bool false) ∧ W.cell? ⟨w.heap.size + 1, 1, none⟩ = some (.string ⟨#[]⟩) ∧ W.cell? ⟨w.heap.size + 1, 2, none⟩ = some (.int .i64 0) ∧ W.frozen? ⟨w.heap.size + 1, 0, none⟩ = false ∧ W.frozen? ⟨w.heap.size + 1, 1, none⟩ = false ∧ W.frozen? ⟨w.heap.size + 1, 2, none⟩ = false) := fun W h => ⟨re1 h (cell_lt c0_0) c0_0, re1 h (cell_lt c0_1) c0_1, re1 h (cell_lt c0_2) c0_2, re1 h (cell_lt c0_3) c0_3, re1 h (cell_lt c1_0) c1_0, re1 h (cell_lt c1_1) c1_1, re1 h (cell_lt c1_2) c1_2, rf1 h (cell_lt c1_0) f1_0, rf1 h (cell_lt c1_1) f1_1, rf1 h (cell_lt c1_2) f1_2⟩
  have HS := Lib.hid (hS.mono HB.out)
  clear hS
  go_loopw [7, 10] (fun _ i wr => ∃ q : Nat, q ≤ n ∧ i = .int .i64 q ∧ Below w1.heap.size w1 wr ∧ Hid (findA xs k = findA (xs.drop q) k)) (fun _ i _ => n - (intOf i).toNat)
  case atStart => exact ⟨0, Nat.zero_le _, rfl, Below.refl _ _, rfl⟩
  case round =>
    obtain ⟨q, hq, rfl, hbw, hF⟩ := hrel
    have HW := Lib.hid hbw
    clear hbw
    try clear c0_0 c0_1 c0_2 c0_3 c1_0 c1_1 c1_2 f1_0 f1_1 f1_2
    obtain ⟨c0_0, c0_1, c0_2, c0_3, c1_0, c1_1, c1_2, f1_0, f1_1, f1_2⟩ := HF.out _ (HW.out)
    have z0 := cell_lt c0_0
    have z1 := cell_lt c1_0
    by_cases hlt : q < n
    · obtain ⟨b, off, x, cs, hA, hbl, hx, hd, hR, hc⟩ := (SlR.mono HW.out HS.out).elem hlt
      obtain rfl := hA
      have d0 : wr.cell? ⟨b, off + q * 7, none⟩ = some (.int .i64 x.key.kind) := by subst hR; exact hc 0 _ rfl
      have d1 : wr.cell? ⟨b, off + q * 7 + 1, none⟩ = some (.int .i64 x.key.title.space) := by subst hR; exact hc 1 _ rfl
      have d2 : wr.cell? ⟨b, off + q * 7 + 2, none⟩ = some (.string x.key.title.name) := by subst hR; exact hc 2 _ rfl
      have d3 : wr.cell? ⟨b, off + q * 7 + 3, none⟩ = some (.int .i64 x.key.n) := by subst hR; exact hc 3 _ rfl
      have d4 : wr.cell? ⟨b, off + q * 7 + 4, none⟩ = some (.bool x.answer.ok) := by subst hR; exact hc 4 _ rfl
      have d5 : wr.cell? ⟨b, off + q * 7 + 5, none⟩ = some (.string x.answer.text) := by subst hR; exact hc 5 _ rfl
      have d6 : wr.cell? ⟨b, off + q * 7 + 6, none⟩ = some (.int .i64 x.answer.n) := by subst hR; exact hc 6 _ rfl
      have HD := Lib.hid hd
      have HX := Lib.hid hx
      clear hx hd hR hc
      have ke := keyEql x.key k
      by_cases hk : x.key = k
      · rw [decide_eq_true hk] at ke
        have HK := Lib.hid hk
        clear hk
        go_wp2
        exact bodyPost_ret (v := .tuple #[.agg #[.bool x.answer.ok, .string x.answer.text, .int .i64 x.answer.n], .bool true]) (by simp [results, Tryz.results19, go_sem, *]) rfl ⟨by rw [findV, hF.out, HD.out]; simp only [findA, if_pos HK.out]; rfl, (by have hg : Below w.heap.size w wr := Below.tr HB.out HW.out; go_grown)⟩
      · rw [decide_eq_false hk] at ke
        have HK := Lib.hid hk
        clear hk
        go_wp2
        go_roundw
        case rel => exact ⟨q + 1, by omega, by go_num, Below.tr HW.out (Below.al (Below.refl _ _) _), Lib.hid (by rw [hF.out, HD.out]; simp only [findA, if_neg HK.out])⟩
        case measure => simp [intOf]; omega
    · have hz : findA xs k = none := by rw [hF.out, List.drop_eq_nil_of_le (by rw [← HN.out]; omega)]; rfl
      have HZ := Lib.hid hz
      clear hz
      go_wp2
      exact bodyPost_ret (v := .tuple #[.agg #[.bool false, .string ⟨#[]⟩, .int .i64 0], .bool false]) (by simp [results, Tryz.results19, go_sem, *]) rfl ⟨by rw [findV, HZ.out], (by have hg : Below w.heap.size w wr := Below.tr HB.out HW.out; go_grown)⟩
theorem find_some (A : Option Addr) (n c : Nat) (xs : List Asked) (k : Key) (w : World) (hS : SlR w A n c xs) (r : Answer) (hr : findA xs k = some r) :
    Calls Tryz.prog 19 #[.slice A n c, .agg #[.int .i64 k.kind, .int .i64 k.title.space, .string k.title.name, .int .i64 k.n]] w fun e w' => e = .returned (.tuple #[.agg #[.bool r.ok, .string r.text, .int .i64 r.n], .bool true]) ∧ Below w.heap.size w w' :=
  (find_any A n c xs k w hS).mono fun _ _ ⟨he, hb⟩ => ⟨he.trans (by rw [findV, hr]; rfl), hb⟩
theorem find_none (A : Option Addr) (n c : Nat) (xs : List Asked) (k : Key) (w : World) (hS : SlR w A n c xs) (hr : findA xs k = none) :
    Calls Tryz.prog 19 #[.slice A n c, .agg #[.int .i64 k.kind, .int .i64 k.title.space, .string k.title.name, .int .i64 k.n]] w fun e w' => e = .returned (.tuple #[.agg #[.bool false, .string ⟨#[]⟩, .int .i64 0], .bool false]) ∧ Below w.heap.size w w' :=
  (find_any A n c xs k w hS).mono fun _ _ ⟨he, hb⟩ => ⟨he.trans (by rw [findV, hr]), hb⟩
end Go.Proofs.YtknjnciilchgnaaGreatDoor
