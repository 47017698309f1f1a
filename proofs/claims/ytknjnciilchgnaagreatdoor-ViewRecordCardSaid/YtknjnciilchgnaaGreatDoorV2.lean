/- The reference's comparison of titles, and both comparisons of keys. -/
import Derived.Test.YtknjnciilchgnaaGreatDoorV1
namespace Go.Proofs.YtknjnciilchgnaaGreatDoor
open Go.RowKit

theorem cb_spec : ∀ a b : List UInt8, Lib.compareBytes a b = if Op.bytesLess a b = true then -1 else if a = b then 0 else 1
  | [], [] => by simp [Lib.compareBytes, Op.bytesLess]
  | [], _ :: _ => by simp [Lib.compareBytes, Op.bytesLess]
  | _ :: _, [] => by simp [Lib.compareBytes, Op.bytesLess]
  | x :: a, y :: b => by
    have h := cb_spec a b
    have e : x < y ∨ x = y ∨ y < x := by
      rcases Nat.lt_trichotomy x.toNat y.toNat with h | h | h
      · exact .inl h
      · exact .inr (.inl (UInt8.toNat_inj.1 h))
      · exact .inr (.inr h)
    rcases e with e | e | e
    · simp [Lib.compareBytes, Op.bytesLess, e]
    · subst e
      have hx : ¬ x < x := fun h => by simp at h
      simp [Lib.compareBytes, Op.bytesLess, h]
    · have hx : ¬ x < y := fun h => by simp [UInt8.lt_iff_toNat_lt] at h e; omega
      have hne : ¬ x = y := fun h => by subst h; simp at e
      simp [Lib.compareBytes, Op.bytesLess, hx, hne, e]
theorem cmp_def (a b : Title) : Title.cmp a b = if a.space < b.space then -1 else if b.space < a.space then 1 else if Op.bytesLess a.name.toList b.name.toList = true then -1 else if a.name.toList = b.name.toList then 0 else 1 := by
  unfold Title.cmp orI Lib.compareInt
  rw [cb_spec, ByteArray.toList_eq, ByteArray.toList_eq]
  by_cases h1 : a.space < b.space
  · simp [h1]
  · by_cases h2 : b.space < a.space
    · simp [h1, h2]
    · simp only [h1, h2, if_false, if_true, orI]
      by_cases h : Op.bytesLess a.name.data.toList b.name.data.toList = true
      · simp [h]
      · by_cases h' : a.name.data.toList = b.name.data.toList <;> simp [h, h']
theorem less_irrefl : ∀ a : List UInt8, Op.bytesLess a a = false
  | [] => rfl
  | x :: a => by simp [Op.bytesLess, less_irrefl a]
set_option maxHeartbeats 400000 in
theorem refTitleCompare_any (a b : Title) (w : World) : Calls Tryz.prog 15 #[.agg #[.int .i64 a.space, .string a.name], .agg #[.int .i64 b.space, .string b.name]] w fun e w' => e = .returned (.int .i64 (Title.cmp a b)) ∧ Below w.heap.size w w' := by
  go_enter Tryz.func15, Tryz.ntmps15
  go_wp2
  all_goals
    go_ret
    refine ⟨ret_int ?_, ((Below.refl _ _).alloc (Nat.le_refl _) _).alloc (by simp) _⟩
    rw [cmp_def]
    first
      | (rw [if_pos (by omega)]; done)
      | (rw [if_neg (by omega), if_neg (by omega), if_pos (by assumption)]; done)
      | (rw [if_neg (by omega), if_pos (by omega)]; done)
      | (rw [if_neg (by omega), if_neg (by omega), if_neg (by simp_all), if_pos (by assumption)]; done)
      | (rw [if_neg (by omega), if_neg (by omega), if_neg (by simp_all), if_neg (by assumption)]; done)
def Key.cmp (a b : Key) : Int := orI [Lib.compareInt a.kind b.kind, Title.cmp a.title b.title, Lib.compareInt a.n b.n]
set_option maxHeartbeats 1000000 in
theorem keyCompare_any (a b : Key) (w : World) : Calls Tryz.prog 5 #[.agg #[.int .i64 a.kind, .int .i64 a.title.space, .string a.title.name, .int .i64 a.n], .agg #[.int .i64 b.kind, .int .i64 b.title.space, .string b.title.name, .int .i64 b.n]] w fun e w' => e = .returned (.int .i64 (Key.cmp a b)) ∧ Below w.heap.size w w' := by
  go_enter Tryz.func5, Tryz.ntmps5
  go_wp2
  generalize hw1 : (w.alloc _).alloc _ = w1
  have c0_0 : w1.cell? ⟨w.heap.size, 0, none⟩ = some (.int .i64 a.kind) := by subst hw1; go_simp
  have c0_1 : w1.cell? ⟨w.heap.size, 1, none⟩ = some (.int .i64 a.title.space) := by subst hw1; go_simp
  have c0_2 : w1.cell? ⟨w.heap.size, 2, none⟩ = some (.string a.title.name) := by subst hw1; go_simp
  have c0_3 : w1.cell? ⟨w.heap.size, 3, none⟩ = some (.int .i64 a.n) := by subst hw1; go_simp
  have c1_0 : w1.cell? ⟨w.heap.size + 1, 0, none⟩ = some (.int .i64 b.kind) := by subst hw1; go_simp
  have c1_1 : w1.cell? ⟨w.heap.size + 1, 1, none⟩ = some (.int .i64 b.title.space) := by subst hw1; go_simp
  have c1_2 : w1.cell? ⟨w.heap.size + 1, 2, none⟩ = some (.string b.title.name) := by subst hw1; go_simp
  have c1_3 : w1.cell? ⟨w.heap.size + 1, 3, none⟩ = some (.int .i64 b.n) := by subst hw1; go_simp
  have HB : Hid (Below w.heap.size w w1) := by subst hw1; exact Below.al (Below.al (Below.refl _ _) _) _
  clear hw1
  have HF : Hid (∀ W, Below w1.heap.size w1 W → W.cell? ⟨w.heap.size, 0, none⟩ = some (.int .i64 a.kind) ∧ W.cell? ⟨w.heap.size, 1, none⟩ = some (.int .i64 a.title.space) ∧ W.cell? ⟨w.heap.size, 2, none⟩ = some (.string a.title.name) ∧ W.cell? ⟨w.heap.size, 3, none⟩ = some (.int .i64 a.n) ∧ W.cell? ⟨w.heap.size + 1, 0, none⟩ = some (.int .i64 b.kind) ∧ W.cell? ⟨w.heap.size + 1, 1, none⟩ = some (.int .i64 b.title.space) ∧ W.cell? ⟨w.heap.size + 1, 2, none⟩ = some (.string b.title.name) ∧ W.cell? ⟨w.heap.size + 1, 3, none⟩ = some (.int .i64 b.n)) := fun W h => ⟨re1 h (cell_lt c0_0) c0_0, re1 h (cell_lt c0_1) c0_1, re1 h (cell_lt c0_2) c0_2, re1 h (cell_lt c0_3) c0_3, re1 h (cell_lt c1_0) c1_0, re1 h (cell_lt c1_1) c1_1, re1 h (cell_lt c1_2) c1_2, re1 h (cell_lt c1_3) c1_3⟩
  go_region_held3 (fun W => Below w1.heap.size w1 W ∧ W.cell? ⟨w.heap.size, 0, none⟩ = some (.int .i64 a.kind) ∧ W.cell? ⟨w.heap.size, 1, none⟩ = some (.int .i64 a.title.space) ∧ W.cell? ⟨w.heap.size, 2, none⟩ = some (.string a.title.name) ∧ W.cell? ⟨w.heap.size, 3, none⟩ = some (.int .i64 a.n) ∧ W.cell? ⟨w.heap.size + 1, 0, none⟩ = some (.int .i64 b.kind) ∧ W.cell? ⟨w.heap.size + 1, 1, none⟩ = some (.int .i64 b.title.space) ∧ W.cell? ⟨w.heap.size + 1, 2, none⟩ = some (.string b.title.name) ∧ W.cell? ⟨w.heap.size + 1, 3, none⟩ = some (.int .i64 b.n)) (refine ⟨?_, HF.out _ ?_⟩ <;> (repeat (first | assumption | exact Below.refl _ _ | refine Below.drew ?_ | refine Below.al ?_ _))) (first | (go_at_call 13; refine (cmpInt_any _ _ _).mono ?_; rintro e w2 ⟨rfl, rfl⟩) | (go_at_call 14; refine (titleCompare_any _ _ _).mono ?_; rintro e w2 ⟨rfl, hb2⟩; have hb3 : Below w1.heap.size w1 w2 := Below.tr (by (repeat (first | assumption | exact Below.refl _ _ | refine Below.drew ?_ | refine Below.al ?_ _))) hb2) | (go_at_call 12; refine (or_any _ _ _ [Lib.compareInt a.kind b.kind, Title.cmp a.title b.title, Lib.compareInt a.n b.n] _ (by exact SlR.built (fun x : Int => [.int .i64 x]) (fun _ _ _ => rfl) _ _ rfl (by decide) rfl)).mono ?_; rintro e w2 ⟨rfl, rfl⟩))
  go_wp2
  go_ret
  exact ⟨rfl, Below.tr HB.out (by (repeat (first | assumption | exact Below.refl _ _ | refine Below.drew ?_ | refine Below.al ?_ _)))⟩
theorem key_def (a b : Key) : Key.cmp a b = if a.kind < b.kind then -1 else if b.kind < a.kind then 1 else if Title.cmp a.title b.title = 0 then Lib.compareInt a.n b.n else Title.cmp a.title b.title := by
  unfold Key.cmp orI
  by_cases h1 : a.kind < b.kind
  · simp [Lib.compareInt, h1]
  · by_cases h2 : b.kind < a.kind
    · simp [Lib.compareInt, h1, h2]
    · simp only [Lib.compareInt, h1, h2, if_false, if_true, orI]
      by_cases h : Title.cmp a.title b.title = 0
      · simp only [h, if_true]
        split <;> simp_all
      · simp [h]
set_option maxHeartbeats 1000000 in
theorem refKeyCompare_any (a b : Key) (w : World) : Calls Tryz.prog 6 #[.agg #[.int .i64 a.kind, .int .i64 a.title.space, .string a.title.name, .int .i64 a.n], .agg #[.int .i64 b.kind, .int .i64 b.title.space, .string b.title.name, .int .i64 b.n]] w fun e w' => e = .returned (.int .i64 (Key.cmp a b)) ∧ Below w.heap.size w w' := by
  go_enter Tryz.func6, Tryz.ntmps6
  go_wp2_with fail
  generalize hw1 : (w.alloc _).alloc _ = w1
  have c0_0 : w1.cell? ⟨w.heap.size, 0, none⟩ = some (.int .i64 a.kind) := by subst hw1; go_simp
  have c0_1 : w1.cell? ⟨w.heap.size, 1, none⟩ = some (.int .i64 a.title.space) := by subst hw1; go_simp
  have c0_2 : w1.cell? ⟨w.heap.size, 2, none⟩ = some (.string a.title.name) := by subst hw1; go_simp
  have c0_3 : w1.cell? ⟨w.heap.size, 3, none⟩ = some (.int .i64 a.n) := by subst hw1; go_simp
  have c1_0 : w1.cell? ⟨w.heap.size + 1, 0, none⟩ = some (.int .i64 b.kind) := by subst hw1; go_simp
  have c1_1 : w1.cell? ⟨w.heap.size + 1, 1, none⟩ = some (.int .i64 b.title.space) := by subst hw1; go_simp
  have c1_2 : w1.cell? ⟨w.heap.size + 1, 2, none⟩ = some (.string b.title.name) := by subst hw1; go_simp
  have c1_3 : w1.cell? ⟨w.heap.size + 1, 3, none⟩ = some (.int .i64 b.n) := by subst hw1; go_simp
  have HB : Hid (Below w.heap.size w w1) := by subst hw1; exact Below.al (Below.al (Below.refl _ _) _) _
  clear hw1
  have HF : Hid (∀ W, Below w1.heap.size w1 W → W.cell? ⟨w.heap.size, 0, none⟩ = some (.int .i64 a.kind) ∧ W.cell? ⟨w.heap.size, 1, none⟩ = some (.int .i64 a.title.space) ∧ W.cell? ⟨w.heap.size, 2, none⟩ = some (.string a.title.name) ∧ W.cell? ⟨w.heap.size, 3, none⟩ = some (.int .i64 a.n) ∧ W.cell? ⟨w.heap.size + 1, 0, none⟩ = some (.int .i64 b.kind) ∧ W.cell? ⟨w.heap.size + 1, 1, none⟩ = some (.int .i64 b.title.space) ∧ W.cell? ⟨w.heap.size + 1, 2, none⟩ = some (.string b.title.name) ∧ W.cell? ⟨w.heap.size + 1, 3, none⟩ = some (.int .i64 b.n)) := fun W h => ⟨re1 h (cell_lt c0_0) c0_0, re1 h (cell_lt c0_1) c0_1, re1 h (cell_lt c0_2) c0_2, re1 h (cell_lt c0_3) c0_3, re1 h (cell_lt c1_0) c1_0, re1 h (cell_lt c1_1) c1_1, re1 h (cell_lt c1_2) c1_2, re1 h (cell_lt c1_3) c1_3⟩
  refine (refTitleCompare_any a.title b.title _).mono ?_
  rintro e w2 ⟨rfl, hb2⟩
  try clear c0_0 c0_1 c0_2 c0_3 c1_0 c1_1 c1_2 c1_3
  obtain ⟨c0_0, c0_1, c0_2, c0_3, c1_0, c1_1, c1_2, c1_3⟩ := HF.out _ (hb2)
  have HR := Lib.hid (Below.tr HB.out hb2)
  clear hb2
  have h1 : (a.kind == b.kind) = decide (a.kind = b.kind) := by rw [Bool.eq_iff_iff]; simp
  have HK := Lib.hid (key_def a b)
  generalize Title.cmp a.title b.title = T at *
  go_wp2
  all_goals
    go_ret
    refine ⟨ret_int ?_, HR.out⟩
    rw [HK.out]
    clear HK HR HF HB
    unfold Lib.compareInt
    simp only [bne_iff_ne, bne_eq_false_iff_eq, ne_eq] at *
    (repeat' split) <;> omega
end Go.Proofs.YtknjnciilchgnaaGreatDoor
