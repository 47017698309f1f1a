/- The law's own example: the answers to four keys, and the comparison of keys as a total order. -/
import Derived.Test.YtknjnciilchgnaaGreatDoorV7
namespace Go.Proofs.YtknjnciilchgnaaGreatDoor
open Go.RowKit

set_option maxRecDepth 100000 in
set_option maxHeartbeats 1000000 in
theorem validKey_text (w : World) (hG : Glob w) : Calls Tryz.prog 17 #[.agg #[.int .i64 1, .int .i64 0, .string ⟨#[65]⟩, .int .i64 0]] w fun e w' => e = .returned (.bool true) ∧ Below w.heap.size w w' := by
  go_enter Tryz.func17, Tryz.ntmps17
  go_wp2_with fail
  generalize hw1 : w.alloc _ = w1
  have c0_0 : w1.cell? ⟨w.heap.size, 0, none⟩ = some (.int .i64 1) := by subst hw1; go_simp
  have c0_1 : w1.cell? ⟨w.heap.size, 1, none⟩ = some (.int .i64 0) := by subst hw1; go_simp
  have c0_2 : w1.cell? ⟨w.heap.size, 2, none⟩ = some (.string ⟨#[65]⟩) := by subst hw1; go_simp
  have c0_3 : w1.cell? ⟨w.heap.size, 3, none⟩ = some (.int .i64 0) := by subst hw1; go_simp
  have HB : Hid (Below w.heap.size w w1) := by subst hw1; exact Below.al (Below.refl _ _) _
  clear hw1
  have HF : Hid (∀ W, Below w1.heap.size w1 W → W.cell? ⟨w.heap.size, 0, none⟩ = some (.int .i64 1) ∧ W.cell? ⟨w.heap.size, 1, none⟩ = some (.int .i64 0) ∧ W.cell? ⟨w.heap.size, 2, none⟩ = some (.string ⟨#[65]⟩) ∧ W.cell? ⟨w.heap.size, 3, none⟩ = some (.int .i64 0)) := fun W h => ⟨re1 h (cell_lt c0_0) c0_0, re1 h (cell_lt c0_1) c0_1, re1 h (cell_lt c0_2) c0_2, re1 h (cell_lt c0_3) c0_3⟩
  refine (valid_at ⟨0, ⟨#[65]⟩⟩ true validA _ (Glob.below hG HB.out)).mono ?_
  rintro e w2 ⟨rfl, hb2⟩
  have HA := Lib.hid hb2
  clear hb2
  try clear c0_0 c0_1 c0_2 c0_3
  obtain ⟨c0_0, c0_1, c0_2, c0_3⟩ := HF.out _ (HA.out)
  go_wp2
  go_ret
  exact ⟨rfl, Below.tr HB.out HA.out⟩
set_option maxRecDepth 100000 in
set_option maxHeartbeats 1000000 in
theorem validKey_revision (w : World) (hG : Glob w) : Calls Tryz.prog 17 #[.agg #[.int .i64 7, .int .i64 0, .string ⟨#[65]⟩, .int .i64 0]] w fun e w' => e = .returned (.bool true) ∧ Below w.heap.size w w' := by
  go_enter Tryz.func17, Tryz.ntmps17
  go_wp2_with fail
  generalize hw1 : w.alloc _ = w1
  have c0_0 : w1.cell? ⟨w.heap.size, 0, none⟩ = some (.int .i64 7) := by subst hw1; go_simp
  have c0_1 : w1.cell? ⟨w.heap.size, 1, none⟩ = some (.int .i64 0) := by subst hw1; go_simp
  have c0_2 : w1.cell? ⟨w.heap.size, 2, none⟩ = some (.string ⟨#[65]⟩) := by subst hw1; go_simp
  have c0_3 : w1.cell? ⟨w.heap.size, 3, none⟩ = some (.int .i64 0) := by subst hw1; go_simp
  have HB : Hid (Below w.heap.size w w1) := by subst hw1; exact Below.al (Below.refl _ _) _
  clear hw1
  have HF : Hid (∀ W, Below w1.heap.size w1 W → W.cell? ⟨w.heap.size, 0, none⟩ = some (.int .i64 7) ∧ W.cell? ⟨w.heap.size, 1, none⟩ = some (.int .i64 0) ∧ W.cell? ⟨w.heap.size, 2, none⟩ = some (.string ⟨#[65]⟩) ∧ W.cell? ⟨w.heap.size, 3, none⟩ = some (.int .i64 0)) := fun W h => ⟨re1 h (cell_lt c0_0) c0_0, re1 h (cell_lt c0_1) c0_1, re1 h (cell_lt c0_2) c0_2, re1 h (cell_lt c0_3) c0_3⟩
  refine (valid_at ⟨0, ⟨#[65]⟩⟩ true validA _ (Glob.below hG HB.out)).mono ?_
  rintro e w2 ⟨rfl, hb2⟩
  have HA := Lib.hid hb2
  clear hb2
  try clear c0_0 c0_1 c0_2 c0_3
  obtain ⟨c0_0, c0_1, c0_2, c0_3⟩ := HF.out _ (HA.out)
  go_wp2
  go_ret
  exact ⟨rfl, Below.tr HB.out HA.out⟩
set_option maxRecDepth 100000 in
set_option maxHeartbeats 1000000 in
theorem validKey_clock (w : World) : Calls Tryz.prog 17 #[.agg #[.int .i64 5, .int .i64 0, .string ⟨#[]⟩, .int .i64 3]] w fun e w' => e = .returned (.bool true) ∧ Below w.heap.size w w' := by
  go_enter Tryz.func17, Tryz.ntmps17
  go_wp2
  go_ret
  exact ⟨rfl, Below.al (Below.refl _ _) _⟩
set_option maxRecDepth 100000 in
set_option maxHeartbeats 1000000 in
theorem page_text (g : Nat) (w : World) (h0 : w.cell? ⟨g, 0, none⟩ = some (.int .i64 0)) (h1 : w.cell? ⟨g, 1, none⟩ = some (.string ⟨#[65]⟩)) (h2 : w.cell? ⟨g, 2, none⟩ = some (.string ⟨#[120]⟩)) (h3 : w.cell? ⟨g, 3, none⟩ = some (.int .i64 3)) :
    Calls Tryz.prog 24 #[.agg #[.slice (some ⟨g, 0, none⟩) 1 1, .slice none 0 0, .slice none 0 0, .slice none 0 0, .slice none 0 0, .int .i64 0, .slice none 0 0], .agg #[.int .i64 1, .int .i64 0, .string ⟨#[65]⟩, .int .i64 0]] w fun e w' => e = .returned (.agg #[.bool true, .string ⟨#[120]⟩, .int .i64 0]) ∧ Below w.heap.size w w' := by
  have hg := cell_lt h0
  go_enter Tryz.func24, Tryz.ntmps24
  go_wp2
  generalize hw1 : ((w.alloc _).alloc _).alloc _ = w1
  have c0_0 : w1.cell? ⟨w.heap.size, 0, none⟩ = some (.slice (some ⟨g, 0, none⟩) 1 1) := by subst hw1; go_simp
  have c0_1 : w1.cell? ⟨w.heap.size, 1, none⟩ = some (.slice none 0 0) := by subst hw1; go_simp
  have c0_2 : w1.cell? ⟨w.heap.size, 2, none⟩ = some (.slice none 0 0) := by subst hw1; go_simp
  have c0_3 : w1.cell? ⟨w.heap.size, 3, none⟩ = some (.slice none 0 0) := by subst hw1; go_simp
  have c0_4 : w1.cell? ⟨w.heap.size, 4, none⟩ = some (.slice none 0 0) := by subst hw1; go_simp
  have c0_5 : w1.cell? ⟨w.heap.size, 5, none⟩ = some (.int .i64 0) := by subst hw1; go_simp
  have c0_6 : w1.cell? ⟨w.heap.size, 6, none⟩ = some (.slice none 0 0) := by subst hw1; go_simp
  have c1_0 : w1.cell? ⟨w.heap.size + 1, 0, none⟩ = some (.int .i64 1) := by subst hw1; go_simp
  have c1_1 : w1.cell? ⟨w.heap.size + 1, 1, none⟩ = some (.int .i64 0) := by subst hw1; go_simp
  have c1_2 : w1.cell? ⟨w.heap.size + 1, 2, none⟩ = some (.string ⟨#[65]⟩) := by subst hw1; go_simp
  have c1_3 : w1.cell? ⟨w.heap.size + 1, 3, none⟩ = some (.int .i64 0) := by subst hw1; go_simp
  have c2_0 : w1.cell? ⟨w.heap.size + 2, 0, none⟩ = some (.bool false) := by subst hw1; go_simp
  have c2_1 : w1.cell? ⟨w.heap.size + 2, 1, none⟩ = some (.string ⟨#[]⟩) := by subst hw1; go_simp
  have c2_2 : w1.cell? ⟨w.heap.size + 2, 2, none⟩ = some (.int .i64 0) := by subst hw1; go_simp
  have f2_0 : w1.frozen? ⟨w.heap.size + 2, 0, none⟩ = false := by subst hw1; go_simp
  have f2_1 : w1.frozen? ⟨w.heap.size + 2, 1, none⟩ = false := by subst hw1; go_simp
  have f2_2 : w1.frozen? ⟨w.heap.size + 2, 2, none⟩ = false := by subst hw1; go_simp
  have HB : Hid (Below w.heap.size w w1) := by subst hw1; exact Below.al (Below.al (Below.al (Below.refl _ _) _) _) _
  clear hw1
  have HF : Hid (∀ W, Below w1.heap.size w1 W → W.cell? ⟨w.heap.size, 0, none⟩ = some (.slice (some ⟨g, 0, none⟩) 1 1) ∧ W.cell? ⟨w.heap.size, 1, none⟩ = some (.slice none 0 0) ∧ W.cell? ⟨w.heap.size, 2, none⟩ = some (.slice none 0 0) ∧ W.cell? ⟨w.heap.size, 3, none⟩ = some (.slice none 0 0) ∧ W.cell? ⟨w.heap.size, 4, none⟩ = some (.slice none 0 0) ∧ W.cell? ⟨w.heap.size, 5, none⟩ = some (.int .i64 0) ∧ W.cell? ⟨w.heap.size, 6, none⟩ = some (.slice none 0 0) ∧ W.cell? ⟨w.heap.size + 1, 0, none⟩ = some (.int .i64 1) ∧ W.cell? ⟨w.heap.size + 1, 1, none⟩ = some (.int .i64 0) ∧ W.cell? ⟨w.heap.size + 1, 2, none⟩ = some (.string ⟨#[65]⟩) ∧ W.cell? ⟨w.heap.size + 1, 3, none⟩ = some (.int .i64 0) ∧ W.cell? ⟨w.heap.size + 2, 0, none⟩ = some (.bool false) ∧ W.cell? ⟨w.heap.size + 2, 1, none⟩ = some (.string ⟨#[]⟩) ∧ W.cell? ⟨w.heap.size + 2, 2, none⟩ = some (.int .i64 0) ∧ W.frozen? ⟨w.heap.size + 2, 0, none⟩ = false ∧ W.frozen? ⟨w.heap.size + 2, 1, none⟩ = false ∧ W.frozen? ⟨w.heap.size + 2, 2, none⟩ = false) := fun W h => ⟨re1 h (cell_lt c0_0) c0_0, re1 h (cell_lt c0_1) c0_1, re1 h (cell_lt c0_2) c0_2, re1 h (cell_lt c0_3) c0_3, re1 h (cell_lt c0_4) c0_4, re1 h (cell_lt c0_5) c0_5, re1 h (cell_lt c0_6) c0_6, re1 h (cell_lt c1_0) c1_0, re1 h (cell_lt c1_1) c1_1, re1 h (cell_lt c1_2) c1_2, re1 h (cell_lt c1_3) c1_3, re1 h (cell_lt c2_0) c2_0, re1 h (cell_lt c2_1) c2_1, re1 h (cell_lt c2_2) c2_2, rf1 h (cell_lt c2_0) f2_0, rf1 h (cell_lt c2_1) f2_1, rf1 h (cell_lt c2_2) f2_2⟩
  have e0 := re1 HB.out hg h0
  have e1 := re1 HB.out hg h1
  have e2 := re1 HB.out hg h2
  have e3 := re1 HB.out hg h3
  have z0 := cell_lt c0_0
  have z1 := cell_lt c1_0
  have z2 := cell_lt c2_0
  clear h0 h1 h2 h3
  refine wp_loop_rounds 2 ?_
  rw [rounds_succ]
  go_wp2
  exact bodyPost_ret (v := .agg #[.bool true, .string ⟨#[120]⟩, .int .i64 0]) (by simp [results, Tryz.results24, go_sem, *]) rfl ⟨rfl, by have hg := HB.out; go_grown⟩
set_option maxRecDepth 100000 in
set_option maxHeartbeats 1000000 in
theorem page_revision (g : Nat) (w : World) (h0 : w.cell? ⟨g, 0, none⟩ = some (.int .i64 0)) (h1 : w.cell? ⟨g, 1, none⟩ = some (.string ⟨#[65]⟩)) (h2 : w.cell? ⟨g, 2, none⟩ = some (.string ⟨#[120]⟩)) (h3 : w.cell? ⟨g, 3, none⟩ = some (.int .i64 3)) :
    Calls Tryz.prog 24 #[.agg #[.slice (some ⟨g, 0, none⟩) 1 1, .slice none 0 0, .slice none 0 0, .slice none 0 0, .slice none 0 0, .int .i64 0, .slice none 0 0], .agg #[.int .i64 7, .int .i64 0, .string ⟨#[65]⟩, .int .i64 0]] w fun e w' => e = .returned (.agg #[.bool true, .string ⟨#[]⟩, .int .i64 3]) ∧ Below w.heap.size w w' := by
  have hg := cell_lt h0
  go_enter Tryz.func24, Tryz.ntmps24
  go_wp2
  generalize hw1 : ((w.alloc _).alloc _).alloc _ = w1
  have c0_0 : w1.cell? ⟨w.heap.size, 0, none⟩ = some (.slice (some ⟨g, 0, none⟩) 1 1) := by subst hw1; go_simp
  have c0_1 : w1.cell? ⟨w.heap.size, 1, none⟩ = some (.slice none 0 0) := by subst hw1; go_simp
  have c0_2 : w1.cell? ⟨w.heap.size, 2, none⟩ = some (.slice none 0 0) := by subst hw1; go_simp
  have c0_3 : w1.cell? ⟨w.heap.size, 3, none⟩ = some (.slice none 0 0) := by subst hw1; go_simp
  have c0_4 : w1.cell? ⟨w.heap.size, 4, none⟩ = some (.slice none 0 0) := by subst hw1; go_simp
  have c0_5 : w1.cell? ⟨w.heap.size, 5, none⟩ = some (.int .i64 0) := by subst hw1; go_simp
  have c0_6 : w1.cell? ⟨w.heap.size, 6, none⟩ = some (.slice none 0 0) := by subst hw1; go_simp
  have c1_0 : w1.cell? ⟨w.heap.size + 1, 0, none⟩ = some (.int .i64 7) := by subst hw1; go_simp
  have c1_1 : w1.cell? ⟨w.heap.size + 1, 1, none⟩ = some (.int .i64 0) := by subst hw1; go_simp
  have c1_2 : w1.cell? ⟨w.heap.size + 1, 2, none⟩ = some (.string ⟨#[65]⟩) := by subst hw1; go_simp
  have c1_3 : w1.cell? ⟨w.heap.size + 1, 3, none⟩ = some (.int .i64 0) := by subst hw1; go_simp
  have c2_0 : w1.cell? ⟨w.heap.size + 2, 0, none⟩ = some (.bool false) := by subst hw1; go_simp
  have c2_1 : w1.cell? ⟨w.heap.size + 2, 1, none⟩ = some (.string ⟨#[]⟩) := by subst hw1; go_simp
  have c2_2 : w1.cell? ⟨w.heap.size + 2, 2, none⟩ = some (.int .i64 0) := by subst hw1; go_simp
  have f2_0 : w1.frozen? ⟨w.heap.size + 2, 0, none⟩ = false := by subst hw1; go_simp
  have f2_1 : w1.frozen? ⟨w.heap.size + 2, 1, none⟩ = false := by subst hw1; go_simp
  have f2_2 : w1.frozen? ⟨w.heap.size + 2, 2, none⟩ = false := by subst hw1; go_simp
  have HB : Hid (Below w.heap.size w w1) := by subst hw1; exact Below.al (Below.al (Below.al (Below.refl _ _) _) _) _
  clear hw1
  have HF : Hid (∀ W, Below w1.heap.size w1 W → W.cell? ⟨w.heap.size, 0, none⟩ = some (.slice (some ⟨g, 0, none⟩) 1 1) ∧ W.cell? ⟨w.heap.size, 1, none⟩ = some (.slice none 0 0) ∧ W.cell? ⟨w.heap.size, 2, none⟩ = some (.slice none 0 0) ∧ W.cell? ⟨w.heap.size, 3, none⟩ = some (.slice none 0 0) ∧ W.cell? ⟨w.heap.size, 4, none⟩ = some (.slice none 0 0) ∧ W.cell? ⟨w.heap.size, 5, none⟩ = some (.int .i64 0) ∧ W.cell? ⟨w.heap.size, 6, none⟩ = some (.slice none 0 0) ∧ W.cell? ⟨w.heap.size + 1, 0, none⟩ = some (.int .i64 7) ∧ W.cell? ⟨w.heap.size + 1, 1, none⟩ = some (.int .i64 0) ∧ W.cell? ⟨w.heap.size + 1, 2, none⟩ = some (.string ⟨#[65]⟩) ∧ W.cell? ⟨w.heap.size + 1, 3, none⟩ = some (.int .i64 0) ∧ W.cell? ⟨w.heap.size + 2, 0, none⟩ = some (.bool false) ∧ W.cell? ⟨w.heap.size + 2, 1, none⟩ = some (.string ⟨#[]⟩) ∧ W.cell? ⟨w.heap.size + 2, 2, none⟩ = some (.int .i64 0) ∧ W.frozen? ⟨w.heap.size + 2, 0, none⟩ = false ∧ W.frozen? ⟨w.heap.size + 2, 1, none⟩ = false ∧ W.frozen? ⟨w.heap.size + 2, 2, none⟩ = false) := fun W h => ⟨re1 h (cell_lt c0_0) c0_0, re1 h (cell_lt c0_1) c0_1, re1 h (cell_lt c0_2) c0_2, re1 h (cell_lt c0_3) c0_3, re1 h (cell_lt c0_4) c0_4, re1 h (cell_lt c0_5) c0_5, re1 h (cell_lt c0_6) c0_6, re1 h (cell_lt c1_0) c1_0, re1 h (cell_lt c1_1) c1_1, re1 h (cell_lt c1_2) c1_2, re1 h (cell_lt c1_3) c1_3, re1 h (cell_lt c2_0) c2_0, re1 h (cell_lt c2_1) c2_1, re1 h (cell_lt c2_2) c2_2, rf1 h (cell_lt c2_0) f2_0, rf1 h (cell_lt c2_1) f2_1, rf1 h (cell_lt c2_2) f2_2⟩
  have e0 := re1 HB.out hg h0
  have e1 := re1 HB.out hg h1
  have e2 := re1 HB.out hg h2
  have e3 := re1 HB.out hg h3
  have z0 := cell_lt c0_0
  have z1 := cell_lt c1_0
  have z2 := cell_lt c2_0
  clear h0 h1 h2 h3
  refine wp_loop_rounds 2 ?_
  rw [rounds_succ]
  go_wp2
  exact bodyPost_ret (v := .agg #[.bool true, .string ⟨#[]⟩, .int .i64 3]) (by simp [results, Tryz.results24, go_sem, *]) rfl ⟨rfl, by have hg := HB.out; go_grown⟩
end Go.Proofs.YtknjnciilchgnaaGreatDoor
