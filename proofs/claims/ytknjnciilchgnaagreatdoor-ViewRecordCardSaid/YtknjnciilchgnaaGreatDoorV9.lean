/- The law's own example: its answer is true. -/
import Derived.Test.YtknjnciilchgnaaGreatDoorV8
namespace Go.Proofs.YtknjnciilchgnaaGreatDoor
open Go.RowKit

set_option maxRecDepth 100000 in
set_option maxHeartbeats 1000000 in
theorem ask_text (g : Nat) (w : World) (hG : Glob w) (h0 : w.cell? ⟨g, 0, none⟩ = some (.int .i64 0)) (h1 : w.cell? ⟨g, 1, none⟩ = some (.string ⟨#[65]⟩)) (h2 : w.cell? ⟨g, 2, none⟩ = some (.string ⟨#[120]⟩)) (h3 : w.cell? ⟨g, 3, none⟩ = some (.int .i64 3)) :
    Calls Tryz.prog 11 #[.agg #[.slice (some ⟨g, 0, none⟩) 1 1, .slice none 0 0, .slice none 0 0, .slice none 0 0, .slice none 0 0, .int .i64 0, .slice none 0 0], .agg #[.int .i64 1, .int .i64 0, .string ⟨#[65]⟩, .int .i64 0]] w fun e w' => e = .returned (.agg #[.bool true, .string ⟨#[120]⟩, .int .i64 0]) ∧ Below w.heap.size w w' := by
  have hg := cell_lt h0
  go_enter Tryz.func11, Tryz.ntmps11
  go_wp2_with fail
  generalize hw1 : ((w.alloc _).alloc _).alloc _ = w1
  have c0_0 : w1.cell? ⟨w.heap.size, 0, none⟩ = some (.slice (some ⟨g, 0, none⟩) 1 1) := by subst hw1; go_simp
  have c0_1 : w1.cell? ⟨w.heap.size, 1, none⟩ = some (.slice none 0 0) := by subst hw1; go_simp
  have c0_2 : w1.cell? ⟨w.heap.size, 2, none⟩ = some (.slice none 0 0) := by subst hw1; go_simp
  have c0_3 : w1.cell? ⟨w.heap.size, 3, none⟩ = some (.slice none 0 0) := by subst hw1; go_simp
  have c0_4 : w1.cell? ⟨w.heap.size, 4, none⟩ = some (.slice none 0 0) := by subst hw1; go_simp
  have c0_5 : w1.cell? ⟨w.heap.size, 5, none⟩ = some (.int .i64 0) := by subst hw1; go_simp
  have c0_6 : w1.cell? ⟨w.heap.size, 6, none⟩ = some (.slice none 0 0) := by subst hw1; go_simp
  have c1_0 : w1.cell? ⟨w.heap.size + 1, 0, none⟩ = some (.int .i64 1) := by subst hw1; go_simp
  have c1_1 : w1.cell? ⟨w.heap.size + 1, 1, none⟩ = some (.int .i64 0) := by subst hw1; go_simp
  have c1_2 : w1.cell? ⟨w.heap.size + 1, 2, none⟩ = some (.string ⟨#[65]⟩) := by subst hw1; go_simp
  have c1_3 : w1.cell? ⟨w.heap.size + 1, 3, none⟩ = some (.int .i64 0) := by subst hw1; go_simp
  have c2_0 : w1.cell? ⟨w.heap.size + 2, 0, none⟩ = some (.bool false) := by subst hw1; go_simp
  have c2_1 : w1.cell? ⟨w.heap.size + 2, 1, none⟩ = some (.string ⟨#[]⟩) := by subst hw1; go_simp
  have c2_2 : w1.cell? ⟨w.heap.size + 2, 2, none⟩ = some (.int .i64 0) := by subst hw1; go_simp
  have f2_0 : w1.frozen? ⟨w.heap.size + 2, 0, none⟩ = false := by subst hw1; go_simp
  have f2_1 : w1.frozen? ⟨w.heap.size + 2, 1, none⟩ = false := by subst hw1; go_simp
  have f2_2 : w1.frozen? ⟨w.heap.size + 2, 2, none⟩ = false := by subst hw1; go_simp
  have HB : Hid (Below w.heap.size w w1) := by subst hw1; exact Below.al (Below.al (Below.al (Below.refl _ _) _) _) _
  clear hw1
  have HF : Hid (∀ W, Below w1.heap.size w1 W → W.cell? ⟨w.heap.size, 0, none⟩ = some (.slice (some ⟨g, 0, none⟩) 1 1) ∧ W.cell? ⟨w.heap.size, 1, none⟩ = some (.slice none 0 0) ∧ W.cell? ⟨w.heap.size, 2, none⟩ = some (.slice none 0 0) ∧ W.cell? ⟨w.heap.size, 3, none⟩ = some (.slice none 0 0) ∧ W.cell? ⟨w.heap.size, 4, none⟩ = some (.slice none 0 0) ∧ W.cell? ⟨w.heap.size, 5, none⟩ = some (.int .i64 0) ∧ W.cell? ⟨w.heap.size, 6, none⟩ = some (.slice none 0 0) ∧ W.cell? ⟨w.heap.size + 1, 0, none⟩ = some (.int .i64 1) ∧ W.cell? ⟨w.heap.size + 1, 1, none⟩ = some (.int .i64 0) ∧ W.cell? ⟨w.heap.size + 1, 2, none⟩ = some (.string ⟨#[65]⟩) ∧ W.cell? ⟨w.heap.size + 1, 3, none⟩ = some (.int .i64 0) ∧ W.cell? ⟨w.heap.size + 2, 0, none⟩ = some (.bool false) ∧ W.cell? ⟨w.heap.size + 2, 1, none⟩ = some (.string ⟨#[]⟩) ∧ W.cell? ⟨w.heap.size + 2, 2, none⟩ = some (.int .i64 0) ∧ W.frozen? ⟨w.heap.size + 2, 0, none⟩ = false ∧ W.frozen? ⟨w.heap.size + 2, 1, none⟩ = false ∧ W.frozen? ⟨w.heap.size + 2, 2, none⟩ = false) := fun W h => ⟨re1 h (cell_lt c0_0) c0_0, re1 h (cell_lt c0_1) c0_1, re1 h (cell_lt c0_2) c0_2, re1 h (cell_lt c0_3) c0_3, re1 h (cell_lt c0_4) c0_4, re1 h (cell_lt c0_5) c0_5, re1 h (cell_lt c0_6) c0_6, re1 h (cell_lt c1_0) c1_0, re1 h (cell_lt c1_1) c1_1, re1 h (cell_lt c1_2) c1_2, re1 h (cell_lt c1_3) c1_3, re1 h (cell_lt c2_0) c2_0, re1 h (cell_lt c2_1) c2_1, re1 h (cell_lt c2_2) c2_2, rf1 h (cell_lt c2_0) f2_0, rf1 h (cell_lt c2_1) f2_1, rf1 h (cell_lt c2_2) f2_2⟩
  have HE : Hid (∀ W, Below w.heap.size w W → W.cell? ⟨g, 0, none⟩ = some (.int .i64 0) ∧ W.cell? ⟨g, 1, none⟩ = some (.string ⟨#[65]⟩) ∧ W.cell? ⟨g, 2, none⟩ = some (.string ⟨#[120]⟩) ∧ W.cell? ⟨g, 3, none⟩ = some (.int .i64 3)) := Lib.hid fun W h => ⟨re1 h hg h0, re1 h hg h1, re1 h hg h2, re1 h hg h3⟩
  clear h0 h1 h2 h3
  refine (find_none none 0 0 [] ⟨1, ⟨0, ⟨#[65]⟩⟩, 0⟩ _ (SlR.nil _) rfl).mono ?_
  rintro e w2 ⟨rfl, hb2⟩
  have HA := Lib.hid hb2
  clear hb2
  try clear c0_0 c0_1 c0_2 c0_3 c0_4 c0_5 c0_6 c1_0 c1_1 c1_2 c1_3 c2_0 c2_1 c2_2 f2_0 f2_1 f2_2
  obtain ⟨c0_0, c0_1, c0_2, c0_3, c0_4, c0_5, c0_6, c1_0, c1_1, c1_2, c1_3, c2_0, c2_1, c2_2, f2_0, f2_1, f2_2⟩ := HF.out _ (HA.out)
  have z0 := cell_lt c0_0
  have z1 := cell_lt c1_0
  have z2 := cell_lt c2_0
  go_wp2_with fail
  refine (validKey_text _ (Glob.below hG (Below.tr HB.out (Below.tr HA.out (Below.al (Below.refl _ _) _))))).mono ?_
  rintro e w3 ⟨rfl, hb3⟩
  have HA3 := Lib.hid (Below.tr HA.out (Below.tr (Below.al (Below.refl _ _) _) hb3))
  clear hb3
  try clear c0_0 c0_1 c0_2 c0_3 c0_4 c0_5 c0_6 c1_0 c1_1 c1_2 c1_3 c2_0 c2_1 c2_2 f2_0 f2_1 f2_2
  obtain ⟨c0_0, c0_1, c0_2, c0_3, c0_4, c0_5, c0_6, c1_0, c1_1, c1_2, c1_3, c2_0, c2_1, c2_2, f2_0, f2_1, f2_2⟩ := HF.out _ (HA3.out)
  go_wp2_with fail
  obtain ⟨e0, e1, e2, e3⟩ := HE.out _ (Below.tr HB.out HA3.out)
  refine (page_text g _ e0 e1 e2 e3).mono ?_
  rintro e w4 ⟨rfl, hb4⟩
  have HA4 := Lib.hid (Below.tr HA3.out hb4)
  clear hb4
  try clear c0_0 c0_1 c0_2 c0_3 c0_4 c0_5 c0_6 c1_0 c1_1 c1_2 c1_3 c2_0 c2_1 c2_2 f2_0 f2_1 f2_2
  obtain ⟨c0_0, c0_1, c0_2, c0_3, c0_4, c0_5, c0_6, c1_0, c1_1, c1_2, c1_3, c2_0, c2_1, c2_2, f2_0, f2_1, f2_2⟩ := HF.out _ (HA4.out)
  go_wp2
  exact bodyPost_ret (v := .agg #[.bool true, .string ⟨#[120]⟩, .int .i64 0]) (by simp [results, Tryz.results11, go_sem, *]) rfl ⟨rfl, by have hg := Below.tr HB.out HA4.out; go_grown⟩
set_option maxRecDepth 100000 in
set_option maxHeartbeats 1000000 in
theorem ask_revision (g : Nat) (w : World) (hG : Glob w) (h0 : w.cell? ⟨g, 0, none⟩ = some (.int .i64 0)) (h1 : w.cell? ⟨g, 1, none⟩ = some (.string ⟨#[65]⟩)) (h2 : w.cell? ⟨g, 2, none⟩ = some (.string ⟨#[120]⟩)) (h3 : w.cell? ⟨g, 3, none⟩ = some (.int .i64 3)) :
    Calls Tryz.prog 11 #[.agg #[.slice (some ⟨g, 0, none⟩) 1 1, .slice none 0 0, .slice none 0 0, .slice none 0 0, .slice none 0 0, .int .i64 0, .slice none 0 0], .agg #[.int .i64 7, .int .i64 0, .string ⟨#[65]⟩, .int .i64 0]] w fun e w' => e = .returned (.agg #[.bool true, .string ⟨#[]⟩, .int .i64 3]) ∧ Below w.heap.size w w' := by
  have hg := cell_lt h0
  go_enter Tryz.func11, Tryz.ntmps11
  go_wp2_with fail
  generalize hw1 : ((w.alloc _).alloc _).alloc _ = w1
  have c0_0 : w1.cell? ⟨w.heap.size, 0, none⟩ = some (.slice (some ⟨g, 0, none⟩) 1 1) := by subst hw1; go_simp
  have c0_1 : w1.cell? ⟨w.heap.size, 1, none⟩ = some (.slice none 0 0) := by subst hw1; go_simp
  have c0_2 : w1.cell? ⟨w.heap.size, 2, none⟩ = some (.slice none 0 0) := by subst hw1; go_simp
  have c0_3 : w1.cell? ⟨w.heap.size, 3, none⟩ = some (.slice none 0 0) := by subst hw1; go_simp
  have c0_4 : w1.cell? ⟨w.heap.size, 4, none⟩ = some (.slice none 0 0) := by subst hw1; go_simp
  have c0_5 : w1.cell? ⟨w.heap.size, 5, none⟩ = some (.int .i64 0) := by subst hw1; go_simp
  have c0_6 : w1.cell? ⟨w.heap.size, 6, none⟩ = some (.slice none 0 0) := by subst hw1; go_simp
  have c1_0 : w1.cell? ⟨w.heap.size + 1, 0, none⟩ = some (.int .i64 7) := by subst hw1; go_simp
  have c1_1 : w1.cell? ⟨w.heap.size + 1, 1, none⟩ = some (.int .i64 0) := by subst hw1; go_simp
  have c1_2 : w1.cell? ⟨w.heap.size + 1, 2, none⟩ = some (.string ⟨#[65]⟩) := by subst hw1; go_simp
  have c1_3 : w1.cell? ⟨w.heap.size + 1, 3, none⟩ = some (.int .i64 0) := by subst hw1; go_simp
  have c2_0 : w1.cell? ⟨w.heap.size + 2, 0, none⟩ = some (.bool false) := by subst hw1; go_simp
  have c2_1 : w1.cell? ⟨w.heap.size + 2, 1, none⟩ = some (.string ⟨#[]⟩) := by subst hw1; go_simp
  have c2_2 : w1.cell? ⟨w.heap.size + 2, 2, none⟩ = some (.int .i64 0) := by subst hw1; go_simp
  have f2_0 : w1.frozen? ⟨w.heap.size + 2, 0, none⟩ = false := by subst hw1; go_simp
  have f2_1 : w1.frozen? ⟨w.heap.size + 2, 1, none⟩ = false := by subst hw1; go_simp
  have f2_2 : w1.frozen? ⟨w.heap.size + 2, 2, none⟩ = false := by subst hw1; go_simp
  have HB : Hid (Below w.heap.size w w1) := by subst hw1; exact Below.al (Below.al (Below.al (Below.refl _ _) _) _) _
  clear hw1
  have HF : Hid (∀ W, Below w1.heap.size w1 W → W.cell? ⟨w.heap.size, 0, none⟩ = some (.slice (some ⟨g, 0, none⟩) 1 1) ∧ W.cell? ⟨w.heap.size, 1, none⟩ = some (.slice none 0 0) ∧ W.cell? ⟨w.heap.size, 2, none⟩ = some (.slice none 0 0) ∧ W.cell? ⟨w.heap.size, 3, none⟩ = some (.slice none 0 0) ∧ W.cell? ⟨w.heap.size, 4, none⟩ = some (.slice none 0 0) ∧ W.cell? ⟨w.heap.size, 5, none⟩ = some (.int .i64 0) ∧ W.cell? ⟨w.heap.size, 6, none⟩ = some (.slice none 0 0) ∧ W.cell? ⟨w.heap.size + 1, 0, none⟩ = some (.int .i64 7) ∧ W.cell? ⟨w.heap.size + 1, 1, none⟩ = some (.int .i64 0) ∧ W.cell? ⟨w.heap.size + 1, 2, none⟩ = some (.string ⟨#[65]⟩) ∧ W.cell? ⟨w.heap.size + 1, 3, none⟩ = some (.int .i64 0) ∧ W.cell? ⟨w.heap.size + 2, 0, none⟩ = some (.bool false) ∧ W.cell? ⟨w.heap.size + 2, 1, none⟩ = some (.string ⟨#[]⟩) ∧ W.cell? ⟨w.heap.size + 2, 2, none⟩ = some (.int .i64 0) ∧ W.frozen? ⟨w.heap.size + 2, 0, none⟩ = false ∧ W.frozen? ⟨w.heap.size + 2, 1, none⟩ = false ∧ W.frozen? ⟨w.heap.size + 2, 2, none⟩ = false) := fun W h => ⟨re1 h (cell_lt c0_0) c0_0, re1 h (cell_lt c0_1) c0_1, re1 h (cell_lt c0_2) c0_2, re1 h (cell_lt c0_3) c0_3, re1 h (cell_lt c0_4) c0_4, re1 h (cell_lt c0_5) c0_5, re1 h (cell_lt c0_6) c0_6, re1 h (cell_lt c1_0) c1_0, re1 h (cell_lt c1_1) c1_1, re1 h (cell_lt c1_2) c1_2, re1 h (cell_lt c1_3) c1_3, re1 h (cell_lt c2_0) c2_0, re1 h (cell_lt c2_1) c2_1, re1 h (cell_lt c2_2) c2_2, rf1 h (cell_lt c2_0) f2_0, rf1 h (cell_lt c2_1) f2_1, rf1 h (cell_lt c2_2) f2_2⟩
  have HE : Hid (∀ W, Below w.heap.size w W → W.cell? ⟨g, 0, none⟩ = some (.int .i64 0) ∧ W.cell? ⟨g, 1, none⟩ = some (.string ⟨#[65]⟩) ∧ W.cell? ⟨g, 2, none⟩ = some (.string ⟨#[120]⟩) ∧ W.cell? ⟨g, 3, none⟩ = some (.int .i64 3)) := Lib.hid fun W h => ⟨re1 h hg h0, re1 h hg h1, re1 h hg h2, re1 h hg h3⟩
  clear h0 h1 h2 h3
  refine (find_none none 0 0 [] ⟨7, ⟨0, ⟨#[65]⟩⟩, 0⟩ _ (SlR.nil _) rfl).mono ?_
  rintro e w2 ⟨rfl, hb2⟩
  have HA := Lib.hid hb2
  clear hb2
  try clear c0_0 c0_1 c0_2 c0_3 c0_4 c0_5 c0_6 c1_0 c1_1 c1_2 c1_3 c2_0 c2_1 c2_2 f2_0 f2_1 f2_2
  obtain ⟨c0_0, c0_1, c0_2, c0_3, c0_4, c0_5, c0_6, c1_0, c1_1, c1_2, c1_3, c2_0, c2_1, c2_2, f2_0, f2_1, f2_2⟩ := HF.out _ (HA.out)
  have z0 := cell_lt c0_0
  have z1 := cell_lt c1_0
  have z2 := cell_lt c2_0
  go_wp2_with fail
  refine (validKey_revision _ (Glob.below hG (Below.tr HB.out (Below.tr HA.out (Below.al (Below.refl _ _) _))))).mono ?_
  rintro e w3 ⟨rfl, hb3⟩
  have HA3 := Lib.hid (Below.tr HA.out (Below.tr (Below.al (Below.refl _ _) _) hb3))
  clear hb3
  try clear c0_0 c0_1 c0_2 c0_3 c0_4 c0_5 c0_6 c1_0 c1_1 c1_2 c1_3 c2_0 c2_1 c2_2 f2_0 f2_1 f2_2
  obtain ⟨c0_0, c0_1, c0_2, c0_3, c0_4, c0_5, c0_6, c1_0, c1_1, c1_2, c1_3, c2_0, c2_1, c2_2, f2_0, f2_1, f2_2⟩ := HF.out _ (HA3.out)
  go_wp2_with fail
  obtain ⟨e0, e1, e2, e3⟩ := HE.out _ (Below.tr HB.out HA3.out)
  refine (page_revision g _ e0 e1 e2 e3).mono ?_
  rintro e w4 ⟨rfl, hb4⟩
  have HA4 := Lib.hid (Below.tr HA3.out hb4)
  clear hb4
  try clear c0_0 c0_1 c0_2 c0_3 c0_4 c0_5 c0_6 c1_0 c1_1 c1_2 c1_3 c2_0 c2_1 c2_2 f2_0 f2_1 f2_2
  obtain ⟨c0_0, c0_1, c0_2, c0_3, c0_4, c0_5, c0_6, c1_0, c1_1, c1_2, c1_3, c2_0, c2_1, c2_2, f2_0, f2_1, f2_2⟩ := HF.out _ (HA4.out)
  go_wp2
  exact bodyPost_ret (v := .agg #[.bool true, .string ⟨#[]⟩, .int .i64 3]) (by simp [results, Tryz.results11, go_sem, *]) rfl ⟨rfl, by have hg := Below.tr HB.out HA4.out; go_grown⟩
theorem ansEql (a b : Answer) (W : World) : (binOp .eql 32 (.agg #[.bool a.ok, .string a.text, .int .i64 a.n]) (.agg #[.bool b.ok, .string b.text, .int .i64 b.n])).run Tryz.prog W = .ok (.bool (decide (a = b))) W := by
  have e : (if a.ok = b.ok then if a.text.toList = b.text.toList then if a.n = b.n then true else false else false else false) = decide (a = b) := by
    obtain ⟨x, y, z⟩ := a
    obtain ⟨x', y', z'⟩ := b
    simp only [Answer.mk.injEq, toList_iff]
    (repeat' split) <;> simp_all
  rw [← e]
  go_simp
  (repeat' split) <;> simp_all
set_option maxRecDepth 100000 in
set_option maxHeartbeats 1000000 in
theorem known_any (w : World) (hG : Glob w) : Calls Tryz.prog 7 #[] w fun e w' => e = .returned (.bool true) ∧ Below w.heap.size w w' := by
  go_enter Tryz.func7, Tryz.ntmps7
  go_wp2_with fail
  generalize hw1 : ((w.alloc _).alloc _).alloc _ = w1
  have c0_0 : w1.cell? ⟨w.heap.size, 0, none⟩ = some (.int .i64 0) := by subst hw1; go_simp
  have c0_1 : w1.cell? ⟨w.heap.size, 1, none⟩ = some (.string ⟨#[65]⟩) := by subst hw1; go_simp
  have c1_0 : w1.cell? ⟨w.heap.size + 1, 0, none⟩ = some (.int .i64 0) := by subst hw1; go_simp
  have c1_1 : w1.cell? ⟨w.heap.size + 1, 1, none⟩ = some (.string ⟨#[65]⟩) := by subst hw1; go_simp
  have c1_2 : w1.cell? ⟨w.heap.size + 1, 2, none⟩ = some (.string ⟨#[120]⟩) := by subst hw1; go_simp
  have c1_3 : w1.cell? ⟨w.heap.size + 1, 3, none⟩ = some (.int .i64 3) := by subst hw1; go_simp
  have c2_0 : w1.cell? ⟨w.heap.size + 1 + 1, 0, none⟩ = some (.slice (some ⟨w.heap.size + 1, 0, none⟩) 1 1) := by subst hw1; go_simp
  have c2_1 : w1.cell? ⟨w.heap.size + 1 + 1, 1, none⟩ = some (.slice none 0 0) := by subst hw1; go_simp
  have c2_2 : w1.cell? ⟨w.heap.size + 1 + 1, 2, none⟩ = some (.slice none 0 0) := by subst hw1; go_simp
  have c2_3 : w1.cell? ⟨w.heap.size + 1 + 1, 3, none⟩ = some (.slice none 0 0) := by subst hw1; go_simp
  have c2_4 : w1.cell? ⟨w.heap.size + 1 + 1, 4, none⟩ = some (.slice none 0 0) := by subst hw1; go_simp
  have c2_5 : w1.cell? ⟨w.heap.size + 1 + 1, 5, none⟩ = some (.int .i64 0) := by subst hw1; go_simp
  have c2_6 : w1.cell? ⟨w.heap.size + 1 + 1, 6, none⟩ = some (.slice none 0 0) := by subst hw1; go_simp
  have HB : Hid (Below w.heap.size w w1) := by subst hw1; exact Below.al (Below.al (Below.al (Below.refl _ _) _) _) _
  clear hw1
  have HF : Hid (∀ W, Below w1.heap.size w1 W → W.cell? ⟨w.heap.size, 0, none⟩ = some (.int .i64 0) ∧ W.cell? ⟨w.heap.size, 1, none⟩ = some (.string ⟨#[65]⟩) ∧ W.cell? ⟨w.heap.size + 1, 0, none⟩ = some (.int .i64 0) ∧ W.cell? ⟨w.heap.size + 1, 1, none⟩ = some (.string ⟨#[65]⟩) ∧ W.cell? ⟨w.heap.size + 1, 2, none⟩ = some (.string ⟨#[120]⟩) ∧ W.cell? ⟨w.heap.size + 1, 3, none⟩ = some (.int .i64 3) ∧ W.cell? ⟨w.heap.size + 1 + 1, 0, none⟩ = some (.slice (some ⟨w.heap.size + 1, 0, none⟩) 1 1) ∧ W.cell? ⟨w.heap.size + 1 + 1, 1, none⟩ = some (.slice none 0 0) ∧ W.cell? ⟨w.heap.size + 1 + 1, 2, none⟩ = some (.slice none 0 0) ∧ W.cell? ⟨w.heap.size + 1 + 1, 3, none⟩ = some (.slice none 0 0) ∧ W.cell? ⟨w.heap.size + 1 + 1, 4, none⟩ = some (.slice none 0 0) ∧ W.cell? ⟨w.heap.size + 1 + 1, 5, none⟩ = some (.int .i64 0) ∧ W.cell? ⟨w.heap.size + 1 + 1, 6, none⟩ = some (.slice none 0 0)) := fun W h => ⟨re1 h (cell_lt c0_0) c0_0, re1 h (cell_lt c0_1) c0_1, re1 h (cell_lt c1_0) c1_0, re1 h (cell_lt c1_1) c1_1, re1 h (cell_lt c1_2) c1_2, re1 h (cell_lt c1_3) c1_3, re1 h (cell_lt c2_0) c2_0, re1 h (cell_lt c2_1) c2_1, re1 h (cell_lt c2_2) c2_2, re1 h (cell_lt c2_3) c2_3, re1 h (cell_lt c2_4) c2_4, re1 h (cell_lt c2_5) c2_5, re1 h (cell_lt c2_6) c2_6⟩
  refine (validate_one (w.heap.size + 1) _ (Glob.below hG HB.out) c1_0 c1_1 c1_2 c1_3).mono ?_
  rintro e w2 ⟨rfl, hb2⟩
  have HA := Lib.hid hb2
  clear hb2
  try clear c0_0 c0_1 c1_0 c1_1 c1_2 c1_3 c2_0 c2_1 c2_2 c2_3 c2_4 c2_5 c2_6
  obtain ⟨c0_0, c0_1, c1_0, c1_1, c1_2, c1_3, c2_0, c2_1, c2_2, c2_3, c2_4, c2_5, c2_6⟩ := HF.out _ (HA.out)
  go_wp2_with fail
  refine (ask_text (w.heap.size + 1) _ (Glob.below hG (Below.tr HB.out HA.out)) c1_0 c1_1 c1_2 c1_3).mono ?_
  rintro e w3 ⟨rfl, hb3⟩
  have HA3 := Lib.hid (Below.tr HA.out hb3)
  clear hb3
  try clear c0_0 c0_1 c1_0 c1_1 c1_2 c1_3 c2_0 c2_1 c2_2 c2_3 c2_4 c2_5 c2_6
  obtain ⟨c0_0, c0_1, c1_0, c1_1, c1_2, c1_3, c2_0, c2_1, c2_2, c2_3, c2_4, c2_5, c2_6⟩ := HF.out _ (HA3.out)
  go_wp2_with fail
  refine (ask_revision (w.heap.size + 1) _ (Glob.below hG (Below.tr HB.out HA3.out)) c1_0 c1_1 c1_2 c1_3).mono ?_
  rintro e w4 ⟨rfl, hb4⟩
  have HA4 := Lib.hid (Below.tr HA3.out hb4)
  clear hb4
  try clear c0_0 c0_1 c1_0 c1_1 c1_2 c1_3 c2_0 c2_1 c2_2 c2_3 c2_4 c2_5 c2_6
  obtain ⟨c0_0, c0_1, c1_0, c1_1, c1_2, c1_3, c2_0, c2_1, c2_2, c2_3, c2_4, c2_5, c2_6⟩ := HF.out _ (HA4.out)
  go_wp2_with fail
  refine (validKey_clock _).mono ?_
  rintro e w5 ⟨rfl, hb5⟩
  have HA5 := Lib.hid (Below.tr HA4.out hb5)
  clear hb5
  try clear c0_0 c0_1 c1_0 c1_1 c1_2 c1_3 c2_0 c2_1 c2_2 c2_3 c2_4 c2_5 c2_6
  obtain ⟨c0_0, c0_1, c1_0, c1_1, c1_2, c1_3, c2_0, c2_1, c2_2, c2_3, c2_4, c2_5, c2_6⟩ := HF.out _ (HA5.out)
  go_wp2_with fail
  refine (keyCompare_any ⟨1, ⟨0, ⟨#[]⟩⟩, 0⟩ ⟨2, ⟨0, ⟨#[]⟩⟩, 0⟩ _).mono ?_
  rintro e w6 ⟨rfl, hb6⟩
  have HA6 := Lib.hid (Below.tr HA5.out hb6)
  clear hb6
  try clear c0_0 c0_1 c1_0 c1_1 c1_2 c1_3 c2_0 c2_1 c2_2 c2_3 c2_4 c2_5 c2_6
  obtain ⟨c0_0, c0_1, c1_0, c1_1, c1_2, c1_3, c2_0, c2_1, c2_2, c2_3, c2_4, c2_5, c2_6⟩ := HF.out _ (HA6.out)
  have hk : Key.cmp ⟨1, ⟨0, ⟨#[]⟩⟩, 0⟩ ⟨2, ⟨0, ⟨#[]⟩⟩, 0⟩ = -1 := by decide +kernel
  rw [hk]
  clear hk
  go_wp2
  go_ret
  exact ⟨rfl, Below.tr HB.out HA6.out⟩
end Go.Proofs.YtknjnciilchgnaaGreatDoor
