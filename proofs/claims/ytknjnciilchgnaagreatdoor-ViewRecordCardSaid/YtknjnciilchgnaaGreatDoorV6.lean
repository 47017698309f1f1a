/- The law's own example: a view of one page. -/
import Derived.Test.YtknjnciilchgnaaGreatDoorV5
import Derived.Handy
namespace Go.Proofs.YtknjnciilchgnaaGreatDoor
open Go.RowKit

theorem valid_at (t : Title) (b : Bool) (hv : t.valid = b) (w : World) (hG : Glob w) : Calls Tryz.prog 31 #[.agg #[.int .i64 t.space, .string t.name]] w fun e w' => e = .returned (.bool b) ∧ Below w.heap.size w w' :=
  hv ▸ valid_any t w hG
theorem validA : Title.valid ⟨0, ⟨#[65]⟩⟩ = true := by decide +kernel
set_option maxRecDepth 100000 in
set_option maxHeartbeats 1000000 in
theorem checkPages_one (g : Nat) (w : World) (hG : Glob w) (h0 : w.cell? ⟨g, 0, none⟩ = some (.int .i64 0)) (h1 : w.cell? ⟨g, 1, none⟩ = some (.string ⟨#[65]⟩)) (h2 : w.cell? ⟨g, 2, none⟩ = some (.string ⟨#[120]⟩)) (h3 : w.cell? ⟨g, 3, none⟩ = some (.int .i64 3)) :
    Calls Tryz.prog 27 #[.slice (some ⟨g, 0, none⟩) 1 1] w fun e w' => e = .returned (.int .i64 0) ∧ Below w.heap.size w w' := by
  go_enter Tryz.func27, Tryz.ntmps27
  go_wp2
  refine wp_loop_rounds 2 ?_
  rw [rounds_succ]
  go_wp2_with fail
  refine (valid_at ⟨0, ⟨#[65]⟩⟩ true validA _ (Glob.below hG (Below.al (Below.refl _ _) _))).mono ?_
  rintro e w2 ⟨rfl, hb2⟩
  have c2 : w2.cell? ⟨w.heap.size, 2, none⟩ = some (.string ⟨#[120]⟩) := re1 hb2 (by first | simp | omega | (simp; omega)) (by first | assumption | go_simp)
  have c3 : w2.cell? ⟨w.heap.size, 3, none⟩ = some (.int .i64 3) := re1 hb2 (by first | simp | omega | (simp; omega)) (by first | assumption | go_simp)
  go_wp2
  go_quiet (fail)
  go_wp2
  rw [rounds_succ]
  go_wp2
  go_ret
  exact ⟨rfl, below_drewN (Below.tr (Below.al (Below.refl _ _) _) hb2) _⟩
set_option maxRecDepth 100000 in
set_option maxHeartbeats 1000000 in
theorem policyValidate_nil (w : World) : Calls Tryz.prog 28 #[.agg #[.slice none 0 0, .slice none 0 0, .slice none 0 0]] w fun e w' => e = .returned (.int .i64 0) ∧ Below w.heap.size w w' := by
  go_enter Tryz.func28, Tryz.ntmps28
  go_wp2
  go_rounds 1
  go_rounds 1
  go_rounds 1
  go_ret
  exact ⟨rfl, Below.al (Below.refl _ _) _⟩
set_option maxRecDepth 100000 in
set_option maxHeartbeats 1000000 in
theorem checkGroups_nil (w : World) : Calls Tryz.prog 29 #[.slice none 0 0] w fun e w' => e = .returned (.int .i64 0) ∧ w = w' := by
  go_enter Tryz.func29, Tryz.ntmps29
  go_wp2
  go_rounds 1
  go_ret
  exact ⟨rfl, rfl⟩
set_option maxRecDepth 100000 in
set_option maxHeartbeats 1000000 in
theorem checkFixed_nil (w : World) : Calls Tryz.prog 30 #[.slice none 0 0] w fun e w' => e = .returned (.int .i64 0) ∧ Below w.heap.size w w' := by
  have hmm := @run_makeMap Tryz.prog
  go_enter Tryz.func30, Tryz.ntmps30
  go_wp2
  go_rounds 1
  go_ret
  exact ⟨rfl, Below.al (Below.refl _ _) _⟩
set_option maxRecDepth 100000 in
set_option maxHeartbeats 1000000 in
theorem validate_one (g : Nat) (w : World) (hG : Glob w) (h0 : w.cell? ⟨g, 0, none⟩ = some (.int .i64 0)) (h1 : w.cell? ⟨g, 1, none⟩ = some (.string ⟨#[65]⟩)) (h2 : w.cell? ⟨g, 2, none⟩ = some (.string ⟨#[120]⟩)) (h3 : w.cell? ⟨g, 3, none⟩ = some (.int .i64 3)) :
    Calls Tryz.prog 16 #[.agg #[.slice (some ⟨g, 0, none⟩) 1 1, .slice none 0 0, .slice none 0 0, .slice none 0 0, .slice none 0 0, .int .i64 0, .slice none 0 0]] w fun e w' => e = .returned (.int .i64 0) ∧ Below w.heap.size w w' := by
  go_enter Tryz.func16, Tryz.ntmps16
  go_wp2_with fail
  generalize hw1 : w.alloc _ = w1
  have c0_0 : w1.cell? ⟨w.heap.size, 0, none⟩ = some (.slice (some ⟨g, 0, none⟩) 1 1) := by subst hw1; go_simp
  have c0_1 : w1.cell? ⟨w.heap.size, 1, none⟩ = some (.slice none 0 0) := by subst hw1; go_simp
  have c0_2 : w1.cell? ⟨w.heap.size, 2, none⟩ = some (.slice none 0 0) := by subst hw1; go_simp
  have c0_3 : w1.cell? ⟨w.heap.size, 3, none⟩ = some (.slice none 0 0) := by subst hw1; go_simp
  have c0_4 : w1.cell? ⟨w.heap.size, 4, none⟩ = some (.slice none 0 0) := by subst hw1; go_simp
  have c0_5 : w1.cell? ⟨w.heap.size, 5, none⟩ = some (.int .i64 0) := by subst hw1; go_simp
  have c0_6 : w1.cell? ⟨w.heap.size, 6, none⟩ = some (.slice none 0 0) := by subst hw1; go_simp
  have HB : Hid (Below w.heap.size w w1) := by subst hw1; exact Below.al (Below.refl _ _) _
  clear hw1
  have HF : Hid (∀ W, Below w1.heap.size w1 W → W.cell? ⟨w.heap.size, 0, none⟩ = some (.slice (some ⟨g, 0, none⟩) 1 1) ∧ W.cell? ⟨w.heap.size, 1, none⟩ = some (.slice none 0 0) ∧ W.cell? ⟨w.heap.size, 2, none⟩ = some (.slice none 0 0) ∧ W.cell? ⟨w.heap.size, 3, none⟩ = some (.slice none 0 0) ∧ W.cell? ⟨w.heap.size, 4, none⟩ = some (.slice none 0 0) ∧ W.cell? ⟨w.heap.size, 5, none⟩ = some (.int .i64 0) ∧ W.cell? ⟨w.heap.size, 6, none⟩ = some (.slice none 0 0)) := fun W h => ⟨re1 h (cell_lt c0_0) c0_0, re1 h (cell_lt c0_1) c0_1, re1 h (cell_lt c0_2) c0_2, re1 h (cell_lt c0_3) c0_3, re1 h (cell_lt c0_4) c0_4, re1 h (cell_lt c0_5) c0_5, re1 h (cell_lt c0_6) c0_6⟩
  have hg := cell_lt h0
  refine (checkPages_one g _ (Glob.below hG HB.out) (re1 HB.out hg h0) (re1 HB.out hg h1) (re1 HB.out hg h2) (re1 HB.out hg h3)).mono ?_
  rintro e w2 ⟨rfl, hb2⟩
  have HA := Lib.hid hb2
  clear hb2 h0 h1 h2 h3 hG
  try clear c0_0 c0_1 c0_2 c0_3 c0_4 c0_5 c0_6
  obtain ⟨c0_0, c0_1, c0_2, c0_3, c0_4, c0_5, c0_6⟩ := HF.out _ (HA.out)
  go_wp2_with fail
  refine (policyValidate_nil _).mono ?_
  rintro e w3 ⟨rfl, hb3⟩
  have HA3 := Lib.hid (Below.tr HA.out hb3)
  clear hb3
  try clear c0_0 c0_1 c0_2 c0_3 c0_4 c0_5 c0_6
  obtain ⟨c0_0, c0_1, c0_2, c0_3, c0_4, c0_5, c0_6⟩ := HF.out _ (HA3.out)
  go_wp2_with fail
  refine (checkGroups_nil _).mono ?_
  rintro e w4 ⟨rfl, rfl⟩
  go_wp2_with fail
  refine (checkFixed_nil _).mono ?_
  rintro e w5 ⟨rfl, hb5⟩
  go_wp2
  go_ret
  exact ⟨rfl, Below.tr HB.out (Below.tr HA3.out hb5)⟩
end Go.Proofs.YtknjnciilchgnaaGreatDoor
