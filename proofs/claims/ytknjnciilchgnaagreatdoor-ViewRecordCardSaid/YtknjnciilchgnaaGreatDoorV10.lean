/- Keys are ordered totally: the plain law. -/
import Derived.Test.YtknjnciilchgnaaGreatDoorV9
import Derived.IntWalk
namespace Go.Proofs.YtknjnciilchgnaaGreatDoor
open Go.RowKit

structure IsCmp {α : Type} (f : α → α → Int) : Prop where
  anti : ∀ a b, f a b = -f b a
  trans : ∀ a b c, f a b ≤ 0 → f b c ≤ 0 → f a c ≤ 0
def lex {α : Type} (f g : α → α → Int) (a b : α) : Int := if f a b = 0 then g a b else f a b
theorem IsCmp.lex {α : Type} {f g : α → α → Int} (hf : IsCmp f) (hg : IsCmp g) : IsCmp (lex f g) := by
  refine ⟨fun a b => ?_, fun a b c h1 h2 => ?_⟩
  · unfold Proofs.YtknjnciilchgnaaGreatDoor.lex
    have h1 := hf.anti a b
    have h2 := hg.anti a b
    by_cases h : f a b = 0
    · have h' : f b a = 0 := by omega
      rw [if_pos h, if_pos h']; exact h2
    · have h' : ¬ f b a = 0 := by omega
      rw [if_neg h, if_neg h']; exact h1
  · unfold Proofs.YtknjnciilchgnaaGreatDoor.lex at *
    have a1 := hf.anti a c
    have a2 := hf.anti b c
    have a3 := hf.anti a b
    have hab : f a b ≤ 0 := by split at h1 <;> omega
    have hbc : f b c ≤ 0 := by split at h2 <;> omega
    have hac := hf.trans a b c hab hbc
    by_cases h : f a c = 0
    · have t1 := hf.trans c a b (by omega) hab
      have t2 := hf.trans b c a hbc (by omega)
      rw [if_pos (by omega)] at h1 h2
      rw [if_pos h]
      exact hg.trans a b c h1 h2
    · rw [if_neg h]; exact hac
theorem IsCmp.on {α β : Type} {f : β → β → Int} (hf : IsCmp f) (p : α → β) : IsCmp (fun a b => f (p a) (p b)) :=
  ⟨fun _ _ => hf.anti _ _, fun _ _ _ h1 h2 => hf.trans _ _ _ h1 h2⟩
theorem cmpInt_is : IsCmp Lib.compareInt := by
  refine ⟨fun _a _b => ?_, fun _a _b _c h1 h2 => ?_⟩
  · unfold Lib.compareInt; (repeat' split) <;> omega
  · unfold Lib.compareInt at *; revert h1 h2; (repeat' split) <;> omega
theorem cb_anti : ∀ a b : List UInt8, Lib.compareBytes a b = -Lib.compareBytes b a
  | [], [] => rfl
  | [], _ :: _ => rfl
  | _ :: _, [] => rfl
  | x :: a, y :: b => by
    have h := cb_anti a b
    simp only [Lib.compareBytes, UInt8.lt_iff_toNat_lt]
    (repeat' split) <;> omega
theorem cb_trans : ∀ a b c : List UInt8, Lib.compareBytes a b ≤ 0 → Lib.compareBytes b c ≤ 0 → Lib.compareBytes a c ≤ 0
  | [], _, [], _, _ => by simp [Lib.compareBytes]
  | [], _, _ :: _, _, _ => by simp [Lib.compareBytes]
  | _ :: _, [], _, h, _ => by simp [Lib.compareBytes] at h
  | _ :: _, _ :: _, [], _, h => by simp [Lib.compareBytes] at h
  | x :: a, y :: b, z :: c, h1, h2 => by
    have h := cb_trans a b c
    simp only [Lib.compareBytes, UInt8.lt_iff_toNat_lt] at *
    revert h1 h2
    (repeat' split) <;> omega
theorem cb_eq : ∀ a b : List UInt8, Lib.compareBytes a b = 0 → a = b
  | [], [], _ => rfl
  | [], _ :: _, h => by simp [Lib.compareBytes] at h
  | _ :: _, [], h => by simp [Lib.compareBytes] at h
  | x :: a, y :: b, h => by
    have ih := cb_eq a b
    simp only [Lib.compareBytes, UInt8.lt_iff_toNat_lt] at h
    have hxy : x.toNat = y.toNat := by
      revert h
      (repeat' split) <;> omega
    rw [if_neg (by omega), if_neg (by omega)] at h
    rw [ih h, UInt8.toNat_inj.1 hxy]
theorem cb_bound (a b : List UInt8) : -1 ≤ Lib.compareBytes a b ∧ Lib.compareBytes a b ≤ 1 := by
  rw [cb_spec]
  (repeat' split) <;> omega
theorem titleCmp_lex : Title.cmp = lex (fun a b => Lib.compareInt a.space b.space) (fun a b => Lib.compareBytes a.name.data.toList b.name.data.toList) := by
  funext a b
  simp only [Title.cmp, orI, lex]
  split
  · split <;> simp_all
  · rfl
theorem titleCmp_is : IsCmp Title.cmp := by
  rw [titleCmp_lex]
  exact (cmpInt_is.on _).lex (IsCmp.on ⟨cb_anti, cb_trans⟩ fun t : Title => t.name.data.toList)
theorem keyCmp_lex : Key.cmp = lex (fun a b => Lib.compareInt a.kind b.kind) (lex (fun a b => Title.cmp a.title b.title) (fun a b => Lib.compareInt a.n b.n)) := by
  funext a b
  simp only [Key.cmp, orI, lex]
  (repeat' split) <;> simp_all
theorem keyCmp_is : IsCmp Key.cmp := by
  rw [keyCmp_lex]
  exact (cmpInt_is.on _).lex ((titleCmp_is.on _).lex (cmpInt_is.on _))
theorem ci_eq {a b : Int} (h : Lib.compareInt a b = 0) : a = b := by
  unfold Lib.compareInt at h
  revert h
  (repeat' split) <;> omega
theorem ci_self (a : Int) : Lib.compareInt a a = 0 := by simp [Lib.compareInt]
theorem ci_bound (a b : Int) : -1 ≤ Lib.compareInt a b ∧ Lib.compareInt a b ≤ 1 := by
  unfold Lib.compareInt
  (repeat' split) <;> omega
theorem cb_self (a : List UInt8) : Lib.compareBytes a a = 0 := by
  have := cb_anti a a
  omega
theorem bytes_eq {a b : ByteArray} (h : a.data.toList = b.data.toList) : a = b := ByteArray.ext (Array.toList_inj.1 h)
theorem titleCmp_zero (a b : Title) : Title.cmp a b = 0 ↔ a = b := by
  constructor
  · intro h
    rw [titleCmp_lex] at h
    unfold lex at h
    split at h
    · rename_i h1
      obtain ⟨s, n⟩ := a
      obtain ⟨s', n'⟩ := b
      obtain rfl := ci_eq h1
      obtain rfl := bytes_eq (cb_eq _ _ h)
      rfl
    · rename_i h1; exact absurd h h1
  · rintro rfl
    simp [Title.cmp, orI, ci_self, cb_self]
theorem keyCmp_zero (a b : Key) : Key.cmp a b = 0 ↔ a = b := by
  constructor
  · intro h
    rw [keyCmp_lex] at h
    unfold lex at h
    split at h
    · rename_i h1
      split at h
      · rename_i h2
        obtain ⟨s, n, m⟩ := a
        obtain ⟨s', n', m'⟩ := b
        obtain rfl := ci_eq h1
        obtain rfl := (titleCmp_zero _ _).1 h2
        obtain rfl := ci_eq h
        rfl
      · rename_i h2; exact absurd h h2
    · rename_i h1; exact absurd h h1
  · rintro rfl
    simp [Key.cmp, orI, ci_self, (titleCmp_zero _ _).2 rfl]
theorem titleCmp_bound (a b : Title) : -1 ≤ Title.cmp a b ∧ Title.cmp a b ≤ 1 := by
  rw [titleCmp_lex]
  unfold lex
  split
  · exact cb_bound _ _
  · exact ci_bound _ _
theorem keyCmp_bound (a b : Key) : -1 ≤ Key.cmp a b ∧ Key.cmp a b ≤ 1 := by
  rw [keyCmp_lex]
  unfold lex
  split
  · split
    · exact ci_bound _ _
    · exact titleCmp_bound _ _
  · exact ci_bound _ _
set_option maxRecDepth 100000 in
set_option maxHeartbeats 2000000 in
theorem viewCompare_any (a b c : Key) (w : World) (hG : Glob w) : Calls Tryz.prog 3 #[.agg #[.int .i64 a.kind, .int .i64 a.title.space, .string a.title.name, .int .i64 a.n], .agg #[.int .i64 b.kind, .int .i64 b.title.space, .string b.title.name, .int .i64 b.n], .agg #[.int .i64 c.kind, .int .i64 c.title.space, .string c.title.name, .int .i64 c.n]] w fun e w' => e = .returned (.bool true) ∧ Below w.heap.size w w' := by
  obtain ⟨h1, h1'⟩ := keyCmp_bound b a
  have h2 : (Key.cmp a b != -Key.cmp b a) = false := by rw [bne_eq_false_iff_eq]; exact keyCmp_is.anti a b
  have h3 : ((Key.cmp a b == 0) == decide (a = b)) = true := by
    rw [beq_iff_eq, Bool.eq_iff_iff, beq_iff_eq, decide_eq_true_eq]
    exact keyCmp_zero a b
  have ke := keyEql a b
  have hw : IntKind.i64.wrap (-Key.cmp b a) = -Key.cmp b a := IntWalk.i64_in _ (by omega)
  go_enter Tryz.func3, Tryz.ntmps3
  go_wp2
  generalize hw1 : ((w.alloc _).alloc _).alloc _ = w1
  have c0_0 : w1.cell? ⟨w.heap.size, 0, none⟩ = some (.int .i64 a.kind) := by subst hw1; go_simp
  have c0_1 : w1.cell? ⟨w.heap.size, 1, none⟩ = some (.int .i64 a.title.space) := by subst hw1; go_simp
  have c0_2 : w1.cell? ⟨w.heap.size, 2, none⟩ = some (.string a.title.name) := by subst hw1; go_simp
  have c0_3 : w1.cell? ⟨w.heap.size, 3, none⟩ = some (.int .i64 a.n) := by subst hw1; go_simp
  have c1_0 : w1.cell? ⟨w.heap.size + 1, 0, none⟩ = some (.int .i64 b.kind) := by subst hw1; go_simp
  have c1_1 : w1.cell? ⟨w.heap.size + 1, 1, none⟩ = some (.int .i64 b.title.space) := by subst hw1; go_simp
  have c1_2 : w1.cell? ⟨w.heap.size + 1, 2, none⟩ = some (.string b.title.name) := by subst hw1; go_simp
  have c1_3 : w1.cell? ⟨w.heap.size + 1, 3, none⟩ = some (.int .i64 b.n) := by subst hw1; go_simp
  have c2_0 : w1.cell? ⟨w.heap.size + 1 + 1, 0, none⟩ = some (.int .i64 c.kind) := by subst hw1; go_simp
  have c2_1 : w1.cell? ⟨w.heap.size + 1 + 1, 1, none⟩ = some (.int .i64 c.title.space) := by subst hw1; go_simp
  have c2_2 : w1.cell? ⟨w.heap.size + 1 + 1, 2, none⟩ = some (.string c.title.name) := by subst hw1; go_simp
  have c2_3 : w1.cell? ⟨w.heap.size + 1 + 1, 3, none⟩ = some (.int .i64 c.n) := by subst hw1; go_simp
  have HB : Hid (Below w.heap.size w w1) := by subst hw1; exact Below.al (Below.al (Below.al (Below.refl _ _) _) _) _
  clear hw1
  have HF : Hid (∀ W, Below w1.heap.size w1 W → W.cell? ⟨w.heap.size, 0, none⟩ = some (.int .i64 a.kind) ∧ W.cell? ⟨w.heap.size, 1, none⟩ = some (.int .i64 a.title.space) ∧ W.cell? ⟨w.heap.size, 2, none⟩ = some (.string a.title.name) ∧ W.cell? ⟨w.heap.size, 3, none⟩ = some (.int .i64 a.n) ∧ W.cell? ⟨w.heap.size + 1, 0, none⟩ = some (.int .i64 b.kind) ∧ W.cell? ⟨w.heap.size + 1, 1, none⟩ = some (.int .i64 b.title.space) ∧ W.cell? ⟨w.heap.size + 1, 2, none⟩ = some (.string b.title.name) ∧ W.cell? ⟨w.heap.size + 1, 3, none⟩ = some (.int .i64 b.n) ∧ W.cell? ⟨w.heap.size + 1 + 1, 0, none⟩ = some (.int .i64 c.kind) ∧ W.cell? ⟨w.heap.size + 1 + 1, 1, none⟩ = some (.int .i64 c.title.space) ∧ W.cell? ⟨w.heap.size + 1 + 1, 2, none⟩ = some (.string c.title.name) ∧ W.cell? ⟨w.heap.size + 1 + 1, 3, none⟩ = some (.int .i64 c.n)) := fun W h => ⟨re1 h (cell_lt c0_0) c0_0, re1 h (cell_lt c0_1) c0_1, re1 h (cell_lt c0_2) c0_2, re1 h (cell_lt c0_3) c0_3, re1 h (cell_lt c1_0) c1_0, re1 h (cell_lt c1_1) c1_1, re1 h (cell_lt c1_2) c1_2, re1 h (cell_lt c1_3) c1_3, re1 h (cell_lt c2_0) c2_0, re1 h (cell_lt c2_1) c2_1, re1 h (cell_lt c2_2) c2_2, re1 h (cell_lt c2_3) c2_3⟩
  go_region_held3 (fun W => Below w1.heap.size w1 W ∧ W.cell? ⟨w.heap.size, 0, none⟩ = some (.int .i64 a.kind) ∧ W.cell? ⟨w.heap.size, 1, none⟩ = some (.int .i64 a.title.space) ∧ W.cell? ⟨w.heap.size, 2, none⟩ = some (.string a.title.name) ∧ W.cell? ⟨w.heap.size, 3, none⟩ = some (.int .i64 a.n) ∧ W.cell? ⟨w.heap.size + 1, 0, none⟩ = some (.int .i64 b.kind) ∧ W.cell? ⟨w.heap.size + 1, 1, none⟩ = some (.int .i64 b.title.space) ∧ W.cell? ⟨w.heap.size + 1, 2, none⟩ = some (.string b.title.name) ∧ W.cell? ⟨w.heap.size + 1, 3, none⟩ = some (.int .i64 b.n) ∧ W.cell? ⟨w.heap.size + 1 + 1, 0, none⟩ = some (.int .i64 c.kind) ∧ W.cell? ⟨w.heap.size + 1 + 1, 1, none⟩ = some (.int .i64 c.title.space) ∧ W.cell? ⟨w.heap.size + 1 + 1, 2, none⟩ = some (.string c.title.name) ∧ W.cell? ⟨w.heap.size + 1 + 1, 3, none⟩ = some (.int .i64 c.n)) (refine ⟨?_, HF.out _ ?_⟩ <;> (repeat (first | assumption | exact Below.refl _ _ | refine Below.drew ?_ | refine Below.al ?_ _))) (first | (go_at_call 5; refine (keyCompare_any _ _ _).mono ?_; rintro e w2 ⟨rfl, hb2⟩; have hb3 : Below w1.heap.size w1 w2 := Below.tr (by (repeat (first | assumption | exact Below.refl _ _ | refine Below.drew ?_ | refine Below.al ?_ _))) hb2) | (go_at_call 6; refine (refKeyCompare_any _ _ _).mono ?_; rintro e w2 ⟨rfl, hb2⟩; have hb3 : Below w1.heap.size w1 w2 := Below.tr (by (repeat (first | assumption | exact Below.refl _ _ | refine Below.drew ?_ | refine Below.al ?_ _))) hb2))
  clear h1 h1' h2 h3 hw ke
  have HA := Lib.hid hb3
  clear hb3
  try clear c0_0 c0_1 c0_2 c0_3 c1_0 c1_1 c1_2 c1_3 c2_0 c2_1 c2_2 c2_3
  obtain ⟨c0_0, c0_1, c0_2, c0_3, c1_0, c1_1, c1_2, c1_3, c2_0, c2_1, c2_2, c2_3⟩ := HF.out _ (HA.out)
  have h4 : 0 < Key.cmp a b ∨ (Key.cmp a b ≤ 0 ∧ (0 < Key.cmp b c ∨ (Key.cmp b c ≤ 0 ∧ Key.cmp a c ≤ 0))) := by
    have := keyCmp_is.trans a b c
    omega
  clear hb2
  rcases h4 with h4 | ⟨h4, h5 | ⟨h5, h6⟩⟩
  · go_wp2_with fail
    refine (keyCompare_any a b _).mono ?_
    rintro e w3 ⟨rfl, hb3⟩
    have HA1 := Lib.hid (Below.tr HA.out hb3)
    clear hb3
    try clear c0_0 c0_1 c0_2 c0_3 c1_0 c1_1 c1_2 c1_3 c2_0 c2_1 c2_2 c2_3
    obtain ⟨c0_0, c0_1, c0_2, c0_3, c1_0, c1_1, c1_2, c1_3, c2_0, c2_1, c2_2, c2_3⟩ := HF.out _ (HA1.out)
    go_wp2_with fail
    refine (known_any _ (Glob.below hG (Below.tr HB.out HA1.out))).mono ?_
    rintro e w4 ⟨rfl, hb4⟩
    go_wp2
    go_ret
    exact ⟨rfl, Below.tr HB.out (Below.tr HA1.out hb4)⟩
  · go_wp2_with fail
    refine (keyCompare_any a b _).mono ?_
    rintro e w3 ⟨rfl, hb3⟩
    have HA1 := Lib.hid (Below.tr HA.out hb3)
    clear hb3
    try clear c0_0 c0_1 c0_2 c0_3 c1_0 c1_1 c1_2 c1_3 c2_0 c2_1 c2_2 c2_3
    obtain ⟨c0_0, c0_1, c0_2, c0_3, c1_0, c1_1, c1_2, c1_3, c2_0, c2_1, c2_2, c2_3⟩ := HF.out _ (HA1.out)
    go_wp2_with fail
    refine (keyCompare_any b c _).mono ?_
    rintro e w3 ⟨rfl, hb3⟩
    have HA2 := Lib.hid (Below.tr HA1.out hb3)
    clear hb3
    try clear c0_0 c0_1 c0_2 c0_3 c1_0 c1_1 c1_2 c1_3 c2_0 c2_1 c2_2 c2_3
    obtain ⟨c0_0, c0_1, c0_2, c0_3, c1_0, c1_1, c1_2, c1_3, c2_0, c2_1, c2_2, c2_3⟩ := HF.out _ (HA2.out)
    go_wp2_with fail
    refine (known_any _ (Glob.below hG (Below.tr HB.out HA2.out))).mono ?_
    rintro e w4 ⟨rfl, hb4⟩
    go_wp2
    go_ret
    exact ⟨rfl, Below.tr HB.out (Below.tr HA2.out hb4)⟩
  · go_wp2_with fail
    refine (keyCompare_any a b _).mono ?_
    rintro e w3 ⟨rfl, hb3⟩
    have HA1 := Lib.hid (Below.tr HA.out hb3)
    clear hb3
    try clear c0_0 c0_1 c0_2 c0_3 c1_0 c1_1 c1_2 c1_3 c2_0 c2_1 c2_2 c2_3
    obtain ⟨c0_0, c0_1, c0_2, c0_3, c1_0, c1_1, c1_2, c1_3, c2_0, c2_1, c2_2, c2_3⟩ := HF.out _ (HA1.out)
    go_wp2_with fail
    refine (keyCompare_any b c _).mono ?_
    rintro e w3 ⟨rfl, hb3⟩
    have HA2 := Lib.hid (Below.tr HA1.out hb3)
    clear hb3
    try clear c0_0 c0_1 c0_2 c0_3 c1_0 c1_1 c1_2 c1_3 c2_0 c2_1 c2_2 c2_3
    obtain ⟨c0_0, c0_1, c0_2, c0_3, c1_0, c1_1, c1_2, c1_3, c2_0, c2_1, c2_2, c2_3⟩ := HF.out _ (HA2.out)
    go_wp2_with fail
    refine (keyCompare_any a c _).mono ?_
    rintro e w3 ⟨rfl, hb3⟩
    have HA3 := Lib.hid (Below.tr HA2.out hb3)
    clear hb3
    try clear c0_0 c0_1 c0_2 c0_3 c1_0 c1_1 c1_2 c1_3 c2_0 c2_1 c2_2 c2_3
    obtain ⟨c0_0, c0_1, c0_2, c0_3, c1_0, c1_1, c1_2, c1_3, c2_0, c2_1, c2_2, c2_3⟩ := HF.out _ (HA3.out)
    go_wp2_with fail
    refine (known_any _ (Glob.below hG (Below.tr HB.out HA3.out))).mono ?_
    rintro e w4 ⟨rfl, hb4⟩
    go_wp2
    go_ret
    exact ⟨rfl, Below.tr HB.out (Below.tr HA3.out hb4)⟩
end Go.Proofs.YtknjnciilchgnaaGreatDoor
