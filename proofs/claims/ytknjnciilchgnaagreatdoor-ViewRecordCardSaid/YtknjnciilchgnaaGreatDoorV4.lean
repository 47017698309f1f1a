/- Titles: the words ahead of a colon that name a namespace. -/
import Derived.Test.YtknjnciilchgnaaGreatDoorV3
namespace Go.Proofs.YtknjnciilchgnaaGreatDoor
open Go.RowKit

/-- What the library's own variable holds: some integer. -/
def Glob (w : World) : Prop := ∃ m, w.cell? ⟨0, 0, none⟩ = some (.int .i64 m)
theorem Glob.below {a w : World} (h : Glob a) (hb : Below a.heap.size a w) : Glob w := h.imp fun _ hm => re1 hb (cell_lt hm) hm

theorem cut_le (s sep : List UInt8) : (Lib.cut s sep).1.length ≤ s.length := by
  unfold Lib.cut
  split
  · simp; omega
  · exact Nat.le_refl _
theorem trimSuffix_le (s p : List UInt8) : (Lib.trimSuffix s p).length ≤ s.length := by
  unfold Lib.trimSuffix
  split
  · rw [List.length_take]; omega
  · exact Nat.le_refl _
def spaceOf (n : List UInt8) : Int :=
  if n = [116, 97, 108, 107] then 1 else if n = [117, 115, 101, 114] then 2 else if n = [116, 101, 109, 112, 108, 97, 116, 101] then 3 else if n = [99, 97, 116, 101, 103, 111, 114, 121] then 4 else if n = [112, 114, 111, 106, 101, 99, 116] then 5 else 0
/-- The namespace that a text names ahead of its first colon, and what is behind it. -/
def prefixL (s : List UInt8) : Option (Int × List UInt8) :=
  if (Lib.cut s [58]).2.2 = true ∧ spaceOf (foldL (Lib.trimSuffix (Lib.cut s [58]).1 [32])) ≠ 0 then some (spaceOf (foldL (Lib.trimSuffix (Lib.cut s [58]).1 [32])), (Lib.cut s [58]).2.1) else none
def prefixV (s : List UInt8) : Value := match prefixL s with
  | some (n, r) => .tuple #[.int .i64 n, .string ⟨r.toArray⟩, .bool true]
  | none => .tuple #[.int .i64 0, .string ⟨#[]⟩, .bool false]
set_option maxHeartbeats 400000 in
theorem spaces_any (w : World) : Calls Tryz.prog 64 #[] w fun e w' => e = .returned (.agg #[.string ⟨#[]⟩, .string ⟨#[84, 97, 108, 107]⟩, .string ⟨#[85, 115, 101, 114]⟩, .string ⟨#[84, 101, 109, 112, 108, 97, 116, 101]⟩, .string ⟨#[67, 97, 116, 101, 103, 111, 114, 121]⟩, .string ⟨#[80, 114, 111, 106, 101, 99, 116]⟩]) ∧ Below w.heap.size w w' := by
  go_enter Tryz.func64, Tryz.ntmps64
  go_wp2
  exact bodyPost_ret (v := .agg #[.string ⟨#[]⟩, .string ⟨#[84, 97, 108, 107]⟩, .string ⟨#[85, 115, 101, 114]⟩, .string ⟨#[84, 101, 109, 112, 108, 97, 116, 101]⟩, .string ⟨#[67, 97, 116, 101, 103, 111, 114, 121]⟩, .string ⟨#[80, 114, 111, 106, 101, 99, 116]⟩]) (by simp [results, Tryz.results64, go_sem]) rfl ⟨rfl, Below.al (Below.refl _ _) _⟩
def spaceName (q : Nat) : List UInt8 := match q with | 1 => [116, 97, 108, 107] | 2 => [117, 115, 101, 114] | 3 => [116, 101, 109, 112, 108, 97, 116, 101] | 4 => [99, 97, 116, 101, 103, 111, 114, 121] | 5 => [112, 114, 111, 106, 101, 99, 116] | _ => []
theorem spaceOf_none (n : List UInt8) (h : ∀ j, 1 ≤ j → j < 6 → n ≠ spaceName j) : spaceOf n = 0 := by
  have h1 := h 1 (by decide) (by decide)
  have h2 := h 2 (by decide) (by decide)
  have h3 := h 3 (by decide) (by decide)
  have h4 := h 4 (by decide) (by decide)
  have h5 := h 5 (by decide) (by decide)
  simp only [spaceName] at h1 h2 h3 h4 h5
  simp only [spaceOf, h1, h2, h3, h4, h5, if_false]
theorem spaceOf_some (j : Nat) (h1 : 1 ≤ j) (h6 : j < 6) : spaceOf (spaceName j) = j := by
  obtain rfl | rfl | rfl | rfl | rfl : j = 1 ∨ j = 2 ∨ j = 3 ∨ j = 4 ∨ j = 5 := by omega
  all_goals decide
set_option maxRecDepth 100000 in
set_option maxHeartbeats 1000000 in
theorem prefix_any (s : ByteArray) (w : World) (hs : s.size < 4294967281) (hG : Glob w) : Calls Tryz.prog 51 #[.string s] w fun e w' => e = .returned (prefixV s.data.toList) ∧ Below w.heap.size w w' := by
  obtain ⟨m, hm⟩ := hG
  have HF : Hid (prefixV s.data.toList = match prefixL s.data.toList with
    | some (n, r) => .tuple #[.int .i64 n, .string ⟨r.toArray⟩, .bool true]
    | none => .tuple #[.int .i64 0, .string ⟨#[]⟩, .bool false]) := Lib.hid rfl
  unfold prefixL at HF
  have hl1 : (Lib.cut s.data.toList [58]).1.length ≤ s.data.toList.length := cut_le _ _
  go_enter Tryz.func51, Tryz.ntmps51
  go_wp2_with fail
  refine (Tryz.strings_Cut s _ m _ hs hm).mono ?_
  rintro e w1 ⟨rfl, n1, rfl⟩
  rw [show (⟨#[58]⟩ : ByteArray).data.toList = [58] from rfl]
  generalize Lib.cut s.data.toList [58] = C at *
  obtain ⟨b, a, ok⟩ := C
  cases ok
  · go_wp2
    go_ret3
    exact ⟨by rw [HF.out]; simp, below_drewN (Below.refl _ _) _⟩
  · go_wp2_with fail
    refine (Tryz.strings_TrimSuffix _ _ _ (by have := s.data.toList.length; simp only [ByteArray.size, Array.length_toList, List.size_toArray] at hl1 hs ⊢; omega)).mono ?_
    rintro e w1 ⟨rfl, rfl⟩
    go_wp2_with fail
    refine (fold_any _ _ (by have h2 := trimSuffix_le b [32]; simp only [ByteArray.size, Array.length_toList, List.size_toArray] at hl1 hs h2 ⊢; omega)).mono ?_
    rintro e w1 ⟨rfl, hb1⟩
    go_wp2_with fail
    refine (spaces_any _).mono ?_
    rintro e w2 ⟨rfl, hb2⟩
    have HB := Lib.hid (Below.tr (Below.tr (below_drewN (Below.refl _ _) _) hb1) hb2)
    clear hb1 hb2 hm hs hl1
    generalize foldL (Lib.trimSuffix b [32]) = N at *
    simp only [true_and] at HF
    go_wp2_with fail
    go_loopw [23] (fun i wr => ∃ z : Int, 0 ≤ z ∧ z ≤ 6 ∧ i = .int .i64 z ∧ Below w2.heap.size w2 wr ∧ Hid (∀ j : Nat, 1 ≤ j → (j : Int) < z → N ≠ spaceName j)) (fun i _ => 6 - (intOf i).toNat)
    case atStart => exact ⟨0, by omega, by omega, rfl, Below.refl _ _, fun j _ h => absurd h (by omega)⟩
    case round =>
      obtain ⟨z, hz0, hz6, rfl, hbw, hno⟩ := hrel
      have HQ := Lib.hid hbw
      clear hbw
      by_cases h6 : z = 6
      · subst h6
        have hz : spaceOf N = 0 := spaceOf_none N fun j h1 h2 => hno.out j h1 (by omega)
        rw [hz] at HF
        clear hz
        go_wp2
        go_ret3
        exact ⟨by rw [HF.out]; simp, Below.tr HB.out HQ.out⟩
      · have hq6 : z = 0 ∨ z = 1 ∨ z = 2 ∨ z = 3 ∨ z = 4 ∨ z = 5 := by omega
        clear h6 hz0 hz6
        have ix : ∀ w (z : Int) (x : Value), (#[Value.string { data := #[] }, Value.string { data := #[84, 97, 108, 107] }, Value.string { data := #[85, 115, 101, 114] }, Value.string { data := #[84, 101, 109, 112, 108, 97, 116, 101] }, Value.string { data := #[67, 97, 116, 101, 103, 111, 114, 121] }, Value.string { data := #[80, 114, 111, 106, 101, 99, 116] }] : Array Value)[z.toNat]? = some x → 0 ≤ z → z < 6 →
          (Instr.index 131 (.agg #[Value.string { data := #[] }, Value.string { data := #[84, 97, 108, 107] }, Value.string { data := #[85, 115, 101, 114] }, Value.string { data := #[84, 101, 109, 112, 108, 97, 116, 101] }, Value.string { data := #[67, 97, 116, 101, 103, 111, 114, 121] }, Value.string { data := #[80, 114, 111, 106, 101, 99, 116] }]) (.int .i64 z)).run Tryz.prog w = .ok x w := by
          intro w z x h h0 h6
          obtain rfl | rfl | rfl | rfl | rfl | rfl : z = 0 ∨ z = 1 ∨ z = 2 ∨ z = 3 ∨ z = 4 ∨ z = 5 := by omega
          all_goals
            (simp at h; subst h; kernel_rfl)
        rcases hq6 with rfl | rfl | rfl | rfl | rfl | rfl
        · have i0 := fun w => ix w 0 _ rfl (by decide) (by decide)
          clear ix
          go_wp2
          go_roundw
          case rel => exact ⟨1, by omega, by omega, rfl, HQ.out, fun j h1 h2 => absurd h2 (by omega)⟩
          case measure => simp [intOf]
        · have i0 := fun w => ix w 1 _ rfl (by decide) (by decide)
          clear ix
          go_wp2_with (go_at_call 84; refine (fold_any _ _ (by decide)).mono ?_; rintro e w5 ⟨rfl, hb5⟩)
          · have h : (N == foldL [84, 97, 108, 107]) = true := by assumption
            have hN : N = spaceName 1 := (beq_iff_eq.1 h).trans (by decide)
            have hz : spaceOf N = 1 := by rw [hN]; decide
            go_ret3
            exact ⟨by rw [HF.out, hz]; simp, Below.tr HB.out (Below.tr HQ.out hb5)⟩
          · go_roundw
            case rel =>
              have h : (N == foldL [84, 97, 108, 107]) = false := by assumption
              have hN : N ≠ spaceName 1 := fun e => beq_eq_false_iff_ne.1 h (e.trans (by decide))
              refine ⟨1 + 1, by omega, by omega, rfl, Below.tr HQ.out hb5, fun j h1 h2 => ?_⟩
              rcases Nat.lt_or_ge j 1 with hj | hj
              · exact hno.out j h1 (by omega)
              · obtain rfl : j = 1 := by omega
                exact hN
            case measure => simp [intOf]
        · have i0 := fun w => ix w 2 _ rfl (by decide) (by decide)
          clear ix
          go_wp2_with (go_at_call 84; refine (fold_any _ _ (by decide)).mono ?_; rintro e w5 ⟨rfl, hb5⟩)
          · have h : (N == foldL [85, 115, 101, 114]) = true := by assumption
            have hN : N = spaceName 2 := (beq_iff_eq.1 h).trans (by decide)
            have hz : spaceOf N = 2 := by rw [hN]; decide
            go_ret3
            exact ⟨by rw [HF.out, hz]; simp, Below.tr HB.out (Below.tr HQ.out hb5)⟩
          · go_roundw
            case rel =>
              have h : (N == foldL [85, 115, 101, 114]) = false := by assumption
              have hN : N ≠ spaceName 2 := fun e => beq_eq_false_iff_ne.1 h (e.trans (by decide))
              refine ⟨2 + 1, by omega, by omega, rfl, Below.tr HQ.out hb5, fun j h1 h2 => ?_⟩
              rcases Nat.lt_or_ge j 2 with hj | hj
              · exact hno.out j h1 (by omega)
              · obtain rfl : j = 2 := by omega
                exact hN
            case measure => simp [intOf]
        · have i0 := fun w => ix w 3 _ rfl (by decide) (by decide)
          clear ix
          go_wp2_with (go_at_call 84; refine (fold_any _ _ (by decide)).mono ?_; rintro e w5 ⟨rfl, hb5⟩)
          · have h : (N == foldL [84, 101, 109, 112, 108, 97, 116, 101]) = true := by assumption
            have hN : N = spaceName 3 := (beq_iff_eq.1 h).trans (by decide)
            have hz : spaceOf N = 3 := by rw [hN]; decide
            go_ret3
            exact ⟨by rw [HF.out, hz]; simp, Below.tr HB.out (Below.tr HQ.out hb5)⟩
          · go_roundw
            case rel =>
              have h : (N == foldL [84, 101, 109, 112, 108, 97, 116, 101]) = false := by assumption
              have hN : N ≠ spaceName 3 := fun e => beq_eq_false_iff_ne.1 h (e.trans (by decide))
              refine ⟨3 + 1, by omega, by omega, rfl, Below.tr HQ.out hb5, fun j h1 h2 => ?_⟩
              rcases Nat.lt_or_ge j 3 with hj | hj
              · exact hno.out j h1 (by omega)
              · obtain rfl : j = 3 := by omega
                exact hN
            case measure => simp [intOf]
        · have i0 := fun w => ix w 4 _ rfl (by decide) (by decide)
          clear ix
          go_wp2_with (go_at_call 84; refine (fold_any _ _ (by decide)).mono ?_; rintro e w5 ⟨rfl, hb5⟩)
          · have h : (N == foldL [67, 97, 116, 101, 103, 111, 114, 121]) = true := by assumption
            have hN : N = spaceName 4 := (beq_iff_eq.1 h).trans (by decide)
            have hz : spaceOf N = 4 := by rw [hN]; decide
            go_ret3
            exact ⟨by rw [HF.out, hz]; simp, Below.tr HB.out (Below.tr HQ.out hb5)⟩
          · go_roundw
            case rel =>
              have h : (N == foldL [67, 97, 116, 101, 103, 111, 114, 121]) = false := by assumption
              have hN : N ≠ spaceName 4 := fun e => beq_eq_false_iff_ne.1 h (e.trans (by decide))
              refine ⟨4 + 1, by omega, by omega, rfl, Below.tr HQ.out hb5, fun j h1 h2 => ?_⟩
              rcases Nat.lt_or_ge j 4 with hj | hj
              · exact hno.out j h1 (by omega)
              · obtain rfl : j = 4 := by omega
                exact hN
            case measure => simp [intOf]
        · have i0 := fun w => ix w 5 _ rfl (by decide) (by decide)
          clear ix
          go_wp2_with (go_at_call 84; refine (fold_any _ _ (by decide)).mono ?_; rintro e w5 ⟨rfl, hb5⟩)
          · have h : (N == foldL [80, 114, 111, 106, 101, 99, 116]) = true := by assumption
            have hN : N = spaceName 5 := (beq_iff_eq.1 h).trans (by decide)
            have hz : spaceOf N = 5 := by rw [hN]; decide
            go_ret3
            exact ⟨by rw [HF.out, hz]; simp, Below.tr HB.out (Below.tr HQ.out hb5)⟩
          · go_roundw
            case rel =>
              have h : (N == foldL [80, 114, 111, 106, 101, 99, 116]) = false := by assumption
              have hN : N ≠ spaceName 5 := fun e => beq_eq_false_iff_ne.1 h (e.trans (by decide))
              refine ⟨5 + 1, by omega, by omega, rfl, Below.tr HQ.out hb5, fun j h1 h2 => ?_⟩
              rcases Nat.lt_or_ge j 5 with hj | hj
              · exact hno.out j h1 (by omega)
              · obtain rfl : j = 5 := by omega
                exact hN
            case measure => simp [intOf]
end Go.Proofs.YtknjnciilchgnaaGreatDoor
