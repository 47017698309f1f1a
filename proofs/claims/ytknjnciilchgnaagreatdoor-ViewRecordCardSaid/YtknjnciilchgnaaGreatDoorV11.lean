/- Recording answers: a list that keeps the first answer to each key. -/
import Derived.Test.YtknjnciilchgnaaGreatDoorV10
import Derived.Test.YtknjnciilchgnaaGreatDoorK2
namespace Go.Proofs.YtknjnciilchgnaaGreatDoor
open Go.RowKit

theorem okAsked : ElemOK Tryz.prog 29 34 7 72 := elemOK Tryz.underlying29 (by kernel_rfl)
theorem below_grown {a w w' : World} {v : Value} (h : Below a.heap.size a w) (hg : w.grownBy w' v.ownBlock) (hv : ∀ b, v.ownBlock = some b → a.heap.size ≤ b) : Below a.heap.size a w' := h.grown hg h.size hv
set_option maxRecDepth 100000 in
set_option maxHeartbeats 1000000 in
theorem clone_any (A : Option Addr) (n c : Nat) (xs : List Asked) (w : World) (hS : SlR w A n c xs) (hb : n ≤ 1000000) : Calls Tryz.prog 18 #[.slice A n c] w fun e w' => ∃ v, e = .returned v ∧ OwnL w' w.heap.size 34 v xs ∧ Below w.heap.size w w' := by
  have hnil := fun W => Lib.run_eql_slice_nil (P := Tryz.prog) W 29 34 A n c 0 0 Tryz.underlying29
  rcases A with _ | a
  · obtain rfl : xs = [] := by
      rcases Nat.eq_zero_or_pos n with h | h
      · exact List.eq_nil_of_length_eq_zero (by rw [← hS.1]; exact h)
      · obtain ⟨b, off, css, h, _⟩ := hS.2.2.2 h
        cases h
    have HS := Lib.hid hS
    clear hS
    go_enter Tryz.func18, Tryz.ntmps18
    go_wp2
    go_ret
    exact ⟨_, rfl, OwnL.nil _ _ _, Below.refl _ _⟩
  · have HS := Lib.hid hS
    clear hS
    go_enter Tryz.func18, Tryz.ntmps18
    have hln : n = xs.length := HS.out.1
    have HLN := Lib.hid hln
    clear hln
    have b1 : ([] : List Asked).length + n ≤ maxLen := by unfold maxLen; simp; omega
    have b2 : (([] : List Asked).length + n) * 72 ≤ 140737488355328 := by simp; omega
    have B1 := Lib.hid b1
    have B2 := Lib.hid b2
    clear b1 b2
    go_wp2_with (at_builtin; refine wpList_append_L rfl _ _ 29 rfl okAsked (by decide) (B := w.heap.size) (xs := ([] : List Asked)) rfl (OwnL.built0 _ _) rfl (SlS.mono (Below.al (Below.refl _ _) _) HS.out) (fun _ _ _ h => h) B1.out B2.out (by simp) ?_; intro v' w' hown hg hv')
    go_ret
    exact ⟨_, rfl, hown, below_grown (v := .slice (some ⟨w.heap.size, 0, none⟩) 0 0) (Below.al (Below.refl _ _) _) hg (fun b hb => by simp [Value.ownBlock] at hb; omega)⟩
def recordL (xs : List Asked) (k : Key) (a : Answer) : List Asked := if (findA xs k).isSome then xs else xs ++ [⟨k, a⟩]
def askedCells (x : Asked) : List Value := [.int .i64 x.key.kind, .int .i64 x.key.title.space, .string x.key.title.name, .int .i64 x.key.n, .bool x.answer.ok, .string x.answer.text, .int .i64 x.answer.n]
set_option maxRecDepth 100000 in
set_option maxHeartbeats 1000000 in
theorem record_any (A : Option Addr) (n c : Nat) (xs : List Asked) (k : Key) (a : Answer) (w : World) (hS : SlR w A n c xs) (hb : n ≤ 1000000) :
    Calls Tryz.prog 8 #[.slice A n c, .agg #[.int .i64 k.kind, .int .i64 k.title.space, .string k.title.name, .int .i64 k.n], .agg #[.bool a.ok, .string a.text, .int .i64 a.n]] w fun e w' => ∃ v, e = .returned v ∧ OwnL w' w.heap.size 34 v (recordL xs k a) ∧ Below w.heap.size w w' := by
  have HN := Lib.hid hS.1
  go_enter Tryz.func8, Tryz.ntmps8
  go_wp2_with fail
  generalize hw1 : (w.alloc _).alloc _ = w1
  have c0_0 : w1.cell? ⟨w.heap.size, 0, none⟩ = some (.int .i64 k.kind) := by subst hw1; go_simp
  have c0_1 : w1.cell? ⟨w.heap.size, 1, none⟩ = some (.int .i64 k.title.space) := by subst hw1; go_simp
  have c0_2 : w1.cell? ⟨w.heap.size, 2, none⟩ = some (.string k.title.name) := by subst hw1; go_simp
  have c0_3 : w1.cell? ⟨w.heap.size, 3, none⟩ = some (.int .i64 k.n) := by subst hw1; go_simp
  have c1_0 : w1.cell? ⟨w.heap.size + 1, 0, none⟩ = some (.bool a.ok) := by subst hw1; go_simp
  have c1_1 : w1.cell? ⟨w.heap.size + 1, 1, none⟩ = some (.string a.text) := by subst hw1; go_simp
  have c1_2 : w1.cell? ⟨w.heap.size + 1, 2, none⟩ = some (.int .i64 a.n) := by subst hw1; go_simp
  have HB : Hid (Below w.heap.size w w1) := by subst hw1; exact Below.al (Below.al (Below.refl _ _) _) _
  clear hw1
  have HF : Hid (∀ W, Below w1.heap.size w1 W → W.cell? ⟨w.heap.size, 0, none⟩ = some (.int .i64 k.kind) ∧ W.cell? ⟨w.heap.size, 1, none⟩ = some (.int .i64 k.title.space) ∧ W.cell? ⟨w.heap.size, 2, none⟩ = some (.string k.title.name) ∧ W.cell? ⟨w.heap.size, 3, none⟩ = some (.int .i64 k.n) ∧ W.cell? ⟨w.heap.size + 1, 0, none⟩ = some (.bool a.ok) ∧ W.cell? ⟨w.heap.size + 1, 1, none⟩ = some (.string a.text) ∧ W.cell? ⟨w.heap.size + 1, 2, none⟩ = some (.int .i64 a.n)) := fun W h => ⟨re1 h (cell_lt c0_0) c0_0, re1 h (cell_lt c0_1) c0_1, re1 h (cell_lt c0_2) c0_2, re1 h (cell_lt c0_3) c0_3, re1 h (cell_lt c1_0) c1_0, re1 h (cell_lt c1_1) c1_1, re1 h (cell_lt c1_2) c1_2⟩
  have HS := Lib.hid (hS.mono HB.out)
  clear hS
  refine (clone_any A n c xs _ HS.out hb).mono ?_
  rintro e w2 ⟨v, rfl, hown, hb2⟩
  have HO := Lib.hid hown
  have HA := Lib.hid hb2
  clear hown hb2
  try clear c0_0 c0_1 c0_2 c0_3 c1_0 c1_1 c1_2
  obtain ⟨c0_0, c0_1, c0_2, c0_3, c1_0, c1_1, c1_2⟩ := HF.out _ (HA.out)
  have z0 := cell_lt c0_0
  have z1 := cell_lt c1_0
  rcases hf : findA xs k with _ | r
  · have HF1 := Lib.hid hf
    clear hf
    go_wp2_with fail
    refine (find_none A n c xs k _ (SlR.mono HA.out HS.out) HF1.out).mono ?_
    rintro e w3 ⟨rfl, hb3⟩
    have HO3 := Lib.hid (HO.out.keep hb3)
    have HA3 := Lib.hid (Below.tr HA.out hb3)
    clear hb3
    try clear c0_0 c0_1 c0_2 c0_3 c1_0 c1_1 c1_2
    obtain ⟨c0_0, c0_1, c0_2, c0_3, c1_0, c1_1, c1_2⟩ := HF.out _ (HA3.out)
    have z0 := cell_lt c0_0
    have z1 := cell_lt c1_0
    have b1 : Hid (xs.length + 1 ≤ maxLen) := Lib.hid (by have := HN.out; unfold maxLen; omega)
    have b2 : Hid ((xs.length + 1) * 72 ≤ 140737488355328) := Lib.hid (by have := HN.out; omega)
    have b3 : Hid (w1.heap.size ≤ w3.heap.size) := Lib.hid HA3.out.size
    go_wp2_with (at_builtin; go_must (refine wpList_append_L rfl _ _ 29 rfl okAsked (by decide) (B := w1.heap.size) (xs := xs) rfl (HO3.out.keep (Below.al (Below.al (Below.refl _ _) _) _)) (ys := [⟨k, a⟩]) rfl (SlR.made askedCells (fun _ _ _ => rfl) _ _ (by simp) rfl (by simp) rfl) (fun _ _ _ h => h) b1.out b2.out (by have := b3.out; simp; omega) ?_); intro v' w' hown hg hv')
    go_ret
    refine ⟨_, rfl, ?_, ?_⟩
    · have e : recordL xs k a = xs ++ [⟨k, a⟩] := by simp [recordL, HF1.out]
      rw [e]
      exact hown.base HB.out.size
    · exact below_grown (v := v) (Below.tr HB.out (Below.tr HA3.out (by (repeat (first | assumption | exact Below.refl _ _ | refine Below.drew ?_ | refine Below.al ?_ _))))) hg (fun b hb => Nat.le_trans HB.out.size (HO3.out.ge hb))
  · have HF1 := Lib.hid hf
    clear hf
    go_wp2_with fail
    refine (find_some A n c xs k _ (SlR.mono HA.out HS.out) r HF1.out).mono ?_
    rintro e w3 ⟨rfl, hb3⟩
    have HO3 := Lib.hid (HO.out.keep hb3)
    have HA3 := Lib.hid (Below.tr HA.out hb3)
    clear hb3
    go_wp2
    go_ret
    refine ⟨_, rfl, ?_, ?_⟩
    · have e : recordL xs k a = xs := by simp [recordL, HF1.out]
      rw [e]
      exact (HO3.out.keep (Below.al (Below.refl _ _) _)).base HB.out.size
    · exact Below.tr HB.out (Below.tr HA3.out (by (repeat (first | assumption | exact Below.refl _ _ | refine Below.drew ?_ | refine Below.al ?_ _))))
end Go.Proofs.YtknjnciilchgnaaGreatDoor
