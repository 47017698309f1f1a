/- Titles: the letters A to Z as lower-case letters. -/
import Derived.Test.YtknjnciilchgnaaGreatDoorV2
import Derived.Laws.IdiomStrings
namespace Go.Proofs.YtknjnciilchgnaaGreatDoor
open Go.RowKit

def lowB (c : UInt8) : UInt8 := if 65 ≤ c.toNat ∧ c.toNat ≤ 90 then UInt8.ofNat (c.toNat + 32) else c
def foldL (l : List UInt8) : List UInt8 := l.map lowB
/-- The block g holds the bytes l, none frozen. -/
def BytesAt (w : World) (g : Nat) (l : List UInt8) : Prop :=
  g < w.heap.size ∧ ∀ j c, l[j]? = some c → w.cell? ⟨g, j, none⟩ = some (.int .u8 (c.toNat : Int)) ∧ w.frozen? ⟨g, j, none⟩ = false
theorem BytesAt.set {w : World} {g : Nat} {l : List UInt8} (h : BytesAt w g l) (k : Nat) (c : UInt8) (hk : k < l.length) : BytesAt (w.setCell ⟨g, k, none⟩ (.int .u8 (c.toNat : Int))) g (l.set k c) := by
  refine ⟨by simpa [World.setCell] using h.1, fun j d hj => ?_⟩
  by_cases e : j = k
  · subst e
    rw [List.getElem?_set_self hk] at hj
    obtain rfl : c = d := by simpa using hj
    obtain ⟨h1, h2⟩ := h.2 j _ (List.getElem?_eq_getElem hk)
    exact ⟨World.cell?_setCell_same w ⟨g, j, none⟩ _ h1, by simpa using h2⟩
  · rw [List.getElem?_set_ne (fun e' => e e'.symm)] at hj
    obtain ⟨h1, h2⟩ := h.2 j d hj
    refine ⟨(World.cell?_setCell_other w ⟨g, k, none⟩ ⟨g, j, none⟩ _ (fun e' => e (by injection e' with _ e2; exact e2.symm))).trans h1, by simpa using h2⟩
theorem BytesAt.back {P : Program} {w : World} {g cap : Nat} {l : List UInt8} (h : BytesAt w g l) (src dst e : TypeId) (hs : P.underlying src = some (.slice e)) (he : P.underlying e = some (.int .u8)) (hd : P.underlying dst = some .string) :
    (convert src dst (.slice (some ⟨g, 0, none⟩) l.length cap)).run P w = .ok (.string ⟨l.toArray⟩) w :=
  run_convert_bytes_back w src dst e ⟨g, 0, none⟩ cap l hs he hd fun j hj => by
    have := (h.2 j _ (List.getElem?_eq_getElem hj)).1
    unfold Addr.add
    split
    · rename_i h0; subst h0; exact this
    · simpa using this
theorem bytes_conv {P : Program} (w : World) (src dst e : TypeId) (s : ByteArray) (hs : P.underlying src = some .string) (hd : P.underlying dst = some (.slice e)) (he : P.underlying e = some (.int .u8)) :
    ∃ cap w1, (convert src dst (.string s)).run P w = .ok (.slice (some ⟨w.heap.size, 0, none⟩) s.size cap) w1 ∧ Below w.heap.size w w1 ∧ BytesAt w1 w.heap.size s.data.toList := by
  refine ⟨_, _, run_bytes_of_string w src dst e s hs hd he, (Below.refl _ _).drew.alloc (Nat.le_refl _) _, by simp, fun j c hj => ?_⟩
  have hjl : j < s.data.size := by have := (List.getElem?_eq_some_iff.1 hj).1; simpa using this
  have hc : c = s.data[j] := by
    rw [List.getElem?_eq_getElem (by simpa using hjl)] at hj
    simpa using hj.symm
  constructor
  · exact (World.cell?_alloc_mark w.drew _ _ _ j).trans (by rw [bytesRow_at _ _ _ hjl, hc])
  · refine (World.frozen?_alloc_mark w.drew _ _ _ _ j).trans ?_
    have : j < (bytesRow s (grownCap w s.size 0 e)).size := by simp only [bytesRow, Array.size_append, Array.size_map]; omega
    simp; omega
theorem fold_step (l : List UInt8) (q : Nat) (c : UInt8) (hc : l[q]? = some c) : (foldL (l.take q) ++ l.drop q).set q (lowB c) = foldL (l.take (q + 1)) ++ l.drop (q + 1) := by
  have hq : q < l.length := (List.getElem?_eq_some_iff.1 hc).1
  have hl : (foldL (l.take q)).length = q := by simp [foldL]; omega
  have hg : l[q] = c := by rw [List.getElem?_eq_getElem hq] at hc; simpa using hc
  rw [List.set_append_right _ _ (by omega), hl, Nat.sub_self, List.drop_eq_getElem_cons hq, List.set_cons_zero, List.take_succ_eq_append_getElem hq, hg]
  simp [foldL]
theorem fold_keep (l : List UInt8) (q : Nat) (c : UInt8) (hc : l[q]? = some c) (he : lowB c = c) : foldL (l.take q) ++ l.drop q = foldL (l.take (q + 1)) ++ l.drop (q + 1) := by
  rw [← fold_step l q c hc, he]
  have hq : q < l.length := (List.getElem?_eq_some_iff.1 hc).1
  have hl : (foldL (l.take q)).length = q := by simp [foldL]; omega
  have hg : l[q] = c := by rw [List.getElem?_eq_getElem hq] at hc; simpa using hc
  rw [List.set_append_right _ _ (by omega), hl, Nat.sub_self, List.drop_eq_getElem_cons hq, List.set_cons_zero, hg]
theorem fold_at (l : List UInt8) (q : Nat) (c : UInt8) (hc : l[q]? = some c) : (foldL (l.take q) ++ l.drop q)[q]? = some c := by
  have hq : q < l.length := (List.getElem?_eq_some_iff.1 hc).1
  have hl : (foldL (l.take q)).length = q := by simp [foldL]; omega
  rw [List.getElem?_append_right (by omega), hl, Nat.sub_self, List.getElem?_drop]
  simpa using hc
set_option maxHeartbeats 400000 in
set_option maxRecDepth 100000 in
theorem fold_any (s : ByteArray) (w : World) (hs : s.size ≤ 9223372036854775807) : Calls Tryz.prog 84 #[.string s] w fun e w' => e = .returned (.string ⟨(foldL s.data.toList).toArray⟩) ∧ Below w.heap.size w w' := by
  obtain ⟨cap, w1, hconv, hb, hB⟩ := bytes_conv (P := Tryz.prog) w 9 81 5 s Tryz.underlying9 Tryz.underlying81 Tryz.underlying5
  have HB := Lib.hid hb
  have HBB := Lib.hid hB
  clear hb hB
  have HL : Hid (s.data.toList.length = s.size) := Lib.hid (Array.length_toList)
  go_enter Tryz.func84, Tryz.ntmps84
  go_wp2
  go_loopw [4, 5, 10] (fun _ _ i wr => ∃ q : Nat, q ≤ s.size ∧ i = .int .i64 q ∧ Below w.heap.size w wr ∧ BytesAt wr w.heap.size (foldL (s.data.toList.take q) ++ s.data.toList.drop q)) (fun _ _ i _ => s.size - (intOf i).toNat)
  case atStart => exact ⟨0, Nat.zero_le _, rfl, HB.out, by simpa [foldL] using HBB.out⟩
  case round =>
    obtain ⟨q, hq, rfl, hbw, hBw⟩ := hrel
    by_cases hlt : q < s.size
    · obtain ⟨x, hx⟩ : ∃ x, s.data.toList[q]? = some x := ⟨_, List.getElem?_eq_getElem (by rw [HL.out]; exact hlt)⟩
      obtain ⟨c0, f0⟩ := hBw.2 q x (fold_at _ _ _ hx)
      have HX := Lib.hid hx
      have HW := Lib.hid hBw
      have HQ := Lib.hid hbw
      clear hx hBw hbw hconv
      have hx1 : (x.toNat : Int) < 256 := by have := x.toNat_lt; omega
      by_cases h1 : (65 : Int) ≤ x.toNat ∧ (x.toNat : Int) ≤ 90
      · obtain ⟨h1, h2⟩ := h1
        go_wp2
        go_roundw
        case rel =>
          refine ⟨q + 1, by omega, by go_num, HQ.out.setCell (Nat.le_refl _) _, ?_⟩
          have hl : lowB x = UInt8.ofNat (x.toNat + 32) := by unfold lowB; rw [if_pos (by omega)]
          have hl2 : ((lowB x).toNat : Int) = (x.toNat : Int) + 32 := by rw [hl]; simp; omega
          rw [← fold_step _ _ _ HX.out, ← hl2]
          exact HW.out.set q _ (by rw [List.length_append]; simp [foldL]; omega)
        case measure => simp [intOf]; omega
      · have hk : lowB x = x := by unfold lowB; rw [if_neg (by omega)]
        have HK := Lib.hid hk
        clear hk
        have h3 : (x.toNat : Int) < 65 ∨ ((65 : Int) ≤ x.toNat ∧ (90 : Int) < x.toNat) := by omega
        clear h1
        rcases h3 with h2 | ⟨h2, h3⟩
        all_goals
          go_wp2
          go_roundw
          case rel => exact ⟨q + 1, by omega, by go_num, HQ.out, by rw [← fold_keep _ _ _ HX.out HK.out]; exact HW.out⟩
          case measure => simp [intOf]; omega
    · obtain rfl : q = s.size := by omega
      have hz : foldL (s.data.toList.take s.size) ++ s.data.toList.drop s.size = foldL s.data.toList := by
        rw [List.take_of_length_le (by rw [HL.out]; omega), List.drop_eq_nil_of_le (by rw [HL.out]; omega), List.append_nil]
      rw [hz] at hBw
      have hback := hBw.back (P := Tryz.prog) (cap := cap) 81 9 5 Tryz.underlying81 Tryz.underlying5 Tryz.underlying9
      rw [show (foldL s.data.toList).length = s.size by rw [foldL, List.length_map]; exact HL.out] at hback
      have HQ := Lib.hid hbw
      clear hz hBw hbw hconv
      go_wp2
      go_ret
      exact ⟨rfl, HQ.out⟩
end Go.Proofs.YtknjnciilchgnaaGreatDoor
