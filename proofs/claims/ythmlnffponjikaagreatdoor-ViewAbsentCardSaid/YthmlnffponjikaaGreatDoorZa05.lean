/- Plain laws: the reference's Parts and prefixed say what strings.Split and title.prefix say. | The reference's Valid. | The reference's Has, BuiltIn, exists; the program's builtIn. | append as one step of a region that draws its order. No program is named. | Ancestors, the reference's and the program's. | == and != of values without slices, at this translation. Written by types.py. | The library's functions at slices of strings, in the words of SlR. | A scope covers a level; the levels of a title. | Contracts in values, out of those in worlds. | A row of the call's own behind the library's turning of it. No program is named. | The levels of a title, the reference's. | title.Ancestors and slices.Reverse, as contracts in values. | A literal list of strings. No program is named. | What lies in a slot or in a box made pure; nil in a box as a row of the call's own. No program is named. -/
import Derived.Test.YthmlnffponjikaaGreatDoorZa04
import Derived.Lib.IndexBytes
import Derived.Deep.RegionLaw
import Derived.Test.YthmlnffponjikaaGreatDoorRows
import Derived.Test.YthmlnffponjikaaGreatDoorZa03
import Derived.Test.YthmlnffponjikaaGreatDoorZa01
import Derived.Shelf.GgSortFunc.RowK
namespace Go.Proofs.YthmlnffponjikaaGreatDoor
open Go.RowKit

def partsR : List UInt8 → List UInt8 → List (List UInt8)
  | a, [] => [a]
  | a, c :: r => if c.toNat = 47 then a :: partsR [] r else partsR (a ++ [c]) r
theorem partsR_clean : ∀ (s a r : List UInt8), (∀ k : Nat, s[k]? ≠ some 47) → partsR a (s ++ r) = partsR (a ++ s) r
  | [], a, r, _ => by simp
  | c :: s, a, r, h => by
    have h0 : c.toNat ≠ 47 := fun e => h 0 (by simp; exact UInt8.toNat_inj.1 e)
    rw [List.cons_append, partsR, if_neg h0, partsR_clean s (a ++ [c]) r (fun k => by have := h (k + 1); simpa using this), List.append_assoc]
    rfl
theorem partStep_data (l : List ByteArray) (p : ByteArray) (c : UInt8) : partStep (l ++ [p]) c = if c.toNat = 47 then l ++ [p] ++ [⟨#[]⟩] else l ++ [p ++ ⟨#[c]⟩] := by
  unfold partStep
  by_cases h : c.toNat = 47
  · rw [if_pos h, if_pos h]
  · rw [if_neg h, if_neg h]
    have hl : (l ++ [p]).length - 1 = l.length := by simp
    rw [hl, List.getElem?_append_right (Nat.le_refl _), Nat.sub_self, List.set_append_right _ _ (Nat.le_refl _), Nat.sub_self]
    rfl
theorem data_app (p : ByteArray) (c : UInt8) : (p ++ ⟨#[c]⟩ : ByteArray).data.toList = p.data.toList ++ [c] := by
  simp
theorem foldl_parts : ∀ (s : List UInt8) (l : List ByteArray) (p : ByteArray), (s.foldl partStep (l ++ [p])).map (·.data.toList) = l.map (·.data.toList) ++ partsR p.data.toList s
  | [], l, p => by simp [partsR]
  | c :: r, l, p => by
    rw [List.foldl_cons, partStep_data, partsR]
    by_cases h : c.toNat = 47
    · rw [if_pos h, if_pos h, foldl_parts r (l ++ [p]) ⟨#[]⟩]
      simp
    · rw [if_neg h, if_neg h, foldl_parts r l _, data_app]
theorem partsL_data (s : List UInt8) : (partsL s).map (·.data.toList) = partsR [] s := by
  have := foldl_parts s [] ⟨#[]⟩
  simpa [partsL] using this
theorem split_data : ∀ (k : Nat) (s : ByteArray), Lib.countB s ⟨#[47]⟩ = k → (Lib.splitB ⟨#[47]⟩ 0 k s).map (·.data.toList) = partsR [] s.data.toList
  | k, s, hk => by
    have h1 : Lib.indexB s ⟨#[47]⟩ = Lib.indexByte s.data.toList 47 := Lib.index_one _ _
    rcases Lib.indexB_cases s ⟨#[47]⟩ with hi | ⟨i, hi, hlt⟩
    · rw [Lib.splitB_miss _ _ _ _ hi]
      have := partsR_clean s.data.toList [] [] (Lib.indexByte_none (h1.symm.trans hi))
      rw [List.append_nil] at this
      rw [this]
      rfl
    · have hc := Lib.countB_hit s ⟨#[47]⟩ i (by decide) hi
      obtain ⟨k', rfl⟩ : ∃ k', k = k' + 1 := ⟨k - 1, by omega⟩
      rw [Lib.splitB_hit _ _ _ _ i hi, List.map_cons, split_data k' _ (by omega)]
      have he : (⟨#[47]⟩ : ByteArray).size = 1 := rfl
      rw [he, Lib.extract_to_end, Lib.extract_data]
      obtain ⟨h2, h3⟩ := Lib.indexByte_some (h1.symm.trans hi)
      have hil := (List.getElem?_eq_some_iff.1 h2).1
      have hsplit : s.data.toList = s.data.toList.take i ++ (47 :: s.data.toList.drop (i + 1)) := by
        have h4 : s.data.toList.drop i = 47 :: s.data.toList.drop (i + 1) := by
          rw [List.drop_eq_getElem_cons hil]
          rw [List.getElem?_eq_getElem hil] at h2
          rw [Option.some.inj h2]
        rw [← h4, List.take_append_drop]
      conv => rhs; rw [hsplit]
      rw [partsR_clean _ [] _ (fun k hk => by
        rw [List.getElem?_take] at hk
        split at hk
        · rename_i hki; exact h3 k hki hk
        · cases hk), partsR, if_pos (by decide)]
      simp
theorem parts_split (s : ByteArray) (f : List UInt8 → Bool) : (partsL s.data.toList).all (fun p => f p.data.toList) = (Lib.splitB ⟨#[47]⟩ 0 (Lib.countB s ⟨#[47]⟩) s).all (fun p => f p.data.toList) := by
  have h1 := congrArg (·.all f) (partsL_data s.data.toList)
  have h2 := congrArg (·.all f) (split_data _ s rfl)
  simp only [List.all_map] at h1 h2
  exact h1.trans h2.symm
theorem trimB_data (p : ByteArray) : (trimB p).data.toList = Lib.trimSuffix p.data.toList [32] := by
  have hl : p.data.toList.length = p.size := Array.length_toList
  unfold trimB Lib.trimSuffix Lib.hasSuffix
  by_cases h : 0 < p.size
  · have hd : p.data.toList.drop (p.data.toList.length - [(32 : UInt8)].length) = [p[p.size - 1]] := by
      rw [hl, List.length_singleton, List.drop_eq_getElem_cons (by omega), List.drop_eq_nil_of_le (by omega)]
      rfl
    have hap := List.take_append_drop (p.data.toList.length - [(32 : UInt8)].length) p.data.toList
    rw [hd] at hap
    rw [dif_pos h]
    by_cases h2 : (p[p.size - 1]'(by omega)).toNat = 32
    · have h3 : p[p.size - 1] = (32 : UInt8) := UInt8.toNat_inj.1 h2
      rw [h3] at hap
      rw [if_pos h2, if_pos (List.isSuffixOf_iff_suffix.2 ⟨_, hap⟩), Lib.extract_data, hl]
      simp
    · have h3 : p[p.size - 1] ≠ (32 : UInt8) := fun e => h2 (by rw [e]; rfl)
      rw [if_neg h2, if_neg]
      intro hs
      obtain ⟨t, ht⟩ := List.isSuffixOf_iff_suffix.1 hs
      rw [← hap] at ht
      have := (List.append_inj' ht rfl).2
      simp at this
      exact h3 this.symm
  · have h0 : p.data.toList = [] := List.eq_nil_of_length_eq_zero (by omega)
    rw [dif_neg h, h0]
    rfl
theorem refPre_prefix (s : ByteArray) : refPre s = match prefixL s.data.toList with
    | some (n, _) => (n, Lib.index s.data.toList [58])
    | none => (0, 0) := by
  unfold refPre prefixL Lib.cut
  by_cases h : Lib.index s.data.toList [58] < 0
  · rw [if_pos h, if_neg (show ¬ 0 ≤ Lib.index s.data.toList [58] by omega)]
    simp
  · rw [if_neg h, if_pos (show 0 ≤ Lib.index s.data.toList [58] by omega)]
    have he : (trimB (s.extract 0 (Lib.index s.data.toList [58]).toNat)).data.toList = Lib.trimSuffix (s.data.toList.take (Lib.index s.data.toList [58]).toNat) [32] := by
      rw [trimB_data, Lib.extract_data]
      simp
    rw [he]
    by_cases h2 : spaceOf (foldL (Lib.trimSuffix (s.data.toList.take (Lib.index s.data.toList [58]).toNat) [32])) = 0
    · rw [if_pos h2, if_neg (by simp [h2])]
    · rw [if_neg h2, if_pos ⟨rfl, h2⟩]
theorem prefixL_rest {s : List UInt8} {n : Int} {r : List UInt8} (h : prefixL s = some (n, r)) : 0 ≤ Lib.index s [58] ∧ r = s.drop ((Lib.index s [58]).toNat + 1) ∧ n = spaceOf (foldL (Lib.trimSuffix (s.take (Lib.index s [58]).toNat) [32])) ∧ n ≠ 0 := by
  unfold prefixL Lib.cut at h
  by_cases h0 : 0 ≤ Lib.index s [58]
  · rw [if_pos h0] at h
    simp only [true_and, List.length_singleton] at h
    split at h
    · rename_i h2
      simp only [Option.some.injEq, Prod.mk.injEq] at h
      exact ⟨h0, h.2.symm, h.1.symm, h.1 ▸ h2⟩
    · cases h
  · rw [if_neg h0] at h
    simp at h
theorem refPre_zero (s : ByteArray) : decide ((refPre s).1 = 0) = decide (prefixL s.data.toList = none) := by
  rw [refPre_prefix]
  cases h : prefixL s.data.toList with
  | none => rfl
  | some x =>
    obtain ⟨n, r⟩ := x
    have := (prefixL_rest h).2.2.2
    simp [this]
end Go.Proofs.YthmlnffponjikaaGreatDoor
namespace Go.Proofs.YthmlnffponjikaaGreatDoor
open Go.RowKit

theorem refIndexBad (s : ByteArray) (q : Nat) (hq : q < s.size) (w : World) : Calls Tryz.prog 90 #[.string ⟨#[60, 62, 91, 93, 123, 125, 124, 35, 95]⟩, .string (s.extract q (q + 1)), .int .i64 0] w fun e w' => e = .returned (.int .i64 (Lib.indexByte badName s[q])) ∧ w = w' := by
  rw [ex_one s q hq]
  refine (refIndex_any _ _ w (by show 9 + 1 ≤ _; omega)).mono ?_
  rintro e w' ⟨rfl, rfl⟩
  refine ⟨?_, rfl⟩
  rw [← Lib.index_one]
  rfl
set_option maxRecDepth 100000 in
set_option maxHeartbeats 4000000 in
theorem refValid_any (t : Title) (w : World) : Calls Tryz.prog 45 #[.agg #[.int .i64 t.space, .string t.name]] w fun e w' => e = .returned (.bool t.valid) ∧ Below w.heap.size w w' := by
  obtain ⟨sp, s⟩ := t
  by_cases h : 0 ≤ sp ∧ sp < 6 ∧ 1 ≤ s.size ∧ s.size ≤ 100
  case neg =>
    have hv : Title.valid ⟨sp, s⟩ = false := by
      cases hV : Title.valid ⟨sp, s⟩ with
      | false => rfl
      | true =>
        simp only [Title.valid, Bool.and_eq_true, decide_eq_true_eq] at hV
        obtain ⟨⟨⟨⟨⟨⟨⟨ha, hb⟩, hc⟩, hd⟩, hcl⟩, _⟩, _⟩, _⟩ := hV
        exact absurd ⟨ha, hb, hc, hd⟩ h
    have HV := Lib.hid hv
    have h' : sp < 0 ∨ 6 ≤ sp ∨ (s.size : Int) < 1 ∨ (100 : Int) < s.size := by omega
    clear h hv
    go_enter Tryz.func45, Tryz.ntmps45
    go_wp2
    all_goals
      first
      | (exfalso; omega)
      | (go_ret
         exact ⟨ret_bool HV.out.symm, Below.al (Below.refl _ _) _⟩)
  obtain ⟨h1, h2, h3, h4⟩ := h
  have hs1 : (1 : Int) ≤ s.size := by omega
  have hs2 : (s.size : Int) ≤ 100 := by omega
  have HSP : Hid (Title.valid ⟨sp, s⟩ = (cleanL (-1) s.data.toList && ((partsL s.data.toList).all (fun p => partOK p.data.toList) && (firstOK (s[0]'(by omega)).toNat && (decide (sp ≠ 0) || decide ((refPre s).1 = 0)))))) := Lib.hid (by
    rw [parts_split s partOK, refPre_zero, ← head_of s (by omega)]
    simp [Title.valid, h1, h2, h3, h4, Bool.and_assoc])
  go_enter Tryz.func45, Tryz.ntmps45
  go_wp2_with fail
  all_goals try (exfalso; omega)
  generalize hw1 : w.alloc _ = w1
  have c0_0 : w1.cell? ⟨w.heap.size, 0, none⟩ = some (.int .i64 sp) := by subst hw1; go_simp
  have c0_1 : w1.cell? ⟨w.heap.size, 1, none⟩ = some (.string s) := by subst hw1; go_simp
  have HB : Hid (Below w.heap.size w w1) := by subst hw1; exact Below.al (Below.refl _ _) _
  clear hw1
  have HF : Hid (∀ W, Below w1.heap.size w1 W → W.cell? ⟨w.heap.size, 0, none⟩ = some (.int .i64 sp) ∧ W.cell? ⟨w.heap.size, 1, none⟩ = some (.string s)) := fun W h => ⟨re1 h (cell_lt c0_0) c0_0, re1 h (cell_lt c0_1) c0_1⟩
  go_loopw [4] (fun i wr => ∃ q : Nat, q ≤ s.size ∧ i = .int .i64 q ∧ wr = w1 ∧ Hid (cleanL (-1) s.data.toList = cleanL (prevAt s q) (s.data.toList.drop q))) (fun i _ => s.size - (intOf i).toNat)
  case atStart => exact ⟨0, Nat.zero_le _, rfl, rfl, rfl⟩
  case round =>
    obtain ⟨q, hq, rfl, rfl, hC⟩ := hrel
    by_cases hlt : q < s.size
    · have HD : Hid (s.data.toList.drop q = s[q] :: s.data.toList.drop (q + 1)) := List.drop_eq_getElem_cons (by rw [Array.length_toList]; exact hlt)
      have HP' : Hid (prevAt s (q + 1) = ((s[q]'hlt).toNat : Int)) := by unfold prevAt; rw [dif_pos ⟨Nat.succ_pos q, hlt⟩]; rfl
      have b1 : (0 : Int) ≤ q := by omega
      have b2 : (q : Int) < (s.size : Int) := by omega
      by_cases h0 : q = 0
      · subst h0
        have HP : Hid (prevAt s 0 = -1) := rfl
        go_wp2_with (go_at_call 90; refine (refIndexBad s 0 hlt _).mono ?_; rintro e w' ⟨rfl, rfl⟩)
        all_goals (try simp only [beq_iff_eq, beq_eq_false_iff_ne, ne_eq] at *)
        all_goals first
          | (exfalso; omega)
          | (go_ret; refine ⟨ret_bool ?_, HB.out⟩; rw [HSP.out, hC.out, HD.out, cleanL_stop (by rw [HP.out]; omega)]; rfl)
          | (go_roundw; (case rel => (refine ⟨1, by omega, rfl, by trivial, ?_⟩; rw [hC.out, HD.out, cleanL_go (by rw [HP.out]; omega)]; exact congrArg (fun p => cleanL p (s.data.toList.drop (0 + 1))) HP'.out.symm)); (case measure => (simp [intOf]; omega)))
      · have HP : Hid (prevAt s q = ((s[q - 1]'(by omega)).toNat : Int)) := by unfold prevAt; rw [dif_pos ⟨by omega, by omega⟩]; exact Lib.hid rfl
        have hq1 : 0 < q := by omega
        have b3 : (1 : Int) ≤ q := by omega
        clear h0
        go_wp2_with (go_at_call 90; refine (refIndexBad s q hlt _).mono ?_; rintro e w' ⟨rfl, rfl⟩)
        all_goals (try simp only [beq_iff_eq, beq_eq_false_iff_ne, ne_eq] at *)
        all_goals first
          | (exfalso; omega)
          | (go_ret; refine ⟨ret_bool ?_, HB.out⟩; rw [HSP.out, hC.out, HD.out, cleanL_stop (by rw [HP.out]; omega)]; rfl)
          | (go_roundw; (case rel => (refine ⟨q + 1, by omega, by go_num, by trivial, ?_⟩; rw [hC.out, HD.out, cleanL_go (by rw [HP.out]; omega)]; exact congrArg (fun p => cleanL p (s.data.toList.drop (q + 1))) HP'.out.symm)); (case measure => (simp [intOf]; omega)))
    · obtain rfl : q = s.size := by omega
      have hz : s.data.toList.drop s.size = [] := List.drop_eq_nil_of_le (by rw [Array.length_toList]; exact Nat.le_refl _)
      have HZ : Hid (cleanL (-1) s.data.toList = true) := by rw [hC.out, hz]; exact rfl
      rw [HZ.out, Bool.true_and] at HSP
      clear hz hC HZ
      go_wp2_with fail
      refine (refParts_any s _ (by omega)).mono ?_
      rintro e w2 ⟨v, rfl, hown, hb2⟩
      have hps : Hid (∀ p ∈ partsL s.data.toList, p.size ≤ 100) := Lib.hid (by
        have hall := parts_split s (fun l => decide (l.length ≤ 100))
        have h5 : (Lib.splitB ⟨#[47]⟩ 0 (Lib.countB s ⟨#[47]⟩) s).all (fun p => decide (p.data.toList.length ≤ 100)) = true := by
          rw [List.all_eq_true]
          intro p hp
          have := splitB_size ⟨#[47]⟩ _ s p hp
          rw [Array.length_toList]
          exact decide_eq_true (Nat.le_trans this h4)
        rw [h5, List.all_eq_true] at hall
        intro p hp
        have := of_decide_eq_true (hall p hp)
        rw [Array.length_toList] at this
        exact this)
      generalize partsL s.data.toList = ps at *
      obtain ⟨A, c, rfl, hS, _⟩ := hown.sl
      have c1 : w2.cell? ⟨w.heap.size, 0, none⟩ = some (.int .i64 sp) := re1 hb2 (cell_lt c0_0) c0_0
      have HB2 := Lib.hid (Below.tr HB.out hb2)
      have HS := Lib.hid hS
      have hle := hS.le
      have hle2 : (ps.length : Int) ≤ 9223372036854775807 := by omega
      clear hown hb2 hS c0_0 c0_1 HF HB
      go_wp2_with fail
      go_loopw [6] (fun i wr => ∃ q : Nat, q ≤ ps.length ∧ i = .int .i64 q ∧ Below w2.heap.size w2 wr ∧ Hid (ps.all (fun p => partOK p.data.toList) = (ps.drop q).all (fun p => partOK p.data.toList))) (fun i _ => ps.length - (intOf i).toNat)
      case atStart => exact ⟨0, by omega, rfl, Below.refl _ _, rfl⟩
      case round =>
        obtain ⟨q, hq, rfl, hbw, hA⟩ := hrel
        have HW := Lib.hid hbw
        clear hbw
        by_cases hlt : q < ps.length
        · have b1 : (0 : Int) ≤ q := by omega
          have b2 : (q : Int) < (ps.length : Int) := by omega
          obtain ⟨b, off, x, cs, hA, hbl, hx, hd, hR, hc⟩ := (HS.out.mono HW.out).elem hlt
          obtain rfl := hA
          have d0 : wr.cell? ⟨b, off + q, none⟩ = some (.string x) := by subst hR; simpa using hc 0 _ rfl
          have HD := Lib.hid hd
          have HX := Lib.hid hx
          clear hx hd hR hc
          have hxs := hps.out x (List.mem_of_getElem? HX.out)
          by_cases hx0 : x.size = 0
          · have hx1 : x.toList = [] := by rw [ByteArray.toList_eq]; exact List.eq_nil_of_length_eq_zero (by rw [Array.length_toList]; exact hx0)
            have HP : Hid (partOK x.data.toList = false) := Lib.hid (by rw [← ByteArray.toList_eq, hx1]; rfl)
            clear hx0
            go_wp2_with fail
            go_quiet (fail)
            go_wp2
            go_ret
            exact ⟨ret_bool (by rw [HSP.out, hA.out, HD.out, List.all_cons, HP.out]; rfl), Below.tr HB2.out (Below.dn HW.out _)⟩
          · have hx1 : ¬ x.toList = [] := fun e => by rw [ByteArray.toList_eq] at e; exact hx0 (by have := congrArg List.length e; rw [Array.length_toList] at this; exact this)
            have hx2 : 0 < x.size := by omega
            have hx3 : (0 : Int) ≤ (x.size : Int) - 1 := by omega
            have hx4 : (0 : Int) < (x.size : Int) := by omega
            have hx5 : (1 : Int) ≤ (x.size : Int) := by omega
            have hx9 : (x.size : Int) - 1 < (x.size : Int) := by omega
            have hx6 : x.toList.isEmpty = false := by rw [List.isEmpty_eq_false_iff]; exact hx1
            have hx7 : (x.toList == []) = false := beq_eq_false_iff_ne.2 hx1
            have hx8 : decide (x.toList = []) = false := decide_eq_false hx1
            have HP := Lib.hid (partOK_def x hx2)
            clear hx0
            by_cases hf : (x[0].toNat : Int) = 32
            · have HP2 : Hid (partOK x.data.toList = false) := Lib.hid (by rw [HP.out, hf]; rfl)
              go_wp2_with fail
              go_quiet (fail)
              go_wp2
              go_ret
              exact ⟨ret_bool (by rw [HSP.out, hA.out, HD.out, List.all_cons, HP2.out]; rfl), Below.tr HB2.out (Below.dn HW.out _)⟩
            · by_cases hl : ((x[x.size - 1]'(by omega)).toNat : Int) = 32
              · have HP2 : Hid (partOK x.data.toList = false) := Lib.hid (by rw [HP.out, hl]; simp)
                have hf : ((x[0].toNat : Int) == 32) = false := beq_eq_false_iff_ne.2 hf
                go_wp2_with fail
                go_quiet (fail)
                go_wp2
                go_ret
                exact ⟨ret_bool (by rw [HSP.out, hA.out, HD.out, List.all_cons, HP2.out]; rfl), Below.tr HB2.out (Below.dn HW.out _)⟩
              · have HP2 : Hid (partOK x.data.toList = true) := Lib.hid (by rw [HP.out, beq_eq_false_iff_ne.2 hf, beq_eq_false_iff_ne.2 hl]; rfl)
                have hf : ((x[0].toNat : Int) == 32) = false := beq_eq_false_iff_ne.2 hf
                have hl : (((x[x.size - 1]'(by omega)).toNat : Int) == 32) = false := beq_eq_false_iff_ne.2 hl
                go_wp2_with fail
                go_quiet (fail)
                go_wp2
                go_roundw
                case rel => exact ⟨q + 1, by omega, by go_num, Below.dn HW.out _, Lib.hid (by rw [hA.out, HD.out, List.all_cons, HP2.out]; rfl)⟩
                case measure => simp [intOf]; omega
        · obtain rfl : q = ps.length := by omega
          have hz : ps.all (fun p => partOK p.data.toList) = true := by
            rw [hA.out, List.drop_eq_nil_of_le (Nat.le_refl _)]; rfl
          rw [hz, Bool.true_and] at HSP
          have c2 : wr.cell? ⟨w.heap.size, 0, none⟩ = some (.int .i64 sp) := re1 HW.out (cell_lt c1) c1
          clear hz hA c1 hps
          have hs0 : (0 : Int) < s.size := by omega
          go_wp2_with (go_at_call 92; refine (refPrefixed_any s _ (by omega)).mono ?_; rintro e w5 ⟨rfl, hb5⟩; have c3 := re1 hb5 (cell_lt c2) c2)
          all_goals
            go_ret
            refine ⟨ret_bool ?_, ?_⟩
            · rw [HSP.out]
              simp only [beq_iff_eq, beq_eq_false_iff_ne, ne_eq] at *
              first
                | (rw [firstOK_no1 (by omega)]; rfl)
                | (rw [firstOK_no2 (by omega) (by omega)]; rfl)
                | (rw [firstOK_yes (by omega) (by omega)]; simp_all; done)
                | (rw [firstOK_yes (by omega) (by omega)]; simp_all; rfl)
            · first | exact Below.tr (Below.tr HB2.out HW.out) (by assumption) | exact Below.tr HB2.out HW.out
end Go.Proofs.YthmlnffponjikaaGreatDoor
namespace Go.Proofs.YthmlnffponjikaaGreatDoor
open Go.RowKit

def hasL (L : List ByteArray) (s : ByteArray) : Bool := L.any (fun x => decide (x = s))
theorem hasL_drop {L : List ByteArray} {q : Nat} {x s : ByteArray} (h : L.drop q = x :: L.drop (q + 1)) (hne : x ≠ s) : hasL (L.drop q) s = hasL (L.drop (q + 1)) s := by
  unfold hasL
  rw [h, List.any_cons, decide_eq_false hne, Bool.false_or]
theorem hasL_at {L : List ByteArray} {q : Nat} {x s : ByteArray} (h : L.drop q = x :: L.drop (q + 1)) (he : x = s) : hasL (L.drop q) s = true := by
  unfold hasL
  rw [h, List.any_cons, decide_eq_true he, Bool.true_or]
set_option maxRecDepth 100000 in
set_option maxHeartbeats 1000000 in
theorem refHas_any (A : Option Addr) (n c : Nat) (L : List ByteArray) (s : ByteArray) (w : World) (hS : SlR w A n c L) : Calls Tryz.prog 112 #[.slice A n c, .string s] w fun e w' => e = .returned (.bool (hasL L s)) ∧ w = w' := by
  have HS := Lib.hid hS
  have hle := hS.le
  have hle2 : (n : Int) ≤ 9223372036854775807 := by omega
  have HN := Lib.hid hS.1
  clear hS
  go_enter Tryz.func112, Tryz.ntmps112
  go_wp2
  go_loop [5] (fun i => ∃ q : Nat, q ≤ n ∧ i = .int .i64 q ∧ Hid (hasL L s = hasL (L.drop q) s)) (fun i => n - (intOf i).toNat)
  case atStart => exact ⟨0, by omega, rfl, rfl⟩
  case round =>
    obtain ⟨q, hq, rfl, hno⟩ := hrel
    by_cases hlt : q < n
    · have b1 : (0 : Int) ≤ q := by omega
      have b2 : (q : Int) < (n : Int) := by omega
      obtain ⟨b, off, x, cs, hA, hbl, hx, hd, hR, hc⟩ := (HS.out).elem hlt
      obtain rfl := hA
      have d0 : w.cell? ⟨b, off + q, none⟩ = some (.string x) := by subst hR; simpa using hc 0 _ rfl
      have HD := Lib.hid hd
      have HX := Lib.hid hx
      clear hx hd hR hc
      go_wp2
      all_goals (try simp only [beq_iff_eq, beq_eq_false_iff_ne, ne_eq] at *)
      · have h : x.toList = s.toList := by assumption
        go_ret
        refine ⟨ret_bool ?_, rfl⟩
        rw [hno.out, hasL_at HD.out (toList_inj h)]
      · have h : ¬ x.toList = s.toList := by assumption
        exact ⟨⟨q + 1, by omega, by simp, Lib.hid (hno.out.trans (hasL_drop HD.out (fun e => h (by rw [e]))))⟩, by simp [intOf]; omega⟩
    · obtain rfl : q = n := by omega
      have HE : Hid (hasL L s = false) := Lib.hid (by rw [hno.out, HN.out, List.drop_length]; rfl)
      go_wp2
      go_ret
      exact ⟨ret_bool HE.out.symm, rfl⟩
def builtInB (s : ByteArray) : Bool := (s.toList == [97, 108, 108]) || (s.toList == [117, 115, 101, 114, 115])
set_option maxRecDepth 100000 in
set_option maxHeartbeats 1000000 in
theorem refBuiltIn_any (s : ByteArray) (w : World) : Calls Tryz.prog 144 #[.string s] w fun e w' => e = .returned (.bool (builtInB s)) ∧ w = w' := by
  go_enter Tryz.func144, Tryz.ntmps144
  go_wp2
  all_goals
    go_ret
    refine ⟨ret_bool ?_, rfl⟩
    unfold builtInB
    simp_all
set_option maxRecDepth 100000 in
set_option maxHeartbeats 1000000 in
theorem builtIn_any (s : ByteArray) (w : World) : Calls Tryz.prog 136 #[.string s] w fun e w' => e = .returned (.bool (builtInB s)) ∧ w = w' := by
  go_enter Tryz.func136, Tryz.ntmps136
  go_wp2
  all_goals
    go_ret
    refine ⟨ret_bool ?_, rfl⟩
    unfold builtInB
    simp_all
end Go.Proofs.YthmlnffponjikaaGreatDoor
namespace Go.Proofs.YthmlnffponjikaaGreatDoor
open Go.RowKit

theorem SlR.drew {α : Type} [Enc α] {w : World} {A : Option Addr} {n c : Nat} {xs : List α} (h : SlR w A n c xs) : SlR w.drew A n c xs := SlR.mono (Below.refl _ _).drew h
theorem OwnL.drew {α : Type} [Enc α] {w : World} {B : Nat} {E : TypeId} {v : Value} {xs : List α} (h : OwnL w B E v xs) : OwnL w.drew B E v xs := OwnL.keep (Below.refl _ _).drew h
theorem OwnL.al {α : Type} [Enc α] {w : World} {B : Nat} {E : TypeId} {v : Value} {xs : List α} (h : OwnL w B E v xs) (o : Obj) : OwnL (w.alloc o) B E v xs := OwnL.keep (Below.al (Below.refl _ _) _) h
/-- A slice literal of values without slices. -/
theorem OwnL.lit {α : Type} [Enc α] (enc : α → List Value) (hR : ∀ (S : Nat → Prop) (w : World) (x : α), Enc.R S w x (enc x)) (w : World) (B : Nat) (E : TypeId) (xs : List α) {n g : Nat} {cs : Array Value} (hB : B ≤ w.heap.size) (hg : w.heap.size = g) (hn : n = xs.length) (hm : n ≤ 1000) (hc : xs.flatMap enc = cs.toList) :
    OwnL (w.alloc (.cells cs E)) B E (.slice (some ⟨g, 0, none⟩) n n) xs := by
  subst hg
  refine OwnL.built (xs.map enc) cs hB hn (by simp) (by unfold maxLen; omega) (fun i x c hx hcs => ?_) (by rw [← hc, List.flatMap_def])
  rw [List.getElem?_map, hx] at hcs
  have : enc x = c := by simpa using hcs
  rw [← this]
  exact hR _ _ _
/-- A list that the row u does not hold, behind an append to u. -/
theorem SlS.appended {α : Type} [Enc α] {w w' : World} {u v' : Value} {A : Option Addr} {n c : Nat} {xs : List α} (h : SlS (fun b => u.ownBlock ≠ some b) w A n c xs) (hg : w.grownBy w' u.ownBlock) (hv : v'.ownBlock = u.ownBlock ∨ v'.ownBlock = some w.heap.size) : SlS (fun b => v'.ownBlock ≠ some b) w' A n c xs := by
  refine (SlS.keep (w' := w') (fun b hb _ => hg.block b hb.2 (fun e => hb.1 e.symm)) hg.size h.old).weak (fun b hb _ => ?_)
  rcases hv with e | e
  · rw [e]; exact hb.1
  · rw [e]; intro e2; injection e2 with e2; omega
/-- The call's own list, seen beside an older row u. -/
theorem OwnL.far {α : Type} [Enc α] {w : World} {B : Nat} {E : TypeId} {v : Value} {xs : List α} (h : OwnL w B E v xs) {u : Value} (hu : ∀ b, u.ownBlock = some b → b < B)
    (hE : ∀ (x : α) (cs : List Value), Enc.R (fun _ => True) w x cs → Enc.R (fun b => u.ownBlock ≠ some b) w x cs) : ∃ A c, v = .slice A xs.length c ∧ SlS (fun b => u.ownBlock ≠ some b) w A xs.length c xs := by
  obtain ⟨A, c, rfl, ⟨h1, h2, h3, h4⟩, hA⟩ := h.sl
  refine ⟨A, c, rfl, h1, h2, h3, fun h0 => ?_⟩
  obtain ⟨b, off, css, hA2, _, hlt, hx⟩ := h4 h0
  obtain ⟨g, hg, hge, _⟩ := hA h0
  have hbg : b = g := by rw [hA2] at hg; injection hg with hg; injection hg
  refine ⟨b, off, css, hA2, fun e => ?_, hlt, fun i x hi => ⟨hE x _ (hx i x hi).1, (hx i x hi).2⟩⟩
  have := hu b e
  omega
theorem step_append_L {P : Program} {α : Type} [Enc α] {ops : Array Oper} {o : Oper} {a : Act} {w : World} {K : Act → World → Prop} {Q : Exit → Act → World → Prop} {E0 : Prop} (hgd : o.guard = none) (s x : Operand) (t : TypeId)
    (ho : o.op = .call { callee := .builtin .append, args := #[s, x], argTypes := #[t, t] })
    {E : TypeId} {bytes : Nat} (ok : ElemOK P t E (Enc.k α) bytes) (hk0 : 0 < Enc.k α) {B : Nat} {v : Value} {xs : List α} (hs : a.eval s = v) (hown : OwnL w B E v xs)
    {A : Option Addr} {m c : Nat} {ys : List α} {S : Nat → Prop} (hx : a.eval x = .slice A m c) (hr : SlS S w A m c ys) (hE : ∀ (y : α) (cs : List Value), y ∈ ys → Enc.R S w y cs → Enc.R (fun b => v.ownBlock ≠ some b) w y cs)
    (h63 : xs.length + m ≤ maxLen) (hbytes : (xs.length + m) * bytes ≤ 140737488355328) (hbase : B ≤ w.heap.size)
    (h : ∀ v' w', OwnL w' B E v' (xs ++ ys) → w.grownBy w' v.ownBlock → (v'.ownBlock = v.ownBlock ∨ v'.ownBlock = some w.heap.size) → K (a.put o.dst v') w') :
    if Region.wanted o (yielded ops a.tmps) = true then Oper.wp P o a w K Q else E0 := by
  have hw : Region.wanted o (yielded ops a.tmps) = true := by simp [Region.wanted, hgd]
  rw [if_pos hw]
  exact wp_append_L s x t ho ok hk0 hs hown hx hr hE h63 hbytes hbase h
end Go.Proofs.YthmlnffponjikaaGreatDoor
namespace Go.Proofs.YthmlnffponjikaaGreatDoor
open Go.RowKit

def titleCells (x : Title) : List Value := [.int .i64 x.space, .string x.name]
def ancUpto (t : Title) (q : Nat) : List Title := ((List.range q).filter (fun i => t.name.data.toList[i]? == some 47)).map (fun i => ⟨t.space, t.name.extract 0 i⟩)
def ancL (t : Title) : List Title := if t.valid then ancUpto t t.name.size else []
theorem ancUpto_yes {t : Title} {q : Nat} (hq : q < t.name.size) (h : (t.name[q].toNat : Int) = 47) : ancUpto t (q + 1) = ancUpto t q ++ [⟨t.space, t.name.extract 0 q⟩] := by
  have h2 : t.name.data.toList[q]? = some t.name[q] := List.getElem?_eq_getElem (by rw [Array.length_toList]; exact hq)
  have h3 : t.name[q] = 47 := UInt8.toNat_inj.1 (by show _ = 47; omega)
  have h4 : (fun i => t.name.data.toList[i]? == some 47) q = true := by show (t.name.data.toList[q]? == some 47) = true; rw [h2, h3]; rfl
  unfold ancUpto
  rw [List.range_succ, List.filter_append, List.map_append, List.filter_cons_of_pos (p := fun i => t.name.data.toList[i]? == some 47) h4]
  rfl
theorem ancUpto_no {t : Title} {q : Nat} (hq : q < t.name.size) (h : ¬ (t.name[q].toNat : Int) = 47) : ancUpto t (q + 1) = ancUpto t q := by
  have h2 : t.name.data.toList[q]? = some t.name[q] := List.getElem?_eq_getElem (by rw [Array.length_toList]; exact hq)
  have h3 : ¬ t.name[q] = 47 := fun e => h (by rw [e]; rfl)
  have h4 : ¬ (fun i => t.name.data.toList[i]? == some 47) q = true := by show ¬ (t.name.data.toList[q]? == some 47) = true; rw [h2]; simpa using h3
  unfold ancUpto
  rw [List.range_succ, List.filter_append, List.map_append, List.filter_cons_of_neg (p := fun i => t.name.data.toList[i]? == some 47) h4]
  simp
theorem ancUpto_len (t : Title) (q : Nat) : (ancUpto t q).length ≤ q := by
  unfold ancUpto
  rw [List.length_map]
  exact Nat.le_trans (List.length_filter_le _ _) (by simp)
theorem okTitles : ElemOK Tryz.prog 81 34 (Enc.k Title) 24 := elemOK Tryz.underlying81 (by kernel_rfl)
theorem refValidG_any (t : Title) (w : World) (_ : Glob w) : Calls Tryz.prog 45 #[.agg #[.int .i64 t.space, .string t.name]] w fun e w' => e = .returned (.bool t.valid) ∧ Below w.heap.size w w' := refValid_any t w
set_option maxRecDepth 100000 in
set_option maxHeartbeats 2000000 in
theorem refAncestors_any (t : Title) (w : World) (hG : Glob w) : Calls Tryz.prog 168 #[.agg #[.int .i64 t.space, .string t.name]] w fun e w' => ∃ v, e = .returned v ∧ OwnL w' w.heap.size 34 v (ancL t) ∧ Below w.heap.size w w' := by
  have HV : Hid (t.valid = true → t.name.size ≤ 100) := Lib.hid fun h => by
    simp only [Title.valid, Bool.and_eq_true, decide_eq_true_eq] at h
    omega
  have HA : Hid (ancL t = if t.valid then ancUpto t t.name.size else []) := Lib.hid rfl
  obtain ⟨sp, s⟩ := t
  go_enter Tryz.func168, Tryz.ntmps168
  go_wp2_with fail
  generalize hw1 : w.alloc _ = w1
  have c0_0 : w1.cell? ⟨w.heap.size, 0, none⟩ = some (.int .i64 sp) := by subst hw1; go_simp
  have c0_1 : w1.cell? ⟨w.heap.size, 1, none⟩ = some (.string s) := by subst hw1; go_simp
  have HB : Hid (Below w.heap.size w w1) := by subst hw1; exact Below.al (Below.refl _ _) _
  clear hw1
  have HF : Hid (∀ W, Below w1.heap.size w1 W → W.cell? ⟨w.heap.size, 0, none⟩ = some (.int .i64 sp) ∧ W.cell? ⟨w.heap.size, 1, none⟩ = some (.string s)) := fun W h => ⟨re1 h (cell_lt c0_0) c0_0, re1 h (cell_lt c0_1) c0_1⟩
  refine (refValidG_any ⟨sp, s⟩ _ (hG.below HB.out)).mono ?_
  rintro e w2 ⟨rfl, hb2⟩
  try clear c0_0 c0_1
  obtain ⟨c0_0, c0_1⟩ := HF.out _ (hb2)
  have HB2 := Lib.hid (Below.tr HB.out hb2)
  clear hb2 HB HF
  by_cases hv : Title.valid ⟨sp, s⟩ = true
  case neg =>
    have hv : Title.valid ⟨sp, s⟩ = false := by simpa using hv
    rw [hv] at HA ⊢
    clear hv HV
    go_wp2
    go_ret
    exact ⟨_, rfl, by rw [HA.out]; exact OwnL.nil _ _ _, HB2.out⟩
  have hs := HV.out hv
  rw [hv] at HA ⊢
  clear hv HV
  go_wp2_with fail
  go_loopw [3, 4] (fun l i wr => ∃ q : Nat, q ≤ s.size ∧ i = .int .i64 q ∧ Below w2.heap.size w2 wr ∧ OwnL wr w2.heap.size 34 l (ancUpto ⟨sp, s⟩ q)) (fun _ i _ => s.size - (intOf i).toNat)
  case atStart => exact ⟨0, by omega, rfl, Below.refl _ _, OwnL.nil _ _ _⟩
  case round =>
    obtain ⟨q, hq, rfl, hbw, hown⟩ := hrel
    have HQ := Lib.hid hbw
    have HW := Lib.hid hown
    have e0 := re1 HQ.out (cell_lt c0_0) c0_0
    have e1 := re1 HQ.out (cell_lt c0_1) c0_1
    clear hbw hown
    by_cases hlt : q < s.size
    · have b1 : (0 : Int) ≤ q := by omega
      have b2 : (q : Int) < (s.size : Int) := by omega
      by_cases h47 : (s[q].toNat : Int) = 47
      · have hl := ancUpto_len ⟨sp, s⟩ q
        have HL := Lib.hid (ancUpto_yes (t := ⟨sp, s⟩) hlt h47)
        have B3 : Hid ((ancUpto ⟨sp, s⟩ q).length + 1 ≤ maxLen) := Lib.hid (by unfold maxLen; omega)
        have B4 : Hid (((ancUpto ⟨sp, s⟩ q).length + 1) * 24 ≤ 140737488355328) := Lib.hid (by omega)
        have hg : w2.heap.size ≤ wr.heap.size := HQ.out.size
        clear hl
        generalize ancUpto ⟨sp, s⟩ q = L at *
        go_upto_region 8 with fail
        go_region_law (refine step_append_L rfl _ _ 81 rfl okTitles (by decide) (B := w2.heap.size) (v := u3) (xs := L) rfl (by first | exact HW.out.drew.al _ | exact (HW.out.al _).drew) (S := fun _ => True) (ys := [(⟨sp, s.extract 0 q⟩ : Title)]) rfl (by first | exact SlR.made titleCells (fun _ _ _ => rfl) _ _ (xs := [(⟨sp, s.extract 0 q⟩ : Title)]) rfl rfl (show 1 ≤ 9223372036854775807 by omega) rfl | exact SlR.drew (SlR.made titleCells (fun _ _ _ => rfl) _ _ (xs := [(⟨sp, s.extract 0 q⟩ : Title)]) rfl rfl (show 1 ≤ 9223372036854775807 by omega) rfl)) (fun _ _ _ h => h) B3.out B4.out (by simp; omega) ?_; intro v' w' hown hg2 hv')
        all_goals
          go_wp2
          refine ⟨⟨q + 1, by omega, by go_num, ?_, by rw [HL.out]; exact hown⟩, by simp [intOf]; omega⟩
          refine Below.grown ?_ hg2 (by simp; omega) (fun j hj => HW.out.ge hj)
          exact (HQ.out.alloc hg _).drew
      · have HL := Lib.hid (ancUpto_no (t := ⟨sp, s⟩) hlt h47)
        go_wp2
        go_roundw
        case rel => exact ⟨q + 1, by omega, by go_num, HQ.out, by rw [HL.out]; exact HW.out⟩
        case measure => simp [intOf]; omega
    · obtain rfl : q = s.size := by omega
      go_wp2
      go_ret
      refine ⟨_, rfl, ?_, Below.tr HB2.out HQ.out⟩
      rw [HA.out, if_pos trivial]
      exact HW.out.base HB2.out.size
set_option maxRecDepth 100000 in
set_option maxHeartbeats 2000000 in
theorem ancestors_any (t : Title) (w : World) (hG : Glob w) : Calls Tryz.prog 155 #[.agg #[.int .i64 t.space, .string t.name]] w fun e w' => ∃ v, e = .returned v ∧ OwnL w' w.heap.size 34 v (ancL t) ∧ Below w.heap.size w w' := by
  have HV : Hid (t.valid = true → t.name.size ≤ 100) := Lib.hid fun h => by
    simp only [Title.valid, Bool.and_eq_true, decide_eq_true_eq] at h
    omega
  have HA : Hid (ancL t = if t.valid then ancUpto t t.name.size else []) := Lib.hid rfl
  obtain ⟨sp, s⟩ := t
  go_enter Tryz.func155, Tryz.ntmps155
  go_wp2_with fail
  generalize hw1 : w.alloc _ = w1
  have c0_0 : w1.cell? ⟨w.heap.size, 0, none⟩ = some (.int .i64 sp) := by subst hw1; go_simp
  have c0_1 : w1.cell? ⟨w.heap.size, 1, none⟩ = some (.string s) := by subst hw1; go_simp
  have HB : Hid (Below w.heap.size w w1) := by subst hw1; exact Below.al (Below.refl _ _) _
  clear hw1
  have HF : Hid (∀ W, Below w1.heap.size w1 W → W.cell? ⟨w.heap.size, 0, none⟩ = some (.int .i64 sp) ∧ W.cell? ⟨w.heap.size, 1, none⟩ = some (.string s)) := fun W h => ⟨re1 h (cell_lt c0_0) c0_0, re1 h (cell_lt c0_1) c0_1⟩
  refine (valid_any ⟨sp, s⟩ _ (hG.below HB.out)).mono ?_
  rintro e w2 ⟨rfl, hb2⟩
  try clear c0_0 c0_1
  obtain ⟨c0_0, c0_1⟩ := HF.out _ (hb2)
  have HB2 := Lib.hid (Below.tr HB.out hb2)
  clear hb2 HB HF
  by_cases hv : Title.valid ⟨sp, s⟩ = true
  case neg =>
    have hv : Title.valid ⟨sp, s⟩ = false := by simpa using hv
    rw [hv] at HA ⊢
    clear hv HV
    go_wp2
    go_ret
    exact ⟨_, rfl, by rw [HA.out]; exact OwnL.nil _ _ _, HB2.out⟩
  have hs := HV.out hv
  rw [hv] at HA ⊢
  clear hv HV
  go_wp2_with fail
  go_loopw [3, 4] (fun l i wr => ∃ q : Nat, q ≤ s.size ∧ i = .int .i64 q ∧ Below w2.heap.size w2 wr ∧ OwnL wr w2.heap.size 34 l (ancUpto ⟨sp, s⟩ q)) (fun _ i _ => s.size - (intOf i).toNat)
  case atStart => exact ⟨0, by omega, rfl, Below.refl _ _, OwnL.nil _ _ _⟩
  case round =>
    obtain ⟨q, hq, rfl, hbw, hown⟩ := hrel
    have HQ := Lib.hid hbw
    have HW := Lib.hid hown
    have e0 := re1 HQ.out (cell_lt c0_0) c0_0
    have e1 := re1 HQ.out (cell_lt c0_1) c0_1
    clear hbw hown
    by_cases hlt : q < s.size
    · have b1 : (0 : Int) ≤ q := by omega
      have b2 : (q : Int) < (s.size : Int) := by omega
      by_cases h47 : (s[q].toNat : Int) = 47
      · have hl := ancUpto_len ⟨sp, s⟩ q
        have HL := Lib.hid (ancUpto_yes (t := ⟨sp, s⟩) hlt h47)
        have B3 : Hid ((ancUpto ⟨sp, s⟩ q).length + 1 ≤ maxLen) := Lib.hid (by unfold maxLen; omega)
        have B4 : Hid (((ancUpto ⟨sp, s⟩ q).length + 1) * 24 ≤ 140737488355328) := Lib.hid (by omega)
        have hg : w2.heap.size ≤ wr.heap.size := HQ.out.size
        clear hl
        generalize ancUpto ⟨sp, s⟩ q = L at *
        go_upto_region 8 with fail
        go_region_law (refine step_append_L rfl _ _ 81 rfl okTitles (by decide) (B := w2.heap.size) (v := u3) (xs := L) rfl (by first | exact HW.out.drew.al _ | exact (HW.out.al _).drew) (S := fun _ => True) (ys := [(⟨sp, s.extract 0 q⟩ : Title)]) rfl (by first | exact SlR.made titleCells (fun _ _ _ => rfl) _ _ (xs := [(⟨sp, s.extract 0 q⟩ : Title)]) rfl rfl (show 1 ≤ 9223372036854775807 by omega) rfl | exact SlR.drew (SlR.made titleCells (fun _ _ _ => rfl) _ _ (xs := [(⟨sp, s.extract 0 q⟩ : Title)]) rfl rfl (show 1 ≤ 9223372036854775807 by omega) rfl)) (fun _ _ _ h => h) B3.out B4.out (by simp; omega) ?_; intro v' w' hown hg2 hv')
        all_goals
          go_wp2
          refine ⟨⟨q + 1, by omega, by go_num, ?_, by rw [HL.out]; exact hown⟩, by simp [intOf]; omega⟩
          refine Below.grown ?_ hg2 (by simp; omega) (fun j hj => HW.out.ge hj)
          exact (HQ.out.alloc hg _).drew
      · have HL := Lib.hid (ancUpto_no (t := ⟨sp, s⟩) hlt h47)
        go_wp2
        go_roundw
        case rel => exact ⟨q + 1, by omega, by go_num, HQ.out, by rw [HL.out]; exact HW.out⟩
        case measure => simp [intOf]; omega
    · obtain rfl : q = s.size := by omega
      go_wp2
      go_ret
      refine ⟨_, rfl, ?_, Below.tr HB2.out HQ.out⟩
      rw [HA.out, if_pos trivial]
      exact HW.out.base HB2.out.size
end Go.Proofs.YthmlnffponjikaaGreatDoor
namespace Go.Proofs.YthmlnffponjikaaGreatDoor
open Go.RowKit
theorem titleEql (a b : Title) (W : World) : (binOp .eql 34 (.agg #[.int .i64 a.space, .string a.name]) (.agg #[.int .i64 b.space, .string b.name])).run Tryz.prog W = .ok (.bool (decide (a = b))) W := by
  have e : (if a.space = b.space then if a.name.toList = b.name.toList then true else false else false) = (decide (a = b)) := by
    obtain ⟨a1, a2⟩ := a
    obtain ⟨b1, b2⟩ := b
    simp only [Title.mk.injEq, toList_iff]
    (repeat' split) <;> simp_all
  rw [← e]
  go_simp
  (repeat' split) <;> simp_all
theorem titleNeq (a b : Title) (W : World) : (binOp .neq 34 (.agg #[.int .i64 a.space, .string a.name]) (.agg #[.int .i64 b.space, .string b.name])).run Tryz.prog W = .ok (.bool (!decide (a = b))) W := by
  have e : (if a.space = b.space then if a.name.toList = b.name.toList then false else true else true) = (!decide (a = b)) := by
    obtain ⟨a1, a2⟩ := a
    obtain ⟨b1, b2⟩ := b
    simp only [Title.mk.injEq, toList_iff]
    (repeat' split) <;> simp_all
  rw [← e]
  go_simp
  (repeat' split) <;> simp_all
theorem keyEql (a b : Key) (W : World) : (binOp .eql 36 (.agg #[.int .i64 a.kind, .int .i64 a.title.space, .string a.title.name, .int .i64 a.n]) (.agg #[.int .i64 b.kind, .int .i64 b.title.space, .string b.title.name, .int .i64 b.n])).run Tryz.prog W = .ok (.bool (decide (a = b))) W := by
  have e : (if a.kind = b.kind then if a.title.space = b.title.space then if a.title.name.toList = b.title.name.toList then if a.n = b.n then true else false else false else false else false) = (decide (a = b)) := by
    obtain ⟨a1, ⟨a2, a3⟩, a4⟩ := a
    obtain ⟨b1, ⟨b2, b3⟩, b4⟩ := b
    simp only [Key.mk.injEq, Title.mk.injEq, toList_iff]
    (repeat' split) <;> simp_all
  rw [← e]
  go_simp
  (repeat' split) <;> simp_all
theorem keyNeq (a b : Key) (W : World) : (binOp .neq 36 (.agg #[.int .i64 a.kind, .int .i64 a.title.space, .string a.title.name, .int .i64 a.n]) (.agg #[.int .i64 b.kind, .int .i64 b.title.space, .string b.title.name, .int .i64 b.n])).run Tryz.prog W = .ok (.bool (!decide (a = b))) W := by
  have e : (if a.kind = b.kind then if a.title.space = b.title.space then if a.title.name.toList = b.title.name.toList then if a.n = b.n then false else true else true else true else true) = (!decide (a = b)) := by
    obtain ⟨a1, ⟨a2, a3⟩, a4⟩ := a
    obtain ⟨b1, ⟨b2, b3⟩, b4⟩ := b
    simp only [Key.mk.injEq, Title.mk.injEq, toList_iff]
    (repeat' split) <;> simp_all
  rw [← e]
  go_simp
  (repeat' split) <;> simp_all
theorem answerEql (a b : Answer) (W : World) : (binOp .eql 51 (.agg #[.bool a.ok, .string a.text, .int .i64 a.n]) (.agg #[.bool b.ok, .string b.text, .int .i64 b.n])).run Tryz.prog W = .ok (.bool (decide (a = b))) W := by
  have e : (if a.ok = b.ok then if a.text.toList = b.text.toList then if a.n = b.n then true else false else false else false) = (decide (a = b)) := by
    obtain ⟨a1, a2, a3⟩ := a
    obtain ⟨b1, b2, b3⟩ := b
    simp only [Answer.mk.injEq, toList_iff]
    (repeat' split) <;> simp_all
  rw [← e]
  go_simp
  (repeat' split) <;> simp_all
theorem answerNeq (a b : Answer) (W : World) : (binOp .neq 51 (.agg #[.bool a.ok, .string a.text, .int .i64 a.n]) (.agg #[.bool b.ok, .string b.text, .int .i64 b.n])).run Tryz.prog W = .ok (.bool (!decide (a = b))) W := by
  have e : (if a.ok = b.ok then if a.text.toList = b.text.toList then if a.n = b.n then false else true else true else true) = (!decide (a = b)) := by
    obtain ⟨a1, a2, a3⟩ := a
    obtain ⟨b1, b2, b3⟩ := b
    simp only [Answer.mk.injEq, toList_iff]
    (repeat' split) <;> simp_all
  rw [← e]
  go_simp
  (repeat' split) <;> simp_all
theorem askedEql (a b : Asked) (W : World) : (binOp .eql 70 (.agg #[.int .i64 a.key.kind, .int .i64 a.key.title.space, .string a.key.title.name, .int .i64 a.key.n, .bool a.answer.ok, .string a.answer.text, .int .i64 a.answer.n]) (.agg #[.int .i64 b.key.kind, .int .i64 b.key.title.space, .string b.key.title.name, .int .i64 b.key.n, .bool b.answer.ok, .string b.answer.text, .int .i64 b.answer.n])).run Tryz.prog W = .ok (.bool (decide (a = b))) W := by
  have e : (if a.key.kind = b.key.kind then if a.key.title.space = b.key.title.space then if a.key.title.name.toList = b.key.title.name.toList then if a.key.n = b.key.n then if a.answer.ok = b.answer.ok then if a.answer.text.toList = b.answer.text.toList then if a.answer.n = b.answer.n then true else false else false else false else false else false else false else false) = (decide (a = b)) := by
    obtain ⟨⟨a1, ⟨a2, a3⟩, a4⟩, ⟨a5, a6, a7⟩⟩ := a
    obtain ⟨⟨b1, ⟨b2, b3⟩, b4⟩, ⟨b5, b6, b7⟩⟩ := b
    simp only [Answer.mk.injEq, Asked.mk.injEq, Key.mk.injEq, Title.mk.injEq, toList_iff]
    (repeat' split) <;> simp_all
  rw [← e]
  go_simp
  (repeat' split) <;> simp_all
theorem askedNeq (a b : Asked) (W : World) : (binOp .neq 70 (.agg #[.int .i64 a.key.kind, .int .i64 a.key.title.space, .string a.key.title.name, .int .i64 a.key.n, .bool a.answer.ok, .string a.answer.text, .int .i64 a.answer.n]) (.agg #[.int .i64 b.key.kind, .int .i64 b.key.title.space, .string b.key.title.name, .int .i64 b.key.n, .bool b.answer.ok, .string b.answer.text, .int .i64 b.answer.n])).run Tryz.prog W = .ok (.bool (!decide (a = b))) W := by
  have e : (if a.key.kind = b.key.kind then if a.key.title.space = b.key.title.space then if a.key.title.name.toList = b.key.title.name.toList then if a.key.n = b.key.n then if a.answer.ok = b.answer.ok then if a.answer.text.toList = b.answer.text.toList then if a.answer.n = b.answer.n then false else true else true else true else true else true else true else true) = (!decide (a = b)) := by
    obtain ⟨⟨a1, ⟨a2, a3⟩, a4⟩, ⟨a5, a6, a7⟩⟩ := a
    obtain ⟨⟨b1, ⟨b2, b3⟩, b4⟩, ⟨b5, b6, b7⟩⟩ := b
    simp only [Answer.mk.injEq, Asked.mk.injEq, Key.mk.injEq, Title.mk.injEq, toList_iff]
    (repeat' split) <;> simp_all
  rw [← e]
  go_simp
  (repeat' split) <;> simp_all
theorem scopeEql (a b : Scope) (W : World) : (binOp .eql 87 (.agg #[.int .i64 a.kind, .int .i64 a.title.space, .string a.title.name]) (.agg #[.int .i64 b.kind, .int .i64 b.title.space, .string b.title.name])).run Tryz.prog W = .ok (.bool (decide (a = b))) W := by
  have e : (if a.kind = b.kind then if a.title.space = b.title.space then if a.title.name.toList = b.title.name.toList then true else false else false else false) = (decide (a = b)) := by
    obtain ⟨a1, ⟨a2, a3⟩⟩ := a
    obtain ⟨b1, ⟨b2, b3⟩⟩ := b
    simp only [Scope.mk.injEq, Title.mk.injEq, toList_iff]
    (repeat' split) <;> simp_all
  rw [← e]
  go_simp
  (repeat' split) <;> simp_all
theorem scopeNeq (a b : Scope) (W : World) : (binOp .neq 87 (.agg #[.int .i64 a.kind, .int .i64 a.title.space, .string a.title.name]) (.agg #[.int .i64 b.kind, .int .i64 b.title.space, .string b.title.name])).run Tryz.prog W = .ok (.bool (!decide (a = b))) W := by
  have e : (if a.kind = b.kind then if a.title.space = b.title.space then if a.title.name.toList = b.title.name.toList then false else true else true else true) = (!decide (a = b)) := by
    obtain ⟨a1, ⟨a2, a3⟩⟩ := a
    obtain ⟨b1, ⟨b2, b3⟩⟩ := b
    simp only [Scope.mk.injEq, Title.mk.injEq, toList_iff]
    (repeat' split) <;> simp_all
  rw [← e]
  go_simp
  (repeat' split) <;> simp_all
theorem ruleEql (a b : Rule) (W : World) : (binOp .eql 89 (.agg #[.bool a.allow, .int .i64 a.right, .string a.group, .int .i64 a.scope.kind, .int .i64 a.scope.title.space, .string a.scope.title.name]) (.agg #[.bool b.allow, .int .i64 b.right, .string b.group, .int .i64 b.scope.kind, .int .i64 b.scope.title.space, .string b.scope.title.name])).run Tryz.prog W = .ok (.bool (decide (a = b))) W := by
  have e : (if a.allow = b.allow then if a.right = b.right then if a.group.toList = b.group.toList then if a.scope.kind = b.scope.kind then if a.scope.title.space = b.scope.title.space then if a.scope.title.name.toList = b.scope.title.name.toList then true else false else false else false else false else false else false) = (decide (a = b)) := by
    obtain ⟨a1, a2, a3, ⟨a4, ⟨a5, a6⟩⟩⟩ := a
    obtain ⟨b1, b2, b3, ⟨b4, ⟨b5, b6⟩⟩⟩ := b
    simp only [Rule.mk.injEq, Scope.mk.injEq, Title.mk.injEq, toList_iff]
    (repeat' split) <;> simp_all
  rw [← e]
  go_simp
  (repeat' split) <;> simp_all
theorem ruleNeq (a b : Rule) (W : World) : (binOp .neq 89 (.agg #[.bool a.allow, .int .i64 a.right, .string a.group, .int .i64 a.scope.kind, .int .i64 a.scope.title.space, .string a.scope.title.name]) (.agg #[.bool b.allow, .int .i64 b.right, .string b.group, .int .i64 b.scope.kind, .int .i64 b.scope.title.space, .string b.scope.title.name])).run Tryz.prog W = .ok (.bool (!decide (a = b))) W := by
  have e : (if a.allow = b.allow then if a.right = b.right then if a.group.toList = b.group.toList then if a.scope.kind = b.scope.kind then if a.scope.title.space = b.scope.title.space then if a.scope.title.name.toList = b.scope.title.name.toList then false else true else true else true else true else true else true) = (!decide (a = b)) := by
    obtain ⟨a1, a2, a3, ⟨a4, ⟨a5, a6⟩⟩⟩ := a
    obtain ⟨b1, b2, b3, ⟨b4, ⟨b5, b6⟩⟩⟩ := b
    simp only [Rule.mk.injEq, Scope.mk.injEq, Title.mk.injEq, toList_iff]
    (repeat' split) <;> simp_all
  rw [← e]
  go_simp
  (repeat' split) <;> simp_all
theorem guardEql (a b : Guard) (W : World) : (binOp .eql 139 (.agg #[.bool a.strict, .string a.group, .int .i64 a.title.space, .string a.title.name, .string a.section_]) (.agg #[.bool b.strict, .string b.group, .int .i64 b.title.space, .string b.title.name, .string b.section_])).run Tryz.prog W = .ok (.bool (decide (a = b))) W := by
  have e : (if a.strict = b.strict then if a.group.toList = b.group.toList then if a.title.space = b.title.space then if a.title.name.toList = b.title.name.toList then if a.section_.toList = b.section_.toList then true else false else false else false else false else false) = (decide (a = b)) := by
    obtain ⟨a1, a2, ⟨a3, a4⟩, a5⟩ := a
    obtain ⟨b1, b2, ⟨b3, b4⟩, b5⟩ := b
    simp only [Guard.mk.injEq, Title.mk.injEq, toList_iff]
    (repeat' split) <;> simp_all
  rw [← e]
  go_simp
  (repeat' split) <;> simp_all
theorem guardNeq (a b : Guard) (W : World) : (binOp .neq 139 (.agg #[.bool a.strict, .string a.group, .int .i64 a.title.space, .string a.title.name, .string a.section_]) (.agg #[.bool b.strict, .string b.group, .int .i64 b.title.space, .string b.title.name, .string b.section_])).run Tryz.prog W = .ok (.bool (!decide (a = b))) W := by
  have e : (if a.strict = b.strict then if a.group.toList = b.group.toList then if a.title.space = b.title.space then if a.title.name.toList = b.title.name.toList then if a.section_.toList = b.section_.toList then false else true else true else true else true else true) = (!decide (a = b)) := by
    obtain ⟨a1, a2, ⟨a3, a4⟩, a5⟩ := a
    obtain ⟨b1, b2, ⟨b3, b4⟩, b5⟩ := b
    simp only [Guard.mk.injEq, Title.mk.injEq, toList_iff]
    (repeat' split) <;> simp_all
  rw [← e]
  go_simp
  (repeat' split) <;> simp_all
theorem pageEql (a b : Page) (W : World) : (binOp .eql 49 (.agg #[.int .i64 a.title.space, .string a.title.name, .string a.text, .int .i64 a.revision]) (.agg #[.int .i64 b.title.space, .string b.title.name, .string b.text, .int .i64 b.revision])).run Tryz.prog W = .ok (.bool (decide (a = b))) W := by
  have e : (if a.title.space = b.title.space then if a.title.name.toList = b.title.name.toList then if a.text.toList = b.text.toList then if a.revision = b.revision then true else false else false else false else false) = (decide (a = b)) := by
    obtain ⟨⟨a1, a2⟩, a3, a4⟩ := a
    obtain ⟨⟨b1, b2⟩, b3, b4⟩ := b
    simp only [Page.mk.injEq, Title.mk.injEq, toList_iff]
    (repeat' split) <;> simp_all
  rw [← e]
  go_simp
  (repeat' split) <;> simp_all
theorem pageNeq (a b : Page) (W : World) : (binOp .neq 49 (.agg #[.int .i64 a.title.space, .string a.title.name, .string a.text, .int .i64 a.revision]) (.agg #[.int .i64 b.title.space, .string b.title.name, .string b.text, .int .i64 b.revision])).run Tryz.prog W = .ok (.bool (!decide (a = b))) W := by
  have e : (if a.title.space = b.title.space then if a.title.name.toList = b.title.name.toList then if a.text.toList = b.text.toList then if a.revision = b.revision then false else true else true else true else true) = (!decide (a = b)) := by
    obtain ⟨⟨a1, a2⟩, a3, a4⟩ := a
    obtain ⟨⟨b1, b2⟩, b3, b4⟩ := b
    simp only [Page.mk.injEq, Title.mk.injEq, toList_iff]
    (repeat' split) <;> simp_all
  rw [← e]
  go_simp
  (repeat' split) <;> simp_all
end Go.Proofs.YthmlnffponjikaaGreatDoor
namespace Go.Proofs.YthmlnffponjikaaGreatDoor
open Go.RowKit

theorem SlR.strCells {w : World} {A : Option Addr} {n c : Nat} {xs : List ByteArray} (h : SlR w A n c xs) (h0 : 0 < n) : ∃ b off, A = some ⟨b, off, none⟩ ∧ ∀ j, j < xs.length → w.cell? ⟨b, off + j, none⟩ = some (.string (xs.getD j ByteArray.empty)) := by
  obtain ⟨b, off, css, hA, _, _, hx⟩ := h.2.2.2 h0
  refine ⟨b, off, hA, fun j hj => ?_⟩
  obtain ⟨hR, hc⟩ := hx j xs[j] (List.getElem?_eq_getElem hj)
  have hR' : css j = [.string xs[j]] := hR
  have := hc 0 _ (by rw [hR']; rfl)
  rw [List.getD_eq_getElem?_getD, List.getElem?_eq_getElem hj, Option.getD_some]
  simpa using this
theorem hasL_contains (L : List ByteArray) (s : ByteArray) : Lib.containsS L s = hasL L s := by
  unfold hasL
  rw [Bool.eq_iff_iff, Lib.containsS_iff, List.any_eq_true]
  exact ⟨fun h => ⟨s, h, by simp⟩, fun ⟨x, hx, he⟩ => by rw [← of_decide_eq_true he]; exact hx⟩
theorem contains_any (A : Option Addr) (n c : Nat) (L : List ByteArray) (s : ByteArray) (w : World) (hS : SlR w A n c L) : Calls Tryz.prog 105 #[.slice A n c, .string s] w fun e w' => e = .returned (.bool (hasL L s)) ∧ w' = w := by
  have hn := hS.1
  have hle := hS.le
  rcases Nat.eq_zero_or_pos n with h0 | h0
  · subst h0
    obtain rfl : L = [] := List.eq_nil_of_length_eq_zero hn.symm
    exact Tryz.slices_Contains_string_empty A c s w
  · obtain ⟨b, off, rfl, hc⟩ := hS.strCells h0
    refine (Tryz.slices_Contains_string b off n c L s w (by omega) (by omega) hc).mono ?_
    rintro e w' ⟨rfl, rfl⟩
    exact ⟨by rw [List.take_of_length_le (by omega), hasL_contains], rfl⟩
end Go.Proofs.YthmlnffponjikaaGreatDoor
namespace Go.Proofs.YthmlnffponjikaaGreatDoor
open Go.RowKit

def matchB (a b : Scope) : Bool := decide (a.kind = b.kind) && (if a.kind = 3 then decide (a.title = b.title) else if a.kind = 2 then decide (a.title.space = b.title.space) else true)
theorem match_no {a b : Scope} (h : ¬ a.kind = b.kind) : matchB a b = false := by unfold matchB; rw [decide_eq_false h, Bool.false_and]
theorem match_3 {a b : Scope} (h : a.kind = b.kind) (h3 : a.kind = 3) : matchB a b = decide (a.title = b.title) := by unfold matchB; rw [decide_eq_true h, if_pos h3, Bool.true_and]
theorem match_2 {a b : Scope} (h : a.kind = b.kind) (h3 : a.kind = 2) : matchB a b = decide (a.title.space = b.title.space) := by unfold matchB; rw [decide_eq_true h, if_neg (by omega), if_pos h3, Bool.true_and]
theorem match_1 {a b : Scope} (h : a.kind = b.kind) (h3 : ¬ a.kind = 3) (h2 : ¬ a.kind = 2) : matchB a b = true := by unfold matchB; rw [decide_eq_true h, if_neg h3, if_neg h2, Bool.true_and]
set_option maxRecDepth 100000 in
set_option maxHeartbeats 1000000 in
theorem matches_any (a b : Scope) (w : World) : Calls Tryz.prog 113 #[.agg #[.int .i64 a.kind, .int .i64 a.title.space, .string a.title.name], .agg #[.int .i64 b.kind, .int .i64 b.title.space, .string b.title.name]] w fun e w' => e = .returned (.bool (matchB a b)) ∧ Below w.heap.size w w' := by
  have HD : Hid (∀ x y : Title, x = y ↔ x.space = y.space ∧ x.name.toList = y.name.toList) := Lib.hid fun x y => by
    obtain ⟨x1, x2⟩ := x
    obtain ⟨y1, y2⟩ := y
    simp only [Title.mk.injEq, toList_iff]
  have HB : Hid (∀ o1 o2, Below w.heap.size w ((w.alloc o1).alloc o2)) := Lib.hid fun o1 o2 => Below.al (Below.al (Below.refl _ _) _) _
  go_enter Tryz.func113, Tryz.ntmps113
  go_wp2
  all_goals (try simp only [beq_iff_eq, beq_eq_false_iff_ne, bne_iff_ne, bne_eq_false_iff_eq, ne_eq] at *)
  all_goals
    go_ret
    refine ⟨ret_bool ?_, HB.out _ _⟩
    first
    | (rw [match_no (by assumption)]; done)
    | (rw [match_1 (by assumption) (by assumption) (by assumption)]; done)
    | (rw [match_2 (by assumption) (by assumption)]; first | rfl | simp_all)
    | (rw [match_3 (by assumption) (by assumption)]; refine (decide_eq_true ?_).symm; rw [HD.out]; constructor <;> assumption)
    | (rw [match_3 (by assumption) (by assumption)]; refine (decide_eq_false ?_).symm; rw [HD.out]; rintro ⟨h1, h2⟩; first | (exact absurd h1 (by assumption)) | (exact absurd h2 (by assumption)))
set_option maxRecDepth 100000 in
set_option maxHeartbeats 1000000 in
theorem covers_any (a b : Scope) (w : World) : Calls Tryz.prog 106 #[.agg #[.int .i64 a.kind, .int .i64 a.title.space, .string a.title.name], .agg #[.int .i64 b.kind, .int .i64 b.title.space, .string b.title.name]] w fun e w' => e = .returned (.bool (matchB a b)) ∧ Below w.heap.size w w' := by
  have HD : Hid (∀ x y : Title, x = y ↔ x.space = y.space ∧ x.name.toList = y.name.toList) := Lib.hid fun x y => by
    obtain ⟨x1, x2⟩ := x
    obtain ⟨y1, y2⟩ := y
    simp only [Title.mk.injEq, toList_iff]
  have HB : Hid (∀ o1 o2, Below w.heap.size w ((w.alloc o1).alloc o2)) := Lib.hid fun o1 o2 => Below.al (Below.al (Below.refl _ _) _) _
  go_enter Tryz.func106, Tryz.ntmps106
  go_wp2
  all_goals (try simp only [beq_iff_eq, beq_eq_false_iff_ne, bne_iff_ne, bne_eq_false_iff_eq, ne_eq] at *)
  all_goals
    go_ret
    refine ⟨ret_bool ?_, HB.out _ _⟩
    first
    | (rw [match_no (by assumption)]; done)
    | (rw [match_1 (by assumption) (by assumption) (by assumption)]; done)
    | (rw [match_2 (by assumption) (by assumption)]; first | rfl | simp_all)
    | (rw [match_3 (by assumption) (by assumption)]; refine (decide_eq_true ?_).symm; rw [HD.out]; constructor <;> assumption)
    | (rw [match_3 (by assumption) (by assumption)]; refine (decide_eq_false ?_).symm; rw [HD.out]; rintro ⟨h1, h2⟩; first | (exact absurd h1 (by assumption)) | (exact absurd h2 (by assumption)))
end Go.Proofs.YthmlnffponjikaaGreatDoor
namespace Go.Proofs.YthmlnffponjikaaGreatDoor
open VL Go.RowKit

theorem isName_c (s : ByteArray) (h : s.size ≤ 4611686018427387904) : Contract0 Tryz.prog 48 [.str s] (.bool (isName s)) :=
  contract_plain (vals := [.string s]) (by kernel_rfl) rfl rfl (fun x => .bool _) fun w _ => (refName_any s w h).mono fun e w' ⟨e1, e2⟩ => ⟨e1, e2 ▸ Below.refl _ _⟩
theorem name_c (s : ByteArray) (h : s.size ≤ 4611686018427387904) : Contract0 Tryz.prog 89 [.str s] (.bool (isName s)) :=
  contract_plain (vals := [.string s]) (by kernel_rfl) rfl rfl (fun x => .bool _) fun w _ => (name_any s w h).mono fun e w' ⟨e1, e2⟩ => ⟨e1, e2 ▸ Below.refl _ _⟩
theorem valid_c (t : Title) : Contract0 Tryz.prog 50 [t.pv] (.bool t.valid) :=
  contract_plain (vals := [.agg #[.int .i64 t.space, .string t.name]]) (by kernel_rfl) rfl rfl (fun x => .bool _) fun w hw => valid_any t w hw
theorem refValid_c (t : Title) : Contract0 Tryz.prog 45 [t.pv] (.bool t.valid) :=
  contract_plain (vals := [.agg #[.int .i64 t.space, .string t.name]]) (by kernel_rfl) rfl rfl (fun x => .bool _) fun w _ => refValid_any t w
theorem args2 {x : Ctx} {p q : PV} {vs : Array Value} (h : Pre x [p, q] none vs) : ∃ v w, vs = #[v, w] ∧ Rep x p v ∧ Rep x q w := by
  have hs : vs.size = 2 := h.size.symm
  refine ⟨vs[0], vs[1], ?_, h.rep 0 p _ rfl (Array.getElem?_eq_getElem (by omega)), h.rep 1 q _ rfl (Array.getElem?_eq_getElem (by omega))⟩
  apply Array.ext
  · exact hs
  · intro i h1 h2
    match i, (show i < 2 by omega) with
    | 0, _ => rfl
    | 1, _ => rfl
theorem str_rep {x : Ctx} {s : ByteArray} {v : Value} (h : Rep x (.str s) v) : v = .string s := by cases h; rfl
theorem has_c (L : List ByteArray) (s : ByteArray) : Contract0 Tryz.prog 112 [strsV L, .str s] (.bool (hasL L s)) :=
  contract_world (by kernel_rfl) rfl (fun x => .bool _) fun x vs hp _ => by
    obtain ⟨v, w, rfl, h1, h2⟩ := args2 hp
    obtain rfl := str_rep h2
    obtain ⟨A, n, c, rfl, hS⟩ := strs_of_rep hp.flt h1
    exact (refHas_any A n c L s x.W hS).mono fun e w' ⟨e1, e2⟩ => ⟨e1, e2 ▸ Below.refl _ _⟩
theorem contains_c (L : List ByteArray) (s : ByteArray) : Contract0 Tryz.prog 105 [strsV L, .str s] (.bool (hasL L s)) :=
  contract_world (by kernel_rfl) rfl (fun x => .bool _) fun x vs hp _ => by
    obtain ⟨v, w, rfl, h1, h2⟩ := args2 hp
    obtain rfl := str_rep h2
    obtain ⟨A, n, c, rfl, hS⟩ := strs_of_rep hp.flt h1
    exact (contains_any A n c L s x.W hS).mono fun e w' ⟨e1, e2⟩ => ⟨e1, e2 ▸ Below.refl _ _⟩
theorem refMatches_c (a b : Scope) : Contract0 Tryz.prog 113 [a.pv, b.pv] (.bool (matchB a b)) :=
  contract_plain (vals := [.agg #[.int .i64 a.kind, .int .i64 a.title.space, .string a.title.name], .agg #[.int .i64 b.kind, .int .i64 b.title.space, .string b.title.name]]) (by kernel_rfl) rfl rfl (fun x => .bool _) fun w _ => matches_any a b w
theorem covers_c (a b : Scope) : Contract0 Tryz.prog 106 [a.pv, b.pv] (.bool (matchB a b)) :=
  contract_plain (vals := [.agg #[.int .i64 a.kind, .int .i64 a.title.space, .string a.title.name], .agg #[.int .i64 b.kind, .int .i64 b.title.space, .string b.title.name]]) (by kernel_rfl) rfl rfl (fun x => .bool _) fun w _ => covers_any a b w
end Go.Proofs.YthmlnffponjikaaGreatDoor
namespace Go.Proofs.YthmlnffponjikaaGreatDoor
namespace VL
open Go.RowKit Go.Sort
section
variable {α : Type} [Inhabited α]
theorem flatK_list (enc : α → List Value) (k : Nat) (hk : ∀ x, (enc x).length = k) (M : List α) : (flatK enc k M.toArray).toList = M.flatMap enc := by
  have hlen : (M.flatMap enc).length = M.length * k := by
    induction M with
    | nil => simp
    | cons x M ih => simp [List.flatMap_cons, hk, ih, Nat.succ_mul]; omega
  apply List.ext_getElem?
  intro t
  by_cases ht : t < M.length * k
  · have hk0 : 0 < k := by rcases Nat.eq_zero_or_pos k with h | h
                           · subst h; simp at ht
                           · exact h
    have hi : t / k < M.length := Nat.div_lt_of_lt_mul (by rw [Nat.mul_comm]; exact ht)
    have hj : t % k < k := Nat.mod_lt _ hk0
    have e := flat_get enc k hk M (t / k) M[t / k] (t % k) ((enc M[t / k])[t % k]'(by rw [hk]; exact hj)) (List.getElem?_eq_getElem hi) (List.getElem?_eq_getElem (by rw [hk]; exact hj))
    rw [Nat.mul_comm (t / k) k, Nat.div_add_mod] at e
    rw [e]
    have h1 : t < (flatK enc k M.toArray).size := by rw [size_flatK]; simpa using ht
    have h2 := get_flatK enc k M.toArray t (by simpa using ht)
    rw [getElem!_pos _ t h1] at h2
    rw [Array.getElem?_toList, Array.getElem?_eq_getElem h1, h2, getElem!_pos M.toArray (t / k) (by simpa using hi)]
    simp only [List.getElem_toArray]
    rw [getElem!_pos (enc M[t / k]) (t % k) (by rw [hk]; exact hj)]
  · rw [List.getElem?_eq_none (l := (flatK enc k M.toArray).toList) (by simp; omega), List.getElem?_eq_none (l := M.flatMap enc) (by rw [hlen]; omega)]
theorem holdsK_own (enc : α → List Value) (k : Nat) (hk : ∀ x, (enc x).length = k) {w : World} {g : Nat} {cur : Array Value} {E : TypeId} {L : List α} (hb : w.heap[g]? = some (.cells cur E (0, 0))) (ht : cur.toList.take (L.length * k) = L.flatMap enc) : HoldsK enc k w g 0 L.toArray := by
  intro j hj
  have hj' : j < L.length * k := by simpa using hj
  refine ⟨?_, by simp [World.frozen?, hb]⟩
  have h1 : (cur.toList.take (L.length * k))[j]? = (flatK enc k L.toArray).toList[j]? := by rw [ht, flatK_list enc k hk]
  rw [List.getElem?_take_of_lt hj'] at h1
  simp only [World.cell?, hb, Nat.zero_add]
  simp only [Option.isSome_none, Bool.false_eq_true, if_false]
  rw [← Array.getElem?_toList, h1, Array.getElem?_toList, Array.getElem?_eq_getElem hj, getElem!_pos _ j hj]
  rfl
theorem own_putRowK (enc : α → List Value) (k : Nat) (hk : ∀ x, (enc x).length = k) {w : World} {g cap n : Nat} {cur : Array Value} {E : TypeId} {M : List α} (hb : w.heap[g]? = some (.cells cur E (0, 0))) (h1 : M.length ≤ cap) (h2 : cap ≤ maxLen) (h3 : cur.size = cap * k) :
    (putRowK enc k (Sort.ahead w n) g 0 M.toArray).ownsRow 0 E k (.slice (some ⟨g, 0, none⟩) M.length cap) M.length (M.flatMap enc) ∧ Gr (fun b => blk (.slice (some ⟨g, 0, none⟩) M.length cap) = some b) w (putRowK enc k (Sort.ahead w n) g 0 M.toArray) := by
  have hg : g < w.heap.size := (Array.getElem?_eq_some_iff.1 hb).1
  have hh : (putRowK enc k (Sort.ahead w n) g 0 M.toArray).heap[g]? = some (.cells (putCells id 0 (flatK enc k M.toArray) cur) E (0, 0)) := by
    simp [putRowK, putRow, mapBlock, Sort.ahead, Array.getElem?_modify, hb, onCells]
  have hlen : (M.flatMap enc).length = M.length * k := by rw [← flatK_list enc k hk M]; simp
  refine ⟨⟨hlen, .inr ⟨g, cap, _, rfl, Nat.zero_le _, hh, h1, h2, by simp [putCells, h3], ?_⟩⟩, rfl, rfl, rfl, by simp [putRowK, putRow, mapBlock, Sort.ahead], fun b hb' hne => ?_⟩
  · rw [← flatK_list enc k hk M]
    have hle : M.length * k ≤ cur.size := by rw [h3]; exact Nat.mul_le_mul_right _ h1
    apply List.ext_getElem?
    intro j
    by_cases hj : j < M.length * k
    · rw [List.getElem?_take_of_lt hj, Array.getElem?_toList, Array.getElem?_toList]
      simp [putCells, hj, show j < cur.size by omega]
    · rw [List.getElem?_take_eq_none (by omega), List.getElem?_eq_none (by simp; omega)]
  · have : g ≠ b := fun e => hne (by rw [e]; rfl)
    simp [putRowK, putRow, mapBlock, Sort.ahead, Array.getElem?_modify, this]
end
theorem plainL_append : ∀ {a b : List PV} {va vb : List Value}, plainL a = some va → plainL b = some vb → plainL (a ++ b) = some (va ++ vb)
  | [], b, va, vb, h, k => by
    injection h with h
    subst h
    exact k
  | p :: a, b, va, vb, h, k => by
    simp only [plainL] at h
    split at h
    · rename_i v vs h1 h2
      injection h with h
      subst h
      simp only [List.cons_append, plainL]
      rw [h1, plainL_append h2 k]
    · cases h
theorem plainL_flat {α : Type} {cs : α → List PV} {enc : α → List Value} (h : ∀ x, plainL (cs x) = some (enc x)) : ∀ (xs : List α), plainL (xs.map cs).flatten = some (xs.flatMap enc)
  | [] => rfl
  | x :: xs => by
    rw [List.map_cons, List.flatten_cons, List.flatMap_cons]
    exact plainL_append (h x) (plainL_flat h xs)
section
variable {P : Program} [WInv P]
/-- A function that hands back a list of its own. -/
theorem contractN_own {α : Type} [Enc α] [EncPV α] {f : FuncId} {args : List PV} {vals : List Value} {E : TypeId} {xs : List α} {enc : α → List Value} (hg : isGo P f = true) (hp : plainA args = some vals) (hpl : ∀ x : α, plainL (EncPV.cs x) = some (enc x))
    (hE : ∀ (S : Nat → Prop) (w : World) (x : α) (cs : List Value), Enc.R S w x cs → cs = enc x) (hk : ∀ x : α, (EncPV.cs x).length = Enc.k α)
    (h : ∀ w, WInv.I P w → Calls P f vals.toArray w fun e w' => ∃ v, e = .returned v ∧ OwnL w' w.heap.size E v xs ∧ Below w.heap.size w w') : ContractN P f args (.row E (Enc.k α) false (xs.map EncPV.cs)) := by
  refine ⟨hg, fun cs h => (by cases h), fun x vs hpre hI => ?_⟩
  have e : vs.toList = vals := plainA_rep args hp vs.toList (by simpa using hpre.size) fun i p v hp hv => hpre.rep i p v hp (by simpa using hv)
  obtain rfl : vs = vals.toArray := by rw [← e]
  refine (h x.W (hI x.W (Gr.refl _ _))).mono ?_
  rintro _ w' ⟨v, rfl, ⟨css, hl, hown, hR⟩, hb⟩
  let y : Ctx := ⟨fun g => g = (0, 0), x.F, w', fun _ => v⟩
  have hcss : css.flatten = xs.flatMap enc := by
    have : css = xs.map enc := by
      apply List.ext_getElem?
      intro i
      by_cases hi : i < xs.length
      · have h1 : xs[i]? = some xs[i] := List.getElem?_eq_getElem hi
        have h2 : css[i]? = some css[i] := List.getElem?_eq_getElem (by omega)
        rw [h2, List.getElem?_map, h1, hE _ _ _ _ (hR i _ _ h1 h2)]
        rfl
      · rw [List.getElem?_eq_none (by omega), List.getElem?_eq_none (by simp; omega)]
    rw [this]
    rfl
  have hpure : ∀ e ∈ xs.map EncPV.cs, ∀ p ∈ e, p.pure = true := fun e he p hpm => by
    obtain ⟨z, _, rfl⟩ := List.mem_map.1 he
    obtain ⟨j, hj⟩ := List.getElem?_of_mem hpm
    have := plainL_at (hpl z) hj
    obtain ⟨r, _, _⟩ := this
    have : ∀ (l : List PV) {vs : List Value}, plainL l = some vs → ∀ p ∈ l, p.pure = true := fun l => by
      induction l with
      | nil => intro vs _ p hp; cases hp
      | cons q l ih =>
        intro vs hq p hp
        simp only [plainL] at hq
        split at hq
        · rename_i v1 vs1 h1 h2
          rcases List.mem_cons.1 hp with rfl | hp
          · cases p <;> simp_all [plain1, PV.pure]
          · exact ih h2 p hp
        · cases hq
    exact this _ (hpl z) p hpm
  refine ⟨y, v, rfl, rfl, ⟨fun g hg => ?_, fun _ _ h => h, fun b o v hF hv => (World.cell?_of_block (hb.block b (hpre.flt b o hF))).trans hv⟩, Gr.ofBelow hb, fun _ _ h => .inl h, fun b o hF => Nat.lt_of_lt_of_le (hpre.flt b o hF) hb.size, (0, 0), rfl, fun e he => ?_, hpure, css.flatten, ?_, fun m p w hm hw => ?_, fun b hbk o hF => ?_⟩
  · obtain ⟨j, os, h, _⟩ := hpre.gen g hg
    cases h
  · obtain ⟨z, _, rfl⟩ := List.mem_map.1 he
    exact hk z
  · rw [List.length_map]
    exact hown
  · obtain ⟨r, h1, h2⟩ := plainL_at (plainL_flat hpl xs) hm
    rw [hcss, h1] at hw
    injection hw with hw
    subst hw
    rw [← h2]
    exact rep_const y r
  · have h1 := hpre.flt b o hF
    rcases hown.2 with ⟨hn, _⟩ | ⟨b', cap, cur, hv, hB, _⟩
    · exfalso
      change blk v = some b at hbk
      rw [hn] at hbk
      simp [blk] at hbk
    · exfalso
      change blk v = some b at hbk
      rw [hv] at hbk
      obtain rfl : b' = b := by simpa [blk] using hbk
      omega
end
end VL
end Go.Proofs.YthmlnffponjikaaGreatDoor
namespace Go.Proofs.YthmlnffponjikaaGreatDoor
open Go.RowKit

def upLevels : List Title → List Scope
  | [] => []
  | a :: r => upLevels r ++ [⟨3, a⟩]
def levelsL (t : Title) : List Scope := [⟨3, t⟩] ++ upLevels (ancL t) ++ [⟨2, ⟨t.space, ⟨#[]⟩⟩⟩, ⟨1, ⟨0, ⟨#[]⟩⟩⟩]
theorem upLevels_len : ∀ l, (upLevels l).length = l.length
  | [] => rfl
  | a :: r => by simp [upLevels, upLevels_len r]
theorem ancL_len (t : Title) : (ancL t).length ≤ 100 := by
  unfold ancL
  split
  · rename_i h
    have := ancUpto_len t t.name.size
    simp only [Title.valid, Bool.and_eq_true, decide_eq_true_eq] at h
    omega
  · simp
theorem okScopes : ElemOK Tryz.prog 168 87 (Enc.k Scope) 32 := elemOK Tryz.underlying168 (by kernel_rfl)
theorem drop_up {l : List Title} {q : Nat} {x : Title} (h : l.drop q = x :: l.drop (q + 1)) : upLevels (l.drop q) = upLevels (l.drop (q + 1)) ++ [⟨3, x⟩] := by rw [h]; rfl
set_option maxRecDepth 100000 in
set_option maxHeartbeats 2000000 in
theorem refLevels_any (t : Title) (w : World) (hG : Glob w) : Calls Tryz.prog 111 #[.agg #[.int .i64 t.space, .string t.name]] w fun e w' => ∃ v, e = .returned v ∧ OwnL w' w.heap.size 87 v (levelsL t) ∧ Below w.heap.size w w' := by
  have HA : Hid (levelsL t = [⟨3, t⟩] ++ upLevels (ancL t) ++ [⟨2, ⟨t.space, ⟨#[]⟩⟩⟩, ⟨1, ⟨0, ⟨#[]⟩⟩⟩]) := Lib.hid rfl
  have HL := Lib.hid (ancL_len t)
  obtain ⟨sp, s⟩ := t
  go_enter Tryz.func111, Tryz.ntmps111
  go_wp2_with fail
  have hO := OwnL.lit scopeCells (fun _ _ _ => rfl) (w.alloc (Obj.cells #[.int .i64 sp, .string s] 34)) (w.heap.size + 1) 87 [(⟨3, ⟨sp, s⟩⟩ : Scope)] (n := 1) (g := w.heap.size + 1) (cs := #[.int .i64 3, .int .i64 sp, .string s]) (by simp) (by simp) rfl (by omega) rfl
  have HSZ0 : ((w.alloc (Obj.cells #[.int .i64 sp, .string s] 34)).alloc (Obj.cells #[.int .i64 3, .int .i64 sp, .string s] 87)).heap.size = w.heap.size + 2 := by simp
  generalize hw1 : (w.alloc _).alloc _ = w1 at hO HSZ0 ⊢
  have c0_0 : w1.cell? ⟨w.heap.size, 0, none⟩ = some (.int .i64 sp) := by subst hw1; go_simp
  have c0_1 : w1.cell? ⟨w.heap.size, 1, none⟩ = some (.string s) := by subst hw1; go_simp
  have c1_0 : w1.cell? ⟨w.heap.size + 1, 0, none⟩ = some (.int .i64 3) := by subst hw1; go_simp
  have c1_1 : w1.cell? ⟨w.heap.size + 1, 1, none⟩ = some (.int .i64 sp) := by subst hw1; go_simp
  have c1_2 : w1.cell? ⟨w.heap.size + 1, 2, none⟩ = some (.string s) := by subst hw1; go_simp
  have HB : Hid (Below w.heap.size w w1) := by subst hw1; exact Below.al (Below.al (Below.refl _ _) _) _
  clear hw1
  have HF : Hid (∀ W, Below w1.heap.size w1 W → W.cell? ⟨w.heap.size, 0, none⟩ = some (.int .i64 sp) ∧ W.cell? ⟨w.heap.size, 1, none⟩ = some (.string s) ∧ W.cell? ⟨w.heap.size + 1, 0, none⟩ = some (.int .i64 3) ∧ W.cell? ⟨w.heap.size + 1, 1, none⟩ = some (.int .i64 sp) ∧ W.cell? ⟨w.heap.size + 1, 2, none⟩ = some (.string s)) := fun W h => ⟨re1 h (cell_lt c0_0) c0_0, re1 h (cell_lt c0_1) c0_1, re1 h (cell_lt c1_0) c1_0, re1 h (cell_lt c1_1) c1_1, re1 h (cell_lt c1_2) c1_2⟩
  have hw1 : w1.heap.size = w.heap.size + 2 := by
    have := HSZ0
    simpa using this
  refine (refAncestors_any ⟨sp, s⟩ _ (hG.below HB.out)).mono ?_
  rintro e w2 ⟨va, rfl, hanc, hb2⟩
  try clear c0_0 c0_1 c1_0 c1_1 c1_2
  obtain ⟨c0_0, c0_1, c1_0, c1_1, c1_2⟩ := HF.out _ (hb2)
  obtain ⟨Aa, ca, rfl, hSa⟩ := hanc.far (u := .slice (some ⟨w.heap.size + 1, 0, none⟩) 1 1) (fun b hb => by have e : w.heap.size + 1 = b := Option.some.inj hb; omega) (fun _ _ h => h)
  have HS := Lib.hid hSa
  have hw3 : w.heap.size + 2 ≤ w2.heap.size := by have := hb2.size; omega
  clear hw1 HSZ0
  have HO := Lib.hid (hO.keep hb2)
  have HB2 := Lib.hid (Below.tr HB.out hb2)
  clear hb2 HB HF hanc hSa hO c1_0 c1_1 c1_2
  generalize ancL ⟨sp, s⟩ = L at *
  have hl := HL.out
  have hw2 : w.heap.size ≤ w2.heap.size := HB2.out.size
  have b1 : ((L.length : Nat) : Int) ≤ 100 := by omega
  go_wp2_with fail
  go_loopw [3, 5] (fun l i wr => ∃ q : Nat, q ≤ L.length ∧ i = .int .i64 ((q : Int) - 1) ∧ Below (w.heap.size + 1) w2 wr ∧ SlS (fun b => l.ownBlock ≠ some b) wr Aa L.length ca L ∧ OwnL wr (w.heap.size + 1) 87 l ([⟨3, ⟨sp, s⟩⟩] ++ upLevels (L.drop q))) (fun _ i _ => ((intOf i) + 1).toNat)
  case atStart => exact ⟨L.length, by omega, rfl, Below.refl _ _, HS.out, by rw [List.drop_length]; exact HO.out⟩
  case round =>
    obtain ⟨q, hq, rfl, hbw, hsl, hown⟩ := hrel
    have HSL := Lib.hid hsl
    have HQ := Lib.hid hbw
    have HW := Lib.hid hown
    have hwr : w2.heap.size ≤ wr.heap.size := hbw.size
    have e0 : wr.cell? ⟨w.heap.size, 0, none⟩ = some (.int .i64 sp) := (HQ.out.cell (p := ⟨w.heap.size, 0, none⟩) (by show w.heap.size < _; omega)).trans c0_0
    clear hbw hown hsl
    by_cases h0 : q = 0
    · subst h0
      rw [List.drop_zero] at HW
      have hlen := upLevels_len L
      generalize hM : [(⟨3, ⟨sp, s⟩⟩ : Scope)] ++ upLevels L = M at *
      have hml : M.length ≤ 101 := by rw [← hM, List.length_append, hlen]; simp; omega
      have B3 : Hid (M.length + 2 ≤ maxLen) := Lib.hid (by unfold maxLen; omega)
      have B4 : Hid ((M.length + 2) * 32 ≤ 140737488355328) := Lib.hid (by omega)
      clear hml hlen hM hl b1
      go_wp2_with (at_builtin; go_must (refine wpList_append_L rfl _ _ 168 rfl okScopes (by decide) (B := w.heap.size + 1) (v := u3) (xs := M) rfl (HW.out.al _) (S := fun _ => True) (ys := [(⟨2, ⟨sp, ⟨#[]⟩⟩⟩ : Scope), ⟨1, ⟨0, ⟨#[]⟩⟩⟩]) rfl (SlR.made scopeCells (fun _ _ _ => rfl) _ _ (xs := [(⟨2, ⟨sp, ⟨#[]⟩⟩⟩ : Scope), ⟨1, ⟨0, ⟨#[]⟩⟩⟩]) rfl rfl (show 2 ≤ 9223372036854775807 by omega) rfl) (fun _ _ _ h => h) B3.out B4.out (by simp; omega) ?_); intro v' w' hown hg2 hv')
      go_ret
      refine ⟨_, rfl, by rw [HA.out]; exact hown.base (by omega), ?_⟩
      refine Below.grown (w := _) ?_ hg2 (by simp; omega) (fun j hj => by have := HW.out.ge hj; omega)
      exact (HB2.out.trans (HQ.out.mono (by omega))).alloc (by omega) _
    · obtain ⟨p, rfl⟩ : ∃ p, q = p + 1 := ⟨q - 1, by omega⟩
      have hlt : p < L.length := by omega
      have hp1 : ((p + 1 : Nat) : Int) - 1 = p := by omega
      rw [hp1]
      obtain ⟨b, off, x, cs, hA, hbl, hx, hd, hR, hc⟩ := (HSL.out).elem hlt
      obtain rfl := hA
      have d0 : wr.cell? ⟨b, off + p * 2, none⟩ = some (.int .i64 x.space) := by subst hR; exact hc 0 _ rfl
      have d1 : wr.cell? ⟨b, off + p * 2 + 1, none⟩ = some (.string x.name) := by subst hR; exact hc 1 _ rfl
      have HD := Lib.hid hd
      have HX := Lib.hid hx
      clear hx hd hR hc
      have b2 : (0 : Int) ≤ p := by omega
      have b3 : (p : Int) < (L.length : Int) := by omega
      have HU := Lib.hid (drop_up HD.out)
      have hml : ([(⟨3, ⟨sp, s⟩⟩ : Scope)] ++ upLevels (L.drop (p + 1))).length ≤ 101 := by rw [List.length_append, upLevels_len, List.length_drop]; simp; omega
      have B3 : Hid (([(⟨3, ⟨sp, s⟩⟩ : Scope)] ++ upLevels (L.drop (p + 1))).length + 1 ≤ maxLen) := Lib.hid (by unfold maxLen; omega)
      have B4 : Hid ((([(⟨3, ⟨sp, s⟩⟩ : Scope)] ++ upLevels (L.drop (p + 1))).length + 1) * 32 ≤ 140737488355328) := Lib.hid (by omega)
      clear hml hp1
      go_wp2_with (at_builtin; go_must (refine wpList_append_L rfl _ _ 168 rfl okScopes (by decide) (B := w.heap.size + 1) (v := u3) (xs := [(⟨3, ⟨sp, s⟩⟩ : Scope)] ++ upLevels (L.drop (p + 1))) rfl (HW.out.al _) (S := fun _ => True) (ys := [(⟨3, x⟩ : Scope)]) rfl (SlR.made scopeCells (fun _ _ _ => rfl) _ _ (xs := [(⟨3, x⟩ : Scope)]) rfl rfl (show 1 ≤ 9223372036854775807 by omega) rfl) (fun _ _ _ h => h) B3.out B4.out (by simp; omega) ?_); intro v' w' hown hg2 hv')
      refine ⟨⟨p, by omega, rfl, ?_, ?_, by rw [HU.out, ← List.append_assoc]; exact hown⟩, by simp [intOf]⟩
      · exact Below.grown (HQ.out.alloc (by omega) _) hg2 (by simp; omega) (fun j hj => HW.out.ge hj)
      · exact (HSL.out.mono (Below.al (Below.refl _ _) _)).appended hg2 hv'
end Go.Proofs.YthmlnffponjikaaGreatDoor
namespace Go.Proofs.YthmlnffponjikaaGreatDoor
open VL Go.RowKit
def encTitle (x : Title) : List Value := [.int .i64 x.space, .string x.name]
theorem plainTitle (x : Title) : plainL (Title.cs x) = some (encTitle x) := rfl
instance : EncPV Title := ⟨Title.cs, fun w x vs h => by
  have h' : vs = encTitle x := h
  subst h'
  refine ⟨rfl, fun j p v hp hv => ?_⟩
  obtain ⟨r, h1, h2⟩ := plainL_at (plainTitle x) hp
  rw [h1] at hv
  injection hv with hv
  subst hv
  match j, hp with
  | 0, hp => injection hp with hp; subst hp; injection h1 with h1; subst h1; exact ⟨rfl, .int .i64 _⟩
  | 1, hp => injection hp with hp; subst hp; injection h1 with h1; subst h1; exact ⟨rfl, .str _⟩⟩
theorem ancestors_n (t : Title) : ContractN Tryz.prog 155 [t.pv] (.row 34 2 false ((ancL t).map Title.cs)) :=
  contractN_own (vals := [.agg #[.int .i64 t.space, .string t.name]]) (enc := encTitle) (by kernel_rfl) rfl plainTitle (fun S w x cs h => h) (fun x => rfl) fun w hw => ancestors_any t w hw
instance : Inhabited Title := ⟨⟨0, ⟨#[]⟩⟩⟩
theorem reverse_m (M : List Title) : ContractM Tryz.prog 156 34 2 (M.map Title.cs) (M.reverse.map Title.cs) := by
  have hk : ∀ x, (encTitle x).length = 2 := fun _ => rfl
  refine ⟨by kernel_rfl, fun e he => ?_, fun e he p hp => ?_, by rw [plainL_flat plainTitle]; rfl, fun W v vs hown hvs _ => ?_⟩
  · obtain ⟨x, _, rfl⟩ := List.mem_map.1 he
    rfl
  · obtain ⟨x, _, rfl⟩ := List.mem_map.1 he
    simp [Title.cs] at hp
    rcases hp with rfl | rfl <;> rfl
  · rw [plainL_flat plainTitle] at hvs
    injection hvs with hvs
    subst hvs
    rw [List.length_map] at hown
    rcases hown.2 with ⟨hn, h0⟩ | ⟨g, cap, cur, hv, hB, hh, h1, h2, h3, ht⟩
    · obtain rfl : M = [] := List.eq_nil_of_length_eq_zero h0
      subst hn
      refine (AnyQ.slices_Reverse_empty Tryz.reverseTitle none 0 W).mono ?_
      rintro e w' ⟨rfl, rfl⟩
      exact ⟨[], rfl, rfl, World.ownsRow_nil _ _ _ _, Gr.refl _ _⟩
    · subst hv
      have hH := holdsK_own encTitle 2 hk hh ht
      have hle : M.toArray.size ≤ 9223372036854775807 := by unfold maxLen at h2; simp; omega
      have := AnyQ.slices_Reverse Tryz.reverseTitle 2 Tryz.isAgg34 Tryz.sizeOf34 encTitle hk (fun x v hv => by simp [encTitle] at hv; rcases hv with rfl | rfl <;> rfl) g 0 cap M.toArray W hH hle
      refine Calls.mono this ?_
      rintro e w' ⟨rfl, n, rfl⟩
      have hr : M.toArray.reverse = M.reverse.toArray := by simp
      rw [hr]
      obtain ⟨o1, o2⟩ := own_putRowK (n := n) encTitle 2 hk (M := M.reverse) hh (by simpa using h1) h2 h3
      rw [List.length_reverse] at o1 o2
      refine ⟨M.reverse.flatMap encTitle, rfl, plainL_flat plainTitle _, ?_, ?_⟩
      · rw [List.length_map, List.length_reverse]
        exact o1
      · exact o2
end Go.Proofs.YthmlnffponjikaaGreatDoor
namespace Go.Proofs.YthmlnffponjikaaGreatDoor
namespace VL
open Go.RowKit
theorem fill_number {place : Nat → Option (Nat × Nat)} (hpl : ∀ i, place i = some (i, 1)) : ∀ (ps done rest : List PV) (parts : List (Nat × PV)) (_ : parts.map (·.1) = List.range' done.length ps.length) (_ : parts.map (·.2) = ps) (_ : rest.length = ps.length) (_ : ∀ p ∈ ps, p.cell = true), fillP place (done ++ rest) parts = some (done ++ ps)
  | [], done, rest, parts, h1, h2, h3, _ => by
    obtain rfl : parts = [] := List.map_eq_nil_iff.1 h2
    obtain rfl : rest = [] := List.eq_nil_of_length_eq_zero h3
    rfl
  | p :: ps, done, rest, parts, h1, h2, h3, h4 => by
    match parts, h2 with
    | (i, v) :: parts, h2 =>
      simp only [List.map_cons, List.cons.injEq] at h2
      obtain ⟨e2, h2'⟩ := h2
      subst e2
      simp only [List.map_cons, List.length_cons, List.range'_succ, List.cons.injEq] at h1
      obtain ⟨e1, h1'⟩ := h1
      subst e1
      match rest, h3 with
      | r :: rest, h3 =>
        have hc : v.cells = [v] := by
          have := h4 v (List.mem_cons_self ..)
          cases v <;> simp_all [PV.cell, PV.cells]
        have hv := h4 v (List.mem_cons_self ..)
        simp only [fillP, hpl]
        rw [if_neg (by rw [hc]; simp [hv])]
        have e : writeL (done ++ r :: rest) done.length v.cells = (done ++ [v]) ++ rest := by
          rw [hc]
          unfold writeL
          simp
        rw [e, fill_number hpl ps (done ++ [v]) rest parts (by rw [h1']; simp) h2' (by simpa using h3) fun q hq => h4 q (List.mem_cons_of_mem _ hq)]
        simp
theorem resL_str (f : Nat → Option (Gen × VObj)) : ∀ (L : List ByteArray), resL f (L.map PV.str) = some (L.map PV.str, [])
  | [] => rfl
  | s :: L => by
    rw [List.map_cons]
    simp only [resL, res1, resL_str f L]
    rfl
theorem chunks_one : ∀ (L : List ByteArray), chunks 1 L.length (L.map PV.str) = L.map fun s => [PV.str s]
  | [] => rfl
  | s :: L => by
    rw [List.length_cons, List.map_cons]
    simp only [chunks]
    have : (PV.str s :: L.map PV.str).drop 1 = L.map PV.str := rfl
    rw [this, chunks_one L]
    rfl
section
variable {P : Program} [WInv P] {ops : Array Oper} {draw : Bool} {i : Nat} {L : List Oper} {acc : List (List Nat × List Nat)} {K : FS → Prop} {tm : List (Nat × PV)} {ob : List (Nat × Option (Gen × VObj))} {ng : Nat}
  {ty T : TypeId} {pos : String} {after : Array Edge} {gd : Option (Nat × Bool)}
theorem g_buildStr {dd : Nat} {E by_ : Nat} {z : List PV} [h : Sl P T E 1 by_ z] {n : Nat} {parts : Array (Nat × Operand)} (M : List ByteArray) (hw : wantedV ops (mkS tm ob ng) ⟨some dd, .buildSlice T n parts, ty, pos, after, gd⟩ = some true) (hn : n = M.length) (hx : parts.toList.map (·.1) = List.range' 0 n)
    (hps : parts.toList.map (fun q => evL tm q.2) = M.map PV.str) (hm : n ≤ 16777216)
    (k : GoL P ops draw (i + 1) L (acc ++ [(keysO (mkS tm ob ng) ⟨some dd, .buildSlice T n parts, ty, pos, after, gd⟩, [dd])]) (mkS ((dd, .row dd (ng, i)) :: tm) ((dd, some ((ng, i), .row E 1 false (M.map fun s => [PV.str s]))) :: ob) ng) K) :
    GoL P ops draw i (⟨some dd, .buildSlice T n parts, ty, pos, after, gd⟩ :: L) acc (mkS tm ob ng) K := by
  obtain ⟨s, b, zz, te, h1, h2, h3, h4, h5, h6, h7⟩ := sl_spec (h := h)
  subst hn
  have hfill : fillP (fun i => some (i * 1, 1)) (List.replicate M.length te.zero).flatten (parts.toList.map fun q => (q.1, ev (mkS tm ob ng) q.2)) = some (M.map PV.str) := by
    rw [ev_mkS]
    have := fill_number (place := fun i => some (i * 1, 1)) (fun i => by simp) (M.map PV.str) [] (List.replicate M.length te.zero).flatten (parts.toList.map fun q => (q.1, evL tm q.2)) (by rw [List.map_map]; have : (fun x : Nat × PV => x.1) ∘ (fun q : Nat × Operand => (q.1, evL tm q.2)) = fun q => q.1 := rfl; rw [this]; simpa using hx) (by rw [List.map_map]; exact hps) (by rw [h5, flat_len (k := z.length) _ (fun e he => by rw [List.eq_of_mem_replicate he])]; simp [h7]) (fun p hp => by obtain ⟨x, _, rfl⟩ := List.mem_map.1 hp; rfl)
    simpa using this
  have hres : resL (mkS tm ob ng).ob (M.map PV.str) = some (M.map PV.str, []) := resL_str _ M
  refine go_act (us := [(dd, some ((ng, i), .row E 1 false (M.map fun s => [PV.str s])))]) (v := .row dd (ng, i)) hw (.fn ?_) k
  unfold act
  simp only [h1, h2, h3, hfill, hres]
  rw [if_pos (by simp; exact hm), chunks_one]
  rfl
end
end VL
end Go.Proofs.YthmlnffponjikaaGreatDoor
namespace Go.Proofs.YthmlnffponjikaaGreatDoor
namespace VL
open Go.RowKit
theorem lookO_set (ob : List (Nat × Option (Gen × VObj))) (u : Nat) (o : Option (Gen × VObj)) : setOb (lookO ob) u o = lookO ((u, o) :: ob) := by
  have := lookO_flips [(u, o)] ob
  simpa [flips] using this
/-- A value in a slot, made pure. -/
theorem shift_resT {s : FS} {t : Nat} {q : PV} {us : List (Nat × Option (Gen × VObj))} (h : res1 s.ob (s.tm t) = some (q, us)) : Shift s ⟨fun x => if x = t then q else s.tm x, flips s.ob us, s.ng⟩ := fun r a x hX => by
  obtain ⟨F', st, hX', hr, _, _⟩ := res1_sound (Flip.refl _) hX h (hX.tm t)
  refine ⟨{ x with F := F' }, rfl, hX'.defers, hX'.size, hX'.gr, hX'.gens, fun t' => ?_, hX'.ob, hX'.apart, hX'.flt, hX'.f0, hX'.fnew, hX'.rho, hX'.inv⟩
  show Rep _ (if t' = t then q else s.tm t') _
  split
  · rename_i e
    rw [e]
    exact hr
  · exact hX'.tm t'
/-- The cells of a box, made pure. -/
theorem shift_resB {s : FS} {u : Nat} {g : Gen} {cs qs : List PV} {us : List (Nat × Option (Gen × VObj))} (h0 : s.ob u = some (g, .box cs)) (h : resL s.ob cs = some (qs, us)) : Shift s ⟨s.tm, setOb (flips s.ob us) u (some (g, .box qs)), s.ng⟩ := fun r a x hX => by
  obtain ⟨_, b, T, vs, e1, e2, e3, e4, e5, e6, e7⟩ := hX.ob u g _ h0
  obtain ⟨F', st, hX', hR, hl, hf⟩ := resL_sound cs (Flip.refl _) hX (g := fun j => vs.getD j undef) h fun j p hj => by
    have hlt : j < vs.size := by rw [← e3]; exact (List.getElem?_eq_some_iff.1 hj).1
    have : vs[j]? = some (vs.getD j undef) := by simp [Array.getD, hlt]
    exact e5 j p _ hj this
  have hu : (flips s.ob us) u = some (g, .box cs) := by
    rcases hf u with e | ⟨g2, E2, k2, sh2, els2, e, _⟩
    · rw [e, h0]
    · rw [h0] at e; cases e
  refine ⟨{ x with F := F' }, rfl, hX'.defers, hX'.size, hX'.gr, hX'.gens, hX'.tm, fun t' g' o' ho => ?_, fun t1 t2 g1 g2 o1 o2 bb hne k1 k2 hb => ?_, hX'.flt, hX'.f0, hX'.fnew, hX'.rho, hX'.inv⟩
  · change (if t' = u then some (g, VObj.box qs) else flips s.ob us t') = some (g', o') at ho
    split at ho
    · injection ho with ho
      injection ho with j1 j2
      subst j1 j2
      obtain ⟨j0, b2, T2, vs2, j1, j2, j3, j4, j5, j6, j7⟩ := hX'.ob u g _ hu
      refine ⟨j0, b, T, vs, e1, e2, by rw [hl, e3], fun p hp => ?_, fun j p v hp hv => ?_, e6, fun o hF => ?_⟩
      · obtain ⟨j, hj⟩ := List.getElem?_of_mem hp
        exact PV.cell_of_pure (hR j p hj).1
      · have := (hR j p hp).2
        rw [Array.getD_eq_getD_getElem?, hv] at this
        exact this
      · have jb : b2 = b := by
          change x.ρ g = _ at j1
          rw [e1] at j1
          injection j1 with j1
          injection j1 with j1
          injection j1 with j1
          exact j1.symm
        subst jb
        exact j7 o hF
    · exact hX'.ob t' g' o' ho
  · change (if t1 = u then some (g, VObj.box qs) else flips s.ob us t1) = some (g1, o1) at k1
    change (if t2 = u then some (g, VObj.box qs) else flips s.ob us t2) = some (g2, o2) at k2
    have f1 : ∃ o1', (flips s.ob us) t1 = some (g1, o1') := by
      split at k1
      · rename_i e; subst e; injection k1 with k1; injection k1 with e3 e4; subst e3; exact ⟨_, hu⟩
      · exact ⟨_, k1⟩
    have f2 : ∃ o2', (flips s.ob us) t2 = some (g2, o2') := by
      split at k2
      · rename_i e; subst e; injection k2 with k2; injection k2 with e3 e4; subst e3; exact ⟨_, hu⟩
      · exact ⟨_, k2⟩
    obtain ⟨o1', f1⟩ := f1
    obtain ⟨o2', f2⟩ := f2
    exact hX'.apart t1 t2 g1 g2 o1' o2' bb hne f1 f2 hb
/-- nil in a box as a row of the call's own. -/
theorem shift_rowB {s : FS} {u w j : Nat} {g : Gen} {cs : List PV} {E k : Nat} (hne : w ≠ u) (h0 : s.ob u = some (g, .box cs)) (h : cs[j]? = some .nil) :
    Shift s ⟨s.tm, setOb (setOb s.ob u (some (g, .box (cs.set j (.row w (s.ng, 0)))))) w (some ((s.ng, 0), .row E k false [])), s.ng + 1⟩ := fun r a x hX => by
  have hnew : ¬ x.G (s.ng, 0) := fun hg => by
    rcases hX.gens _ hg with e | ⟨_, e⟩
    · exact absurd e (Nat.lt_irrefl _)
    · exact e.elim
  let y : Ctx := ⟨fun g => x.G g ∨ g = (s.ng, 0), x.F, x.W, fun g => if g = (s.ng, 0) then .slice none 0 0 else x.ρ g⟩
  have st : Step x y := ⟨fun g hg => ⟨.inl hg, if_neg (fun (e : g = (s.ng, 0)) => hnew (by rw [← e]; exact hg))⟩, fun _ _ h => h, fun _ _ _ _ h => h⟩
  have hρ : y.ρ (s.ng, 0) = .slice none 0 0 := if_pos rfl
  obtain ⟨hgu, hO⟩ := hX.ob u g _ h0
  have hO2 : ObRep y r.W0.heap.size r.D g (.box cs) := hO.step hgu st fun b _ => ⟨rfl, fun _ h => h⟩
  have old : ∀ t' g' o', (if t' = w then some ((s.ng, 0), VObj.row E k false []) else if t' = u then some (g, VObj.box (cs.set j (.row w (s.ng, 0)))) else s.ob t') = some (g', o') → (t' = w ∧ g' = (s.ng, 0) ∧ o' = .row E k false []) ∨ (t' = u ∧ g' = g ∧ o' = .box (cs.set j (.row w (s.ng, 0)))) ∨ s.ob t' = some (g', o') := fun t' g' o' ho => by
    split at ho
    · rename_i e
      injection ho with ho
      injection ho with e1 e2
      exact .inl ⟨e, e1.symm, e2.symm⟩
    · split at ho
      · rename_i e
        injection ho with ho
        injection ho with e1 e2
        exact .inr (.inl ⟨e, e1.symm, e2.symm⟩)
      · exact .inr (.inr ho)
  refine ⟨y, rfl, hX.defers, hX.size, hX.gr, fun g hg => .inl ?_, fun t' => (hX.tm t').step st, fun t' g' o' ho => ?_, fun t1 t2 g1 g2 o1 o2 b hne' k1 k2 hb => ?_, hX.flt, hX.f0, hX.fnew, fun g hg => ⟨(st.G g (hX.rho g hg).1).1, (st.G g (hX.rho g hg).1).2.trans (hX.rho g hg).2⟩, hX.inv⟩
  · rcases hg with hg | rfl
    · rcases hX.gens g hg with e | ⟨_, e⟩
      · show g.1 < s.ng + 1; omega
      · exact e.elim
    · exact Nat.lt_succ_self _
  · rcases old t' g' o' ho with ⟨rfl, rfl, rfl⟩ | ⟨rfl, rfl, rfl⟩ | ho
    · exact ⟨.inr rfl, by simp, by simp, [], by rw [hρ]; exact World.ownsRow_nil _ _ _ _, fun m p v hp => by simp at hp, fun b hb => by rw [hρ] at hb; simp [blk] at hb⟩
    · obtain ⟨b, T, vs, e1, e2, e3, e4, e5, e6, e7⟩ := hO2
      refine ⟨.inl hgu, b, T, vs, e1, e2, by rw [List.length_set]; exact e3, fun p hp => ?_, fun i p v hp hv => ?_, e6, e7⟩
      · rcases List.mem_or_eq_of_mem_set hp with hp | rfl
        · exact e4 p hp
        · rfl
      · by_cases hi : j = i
        · subst hi
          have hr := e5 j _ v h hv
          have hlt : j < cs.length := (List.getElem?_eq_some_iff.1 h).1
          rw [List.getElem?_set_self hlt] at hp
          injection hp with hp
          subst hp
          cases hr
          exact .row w (s.ng, 0) none 0 0 (.inr rfl) hρ
        · rw [List.getElem?_set_ne hi] at hp
          exact e5 i p v hp hv
    · obtain ⟨h3, h4⟩ := hX.ob t' g' o' ho
      exact ⟨.inl h3, h4.step h3 st fun b _ => ⟨rfl, fun _ h => h⟩⟩
  · have noB : ∀ b, blk (y.ρ (s.ng, 0)) ≠ some b := fun b hb => by rw [hρ] at hb; simp [blk] at hb
    have tr : ∀ t' g' o', ((t' = w ∧ g' = (s.ng, 0) ∧ o' = .row E k false []) ∨ (t' = u ∧ g' = g ∧ o' = .box (cs.set j (.row w (s.ng, 0)))) ∨ s.ob t' = some (g', o')) → g' = (s.ng, 0) ∨ ∃ o2, s.ob t' = some (g', o2) := fun t' g' o' h => by
      rcases h with ⟨_, e, _⟩ | ⟨e1, e2, _⟩ | h
      · exact .inl e
      · subst e1 e2; exact .inr ⟨_, h0⟩
      · exact .inr ⟨_, h⟩
    rcases tr _ _ _ (old t1 g1 o1 k1) with rfl | ⟨p1, q1⟩
    · exact absurd hb (noB b)
    · rcases tr _ _ _ (old t2 g2 o2 k2) with rfl | ⟨p2, q2⟩
      · exact noB b
      · rw [(st.G g1 (hX.ob t1 g1 p1 q1).1).2] at hb
        rw [(st.G g2 (hX.ob t2 g2 p2 q2).1).2]
        exact hX.apart t1 t2 g1 g2 p1 p2 b hne' q1 q2 hb
section
variable {tm : List (Nat × PV)} {ob : List (Nat × Option (Gen × VObj))} {ng : Nat}
/-- .. where the state is written out. -/
theorem shift_T (t : Nat) {p q : PV} {us : List (Nat × Option (Gen × VObj))} (h0 : look tm t = p) (h : res1 (lookO ob) p = some (q, us)) : Shift (mkS tm ob ng) (mkS ((t, q) :: tm) (us.reverse ++ ob) ng) := by
  have := shift_resT (s := mkS tm ob ng) (t := t) (q := q) (us := us) (by show res1 (lookO ob) (look tm t) = _; rw [h0]; exact h)
  have e : (⟨fun x => if x = t then q else look tm x, flips (lookO ob) us, ng⟩ : FS) = mkS ((t, q) :: tm) (us.reverse ++ ob) ng := by
    rw [lookO_flips]
    rfl
  rw [← e]
  exact this
theorem shift_B (u : Nat) {g : Gen} {cs qs : List PV} {us : List (Nat × Option (Gen × VObj))} (h0 : lookO ob u = some (g, .box cs)) (h : resL (lookO ob) cs = some (qs, us)) : Shift (mkS tm ob ng) (mkS tm ((u, some (g, .box qs)) :: (us.reverse ++ ob)) ng) := by
  have := shift_resB (s := mkS tm ob ng) (u := u) (g := g) (cs := cs) (qs := qs) (us := us) h0 h
  have e : (⟨look tm, setOb (flips (lookO ob) us) u (some (g, .box qs)), ng⟩ : FS) = mkS tm ((u, some (g, .box qs)) :: (us.reverse ++ ob)) ng := by
    rw [lookO_flips, lookO_set]
    rfl
  rw [← e]
  exact this
theorem shift_rB (u w j E k : Nat) {g : Gen} {cs : List PV} (hne : (w == u) = false) (h0 : lookO ob u = some (g, .box cs)) (h : cs[j]? = some .nil) : Shift (mkS tm ob ng) (mkS tm ((w, some ((ng, 0), .row E k false [])) :: (u, some (g, .box (cs.set j (.row w (ng, 0))))) :: ob) (ng + 1)) := by
  have := shift_rowB (s := mkS tm ob ng) (u := u) (w := w) (j := j) (g := g) (cs := cs) (E := E) (k := k) (by simpa using hne) h0 h
  have e : (⟨look tm, setOb (setOb (lookO ob) u (some (g, .box (cs.set j (.row w (ng, 0)))))) w (some ((ng, 0), .row E k false [])), ng + 1⟩ : FS) = mkS tm ((w, some ((ng, 0), .row E k false [])) :: (u, some (g, .box (cs.set j (.row w (ng, 0))))) :: ob) (ng + 1) := by
    rw [lookO_set, lookO_set]
    rfl
  rw [← e]
  exact this
end
end VL
end Go.Proofs.YthmlnffponjikaaGreatDoor
