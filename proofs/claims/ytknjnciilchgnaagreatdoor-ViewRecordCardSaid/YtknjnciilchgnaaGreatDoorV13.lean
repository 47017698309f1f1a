/- ViewRecord: recording keeps the first answer to each key. -/
import Derived.Test.YtknjnciilchgnaaGreatDoorV12
namespace Go.Proofs.YtknjnciilchgnaaGreatDoor
open Go.RowKit

def recs : List Asked → List Asked → List Asked
  | acc, [] => acc
  | acc, x :: r => recs (recordL acc x.key x.answer) r
/-- Each element answers its own key. -/
def Good (L : List Asked) : Prop := ∀ x ∈ L, findA L x.key = some x.answer
theorem findA_append (L : List Asked) (x : Asked) (k : Key) : findA (L ++ [x]) k = match findA L k with | some r => some r | none => if x.key = k then some x.answer else none := by
  induction L with
  | nil => simp [findA]
  | cons y L ih =>
    simp only [List.cons_append, findA]
    split
    · rfl
    · exact ih
theorem good_record {L : List Asked} (h : Good L) (x : Asked) : Good (recordL L x.key x.answer) := by
  unfold recordL
  split
  · exact h
  · rename_i hn
    have hn' : findA L x.key = none := by simpa using hn
    intro y hy
    rw [findA_append]
    rcases List.mem_append.1 hy with hy | hy
    · rw [h y hy]
    · obtain rfl : y = x := by simpa using hy
      rw [hn']
      simp
theorem good_recs : ∀ (xs : List Asked) {L : List Asked}, Good L → Good (recs L xs)
  | [], _, h => h
  | x :: xs, _, h => good_recs xs (good_record h x)
theorem record_len (L : List Asked) (x : Asked) : (recordL L x.key x.answer).length ≤ L.length + 1 := by
  unfold recordL
  split <;> simp
set_option maxRecDepth 100000 in
set_option maxHeartbeats 1000000 in
theorem ask_fixed (A : Option Addr) (n c : Nat) (xs : List Asked) (k : Key) (r : Answer) (w : World) (hS : SlR w A n c xs) (hr : findA xs k = some r) :
    Calls Tryz.prog 11 #[.agg #[.slice none 0 0, .slice none 0 0, .slice none 0 0, .slice none 0 0, .slice none 0 0, .int .i64 0, .slice A n c], .agg #[.int .i64 k.kind, .int .i64 k.title.space, .string k.title.name, .int .i64 k.n]] w fun e w' => e = .returned (.agg #[.bool r.ok, .string r.text, .int .i64 r.n]) ∧ Below w.heap.size w w' := by
  go_enter Tryz.func11, Tryz.ntmps11
  go_wp2_with fail
  generalize hw1 : ((w.alloc _).alloc _).alloc _ = w1
  have c0_0 : w1.cell? ⟨w.heap.size, 0, none⟩ = some (.slice none 0 0) := by subst hw1; go_simp
  have c0_1 : w1.cell? ⟨w.heap.size, 1, none⟩ = some (.slice none 0 0) := by subst hw1; go_simp
  have c0_2 : w1.cell? ⟨w.heap.size, 2, none⟩ = some (.slice none 0 0) := by subst hw1; go_simp
  have c0_3 : w1.cell? ⟨w.heap.size, 3, none⟩ = some (.slice none 0 0) := by subst hw1; go_simp
  have c0_4 : w1.cell? ⟨w.heap.size, 4, none⟩ = some (.slice none 0 0) := by subst hw1; go_simp
  have c0_5 : w1.cell? ⟨w.heap.size, 5, none⟩ = some (.int .i64 0) := by subst hw1; go_simp
  have c0_6 : w1.cell? ⟨w.heap.size, 6, none⟩ = some (.slice A n c) := by subst hw1; go_simp
  have c1_0 : w1.cell? ⟨w.heap.size + 1, 0, none⟩ = some (.int .i64 k.kind) := by subst hw1; go_simp
  have c1_1 : w1.cell? ⟨w.heap.size + 1, 1, none⟩ = some (.int .i64 k.title.space) := by subst hw1; go_simp
  have c1_2 : w1.cell? ⟨w.heap.size + 1, 2, none⟩ = some (.string k.title.name) := by subst hw1; go_simp
  have c1_3 : w1.cell? ⟨w.heap.size + 1, 3, none⟩ = some (.int .i64 k.n) := by subst hw1; go_simp
  have c2_0 : w1.cell? ⟨w.heap.size + 2, 0, none⟩ = some (.bool false) := by subst hw1; go_simp
  have c2_1 : w1.cell? ⟨w.heap.size + 2, 1, none⟩ = some (.string ⟨#[]⟩) := by subst hw1; go_simp
  have c2_2 : w1.cell? ⟨w.heap.size + 2, 2, none⟩ = some (.int .i64 0) := by subst hw1; go_simp
  have f2_0 : w1.frozen? ⟨w.heap.size + 2, 0, none⟩ = false := by subst hw1; go_simp
  have f2_1 : w1.frozen? ⟨w.heap.size + 2, 1, none⟩ = false := by subst hw1; go_simp
  have f2_2 : w1.frozen? ⟨w.heap.size + 2, 2, none⟩ = false := by subst hw1; go_simp
  have HB : Hid (Below w.heap.size w w1) := by subst hw1; exact Below.al (Below.al (Below.al (Below.refl _ _) _) _) _
  clear hw1
  have HF : Hid (∀ W, Below w1.heap.size w1 W → W.cell? ⟨w.heap.size, 0, none⟩ = some (.slice none 0 0) ∧ W.cell? ⟨w.heap.size, 1, none⟩ = some (.slice none 0 0) ∧ W.cell? ⟨w.heap.size, 2, none⟩ = some (.slice none 0 0) ∧ W.cell? ⟨w.heap.size, 3, none⟩ = some (.slice none 0 0) ∧ W.cell? ⟨w.heap.size, 4, none⟩ = some (.slice none 0 0) ∧ W.cell? ⟨w.heap.size, 5, none⟩ = some (.int .i64 0) ∧ W.cell? ⟨w.heap.size, 6, none⟩ = some (.slice A n c) ∧ W.cell? ⟨w.heap.size + 1, 0, none⟩ = some (.int .i64 k.kind) ∧ W.cell? ⟨w.heap.size + 1, 1, none⟩ = some (.int .i64 k.title.space) ∧ W.cell? ⟨w.heap.size + 1, 2, none⟩ = some (.string k.title.name) ∧ W.cell? ⟨w.heap.size + 1, 3, none⟩ = some (.int .i64 k.n) ∧ W.cell? ⟨w.heap.size + 2, 0, none⟩ = some (.bool false) ∧ W.cell? ⟨w.heap.size + 2, 1, none⟩ = some (.string ⟨#[]⟩) ∧ W.cell? ⟨w.heap.size + 2, 2, none⟩ = some (.int .i64 0) ∧ W.frozen? ⟨w.heap.size + 2, 0, none⟩ = false ∧ W.frozen? ⟨w.heap.size + 2, 1, none⟩ = false ∧ W.frozen? ⟨w.heap.size + 2, 2, none⟩ = false) := fun W h => ⟨re1 h (cell_lt c0_0) c0_0, re1 h (cell_lt c0_1) c0_1, re1 h (cell_lt c0_2) c0_2, re1 h (cell_lt c0_3) c0_3, re1 h (cell_lt c0_4) c0_4, re1 h (cell_lt c0_5) c0_5, re1 h (cell_lt c0_6) c0_6, re1 h (cell_lt c1_0) c1_0, re1 h (cell_lt c1_1) c1_1, re1 h (cell_lt c1_2) c1_2, re1 h (cell_lt c1_3) c1_3, re1 h (cell_lt c2_0) c2_0, re1 h (cell_lt c2_1) c2_1, re1 h (cell_lt c2_2) c2_2, rf1 h (cell_lt c2_0) f2_0, rf1 h (cell_lt c2_1) f2_1, rf1 h (cell_lt c2_2) f2_2⟩
  refine (find_some A n c xs k _ (hS.mono HB.out) r hr).mono ?_
  rintro e w2 ⟨rfl, hb2⟩
  have HA := Lib.hid hb2
  clear hb2 hS hr
  try clear c0_0 c0_1 c0_2 c0_3 c0_4 c0_5 c0_6 c1_0 c1_1 c1_2 c1_3 c2_0 c2_1 c2_2 f2_0 f2_1 f2_2
  obtain ⟨c0_0, c0_1, c0_2, c0_3, c0_4, c0_5, c0_6, c1_0, c1_1, c1_2, c1_3, c2_0, c2_1, c2_2, f2_0, f2_1, f2_2⟩ := HF.out _ (HA.out)
  have z0 := cell_lt c0_0
  have z1 := cell_lt c1_0
  have z2 := cell_lt c2_0
  go_wp2
  exact bodyPost_ret (v := .agg #[.bool r.ok, .string r.text, .int .i64 r.n]) (by simp [results, Tryz.results11, go_sem, *]) rfl ⟨rfl, by have hg := Below.tr HB.out HA.out; go_grown⟩
theorem ansNeq (a b : Answer) (W : World) : (binOp .neq 32 (.agg #[.bool a.ok, .string a.text, .int .i64 a.n]) (.agg #[.bool b.ok, .string b.text, .int .i64 b.n])).run Tryz.prog W = .ok (.bool (!decide (a = b))) W := by
  have e : (if a.ok = b.ok then if a.text.toList = b.text.toList then if a.n = b.n then false else true else true else true) = !decide (a = b) := by
    obtain ⟨x, y, z⟩ := a
    obtain ⟨x', y', z'⟩ := b
    simp only [Answer.mk.injEq, toList_iff]
    (repeat' split) <;> simp_all
  rw [← e]
  go_simp
  (repeat' split) <;> simp_all
theorem plainE {S S' : Nat → Prop} {w w' : World} (x : Asked) (cs : List Value) (h : Enc.R S w x cs) : Enc.R S' w' x cs := h
set_option maxRecDepth 100000 in
set_option maxHeartbeats 2000000 in
theorem viewRecord_any (A : Option Addr) (n c : Nat) (xs : List Asked) (w : World) (hS : SlR w A n c xs) (hG : Glob w) : Calls Tryz.prog 4 #[.slice A n c] w fun e w' => e = .returned (.bool true) ∧ Below w.heap.size w w' := by
  have HN := Lib.hid hS.1
  have hle := hS.le
  have HS := Lib.hid hS
  clear hS
  by_cases h60 : 60 < n
  · go_enter Tryz.func4, Tryz.ntmps4
    go_wp2_with (go_at_call 7; refine (known_any _ hG).mono ?_; rintro e w2 ⟨rfl, hb2⟩)
    go_ret
    exact ⟨rfl, hb2⟩
  · have h60' : n ≤ 60 := by omega
    clear h60
    go_enter Tryz.func4, Tryz.ntmps4
    go_wp2
    go_loopw [3, 4, 5] (fun va vb i wr => ∃ (q : Nat) (L : List Asked), q ≤ n ∧ i = .int .i64 q ∧ Below w.heap.size w wr ∧ OwnL wr w.heap.size 34 va L ∧ OwnL wr w.heap.size 34 vb L ∧ L.length ≤ q ∧ Hid (Good L)) (fun _ _ i _ => n - (intOf i).toNat)
    case atStart => exact ⟨0, [], Nat.zero_le _, rfl, Below.refl _ _, OwnL.nil _ _ _, OwnL.nil _ _ _, by simp, fun x hx => by simp at hx⟩
    case round =>
      obtain ⟨q, L, hq, rfl, hbw, hoa, hob, hLq, hGL⟩ := hrel
      have HW := Lib.hid hbw
      clear hbw
      obtain ⟨Aa, ca, rfl, hsa, hga⟩ := hoa.sl
      obtain ⟨Ab, cb, rfl, hsb, hgb⟩ := hob.sl
      clear hga hgb
      have HOA := Lib.hid hoa
      have HOB := Lib.hid hob
      have HSA := Lib.hid hsa
      have HSB := Lib.hid hsb
      clear hoa hob hsa hsb
      by_cases hlt : q < n
      · obtain ⟨b, off, x, cs, hA, hbl, hx, hd, hR, hc⟩ := (SlR.mono HW.out HS.out).elem hlt
        obtain rfl := hA
        have d0 : wr.cell? ⟨b, off + q * 7, none⟩ = some (.int .i64 x.key.kind) := by subst hR; exact hc 0 _ rfl
        have d1 : wr.cell? ⟨b, off + q * 7 + 1, none⟩ = some (.int .i64 x.key.title.space) := by subst hR; exact hc 1 _ rfl
        have d2 : wr.cell? ⟨b, off + q * 7 + 2, none⟩ = some (.string x.key.title.name) := by subst hR; exact hc 2 _ rfl
        have d3 : wr.cell? ⟨b, off + q * 7 + 3, none⟩ = some (.int .i64 x.key.n) := by subst hR; exact hc 3 _ rfl
        have d4 : wr.cell? ⟨b, off + q * 7 + 4, none⟩ = some (.bool x.answer.ok) := by subst hR; exact hc 4 _ rfl
        have d5 : wr.cell? ⟨b, off + q * 7 + 5, none⟩ = some (.string x.answer.text) := by subst hR; exact hc 5 _ rfl
        have d6 : wr.cell? ⟨b, off + q * 7 + 6, none⟩ = some (.int .i64 x.answer.n) := by subst hR; exact hc 6 _ rfl
        have HD := Lib.hid hd
        have HX := Lib.hid hx
        clear hx hd hR hc
        have HF : Hid (∀ W, Below wr.heap.size wr W → W.cell? ⟨b, off + q * 7, none⟩ = some (.int .i64 x.key.kind) ∧ W.cell? ⟨b, off + q * 7 + 1, none⟩ = some (.int .i64 x.key.title.space) ∧ W.cell? ⟨b, off + q * 7 + 2, none⟩ = some (.string x.key.title.name) ∧ W.cell? ⟨b, off + q * 7 + 3, none⟩ = some (.int .i64 x.key.n) ∧ W.cell? ⟨b, off + q * 7 + 4, none⟩ = some (.bool x.answer.ok) ∧ W.cell? ⟨b, off + q * 7 + 5, none⟩ = some (.string x.answer.text) ∧ W.cell? ⟨b, off + q * 7 + 6, none⟩ = some (.int .i64 x.answer.n)) := fun W h => ⟨re1 h (cell_lt d0) d0, re1 h (cell_lt d1) d1, re1 h (cell_lt d2) d2, re1 h (cell_lt d3) d3, re1 h (cell_lt d4) d4, re1 h (cell_lt d5) d5, re1 h (cell_lt d6) d6⟩
        have hlt' : (q : Int) < (n : Int) := by omega
        have hq0 : (0 : Int) ≤ (q : Int) := by omega
        go_wp2
        go_region_held3 (fun W => Below wr.heap.size wr W ∧ W.cell? ⟨b, off + q * 7, none⟩ = some (.int .i64 x.key.kind) ∧ W.cell? ⟨b, off + q * 7 + 1, none⟩ = some (.int .i64 x.key.title.space) ∧ W.cell? ⟨b, off + q * 7 + 2, none⟩ = some (.string x.key.title.name) ∧ W.cell? ⟨b, off + q * 7 + 3, none⟩ = some (.int .i64 x.key.n) ∧ W.cell? ⟨b, off + q * 7 + 4, none⟩ = some (.bool x.answer.ok) ∧ W.cell? ⟨b, off + q * 7 + 5, none⟩ = some (.string x.answer.text) ∧ W.cell? ⟨b, off + q * 7 + 6, none⟩ = some (.int .i64 x.answer.n)) (refine ⟨?_, HF.out _ ?_⟩ <;> (repeat (first | assumption | exact Below.refl _ _ | refine Below.drew ?_ | refine Below.al ?_ _))) (first | (go_at_call 8; refine (record_any Aa L.length ca L x.key x.answer _ (SlR.mono (by (repeat (first | assumption | exact Below.refl _ _ | refine Below.drew ?_ | refine Below.al ?_ _))) HSA.out) (by omega)).mono ?_; rintro e w2 ⟨v2, rfl, hown2, hb2⟩; have hb3 : Below wr.heap.size wr w2 := Below.tr (by (repeat (first | assumption | exact Below.refl _ _ | refine Below.drew ?_ | refine Below.al ?_ _))) hb2))
        have HA := Lib.hid hb3
        have HO2 := Lib.hid hown2
        clear hb2 hb3 hown2
        try clear d0 d1 d2 d3 d4 d5 d6
        obtain ⟨d0, d1, d2, d3, d4, d5, d6⟩ := HF.out _ (HA.out)
        have HB2 := Lib.hid (HOB.out.keep HA.out)
        rcases hf : findA L x.key with _ | r
        · have HF1 := Lib.hid hf
          clear hf
          go_wp2_with fail
          refine (refFind_none Ab L.length cb L x.key _ (SlR.mono HA.out HSB.out) HF1.out).mono ?_
          rintro e w3 ⟨rfl, hb3⟩
          have HA3 := Lib.hid (Below.tr HA.out hb3)
          have HO3 := Lib.hid (HO2.out.keep hb3)
          have HB3 := Lib.hid (HB2.out.keep hb3)
          clear hb3
          try clear d0 d1 d2 d3 d4 d5 d6
          obtain ⟨d0, d1, d2, d3, d4, d5, d6⟩ := HF.out _ (HA3.out)
          have b1 : Hid (L.length + 1 ≤ maxLen) := Lib.hid (by unfold maxLen; omega)
          have b2 : Hid ((L.length + 1) * 72 ≤ 140737488355328) := Lib.hid (by omega)
          have b3 : Hid (w.heap.size ≤ w3.heap.size) := Lib.hid (Below.tr HW.out HA3.out).size
          have hbl3 := cell_lt d0
          go_wp2_with (at_builtin; go_must (refine wpList_append_L rfl _ _ 29 rfl okAsked (by decide) (B := w.heap.size) (xs := L) rfl (HB3.out.keep (Below.al (Below.al (Below.refl _ _) _) _)) (ys := [x]) rfl (SlR.made askedCells (fun _ _ _ => rfl) _ _ (by simp) rfl (by simp) rfl) (fun _ _ _ h => h) b1.out b2.out (by have := b3.out; simp; omega) ?_); intro v' w' hown hg hv')
          have e : recordL L x.key x.answer = L ++ [x] := by simp [recordL, HF1.out]
          have HOA4 : OwnL w' w.heap.size 34 v2 (L ++ [x]) := by
            rw [← e]
            refine ((HO3.out.keep (Below.al (Below.al (Below.refl _ _) _) _)).grown hg (fun b hb e2 => ?_) (fun x cs _ h => plainE x cs h)).base HW.out.size
            have h1 := HO3.out.ge hb
            have h2 := HOB.out.lt (b := b) e2.symm
            have h3 : wr.drew.heap.size = wr.heap.size := rfl
            omega
          have hbw' : Below w.heap.size w w' := below_grown (v := .slice Ab L.length cb) (Below.tr HW.out (Below.tr HA3.out (by (repeat (first | assumption | exact Below.refl _ _ | refine Below.drew ?_ | refine Below.al ?_ _))))) hg (fun b hb => HOB.out.ge hb)
          go_roundw
          case rel => exact ⟨q + 1, L ++ [x], by omega, by go_num, hbw', HOA4, hown, by simp; omega, by rw [← e]; exact good_record hGL.out x⟩
          case measure => simp [intOf]; omega
        · have HF1 := Lib.hid hf
          clear hf
          go_wp2_with fail
          refine (refFind_some Ab L.length cb L x.key _ (SlR.mono HA.out HSB.out) r HF1.out).mono ?_
          rintro e w3 ⟨rfl, hb3⟩
          have HA3 := Lib.hid (Below.tr HA.out hb3)
          have HO3 := Lib.hid (HO2.out.keep hb3)
          have HB3 := Lib.hid (HB2.out.keep hb3)
          clear hb3
          have e : recordL L x.key x.answer = L := by simp [recordL, HF1.out]
          rw [e] at HO3
          go_wp2
          go_roundw
          case rel => exact ⟨q + 1, L, by omega, by go_num, Below.tr HW.out (Below.tr HA3.out (by (repeat (first | assumption | exact Below.refl _ _ | refine Below.drew ?_ | refine Below.al ?_ _)))), (HO3.out.keep (Below.al (Below.refl _ _) _)).base HW.out.size, HB3.out.keep (Below.al (Below.refl _ _) _), by omega, hGL⟩
          case measure => simp [intOf]; omega
      · go_wp2_with fail
        refine (sameTrace_self Aa Ab L.length ca cb L _ HSA.out HSB.out).mono ?_
        rintro e w2 ⟨rfl, hb2⟩
        have HA := Lib.hid hb2
        clear hb2
        have HL1 := HSA.out.le
        have HL2 := HSB.out.le
        go_wp2_with fail
        obtain ⟨wo, rfl⟩ : ∃ wo : World, wo = wr := ⟨_, rfl⟩
        go_loopw [8] (fun i W => ∃ p : Nat, p ≤ L.length ∧ i = .int .i64 p ∧ Below wo.heap.size wo W) (fun i _ => L.length - (intOf i).toNat)
        case atStart => exact ⟨0, Nat.zero_le _, rfl, HA.out⟩
        case round =>
          obtain ⟨p, hp, rfl, hbp⟩ := hrel
          have HP := Lib.hid hbp
          clear hbp
          by_cases hpl : p < L.length
          · obtain ⟨b, off, x, cs, hA, hbl, hx, hd, hR, hc⟩ := (SlR.mono HP.out HSB.out).elem hpl
            obtain rfl := hA
            have d0 : wr.cell? ⟨b, off + p * 7, none⟩ = some (.int .i64 x.key.kind) := by subst hR; exact hc 0 _ rfl
            have d1 : wr.cell? ⟨b, off + p * 7 + 1, none⟩ = some (.int .i64 x.key.title.space) := by subst hR; exact hc 1 _ rfl
            have d2 : wr.cell? ⟨b, off + p * 7 + 2, none⟩ = some (.string x.key.title.name) := by subst hR; exact hc 2 _ rfl
            have d3 : wr.cell? ⟨b, off + p * 7 + 3, none⟩ = some (.int .i64 x.key.n) := by subst hR; exact hc 3 _ rfl
            have d4 : wr.cell? ⟨b, off + p * 7 + 4, none⟩ = some (.bool x.answer.ok) := by subst hR; exact hc 4 _ rfl
            have d5 : wr.cell? ⟨b, off + p * 7 + 5, none⟩ = some (.string x.answer.text) := by subst hR; exact hc 5 _ rfl
            have d6 : wr.cell? ⟨b, off + p * 7 + 6, none⟩ = some (.int .i64 x.answer.n) := by subst hR; exact hc 6 _ rfl
            have HD := Lib.hid hd
            have HX := Lib.hid hx
            clear hx hd hR hc
            have HF : Hid (∀ W, Below wr.heap.size wr W → W.cell? ⟨b, off + p * 7, none⟩ = some (.int .i64 x.key.kind) ∧ W.cell? ⟨b, off + p * 7 + 1, none⟩ = some (.int .i64 x.key.title.space) ∧ W.cell? ⟨b, off + p * 7 + 2, none⟩ = some (.string x.key.title.name) ∧ W.cell? ⟨b, off + p * 7 + 3, none⟩ = some (.int .i64 x.key.n) ∧ W.cell? ⟨b, off + p * 7 + 4, none⟩ = some (.bool x.answer.ok) ∧ W.cell? ⟨b, off + p * 7 + 5, none⟩ = some (.string x.answer.text) ∧ W.cell? ⟨b, off + p * 7 + 6, none⟩ = some (.int .i64 x.answer.n)) := fun W h => ⟨re1 h (cell_lt d0) d0, re1 h (cell_lt d1) d1, re1 h (cell_lt d2) d2, re1 h (cell_lt d3) d3, re1 h (cell_lt d4) d4, re1 h (cell_lt d5) d5, re1 h (cell_lt d6) d6⟩
            have hlt' : (p : Int) < (L.length : Int) := by omega
            have hq0 : (0 : Int) ≤ (p : Int) := by omega
            go_wp2_with fail
            refine (ask_fixed Aa L.length ca L x.key x.answer _ (SlR.mono HP.out HSA.out) (hGL.out x (List.mem_of_getElem? HX.out))).mono ?_
            rintro e w3 ⟨rfl, hb3⟩
            have HA3 := Lib.hid hb3
            clear hb3
            try clear d0 d1 d2 d3 d4 d5 d6
            obtain ⟨d0, d1, d2, d3, d4, d5, d6⟩ := HF.out _ (HA3.out)
            have hbl3 := cell_lt d0
            have ke := ansNeq x.answer x.answer
            simp only [decide_true, Bool.not_true] at ke
            go_wp2
            go_quiet (fail)
            go_wp2
            go_roundw
            case rel => exact ⟨p + 1, by omega, by go_num, below_drewN (Below.tr HP.out (Below.tr HA3.out (by (repeat (first | assumption | exact Below.refl _ _ | refine Below.drew ?_ | refine Below.al ?_ _))))) _⟩
            case measure => simp [intOf]; omega
          · go_wp2_with fail
            refine (known_any _ (Glob.below hG (Below.tr HW.out HP.out))).mono ?_
            rintro e w3 ⟨rfl, hb3⟩
            go_wp2
            go_ret
            exact ⟨rfl, Below.tr HW.out (Below.tr HP.out hb3)⟩
end Go.Proofs.YtknjnciilchgnaaGreatDoor
