/- From a reading of an argument to the words of the walks: structs field by field, slices element by element. No program is named. -/
import Derived.Test.YtknjnciilchgnaaGreatDoorK1
import Derived.ProofKit
import Derived.OpenShut
import Derived.Deep.Slices
import Derived.Deep.Strs
namespace Go.Proofs.YtknjnciilchgnaaGreatDoor
open Go.RowKit Go.ChangeShapes Go.WideShapes Go.Deep

theorem filterMap_all {α : Type} (f : Nat → Option α) : ∀ n, (∀ i, i < n → ∃ t, f i = some t) → ((List.range n).filterMap f).length = n ∧ ∀ i, i < n → ((List.range n).filterMap f)[i]? = f i
  | 0, _ => ⟨rfl, fun i h => absurd h (by omega)⟩
  | n + 1, h => by
    obtain ⟨h1, h2⟩ := filterMap_all f n fun i hi => h i (by omega)
    obtain ⟨t, ht⟩ := h n (by omega)
    rw [List.range_succ, List.filterMap_append]
    have e : List.filterMap f [n] = [t] := by simp [ht]
    rw [e]
    refine ⟨by simp [h1], fun i hi => ?_⟩
    rcases Nat.lt_or_ge i n with hl | hl
    · rw [List.getElem?_append_left (by omega)]; exact h2 i hl
    · obtain rfl : i = n := by omega
      rw [List.getElem?_append_right (by omega), h1, ht]; simp
section
variable {H : Type} {enc : TypeId × Value → H} {P : Program} {W : World}
/-- The cells that read at type T are those of some x. -/
def Rd (enc : TypeId × Value → H) (P : Program) (W : World) (T : TypeId) (α : Type) [Enc α] : Prop :=
  ∀ fuel cs x, DataW.trod enc P W 0 (fun _ => true) true fuel T cs = some x → ∃ t : α, Enc.RT W t cs
theorem rd_int {T : TypeId} (hT : P.underlying T = some (.int .i64)) : Rd enc P W T Int := fun _ _ _ h => by
  obtain ⟨n, hc, _⟩ := DataW.trod_int hT h
  exact ⟨n, hc⟩
theorem rd_bool {T : TypeId} (hT : P.underlying T = some .bool) : Rd enc P W T Bool := fun _ _ _ h => by
  obtain ⟨n, hc, _⟩ := DataW.trod_bool hT h
  exact ⟨n, hc⟩
theorem rd_string {T : TypeId} (hT : P.underlying T = some .string) : Rd enc P W T ByteArray := fun _ _ _ h => by
  obtain ⟨n, hc, _⟩ := DataW.trod_string hT h
  exact ⟨n, hc⟩
theorem rd_slice {S E : TypeId} {α : Type} [Enc α] (hS : P.underlying S = some (.slice E)) (hk : P.cellsOf E = Enc.k α) (h0 : 0 < Enc.k α) (hE : Rd enc P W E α) : Rd enc P W S (List α) := fun fuel cs x h => by
  rcases open_slice hS h with ⟨hc, _⟩ | ⟨a, len, cap, m, n, D, Pl, hc, _, hl, hm, hmm, _, hel⟩
  · exact ⟨[], none, 0, 0, hc, SlR.nil W⟩
  · have hm' : m = cap := by simpa using hmm
    have hx : ∀ i, ∃ (cs' : List Value) (t : Option α), i < len → ∃ t', t = some t' ∧ Enc.RT W t' cs' ∧ ∀ j v, cs'[j]? = some v → W.cell? (a.add (i * P.cellsOf E + j)) = some v := fun i => by
      by_cases hi : i < len
      · obtain ⟨cs', h1, h2⟩ := hel i (by omega)
        obtain ⟨t, ht⟩ := hE _ _ _ h2
        obtain ⟨_, hlen, hcell⟩ := World.cells?_some h1
        refine ⟨cs', some t, fun _ => ⟨t, rfl, ht, fun j v hj => ?_⟩⟩
        have hjl : j < P.cellsOf E := by rw [← hlen]; exact (List.getElem?_eq_some_iff.1 hj).1
        rw [← Go.Deep.add_add, hcell j hjl, hj]
      · exact ⟨[], none, fun h => absurd h hi⟩
    obtain ⟨css, hx⟩ := Classical.axiomOfChoice hx
    obtain ⟨ts, hx⟩ := Classical.axiomOfChoice hx
    refine ⟨(List.range len).filterMap ts, some a, len, cap, hc, ?_⟩
    have hlen : ((List.range len).filterMap ts).length = len ∧ ∀ i, i < len → ((List.range len).filterMap ts)[i]? = ts i := filterMap_all ts len fun i hi => by
      obtain ⟨t, ht, _⟩ := hx i hi
      exact ⟨t, ht⟩
    refine ⟨hlen.1.symm, hl, by unfold maxLen at hm; exact hm, fun hpos => ?_⟩
    obtain ⟨t0, _, hR0, hc0⟩ := hx 0 hpos
    have hl0 := Enc.len hR0
    have hcell0 := hc0 0 ((css 0)[0]'(by omega)) (List.getElem?_eq_getElem (by omega))
    obtain ⟨b, off, spot⟩ := a
    have hspot : spot = none := by
      simp only [Nat.zero_mul, Nat.add_zero, Addr.add, if_true] at hcell0
      cases spot with
      | none => rfl
      | some s =>
        exfalso
        unfold World.cell? at hcell0
        split at hcell0 <;> simp at hcell0
    subst hspot
    refine ⟨b, off, css, rfl, trivial, ?_, fun i x hi => ?_⟩
    · simp only [Nat.zero_mul, Nat.add_zero, Addr.add, if_true] at hcell0
      exact cell_lt hcell0
    · have hil : i < len := by rw [← hlen.1]; exact (List.getElem?_eq_some_iff.1 hi).1
      obtain ⟨t, ht, hR, hcell⟩ := hx i hil
      rw [hlen.2 i hil, ht] at hi
      obtain rfl : t = x := by simpa using hi
      refine ⟨hR, fun j v hj => ?_⟩
      have := hcell j v hj
      rw [hk] at this
      unfold Addr.add at this
      split at this
      · rename_i h0; rw [Nat.add_assoc, h0]; exact this
      · rw [Nat.add_assoc]; exact this
/-- One field of a struct that reads: number j, of type T', k cells from o on. -/
theorem rd_field {T : TypeId} {fs : Array Field} {fuel : Nat} {cs : List Value} {x : DataW H × List MemPlace} {α : Type} [Enc α] (hT : P.underlying T = some (.struct fs))
    (h : DataW.trod enc P W 0 (fun _ => true) true fuel T cs = some x) (j o k : Nat) (T' : TypeId) (hj : (fs[j]?).map (fun f => (f.offset, f.type)) = some (o, T')) (hk : P.cellsOf T' = k) (hR : Rd enc P W T' α) : ∃ t : α, Enc.RT W t ((cs.drop o).take k) := by
  obtain ⟨xs, n, _, _, hl, hlen, hf⟩ := DataW.trod_struct hT h
  cases hfj : fs[j]? with
  | none => rw [hfj] at hj; cases hj
  | some f =>
    rw [hfj] at hj
    simp only [Option.map_some, Option.some.injEq, Prod.mk.injEq] at hj
    obtain ⟨rfl, rfl⟩ := hj
    subst hk
    have h1 := hf j f hfj
    have hjl : j < xs.length := by rw [hlen]; exact (Array.getElem?_eq_some_iff.1 hfj).1
    rw [List.getElem?_eq_getElem hjl] at h1
    exact hR _ _ _ h1
theorem list2 {α : Type} : ∀ {l : List α}, l.length = 2 → ∃ a b, l = [a, b]
  | [a, b], _ => ⟨a, b, rfl⟩
theorem list3 {α : Type} : ∀ {l : List α}, l.length = 3 → ∃ a b c, l = [a, b, c]
  | [a, b, c], _ => ⟨a, b, c, rfl⟩
theorem list4 {α : Type} : ∀ {l : List α}, l.length = 4 → ∃ a b c d, l = [a, b, c, d]
  | [a, b, c, d], _ => ⟨a, b, c, d, rfl⟩
theorem list5 {α : Type} : ∀ {l : List α}, l.length = 5 → ∃ a b c d e, l = [a, b, c, d, e]
  | [a, b, c, d, e], _ => ⟨a, b, c, d, e, rfl⟩
theorem list6 {α : Type} : ∀ {l : List α}, l.length = 6 → ∃ a b c d e f, l = [a, b, c, d, e, f]
  | [a, b, c, d, e, f], _ => ⟨a, b, c, d, e, f, rfl⟩
theorem list7 {α : Type} : ∀ {l : List α}, l.length = 7 → ∃ a b c d e f g, l = [a, b, c, d, e, f, g]
  | [a, b, c, d, e, f, g], _ => ⟨a, b, c, d, e, f, g, rfl⟩
theorem list8 {α : Type} : ∀ {l : List α}, l.length = 8 → ∃ a b c d e f g h, l = [a, b, c, d, e, f, g, h]
  | [a, b, c, d, e, f, g, h], _ => ⟨a, b, c, d, e, f, g, h, rfl⟩
theorem rd_len {T : TypeId} {fs : Array Field} {fuel : Nat} {cs : List Value} {x : DataW H × List MemPlace} (hT : P.underlying T = some (.struct fs))
    (h : DataW.trod enc P W 0 (fun _ => true) true fuel T cs = some x) : cs.length = P.cellsOf T := by
  obtain ⟨xs, n, _, _, hl, _⟩ := DataW.trod_struct hT h
  exact hl
/-- A struct that came in by value: its cells. -/
theorem rd_value {T : TypeId} {fs : Array Field} {v : Value} {d : DataW H} {p : List MemPlace} {α : Type} [Enc α] {b0 : Nat} (hT : P.underlying T = some (.struct fs)) (hv : Value.okWide P W .any b0 T v)
    (h : DataW.Trod enc P W 0 (fun _ => true) true T v d p) (hR : Rd enc P W T α) : ∃ (t : α) (cs : List Value), v = .agg cs.toArray ∧ Enc.RT W t cs := by
  obtain ⟨cs, rfl, _⟩ := okWide_struct hT hv
  obtain ⟨fuel, hf⟩ := h
  obtain ⟨t, ht⟩ := hR _ _ _ hf
  exact ⟨t, cs.toList, by simp, ht⟩
end
end Go.Proofs.YtknjnciilchgnaaGreatDoor
