/- A slice that the call itself made, and what is appended to it. No program is named. -/
import Derived.Test.YtknjnciilchgnaaGreatDoorK1
import Derived.Maps.AppendAt
import Derived.Deep.AppendLies
import Derived.RegionTactic
import Derived.OwnWalk
import Derived.Laws.AppendOwnNone
namespace Go.Proofs.YtknjnciilchgnaaGreatDoor
open Go.RowKit

/-- Type t is a slice of e: k cells and so many bytes an element. -/
def ElemOK (P : Program) (t e : TypeId) (k bytes : Nat) : Prop :=
  P.underlying t = some (.slice e) ∧ ∃ i z, P.info? e = some i ∧ i.zero = some z ∧ i.size = k ∧ i.bytes = bytes ∧ z.cells.size = k
theorem elemOK {P : Program} {t e : TypeId} {k bytes : Nat} (ht : P.underlying t = some (.slice e)) (h : (P.info? e).map (fun i => (i.zero.map (·.cells.size), i.size, i.bytes)) = some (some k, k, bytes)) : ElemOK P t e k bytes := by
  refine ⟨ht, ?_⟩
  cases hi : P.info? e with
  | none => rw [hi] at h; cases h
  | some i =>
    rw [hi] at h
    simp only [Option.map_some, Option.some.injEq, Prod.mk.injEq] at h
    obtain ⟨h1, h2, h3⟩ := h
    cases hz : i.zero with
    | none => rw [hz] at h1; cases h1
    | some z =>
      rw [hz] at h1
      exact ⟨i, z, rfl, hz, h2, h3, by simpa using h1⟩

/-- v is a slice of the call's own (from block B on), its elements are xs. -/
def OwnL {α : Type} [Enc α] (w : World) (B : Nat) (E : TypeId) (v : Value) (xs : List α) : Prop :=
  ∃ css : List (List Value), css.length = xs.length ∧ w.ownsRow B E (Enc.k α) v xs.length css.flatten ∧
    ∀ (i : Nat) (x : α) (cs : List Value), xs[i]? = some x → css[i]? = some cs → Enc.R (fun b => v.ownBlock ≠ some b) w x cs

theorem flatten_get {k : Nat} : ∀ (css : List (List Value)) (_ : ∀ cs ∈ css, cs.length = k) (i : Nat) (cs : List Value) (j : Nat) (v : Value), css[i]? = some cs → cs[j]? = some v → css.flatten[i * k + j]? = some v
  | [], _, i, cs, j, v, h, _ => by simp at h
  | c :: css, hk, 0, cs, j, v, h, hv => by
    simp at h
    subst h
    have hj : j < c.length := (List.getElem?_eq_some_iff.1 hv).1
    rw [List.flatten_cons, Nat.zero_mul, Nat.zero_add, List.getElem?_append_left hj]
    exact hv
  | c :: css, hk, i + 1, cs, j, v, h, hv => by
    simp at h
    have := flatten_get css (fun x hx => hk x (List.mem_cons_of_mem _ hx)) i cs j v h hv
    have hc := hk c (List.mem_cons_self ..)
    rw [List.flatten_cons, List.getElem?_append_right (by rw [hc, Nat.succ_mul]; omega), hc, ← this]
    congr 1
    rw [Nat.succ_mul]; omega
theorem flatten_len {k : Nat} : ∀ (css : List (List Value)) (_ : ∀ cs ∈ css, cs.length = k), css.flatten.length = css.length * k
  | [], _ => by simp
  | c :: css, hk => by
    rw [List.flatten_cons, List.length_append, flatten_len css (fun x hx => hk x (List.mem_cons_of_mem _ hx)), hk c (List.mem_cons_self ..), List.length_cons, Nat.succ_mul]
    omega
/-- What an SlS says, its cells as lists. -/
theorem SlS.lists {α : Type} [Enc α] {S : Nat → Prop} {w : World} {A : Option Addr} {n c : Nat} {xs : List α} (h : SlS S w A n c xs) :
    ∃ css : List (List Value), css.length = xs.length ∧ (∀ (i : Nat) (x : α) (cs : List Value), xs[i]? = some x → css[i]? = some cs → Enc.R S w x cs) ∧
      (0 < n → ∃ b off, A = some ⟨b, off, none⟩ ∧ S b ∧ b < w.heap.size ∧ ∀ j v, css.flatten[j]? = some v → w.cell? ⟨b, off + j, none⟩ = some v) := by
  obtain ⟨h1, h2, h3, h4⟩ := h
  rcases Nat.eq_zero_or_pos n with h0 | h0
  · have hx : xs = [] := List.eq_nil_of_length_eq_zero (by omega)
    subst hx
    exact ⟨[], rfl, fun i x cs hi => by simp at hi, fun h => absurd h (by omega)⟩
  · obtain ⟨b, off, css, hA, hS, hlt, hx⟩ := h4 h0
    have hlen : ∀ i, i < xs.length → (css i).length = Enc.k α := fun i hi => Enc.len (hx i xs[i] (List.getElem?_eq_getElem hi)).1
    have hget : ∀ i, i < xs.length → ((List.range xs.length).map css)[i]? = some (css i) := fun i hi => by simp [hi]
    have hall : ∀ cs ∈ (List.range xs.length).map css, cs.length = Enc.k α := fun cs hcs => by
      obtain ⟨i, hi, rfl⟩ := List.mem_map.1 hcs
      exact hlen i (by simpa using hi)
    refine ⟨(List.range xs.length).map css, by simp, fun i x cs hi hcs => ?_, fun _ => ⟨b, off, hA, hS, hlt, fun j v hj => ?_⟩⟩
    · have hil : i < xs.length := (List.getElem?_eq_some_iff.1 hi).1
      rw [hget i hil] at hcs
      obtain rfl : css i = cs := by simpa using hcs
      exact (hx i x hi).1
    · have hjl := (List.getElem?_eq_some_iff.1 hj).1
      rw [flatten_len _ hall, List.length_map, List.length_range] at hjl
      have hk : 0 < Enc.k α := by
        rcases Nat.eq_zero_or_pos (Enc.k α) with e | e
        · rw [e] at hjl; simp at hjl
        · exact e
      have hi : j / Enc.k α < xs.length := Nat.div_lt_of_lt_mul (by rw [Nat.mul_comm]; exact hjl)
      have hm : j % Enc.k α < Enc.k α := Nat.mod_lt _ hk
      have hd : j / Enc.k α * Enc.k α + j % Enc.k α = j := Nat.div_add_mod' j _
      obtain ⟨u, hu⟩ : ∃ u, (css (j / Enc.k α))[j % Enc.k α]? = some u := ⟨_, List.getElem?_eq_getElem (by rw [hlen _ hi]; exact hm)⟩
      have hf := flatten_get _ hall (j / Enc.k α) _ (j % Enc.k α) u (hget _ hi) hu
      rw [hd, hj] at hf
      obtain rfl : v = u := by simpa using hf
      have := (hx _ _ (List.getElem?_eq_getElem hi)).2 _ _ hu
      rw [Nat.add_assoc, hd] at this
      exact this

section
variable {P : Program} {α : Type} [Enc α]
theorem OwnL.nil (w : World) (B : Nat) (E : TypeId) : OwnL w B E (.slice none 0 0) ([] : List α) :=
  ⟨[], rfl, ⟨by simp, .inl ⟨rfl, rfl⟩⟩, fun i x cs hi => by simp at hi⟩
/-- The parts of the value. -/
theorem OwnL.sl {w : World} {B : Nat} {E : TypeId} {v : Value} {xs : List α} (h : OwnL w B E v xs) : ∃ A c, v = .slice A xs.length c ∧ SlR w A xs.length c xs ∧ (0 < xs.length → ∃ g, A = some ⟨g, 0, none⟩ ∧ B ≤ g ∧ g < w.heap.size) := by
  obtain ⟨css, hl, ⟨hlen, hv⟩, hR⟩ := h
  rcases hv with ⟨rfl, hn⟩ | ⟨g, cap, cur, rfl, hB, hh, hc, hm, hs, ht⟩
  · have hx : xs = [] := List.eq_nil_of_length_eq_zero hn
    subst hx
    exact ⟨_, _, rfl, SlR.nil w, fun h => absurd h (by simp)⟩
  · have hg : g < w.heap.size := by
      rcases Nat.lt_or_ge g w.heap.size with h | h
      · exact h
      · rw [Array.getElem?_eq_none h] at hh; cases hh
    have hall : ∀ cs ∈ css, cs.length = Enc.k α := fun cs hcs => by
      obtain ⟨i, hi, rfl⟩ := List.getElem_of_mem hcs
      exact Enc.len (hR i xs[i] css[i] (List.getElem?_eq_getElem (by omega)) (List.getElem?_eq_getElem hi))
    refine ⟨_, _, rfl, ⟨rfl, hc, by unfold maxLen at hm; exact hm, fun _ => ⟨g, 0, fun i => css.getD i [], rfl, trivial, hg, fun i x hi => ?_⟩⟩, fun _ => ⟨g, rfl, hB, hg⟩⟩
    have hil : i < css.length := by rw [hl]; exact (List.getElem?_eq_some_iff.1 hi).1
    have hci : css[i]? = some (css.getD i []) := by rw [List.getD_eq_getElem?_getD, List.getElem?_eq_getElem hil]; rfl
    refine ⟨Enc.weak (fun _ _ _ => trivial) (hR i x _ hi hci), fun j v hj => ?_⟩
    have hf := flatten_get css hall i _ j v hci hj
    have hcell : w.cell? ⟨g, i * Enc.k α + j, none⟩ = cur[i * Enc.k α + j]? := cell_of_row w g _ cur E (0, 0) hh
    rw [Nat.zero_add, hcell, ← Array.getElem?_toList, ← hf, ← ht, List.getElem?_take]
    have hfl := (List.getElem?_eq_some_iff.1 hf).1
    rw [← ht, List.length_take] at hfl
    rw [if_pos (by omega)]
theorem OwnL.keep {w w' : World} {B : Nat} {E : TypeId} {v : Value} {xs : List α} (hb : Below w.heap.size w w') (h : OwnL w B E v xs) : OwnL w' B E v xs := by
  obtain ⟨css, hl, ⟨hlen, hv⟩, hR⟩ := h
  refine ⟨css, hl, ⟨hlen, ?_⟩, fun i x cs hi hcs => Enc.mono hb (hR i x cs hi hcs)⟩
  rcases hv with h | ⟨g, cap, cur, rfl, hB, hh, r⟩
  · exact .inl h
  · have hg : g < w.heap.size := by
      rcases Nat.lt_or_ge g w.heap.size with h | h
      · exact h
      · rw [Array.getElem?_eq_none h] at hh; cases hh
    exact .inr ⟨g, cap, cur, rfl, hB, (hb.block g hg).trans hh, r⟩
theorem run_append_of_nil {P : Program} (w : World) (base : Nat) (t ty e : TypeId) (i : TypeInfo) (size : Nat) (ht : P.underlying t = some (.slice e)) (hi : P.info? e = some i)
    (v : Value) (n : Nat) (xs : List Value) (hown : w.ownsRow base e size v n xs) (c : Nat) : (Builtin.append_ #[t, t] ty #[v, .slice none 0 c]).run P w = .ok v w := by
  rcases hown.2 with ⟨rfl, rfl⟩ | ⟨g, cap, cur, rfl, _, _, hnc, _⟩
  · simp [Builtin.append_, run_underlying ht, sizeOf, typeInfo, hi, Builtin.lenOf, Builtin.firstCells]
  · simp [Builtin.append_, run_underlying ht, sizeOf, typeInfo, hi, Builtin.lenOf, Builtin.firstCells, hnc, storeCells]
/-- Another row is written. -/
theorem OwnL.grown {w w' : World} {B : Nat} {E : TypeId} {v : Value} {xs : List α} {row : Option Nat} (h : OwnL w B E v xs) (hg : w.grownBy w' row) (hne : ∀ b, v.ownBlock = some b → some b ≠ row)
    (hE : ∀ (x : α) (cs : List Value), x ∈ xs → Enc.R (fun b => v.ownBlock ≠ some b) w x cs → Enc.R (fun b => v.ownBlock ≠ some b) w' x cs) : OwnL w' B E v xs := by
  obtain ⟨css, hl, ⟨hlen, hv⟩, hR⟩ := h
  refine ⟨css, hl, ⟨hlen, ?_⟩, fun i x cs hi hcs => hE x cs (List.mem_of_getElem? hi) (hR i x cs hi hcs)⟩
  rcases hv with h | ⟨g, cap, cur, rfl, hB, hh, r⟩
  · exact .inl h
  · have hgl : g < w.heap.size := by
      rcases Nat.lt_or_ge g w.heap.size with h | h
      · exact h
      · rw [Array.getElem?_eq_none h] at hh; cases hh
    exact .inr ⟨g, cap, cur, rfl, hB, (hg.block g hgl (hne g rfl)).trans hh, r⟩
theorem OwnL.lt {w : World} {B b : Nat} {E : TypeId} {v : Value} {xs : List α} (h : OwnL w B E v xs) (hv : v.ownBlock = some b) : b < w.heap.size := by
  obtain ⟨css, hl, ⟨hlen, h'⟩, hR⟩ := h
  rcases h' with ⟨rfl, _⟩ | ⟨g, cap, cur, rfl, hB, hh, _⟩
  · simp [Value.ownBlock] at hv
  · obtain rfl : g = b := by simpa [Value.ownBlock] using hv
    rcases Nat.lt_or_ge g w.heap.size with h | h
    · exact h
    · rw [Array.getElem?_eq_none h] at hh; cases hh
theorem OwnL.base {w : World} {B B' : Nat} {E : TypeId} {v : Value} {xs : List α} (h : OwnL w B E v xs) (hB : B' ≤ B) : OwnL w B' E v xs := by
  obtain ⟨css, hl, ⟨hlen, hv⟩, hR⟩ := h
  exact ⟨css, hl, ⟨hlen, hv.imp id fun ⟨g, cap, cur, h1, h2, h3⟩ => ⟨g, cap, cur, h1, Nat.le_trans hB h2, h3⟩⟩, hR⟩
theorem OwnL.ge {w : World} {B b : Nat} {E : TypeId} {v : Value} {xs : List α} (h : OwnL w B E v xs) (hv : v.ownBlock = some b) : B ≤ b := by
  obtain ⟨css, hl, ⟨hlen, h'⟩, hR⟩ := h
  rcases h' with ⟨rfl, _⟩ | ⟨g, cap, cur, rfl, hB, _⟩
  · simp [Value.ownBlock] at hv
  · have : g = b := by simpa [Value.ownBlock] using hv
    omega
/-- A slice that was just built out of values. -/
theorem OwnL.built {w : World} {B : Nat} {E : TypeId} {n : Nat} {xs : List α} (css : List (List Value)) (cs : Array Value) (hB : B ≤ w.heap.size) (hn : n = xs.length) (hl : css.length = xs.length) (hm : n ≤ maxLen)
    (hR : ∀ (i : Nat) (x : α) (cs : List Value), xs[i]? = some x → css[i]? = some cs → Enc.RT w x cs) (hc : css.flatten = cs.toList) : OwnL (w.alloc (.cells cs E)) B E (.slice (some ⟨w.heap.size, 0, none⟩) n n) xs := by
  subst hn
  have hb : Below w.heap.size w (w.alloc (.cells cs E)) := Below.al (Below.refl _ _) _
  have hall : ∀ c ∈ css, c.length = Enc.k α := fun c hcs => by
    obtain ⟨i, hi, rfl⟩ := List.getElem_of_mem hcs
    exact Enc.len (hR i xs[i] css[i] (List.getElem?_eq_getElem (by omega)) (List.getElem?_eq_getElem hi))
  have hfl := flatten_len css hall
  refine ⟨css, hl, ⟨by rw [hfl, hl], .inr ⟨w.heap.size, xs.length, cs, rfl, hB, heap_alloc_new w _, Nat.le_refl _, hm, ?_, ?_⟩⟩, fun i x c hi hcs => ?_⟩
  · rw [← Array.length_toList, ← hc, hfl, hl]
  · rw [hc, List.take_of_length_le]
    rw [← hc, hfl, hl]; exact Nat.le_refl _
  · refine Enc.mono hb (Enc.weak (fun b _ hlt e => ?_) (hR i x c hi hcs))
    have e' : w.heap.size = b := by simpa [Value.ownBlock] using e
    omega
theorem OwnL.built0 (w : World) (E : TypeId) : OwnL (w.alloc (.cells #[] E)) w.heap.size E (.slice (some ⟨w.heap.size, 0, none⟩) 0 0) ([] : List α) :=
  OwnL.built [] #[] (Nat.le_refl _) rfl rfl (by decide) (fun i x cs hi => by simp at hi) rfl
/-- append: the source's elements must not lead into the row that is appended to. -/
theorem run_append_L {t E : TypeId} {ty : TypeId} {bytes : Nat} (ok : ElemOK P t E (Enc.k α) bytes) (hk0 : 0 < Enc.k α) {w : World} {B : Nat} {v : Value} {xs : List α} (hown : OwnL w B E v xs)
    {A : Option Addr} {m c : Nat} {ys : List α} {S : Nat → Prop} (hr : SlS S w A m c ys) (hE : ∀ (y : α) (cs : List Value), y ∈ ys → Enc.R S w y cs → Enc.R (fun b => v.ownBlock ≠ some b) w y cs)
    (h63 : xs.length + m ≤ maxLen) (hbytes : (xs.length + m) * bytes ≤ 140737488355328) (hbase : B ≤ w.heap.size) :
    ∃ v' w', (Builtin.append_ #[t, t] ty #[v, .slice A m c]).run P w = .ok v' w' ∧ OwnL w' B E v' (xs ++ ys) ∧ w.grownBy w' v.ownBlock ∧ (v'.ownBlock = v.ownBlock ∨ v'.ownBlock = some w.heap.size) := by
  obtain ⟨ht, i, z, hi, hz, hsize, hby, hzs⟩ := ok
  obtain ⟨css, hl, hw, hR⟩ := hown
  obtain ⟨css2, hl2, hR2, hc2⟩ := hr.lists
  have hm := hr.1
  have hall : ∀ cs ∈ css2, cs.length = Enc.k α := fun cs hcs => by
    obtain ⟨j, hj, rfl⟩ := List.getElem_of_mem hcs
    exact Enc.len (hR2 j ys[j] css2[j] (List.getElem?_eq_getElem (by omega)) (List.getElem?_eq_getElem hj))
  have hfl := flatten_len css2 hall
  have hone : ∀ u ∈ css2.flatten, u.oneCell' = true := fun u hu => by
    obtain ⟨cs, hcs, hu⟩ := List.mem_flatten.1 hu
    obtain ⟨j, hj, rfl⟩ := List.getElem_of_mem hcs
    exact Enc.one (hR2 j ys[j] css2[j] (List.getElem?_eq_getElem (by omega)) (List.getElem?_eq_getElem hj)) u hu
  -- what is known of all elements, in the world behind
  have hfin : ∀ (v' : Value) (w' : World), w.grownBy w' v.ownBlock → (v'.ownBlock = v.ownBlock ∨ v'.ownBlock = some w.heap.size) → w'.ownsRow B E (Enc.k α) v' (xs.length + m) (css.flatten ++ css2.flatten) → OwnL w' B E v' (xs ++ ys) := fun v' w' hg hv' hw' => by
    refine ⟨css ++ css2, by simp [hl, hl2], by rw [List.flatten_append, List.length_append, ← hm]; exact hw', fun j x cs hj hcs => ?_⟩
    have hx : Enc.R (fun b => v.ownBlock ≠ some b) w x cs := by
      rcases Nat.lt_or_ge j xs.length with hjl | hjl
      · rw [List.getElem?_append_left hjl] at hj
        rw [List.getElem?_append_left (by omega)] at hcs
        exact hR j x cs hj hcs
      · rw [List.getElem?_append_right hjl] at hj
        rw [List.getElem?_append_right (by omega), hl] at hcs
        exact hE x cs (List.mem_of_getElem? hj) (hR2 _ x cs hj hcs)
    have hx' : Enc.R (fun b => v.ownBlock ≠ some b ∧ b < w.heap.size) w x cs := Enc.weak (fun _ h1 h2 => ⟨h1, h2⟩) hx
    have hx2 := Enc.keep (w' := w') (fun b hb _ => hg.block b hb.2 (fun e => hb.1 e.symm)) hg.size hx'
    refine Enc.weak (fun b hb _ => ?_) hx2
    rcases hv' with e | e
    · rw [e]; exact hb.1
    · rw [e]; intro e2; injection e2 with e2; omega
  rcases A with _ | ad
  · have hm0 : m = 0 := by
      rcases Nat.eq_zero_or_pos m with h0 | h0
      · exact h0
      · obtain ⟨b, off, h, _⟩ := hc2 h0
        cases h
    subst hm0
    have hys : ys = [] := List.eq_nil_of_length_eq_zero hm.symm
    subst hys
    have hcs : css2 = [] := List.eq_nil_of_length_eq_zero (by rw [hl2]; rfl)
    subst hcs
    refine ⟨v, w, run_append_of_nil w B t ty E i (Enc.k α) ht hi v _ _ hw c, ?_, World.grownBy.refl w _, .inl rfl⟩
    exact hfin v w (World.grownBy.refl w _) (.inl rfl) (by simpa using hw)
  · have hcells : ∀ j u, css2.flatten[j]? = some u → w.cell? (ad.add j) = some u := fun j u hu => by
      rcases Nat.eq_zero_or_pos m with h0 | h0
      · have hj := (List.getElem?_eq_some_iff.1 hu).1
        rw [hfl, hl2, ← hm, h0] at hj
        simp at hj
      · obtain ⟨b, off, h, _, _, hcell⟩ := hc2 h0
        injection h with h
        subst h
        have := hcell j u hu
        unfold Addr.add
        split
        · rename_i hj0; rw [hj0] at this; exact this
        · exact this
    obtain ⟨v', w', hrun, h2, h3, _, h5⟩ := run_append_own_at (P := P) w B t ty E i z (Enc.k α) bytes ht hi hz hsize hby hzs hk0 v _ _ hw ad m c css2.flatten (by rw [hfl, hl2, ← hm]) hcells hone h63 hbytes hbase
    exact ⟨v', w', hrun, hfin v' w' h3 h5 h2, h3, h5⟩

theorem wp_append_L {o : Oper} {a : Act} {K : Act → World → Prop} {Q : Exit → Act → World → Prop} (s x : Operand) (t : TypeId)
    (ho : o.op = .call { callee := .builtin .append, args := #[s, x], argTypes := #[t, t] })
    {E : TypeId} {bytes : Nat} (ok : ElemOK P t E (Enc.k α) bytes) (hk0 : 0 < Enc.k α) {w : World} {B : Nat} {v : Value} {xs : List α} (hs : a.eval s = v) (hown : OwnL w B E v xs)
    {A : Option Addr} {m c : Nat} {ys : List α} {S : Nat → Prop} (hx : a.eval x = .slice A m c) (hr : SlS S w A m c ys) (hE : ∀ (y : α) (cs : List Value), y ∈ ys → Enc.R S w y cs → Enc.R (fun b => v.ownBlock ≠ some b) w y cs)
    (h63 : xs.length + m ≤ maxLen) (hbytes : (xs.length + m) * bytes ≤ 140737488355328) (hbase : B ≤ w.heap.size)
    (h : ∀ v' w', OwnL w' B E v' (xs ++ ys) → w.grownBy w' v.ownBlock → (v'.ownBlock = v.ownBlock ∨ v'.ownBlock = some w.heap.size) → K (a.put o.dst v') w') : o.wp P a w K Q := by
  obtain ⟨v', w', hrun, h2, h3, h4⟩ := run_append_L (ty := o.type) ok hk0 hown hr hE h63 hbytes hbase
  unfold Oper.wp execOp
  simp only [ho, resolve, invoke, builtin, Sem.run_bind, Sem.run_pure, Result.andThen_ok, List.map_toArray, List.map_cons, List.map_nil, hs, hx, hrun]
  exact h v' w' h2 h3 h4
theorem wpList_append_L {ops : Array Oper} {rest : List Oper} {o : Oper} {a : Act} {Q : Exit → Act → World → Prop} (hgd : o.guard = none) (s x : Operand) (t : TypeId)
    (ho : o.op = .call { callee := .builtin .append, args := #[s, x], argTypes := #[t, t] })
    {E : TypeId} {bytes : Nat} (ok : ElemOK P t E (Enc.k α) bytes) (hk0 : 0 < Enc.k α) {w : World} {B : Nat} {v : Value} {xs : List α} (hs : a.eval s = v) (hown : OwnL w B E v xs)
    {A : Option Addr} {m c : Nat} {ys : List α} {S : Nat → Prop} (hx : a.eval x = .slice A m c) (hr : SlS S w A m c ys) (hE : ∀ (y : α) (cs : List Value), y ∈ ys → Enc.R S w y cs → Enc.R (fun b => v.ownBlock ≠ some b) w y cs)
    (h63 : xs.length + m ≤ maxLen) (hbytes : (xs.length + m) * bytes ≤ 140737488355328) (hbase : B ≤ w.heap.size)
    (h : ∀ v' w', OwnL w' B E v' (xs ++ ys) → w.grownBy w' v.ownBlock → (v'.ownBlock = v.ownBlock ∨ v'.ownBlock = some w.heap.size) → wpList P ops Q rest (a.put o.dst v') w') : wpList P ops Q (o :: rest) a w :=
  wpList_plain hgd fun _ hK => wp_append_L s x t ho ok hk0 hs hown hx hr hE h63 hbytes hbase fun v' w' h2 h3 h4 => hK _ _ (h v' w' h2 h3 h4)
end
end Go.Proofs.YtknjnciilchgnaaGreatDoor
