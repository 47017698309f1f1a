/- Small words for the walks of this seat: a slice that reads as a list of data, kept while the world grows. No program is named. -/
import Derived.WalkKit
import Derived.WalkSpells
import Derived.WalkLawsBesides
import Derived.Deep.QuietTactic
import Derived.BigQuiet
import Derived.Deep.RegionHeld3
import Derived.Lib.Hide
namespace Go.Proofs.YtknjnciilchgnaaGreatDoor
open Go.RowKit

theorem re1 {B b o : Nat} {v : Value} {W w1 : World} (hb : Below B W w1) (h : b < B) (e : W.cell? ⟨b, o, none⟩ = some v) : w1.cell? ⟨b, o, none⟩ = some v :=
  (hb.cell (p := ⟨b, o, none⟩) h).trans e
theorem rf1 {B b o : Nat} {W w1 : World} (hb : Below B W w1) (h : b < B) (e : W.frozen? ⟨b, o, none⟩ = false) : w1.frozen? ⟨b, o, none⟩ = false :=
  (hb.frozen (p := ⟨b, o, none⟩) h).trans e
theorem cell_lt {w : World} {b o : Nat} {v : Value} (h : w.cell? ⟨b, o, none⟩ = some v) : b < w.heap.size := by
  rcases Nat.lt_or_ge b w.heap.size with hlt | hge
  · exact hlt
  · simp [World.cell?, Array.getElem?_eq_none hge] at h

theorem Below.al {a w : World} (h : Below a.heap.size a w) (o : Obj) : Below a.heap.size a (w.alloc o) := h.alloc h.size o
theorem Below.tr {a b c : World} (h : Below a.heap.size a b) (k : Below b.heap.size b c) : Below a.heap.size a c := h.trans (k.mono h.size)

/-- What a type's values look like in memory: k cells; R S w x cs: the cells cs stand for x in the world w, and what they lead to lies in blocks of S. -/
class Enc (α : Type) where
  k : Nat
  R : (Nat → Prop) → World → α → List Value → Prop
  len : ∀ {S w x cs}, R S w x cs → cs.length = k
  one : ∀ {S w x cs}, R S w x cs → ∀ u ∈ cs, u.oneCell' = true
  keep : ∀ {S w w' x cs}, (∀ b, S b → b < w.heap.size → w'.heap[b]? = w.heap[b]?) → w.heap.size ≤ w'.heap.size → R S w x cs → R S w' x cs
  weak : ∀ {S S' w x cs}, (∀ b, S b → b < w.heap.size → S' b) → R S w x cs → R S' w x cs
/-- .. in whatever blocks. -/
abbrev Enc.RT {α : Type} [Enc α] (w : World) (x : α) (cs : List Value) : Prop := Enc.R (fun _ => True) w x cs

/-- A slice value's parts stand for a list; all lies in blocks of S. -/
def SlS {α : Type} [Enc α] (S : Nat → Prop) (w : World) (A : Option Addr) (n c : Nat) (xs : List α) : Prop :=
  n = xs.length ∧ n ≤ c ∧ c ≤ 9223372036854775807 ∧ (0 < n → ∃ (b off : Nat) (css : Nat → List Value), A = some ⟨b, off, none⟩ ∧ S b ∧ b < w.heap.size ∧
    ∀ i x, xs[i]? = some x → Enc.R S w x (css i) ∧ ∀ j v, (css i)[j]? = some v → w.cell? ⟨b, off + i * Enc.k α + j, none⟩ = some v)
abbrev SlR {α : Type} [Enc α] (w : World) (A : Option Addr) (n c : Nat) (xs : List α) : Prop := SlS (fun _ => True) w A n c xs

theorem cell_of_heap {w w' : World} {b o : Nat} (h : w'.heap[b]? = w.heap[b]?) : w'.cell? ⟨b, o, none⟩ = w.cell? ⟨b, o, none⟩ :=
  World.cell?_of_block (a := ⟨b, o, none⟩) h
theorem SlS.keep {α : Type} [Enc α] {S : Nat → Prop} {w w' : World} {A : Option Addr} {n c : Nat} {xs : List α} (hk : ∀ b, S b → b < w.heap.size → w'.heap[b]? = w.heap[b]?) (hz : w.heap.size ≤ w'.heap.size) (h : SlS S w A n c xs) : SlS S w' A n c xs := by
  obtain ⟨h1, h2, h3, h4⟩ := h
  refine ⟨h1, h2, h3, fun h0 => ?_⟩
  obtain ⟨b, off, css, hA, hS, hlt, hx⟩ := h4 h0
  refine ⟨b, off, css, hA, hS, Nat.lt_of_lt_of_le hlt hz, fun i x hi => ?_⟩
  obtain ⟨hr, hc⟩ := hx i x hi
  exact ⟨Enc.keep hk hz hr, fun j v hj => (cell_of_heap (hk b hS hlt)).trans (hc j v hj)⟩
theorem SlS.weak {α : Type} [Enc α] {S S' : Nat → Prop} {w : World} {A : Option Addr} {n c : Nat} {xs : List α} (hs : ∀ b, S b → b < w.heap.size → S' b) (h : SlS S w A n c xs) : SlS S' w A n c xs := by
  obtain ⟨h1, h2, h3, h4⟩ := h
  refine ⟨h1, h2, h3, fun h0 => ?_⟩
  obtain ⟨b, off, css, hA, hS, hlt, hx⟩ := h4 h0
  refine ⟨b, off, css, hA, hs b hS hlt, hlt, fun i x hi => ?_⟩
  obtain ⟨hr, hc⟩ := hx i x hi
  exact ⟨Enc.weak hs hr, hc⟩
theorem SlS.any {α : Type} [Enc α] {S : Nat → Prop} {w : World} {A : Option Addr} {n c : Nat} {xs : List α} (h : SlS S w A n c xs) : SlR w A n c xs := h.weak fun _ _ _ => trivial
theorem SlR.mono {α : Type} [Enc α] {w w' : World} {A : Option Addr} {n c : Nat} {xs : List α} (hb : Below w.heap.size w w') (h : SlR w A n c xs) : SlR w' A n c xs :=
  SlS.keep (fun b _ hl => hb.block b hl) hb.size h
theorem SlS.mono {α : Type} [Enc α] {S : Nat → Prop} {w w' : World} {A : Option Addr} {n c : Nat} {xs : List α} (hb : Below w.heap.size w w') (h : SlS S w A n c xs) : SlS S w' A n c xs :=
  SlS.keep (fun b _ hl => hb.block b hl) hb.size h
theorem Enc.mono {α : Type} [Enc α] {S : Nat → Prop} {w w' : World} {x : α} {cs : List Value} (hb : Below w.heap.size w w') (h : Enc.R S w x cs) : Enc.R S w' x cs :=
  Enc.keep (fun b _ hl => hb.block b hl) hb.size h
/-- All that stands in w lies in its blocks. -/
theorem SlS.old {α : Type} [Enc α] {S : Nat → Prop} {w : World} {A : Option Addr} {n c : Nat} {xs : List α} (h : SlS S w A n c xs) : SlS (fun b => S b ∧ b < w.heap.size) w A n c xs := h.weak fun _ h1 h2 => ⟨h1, h2⟩
theorem SlS.nil {α : Type} [Enc α] (S : Nat → Prop) (w : World) : SlS S w none 0 0 ([] : List α) := ⟨rfl, Nat.le_refl _, by omega, fun h => absurd h (by omega)⟩
theorem SlR.nil {α : Type} [Enc α] (w : World) : SlR w none 0 0 ([] : List α) := SlS.nil _ w
theorem SlS.le {α : Type} [Enc α] {S : Nat → Prop} {w : World} {A : Option Addr} {n c : Nat} {xs : List α} (h : SlS S w A n c xs) : n ≤ c ∧ c ≤ 9223372036854775807 := ⟨h.2.1, h.2.2.1⟩

/-- The element at q, with its cells. -/
theorem SlS.elem {α : Type} [Enc α] {S : Nat → Prop} {w : World} {A : Option Addr} {n c q : Nat} {xs : List α} (h : SlS S w A n c xs) (hq : q < n) :
    ∃ (b off : Nat) (x : α) (cs : List Value), A = some ⟨b, off, none⟩ ∧ b < w.heap.size ∧ xs[q]? = some x ∧ xs.drop q = x :: xs.drop (q + 1) ∧ Enc.R S w x cs ∧
      ∀ j v, cs[j]? = some v → w.cell? ⟨b, off + q * Enc.k α + j, none⟩ = some v := by
  obtain ⟨h1, h2, h3, h4⟩ := h
  obtain ⟨b, off, css, hA, hS, hlt, hx⟩ := h4 (by omega)
  have hql : q < xs.length := by omega
  obtain ⟨hr, hc⟩ := hx q _ (List.getElem?_eq_getElem hql)
  exact ⟨b, off, xs[q], css q, hA, hlt, List.getElem?_eq_getElem hql, List.drop_eq_getElem_cons hql, hr, hc⟩

/-- A type without slices: its cells are a function of it. -/
@[reducible] def Enc.plain {α : Type} (k : Nat) (enc : α → List Value) (h : ∀ x, (enc x).length = k) (h1 : ∀ x, ∀ u ∈ enc x, u.oneCell' = true) : Enc α where
  k := k
  R := fun _ _ x cs => cs = enc x
  len := fun e => by subst e; exact h _
  one := fun e => by subst e; exact h1 _
  keep := fun _ _ e => e
  weak := fun _ e => e
instance : Enc Int := Enc.plain 1 (fun x => [.int .i64 x]) (fun _ => rfl) (by simp [Value.oneCell'])
instance : Enc Bool := Enc.plain 1 (fun x => [.bool x]) (fun _ => rfl) (by simp [Value.oneCell'])
instance : Enc ByteArray := Enc.plain 1 (fun x => [.string x]) (fun _ => rfl) (by simp [Value.oneCell'])
@[simp] theorem k_int : Enc.k Int = 1 := rfl
@[simp] theorem k_bool : Enc.k Bool = 1 := rfl
@[simp] theorem k_bytes : Enc.k ByteArray = 1 := rfl
instance {α : Type} [Enc α] : Enc (List α) where
  k := 1
  R := fun S w xs cs => ∃ A n c, cs = [.slice A n c] ∧ SlS S w A n c xs
  len := fun ⟨_, _, _, e, _⟩ => by subst e; rfl
  one := fun ⟨_, _, _, e, _⟩ => by subst e; simp [Value.oneCell']
  keep := fun hk hz ⟨A, n, c, e, h⟩ => ⟨A, n, c, e, h.keep hk hz⟩
  weak := fun hs ⟨A, n, c, e, h⟩ => ⟨A, n, c, e, h.weak hs⟩

theorem flat_get {α : Type} (enc : α → List Value) (k : Nat) (hk : ∀ x, (enc x).length = k) : ∀ (xs : List α) (i : Nat) (x : α) (j : Nat) (v : Value), xs[i]? = some x → (enc x)[j]? = some v → (xs.flatMap enc)[i * k + j]? = some v
  | [], i, x, j, v, h, _ => by simp at h
  | y :: ys, 0, x, j, v, h, hv => by
    simp at h
    subst h
    have hj : j < (enc y).length := (List.getElem?_eq_some_iff.1 hv).1
    rw [List.flatMap_cons, Nat.zero_mul, Nat.zero_add, List.getElem?_append_left hj]
    exact hv
  | y :: ys, i + 1, x, j, v, h, hv => by
    simp at h
    have := flat_get enc k hk ys i x j v h hv
    rw [List.flatMap_cons, List.getElem?_append_right (by rw [hk, Nat.succ_mul]; omega), hk, ← this]
    congr 1
    rw [Nat.succ_mul]; omega
/-- A block that holds the cells of a list, and nothing else before them. -/
theorem SlR.of_cells {α : Type} [Enc α] (enc : α → List Value) (hR : ∀ (S : Nat → Prop) (w : World) (x : α), Enc.R S w x (enc x)) {w : World} {b off n c : Nat} {xs : List α} (hbl : b < w.heap.size)
    (hn : n = xs.length) (hnc : n ≤ c) (hc : c ≤ 9223372036854775807)
    (h : ∀ i v, (xs.flatMap enc)[i]? = some v → w.cell? ⟨b, off + i, none⟩ = some v) : SlR w (some ⟨b, off, none⟩) n c xs :=
  ⟨hn, hnc, hc, fun _ => ⟨b, off, fun i => match xs[i]? with | some x => enc x | none => [], rfl, trivial, hbl, fun i x hx => by
    simp only [hx]
    refine ⟨hR _ w x, fun j v hv => ?_⟩
    rw [Nat.add_assoc]
    exact h _ _ (flat_get enc (Enc.k α) (fun y => Enc.len (hR (fun _ => True) w y)) xs i x j v hx hv)⟩⟩
theorem cell_new (w : World) (cs : Array Value) (t : TypeId) (i : Nat) : (w.alloc (.cells cs t)).cell? ⟨w.heap.size, i, none⟩ = cs[i]? := by
  show (match (w.heap.push (.cells cs t))[w.heap.size]? with | some (.cells c _ _) => if (none : Option Nat).isSome then none else c[i]? | _ => none) = _
  simp
/-- A slice that was just built. -/
theorem SlR.built {α : Type} [Enc α] (enc : α → List Value) (hR : ∀ (S : Nat → Prop) (w : World) (x : α), Enc.R S w x (enc x)) (w : World) (t : TypeId) {n : Nat} {xs : List α} {cs : List Value} (hn : n = xs.length) (hb : n ≤ 9223372036854775807)
    (e : xs.flatMap enc = cs) : SlR (w.alloc (.cells cs.toArray t)) (some ⟨w.heap.size, 0, none⟩) n n xs :=
  SlR.of_cells enc hR (by simp) hn (Nat.le_refl _) hb fun i v hv => by
    rw [Nat.zero_add, cell_new]
    rw [e] at hv
    simpa using hv

structure Title where
  space : Int
  name : ByteArray
  deriving DecidableEq
structure Key where
  kind : Int
  title : Title
  n : Int
  deriving DecidableEq
structure Answer where
  ok : Bool
  text : ByteArray
  n : Int
  deriving DecidableEq
structure Asked where
  key : Key
  answer : Answer
  deriving DecidableEq
instance : Enc Title := Enc.plain 2 (fun x => [.int .i64 x.space, .string x.name]) (fun _ => rfl) (by simp [Value.oneCell'])
instance : Enc Key := Enc.plain 4 (fun x => [.int .i64 x.kind, .int .i64 x.title.space, .string x.title.name, .int .i64 x.n]) (fun _ => rfl) (by simp [Value.oneCell'])
instance : Enc Answer := Enc.plain 3 (fun x => [.bool x.ok, .string x.text, .int .i64 x.n]) (fun _ => rfl) (by simp [Value.oneCell'])
instance : Enc Asked := Enc.plain 7 (fun x => [.int .i64 x.key.kind, .int .i64 x.key.title.space, .string x.key.title.name, .int .i64 x.key.n, .bool x.answer.ok, .string x.answer.text, .int .i64 x.answer.n]) (fun _ => rfl) (by simp [Value.oneCell'])

theorem flat1 {α : Type} (f : α → Value) (xs : List α) : xs.flatMap (fun x => [f x]) = xs.map f := by
  induction xs with
  | nil => rfl
  | cons x xs ih => simp [ih]
theorem SlR.made {α : Type} [Enc α] (enc : α → List Value) (hR : ∀ (S : Nat → Prop) (w : World) (x : α), Enc.R S w x (enc x)) (w : World) (t : TypeId) {g n : Nat} {xs : List α} {cs : List Value} (hg : w.heap.size = g) (hn : n = xs.length) (hb : n ≤ 9223372036854775807)
    (e : xs.flatMap enc = cs) : SlR (w.alloc (.cells cs.toArray t)) (some ⟨g, 0, none⟩) n n xs := by
  subst hg
  exact SlR.built enc hR w t hn hb e
theorem SlR.strs (w : World) (t : TypeId) {n : Nat} (xs : List ByteArray) (hn : n = xs.length) (hb : n ≤ 9223372036854775807) : SlR (w.alloc (.cells (xs.map Value.string).toArray t)) (some ⟨w.heap.size, 0, none⟩) n n xs :=
  SlR.built (fun x : ByteArray => [Value.string x]) (fun _ _ _ => rfl) w t hn hb (flat1 _ _)
theorem ret_int {k : IntKind} {a b : Int} (h : a = b) : Ending.returned (.int k a) = .returned (.int k b) := by rw [h]
theorem ret_bool {a b : Bool} (h : a = b) : Ending.returned (.bool a) = .returned (.bool b) := by rw [h]
theorem ret_str {a b : ByteArray} (h : a = b) : Ending.returned (.string a) = .returned (.string b) := by rw [h]
theorem toList_iff (a b : ByteArray) : a.toList = b.toList ↔ a = b := by
  rw [ByteArray.toList_eq, ByteArray.toList_eq]
  exact ⟨fun h => ByteArray.ext (Array.toList_inj.1 h), fun h => by rw [h]⟩
theorem beq_bytes (a b : ByteArray) : (a.toList == b.toList) = decide (a = b) := by
  rw [Bool.eq_iff_iff]
  simp [toList_iff]
theorem toList_inj {a b : ByteArray} (h : a.toList = b.toList) : a = b := (toList_iff a b).1 h
end Go.Proofs.YtknjnciilchgnaaGreatDoor
