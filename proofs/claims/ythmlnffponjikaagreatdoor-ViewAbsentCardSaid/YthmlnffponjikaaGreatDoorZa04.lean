/- DERIVED: THE SHELF's CONTRACTS AT THIS DUMP, IN PLAIN WORDS (tools/lay-plain.mjs out of 'TryzShelf.lean', which tools/lay-shelf.mjs wrote): THE SAME DECLARATIONS UNDER THE SAME NAMES: 'import', 'namespace', 'open', 'def', 'theorem' AND NOTHING ELSE: no command of the shelf's: FOR A HAND-IN. Each .. | Comparisons of numbers, strings, titles and keys, in the program and in the reference: what each call returns. | The reference's comparison of titles, and both comparisons of keys. | Titles: the letters A to Z as lower-case letters. | Titles: the words ahead of a colon that name a namespace. | Titles: which bytes names may have; which titles are valid. | The reference's small functions on titles: an index, letters without their case, the words ahead of a colon. | Names of users and groups. | The reference's words ahead of a colon. | A slice of strings that the call itself made: reading and storing an element. No program is named. | The reference's Parts: a text divided at each slash. -/
import Derived.Shelf.SlicesQ.Reverse
import Derived.Ground.SlgnProg
import Derived.Shelf.Strings.Builder1
import Derived.Shelf.Strings.Builder2
import Derived.Shelf.Strings.OnBuilder
import Derived.Shelf.Strings.Trim
import Derived.Shelf.Small.Utf8
import Derived.Shelf.Small.Bits
import Derived.Shelf.Small.Strs
import Derived.Shelf.Small.Wraps
import Derived.Shelf.Strings.BuilderF
import Derived.Shelf.Strings.BuilderK
import Derived.Shelf.Utf8.RuneCount
import Derived.Shelf.Strings.Builder2Cap
import Derived.Shelf.Strconv.Itoa0
import Derived.Shelf.Strings.Search1
import Derived.Shelf.Strings.Search2
import Derived.Shelf.Strings.Search3
import Derived.Shelf.Strings.Cut
import Derived.Shelf.Strings.Count
import Derived.Shelf.LaysM
import Derived.Shelf.Strings.Shaped
import Derived.Shelf.Strings.Prefix
import Derived.Shelf.Strings.Split
import Derived.Shelf.Strings.Replace
import Derived.Shelf.Strings.SplitShaped
import Derived.Shelf.Unicode.Decode
import Derived.Shelf.Strings.Runes
import Derived.Shelf.Strings.RuneCount
import Derived.Shelf.Strings.IndexAny
import Derived.Shelf.Strings.AsciiSet
import Derived.Shelf.Strings.IndexAnyAll
import Derived.Shelf.Strings.Explode
import Derived.Shelf.Bits.Mul64
import Derived.Shelf.Strings.Repeat
import Derived.Shelf.Unicode.DecodeSlow
import Derived.Shelf.Unicode.DecodeAny
import Derived.Shelf.Unicode.DecodeLast
import Derived.Shelf.Strings.BuilderCap
import Derived.Shelf.Slices.Turned
import Derived.Ground.Names2Prog
import Derived.Shelf.Slices.SearchI
import Derived.Test.YthmlnffponjikaaGreatDoorProg
import Derived.Test.YthmlnffponjikaaGreatDoorRows
import Derived.Test.YthmlnffponjikaaGreatDoorZa01
import Derived.Laws.IdiomStrings
import Derived.Test.YthmlnffponjikaaGreatDoorZa03
import Derived.Lib.IndexEntry
import Derived.Laws.OwnMore
namespace Go.Proofs
open Go.Shelf
def Tryz.lays106_ren : Go.Shelf.Ren := ⟨fun | 106 => 128 | 213 => 203 | 265 => 255 | n => n, fun | 9 => 9 | 3 => 3 | n => n, fun | n => n⟩
theorem Tryz.lays106 : Go.Proofs.Lays.n106 Tryz.prog Tryz.lays106_ren := {
  mixed := by kernel_rfl
  f106 := Tryz.func128.trans (congrArg some (by kernel_rfl))
  f213 := Tryz.func203.trans (congrArg some (by kernel_rfl))
  f265 := Tryz.func255.trans (congrArg some (by kernel_rfl))
  t3 := Tryz.underlying3
  a3 := Tryz.isAgg3
  z3 := Tryz.sizeOf3
  v3 := Tryz.zeroValue3
  t9 := Tryz.underlying9
  a9 := Tryz.isAgg9
  z9 := Tryz.sizeOf9
  v9 := Tryz.zeroValue9 }
open Go.RowKit in
/-- strings.Compare: "Compare returns an integer comparing two strings lexicographically. The result will be 0 if a == b, -1 if a < b, and +1 if a > b.": IT RETURNS 'Lib.compareBytes a b'; the world is as it was. (LAID: no walk: one application.) -/
theorem Tryz.strings_Compare (a b : ByteArray) (w : World) :
    Calls Tryz.prog 128 #[.string a, .string b] w fun e w' => e = .returned (.int .i64 (Lib.compareBytes a.data.toList b.data.toList)) ∧ w' = w := Any.strings_Compare Tryz.lays106 a b w
def Tryz.lays137_ren : Go.Shelf.Ren := ⟨fun | 137 => 146 | 217 => 217 | 266 => 260 | n => n, fun | 9 => 9 | 5 => 5 | 3 => 3 | n => n, fun | n => n⟩
theorem Tryz.lays137 : Go.Proofs.Lays.n137 Tryz.prog Tryz.lays137_ren := {
  mixed := by kernel_rfl
  f137 := Tryz.func146.trans (congrArg some (by kernel_rfl))
  f217 := Tryz.func217.trans (congrArg some (by kernel_rfl))
  f266 := Tryz.func260.trans (congrArg some (by kernel_rfl))
  t3 := Tryz.underlying3
  a3 := Tryz.isAgg3
  z3 := Tryz.sizeOf3
  v3 := Tryz.zeroValue3
  t5 := Tryz.underlying5
  a5 := Tryz.isAgg5
  z5 := Tryz.sizeOf5
  v5 := Tryz.zeroValue5
  t9 := Tryz.underlying9
  a9 := Tryz.isAgg9
  z9 := Tryz.sizeOf9
  v9 := Tryz.zeroValue9 }
open Go.RowKit in
/-- strings.IndexByte: "IndexByte returns the index of the first instance of c in s, or -1 if c is not present in s.": IT RETURNS 'Lib.indexByte s c'; the world is as it was. (LAID: no walk: one application.) -/
theorem Tryz.strings_IndexByte (s : ByteArray) (c : Int) (w : World) :
    Calls Tryz.prog 146 #[.string s, .int .u8 c] w fun e w' => e = .returned (.int .i64 (Lib.indexByte s.data.toList c.toNat.toUInt8)) ∧ w' = w := Any.strings_IndexByte Tryz.lays137 s c w
def Tryz.lays122_ren : Go.Shelf.Ren := ⟨fun | 122 => 67 | 215 => 127 | n => n, fun | 3 => 3 | 4 => 4 | n => n, fun | n => n⟩
theorem Tryz.lays122 : Go.Proofs.Lays.n122 Tryz.prog Tryz.lays122_ren := {
  mixed := by kernel_rfl
  f122 := Tryz.func67.trans (congrArg some (by kernel_rfl))
  f215 := Tryz.func127.trans (congrArg some (by kernel_rfl))
  t3 := Tryz.underlying3
  a3 := Tryz.isAgg3
  z3 := Tryz.sizeOf3
  v3 := Tryz.zeroValue3
  t4 := Tryz.underlying4
  a4 := Tryz.isAgg4
  z4 := Tryz.sizeOf4
  v4 := Tryz.zeroValue4 }
open Go.RowKit in
/-- cmp.Compare at int: "Compare returns -1 if x is less than y, 0 if x equals y, +1 if x is greater than y.": IT RETURNS 'Lib.compareInt x y'; the world is as it was. (LAID: no walk: one application.) -/
theorem Tryz.cmp_Compare_int (x y : Int) (w : World) :
    Calls Tryz.prog 67 #[.int .i64 x, .int .i64 y] w fun e w' => e = .returned (.int .i64 (Lib.compareInt x y)) ∧ w' = w := Any.cmp_Compare_int Tryz.lays122 x y w
def Tryz.lays145_ren : Go.Shelf.Ren := ⟨fun | 145 => 148 | 220 => 220 | 219 => 242 | 217 => 217 | 225 => 282 | 224 => 283 | 267 => 284 | 266 => 260 | 314 => 299 | n => n, fun | 9 => 9 | 4 => 4 | 59 => 217 | 3 => 3 | 5 => 5 | 46 => 142 | 146 => 206 | 51 => 205 | n => n, fun | 1 => 0 | n => n⟩
theorem Tryz.lays145 : Go.Proofs.Lays.n145 Tryz.prog Tryz.lays145_ren := {
  mixed := by kernel_rfl
  f145 := Tryz.func148.trans (congrArg some (by kernel_rfl))
  f217 := Tryz.func217.trans (congrArg some (by kernel_rfl))
  f219 := Tryz.func242.trans (congrArg some (by kernel_rfl))
  f220 := Tryz.func220.trans (congrArg some (by kernel_rfl))
  f224 := Tryz.func283.trans (congrArg some (by kernel_rfl))
  f225 := Tryz.func282.trans (congrArg some (by kernel_rfl))
  f266 := Tryz.func260.trans (congrArg some (by kernel_rfl))
  f267 := Tryz.func284.trans (congrArg some (by kernel_rfl))
  f314 := Tryz.func299.trans (congrArg some (by kernel_rfl))
  t3 := Tryz.underlying3
  a3 := Tryz.isAgg3
  z3 := Tryz.sizeOf3
  v3 := Tryz.zeroValue3
  t4 := Tryz.underlying4
  a4 := Tryz.isAgg4
  z4 := Tryz.sizeOf4
  v4 := Tryz.zeroValue4
  t5 := Tryz.underlying5
  a5 := Tryz.isAgg5
  z5 := Tryz.sizeOf5
  v5 := Tryz.zeroValue5
  t9 := Tryz.underlying9
  a9 := Tryz.isAgg9
  z9 := Tryz.sizeOf9
  v9 := Tryz.zeroValue9
  t46 := Tryz.underlying142
  a46 := Tryz.isAgg142
  z46 := Tryz.sizeOf142
  v46 := Tryz.zeroValue142
  t51 := Tryz.underlying205
  a51 := Tryz.isAgg205
  z51 := Tryz.sizeOf205
  v51 := Tryz.zeroValue205
  t59 := Tryz.underlying217
  a59 := Tryz.isAgg217
  z59 := Tryz.sizeOf217
  v59 := Tryz.zeroValue217
  t146 := Tryz.underlying206
  a146 := Tryz.isAgg206
  z146 := Tryz.sizeOf206
  v146 := Tryz.zeroValue206
  g1 := by kernel_rfl }
open Go.RowKit Go.Lib in
/-- strings.Cut: "Cut slices s around the first instance of sep, returning the text before and after sep. The found result reports whether sep appears in s. If sep does not appear in s, cut returns s, "", false.": IT RETURNS 'Lib.cut s sep'; the world is as it was but for the count of draws. (LAID: no walk: one application.) -/
theorem Tryz.strings_Cut (s sep : ByteArray) (m : Int) (w : World) (hs : s.size < 4294967281) (hm : w.cell? ⟨0, 0, none⟩ = some (.int .i64 m)) :
    Calls Tryz.prog 148 #[.string s, .string sep] w fun e w' => e = .returned (.tuple #[.string ⟨(Lib.cut s.data.toList sep.data.toList).1.toArray⟩, .string ⟨(Lib.cut s.data.toList sep.data.toList).2.1.toArray⟩, .bool (Lib.cut s.data.toList sep.data.toList).2.2]) ∧ ∃ n, w' = w.drewN n := Any.strings_Cut Tryz.lays145 s sep m w hs hm
def Tryz.lays102_ren : Go.Shelf.Ren := ⟨fun | 102 => 150 | 209 => 221 | 207 => 263 | n => n, fun | 9 => 9 | 4 => 4 | 3 => 3 | n => n, fun | n => n⟩
theorem Tryz.lays102 : Go.Proofs.Lays.n102 Tryz.prog Tryz.lays102_ren := {
  mixed := by kernel_rfl
  f102 := Tryz.func150.trans (congrArg some (by kernel_rfl))
  f207 := Tryz.func263.trans (congrArg some (by kernel_rfl))
  f209 := Tryz.func221.trans (congrArg some (by kernel_rfl))
  t3 := Tryz.underlying3
  a3 := Tryz.isAgg3
  z3 := Tryz.sizeOf3
  v3 := Tryz.zeroValue3
  t4 := Tryz.underlying4
  a4 := Tryz.isAgg4
  z4 := Tryz.sizeOf4
  v4 := Tryz.zeroValue4
  t9 := Tryz.underlying9
  a9 := Tryz.isAgg9
  z9 := Tryz.sizeOf9
  v9 := Tryz.zeroValue9 }
open Go.RowKit Go.Lib in
/-- strings.TrimSuffix: "TrimSuffix returns s without the provided trailing suffix string. If s doesn't end with suffix, s is returned unchanged.": IT RETURNS 'Lib.trimSuffix s suffix'; the world is as it was. (LAID: no walk: one application.) -/
theorem Tryz.strings_TrimSuffix (s p : ByteArray) (w : World) (hs : s.size ≤ 9223372036854775807) :
    Calls Tryz.prog 150 #[.string s, .string p] w fun e w' => e = .returned (.string ⟨(Lib.trimSuffix s.data.toList p.data.toList).toArray⟩) ∧ w' = w := Any.strings_TrimSuffix Tryz.lays102 s p w hs
def Tryz.lays146_ren : Go.Shelf.Ren := ⟨fun | 146 => 98 | 221 => 147 | 268 => 218 | 138 => 219 | 143 => 183 | 195 => 261 | 197 => 244 | 218 => 262 | 219 => 242 | 260 => 285 | 217 => 217 | 225 => 282 | 224 => 283 | 267 => 284 | 266 => 260 | 314 => 299 | n => n, fun | 9 => 9 | 31 => 28 | 3 => 3 | 4 => 4 | 0 => 0 | 105 => 277 | 21 => 21 | 5 => 5 | 46 => 142 | 119 => 302 | 139 => 305 | 138 => 304 | 146 => 206 | 51 => 205 | n => n, fun | 1 => 0 | 3 => 1 | 4 => 2 | n => n⟩
theorem Tryz.lays146 : Go.Proofs.Lays.n146 Tryz.prog Tryz.lays146_ren := {
  mixed := by kernel_rfl
  f138 := Tryz.func219.trans (congrArg some (by kernel_rfl))
  f143 := Tryz.func183.trans (congrArg some (by kernel_rfl))
  f146 := Tryz.func98.trans (congrArg some (by kernel_rfl))
  f195 := Tryz.func261.trans (congrArg some (by kernel_rfl))
  f197 := Tryz.func244.trans (congrArg some (by kernel_rfl))
  f217 := Tryz.func217.trans (congrArg some (by kernel_rfl))
  f218 := Tryz.func262.trans (congrArg some (by kernel_rfl))
  f219 := Tryz.func242.trans (congrArg some (by kernel_rfl))
  f221 := Tryz.func147.trans (congrArg some (by kernel_rfl))
  f224 := Tryz.func283.trans (congrArg some (by kernel_rfl))
  f225 := Tryz.func282.trans (congrArg some (by kernel_rfl))
  f260 := Tryz.func285.trans (congrArg some (by kernel_rfl))
  f266 := Tryz.func260.trans (congrArg some (by kernel_rfl))
  f267 := Tryz.func284.trans (congrArg some (by kernel_rfl))
  f268 := Tryz.func218.trans (congrArg some (by kernel_rfl))
  f314 := Tryz.func299.trans (congrArg some (by kernel_rfl))
  t0 := Tryz.underlying0
  a0 := Tryz.isAgg0
  z0 := Tryz.sizeOf0
  v0 := Tryz.zeroValue0
  t3 := Tryz.underlying3
  a3 := Tryz.isAgg3
  z3 := Tryz.sizeOf3
  v3 := Tryz.zeroValue3
  t4 := Tryz.underlying4
  a4 := Tryz.isAgg4
  z4 := Tryz.sizeOf4
  v4 := Tryz.zeroValue4
  t5 := Tryz.underlying5
  a5 := Tryz.isAgg5
  z5 := Tryz.sizeOf5
  v5 := Tryz.zeroValue5
  t9 := Tryz.underlying9
  a9 := Tryz.isAgg9
  z9 := Tryz.sizeOf9
  v9 := Tryz.zeroValue9
  t21 := Tryz.underlying21
  a21 := Tryz.isAgg21
  z21 := Tryz.sizeOf21
  v21 := Tryz.zeroValue21
  t31 := Tryz.underlying28
  a31 := Tryz.isAgg28
  z31 := Tryz.sizeOf28
  v31 := Tryz.zeroValue28
  t46 := Tryz.underlying142
  a46 := Tryz.isAgg142
  z46 := Tryz.sizeOf142
  v46 := Tryz.zeroValue142
  t51 := Tryz.underlying205
  a51 := Tryz.isAgg205
  z51 := Tryz.sizeOf205
  v51 := Tryz.zeroValue205
  t105 := Tryz.underlying277
  a105 := Tryz.isAgg277
  z105 := Tryz.sizeOf277
  v105 := Tryz.zeroValue277
  t119 := Tryz.underlying302
  a119 := Tryz.isAgg302
  z119 := Tryz.sizeOf302
  t138 := Tryz.underlying304
  a138 := Tryz.isAgg304
  z138 := Tryz.sizeOf304
  v138 := Tryz.zeroValue304
  t139 := Tryz.underlying305
  a139 := Tryz.isAgg305
  z139 := Tryz.sizeOf305
  v139 := Tryz.zeroValue305
  t146 := Tryz.underlying206
  a146 := Tryz.isAgg206
  z146 := Tryz.sizeOf206
  v146 := Tryz.zeroValue206
  g1 := by kernel_rfl
  g3 := by kernel_rfl
  g4 := by kernel_rfl }
open Go.RowKit Go.Lib in
/-- strings.Split. (LAID: no walk: one application.) -/
theorem Tryz.strings_Split (s sep : ByteArray) (m : Int) (w : World) (hs : s.size < 4294967281) (hm : w.cell? ⟨0, 0, none⟩ = some (.int .i64 m)) (h1 : 1 ≤ sep.size) :
    Calls Tryz.prog 98 #[.string s, .string sep] w fun e w' =>
      e = .returned (.slice (some ⟨w.heap.size, 0, none⟩) (Lib.countB s sep + 1) (Lib.countB s sep + 1)) ∧ w' = w.alloc (.cells ((Lib.splitB sep 0 (Lib.countB s sep) s).map Value.string).toArray 9) := Any.strings_Split Tryz.lays146 (by kernel_rfl) s sep m w hs hm h1
def Tryz.lays110_ren : Go.Shelf.Ren := ⟨fun | 110 => 105 | 109 => 157 | n => n, fun | 31 => 28 | 9 => 9 | 4 => 4 | 3 => 3 | 0 => 0 | n => n, fun | n => n⟩
theorem Tryz.lays110 : Go.Proofs.Lays.n110 Tryz.prog Tryz.lays110_ren := {
  mixed := by kernel_rfl
  f109 := Tryz.func157.trans (congrArg some (by kernel_rfl))
  f110 := Tryz.func105.trans (congrArg some (by kernel_rfl))
  t0 := Tryz.underlying0
  a0 := Tryz.isAgg0
  z0 := Tryz.sizeOf0
  v0 := Tryz.zeroValue0
  t3 := Tryz.underlying3
  a3 := Tryz.isAgg3
  z3 := Tryz.sizeOf3
  v3 := Tryz.zeroValue3
  t4 := Tryz.underlying4
  a4 := Tryz.isAgg4
  z4 := Tryz.sizeOf4
  v4 := Tryz.zeroValue4
  t9 := Tryz.underlying9
  a9 := Tryz.isAgg9
  z9 := Tryz.sizeOf9
  v9 := Tryz.zeroValue9
  t31 := Tryz.underlying28
  a31 := Tryz.isAgg28
  z31 := Tryz.sizeOf28
  v31 := Tryz.zeroValue28 }
open Go.Lib in
/-- slices.Contains at []string: "Contains reports whether v is present in s.": IT RETURNS 'Lib.containsS (the elements) v', which is true just where v is among them ('Lib.containsS_iff'); the world is as it was. ITS CALLEE slices.Index IS MET BY ITS OWN CONTRACT OFF THE SHELF (lay that first): no loop is walked here. (LAID: no walk: one application.) -/
theorem Tryz.slices_Contains_string (b off n c : Nat) (zs : List ByteArray) (x : ByteArray) (w : World) (hz : n ≤ zs.length) (hbig : n ≤ 9223372036854775807) (hc : ∀ j, j < zs.length → w.cell? ⟨b, off + j, none⟩ = some (.string (zs.getD j ByteArray.empty))) :
    Calls Tryz.prog 105 #[.slice (some ⟨b, off, none⟩) n c, .string x] w fun e w' => e = .returned (.bool (Lib.containsS (zs.take n) x)) ∧ w' = w := Any.slices_Contains_string Tryz.lays110 b off n c zs x w hz hbig hc
open Go.Lib in
/-- The same at a slice of length 0, a nil one too. (LAID: no walk: one application.) -/
theorem Tryz.slices_Contains_string_empty (a : Option Addr) (c : Nat) (x : ByteArray) (w : World) :
    Calls Tryz.prog 105 #[.slice a 0 c, .string x] w fun e w' => e = .returned (.bool false) ∧ w' = w := Any.slices_Contains_string_empty Tryz.lays110 a c x w
def Tryz.reverseTitle_ren : Go.Shelf.Ren := ⟨fun | 35 => 156 | n => n, fun | 22 => 81 | 23 => 34 | 3 => 3 | 4 => 4 | 0 => 0 | n => n, fun | n => n⟩
theorem Tryz.reverseTitle : Go.Proofs.SlLaysE0.n35 Tryz.prog Tryz.reverseTitle_ren := {
  mixed := by kernel_rfl
  f35 := ⟨Tryz.f156.name, by decide, Tryz.func156.trans (congrArg some (by kernel_rfl))⟩
  t0 := Tryz.underlying0
  a0 := Tryz.isAgg0
  z0 := Tryz.sizeOf0
  v0 := Tryz.zeroValue0
  t3 := Tryz.underlying3
  a3 := Tryz.isAgg3
  z3 := Tryz.sizeOf3
  v3 := Tryz.zeroValue3
  t4 := Tryz.underlying4
  a4 := Tryz.isAgg4
  z4 := Tryz.sizeOf4
  v4 := Tryz.zeroValue4
  t22 := Tryz.underlying81
  a22 := Tryz.isAgg81
  z22 := Tryz.sizeOf81
  v22 := Tryz.zeroValue81 }
end Go.Proofs
namespace Go.Proofs.YthmlnffponjikaaGreatDoor
open Go.RowKit

def orI : List Int → Int
  | [] => 0
  | x :: xs => if x = 0 then orI xs else x
theorem cmpInt_any (x y : Int) (w : World) : Calls Tryz.prog 67 #[.int .i64 x, .int .i64 y] w fun e w' => e = .returned (.int .i64 (Lib.compareInt x y)) ∧ w = w' :=
  (Tryz.cmp_Compare_int x y w).mono fun _ _ ⟨a, b⟩ => ⟨a, b.symm⟩
theorem cmpStr_any (a b : ByteArray) (w : World) : Calls Tryz.prog 128 #[.string a, .string b] w fun e w' => e = .returned (.int .i64 (Lib.compareBytes a.data.toList b.data.toList)) ∧ w = w' :=
  (Tryz.strings_Compare a b w).mono fun _ _ ⟨a, b⟩ => ⟨a, b.symm⟩
set_option maxHeartbeats 400000 in
theorem or_any (A : Option Addr) (n c : Nat) (xs : List Int) (w : World) (h : SlR w A n c xs) : Calls Tryz.prog 66 #[.slice A n c] w fun e w' => e = .returned (.int .i64 (orI xs)) ∧ w = w' := by
  have HN := Lib.hid h.1
  have hle := h.le
  go_enter Tryz.func66, Tryz.ntmps66
  go_wp2
  go_loop [5, 8] (fun _ i => ∃ q : Nat, q ≤ n ∧ i = .int .i64 q ∧ orI xs = orI (xs.drop q)) (fun _ i => n - (intOf i).toNat)
  case atStart => exact ⟨0, Nat.zero_le _, rfl, rfl⟩
  case round =>
    obtain ⟨q, hq, rfl, hO⟩ := hrel
    by_cases hlt : q < n
    · obtain ⟨b, off, x, cs, rfl, hbl, hx, hd, hR, hc⟩ := h.elem hlt
      have c0 : w.cell? ⟨b, off + q, none⟩ = some (.int .i64 x) := by subst hR; simpa using hc 0 _ rfl
      have HO := Lib.hid hO
      clear hO hc hx h
      have HD := Lib.hid hd
      clear hd
      by_cases h0 : x = 0
      · subst h0
        go_wp2
        go_round
        case rel => exact ⟨q + 1, by omega, by go_num, by rw [HO.out, HD.out]; simp [orI]⟩
        case measure => simp [intOf]; omega
      · have e0 : (!(x == 0)) = true := by simpa using h0
        go_wp2
        go_ret
        exact ⟨ret_int (by rw [HO.out, HD.out]; simp [orI, h0]), rfl⟩
    · have hq' : q = n := by omega
      have hz : orI xs = 0 := by rw [hO, hq', HN.out, List.drop_length]; rfl
      have HZ := Lib.hid hz
      clear hz hO h hq'
      go_wp2
      go_ret
      exact ⟨ret_int HZ.out.symm, rfl⟩
def Title.cmp (a b : Title) : Int := orI [Lib.compareInt a.space b.space, Lib.compareBytes a.name.data.toList b.name.data.toList]
set_option maxHeartbeats 400000 in
theorem titleCompare_any (a b : Title) (w : World) : Calls Tryz.prog 68 #[.agg #[.int .i64 a.space, .string a.name], .agg #[.int .i64 b.space, .string b.name]] w fun e w' => e = .returned (.int .i64 (Title.cmp a b)) ∧ Below w.heap.size w w' := by
  go_enter Tryz.func68, Tryz.ntmps68
  go_wp2
  generalize hw1 : (w.alloc _).alloc _ = w1
  have c0 : w1.cell? ⟨w.heap.size, 0, none⟩ = some (.int .i64 a.space) := by subst hw1; go_simp
  have c1 : w1.cell? ⟨w.heap.size, 1, none⟩ = some (.string a.name) := by subst hw1; go_simp
  have c2 : w1.cell? ⟨w.heap.size + 1, 0, none⟩ = some (.int .i64 b.space) := by subst hw1; go_simp
  have c3 : w1.cell? ⟨w.heap.size + 1, 1, none⟩ = some (.string b.name) := by subst hw1; go_simp
  have hb : Below w.heap.size w w1 := by subst hw1; exact ((Below.refl _ _).alloc (Nat.le_refl _) _).alloc (by simp) _
  have HB := Lib.hid hb
  clear hw1 hb
  go_region_held3 (fun W => W.cell? ⟨w.heap.size, 0, none⟩ = some (.int .i64 a.space) ∧ W.cell? ⟨w.heap.size, 1, none⟩ = some (.string a.name) ∧ W.cell? ⟨w.heap.size + 1, 0, none⟩ = some (.int .i64 b.space) ∧ W.cell? ⟨w.heap.size + 1, 1, none⟩ = some (.string b.name)) (first | exact ⟨c0, c1, c2, c3⟩ | (refine ⟨?_, ?_, ?_, ?_⟩ <;> first | exact re1 (((Below.refl _ _).alloc (Nat.le_refl _) _).drew) (cell_lt (by assumption)) (by assumption))) (first | (go_at_call 67; refine (cmpInt_any _ _ _).mono ?_; rintro e w' ⟨rfl, rfl⟩) | (go_at_call 128; refine (cmpStr_any _ _ _).mono ?_; rintro e w' ⟨rfl, rfl⟩)  | (go_at_call 66; refine (or_any _ _ _ [Lib.compareInt a.space b.space, Lib.compareBytes a.name.data.toList b.name.data.toList] _ (by exact SlR.built (fun x : Int => [.int .i64 x]) (fun _ _ _ => rfl) _ _ rfl (by decide) rfl)).mono ?_; rintro e w' ⟨rfl, rfl⟩))
  go_wp2
  go_ret
  exact ⟨rfl, (HB.out.alloc (Nat.le_trans HB.out.size (Nat.le_refl _)) _).drew⟩
end Go.Proofs.YthmlnffponjikaaGreatDoor
namespace Go.Proofs.YthmlnffponjikaaGreatDoor
open Go.RowKit

theorem cb_spec : ∀ a b : List UInt8, Lib.compareBytes a b = if Op.bytesLess a b = true then -1 else if a = b then 0 else 1
  | [], [] => by simp [Lib.compareBytes, Op.bytesLess]
  | [], _ :: _ => by simp [Lib.compareBytes, Op.bytesLess]
  | _ :: _, [] => by simp [Lib.compareBytes, Op.bytesLess]
  | x :: a, y :: b => by
    have h := cb_spec a b
    have e : x < y ∨ x = y ∨ y < x := by
      rcases Nat.lt_trichotomy x.toNat y.toNat with h | h | h
      · exact .inl h
      · exact .inr (.inl (UInt8.toNat_inj.1 h))
      · exact .inr (.inr h)
    rcases e with e | e | e
    · simp [Lib.compareBytes, Op.bytesLess, e]
    · subst e
      have hx : ¬ x < x := fun h => by simp at h
      simp [Lib.compareBytes, Op.bytesLess, h]
    · have hx : ¬ x < y := fun h => by simp [UInt8.lt_iff_toNat_lt] at h e; omega
      have hne : ¬ x = y := fun h => by subst h; simp at e
      simp [Lib.compareBytes, Op.bytesLess, hx, hne, e]
theorem cmp_def (a b : Title) : Title.cmp a b = if a.space < b.space then -1 else if b.space < a.space then 1 else if Op.bytesLess a.name.toList b.name.toList = true then -1 else if a.name.toList = b.name.toList then 0 else 1 := by
  unfold Title.cmp orI Lib.compareInt
  rw [cb_spec, ByteArray.toList_eq, ByteArray.toList_eq]
  by_cases h1 : a.space < b.space
  · simp [h1]
  · by_cases h2 : b.space < a.space
    · simp [h1, h2]
    · simp only [h1, h2, if_false, if_true, orI]
      by_cases h : Op.bytesLess a.name.data.toList b.name.data.toList = true
      · simp [h]
      · by_cases h' : a.name.data.toList = b.name.data.toList <;> simp [h, h']
theorem less_irrefl : ∀ a : List UInt8, Op.bytesLess a a = false
  | [] => rfl
  | x :: a => by simp [Op.bytesLess, less_irrefl a]
set_option maxHeartbeats 400000 in
theorem refTitleCompare_any (a b : Title) (w : World) : Calls Tryz.prog 46 #[.agg #[.int .i64 a.space, .string a.name], .agg #[.int .i64 b.space, .string b.name]] w fun e w' => e = .returned (.int .i64 (Title.cmp a b)) ∧ Below w.heap.size w w' := by
  go_enter Tryz.func46, Tryz.ntmps46
  go_wp2
  all_goals
    go_ret
    refine ⟨ret_int ?_, ((Below.refl _ _).alloc (Nat.le_refl _) _).alloc (by simp) _⟩
    rw [cmp_def]
    first
      | (rw [if_pos (by omega)]; done)
      | (rw [if_neg (by omega), if_neg (by omega), if_pos (by assumption)]; done)
      | (rw [if_neg (by omega), if_pos (by omega)]; done)
      | (rw [if_neg (by omega), if_neg (by omega), if_neg (by simp_all), if_pos (by assumption)]; done)
      | (rw [if_neg (by omega), if_neg (by omega), if_neg (by simp_all), if_neg (by assumption)]; done)
def Key.cmp (a b : Key) : Int := orI [Lib.compareInt a.kind b.kind, Title.cmp a.title b.title, Lib.compareInt a.n b.n]
set_option maxHeartbeats 1000000 in
theorem keyCompare_any (a b : Key) (w : World) : Calls Tryz.prog 35 #[.agg #[.int .i64 a.kind, .int .i64 a.title.space, .string a.title.name, .int .i64 a.n], .agg #[.int .i64 b.kind, .int .i64 b.title.space, .string b.title.name, .int .i64 b.n]] w fun e w' => e = .returned (.int .i64 (Key.cmp a b)) ∧ Below w.heap.size w w' := by
  go_enter Tryz.func35, Tryz.ntmps35
  go_wp2
  generalize hw1 : (w.alloc _).alloc _ = w1
  have c0_0 : w1.cell? ⟨w.heap.size, 0, none⟩ = some (.int .i64 a.kind) := by subst hw1; go_simp
  have c0_1 : w1.cell? ⟨w.heap.size, 1, none⟩ = some (.int .i64 a.title.space) := by subst hw1; go_simp
  have c0_2 : w1.cell? ⟨w.heap.size, 2, none⟩ = some (.string a.title.name) := by subst hw1; go_simp
  have c0_3 : w1.cell? ⟨w.heap.size, 3, none⟩ = some (.int .i64 a.n) := by subst hw1; go_simp
  have c1_0 : w1.cell? ⟨w.heap.size + 1, 0, none⟩ = some (.int .i64 b.kind) := by subst hw1; go_simp
  have c1_1 : w1.cell? ⟨w.heap.size + 1, 1, none⟩ = some (.int .i64 b.title.space) := by subst hw1; go_simp
  have c1_2 : w1.cell? ⟨w.heap.size + 1, 2, none⟩ = some (.string b.title.name) := by subst hw1; go_simp
  have c1_3 : w1.cell? ⟨w.heap.size + 1, 3, none⟩ = some (.int .i64 b.n) := by subst hw1; go_simp
  have HB : Hid (Below w.heap.size w w1) := by subst hw1; exact Below.al (Below.al (Below.refl _ _) _) _
  clear hw1
  have HF : Hid (∀ W, Below w1.heap.size w1 W → W.cell? ⟨w.heap.size, 0, none⟩ = some (.int .i64 a.kind) ∧ W.cell? ⟨w.heap.size, 1, none⟩ = some (.int .i64 a.title.space) ∧ W.cell? ⟨w.heap.size, 2, none⟩ = some (.string a.title.name) ∧ W.cell? ⟨w.heap.size, 3, none⟩ = some (.int .i64 a.n) ∧ W.cell? ⟨w.heap.size + 1, 0, none⟩ = some (.int .i64 b.kind) ∧ W.cell? ⟨w.heap.size + 1, 1, none⟩ = some (.int .i64 b.title.space) ∧ W.cell? ⟨w.heap.size + 1, 2, none⟩ = some (.string b.title.name) ∧ W.cell? ⟨w.heap.size + 1, 3, none⟩ = some (.int .i64 b.n)) := fun W h => ⟨re1 h (cell_lt c0_0) c0_0, re1 h (cell_lt c0_1) c0_1, re1 h (cell_lt c0_2) c0_2, re1 h (cell_lt c0_3) c0_3, re1 h (cell_lt c1_0) c1_0, re1 h (cell_lt c1_1) c1_1, re1 h (cell_lt c1_2) c1_2, re1 h (cell_lt c1_3) c1_3⟩
  go_region_held3 (fun W => Below w1.heap.size w1 W ∧ W.cell? ⟨w.heap.size, 0, none⟩ = some (.int .i64 a.kind) ∧ W.cell? ⟨w.heap.size, 1, none⟩ = some (.int .i64 a.title.space) ∧ W.cell? ⟨w.heap.size, 2, none⟩ = some (.string a.title.name) ∧ W.cell? ⟨w.heap.size, 3, none⟩ = some (.int .i64 a.n) ∧ W.cell? ⟨w.heap.size + 1, 0, none⟩ = some (.int .i64 b.kind) ∧ W.cell? ⟨w.heap.size + 1, 1, none⟩ = some (.int .i64 b.title.space) ∧ W.cell? ⟨w.heap.size + 1, 2, none⟩ = some (.string b.title.name) ∧ W.cell? ⟨w.heap.size + 1, 3, none⟩ = some (.int .i64 b.n)) (refine ⟨?_, HF.out _ ?_⟩ <;> (repeat (first | assumption | exact Below.refl _ _ | refine Below.drew ?_ | refine Below.al ?_ _))) (first | (go_at_call 67; refine (cmpInt_any _ _ _).mono ?_; rintro e w2 ⟨rfl, rfl⟩) | (go_at_call 68; refine (titleCompare_any _ _ _).mono ?_; rintro e w2 ⟨rfl, hb2⟩; have hb3 : Below w1.heap.size w1 w2 := Below.tr (by (repeat (first | assumption | exact Below.refl _ _ | refine Below.drew ?_ | refine Below.al ?_ _))) hb2) | (go_at_call 66; refine (or_any _ _ _ [Lib.compareInt a.kind b.kind, Title.cmp a.title b.title, Lib.compareInt a.n b.n] _ (by exact SlR.built (fun x : Int => [.int .i64 x]) (fun _ _ _ => rfl) _ _ rfl (by decide) rfl)).mono ?_; rintro e w2 ⟨rfl, rfl⟩))
  go_wp2
  go_ret
  exact ⟨rfl, Below.tr HB.out (by (repeat (first | assumption | exact Below.refl _ _ | refine Below.drew ?_ | refine Below.al ?_ _)))⟩
theorem key_def (a b : Key) : Key.cmp a b = if a.kind < b.kind then -1 else if b.kind < a.kind then 1 else if Title.cmp a.title b.title = 0 then Lib.compareInt a.n b.n else Title.cmp a.title b.title := by
  unfold Key.cmp orI
  by_cases h1 : a.kind < b.kind
  · simp [Lib.compareInt, h1]
  · by_cases h2 : b.kind < a.kind
    · simp [Lib.compareInt, h1, h2]
    · simp only [Lib.compareInt, h1, h2, if_false, if_true, orI]
      by_cases h : Title.cmp a.title b.title = 0
      · simp only [h, if_true]
        split <;> simp_all
      · simp [h]
end Go.Proofs.YthmlnffponjikaaGreatDoor
namespace Go.Proofs.YthmlnffponjikaaGreatDoor
open Go.RowKit

def lowB (c : UInt8) : UInt8 := if 65 ≤ c.toNat ∧ c.toNat ≤ 90 then UInt8.ofNat (c.toNat + 32) else c
def foldL (l : List UInt8) : List UInt8 := l.map lowB
/-- The block g holds the bytes l, none frozen. -/
def BytesAt (w : World) (g : Nat) (l : List UInt8) : Prop :=
  g < w.heap.size ∧ ∀ j c, l[j]? = some c → w.cell? ⟨g, j, none⟩ = some (.int .u8 (c.toNat : Int)) ∧ w.frozen? ⟨g, j, none⟩ = false
theorem BytesAt.set {w : World} {g : Nat} {l : List UInt8} (h : BytesAt w g l) (k : Nat) (c : UInt8) (hk : k < l.length) : BytesAt (w.setCell ⟨g, k, none⟩ (.int .u8 (c.toNat : Int))) g (l.set k c) := by
  refine ⟨by simpa [World.setCell] using h.1, fun j d hj => ?_⟩
  by_cases e : j = k
  · subst e
    rw [List.getElem?_set_self hk] at hj
    obtain rfl : c = d := by simpa using hj
    obtain ⟨h1, h2⟩ := h.2 j _ (List.getElem?_eq_getElem hk)
    exact ⟨World.cell?_setCell_same w ⟨g, j, none⟩ _ h1, by simpa using h2⟩
  · rw [List.getElem?_set_ne (fun e' => e e'.symm)] at hj
    obtain ⟨h1, h2⟩ := h.2 j d hj
    refine ⟨(World.cell?_setCell_other w ⟨g, k, none⟩ ⟨g, j, none⟩ _ (fun e' => e (by injection e' with _ e2; exact e2.symm))).trans h1, by simpa using h2⟩
theorem BytesAt.back {P : Program} {w : World} {g cap : Nat} {l : List UInt8} (h : BytesAt w g l) (src dst e : TypeId) (hs : P.underlying src = some (.slice e)) (he : P.underlying e = some (.int .u8)) (hd : P.underlying dst = some .string) :
    (convert src dst (.slice (some ⟨g, 0, none⟩) l.length cap)).run P w = .ok (.string ⟨l.toArray⟩) w :=
  run_convert_bytes_back w src dst e ⟨g, 0, none⟩ cap l hs he hd fun j hj => by
    have := (h.2 j _ (List.getElem?_eq_getElem hj)).1
    unfold Addr.add
    split
    · rename_i h0; subst h0; exact this
    · simpa using this
theorem bytes_conv {P : Program} (w : World) (src dst e : TypeId) (s : ByteArray) (hs : P.underlying src = some .string) (hd : P.underlying dst = some (.slice e)) (he : P.underlying e = some (.int .u8)) :
    ∃ cap w1, (convert src dst (.string s)).run P w = .ok (.slice (some ⟨w.heap.size, 0, none⟩) s.size cap) w1 ∧ Below w.heap.size w w1 ∧ BytesAt w1 w.heap.size s.data.toList := by
  refine ⟨_, _, run_bytes_of_string w src dst e s hs hd he, (Below.refl _ _).drew.alloc (Nat.le_refl _) _, by simp, fun j c hj => ?_⟩
  have hjl : j < s.data.size := by have := (List.getElem?_eq_some_iff.1 hj).1; simpa using this
  have hc : c = s.data[j] := by
    rw [List.getElem?_eq_getElem (by simpa using hjl)] at hj
    simpa using hj.symm
  constructor
  · exact (World.cell?_alloc_mark w.drew _ _ _ j).trans (by rw [bytesRow_at _ _ _ hjl, hc])
  · refine (World.frozen?_alloc_mark w.drew _ _ _ _ j).trans ?_
    have : j < (bytesRow s (grownCap w s.size 0 e)).size := by simp only [bytesRow, Array.size_append, Array.size_map]; omega
    simp; omega
theorem fold_step (l : List UInt8) (q : Nat) (c : UInt8) (hc : l[q]? = some c) : (foldL (l.take q) ++ l.drop q).set q (lowB c) = foldL (l.take (q + 1)) ++ l.drop (q + 1) := by
  have hq : q < l.length := (List.getElem?_eq_some_iff.1 hc).1
  have hl : (foldL (l.take q)).length = q := by simp [foldL]; omega
  have hg : l[q] = c := by rw [List.getElem?_eq_getElem hq] at hc; simpa using hc
  rw [List.set_append_right _ _ (by omega), hl, Nat.sub_self, List.drop_eq_getElem_cons hq, List.set_cons_zero, List.take_succ_eq_append_getElem hq, hg]
  simp [foldL]
theorem fold_keep (l : List UInt8) (q : Nat) (c : UInt8) (hc : l[q]? = some c) (he : lowB c = c) : foldL (l.take q) ++ l.drop q = foldL (l.take (q + 1)) ++ l.drop (q + 1) := by
  rw [← fold_step l q c hc, he]
  have hq : q < l.length := (List.getElem?_eq_some_iff.1 hc).1
  have hl : (foldL (l.take q)).length = q := by simp [foldL]; omega
  have hg : l[q] = c := by rw [List.getElem?_eq_getElem hq] at hc; simpa using hc
  rw [List.set_append_right _ _ (by omega), hl, Nat.sub_self, List.drop_eq_getElem_cons hq, List.set_cons_zero, hg]
theorem fold_at (l : List UInt8) (q : Nat) (c : UInt8) (hc : l[q]? = some c) : (foldL (l.take q) ++ l.drop q)[q]? = some c := by
  have hq : q < l.length := (List.getElem?_eq_some_iff.1 hc).1
  have hl : (foldL (l.take q)).length = q := by simp [foldL]; omega
  rw [List.getElem?_append_right (by omega), hl, Nat.sub_self, List.getElem?_drop]
  simpa using hc
set_option maxHeartbeats 400000 in
set_option maxRecDepth 100000 in
theorem fold_any (s : ByteArray) (w : World) (hs : s.size ≤ 9223372036854775807) : Calls Tryz.prog 149 #[.string s] w fun e w' => e = .returned (.string ⟨(foldL s.data.toList).toArray⟩) ∧ Below w.heap.size w w' := by
  obtain ⟨cap, w1, hconv, hb, hB⟩ := bytes_conv (P := Tryz.prog) w 9 129 5 s Tryz.underlying9 Tryz.underlying129 Tryz.underlying5
  have HB := Lib.hid hb
  have HBB := Lib.hid hB
  clear hb hB
  have HL : Hid (s.data.toList.length = s.size) := Lib.hid (Array.length_toList)
  go_enter Tryz.func149, Tryz.ntmps149
  go_wp2
  go_loopw [4, 5, 10] (fun _ _ i wr => ∃ q : Nat, q ≤ s.size ∧ i = .int .i64 q ∧ Below w.heap.size w wr ∧ BytesAt wr w.heap.size (foldL (s.data.toList.take q) ++ s.data.toList.drop q)) (fun _ _ i _ => s.size - (intOf i).toNat)
  case atStart => exact ⟨0, Nat.zero_le _, rfl, HB.out, by simpa [foldL] using HBB.out⟩
  case round =>
    obtain ⟨q, hq, rfl, hbw, hBw⟩ := hrel
    by_cases hlt : q < s.size
    · obtain ⟨x, hx⟩ : ∃ x, s.data.toList[q]? = some x := ⟨_, List.getElem?_eq_getElem (by rw [HL.out]; exact hlt)⟩
      obtain ⟨c0, f0⟩ := hBw.2 q x (fold_at _ _ _ hx)
      have HX := Lib.hid hx
      have HW := Lib.hid hBw
      have HQ := Lib.hid hbw
      clear hx hBw hbw hconv
      have hx1 : (x.toNat : Int) < 256 := by have := x.toNat_lt; omega
      by_cases h1 : (65 : Int) ≤ x.toNat ∧ (x.toNat : Int) ≤ 90
      · obtain ⟨h1, h2⟩ := h1
        go_wp2
        go_roundw
        case rel =>
          refine ⟨q + 1, by omega, by go_num, HQ.out.setCell (Nat.le_refl _) _, ?_⟩
          have hl : lowB x = UInt8.ofNat (x.toNat + 32) := by unfold lowB; rw [if_pos (by omega)]
          have hl2 : ((lowB x).toNat : Int) = (x.toNat : Int) + 32 := by rw [hl]; simp; omega
          rw [← fold_step _ _ _ HX.out, ← hl2]
          exact HW.out.set q _ (by rw [List.length_append]; simp [foldL]; omega)
        case measure => simp [intOf]; omega
      · have hk : lowB x = x := by unfold lowB; rw [if_neg (by omega)]
        have HK := Lib.hid hk
        clear hk
        have h3 : (x.toNat : Int) < 65 ∨ ((65 : Int) ≤ x.toNat ∧ (90 : Int) < x.toNat) := by omega
        clear h1
        rcases h3 with h2 | ⟨h2, h3⟩
        all_goals
          go_wp2
          go_roundw
          case rel => exact ⟨q + 1, by omega, by go_num, HQ.out, by rw [← fold_keep _ _ _ HX.out HK.out]; exact HW.out⟩
          case measure => simp [intOf]; omega
    · obtain rfl : q = s.size := by omega
      have hz : foldL (s.data.toList.take s.size) ++ s.data.toList.drop s.size = foldL s.data.toList := by
        rw [List.take_of_length_le (by rw [HL.out]; omega), List.drop_eq_nil_of_le (by rw [HL.out]; omega), List.append_nil]
      rw [hz] at hBw
      have hback := hBw.back (P := Tryz.prog) (cap := cap) 129 9 5 Tryz.underlying129 Tryz.underlying5 Tryz.underlying9
      rw [show (foldL s.data.toList).length = s.size by rw [foldL, List.length_map]; exact HL.out] at hback
      have HQ := Lib.hid hbw
      clear hz hBw hbw hconv
      go_wp2
      go_ret
      exact ⟨rfl, HQ.out⟩
end Go.Proofs.YthmlnffponjikaaGreatDoor
namespace Go.Proofs.YthmlnffponjikaaGreatDoor
open Go.RowKit

/-- What the library's own variable holds: some integer. -/
def Glob (w : World) : Prop := ∃ m, w.cell? ⟨0, 0, none⟩ = some (.int .i64 m)
theorem Glob.below {a w : World} (h : Glob a) (hb : Below a.heap.size a w) : Glob w := h.imp fun _ hm => re1 hb (cell_lt hm) hm

theorem cut_le (s sep : List UInt8) : (Lib.cut s sep).1.length ≤ s.length := by
  unfold Lib.cut
  split
  · simp; omega
  · exact Nat.le_refl _
theorem trimSuffix_le (s p : List UInt8) : (Lib.trimSuffix s p).length ≤ s.length := by
  unfold Lib.trimSuffix
  split
  · rw [List.length_take]; omega
  · exact Nat.le_refl _
def spaceOf (n : List UInt8) : Int :=
  if n = [116, 97, 108, 107] then 1 else if n = [117, 115, 101, 114] then 2 else if n = [116, 101, 109, 112, 108, 97, 116, 101] then 3 else if n = [99, 97, 116, 101, 103, 111, 114, 121] then 4 else if n = [112, 114, 111, 106, 101, 99, 116] then 5 else 0
/-- The namespace that a text names ahead of its first colon, and what is behind it. -/
def prefixL (s : List UInt8) : Option (Int × List UInt8) :=
  if (Lib.cut s [58]).2.2 = true ∧ spaceOf (foldL (Lib.trimSuffix (Lib.cut s [58]).1 [32])) ≠ 0 then some (spaceOf (foldL (Lib.trimSuffix (Lib.cut s [58]).1 [32])), (Lib.cut s [58]).2.1) else none
def prefixV (s : List UInt8) : Value := match prefixL s with
  | some (n, r) => .tuple #[.int .i64 n, .string ⟨r.toArray⟩, .bool true]
  | none => .tuple #[.int .i64 0, .string ⟨#[]⟩, .bool false]
set_option maxHeartbeats 400000 in
theorem spaces_any (w : World) : Calls Tryz.prog 74 #[] w fun e w' => e = .returned (.agg #[.string ⟨#[]⟩, .string ⟨#[84, 97, 108, 107]⟩, .string ⟨#[85, 115, 101, 114]⟩, .string ⟨#[84, 101, 109, 112, 108, 97, 116, 101]⟩, .string ⟨#[67, 97, 116, 101, 103, 111, 114, 121]⟩, .string ⟨#[80, 114, 111, 106, 101, 99, 116]⟩]) ∧ Below w.heap.size w w' := by
  go_enter Tryz.func74, Tryz.ntmps74
  go_wp2
  exact bodyPost_ret (v := .agg #[.string ⟨#[]⟩, .string ⟨#[84, 97, 108, 107]⟩, .string ⟨#[85, 115, 101, 114]⟩, .string ⟨#[84, 101, 109, 112, 108, 97, 116, 101]⟩, .string ⟨#[67, 97, 116, 101, 103, 111, 114, 121]⟩, .string ⟨#[80, 114, 111, 106, 101, 99, 116]⟩]) (by simp [results, Tryz.results74, go_sem]) rfl ⟨rfl, Below.al (Below.refl _ _) _⟩
def spaceName (q : Nat) : List UInt8 := match q with | 1 => [116, 97, 108, 107] | 2 => [117, 115, 101, 114] | 3 => [116, 101, 109, 112, 108, 97, 116, 101] | 4 => [99, 97, 116, 101, 103, 111, 114, 121] | 5 => [112, 114, 111, 106, 101, 99, 116] | _ => []
theorem spaceOf_none (n : List UInt8) (h : ∀ j, 1 ≤ j → j < 6 → n ≠ spaceName j) : spaceOf n = 0 := by
  have h1 := h 1 (by decide) (by decide)
  have h2 := h 2 (by decide) (by decide)
  have h3 := h 3 (by decide) (by decide)
  have h4 := h 4 (by decide) (by decide)
  have h5 := h 5 (by decide) (by decide)
  simp only [spaceName] at h1 h2 h3 h4 h5
  simp only [spaceOf, h1, h2, h3, h4, h5, if_false]
theorem spaceOf_some (j : Nat) (h1 : 1 ≤ j) (h6 : j < 6) : spaceOf (spaceName j) = j := by
  obtain rfl | rfl | rfl | rfl | rfl : j = 1 ∨ j = 2 ∨ j = 3 ∨ j = 4 ∨ j = 5 := by omega
  all_goals decide
set_option maxRecDepth 100000 in
set_option maxHeartbeats 1000000 in
theorem prefix_any (s : ByteArray) (w : World) (hs : s.size < 4294967281) (hG : Glob w) : Calls Tryz.prog 99 #[.string s] w fun e w' => e = .returned (prefixV s.data.toList) ∧ Below w.heap.size w w' := by
  obtain ⟨m, hm⟩ := hG
  have HF : Hid (prefixV s.data.toList = match prefixL s.data.toList with
    | some (n, r) => .tuple #[.int .i64 n, .string ⟨r.toArray⟩, .bool true]
    | none => .tuple #[.int .i64 0, .string ⟨#[]⟩, .bool false]) := Lib.hid rfl
  unfold prefixL at HF
  have hl1 : (Lib.cut s.data.toList [58]).1.length ≤ s.data.toList.length := cut_le _ _
  go_enter Tryz.func99, Tryz.ntmps99
  go_wp2_with fail
  refine (Tryz.strings_Cut s _ m _ hs hm).mono ?_
  rintro e w1 ⟨rfl, n1, rfl⟩
  rw [show (⟨#[58]⟩ : ByteArray).data.toList = [58] from rfl]
  generalize Lib.cut s.data.toList [58] = C at *
  obtain ⟨b, a, ok⟩ := C
  cases ok
  · go_wp2
    go_ret3
    exact ⟨by rw [HF.out]; simp, Below.dn (Below.refl _ _) _⟩
  · go_wp2_with fail
    refine (Tryz.strings_TrimSuffix _ _ _ (by have := s.data.toList.length; simp only [ByteArray.size, Array.length_toList, List.size_toArray] at hl1 hs ⊢; omega)).mono ?_
    rintro e w1 ⟨rfl, rfl⟩
    go_wp2_with fail
    refine (fold_any _ _ (by have h2 := trimSuffix_le b [32]; simp only [ByteArray.size, Array.length_toList, List.size_toArray] at hl1 hs h2 ⊢; omega)).mono ?_
    rintro e w1 ⟨rfl, hb1⟩
    go_wp2_with fail
    refine (spaces_any _).mono ?_
    rintro e w2 ⟨rfl, hb2⟩
    have HB := Lib.hid (Below.tr (Below.tr (Below.dn (Below.refl _ _) _) hb1) hb2)
    clear hb1 hb2 hm hs hl1
    generalize foldL (Lib.trimSuffix b [32]) = N at *
    simp only [true_and] at HF
    go_wp2_with fail
    go_loopw [23] (fun i wr => ∃ z : Int, 0 ≤ z ∧ z ≤ 6 ∧ i = .int .i64 z ∧ Below w2.heap.size w2 wr ∧ Hid (∀ j : Nat, 1 ≤ j → (j : Int) < z → N ≠ spaceName j)) (fun i _ => 6 - (intOf i).toNat)
    case atStart => exact ⟨0, by omega, by omega, rfl, Below.refl _ _, fun j _ h => absurd h (by omega)⟩
    case round =>
      obtain ⟨z, hz0, hz6, rfl, hbw, hno⟩ := hrel
      have HQ := Lib.hid hbw
      clear hbw
      by_cases h6 : z = 6
      · subst h6
        have hz : spaceOf N = 0 := spaceOf_none N fun j h1 h2 => hno.out j h1 (by omega)
        rw [hz] at HF
        clear hz
        go_wp2
        go_ret3
        exact ⟨by rw [HF.out]; simp, Below.tr HB.out HQ.out⟩
      · have hq6 : z = 0 ∨ z = 1 ∨ z = 2 ∨ z = 3 ∨ z = 4 ∨ z = 5 := by omega
        clear h6 hz0 hz6
        have ix : ∀ w (z : Int) (x : Value), (#[Value.string { data := #[] }, Value.string { data := #[84, 97, 108, 107] }, Value.string { data := #[85, 115, 101, 114] }, Value.string { data := #[84, 101, 109, 112, 108, 97, 116, 101] }, Value.string { data := #[67, 97, 116, 101, 103, 111, 114, 121] }, Value.string { data := #[80, 114, 111, 106, 101, 99, 116] }] : Array Value)[z.toNat]? = some x → 0 ≤ z → z < 6 →
          (Instr.index 126 (.agg #[Value.string { data := #[] }, Value.string { data := #[84, 97, 108, 107] }, Value.string { data := #[85, 115, 101, 114] }, Value.string { data := #[84, 101, 109, 112, 108, 97, 116, 101] }, Value.string { data := #[67, 97, 116, 101, 103, 111, 114, 121] }, Value.string { data := #[80, 114, 111, 106, 101, 99, 116] }]) (.int .i64 z)).run Tryz.prog w = .ok x w := by
          intro w z x h h0 h6
          obtain rfl | rfl | rfl | rfl | rfl | rfl : z = 0 ∨ z = 1 ∨ z = 2 ∨ z = 3 ∨ z = 4 ∨ z = 5 := by omega
          all_goals
            (simp at h; subst h; kernel_rfl)
        rcases hq6 with rfl | rfl | rfl | rfl | rfl | rfl
        · have i0 := fun w => ix w 0 _ rfl (by decide) (by decide)
          clear ix
          go_wp2
          go_roundw
          case rel => exact ⟨1, by omega, by omega, rfl, HQ.out, fun j h1 h2 => absurd h2 (by omega)⟩
          case measure => simp [intOf]
        · have i0 := fun w => ix w 1 _ rfl (by decide) (by decide)
          clear ix
          go_wp2_with (go_at_call 149; refine (fold_any _ _ (by decide)).mono ?_; rintro e w5 ⟨rfl, hb5⟩)
          · have h : (N == foldL [84, 97, 108, 107]) = true := by assumption
            have hN : N = spaceName 1 := (beq_iff_eq.1 h).trans (by decide)
            have hz : spaceOf N = 1 := by rw [hN]; decide
            go_ret3
            exact ⟨by rw [HF.out, hz]; simp, Below.tr HB.out (Below.tr HQ.out hb5)⟩
          · go_roundw
            case rel =>
              have h : (N == foldL [84, 97, 108, 107]) = false := by assumption
              have hN : N ≠ spaceName 1 := fun e => beq_eq_false_iff_ne.1 h (e.trans (by decide))
              refine ⟨1 + 1, by omega, by omega, rfl, Below.tr HQ.out hb5, fun j h1 h2 => ?_⟩
              rcases Nat.lt_or_ge j 1 with hj | hj
              · exact hno.out j h1 (by omega)
              · obtain rfl : j = 1 := by omega
                exact hN
            case measure => simp [intOf]
        · have i0 := fun w => ix w 2 _ rfl (by decide) (by decide)
          clear ix
          go_wp2_with (go_at_call 149; refine (fold_any _ _ (by decide)).mono ?_; rintro e w5 ⟨rfl, hb5⟩)
          · have h : (N == foldL [85, 115, 101, 114]) = true := by assumption
            have hN : N = spaceName 2 := (beq_iff_eq.1 h).trans (by decide)
            have hz : spaceOf N = 2 := by rw [hN]; decide
            go_ret3
            exact ⟨by rw [HF.out, hz]; simp, Below.tr HB.out (Below.tr HQ.out hb5)⟩
          · go_roundw
            case rel =>
              have h : (N == foldL [85, 115, 101, 114]) = false := by assumption
              have hN : N ≠ spaceName 2 := fun e => beq_eq_false_iff_ne.1 h (e.trans (by decide))
              refine ⟨2 + 1, by omega, by omega, rfl, Below.tr HQ.out hb5, fun j h1 h2 => ?_⟩
              rcases Nat.lt_or_ge j 2 with hj | hj
              · exact hno.out j h1 (by omega)
              · obtain rfl : j = 2 := by omega
                exact hN
            case measure => simp [intOf]
        · have i0 := fun w => ix w 3 _ rfl (by decide) (by decide)
          clear ix
          go_wp2_with (go_at_call 149; refine (fold_any _ _ (by decide)).mono ?_; rintro e w5 ⟨rfl, hb5⟩)
          · have h : (N == foldL [84, 101, 109, 112, 108, 97, 116, 101]) = true := by assumption
            have hN : N = spaceName 3 := (beq_iff_eq.1 h).trans (by decide)
            have hz : spaceOf N = 3 := by rw [hN]; decide
            go_ret3
            exact ⟨by rw [HF.out, hz]; simp, Below.tr HB.out (Below.tr HQ.out hb5)⟩
          · go_roundw
            case rel =>
              have h : (N == foldL [84, 101, 109, 112, 108, 97, 116, 101]) = false := by assumption
              have hN : N ≠ spaceName 3 := fun e => beq_eq_false_iff_ne.1 h (e.trans (by decide))
              refine ⟨3 + 1, by omega, by omega, rfl, Below.tr HQ.out hb5, fun j h1 h2 => ?_⟩
              rcases Nat.lt_or_ge j 3 with hj | hj
              · exact hno.out j h1 (by omega)
              · obtain rfl : j = 3 := by omega
                exact hN
            case measure => simp [intOf]
        · have i0 := fun w => ix w 4 _ rfl (by decide) (by decide)
          clear ix
          go_wp2_with (go_at_call 149; refine (fold_any _ _ (by decide)).mono ?_; rintro e w5 ⟨rfl, hb5⟩)
          · have h : (N == foldL [67, 97, 116, 101, 103, 111, 114, 121]) = true := by assumption
            have hN : N = spaceName 4 := (beq_iff_eq.1 h).trans (by decide)
            have hz : spaceOf N = 4 := by rw [hN]; decide
            go_ret3
            exact ⟨by rw [HF.out, hz]; simp, Below.tr HB.out (Below.tr HQ.out hb5)⟩
          · go_roundw
            case rel =>
              have h : (N == foldL [67, 97, 116, 101, 103, 111, 114, 121]) = false := by assumption
              have hN : N ≠ spaceName 4 := fun e => beq_eq_false_iff_ne.1 h (e.trans (by decide))
              refine ⟨4 + 1, by omega, by omega, rfl, Below.tr HQ.out hb5, fun j h1 h2 => ?_⟩
              rcases Nat.lt_or_ge j 4 with hj | hj
              · exact hno.out j h1 (by omega)
              · obtain rfl : j = 4 := by omega
                exact hN
            case measure => simp [intOf]
        · have i0 := fun w => ix w 5 _ rfl (by decide) (by decide)
          clear ix
          go_wp2_with (go_at_call 149; refine (fold_any _ _ (by decide)).mono ?_; rintro e w5 ⟨rfl, hb5⟩)
          · have h : (N == foldL [80, 114, 111, 106, 101, 99, 116]) = true := by assumption
            have hN : N = spaceName 5 := (beq_iff_eq.1 h).trans (by decide)
            have hz : spaceOf N = 5 := by rw [hN]; decide
            go_ret3
            exact ⟨by rw [HF.out, hz]; simp, Below.tr HB.out (Below.tr HQ.out hb5)⟩
          · go_roundw
            case rel =>
              have h : (N == foldL [80, 114, 111, 106, 101, 99, 116]) = false := by assumption
              have hN : N ≠ spaceName 5 := fun e => beq_eq_false_iff_ne.1 h (e.trans (by decide))
              refine ⟨5 + 1, by omega, by omega, rfl, Below.tr HQ.out hb5, fun j h1 h2 => ?_⟩
              rcases Nat.lt_or_ge j 5 with hj | hj
              · exact hno.out j h1 (by omega)
              · obtain rfl : j = 5 := by omega
                exact hN
            case measure => simp [intOf]
end Go.Proofs.YthmlnffponjikaaGreatDoor
namespace Go.Proofs.YthmlnffponjikaaGreatDoor
open Go.RowKit

def badName : List UInt8 := [60, 62, 91, 93, 123, 125, 124, 35, 95]
/-- p: the byte before, or -1. -/
def cleanL : Int → List UInt8 → Bool
  | _, [] => true
  | p, c :: r => if (c.toNat : Int) < 32 ∨ (c.toNat : Int) = 127 ∨ 0 ≤ Lib.indexByte badName c ∨ ((c.toNat : Int) = 32 ∧ p = 32) then false else cleanL c.toNat r
theorem cleanL_stop {p : Int} {c : UInt8} {r : List UInt8} (h : (c.toNat : Int) < 32 ∨ (c.toNat : Int) = 127 ∨ 0 ≤ Lib.indexByte badName c ∨ ((c.toNat : Int) = 32 ∧ p = 32)) : cleanL p (c :: r) = false := by
  simp only [cleanL, if_pos h]
theorem cleanL_go {p : Int} {c : UInt8} {r : List UInt8} (h : ¬((c.toNat : Int) < 32 ∨ (c.toNat : Int) = 127 ∨ 0 ≤ Lib.indexByte badName c ∨ ((c.toNat : Int) = 32 ∧ p = 32))) : cleanL p (c :: r) = cleanL c.toNat r := by
  simp only [cleanL, if_neg h]
def prevAt (s : ByteArray) (q : Nat) : Int := if h : 0 < q ∧ q - 1 < s.size then ((s[q - 1]'h.2).toNat : Int) else -1
set_option maxRecDepth 100000 in
set_option maxHeartbeats 1000000 in
theorem clean_any (s : ByteArray) (w : World) (hs : s.size ≤ 9223372036854775807) : Calls Tryz.prog 97 #[.string s] w fun e w' => e = .returned (.bool (cleanL (-1) s.data.toList)) ∧ w = w' := by
  go_enter Tryz.func97, Tryz.ntmps97
  go_wp2
  go_loop [3, 4] (fun i _ => ∃ q : Nat, q ≤ s.size ∧ i = .int .i64 q ∧ Hid (cleanL (-1) s.data.toList = cleanL (prevAt s q) (s.data.toList.drop q))) (fun i _ => s.size - (intOf i).toNat)
  case atStart => exact ⟨0, Nat.zero_le _, rfl, rfl⟩
  case round =>
    obtain ⟨q, hq, rfl, hC⟩ := hrel
    by_cases hlt : q < s.size
    · have HD : Hid (s.data.toList.drop q = s[q] :: s.data.toList.drop (q + 1)) := List.drop_eq_getElem_cons (by rw [Array.length_toList]; exact hlt)
      have HP' : Hid (prevAt s (q + 1) = ((s[q]'hlt).toNat : Int)) := by unfold prevAt; rw [dif_pos ⟨Nat.succ_pos q, hlt⟩]; rfl
      by_cases h0 : q = 0
      · subst h0
        have HP : Hid (prevAt s 0 = -1) := rfl
        go_wp2_with (go_at_call 146; refine (Tryz.strings_IndexByte _ _ _).mono ?_; rintro e w' ⟨rfl, rfl⟩)
        all_goals (try simp only [beq_iff_eq, beq_eq_false_iff_ne, ne_eq] at *)
        all_goals first
          | (exfalso; omega)
          | (go_ret; refine ⟨ret_bool ?_, rfl⟩; rw [hC.out, HD.out]; refine (cleanL_stop ?_).symm; rw [HP.out]; unfold badName; omega)
          | (go_round; (case rel => (refine ⟨1, by omega, rfl, ?_⟩; rw [hC.out, HD.out, cleanL_go (by rw [HP.out]; unfold badName; omega)]; exact congrArg (fun p => cleanL p (s.data.toList.drop (0 + 1))) HP'.out.symm)); (case measure => (simp [intOf]; omega)))
      · have HP : Hid (prevAt s q = ((s[q - 1]'(by omega)).toNat : Int)) := by unfold prevAt; rw [dif_pos ⟨by omega, by omega⟩]; exact Lib.hid rfl
        have h1 : 0 < q := by omega
        clear h0
        go_wp2_with (go_at_call 146; refine (Tryz.strings_IndexByte _ _ _).mono ?_; rintro e w' ⟨rfl, rfl⟩)
        all_goals (try simp only [beq_iff_eq, beq_eq_false_iff_ne, ne_eq] at *)
        all_goals first
          | (exfalso; omega)
          | (go_ret; refine ⟨ret_bool ?_, rfl⟩; rw [hC.out, HD.out]; refine (cleanL_stop ?_).symm; rw [HP.out]; unfold badName; omega)
          | (go_round; (case rel => (refine ⟨q + 1, by omega, by go_num, ?_⟩; rw [hC.out, HD.out, cleanL_go (by rw [HP.out]; unfold badName; omega)]; exact congrArg (fun p => cleanL p (s.data.toList.drop (q + 1))) HP'.out.symm)); (case measure => (simp [intOf]; omega)))
    · obtain rfl : q = s.size := by omega
      have hz : s.data.toList.drop s.size = [] := List.drop_eq_nil_of_le (by rw [Array.length_toList]; exact Nat.le_refl _)
      have HZ : Hid (cleanL (-1) s.data.toList = true) := by rw [hC.out, hz]; exact rfl
      clear hz hC
      go_wp2
      go_ret
      exact ⟨ret_bool HZ.out.symm, rfl⟩
theorem countB_le (s : ByteArray) : Lib.countB s ⟨#[47]⟩ ≤ s.size := by
  have h := Lib.countB_mul_le ⟨#[47]⟩ (by decide) s.size s (Nat.le_refl _)
  have e : (⟨#[47]⟩ : ByteArray).size = 1 := rfl
  rw [e] at h
  omega
theorem headD_of : ∀ (l : List UInt8) (h : 0 < l.length), l.headD 0 = l[0]
  | _ :: _, _ => rfl
theorem head_of (s : ByteArray) (h : 0 < s.size) : s.data.toList.headD 0 = s[0] :=
  headD_of _ (by rw [Array.length_toList]; exact h)
theorem prefix_none (s : ByteArray) (w : World) (hs : s.size < 4294967281) (hG : Glob w) (h : prefixL s.data.toList = none) : Calls Tryz.prog 99 #[.string s] w fun e w' => e = .returned (.tuple #[.int .i64 0, .string ⟨#[]⟩, .bool false]) ∧ Below w.heap.size w w' :=
  (prefix_any s w hs hG).mono fun _ _ ⟨he, hb⟩ => ⟨he.trans (by unfold prefixV; rw [h]), hb⟩
theorem prefix_some (s : ByteArray) (w : World) (hs : s.size < 4294967281) (hG : Glob w) {n : Int} {r : List UInt8} (h : prefixL s.data.toList = some (n, r)) : Calls Tryz.prog 99 #[.string s] w fun e w' => e = .returned (.tuple #[.int .i64 n, .string ⟨r.toArray⟩, .bool true]) ∧ Below w.heap.size w w' :=
  (prefix_any s w hs hG).mono fun _ _ ⟨he, hb⟩ => ⟨he.trans (by unfold prefixV; rw [h]), hb⟩
theorem splitB_size (sep : ByteArray) : ∀ (k : Nat) (s p : ByteArray), p ∈ Lib.splitB sep 0 k s → p.size ≤ s.size
  | 0, s, p, h => by
    rw [Lib.splitB_zero] at h
    simp at h
    rw [h]; exact Nat.le_refl _
  | k + 1, s, p, h => by
    rcases Lib.index_spec s.data.toList sep.data.toList with ⟨h1, _⟩ | ⟨i, h1, _⟩
    · rw [Lib.splitB_miss sep 0 (k + 1) s h1] at h
      simp at h
      rw [h]; exact Nat.le_refl _
    · rw [Lib.splitB_hit sep 0 k s i h1] at h
      rcases List.mem_cons.1 h with h | h
      · rw [h, ByteArray.size_extract]; omega
      · have := splitB_size sep k _ p h
        rw [ByteArray.size_extract] at this
        omega
/-- A part of a name between slashes. -/
def partOK (p : List UInt8) : Bool := decide (p ≠ []) && decide (p[0]? ≠ some 32) && decide (p.getLast? ≠ some 32)
theorem u8_32 (a : UInt8) : decide (some a ≠ some 32) = !((a.toNat : Int) == 32) := by
  by_cases h : a = 32
  · subst h; rfl
  · have h2 : a.toNat ≠ 32 := fun e => h (UInt8.toNat_inj.1 e)
    have h3 : ((a.toNat : Int) == 32) = false := by rw [beq_eq_false_iff_ne]; omega
    rw [h3]; simp [h]
theorem partOK_def (x : ByteArray) (h : 0 < x.size) : partOK x.data.toList = !((x[0].toNat : Int) == 32 || ((x[x.size - 1]'(by omega)).toNat : Int) == 32) := by
  have hl : x.data.toList.length = x.size := Array.length_toList
  have h1 : x.data.toList ≠ [] := fun e => by rw [e] at hl; simp at hl; omega
  have h2 : x.data.toList[0]? = some x[0] := List.getElem?_eq_getElem (by omega)
  have h3 : x.data.toList.getLast? = some (x[x.size - 1]'(by omega)) := by
    rw [List.getLast?_eq_getElem?, hl]
    exact List.getElem?_eq_getElem (by omega)
  unfold partOK
  rw [h2, h3, u8_32, u8_32]
  simp [h1]
/-- The first byte of a name: no colon, no letter a to z. -/
def firstOK (c : Int) : Bool := decide (c ≠ 58) && !(decide (97 ≤ c) && decide (c ≤ 122))
theorem firstOK_no1 {c : Int} (h : c = 58) : firstOK c = false := by subst h; rfl
theorem firstOK_no2 {c : Int} (h : 97 ≤ c) (h' : c ≤ 122) : firstOK c = false := by simp [firstOK, h, h']
theorem firstOK_yes {c : Int} (h : c ≠ 58) (h' : c < 97 ∨ 122 < c) : firstOK c = true := by
  unfold firstOK
  have : ¬ (97 ≤ c ∧ c ≤ 122) := by omega
  simp [h]; omega
def Title.valid (t : Title) : Bool :=
  decide (0 ≤ t.space) && decide (t.space < 6) && decide (1 ≤ t.name.size) && decide (t.name.size ≤ 100) && cleanL (-1) t.name.data.toList &&
  (Lib.splitB ⟨#[47]⟩ 0 (Lib.countB t.name ⟨#[47]⟩) t.name).all (fun p => partOK p.data.toList) &&
  firstOK (t.name.data.toList.headD 0).toNat &&
  (decide (t.space ≠ 0) || decide (prefixL t.name.data.toList = none))
set_option maxRecDepth 100000 in
set_option maxHeartbeats 1000000 in
theorem valid_any (t : Title) (w : World) (hG : Glob w) : Calls Tryz.prog 50 #[.agg #[.int .i64 t.space, .string t.name]] w fun e w' => e = .returned (.bool t.valid) ∧ Below w.heap.size w w' := by
  obtain ⟨m, hm⟩ := hG
  obtain ⟨sp, s⟩ := t
  by_cases h : (0 ≤ sp ∧ sp < 6) ∧ (1 ≤ s.size ∧ s.size ≤ 100) ∧ cleanL (-1) s.data.toList = true
  · obtain ⟨⟨h1, h2⟩, ⟨h3, h4⟩, h5⟩ := h
    go_enter Tryz.func50, Tryz.ntmps50
    go_wp2_with (first | (go_at_call 97; refine (clean_any _ _ (by omega)).mono ?_; rintro e w' ⟨rfl, rfl⟩) | (go_at_call 98; refine (Tryz.strings_Split _ _ m _ (by omega) (by exact re1 (Below.al (Below.refl _ _) _) (cell_lt hm) hm) (by decide)).mono ?_; rintro e w' ⟨rfl, rfl⟩))
    have hcl := Lib.splitB_all ⟨#[47]⟩ (by decide) 0 _ s rfl
    have hb : Below w.heap.size w ((w.alloc (Obj.cells #[Value.int IntKind.i64 sp, Value.string s] 34)).alloc (Obj.cells (List.map Value.string (Lib.splitB { data := #[47] } 0 (Lib.countB s { data := #[47] }) s)).toArray 9)) := Below.al (Below.al (Below.refl _ _) _) _
    have hS := SlR.strs (w.alloc (Obj.cells #[Value.int IntKind.i64 sp, Value.string s] 34)) 9 (n := Lib.countB s { data := #[47] } + 1) (Lib.splitB { data := #[47] } 0 (Lib.countB s { data := #[47] }) s) hcl.symm (by have := countB_le s; omega)
    have e1 : (w.alloc (Obj.cells #[Value.int IntKind.i64 sp, Value.string s] 34)).heap.size = w.heap.size + 1 := by simp
    rw [e1] at hS
    have c0 : ((w.alloc (Obj.cells #[Value.int IntKind.i64 sp, Value.string s] 34)).alloc (Obj.cells (List.map Value.string (Lib.splitB { data := #[47] } 0 (Lib.countB s { data := #[47] }) s)).toArray 9)).cell? ⟨w.heap.size, 0, none⟩ = some (.int .i64 sp) := by go_simp
    generalize (w.alloc (Obj.cells #[Value.int IntKind.i64 sp, Value.string s] 34)).alloc (Obj.cells (List.map Value.string (Lib.splitB { data := #[47] } 0 (Lib.countB s { data := #[47] }) s)).toArray 9) = w2 at *
    have HB := Lib.hid hb
    clear hb e1 hcl
    have hsp : Title.valid ⟨sp, s⟩ = ((Lib.splitB { data := #[47] } 0 (Lib.countB s { data := #[47] }) s).all (fun p => partOK p.data.toList) && (firstOK (s.data.toList.headD 0).toNat &&
      (decide (sp ≠ 0) || decide (prefixL s.data.toList = none)))) := by simp [Title.valid, h1, h2, h3, h4, h5, Bool.and_assoc]
    have splitB_sizes := fun p h => Nat.le_trans (splitB_size ⟨#[47]⟩ (Lib.countB s ⟨#[47]⟩) s p h) h4
    generalize Lib.countB s { data := #[47] } = K at *
    generalize Lib.splitB { data := #[47] } 0 K s = ps at *
    have HSP := Lib.hid hsp
    have HK := Lib.hid hS.1
    have hle := hS.le
    clear hsp
    go_loopw [5, 37] (fun _ i wr => ∃ q : Nat, q ≤ K + 1 ∧ i = .int .i64 q ∧ Below w2.heap.size w2 wr ∧ Hid (ps.all (fun p => partOK p.data.toList) = (ps.drop q).all (fun p => partOK p.data.toList))) (fun _ i _ => K + 1 - (intOf i).toNat)
    case atStart => exact ⟨0, by omega, rfl, Below.refl _ _, rfl⟩
    case round =>
      obtain ⟨q, hq, rfl, hbw, hA⟩ := hrel
      have HW := Lib.hid hbw
      by_cases hlt : q < K + 1
      · obtain ⟨b, off, x, cs, hA0, hbl, hx, hd, hR, hc⟩ := (hS.mono hbw).elem hlt
        obtain ⟨rfl, rfl⟩ : w.heap.size + 1 = b ∧ 0 = off := by injection hA0 with h; injection h with h1 h2; exact ⟨h1, h2⟩
        have d0 : wr.cell? ⟨w.heap.size + 1, q, none⟩ = some (.string x) := by subst hR; simpa using hc 0 _ rfl
        have HD := Lib.hid hd
        have hxs := splitB_sizes x (List.mem_of_getElem? hx)
        clear hA0 hx hd hR hc hbw hS h5 h1 h2 hbl splitB_sizes
        by_cases hx0 : x.size = 0
        · have hx1 : x.toList = [] := by rw [ByteArray.toList_eq]; exact List.eq_nil_of_length_eq_zero (by rw [Array.length_toList]; exact hx0)
          have HP : Hid (partOK x.data.toList = false) := Lib.hid (by rw [← ByteArray.toList_eq, hx1]; rfl)
          clear hx0
          go_wp2
          go_ret
          exact ⟨ret_bool (by rw [HSP.out, hA.out, HD.out, List.all_cons, HP.out]; rfl), Below.tr HB.out HW.out⟩
        · have hx1 : ¬ x.toList = [] := fun e => by rw [ByteArray.toList_eq] at e; exact hx0 (by have := congrArg List.length e; rw [Array.length_toList] at this; exact this)
          have hx2 : 0 < x.size := by omega
          have hx3 : (0 : Int) ≤ (x.size : Int) - 1 := by omega
          have HP := Lib.hid (partOK_def x hx2)
          clear hx0
          go_wp2
          all_goals (try simp only [beq_iff_eq, beq_eq_false_iff_ne, ne_eq, List.isEmpty_iff, List.isEmpty_eq_false_iff] at *)
          all_goals first
            | (exfalso; omega)
            | (go_ret; refine ⟨ret_bool ?_, Below.tr HB.out HW.out⟩; rw [HSP.out, hA.out, HD.out, List.all_cons, HP.out]; simp_all; done)
            | (go_roundw; (case rel => (refine ⟨q + 1, by omega, by go_num, HW.out, ?_⟩; refine Lib.hid ?_; rw [hA.out, HD.out, List.all_cons, HP.out]; simp_all)); (case measure => (simp [intOf]; omega)))
      · obtain rfl : q = K + 1 := by omega
        have hz : ps.all (fun p => partOK p.data.toList) = true := by
          rw [hA.out, List.drop_eq_nil_of_le (by rw [← HK.out]; exact Nat.le_refl _)]; rfl
        rw [hz, Bool.true_and] at HSP
        have c1 : wr.cell? ⟨w.heap.size, 0, none⟩ = some (.int .i64 sp) := re1 hbw (cell_lt c0) c0
        have hm1 : wr.cell? ⟨0, 0, none⟩ = some (.int .i64 m) := re1 (Below.tr HB.out hbw) (cell_lt hm) hm
        have hg : s.data.toList.headD 0 = s[0]'(by omega) := head_of s (by omega)
        rw [hg] at HSP
        have hs0 : (0 : Int) < s.size := by omega
        clear hz hbw hS h5 hA c0 hle splitB_sizes hg hm
        rcases hp : prefixL s.data.toList with _ | ⟨n, r⟩
        · rw [hp] at HSP
          have hpr := fun W h1 h2 => prefix_none s W h1 h2 hp
          clear hp
          go_wp2_with (go_at_call 99; refine (hpr _ (by omega) ⟨m, by assumption⟩).mono ?_; rintro e w5 ⟨rfl, hb5⟩; have c2 := re1 hb5 (cell_lt c1) c1)
          all_goals
            go_ret
            refine ⟨ret_bool ?_, ?_⟩
            · rw [HSP.out]
              simp only [beq_iff_eq, beq_eq_false_iff_ne, ne_eq] at *
              first
                | (rw [firstOK_no1 (by omega)]; rfl)
                | (rw [firstOK_no2 (by omega) (by omega)]; rfl)
                | (rw [firstOK_yes (by omega) (by omega)]; simp_all; done)
            · first | exact Below.tr (Below.tr HB.out HW.out) (by assumption) | exact Below.tr HB.out HW.out
        · rw [hp] at HSP
          have hpr := fun W h1 h2 => prefix_some s W h1 h2 hp
          clear hp
          go_wp2_with (go_at_call 99; refine (hpr _ (by omega) ⟨m, by assumption⟩).mono ?_; rintro e w5 ⟨rfl, hb5⟩; have c2 := re1 hb5 (cell_lt c1) c1)
          all_goals
            go_ret
            refine ⟨ret_bool ?_, ?_⟩
            · rw [HSP.out]
              simp only [beq_iff_eq, beq_eq_false_iff_ne, ne_eq] at *
              first
                | (rw [firstOK_no1 (by omega)]; rfl)
                | (rw [firstOK_no2 (by omega) (by omega)]; rfl)
                | (rw [firstOK_yes (by omega) (by omega)]; simp_all; done)
            · first | exact Below.tr (Below.tr HB.out HW.out) (by assumption) | exact Below.tr HB.out HW.out
  · go_enter Tryz.func50, Tryz.ntmps50
    have hv : Title.valid ⟨sp, s⟩ = false := by
      cases hV : Title.valid ⟨sp, s⟩ with
      | false => rfl
      | true =>
        simp only [Title.valid, Bool.and_eq_true, decide_eq_true_eq] at hV
        obtain ⟨⟨⟨⟨⟨⟨⟨ha, hb⟩, hc⟩, hd⟩, hcl⟩, _⟩, _⟩, _⟩ := hV
        exact absurd ⟨⟨ha, hb⟩, ⟨hc, hd⟩, hcl⟩ h
    have HV := Lib.hid hv
    clear hv
    go_wp2_with (first | (go_at_call 97; refine (clean_any _ _ (by omega)).mono ?_; rintro e w' ⟨rfl, rfl⟩) | (go_at_call 98; exfalso; have h6 : (!cleanL (-1) s.data.toList) = false := And.right (by assumption); simp at h6; exact h ⟨⟨by omega, by omega⟩, ⟨by omega, by omega⟩, h6⟩))
    all_goals
      go_ret
      exact ⟨ret_bool HV.out.symm, Below.al (Below.refl _ _) _⟩
end Go.Proofs.YthmlnffponjikaaGreatDoor
namespace Go.Proofs.YthmlnffponjikaaGreatDoor
open Go.RowKit

def lowI (b : Int) : Int := if 65 ≤ b ∧ b ≤ 90 then b + 32 else b
set_option maxRecDepth 100000 in
set_option maxHeartbeats 400000 in
theorem refLower_any (b : Int) (h0 : 0 ≤ b) (h1 : b < 256) (w : World) : Calls Tryz.prog 215 #[.int .u8 b] w fun e w' => e = .returned (.int .u8 (lowI b)) ∧ w = w' := by
  go_enter Tryz.func215, Tryz.ntmps215
  go_wp2
  all_goals
    go_ret
    refine ⟨ret_int ?_, rfl⟩
    unfold lowI
    first | (rw [if_pos (by omega)]; done) | (rw [if_neg (by omega)]; done)
theorem lowI_lowB (c : UInt8) : lowI c.toNat = (lowB c).toNat := by
  unfold lowI lowB
  by_cases h : 65 ≤ c.toNat ∧ c.toNat ≤ 90
  · rw [if_pos (by omega), if_pos h]; simp; omega
  · rw [if_neg (by omega), if_neg h]
theorem u8_lt (c : UInt8) : 0 ≤ (c.toNat : Int) ∧ (c.toNat : Int) < 256 := by have := c.toNat_lt; omega
theorem piece_occ (a b : ByteArray) (j : Nat) (hj : j + b.size ≤ a.size) : ((a.extract j (j + b.size)).toList == b.toList) = Lib.occAt a.data.toList b.data.toList j := by
  rw [← Lib.piece_eq_occAt a b j hj, beq_toListBytes]
theorem no_occ {a b : ByteArray} {j : Nat} (hj : ¬ j + b.size ≤ a.size) (hl : j ≤ a.size) : Lib.occAt a.data.toList b.data.toList j = false := by
  cases ho : Lib.occAt a.data.toList b.data.toList j with
  | false => rfl
  | true =>
    rcases Lib.occAt_room ho with h | h
    · rw [← Lib.size_eq, ← Lib.size_eq] at h; omega
    · have : b.size = 0 := by rw [Lib.size_eq, h]; rfl
      omega
set_option maxRecDepth 100000 in
set_option maxHeartbeats 1000000 in
theorem refIndex_any (s t : ByteArray) (w : World) (hs : s.size + t.size ≤ 9223372036854775806) : Calls Tryz.prog 90 #[.string s, .string t, .int .i64 0] w fun e w' => e = .returned (.int .i64 (Lib.index s.data.toList t.data.toList)) ∧ w = w' := by
  go_enter Tryz.func90, Tryz.ntmps90
  go_wp2
  go_loop [7] (fun i => ∃ q : Nat, q ≤ s.size + 1 ∧ i = .int .i64 q ∧ Hid (∀ j, j < q → Lib.occAt s.data.toList t.data.toList j = false)) (fun i => s.size + 1 - (intOf i).toNat)
  case atStart => exact ⟨0, by omega, rfl, fun j h => absurd h (by omega)⟩
  case round =>
    obtain ⟨q, hq, rfl, hno⟩ := hrel
    by_cases hlt : q + t.size ≤ s.size
    · have b1 : (0 : Int) ≤ q := by omega
      have b2 : (q : Int) + (t.size : Int) ≤ (s.size : Int) := by omega
      go_wp2
      · rename_i hocc _
        go_ret
        refine ⟨ret_int ?_, rfl⟩
        rw [piece_occ s t q hlt] at hocc
        rw [Lib.index_first (by rw [← Lib.size_eq]; omega) hocc hno.out]
      · rename_i hocc
        rw [piece_occ s t q hlt] at hocc
        refine ⟨⟨q + 1, by omega, by simp, fun j hj => ?_⟩, by simp [intOf]; omega⟩
        by_cases hjq : j < q
        · exact hno.out j hjq
        · have : j = q := by omega
          subst this; exact hocc
    · have b2 : ¬ (q : Int) + (t.size : Int) ≤ (s.size : Int) := by omega
      have b3 : (s.size : Int) < (q : Int) + (t.size : Int) := by omega
      go_wp2
      all_goals
        first
        | (exfalso; omega)
        | (go_ret
           refine ⟨ret_int ?_, rfl⟩
           rw [Lib.index_none]
           intro j hj
           rw [← Lib.size_eq] at hj
           by_cases hjq : j < q
           · exact hno.out j hjq
           · exact no_occ (by omega) hj)
end Go.Proofs.YthmlnffponjikaaGreatDoor
namespace Go.Proofs.YthmlnffponjikaaGreatDoor
open Go.RowKit

def nameC (c : UInt8) : Bool := decide ((97 ≤ c.toNat ∧ c.toNat ≤ 122) ∨ (48 ≤ c.toNat ∧ c.toNat ≤ 57) ∨ c.toNat = 45 ∨ c.toNat = 95)
def isName (s : ByteArray) : Bool := decide (1 ≤ s.size ∧ s.size ≤ 30 ∧ 97 ≤ (s.data.toList.headD 0).toNat ∧ (s.data.toList.headD 0).toNat ≤ 122) && s.data.toList.all nameC
theorem headD_eq (s : ByteArray) (h : 0 < s.size) : s.data.toList.headD 0 = s[0] := by
  have h2 : s.data.toList[0]? = some s[0] := List.getElem?_eq_getElem (by rw [Array.length_toList]; exact h)
  cases hl : s.data.toList with
  | nil => rw [hl] at h2; cases h2
  | cons a r => rw [hl] at h2; simpa using h2
theorem nameC_all (s : ByteArray) (h : ∀ j (hj : j < s.size), nameC s[j] = true) : s.data.toList.all nameC = true := by
  rw [List.all_eq_true]
  intro x hx
  obtain ⟨j, hj, rfl⟩ := List.mem_iff_getElem.1 hx
  exact h j (by rw [Array.length_toList] at hj; exact hj)
theorem nameC_not (s : ByteArray) (j : Nat) (hj : j < s.size) (h : nameC s[j] = false) : s.data.toList.all nameC = false := by
  rw [List.all_eq_false]
  exact ⟨s[j], List.mem_iff_getElem.2 ⟨j, by rw [Array.length_toList]; exact hj, rfl⟩, by rw [h]; decide⟩
theorem isName_short {s : ByteArray} (h : s.size < 1) : isName s = false := by
  unfold isName; rw [decide_eq_false (by omega), Bool.false_and]
theorem isName_long {s : ByteArray} (h : 30 < s.size) : isName s = false := by
  unfold isName; rw [decide_eq_false (by omega), Bool.false_and]
theorem isName_first {s : ByteArray} (h : 0 < s.size) (h1 : (s[0].toNat : Int) < 97 ∨ (122 : Int) < s[0].toNat) : isName s = false := by
  unfold isName; rw [headD_eq s h, decide_eq_false (by omega), Bool.false_and]
theorem isName_bad {s : ByteArray} (j : Nat) (hj : j < s.size) (h : nameC s[j] = false) : isName s = false := by
  unfold isName; rw [nameC_not s j hj h, Bool.and_false]
theorem isName_good {s : ByteArray} (h0 : 0 < s.size) (h30 : s.size ≤ 30) (h1 : (97 : Int) ≤ s[0].toNat) (h2 : (s[0].toNat : Int) ≤ 122) (h : ∀ j (hj : j < s.size), nameC s[j] = true) : isName s = true := by
  unfold isName; rw [nameC_all s h, headD_eq s h0, decide_eq_true (by omega)]; rfl
set_option maxRecDepth 100000 in
set_option maxHeartbeats 2000000 in
theorem refName_any (s : ByteArray) (w : World) (hsz : s.size ≤ 4611686018427387904) : Calls Tryz.prog 48 #[.string s] w fun e w' => e = .returned (.bool (isName s)) ∧ w = w' := by
  by_cases h0 : s.size < 1
  · have HE := Lib.hid (isName_short h0)
    go_enter Tryz.func48, Tryz.ntmps48
    go_wp2
    all_goals first | (exfalso; omega) | (go_ret; exact ⟨ret_bool HE.out.symm, rfl⟩)
  by_cases h30 : 30 < s.size
  · have HE := Lib.hid (isName_long h30)
    have h0' : (1 : Int) ≤ s.size := by omega
    go_enter Tryz.func48, Tryz.ntmps48
    go_wp2
    all_goals first | (exfalso; omega) | (go_ret; exact ⟨ret_bool HE.out.symm, rfl⟩)
  have hp : 0 < s.size := by omega
  have h30' : (s.size : Int) ≤ 30 := by omega
  have h0' : (1 : Int) ≤ s.size := by omega
  by_cases hf : (s[0].toNat : Int) < 97 ∨ (122 : Int) < s[0].toNat
  · have HE := Lib.hid (isName_first hp hf)
    go_enter Tryz.func48, Tryz.ntmps48
    rcases hf with hf | hf
    all_goals
      go_wp2
    all_goals first | (exfalso; omega) | (go_ret; exact ⟨ret_bool HE.out.symm, rfl⟩)
  have hf1 : (97 : Int) ≤ s[0].toNat := by omega
  have hf2 : (s[0].toNat : Int) ≤ 122 := by omega
  clear hf
  have HN : Hid (∀ j (hj : j < s.size), nameC s[j] = false → isName s = false) := Lib.hid fun j hj h => isName_bad j hj h
  have HG : Hid ((∀ j (hj : j < s.size), nameC s[j] = true) → isName s = true) := Lib.hid fun h => isName_good hp (by omega) hf1 hf2 h
  go_enter Tryz.func48, Tryz.ntmps48
  go_wp2
  go_loop [3, 4] (fun i _ => ∃ q : Nat, q ≤ s.size ∧ i = .int .i64 q ∧ Hid (∀ j (hj : j < s.size), j < q → nameC s[j] = true)) (fun i _ => s.size - (intOf i).toNat)
  case atStart => exact ⟨0, by omega, rfl, Lib.hid fun j _ h => absurd h (by omega)⟩
  case round =>
    obtain ⟨q, hq, rfl, hno⟩ := hrel
    clear hf1 hf2
    by_cases hlt : q < s.size
    · have HS : Hid (nameC s[q] = true → ∀ j (hj : j < s.size), j < q + 1 → nameC s[j] = true) := Lib.hid fun h j hj hj2 => by
        by_cases e : j < q
        · exact hno.out j hj e
        · have : j = q := by omega
          subst this; exact h
      have HC : Hid (nameC s[q] = decide ((97 ≤ s[q].toNat ∧ s[q].toNat ≤ 122) ∨ (48 ≤ s[q].toNat ∧ s[q].toNat ≤ 57) ∨ s[q].toNat = 45 ∨ s[q].toNat = 95)) := Lib.hid rfl
      have b1 : (0 : Int) ≤ q := by omega
      have b2 : (q : Int) < (s.size : Int) := by omega
      go_wp2
      all_goals (try simp only [bne_iff_ne, bne_eq_false_iff_eq, ne_eq] at *)
      all_goals
        first
        | (have hn : nameC s[q] = true := by (rw [HC.out]; exact decide_eq_true (by omega))
           exact ⟨⟨q + 1, by omega, by simp, Lib.hid (HS.out hn)⟩, by simp [intOf]; omega⟩)
        | (have hn : nameC s[q] = false := by (rw [HC.out]; exact decide_eq_false (by omega))
           go_ret
           exact ⟨ret_bool (HN.out q hlt hn).symm, rfl⟩)
    · have HE := Lib.hid (HG.out fun j hj => hno.out j hj (by omega))
      have b2 : (s.size : Int) ≤ (q : Int) := by omega
      go_wp2
      all_goals first | (exfalso; omega) | (go_ret; exact ⟨ret_bool HE.out.symm, rfl⟩)
set_option maxRecDepth 100000 in
set_option maxHeartbeats 2000000 in
theorem name_any (s : ByteArray) (w : World) (hsz : s.size ≤ 4611686018427387904) : Calls Tryz.prog 89 #[.string s] w fun e w' => e = .returned (.bool (isName s)) ∧ w = w' := by
  by_cases h0 : s.size < 1
  · have HE := Lib.hid (isName_short h0)
    go_enter Tryz.func89, Tryz.ntmps89
    go_wp2
    all_goals first | (exfalso; omega) | (go_ret; exact ⟨ret_bool HE.out.symm, rfl⟩)
  by_cases h30 : 30 < s.size
  · have HE := Lib.hid (isName_long h30)
    have h0' : (1 : Int) ≤ s.size := by omega
    go_enter Tryz.func89, Tryz.ntmps89
    go_wp2
    all_goals first | (exfalso; omega) | (go_ret; exact ⟨ret_bool HE.out.symm, rfl⟩)
  have hp : 0 < s.size := by omega
  have h30' : (s.size : Int) ≤ 30 := by omega
  have h0' : (1 : Int) ≤ s.size := by omega
  by_cases hf : (s[0].toNat : Int) < 97 ∨ (122 : Int) < s[0].toNat
  · have HE := Lib.hid (isName_first hp hf)
    go_enter Tryz.func89, Tryz.ntmps89
    rcases hf with hf | hf
    all_goals
      go_wp2
    all_goals first | (exfalso; omega) | (go_ret; exact ⟨ret_bool HE.out.symm, rfl⟩)
  have hf1 : (97 : Int) ≤ s[0].toNat := by omega
  have hf2 : (s[0].toNat : Int) ≤ 122 := by omega
  clear hf
  have HN : Hid (∀ j (hj : j < s.size), nameC s[j] = false → isName s = false) := Lib.hid fun j hj h => isName_bad j hj h
  have HG : Hid ((∀ j (hj : j < s.size), nameC s[j] = true) → isName s = true) := Lib.hid fun h => isName_good hp (by omega) hf1 hf2 h
  go_enter Tryz.func89, Tryz.ntmps89
  go_wp2
  go_loop [3, 4, 25] (fun _ _ i => ∃ q : Nat, q ≤ s.size ∧ i = .int .i64 q ∧ Hid (∀ j (hj : j < s.size), j < q → nameC s[j] = true)) (fun _ _ i => s.size - (intOf i).toNat)
  case atStart => exact ⟨0, by omega, rfl, Lib.hid fun j _ h => absurd h (by omega)⟩
  case round =>
    obtain ⟨q, hq, rfl, hno⟩ := hrel
    clear hf1 hf2
    by_cases hlt : q < s.size
    · have HS : Hid (nameC s[q] = true → ∀ j (hj : j < s.size), j < q + 1 → nameC s[j] = true) := Lib.hid fun h j hj hj2 => by
        by_cases e : j < q
        · exact hno.out j hj e
        · have : j = q := by omega
          subst this; exact h
      have HC : Hid (nameC s[q] = decide ((97 ≤ s[q].toNat ∧ s[q].toNat ≤ 122) ∨ (48 ≤ s[q].toNat ∧ s[q].toNat ≤ 57) ∨ s[q].toNat = 45 ∨ s[q].toNat = 95)) := Lib.hid rfl
      have b1 : (0 : Int) ≤ q := by omega
      have b2 : (q : Int) < (s.size : Int) := by omega
      go_wp2
      all_goals (try simp only [bne_iff_ne, bne_eq_false_iff_eq, ne_eq] at *)
      all_goals
        first
        | (have hn : nameC s[q] = true := by (rw [HC.out]; exact decide_eq_true (by omega))
           exact ⟨⟨q + 1, by omega, by simp, Lib.hid (HS.out hn)⟩, by simp [intOf]; omega⟩)
        | (have hn : nameC s[q] = false := by (rw [HC.out]; exact decide_eq_false (by omega))
           go_ret
           exact ⟨ret_bool (HN.out q hlt hn).symm, rfl⟩)
    · have HE := Lib.hid (HG.out fun j hj => hno.out j hj (by omega))
      have b2 : (s.size : Int) ≤ (q : Int) := by omega
      go_wp2
      all_goals first | (exfalso; omega) | (go_ret; exact ⟨ret_bool HE.out.symm, rfl⟩)
end Go.Proofs.YthmlnffponjikaaGreatDoor
namespace Go.Proofs.YthmlnffponjikaaGreatDoor
open Go.RowKit

theorem refLower_u8 (c : UInt8) (w : World) : Calls Tryz.prog 215 #[.int .u8 c.toNat] w fun e w' => e = .returned (.int .u8 ((lowB c).toNat : Int)) ∧ w = w' := by
  refine (refLower_any _ (u8_lt c).1 (u8_lt c).2 w).mono ?_
  rintro e w' ⟨rfl, rfl⟩
  exact ⟨by rw [lowI_lowB], rfl⟩
def sameL (a b : ByteArray) : Bool := decide (foldL a.data.toList = foldL b.data.toList)
theorem foldL_length (l : List UInt8) : (foldL l).length = l.length := by simp [foldL]
theorem sameL_size {a b : ByteArray} (h : a.size ≠ b.size) : sameL a b = false := by
  unfold sameL
  refine decide_eq_false fun e => h ?_
  have := congrArg List.length e
  rw [foldL_length, foldL_length, Array.length_toList, Array.length_toList] at this
  exact this
theorem sameL_no {a b : ByteArray} (j : Nat) (ha : j < a.size) (hb : j < b.size) (h : lowB a[j] ≠ lowB b[j]) : sameL a b = false := by
  unfold sameL
  refine decide_eq_false fun e => h ?_
  have := congrArg (·[j]?) e
  simp only [foldL, List.getElem?_map] at this
  rw [show a.data.toList[j]? = some a[j] from List.getElem?_eq_getElem (by rw [Array.length_toList]; exact ha), show b.data.toList[j]? = some b[j] from List.getElem?_eq_getElem (by rw [Array.length_toList]; exact hb)] at this
  simpa using this
theorem sameL_yes {a b : ByteArray} (hs : a.size = b.size) (h : ∀ j (ha : j < a.size) (hb : j < b.size), lowB a[j] = lowB b[j]) : sameL a b = true := by
  unfold sameL
  refine decide_eq_true (List.ext_getElem ?_ fun j h1 h2 => ?_)
  · rw [foldL_length, foldL_length, Array.length_toList, Array.length_toList]; exact hs
  · rw [foldL_length, Array.length_toList] at h1 h2
    simp only [foldL, List.getElem_map]
    exact h j h1 h2
theorem lowB_ne {c d : UInt8} (h : ¬ ((lowB c).toNat : Int) = (lowB d).toNat) : lowB c ≠ lowB d := fun e => h (by rw [e])
theorem lowB_eq {c d : UInt8} (h : ((lowB c).toNat : Int) = (lowB d).toNat) : lowB c = lowB d := UInt8.toNat_inj.1 (by omega)
set_option maxRecDepth 100000 in
set_option maxHeartbeats 2000000 in
theorem refSameLetters_any (a b : ByteArray) (w : World) (hsz : a.size ≤ 4611686018427387904) : Calls Tryz.prog 142 #[.string a, .string b] w fun e w' => e = .returned (.bool (sameL a b)) ∧ Below w.heap.size w w' := by
  by_cases hl : a.size = b.size
  case neg =>
    have HE := Lib.hid (sameL_size hl)
    have h1 : ¬ (a.size : Int) = b.size := by omega
    go_enter Tryz.func142, Tryz.ntmps142
    go_wp2
    all_goals first | (exfalso; omega) | (go_ret; exact ⟨ret_bool HE.out.symm, Below.refl _ _⟩)
  have HN : Hid (∀ j (ha : j < a.size) (hb : j < b.size), ¬ ((lowB a[j]).toNat : Int) = (lowB b[j]).toNat → sameL a b = false) := Lib.hid fun j ha hb h => sameL_no j ha hb (lowB_ne h)
  have HG : Hid ((∀ j (ha : j < a.size) (hb : j < b.size), ((lowB a[j]).toNat : Int) = (lowB b[j]).toNat) → sameL a b = true) := Lib.hid fun h => sameL_yes hl fun j ha hb => lowB_eq (h j ha hb)
  have HL := Lib.hid hl
  have hl1 : (a.size : Int) = b.size := by omega
  clear hl
  go_enter Tryz.func142, Tryz.ntmps142
  go_wp2_with fail
  clear hl1
  go_loopw [5] (fun i wr => ∃ q : Nat, q ≤ a.size ∧ i = .int .i64 q ∧ Below w.heap.size w wr ∧ Hid (∀ j (ha : j < a.size) (hb : j < b.size), j < q → ((lowB a[j]).toNat : Int) = (lowB b[j]).toNat)) (fun i _ => a.size - (intOf i).toNat)
  case atStart => exact ⟨0, by omega, rfl, Below.refl _ _, Lib.hid fun j _ _ h => absurd h (by omega)⟩
  case round =>
    obtain ⟨q, hq, rfl, hbw, hno⟩ := hrel
    have HQ := Lib.hid hbw
    clear hbw
    by_cases hlt : q < a.size
    · have hlb : q < b.size := by rw [← HL.out]; exact hlt
      have HS : Hid (((lowB a[q]).toNat : Int) = (lowB b[q]).toNat → ∀ j (ha : j < a.size) (hb : j < b.size), j < q + 1 → ((lowB a[j]).toNat : Int) = (lowB b[j]).toNat) := Lib.hid fun h j hj hb hj2 => by
        by_cases e : j < q
        · exact hno.out j hj hb e
        · have : j = q := by omega
          subst this; exact h
      have HN2 := Lib.hid (HN.out q hlt hlb)
      have b1 : (0 : Int) ≤ q := by omega
      have b2 : (q : Int) < (a.size : Int) := by omega
      have b3 : (q : Int) < (b.size : Int) := by omega
      go_wp2_with fail
      go_quiet ((go_at_call 215; exact Calls.quiet_of_same ((refLower_u8 _ _).mono (fun e w' h => ⟨h.1, h.2.symm⟩))))
      go_wp2
      all_goals (try simp only [bne_iff_ne, bne_eq_false_iff_eq, ne_eq] at *)
      · rename_i h
        go_ret
        exact ⟨ret_bool (HN2.out h).symm, Below.dn HQ.out _⟩
      · rename_i h
        exact ⟨⟨q + 1, by omega, by simp, Below.dn HQ.out _, Lib.hid (HS.out h)⟩, by simp [intOf]; omega⟩
    · have HE := Lib.hid (HG.out fun j hj hb => hno.out j hj hb (by omega))
      have b2 : (a.size : Int) ≤ (q : Int) := by omega
      go_wp2
      all_goals first | (exfalso; omega) | (go_ret; exact ⟨ret_bool HE.out.symm, HQ.out⟩)
def spaceS (z : Int) : ByteArray := if z = 1 then ⟨#[84, 97, 108, 107]⟩ else if z = 2 then ⟨#[85, 115, 101, 114]⟩ else if z = 3 then ⟨#[84, 101, 109, 112, 108, 97, 116, 101]⟩ else if z = 4 then ⟨#[67, 97, 116, 101, 103, 111, 114, 121]⟩ else if z = 5 then ⟨#[80, 114, 111, 106, 101, 99, 116]⟩ else ⟨#[]⟩
set_option maxRecDepth 100000 in
set_option maxHeartbeats 2000000 in
theorem refSpaceName_any (z : Int) (w : World) : Calls Tryz.prog 143 #[.int .i64 z] w fun e w' => e = .returned (.string (spaceS z)) ∧ Below w.heap.size w w' := by
  have hz : z < 0 ∨ 6 ≤ z ∨ z = 0 ∨ z = 1 ∨ z = 2 ∨ z = 3 ∨ z = 4 ∨ z = 5 := by omega
  have HE : Hid (z < 0 ∨ 6 ≤ z → spaceS z = ⟨#[]⟩) := Lib.hid fun h => by
    unfold spaceS
    rw [if_neg (by omega), if_neg (by omega), if_neg (by omega), if_neg (by omega), if_neg (by omega)]
  by_cases hin : 0 ≤ z ∧ z < 6
  · obtain ⟨h0, h6⟩ := hin
    obtain rfl | rfl | rfl | rfl | rfl | rfl : z = 0 ∨ z = 1 ∨ z = 2 ∨ z = 3 ∨ z = 4 ∨ z = 5 := by omega
    all_goals
      go_enter Tryz.func143, Tryz.ntmps143
      go_wp2
      go_ret
      exact ⟨rfl, Below.al (Below.refl _ _) _⟩
  · have HE2 := Lib.hid (HE.out (by omega))
    have hz2 : z < 0 ∨ 6 ≤ z := by omega
    clear hz hin HE
    go_enter Tryz.func143, Tryz.ntmps143
    rcases hz2 with hz2 | hz2
    all_goals
      go_wp2
    all_goals
      first
      | (exfalso; omega)
      | (go_ret
         exact ⟨by rw [HE2.out]; rfl, Below.al (Below.refl _ _) _⟩)
theorem spaceS_fold (z : Int) (h1 : 1 ≤ z) (h2 : z < 6) : foldL (spaceS z).data.toList = spaceName z.toNat := by
  obtain rfl | rfl | rfl | rfl | rfl : z = 1 ∨ z = 2 ∨ z = 3 ∨ z = 4 ∨ z = 5 := by omega
  all_goals decide
/-- A text without the blank at its end. -/
def trimB (p : ByteArray) : ByteArray := if h : 0 < p.size then (if (p[p.size - 1]'(by omega)).toNat = 32 then p.extract 0 (p.size - 1) else p) else p
theorem trimB_cut (s : ByteArray) (k : Nat) {h0 : min k s.size - 1 < (s.extract 0 k).size} (h : (((s.extract 0 k)[min k s.size - 1]'h0).toNat : Int) = 32) : trimB (s.extract 0 k) = (s.extract 0 k).extract 0 (min k s.size - 1) := by
  have hsz : (s.extract 0 k).size = min k s.size := by simp [ByteArray.size_extract]
  unfold trimB
  rw [dif_pos (by omega), if_pos (by simp only [hsz]; omega), hsz]
theorem trimB_keep (s : ByteArray) (k : Nat) {h0 : min k s.size - 1 < (s.extract 0 k).size} (h : ¬ (((s.extract 0 k)[min k s.size - 1]'h0).toNat : Int) = 32) : trimB (s.extract 0 k) = s.extract 0 k := by
  have hsz : (s.extract 0 k).size = min k s.size := by simp [ByteArray.size_extract]
  unfold trimB
  rw [dif_pos (by omega), if_neg (by simp only [hsz]; omega)]
theorem trimB_none (s : ByteArray) (k : Nat) (h : ¬ 0 < min k s.size) : trimB (s.extract 0 k) = s.extract 0 k := by
  have hsz : (s.extract 0 k).size = min k s.size := by simp [ByteArray.size_extract]
  unfold trimB
  rw [dif_neg (by omega)]
def refPre (s : ByteArray) : Int × Int :=
  if Lib.index s.data.toList [58] < 0 then (0, 0) else if spaceOf (foldL (trimB (s.extract 0 (Lib.index s.data.toList [58]).toNat)).data.toList) = 0 then (0, 0) else (spaceOf (foldL (trimB (s.extract 0 (Lib.index s.data.toList [58]).toNat)).data.toList), Lib.index s.data.toList [58])
theorem index_lt' : ∀ {s : List UInt8} {c : UInt8}, 0 ≤ Lib.index s [c] → Lib.index s [c] < s.length := by
  intro s
  induction s with
  | nil => intro c h; exact absurd h (by simp [Lib.index])
  | cons a r ih =>
    intro c h
    by_cases h1 : List.isPrefixOf [c] (a :: r) = true
    · simp only [Lib.index, h1, if_true]; simp
    · simp only [Lib.index, h1] at h ⊢
      by_cases h2 : (Lib.index r [c] == -1) = true
      · simp [h2] at h
      · simp only [h2] at h ⊢
        have hge : 0 ≤ Lib.index r [c] := by
          have h3 : Lib.index r [c] ≠ -1 := fun e => h2 (by rw [e]; rfl)
          simp at h
          omega
        have := ih hge
        simp
        omega
theorem index_lt {s : ByteArray} {c : UInt8} (h : 0 ≤ Lib.index s.data.toList [c]) : Lib.index s.data.toList [c] < s.size := by
  have := index_lt' h
  rw [Array.length_toList] at this
  exact this
set_option maxRecDepth 100000 in
set_option maxHeartbeats 2000000 in
theorem refPrefixed_any (s : ByteArray) (w : World) (hs : s.size ≤ 4611686018427387904) : Calls Tryz.prog 92 #[.string s] w fun e w' => e = .returned (.tuple #[.int .i64 (refPre s).1, .int .i64 (refPre s).2]) ∧ Below w.heap.size w w' := by
  have HR : Hid (refPre s = if Lib.index s.data.toList [58] < 0 then (0, 0) else if spaceOf (foldL (trimB (s.extract 0 (Lib.index s.data.toList [58]).toNat)).data.toList) = 0 then (0, 0) else (spaceOf (foldL (trimB (s.extract 0 (Lib.index s.data.toList [58]).toNat)).data.toList), Lib.index s.data.toList [58])) := Lib.hid rfl
  have HI : Hid (0 ≤ Lib.index s.data.toList [58] → Lib.index s.data.toList [58] < s.size) := Lib.hid index_lt
  generalize refPre s = R at *
  go_enter Tryz.func92, Tryz.ntmps92
  go_wp2_with fail
  refine (refIndex_any s ⟨#[58]⟩ _ (by show s.size + 1 ≤ _; omega)).mono ?_
  rintro e w1 ⟨rfl, rfl⟩
  rw [show (⟨#[58]⟩ : ByteArray).data.toList = [58] from rfl]
  generalize Lib.index s.data.toList [58] = at0 at *
  by_cases h0 : at0 < 0
  · obtain rfl := HR.out.trans (if_pos h0)
    go_wp2
    all_goals first | (exfalso; omega) | (exact bodyPost_ret (v := .tuple #[.int .i64 0, .int .i64 0]) (by simp [results, Tryz.results92, go_sem]) rfl ⟨rfl, Below.refl _ _⟩)
  obtain ⟨k, rfl⟩ : ∃ k : Nat, at0 = k := ⟨at0.toNat, by omega⟩
  have hk := HI.out (by omega)
  have HR2 := Lib.hid (HR.out.trans (if_neg h0))
  clear HR HI h0
  simp only [Int.toNat_natCast] at HR2
  have b1 : (0 : Int) ≤ k := by omega
  by_cases hp : 0 < min k s.size
  case neg =>
    rw [trimB_none s k (by omega)] at HR2
    go_wp2_with fail
    have hNs : Hid ((s.extract 0 k).size ≤ 4611686018427387904) := Lib.hid (by simp only [ByteArray.size_extract]; omega)
    clear hs
    go_loopw [6] (fun i wr => ∃ z : Int, 1 ≤ z ∧ z ≤ 6 ∧ i = .int .i64 z ∧ Below w.heap.size w wr ∧ Hid (∀ j : Nat, 1 ≤ j → (j : Int) < z → foldL (s.extract 0 k).data.toList ≠ spaceName j)) (fun i _ => 6 - (intOf i).toNat)
    case atStart => exact ⟨1, by omega, by omega, rfl, Below.refl _ _, fun j _ h => absurd h (by omega)⟩
    case round =>
      obtain ⟨z, hz0, hz6, rfl, hbw, hno⟩ := hrel
      have HQ := Lib.hid hbw
      clear hbw
      by_cases h6 : z = 6
      · subst h6
        have hz : spaceOf (foldL (s.extract 0 k).data.toList) = 0 := spaceOf_none _ fun j h1 h2 => hno.out j h1 (by omega)
        obtain rfl := HR2.out.trans (if_pos hz)
        clear hz
        go_wp2
        exact bodyPost_ret (v := .tuple #[.int .i64 0, .int .i64 0]) (by simp [results, Tryz.results92, go_sem]) rfl ⟨rfl, HQ.out⟩
      · have hz7 : z < 6 := by omega
        have HF := Lib.hid (spaceS_fold z hz0 hz7)
        go_wp2_with fail
        refine (refSpaceName_any z _).mono ?_
        rintro e w5 ⟨rfl, hb5⟩
        go_wp2_with fail
        refine (refSameLetters_any _ _ _ hNs.out).mono ?_
        rintro e w6 ⟨rfl, hb6⟩
        have HB6 := Lib.hid (Below.tr HQ.out (Below.tr hb5 hb6))
        clear hb5 hb6
        by_cases hsame : sameL (s.extract 0 k) (spaceS z) = true
        · have hfl : foldL (s.extract 0 k).data.toList = spaceName z.toNat := (of_decide_eq_true hsame).trans HF.out
          have hz : spaceOf (foldL (s.extract 0 k).data.toList) = z := by rw [hfl, spaceOf_some z.toNat (by omega) (by omega)]; omega
          have hR := HR2.out.trans (if_neg (by rw [hz]; omega))
          rw [hz] at hR
          obtain rfl := hR
          rw [hsame]
          clear hz hfl
          go_wp2
          exact bodyPost_ret (v := .tuple #[.int .i64 z, .int .i64 k]) (by simp [results, Tryz.results92, go_sem]) rfl ⟨rfl, HB6.out⟩
        · have hsame : sameL (s.extract 0 k) (spaceS z) = false := by simpa using hsame
          have hfl : foldL (s.extract 0 k).data.toList ≠ spaceName z.toNat := fun e => of_decide_eq_false hsame (e.trans HF.out.symm)
          have HN := Lib.hid hfl
          rw [hsame]
          clear hfl
          go_wp2
          go_roundw
          case rel =>
            refine ⟨z + 1, by omega, by omega, rfl, HB6.out, fun j h1 h2 => ?_⟩
            by_cases e : (j : Int) < z
            · exact hno.out j h1 e
            · have : j = z.toNat := by omega
              subst this; exact HN.out
          case measure => simp [intOf]; omega
  have hq : min k s.size - 1 < (s.extract 0 k).size := by simp only [ByteArray.size_extract]; omega
  have b3 : (1 : Int) ≤ (min k s.size : Nat) := by omega
  by_cases h : (((s.extract 0 k)[min k s.size - 1]'hq).toNat : Int) = 32
  · rw [trimB_cut s k h] at HR2
    go_wp2_with fail
    clear h b3 hp
    have hNs : Hid (((s.extract 0 k).extract 0 (min k s.size - 1)).size ≤ 4611686018427387904) := Lib.hid (by simp only [ByteArray.size_extract]; omega)
    clear hs
    go_loopw [6] (fun i wr => ∃ z : Int, 1 ≤ z ∧ z ≤ 6 ∧ i = .int .i64 z ∧ Below w.heap.size w wr ∧ Hid (∀ j : Nat, 1 ≤ j → (j : Int) < z → foldL ((s.extract 0 k).extract 0 (min k s.size - 1)).data.toList ≠ spaceName j)) (fun i _ => 6 - (intOf i).toNat)
    case atStart => exact ⟨1, by omega, by omega, rfl, Below.refl _ _, fun j _ h => absurd h (by omega)⟩
    case round =>
      obtain ⟨z, hz0, hz6, rfl, hbw, hno⟩ := hrel
      have HQ := Lib.hid hbw
      clear hbw
      by_cases h6 : z = 6
      · subst h6
        have hz : spaceOf (foldL ((s.extract 0 k).extract 0 (min k s.size - 1)).data.toList) = 0 := spaceOf_none _ fun j h1 h2 => hno.out j h1 (by omega)
        obtain rfl := HR2.out.trans (if_pos hz)
        clear hz
        go_wp2
        exact bodyPost_ret (v := .tuple #[.int .i64 0, .int .i64 0]) (by simp [results, Tryz.results92, go_sem]) rfl ⟨rfl, HQ.out⟩
      · have hz7 : z < 6 := by omega
        have HF := Lib.hid (spaceS_fold z hz0 hz7)
        go_wp2_with fail
        refine (refSpaceName_any z _).mono ?_
        rintro e w5 ⟨rfl, hb5⟩
        go_wp2_with fail
        refine (refSameLetters_any _ _ _ hNs.out).mono ?_
        rintro e w6 ⟨rfl, hb6⟩
        have HB6 := Lib.hid (Below.tr HQ.out (Below.tr hb5 hb6))
        clear hb5 hb6
        by_cases hsame : sameL ((s.extract 0 k).extract 0 (min k s.size - 1)) (spaceS z) = true
        · have hfl : foldL ((s.extract 0 k).extract 0 (min k s.size - 1)).data.toList = spaceName z.toNat := (of_decide_eq_true hsame).trans HF.out
          have hz : spaceOf (foldL ((s.extract 0 k).extract 0 (min k s.size - 1)).data.toList) = z := by rw [hfl, spaceOf_some z.toNat (by omega) (by omega)]; omega
          have hR := HR2.out.trans (if_neg (by rw [hz]; omega))
          rw [hz] at hR
          obtain rfl := hR
          rw [hsame]
          clear hz hfl
          go_wp2
          exact bodyPost_ret (v := .tuple #[.int .i64 z, .int .i64 k]) (by simp [results, Tryz.results92, go_sem]) rfl ⟨rfl, HB6.out⟩
        · have hsame : sameL ((s.extract 0 k).extract 0 (min k s.size - 1)) (spaceS z) = false := by simpa using hsame
          have hfl : foldL ((s.extract 0 k).extract 0 (min k s.size - 1)).data.toList ≠ spaceName z.toNat := fun e => of_decide_eq_false hsame (e.trans HF.out.symm)
          have HN := Lib.hid hfl
          rw [hsame]
          clear hfl
          go_wp2
          go_roundw
          case rel =>
            refine ⟨z + 1, by omega, by omega, rfl, HB6.out, fun j h1 h2 => ?_⟩
            by_cases e : (j : Int) < z
            · exact hno.out j h1 e
            · have : j = z.toNat := by omega
              subst this; exact HN.out
          case measure => simp [intOf]; omega
  · rw [trimB_keep s k h] at HR2
    have h2 : ((((s.extract 0 k)[min k s.size - 1]'hq).toNat : Int) == 32) = false := beq_eq_false_iff_ne.2 h
    clear h
    go_wp2_with fail
    clear h2 hp
    have hNs : Hid ((s.extract 0 k).size ≤ 4611686018427387904) := Lib.hid (by simp only [ByteArray.size_extract]; omega)
    clear hs
    go_loopw [6] (fun i wr => ∃ z : Int, 1 ≤ z ∧ z ≤ 6 ∧ i = .int .i64 z ∧ Below w.heap.size w wr ∧ Hid (∀ j : Nat, 1 ≤ j → (j : Int) < z → foldL (s.extract 0 k).data.toList ≠ spaceName j)) (fun i _ => 6 - (intOf i).toNat)
    case atStart => exact ⟨1, by omega, by omega, rfl, Below.refl _ _, fun j _ h => absurd h (by omega)⟩
    case round =>
      obtain ⟨z, hz0, hz6, rfl, hbw, hno⟩ := hrel
      have HQ := Lib.hid hbw
      clear hbw
      by_cases h6 : z = 6
      · subst h6
        have hz : spaceOf (foldL (s.extract 0 k).data.toList) = 0 := spaceOf_none _ fun j h1 h2 => hno.out j h1 (by omega)
        obtain rfl := HR2.out.trans (if_pos hz)
        clear hz
        go_wp2
        exact bodyPost_ret (v := .tuple #[.int .i64 0, .int .i64 0]) (by simp [results, Tryz.results92, go_sem]) rfl ⟨rfl, HQ.out⟩
      · have hz7 : z < 6 := by omega
        have HF := Lib.hid (spaceS_fold z hz0 hz7)
        go_wp2_with fail
        refine (refSpaceName_any z _).mono ?_
        rintro e w5 ⟨rfl, hb5⟩
        go_wp2_with fail
        refine (refSameLetters_any _ _ _ hNs.out).mono ?_
        rintro e w6 ⟨rfl, hb6⟩
        have HB6 := Lib.hid (Below.tr HQ.out (Below.tr hb5 hb6))
        clear hb5 hb6
        by_cases hsame : sameL (s.extract 0 k) (spaceS z) = true
        · have hfl : foldL (s.extract 0 k).data.toList = spaceName z.toNat := (of_decide_eq_true hsame).trans HF.out
          have hz : spaceOf (foldL (s.extract 0 k).data.toList) = z := by rw [hfl, spaceOf_some z.toNat (by omega) (by omega)]; omega
          have hR := HR2.out.trans (if_neg (by rw [hz]; omega))
          rw [hz] at hR
          obtain rfl := hR
          rw [hsame]
          clear hz hfl
          go_wp2
          exact bodyPost_ret (v := .tuple #[.int .i64 z, .int .i64 k]) (by simp [results, Tryz.results92, go_sem]) rfl ⟨rfl, HB6.out⟩
        · have hsame : sameL (s.extract 0 k) (spaceS z) = false := by simpa using hsame
          have hfl : foldL (s.extract 0 k).data.toList ≠ spaceName z.toNat := fun e => of_decide_eq_false hsame (e.trans HF.out.symm)
          have HN := Lib.hid hfl
          rw [hsame]
          clear hfl
          go_wp2
          go_roundw
          case rel =>
            refine ⟨z + 1, by omega, by omega, rfl, HB6.out, fun j h1 h2 => ?_⟩
            by_cases e : (j : Int) < z
            · exact hno.out j h1 e
            · have : j = z.toNat := by omega
              subst this; exact HN.out
          case measure => simp [intOf]; omega
end Go.Proofs.YthmlnffponjikaaGreatDoor
namespace Go.Proofs.YthmlnffponjikaaGreatDoor
open Go.RowKit

theorem flatten_strs : ∀ (css : List (List Value)) (xs : List ByteArray), css.length = xs.length → (∀ (i : Nat) (x : ByteArray) (cs : List Value), xs[i]? = some x → css[i]? = some cs → cs = [.string x]) → css.flatten = xs.map Value.string
  | [], [], _, _ => rfl
  | [], _ :: _, h, _ => by simp at h
  | _ :: _, [], h, _ => by simp at h
  | c :: css, x :: xs, h, hR => by
    have h0 := hR 0 x c rfl rfl
    subst h0
    rw [List.flatten_cons, flatten_strs css xs (by simpa using h) (fun i y cs hy hcs => hR (i + 1) y cs (by simpa using hy) (by simpa using hcs))]
    rfl
theorem OwnL.row {w : World} {B : Nat} {E : TypeId} {v : Value} {xs : List ByteArray} (h : OwnL w B E v xs) : w.ownsRow B E 1 v xs.length (xs.map Value.string) := by
  obtain ⟨css, hl, hr, hR⟩ := h
  rw [flatten_strs css xs hl (fun i x cs hx hcs => hR i x cs hx hcs)] at hr
  exact hr
theorem OwnL.of_row {w : World} {B : Nat} {E : TypeId} {v : Value} {xs : List ByteArray} (h : w.ownsRow B E 1 v xs.length (xs.map Value.string)) : OwnL w B E v xs := by
  refine ⟨xs.map (fun x => [.string x]), by simp, ?_, fun i x cs hx hcs => ?_⟩
  · rw [flatten_strs _ xs (by simp) (fun i x cs hx hcs => by rw [List.getElem?_map, hx] at hcs; simpa using hcs.symm)]
    exact h
  · rw [List.getElem?_map, hx] at hcs
    show cs = [.string x]
    simpa using hcs.symm
theorem OwnL.cellS {w : World} {B : Nat} {E : TypeId} {g n c : Nat} {xs : List ByteArray} (h : OwnL w B E (.slice (some ⟨g, 0, none⟩) n c) xs) (hn : n = xs.length) {i : Nat} {x : ByteArray} (hx : xs[i]? = some x) : w.cell? ⟨g, i, none⟩ = some (.string x) := by
  subst hn
  have hi := (List.getElem?_eq_some_iff.1 hx).1
  rw [h.row.cellAt i (by omega), List.getElem?_map, hx]
  rfl
theorem OwnL.frozenS {w : World} {B : Nat} {E : TypeId} {g n c : Nat} {xs : List ByteArray} (h : OwnL w B E (.slice (some ⟨g, 0, none⟩) n c) xs) (hn : n = xs.length) (i : Nat) : w.frozen? ⟨g, i, none⟩ = false := by
  subst hn
  exact h.row.frozenAt i
theorem OwnL.setS {w : World} {B : Nat} {E : TypeId} {g n c : Nat} {xs : List ByteArray} (h : OwnL w B E (.slice (some ⟨g, 0, none⟩) n c) xs) (hn : n = xs.length) (i : Nat) (y : ByteArray) : OwnL (w.setCell ⟨g, i, none⟩ (.string y)) B E (.slice (some ⟨g, 0, none⟩) n c) (xs.set i y) := by
  subst hn
  have := (h.row.stored i (.string y)).1
  refine OwnL.of_row ?_
  rw [List.length_set, List.map_set]
  exact this
end Go.Proofs.YthmlnffponjikaaGreatDoor
namespace Go.Proofs.YthmlnffponjikaaGreatDoor
open Go.RowKit

def partStep (l : List ByteArray) (c : UInt8) : List ByteArray := if c.toNat = 47 then l ++ [⟨#[]⟩] else l.set (l.length - 1) (l[l.length - 1]?.getD ⟨#[]⟩ ++ ⟨#[c]⟩)
def partsL (s : List UInt8) : List ByteArray := s.foldl partStep [⟨#[]⟩]
theorem okS : ElemOK Tryz.prog 28 9 (Enc.k ByteArray) 16 := elemOK Tryz.underlying28 (by kernel_rfl)
theorem SlR_len {α : Type} [Enc α] {w : World} {A : Option Addr} {n c : Nat} {xs : List α} (h : SlR w A n c xs) : n = xs.length := h.1
theorem partStep_len (l : List ByteArray) (c : UInt8) : l.length ≤ (partStep l c).length ∧ (partStep l c).length ≤ l.length + 1 := by
  unfold partStep
  split
  · simp
  · simp
theorem partsL_take (s : ByteArray) (q : Nat) (h : q < s.size) : partsL (s.data.toList.take (q + 1)) = partStep (partsL (s.data.toList.take q)) s[q] := by
  have h2 : s.data.toList[q]? = some s[q] := List.getElem?_eq_getElem (by rw [Array.length_toList]; exact h)
  unfold partsL
  rw [List.take_add_one, h2, List.foldl_append]
  rfl
theorem partsL_len : ∀ (s : List UInt8) (l : List ByteArray), l.length ≤ (s.foldl partStep l).length ∧ (s.foldl partStep l).length ≤ l.length + s.length
  | [], l => by simp
  | c :: r, l => by
    have h1 := partStep_len l c
    have h2 := partsL_len r (partStep l c)
    rw [List.foldl_cons, List.length_cons]
    omega
theorem partStep_size {l : List ByteArray} {c : UInt8} {q : Nat} (h : ∀ p ∈ l, p.size ≤ q) : ∀ p ∈ partStep l c, p.size ≤ q + 1 := by
  intro p hp
  unfold partStep at hp
  split at hp
  · rcases List.mem_append.1 hp with hp | hp
    · have := h p hp; omega
    · rw [List.mem_singleton.1 hp]; exact Nat.zero_le _
  · rcases List.mem_or_eq_of_mem_set hp with hp | hp
    · have := h p hp; omega
    · rw [hp, ByteArray.size_append]
      have : (⟨#[c]⟩ : ByteArray).size = 1 := rfl
      cases hx : l[l.length - 1]? with
      | none => simp only [Option.getD_none]; rw [this]; have : (⟨#[]⟩ : ByteArray).size = 0 := rfl; omega
      | some x => have := h x (List.mem_of_getElem? hx); simp only [Option.getD_some]; omega
theorem ex_one (s : ByteArray) (q : Nat) (h : q < s.size) : s.extract q (q + 1) = ⟨#[s[q]]⟩ := by
  have h2 : s.data.toList[q]? = some s[q] := List.getElem?_eq_getElem (by rw [Array.length_toList]; exact h)
  refine toList_inj ?_
  rw [Lib.extract_toList, ByteArray.toList_eq]
  show _ = [s[q]]
  rw [Nat.add_sub_cancel_left, List.take_one, List.head?_drop, h2]
  rfl
set_option maxRecDepth 100000 in
set_option maxHeartbeats 2000000 in
theorem refParts_any (s : ByteArray) (w : World) (hs : s.size ≤ 1099511627776) : Calls Tryz.prog 91 #[.string s] w fun e w' => ∃ v, e = .returned v ∧ OwnL w' w.heap.size 9 v (partsL s.data.toList) ∧ Below w.heap.size w w' := by
  go_enter Tryz.func91, Tryz.ntmps91
  go_wp2_with fail
  have hO : OwnL (w.alloc (Obj.cells #[Value.string { data := #[] }] 9)) w.heap.size 9 (.slice (some ⟨w.heap.size, 0, none⟩) 1 1) [(⟨#[]⟩ : ByteArray)] :=
    OwnL.built [[.string ⟨#[]⟩]] _ (Nat.le_refl _) rfl rfl (by decide) (fun i x cs hx hcs => by
      rcases i with _ | i
      · simp at hx hcs; subst hx; subst hcs; exact rfl
      · simp at hx) rfl
  have HO := Lib.hid hO
  clear hO
  go_loopw [3, 4] (fun l i wr => ∃ q g n c : Nat, q ≤ s.size ∧ i = .int .i64 q ∧ l = .slice (some ⟨g, 0, none⟩) n c ∧ n = (partsL (s.data.toList.take q)).length ∧ 1 ≤ n ∧ n ≤ q + 1 ∧ Hid (∀ p ∈ partsL (s.data.toList.take q), p.size ≤ q) ∧ Below w.heap.size w wr ∧ OwnL wr w.heap.size 9 (.slice (some ⟨g, 0, none⟩) n c) (partsL (s.data.toList.take q))) (fun _ i _ => s.size - (intOf i).toNat)
  case atStart => exact ⟨0, w.heap.size, 1, 1, by omega, rfl, rfl, rfl, by omega, by omega, Lib.hid (fun p hp => by rw [List.mem_singleton.1 hp]; exact Nat.zero_le _), Below.al (Below.refl _ _) _, HO.out⟩
  case round =>
    obtain ⟨q, g, n, c, hq, rfl, rfl, hn, h1, h2, HSZ, hbw, hown⟩ := hrel
    have HN := Lib.hid hn
    have HQ := Lib.hid hbw
    have HW := Lib.hid hown
    clear hn hbw hown HO
    by_cases hlt : q < s.size
    · have b1 : (0 : Int) ≤ q := by omega
      have b2 : (q : Int) < (s.size : Int) := by omega
      have HP := Lib.hid (partsL_take s q hlt)
      generalize partsL (s.data.toList.take q) = L at *
      by_cases h47 : (s[q].toNat : Int) = 47
      · have hl := HW.out
        have b3 : n + 1 ≤ maxLen := by unfold maxLen; omega
        have b4 : (n + 1) * 16 ≤ 140737488355328 := by omega
        have B3 : Hid (L.length + 1 ≤ maxLen) := Lib.hid (by rw [← HN.out]; exact b3)
        have B4 : Hid ((L.length + 1) * 16 ≤ 140737488355328) := Lib.hid (by rw [← HN.out]; exact b4)
        have hg : w.heap.size ≤ wr.heap.size := HQ.out.size
        clear hl b3 b4
        go_wp2_with (at_builtin; go_must (refine wpList_append_L rfl _ _ 28 rfl okS (by decide) (B := w.heap.size) (v := .slice (some ⟨g, 0, none⟩) n c) (xs := L) rfl (HW.out.keep (Below.al (Below.refl _ _) _)) (ys := [(⟨#[]⟩ : ByteArray)]) rfl (SlR.made (fun x : ByteArray => [.string x]) (fun _ _ _ => rfl) _ _ (by simp) rfl (by simp) rfl) (fun _ _ _ h => h) B3.out B4.out (by simp; omega) ?_); intro v' w' hown hg2 hv')
        obtain ⟨A, c', rfl, _, hA⟩ := hown.sl
        obtain ⟨g', rfl, _, _⟩ := hA (by simp)
        have hst : partStep L s[q] = L ++ [⟨#[]⟩] := by unfold partStep; rw [if_pos (by omega)]
        refine ⟨⟨q + 1, g', _, c', by omega, rfl, rfl, ?_, ?_, ?_, ?_, ?_, ?_⟩, by simp [intOf]; omega⟩
        · rw [HP.out, hst]
        · simp
        · simp only [List.length_append, List.length_singleton]; rw [← HN.out]; omega
        · rw [HP.out]; exact Lib.hid (partStep_size HSZ.out)
        · exact (HQ.out.alloc hg _).grown hg2 (by simp; omega) (fun j hj => by cases hj; exact HW.out.ge rfl)
        · rw [HP.out, hst]; exact hown
      · obtain ⟨x, hx⟩ : ∃ x, L[n - 1]? = some x := ⟨_, List.getElem?_eq_getElem (by have := HN.out; omega)⟩
        have c0 := HW.out.cellS HN.out hx
        have f0 := HW.out.frozenS HN.out (n - 1)
        have HX := Lib.hid hx
        have hxs := HSZ.out x (List.mem_of_getElem? hx)
        clear hx
        have hext : (s.extract q (q + 1)).size = 1 := by rw [ex_one s q hlt]; rfl
        have b4 : x.size + (s.extract q (q + 1)).size ≤ 9223372036854775807 := by rw [hext]; omega
        have b5 : x.size + (min (q + 1) s.size - q) ≤ 9223372036854775807 := by omega
        clear hext hxs
        have b3 : (1 : Int) ≤ n := by omega
        obtain ⟨m, rfl⟩ : ∃ m : Nat, n = m + 1 := ⟨n - 1, by omega⟩
        simp only [Nat.add_sub_cancel] at c0 f0 HX
        go_upto_region 7 with fail
        go_region
        go_wp2
        refine ⟨⟨q + 1, g, m + 1, c, by omega, rfl, rfl, ?_, by omega, by omega, ?_, ?_, ?_⟩, by simp [intOf]; omega⟩
        · rw [HP.out]; unfold partStep; rw [if_neg (by omega), List.length_set]; exact HN.out
        · rw [HP.out]; exact Lib.hid (partStep_size HSZ.out)
        · have hge : w.heap.size ≤ g := HW.out.ge rfl
          have hbs : Below w.heap.size w (wr.setCell ⟨g, m, none⟩ (.string (x ++ s.extract q (q + 1)))) := HQ.out.setCell hge _
          exact Below.drew hbs
        · refine OwnL.keep (Below.refl _ _).drew ?_
          have hst := HW.out.setS HN.out m (x ++ s.extract q (q + 1))
          rw [HP.out]
          unfold partStep
          rw [if_neg (by omega), ← HN.out, Nat.add_sub_cancel, HX.out, Option.getD_some, ← ex_one s q hlt]
          exact hst
    · have b2 : (s.size : Int) ≤ (q : Int) := by omega
      obtain rfl : q = s.size := by omega
      rw [List.take_of_length_le (by rw [Array.length_toList]; exact Nat.le_refl _)] at HW
      go_wp2
      go_ret
      exact ⟨_, rfl, HW.out, HQ.out⟩
end Go.Proofs.YthmlnffponjikaaGreatDoor
