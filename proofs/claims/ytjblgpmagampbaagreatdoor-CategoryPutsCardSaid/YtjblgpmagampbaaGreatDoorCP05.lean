/- DERIVED: THE SHELF's CONTRACTS AT THIS DUMP, IN PLAIN WORDS (tools/lay-plain.mjs out of 'TryzShelf.lean', which tools/lay-shelf.mjs wrote): THE SAME DECLARATIONS UNDER THE SAME NAMES: 'import', 'namespace', 'open', 'def', 'theorem' AND NOTHING ELSE: no command of the shelf's: FOR A HAND-IN. Each .. | strings.Trim at a set of ASCII bytes. | == and != of values without slices, at this translation. Written by types.py. | Calls that turn many objects which lead to each other: the rule. No program is named. | Objects get new keys and new names. No program is named. | The parser's objects: elements on a stack of pointers, the top one under fixed keys. No program is named. | Lists as nodes have them, read. No program is named. | Maps of the call's own: made, written, read. No program is named. | The rules for maps. No program is named. | Functions of the program as Lean functions. Written by fxgen.py. | strings.Trim and TrimLeft at the sets that links use. | Comparisons of numbers, strings, titles and keys, in the program and in the reference: what each call returns. | The reference's comparison of titles, and both comparisons of keys. | Titles: the letters A to Z as lower-case letters. | Titles: the words ahead of a colon that name a namespace. | Titles: which bytes names may have; which titles are valid. | The reference's small functions on titles: an index, letters without their case, the words ahead of a colon. | The reference's words ahead of a colon. | A slice of strings that the call itself made: reading and storing an element. No program is named. | The reference's Parts: a text divided at each slash. | Plain laws: the reference's Parts and prefixed say what strings.Split and title.prefix say. -/
import Derived.Shelf.Strings.Builder1
import Derived.Shelf.Strings.Builder2
import Derived.Shelf.Strings.OnBuilder
import Derived.Shelf.Strings.Trim
import Derived.Shelf.Small.Utf8
import Derived.Shelf.Small.Bits
import Derived.Shelf.Small.Strs
import Derived.Shelf.Small.Wraps
import Derived.Shelf.Strings.BuilderF
import Derived.Shelf.Strings.BuilderK
import Derived.Shelf.Utf8.RuneCount
import Derived.Shelf.Strings.Builder2Cap
import Derived.Shelf.Strconv.Itoa0
import Derived.Shelf.Strings.Search1
import Derived.Shelf.Strings.Search2
import Derived.Shelf.Strings.Search3
import Derived.Shelf.Strings.Cut
import Derived.Shelf.Strings.Count
import Derived.Shelf.LaysM
import Derived.Shelf.Strings.Shaped
import Derived.Shelf.Strings.Prefix
import Derived.Shelf.Strings.Split
import Derived.Shelf.Strings.Replace
import Derived.Shelf.Strings.SplitShaped
import Derived.Shelf.Unicode.Decode
import Derived.Shelf.Strings.Runes
import Derived.Shelf.Strings.RuneCount
import Derived.Shelf.Strings.AsciiSet
import Derived.Shelf.Strings.Explode
import Derived.Shelf.Bits.Mul64
import Derived.Shelf.Strings.Repeat
import Derived.Shelf.Unicode.DecodeSlow
import Derived.Shelf.Unicode.DecodeAny
import Derived.Shelf.Unicode.DecodeLast
import Derived.Shelf.Strings.BuilderCap
import Derived.Ground.Names2Prog
import Derived.Shelf.Slices.SearchI
import Derived.Test.YtjblgpmagampbaaGreatDoorProg
import Derived.Test.YtjblgpmagampbaaGreatDoorCP04
import Derived.Test.YtjblgpmagampbaaGreatDoorCP03
import Derived.Lib.AsciiSet
import Derived.Test.YtjblgpmagampbaaGreatDoorRows
import Derived.Test.YtjblgpmagampbaaGreatDoorCP02
import Derived.ChangeMaps5
import Derived.Test.YtjblgpmagampbaaGreatDoorCP01
import Derived.Laws.IdiomStrings
import Derived.Lib.IndexEntry
import Derived.Laws.OwnMore
import Derived.Lib.IndexBytes
namespace Go.Proofs
open Go.Shelf
def Tryz.lays169_ren:Go.Shelf.Ren:=⟨fun | 169=>310 | n=>n,fun | 70=>356 | 9=>9 | 0=>0 | 72=>358 | 37=>341 | 127=>383 | 3=>3 | 5=>5 | n=>n,fun | n=>n⟩
theorem Tryz.lays169:Go.Proofs.Lays.n169 Tryz.prog Tryz.lays169_ren:={
 mixed:=by kernel_rfl
 f169:=Tryz.func310.trans (congrArg some (by kernel_rfl))
 t0:=Tryz.underlying0
 a0:=Tryz.isAgg0
 z0:=Tryz.sizeOf0
 v0:=Tryz.zeroValue0
 t3:=Tryz.underlying3
 a3:=Tryz.isAgg3
 z3:=Tryz.sizeOf3
 v3:=Tryz.zeroValue3
 t9:=Tryz.underlying9
 a9:=Tryz.isAgg9
 z9:=Tryz.sizeOf9
 v9:=Tryz.zeroValue9
 t37:=Tryz.underlying341
 a37:=Tryz.isAgg341
 z37:=Tryz.sizeOf341
 v37:=Tryz.zeroValue341
 t70:=Tryz.underlying356
 a70:=Tryz.isAgg356
 z70:=Tryz.sizeOf356
 v70:=Tryz.zeroValue356
 t72:=Tryz.underlying358
 a72:=Tryz.isAgg358
 z72:=Tryz.sizeOf358
 v72:=Tryz.zeroValue358
 t127:=Tryz.underlying383
 a127:=Tryz.isAgg383
 z127:=Tryz.sizeOf383
 v127:=Tryz.zeroValue383 }
theorem Tryz.Builder_Extra_169:Builder.Extra Tryz.prog Tryz.lays169_ren:={
 sizeBuilder:=by kernel_rfl
 liesBuilder:=by kernel_rfl
 t5:=Tryz.underlying5
 a5:=Tryz.isAgg5
 z5:=Tryz.sizeOf5
 v5:=Tryz.zeroValue5
 infoByte:=by kernel_rfl
 cellsByte:=by kernel_rfl
 sizeByte:=by kernel_rfl
 neB5:=by decide }
def Tryz.lays156_ren:Go.Shelf.Ren:=⟨fun | 156=>357 | 165=>307 | 166=>308 | 169=>310 | 240=>339 | 241=>340 | 276=>361 | 277=>362 | n=>n,fun | 31=>44 | 9=>9 | 3=>3 | 4=>4 | 0=>0 | 20=>20 | 72=>358 | 76=>361 | 70=>356 | 37=>341 | 75=>360 | 127=>383 | 164=>391 | 5=>5 | 80=>363 | n=>n,fun | n=>n⟩
theorem Tryz.lays156:Go.Proofs.Lays.n156 Tryz.prog Tryz.lays156_ren:={
 mixed:=by kernel_rfl
 f156:=Tryz.func357.trans (congrArg some (by kernel_rfl))
 f165:=Tryz.func307.trans (congrArg some (by kernel_rfl))
 f166:=Tryz.func308.trans (congrArg some (by kernel_rfl))
 f169:=Tryz.func310.trans (congrArg some (by kernel_rfl))
 f240:=Tryz.func339.trans (congrArg some (by kernel_rfl))
 f241:=Tryz.func340.trans (congrArg some (by kernel_rfl))
 f276:=Tryz.func361.trans (congrArg some (by kernel_rfl))
 f277:=Tryz.func362.trans (congrArg some (by kernel_rfl))
 t0:=Tryz.underlying0
 a0:=Tryz.isAgg0
 z0:=Tryz.sizeOf0
 v0:=Tryz.zeroValue0
 t3:=Tryz.underlying3
 a3:=Tryz.isAgg3
 z3:=Tryz.sizeOf3
 v3:=Tryz.zeroValue3
 t4:=Tryz.underlying4
 a4:=Tryz.isAgg4
 z4:=Tryz.sizeOf4
 v4:=Tryz.zeroValue4
 t9:=Tryz.underlying9
 a9:=Tryz.isAgg9
 z9:=Tryz.sizeOf9
 v9:=Tryz.zeroValue9
 t20:=Tryz.underlying20
 a20:=Tryz.isAgg20
 z20:=Tryz.sizeOf20
 v20:=Tryz.zeroValue20
 t31:=Tryz.underlying44
 a31:=Tryz.isAgg44
 z31:=Tryz.sizeOf44
 v31:=Tryz.zeroValue44
 t37:=Tryz.underlying341
 a37:=Tryz.isAgg341
 z37:=Tryz.sizeOf341
 v37:=Tryz.zeroValue341
 t70:=Tryz.underlying356
 a70:=Tryz.isAgg356
 z70:=Tryz.sizeOf356
 v70:=Tryz.zeroValue356
 t72:=Tryz.underlying358
 a72:=Tryz.isAgg358
 z72:=Tryz.sizeOf358
 v72:=Tryz.zeroValue358
 t75:=Tryz.underlying360
 a75:=Tryz.isAgg360
 z75:=Tryz.sizeOf360
 v75:=Tryz.zeroValue360
 t76:=Tryz.underlying361
 a76:=Tryz.isAgg361
 z76:=Tryz.sizeOf361
 v76:=Tryz.zeroValue361
 t127:=Tryz.underlying383
 a127:=Tryz.isAgg383
 z127:=Tryz.sizeOf383
 v127:=Tryz.zeroValue383
 t164:=Tryz.underlying391
 a164:=Tryz.isAgg391
 z164:=Tryz.sizeOf391
 v164:=Tryz.zeroValue391 }
theorem Tryz.Builder_Extra_156:Builder.Extra Tryz.prog Tryz.lays156_ren:={
 sizeBuilder:=by kernel_rfl
 liesBuilder:=by kernel_rfl
 t5:=Tryz.underlying5
 a5:=Tryz.isAgg5
 z5:=Tryz.sizeOf5
 v5:=Tryz.zeroValue5
 infoByte:=by kernel_rfl
 cellsByte:=by kernel_rfl
 sizeByte:=by kernel_rfl
 neB5:=by decide }
open Go.RowKit in
theorem Tryz.strings_Join (bk o c:Nat) (xs:List ByteArray) (sep:ByteArray) (w:World) (hcells:∀ (j:Nat) x,xs[j]? = some x→w.cell? ⟨bk,o+j,none⟩=some (.string x)) (hbk:bk<w.heap.size) (hN:xs.length≤140737488355328) (hcap:xs.length≤c) (hlen:(Lib.join (xs.map (·.data.toList)) sep.data.toList).length≤140737488355328) :
  Calls Tryz.prog 357 #[.slice (some ⟨bk,o,none⟩) xs.length c,.string sep] w fun e w'=>e = .returned (.string ⟨(Lib.join (xs.map (·.data.toList)) sep.data.toList).toArray⟩)∧Below w.heap.size w w':=Any.strings_Join Tryz.lays156 Tryz.Builder_Extra_156 bk o c xs sep w hcells hbk hN hcap hlen
def Tryz.lays213_ren:Go.Shelf.Ren:=⟨fun | 213=>159 | 265=>234 | n=>n,fun | 9=>9 | 3=>3 | n=>n,fun | n=>n⟩
def Tryz.lays106_ren:Go.Shelf.Ren:=⟨fun | 106=>103 | 213=>159 | 265=>234 | n=>n,fun | 9=>9 | 3=>3 | n=>n,fun | n=>n⟩
theorem Tryz.lays106:Go.Proofs.Lays.n106 Tryz.prog Tryz.lays106_ren:={
 mixed:=by kernel_rfl
 f106:=Tryz.func103.trans (congrArg some (by kernel_rfl))
 f213:=Tryz.func159.trans (congrArg some (by kernel_rfl))
 f265:=Tryz.func234.trans (congrArg some (by kernel_rfl))
 t3:=Tryz.underlying3
 a3:=Tryz.isAgg3
 z3:=Tryz.sizeOf3
 v3:=Tryz.zeroValue3
 t9:=Tryz.underlying9
 a9:=Tryz.isAgg9
 z9:=Tryz.sizeOf9
 v9:=Tryz.zeroValue9 }
open Go.RowKit in
theorem Tryz.strings_Compare (a b:ByteArray) (w:World) :
  Calls Tryz.prog 103 #[.string a,.string b] w fun e w'=>e = .returned (.int .i64 (Lib.compareBytes a.data.toList b.data.toList))∧w'=w:=Any.strings_Compare Tryz.lays106 a b w
def Tryz.lays137_ren:Go.Shelf.Ren:=⟨fun | 137=>366 | 217=>341 | 266=>363 | n=>n,fun | 9=>9 | 5=>5 | 3=>3 | n=>n,fun | n=>n⟩
theorem Tryz.lays137:Go.Proofs.Lays.n137 Tryz.prog Tryz.lays137_ren:={
 mixed:=by kernel_rfl
 f137:=Tryz.func366.trans (congrArg some (by kernel_rfl))
 f217:=Tryz.func341.trans (congrArg some (by kernel_rfl))
 f266:=Tryz.func363.trans (congrArg some (by kernel_rfl))
 t3:=Tryz.underlying3
 a3:=Tryz.isAgg3
 z3:=Tryz.sizeOf3
 v3:=Tryz.zeroValue3
 t5:=Tryz.underlying5
 a5:=Tryz.isAgg5
 z5:=Tryz.sizeOf5
 v5:=Tryz.zeroValue5
 t9:=Tryz.underlying9
 a9:=Tryz.isAgg9
 z9:=Tryz.sizeOf9
 v9:=Tryz.zeroValue9 }
open Go.RowKit in
theorem Tryz.strings_IndexByte (s:ByteArray) (c:Int) (w:World) :
  Calls Tryz.prog 366 #[.string s,.int .u8 c] w fun e w'=>e = .returned (.int .i64 (Lib.indexByte s.data.toList c.toNat.toUInt8))∧w'=w:=Any.strings_IndexByte Tryz.lays137 s c w
def Tryz.lays210_ren:Go.Shelf.Ren:=⟨fun | 210=>258 | 206=>312 | n=>n,fun | 9=>9 | 4=>4 | 3=>3 | n=>n,fun | n=>n⟩
def Tryz.lays215_ren:Go.Shelf.Ren:=⟨fun | 215=>158 | n=>n,fun | 3=>3 | 4=>4 | n=>n,fun | n=>n⟩
def Tryz.lays122_ren:Go.Shelf.Ren:=⟨fun | 122=>102 | 215=>158 | n=>n,fun | 3=>3 | 4=>4 | n=>n,fun | n=>n⟩
theorem Tryz.lays122:Go.Proofs.Lays.n122 Tryz.prog Tryz.lays122_ren:={
 mixed:=by kernel_rfl
 f122:=Tryz.func102.trans (congrArg some (by kernel_rfl))
 f215:=Tryz.func158.trans (congrArg some (by kernel_rfl))
 t3:=Tryz.underlying3
 a3:=Tryz.isAgg3
 z3:=Tryz.sizeOf3
 v3:=Tryz.zeroValue3
 t4:=Tryz.underlying4
 a4:=Tryz.isAgg4
 z4:=Tryz.sizeOf4
 v4:=Tryz.zeroValue4 }
open Go.RowKit in
theorem Tryz.cmp_Compare_int (x y:Int) (w:World) :
  Calls Tryz.prog 102 #[.int .i64 x,.int .i64 y] w fun e w'=>e = .returned (.int .i64 (Lib.compareInt x y))∧w'=w:=Any.cmp_Compare_int Tryz.lays122 x y w
open Go.RowKit in
theorem Tryz.Builder_String_any_f (B b:Nat) (l:List UInt8) (w:World) (h:Lib.IsBuilderF 358 5 B b (Lib.byteCells l) w) (hBw:B≤w.heap.size) :
  Calls Tryz.prog 310 #[.pointer (some ⟨b,0,none⟩)] w fun e w'=>e = .returned (.string ⟨l.toArray⟩)∧(Lib.IsBuilderF 358 5 B b (Lib.byteCells l) w'∧Below B w w'):=Any.Builder_String_any_f Tryz.lays169 Tryz.Builder_Extra_169 B b l w h hBw
def Tryz.lays219_ren:Go.Shelf.Ren:=⟨fun | 219=>311 | 217=>341 | 225=>342 | 224=>343 | 267=>344 | 266=>363 | 314=>364 | n=>n,fun | 9=>9 | 3=>3 | 4=>4 | 5=>5 | 46=>127 | 146=>379 | 51=>231 | n=>n,fun | 1=>0 | n=>n⟩
def Tryz.lays143_ren:Go.Shelf.Ren:=⟨fun | 143=>253 | 219=>311 | 217=>341 | 225=>342 | 224=>343 | 267=>344 | 266=>363 | 314=>364 | n=>n,fun | 9=>9 | 3=>3 | 4=>4 | 5=>5 | 46=>127 | 146=>379 | 51=>231 | n=>n,fun | 1=>0 | n=>n⟩
theorem Tryz.lays143:Go.Proofs.Lays.n143 Tryz.prog Tryz.lays143_ren:={
 mixed:=by kernel_rfl
 f143:=Tryz.func253.trans (congrArg some (by kernel_rfl))
 f217:=Tryz.func341.trans (congrArg some (by kernel_rfl))
 f219:=Tryz.func311.trans (congrArg some (by kernel_rfl))
 f224:=Tryz.func343.trans (congrArg some (by kernel_rfl))
 f225:=Tryz.func342.trans (congrArg some (by kernel_rfl))
 f266:=Tryz.func363.trans (congrArg some (by kernel_rfl))
 f267:=Tryz.func344.trans (congrArg some (by kernel_rfl))
 f314:=Tryz.func364.trans (congrArg some (by kernel_rfl))
 t3:=Tryz.underlying3
 a3:=Tryz.isAgg3
 z3:=Tryz.sizeOf3
 v3:=Tryz.zeroValue3
 t4:=Tryz.underlying4
 a4:=Tryz.isAgg4
 z4:=Tryz.sizeOf4
 v4:=Tryz.zeroValue4
 t5:=Tryz.underlying5
 a5:=Tryz.isAgg5
 z5:=Tryz.sizeOf5
 v5:=Tryz.zeroValue5
 t9:=Tryz.underlying9
 a9:=Tryz.isAgg9
 z9:=Tryz.sizeOf9
 v9:=Tryz.zeroValue9
 t46:=Tryz.underlying127
 a46:=Tryz.isAgg127
 z46:=Tryz.sizeOf127
 v46:=Tryz.zeroValue127
 t51:=Tryz.underlying231
 a51:=Tryz.isAgg231
 z51:=Tryz.sizeOf231
 v51:=Tryz.zeroValue231
 t146:=Tryz.underlying379
 a146:=Tryz.isAgg379
 z146:=Tryz.sizeOf379
 v146:=Tryz.zeroValue379
 g1:=by kernel_rfl }
open Go.RowKit Go.Lib in
theorem Tryz.strings_Index (s sub:ByteArray) (m:Int) (w:World) (hs:s.size<4294967281) (hm:w.cell? ⟨0,0,none⟩=some (.int .i64 m)) :
  Calls Tryz.prog 253 #[.string s,.string sub] w fun e w'=>e = .returned (.int .i64 (Lib.index s.data.toList sub.data.toList))∧w'=w:=Any.strings_Index Tryz.lays143 s sub m w hs hm
def Tryz.lays144_ren:Go.Shelf.Ren:=⟨fun | 144=>177 | 143=>253 | 219=>311 | 217=>341 | 225=>342 | 224=>343 | 267=>344 | 266=>363 | 314=>364 | n=>n,fun | 9=>9 | 4=>4 | 3=>3 | 5=>5 | 46=>127 | 146=>379 | 51=>231 | n=>n,fun | 1=>0 | n=>n⟩
theorem Tryz.lays144:Go.Proofs.Lays.n144 Tryz.prog Tryz.lays144_ren:={
 mixed:=by kernel_rfl
 f143:=Tryz.func253.trans (congrArg some (by kernel_rfl))
 f144:=Tryz.func177.trans (congrArg some (by kernel_rfl))
 f217:=Tryz.func341.trans (congrArg some (by kernel_rfl))
 f219:=Tryz.func311.trans (congrArg some (by kernel_rfl))
 f224:=Tryz.func343.trans (congrArg some (by kernel_rfl))
 f225:=Tryz.func342.trans (congrArg some (by kernel_rfl))
 f266:=Tryz.func363.trans (congrArg some (by kernel_rfl))
 f267:=Tryz.func344.trans (congrArg some (by kernel_rfl))
 f314:=Tryz.func364.trans (congrArg some (by kernel_rfl))
 t3:=Tryz.underlying3
 a3:=Tryz.isAgg3
 z3:=Tryz.sizeOf3
 v3:=Tryz.zeroValue3
 t4:=Tryz.underlying4
 a4:=Tryz.isAgg4
 z4:=Tryz.sizeOf4
 v4:=Tryz.zeroValue4
 t5:=Tryz.underlying5
 a5:=Tryz.isAgg5
 z5:=Tryz.sizeOf5
 v5:=Tryz.zeroValue5
 t9:=Tryz.underlying9
 a9:=Tryz.isAgg9
 z9:=Tryz.sizeOf9
 v9:=Tryz.zeroValue9
 t46:=Tryz.underlying127
 a46:=Tryz.isAgg127
 z46:=Tryz.sizeOf127
 v46:=Tryz.zeroValue127
 t51:=Tryz.underlying231
 a51:=Tryz.isAgg231
 z51:=Tryz.sizeOf231
 v51:=Tryz.zeroValue231
 t146:=Tryz.underlying379
 a146:=Tryz.isAgg379
 z146:=Tryz.sizeOf379
 v146:=Tryz.zeroValue379
 g1:=by kernel_rfl }
open Go.RowKit Go.Lib in
theorem Tryz.strings_Contains (s sub:ByteArray) (m:Int) (w:World) (hs:s.size<4294967281) (hm:w.cell? ⟨0,0,none⟩=some (.int .i64 m)) :
  Calls Tryz.prog 177 #[.string s,.string sub] w fun e w'=>e = .returned (.bool (Lib.contains s.data.toList sub.data.toList))∧w'=w:=Any.strings_Contains Tryz.lays144 s sub m w hs hm
def Tryz.lays145_ren:Go.Shelf.Ren:=⟨fun | 145=>263 | 220=>317 | 219=>311 | 217=>341 | 225=>342 | 224=>343 | 267=>344 | 266=>363 | 314=>364 | n=>n,fun | 9=>9 | 4=>4 | 59=>329 | 3=>3 | 5=>5 | 46=>127 | 146=>379 | 51=>231 | n=>n,fun | 1=>0 | n=>n⟩
theorem Tryz.lays145:Go.Proofs.Lays.n145 Tryz.prog Tryz.lays145_ren:={
 mixed:=by kernel_rfl
 f145:=Tryz.func263.trans (congrArg some (by kernel_rfl))
 f217:=Tryz.func341.trans (congrArg some (by kernel_rfl))
 f219:=Tryz.func311.trans (congrArg some (by kernel_rfl))
 f220:=Tryz.func317.trans (congrArg some (by kernel_rfl))
 f224:=Tryz.func343.trans (congrArg some (by kernel_rfl))
 f225:=Tryz.func342.trans (congrArg some (by kernel_rfl))
 f266:=Tryz.func363.trans (congrArg some (by kernel_rfl))
 f267:=Tryz.func344.trans (congrArg some (by kernel_rfl))
 f314:=Tryz.func364.trans (congrArg some (by kernel_rfl))
 t3:=Tryz.underlying3
 a3:=Tryz.isAgg3
 z3:=Tryz.sizeOf3
 v3:=Tryz.zeroValue3
 t4:=Tryz.underlying4
 a4:=Tryz.isAgg4
 z4:=Tryz.sizeOf4
 v4:=Tryz.zeroValue4
 t5:=Tryz.underlying5
 a5:=Tryz.isAgg5
 z5:=Tryz.sizeOf5
 v5:=Tryz.zeroValue5
 t9:=Tryz.underlying9
 a9:=Tryz.isAgg9
 z9:=Tryz.sizeOf9
 v9:=Tryz.zeroValue9
 t46:=Tryz.underlying127
 a46:=Tryz.isAgg127
 z46:=Tryz.sizeOf127
 v46:=Tryz.zeroValue127
 t51:=Tryz.underlying231
 a51:=Tryz.isAgg231
 z51:=Tryz.sizeOf231
 v51:=Tryz.zeroValue231
 t59:=Tryz.underlying329
 a59:=Tryz.isAgg329
 z59:=Tryz.sizeOf329
 v59:=Tryz.zeroValue329
 t146:=Tryz.underlying379
 a146:=Tryz.isAgg379
 z146:=Tryz.sizeOf379
 v146:=Tryz.zeroValue379
 g1:=by kernel_rfl }
open Go.RowKit Go.Lib in
theorem Tryz.strings_Cut (s sep:ByteArray) (m:Int) (w:World) (hs:s.size<4294967281) (hm:w.cell? ⟨0,0,none⟩=some (.int .i64 m)) :
  Calls Tryz.prog 263 #[.string s,.string sep] w fun e w'=>e = .returned (.tuple #[.string ⟨(Lib.cut s.data.toList sep.data.toList).1.toArray⟩,.string ⟨(Lib.cut s.data.toList sep.data.toList).2.1.toArray⟩,.bool (Lib.cut s.data.toList sep.data.toList).2.2])∧∃ n,w'=w.drewN n:=Any.strings_Cut Tryz.lays145 s sep m w hs hm
def Tryz.lays102_ren:Go.Shelf.Ren:=⟨fun | 102=>350 | 209=>368 | 207=>372 | n=>n,fun | 9=>9 | 4=>4 | 3=>3 | n=>n,fun | n=>n⟩
theorem Tryz.lays102:Go.Proofs.Lays.n102 Tryz.prog Tryz.lays102_ren:={
 mixed:=by kernel_rfl
 f102:=Tryz.func350.trans (congrArg some (by kernel_rfl))
 f207:=Tryz.func372.trans (congrArg some (by kernel_rfl))
 f209:=Tryz.func368.trans (congrArg some (by kernel_rfl))
 t3:=Tryz.underlying3
 a3:=Tryz.isAgg3
 z3:=Tryz.sizeOf3
 v3:=Tryz.zeroValue3
 t4:=Tryz.underlying4
 a4:=Tryz.isAgg4
 z4:=Tryz.sizeOf4
 v4:=Tryz.zeroValue4
 t9:=Tryz.underlying9
 a9:=Tryz.isAgg9
 z9:=Tryz.sizeOf9
 v9:=Tryz.zeroValue9 }
open Go.RowKit Go.Lib in
theorem Tryz.strings_TrimSuffix (s p:ByteArray) (w:World) (hs:s.size≤9223372036854775807) :
  Calls Tryz.prog 350 #[.string s,.string p] w fun e w'=>e = .returned (.string ⟨(Lib.trimSuffix s.data.toList p.data.toList).toArray⟩)∧w'=w:=Any.strings_TrimSuffix Tryz.lays102 s p w hs
def Tryz.lays221_ren:Go.Shelf.Ren:=⟨fun | 221=>370 | 268=>375 | 138=>369 | 143=>253 | 195=>373 | 197=>315 | 218=>374 | 219=>311 | 260=>348 | 217=>341 | 225=>342 | 224=>343 | 267=>344 | 266=>363 | 314=>364 | n=>n,fun | 9=>9 | 3=>3 | 31=>44 | 4=>4 | 0=>0 | 105=>365 | 21=>21 | 5=>5 | 46=>127 | 119=>395 | 139=>398 | 138=>397 | 146=>379 | 51=>231 | n=>n,fun | 1=>0 | 3=>1 | 4=>2 | n=>n⟩
def Tryz.lays146_ren:Go.Shelf.Ren:=⟨fun | 146=>355 | 221=>370 | 268=>375 | 138=>369 | 143=>253 | 195=>373 | 197=>315 | 218=>374 | 219=>311 | 260=>348 | 217=>341 | 225=>342 | 224=>343 | 267=>344 | 266=>363 | 314=>364 | n=>n,fun | 9=>9 | 31=>44 | 3=>3 | 4=>4 | 0=>0 | 105=>365 | 21=>21 | 5=>5 | 46=>127 | 119=>395 | 139=>398 | 138=>397 | 146=>379 | 51=>231 | n=>n,fun | 1=>0 | 3=>1 | 4=>2 | n=>n⟩
theorem Tryz.lays146:Go.Proofs.Lays.n146 Tryz.prog Tryz.lays146_ren:={
 mixed:=by kernel_rfl
 f138:=Tryz.func369.trans (congrArg some (by kernel_rfl))
 f143:=Tryz.func253.trans (congrArg some (by kernel_rfl))
 f146:=Tryz.func355.trans (congrArg some (by kernel_rfl))
 f195:=Tryz.func373.trans (congrArg some (by kernel_rfl))
 f197:=Tryz.func315.trans (congrArg some (by kernel_rfl))
 f217:=Tryz.func341.trans (congrArg some (by kernel_rfl))
 f218:=Tryz.func374.trans (congrArg some (by kernel_rfl))
 f219:=Tryz.func311.trans (congrArg some (by kernel_rfl))
 f221:=Tryz.func370.trans (congrArg some (by kernel_rfl))
 f224:=Tryz.func343.trans (congrArg some (by kernel_rfl))
 f225:=Tryz.func342.trans (congrArg some (by kernel_rfl))
 f260:=Tryz.func348.trans (congrArg some (by kernel_rfl))
 f266:=Tryz.func363.trans (congrArg some (by kernel_rfl))
 f267:=Tryz.func344.trans (congrArg some (by kernel_rfl))
 f268:=Tryz.func375.trans (congrArg some (by kernel_rfl))
 f314:=Tryz.func364.trans (congrArg some (by kernel_rfl))
 t0:=Tryz.underlying0
 a0:=Tryz.isAgg0
 z0:=Tryz.sizeOf0
 v0:=Tryz.zeroValue0
 t3:=Tryz.underlying3
 a3:=Tryz.isAgg3
 z3:=Tryz.sizeOf3
 v3:=Tryz.zeroValue3
 t4:=Tryz.underlying4
 a4:=Tryz.isAgg4
 z4:=Tryz.sizeOf4
 v4:=Tryz.zeroValue4
 t5:=Tryz.underlying5
 a5:=Tryz.isAgg5
 z5:=Tryz.sizeOf5
 v5:=Tryz.zeroValue5
 t9:=Tryz.underlying9
 a9:=Tryz.isAgg9
 z9:=Tryz.sizeOf9
 v9:=Tryz.zeroValue9
 t21:=Tryz.underlying21
 a21:=Tryz.isAgg21
 z21:=Tryz.sizeOf21
 v21:=Tryz.zeroValue21
 t31:=Tryz.underlying44
 a31:=Tryz.isAgg44
 z31:=Tryz.sizeOf44
 v31:=Tryz.zeroValue44
 t46:=Tryz.underlying127
 a46:=Tryz.isAgg127
 z46:=Tryz.sizeOf127
 v46:=Tryz.zeroValue127
 t51:=Tryz.underlying231
 a51:=Tryz.isAgg231
 z51:=Tryz.sizeOf231
 v51:=Tryz.zeroValue231
 t105:=Tryz.underlying365
 a105:=Tryz.isAgg365
 z105:=Tryz.sizeOf365
 v105:=Tryz.zeroValue365
 t119:=Tryz.underlying395
 a119:=Tryz.isAgg395
 z119:=Tryz.sizeOf395
 t138:=Tryz.underlying397
 a138:=Tryz.isAgg397
 z138:=Tryz.sizeOf397
 v138:=Tryz.zeroValue397
 t139:=Tryz.underlying398
 a139:=Tryz.isAgg398
 z139:=Tryz.sizeOf398
 v139:=Tryz.zeroValue398
 t146:=Tryz.underlying379
 a146:=Tryz.isAgg379
 z146:=Tryz.sizeOf379
 v146:=Tryz.zeroValue379
 g1:=by kernel_rfl
 g3:=by kernel_rfl
 g4:=by kernel_rfl }
open Go.RowKit Go.Lib in
theorem Tryz.strings_Split (s sep:ByteArray) (m:Int) (w:World) (hs:s.size<4294967281) (hm:w.cell? ⟨0,0,none⟩=some (.int .i64 m)) (h1:1≤sep.size) :
  Calls Tryz.prog 355 #[.string s,.string sep] w fun e w'=>
   e = .returned (.slice (some ⟨w.heap.size,0,none⟩) (Lib.countB s sep+1) (Lib.countB s sep+1))∧w'=w.alloc (.cells ((Lib.splitB sep 0 (Lib.countB s sep) s).map Value.string).toArray 9):=Any.strings_Split Tryz.lays146 (by kernel_rfl) s sep m w hs hm h1
def Tryz.lays154_ren:Go.Shelf.Ren:=⟨fun | 154=>351 | 138=>369 | 165=>307 | 143=>253 | 166=>308 | 197=>315 | 169=>310 | 195=>373 | 218=>374 | 240=>339 | 241=>340 | 219=>311 | 260=>348 | 276=>361 | 277=>362 | 217=>341 | 225=>342 | 224=>343 | 267=>344 | 266=>363 | 314=>364 | n=>n,fun | 9=>9 | 3=>3 | 4=>4 | 72=>358 | 0=>0 | 76=>361 | 105=>365 | 21=>21 | 5=>5 | 70=>356 | 20=>20 | 37=>341 | 75=>360 | 127=>383 | 164=>391 | 46=>127 | 119=>395 | 139=>398 | 138=>397 | 146=>379 | 51=>231 | 80=>363 | n=>n,fun | 1=>0 | 3=>1 | 4=>2 | n=>n⟩
def Tryz.lays155_ren:Go.Shelf.Ren:=⟨fun | 155=>319 | 154=>351 | 138=>369 | 165=>307 | 143=>253 | 166=>308 | 197=>315 | 169=>310 | 195=>373 | 218=>374 | 240=>339 | 241=>340 | 219=>311 | 260=>348 | 276=>361 | 277=>362 | 217=>341 | 225=>342 | 224=>343 | 267=>344 | 266=>363 | 314=>364 | n=>n,fun | 9=>9 | 3=>3 | 4=>4 | 72=>358 | 0=>0 | 76=>361 | 105=>365 | 21=>21 | 5=>5 | 70=>356 | 20=>20 | 37=>341 | 75=>360 | 127=>383 | 164=>391 | 46=>127 | 119=>395 | 139=>398 | 138=>397 | 146=>379 | 51=>231 | 80=>363 | n=>n,fun | 1=>0 | 3=>1 | 4=>2 | n=>n⟩
theorem Tryz.lays155:Go.Proofs.Lays.n155 Tryz.prog Tryz.lays155_ren:={
 mixed:=by kernel_rfl
 f138:=Tryz.func369.trans (congrArg some (by kernel_rfl))
 f143:=Tryz.func253.trans (congrArg some (by kernel_rfl))
 f154:=Tryz.func351.trans (congrArg some (by kernel_rfl))
 f155:=Tryz.func319.trans (congrArg some (by kernel_rfl))
 f165:=Tryz.func307.trans (congrArg some (by kernel_rfl))
 f166:=Tryz.func308.trans (congrArg some (by kernel_rfl))
 f169:=Tryz.func310.trans (congrArg some (by kernel_rfl))
 f195:=Tryz.func373.trans (congrArg some (by kernel_rfl))
 f197:=Tryz.func315.trans (congrArg some (by kernel_rfl))
 f217:=Tryz.func341.trans (congrArg some (by kernel_rfl))
 f218:=Tryz.func374.trans (congrArg some (by kernel_rfl))
 f219:=Tryz.func311.trans (congrArg some (by kernel_rfl))
 f224:=Tryz.func343.trans (congrArg some (by kernel_rfl))
 f225:=Tryz.func342.trans (congrArg some (by kernel_rfl))
 f240:=Tryz.func339.trans (congrArg some (by kernel_rfl))
 f241:=Tryz.func340.trans (congrArg some (by kernel_rfl))
 f260:=Tryz.func348.trans (congrArg some (by kernel_rfl))
 f266:=Tryz.func363.trans (congrArg some (by kernel_rfl))
 f267:=Tryz.func344.trans (congrArg some (by kernel_rfl))
 f276:=Tryz.func361.trans (congrArg some (by kernel_rfl))
 f277:=Tryz.func362.trans (congrArg some (by kernel_rfl))
 f314:=Tryz.func364.trans (congrArg some (by kernel_rfl))
 t0:=Tryz.underlying0
 a0:=Tryz.isAgg0
 z0:=Tryz.sizeOf0
 v0:=Tryz.zeroValue0
 t3:=Tryz.underlying3
 a3:=Tryz.isAgg3
 z3:=Tryz.sizeOf3
 v3:=Tryz.zeroValue3
 t4:=Tryz.underlying4
 a4:=Tryz.isAgg4
 z4:=Tryz.sizeOf4
 v4:=Tryz.zeroValue4
 t5:=Tryz.underlying5
 a5:=Tryz.isAgg5
 z5:=Tryz.sizeOf5
 v5:=Tryz.zeroValue5
 t9:=Tryz.underlying9
 a9:=Tryz.isAgg9
 z9:=Tryz.sizeOf9
 v9:=Tryz.zeroValue9
 t20:=Tryz.underlying20
 a20:=Tryz.isAgg20
 z20:=Tryz.sizeOf20
 v20:=Tryz.zeroValue20
 t21:=Tryz.underlying21
 a21:=Tryz.isAgg21
 z21:=Tryz.sizeOf21
 v21:=Tryz.zeroValue21
 t37:=Tryz.underlying341
 a37:=Tryz.isAgg341
 z37:=Tryz.sizeOf341
 v37:=Tryz.zeroValue341
 t46:=Tryz.underlying127
 a46:=Tryz.isAgg127
 z46:=Tryz.sizeOf127
 v46:=Tryz.zeroValue127
 t51:=Tryz.underlying231
 a51:=Tryz.isAgg231
 z51:=Tryz.sizeOf231
 v51:=Tryz.zeroValue231
 t70:=Tryz.underlying356
 a70:=Tryz.isAgg356
 z70:=Tryz.sizeOf356
 v70:=Tryz.zeroValue356
 t72:=Tryz.underlying358
 a72:=Tryz.isAgg358
 z72:=Tryz.sizeOf358
 v72:=Tryz.zeroValue358
 t75:=Tryz.underlying360
 a75:=Tryz.isAgg360
 z75:=Tryz.sizeOf360
 v75:=Tryz.zeroValue360
 t76:=Tryz.underlying361
 a76:=Tryz.isAgg361
 z76:=Tryz.sizeOf361
 v76:=Tryz.zeroValue361
 t105:=Tryz.underlying365
 a105:=Tryz.isAgg365
 z105:=Tryz.sizeOf365
 v105:=Tryz.zeroValue365
 t119:=Tryz.underlying395
 a119:=Tryz.isAgg395
 z119:=Tryz.sizeOf395
 t127:=Tryz.underlying383
 a127:=Tryz.isAgg383
 z127:=Tryz.sizeOf383
 v127:=Tryz.zeroValue383
 t138:=Tryz.underlying397
 a138:=Tryz.isAgg397
 z138:=Tryz.sizeOf397
 v138:=Tryz.zeroValue397
 t139:=Tryz.underlying398
 a139:=Tryz.isAgg398
 z139:=Tryz.sizeOf398
 v139:=Tryz.zeroValue398
 t146:=Tryz.underlying379
 a146:=Tryz.isAgg379
 z146:=Tryz.sizeOf379
 v146:=Tryz.zeroValue379
 t164:=Tryz.underlying391
 a164:=Tryz.isAgg391
 z164:=Tryz.sizeOf391
 v164:=Tryz.zeroValue391
 g1:=by kernel_rfl
 g3:=by kernel_rfl
 g4:=by kernel_rfl }
theorem Tryz.Builder_Extra_155:Builder.Extra Tryz.prog Tryz.lays155_ren:={
 sizeBuilder:=by kernel_rfl
 liesBuilder:=by kernel_rfl
 t5:=Tryz.underlying5
 a5:=Tryz.isAgg5
 z5:=Tryz.sizeOf5
 v5:=Tryz.zeroValue5
 infoByte:=by kernel_rfl
 cellsByte:=by kernel_rfl
 sizeByte:=by kernel_rfl
 neB5:=by decide }
open Go.RowKit Go.Lib in
theorem Tryz.strings_ReplaceAll (s old new:ByteArray) (m:Int) (w:World) (hs:s.size<4294967281) (hm:w.cell? ⟨0,0,none⟩=some (.int .i64 m)) (h1:1≤old.size) (hlen:s.size+Lib.countB s old * new.size≤140737488355328) :
  Calls Tryz.prog 319 #[.string s,.string old,.string new] w fun e w'=>
   e = .returned (.string ⟨(Lib.replaceAll s.data.toList old.data.toList new.data.toList).toArray⟩)∧Below w.heap.size w w':=Any.strings_ReplaceAll Tryz.lays155 Tryz.Builder_Extra_155 s old new m w hs hm h1 hlen
def Tryz.lays227_ren:Go.Shelf.Ren:=⟨fun | 227=>260 | n=>n,fun | 9=>9 | 116=>324 | 4=>4 | 0=>0 | 3=>3 | 5=>5 | n=>n,fun | n=>n⟩
theorem Tryz.lays227:Go.Proofs.Lays.n227 Tryz.prog Tryz.lays227_ren:={
 mixed:=by kernel_rfl
 f227:=Tryz.func260.trans (congrArg some (by kernel_rfl))
 t0:=Tryz.underlying0
 a0:=Tryz.isAgg0
 z0:=Tryz.sizeOf0
 v0:=Tryz.zeroValue0
 t3:=Tryz.underlying3
 a3:=Tryz.isAgg3
 z3:=Tryz.sizeOf3
 v3:=Tryz.zeroValue3
 t4:=Tryz.underlying4
 a4:=Tryz.isAgg4
 z4:=Tryz.sizeOf4
 v4:=Tryz.zeroValue4
 t5:=Tryz.underlying5
 a5:=Tryz.isAgg5
 z5:=Tryz.sizeOf5
 v5:=Tryz.zeroValue5
 t9:=Tryz.underlying9
 a9:=Tryz.isAgg9
 z9:=Tryz.sizeOf9
 v9:=Tryz.zeroValue9
 t116:=Tryz.underlying324
 a116:=Tryz.isAgg324
 z116:=Tryz.sizeOf324 }
open Go.RowKit Go.Lib in
theorem Tryz.strings_makeASCIISet (hv116:∀ w,(zeroValue 324).run Tryz.prog w = .ok (.agg (Array.replicate 256 (.bool false))) w) (chars:ByteArray) (w:World) (hs:chars.size<4294967281) (hascii:∀ (j:Nat) b,chars.data.toList[j]? = some b→b.toNat<128) :
  Calls Tryz.prog 260 #[.string chars] w fun e w'=>e = .returned (.tuple #[.agg (Lib.setCells chars.data.toList),.bool true])∧w'=w.alloc (.cells (Lib.setCells chars.data.toList) 324):=Any.strings_makeASCIISet Tryz.lays227 hv116 (by kernel_rfl) chars w hs hascii
def Tryz.lays105_ren:Go.Shelf.Ren:=⟨fun | 105=>251 | 212=>306 | 99=>254 | 165=>307 | 166=>308 | 170=>309 | 169=>310 | 263=>337 | 264=>338 | 206=>312 | 240=>339 | 241=>340 | 276=>361 | 277=>362 | n=>n,fun | 9=>9 | 3=>3 | 4=>4 | 20=>20 | 0=>0 | 46=>127 | 109=>354 | 5=>5 | 72=>358 | 76=>361 | 51=>231 | 146=>379 | 53=>124 | 148=>381 | 70=>356 | 37=>341 | 75=>360 | 127=>383 | 164=>391 | 80=>363 | n=>n,fun | n=>n⟩
theorem Tryz.lays105:Go.Proofs.Lays.n105 Tryz.prog Tryz.lays105_ren:={
 mixed:=by kernel_rfl
 f99:=Tryz.func254.trans (congrArg some (by kernel_rfl))
 f105:=Tryz.func251.trans (congrArg some (by kernel_rfl))
 f165:=Tryz.func307.trans (congrArg some (by kernel_rfl))
 f166:=Tryz.func308.trans (congrArg some (by kernel_rfl))
 f169:=Tryz.func310.trans (congrArg some (by kernel_rfl))
 f170:=Tryz.func309.trans (congrArg some (by kernel_rfl))
 f206:=Tryz.func312.trans (congrArg some (by kernel_rfl))
 f212:=Tryz.func306.trans (congrArg some (by kernel_rfl))
 f240:=Tryz.func339.trans (congrArg some (by kernel_rfl))
 f241:=Tryz.func340.trans (congrArg some (by kernel_rfl))
 f263:=Tryz.func337.trans (congrArg some (by kernel_rfl))
 f264:=Tryz.func338.trans (congrArg some (by kernel_rfl))
 f276:=Tryz.func361.trans (congrArg some (by kernel_rfl))
 f277:=Tryz.func362.trans (congrArg some (by kernel_rfl))
 t0:=Tryz.underlying0
 a0:=Tryz.isAgg0
 z0:=Tryz.sizeOf0
 v0:=Tryz.zeroValue0
 t3:=Tryz.underlying3
 a3:=Tryz.isAgg3
 z3:=Tryz.sizeOf3
 v3:=Tryz.zeroValue3
 t4:=Tryz.underlying4
 a4:=Tryz.isAgg4
 z4:=Tryz.sizeOf4
 v4:=Tryz.zeroValue4
 t5:=Tryz.underlying5
 a5:=Tryz.isAgg5
 z5:=Tryz.sizeOf5
 v5:=Tryz.zeroValue5
 t9:=Tryz.underlying9
 a9:=Tryz.isAgg9
 z9:=Tryz.sizeOf9
 v9:=Tryz.zeroValue9
 t20:=Tryz.underlying20
 a20:=Tryz.isAgg20
 z20:=Tryz.sizeOf20
 v20:=Tryz.zeroValue20
 t37:=Tryz.underlying341
 a37:=Tryz.isAgg341
 z37:=Tryz.sizeOf341
 v37:=Tryz.zeroValue341
 t46:=Tryz.underlying127
 a46:=Tryz.isAgg127
 z46:=Tryz.sizeOf127
 v46:=Tryz.zeroValue127
 t51:=Tryz.underlying231
 a51:=Tryz.isAgg231
 z51:=Tryz.sizeOf231
 v51:=Tryz.zeroValue231
 t53:=Tryz.underlying124
 a53:=Tryz.isAgg124
 z53:=Tryz.sizeOf124
 v53:=Tryz.zeroValue124
 t70:=Tryz.underlying356
 a70:=Tryz.isAgg356
 z70:=Tryz.sizeOf356
 v70:=Tryz.zeroValue356
 t72:=Tryz.underlying358
 a72:=Tryz.isAgg358
 z72:=Tryz.sizeOf358
 v72:=Tryz.zeroValue358
 t75:=Tryz.underlying360
 a75:=Tryz.isAgg360
 z75:=Tryz.sizeOf360
 v75:=Tryz.zeroValue360
 t76:=Tryz.underlying361
 a76:=Tryz.isAgg361
 z76:=Tryz.sizeOf361
 v76:=Tryz.zeroValue361
 t109:=Tryz.underlying354
 a109:=Tryz.isAgg354
 z109:=Tryz.sizeOf354
 v109:=Tryz.zeroValue354
 t127:=Tryz.underlying383
 a127:=Tryz.isAgg383
 z127:=Tryz.sizeOf383
 v127:=Tryz.zeroValue383
 t146:=Tryz.underlying379
 a146:=Tryz.isAgg379
 z146:=Tryz.sizeOf379
 v146:=Tryz.zeroValue379
 t148:=Tryz.underlying381
 a148:=Tryz.isAgg381
 z148:=Tryz.sizeOf381
 v148:=Tryz.zeroValue381
 t164:=Tryz.underlying391
 a164:=Tryz.isAgg391
 z164:=Tryz.sizeOf391
 v164:=Tryz.zeroValue391 }
theorem Tryz.Builder_Extra_105:Builder.Extra Tryz.prog Tryz.lays105_ren:={
 sizeBuilder:=by kernel_rfl
 liesBuilder:=by kernel_rfl
 t5:=Tryz.underlying5
 a5:=Tryz.isAgg5
 z5:=Tryz.sizeOf5
 v5:=Tryz.zeroValue5
 infoByte:=by kernel_rfl
 cellsByte:=by kernel_rfl
 sizeByte:=by kernel_rfl
 neB5:=by decide }
open Go.RowKit Go.Lib in
theorem Tryz.strings_Repeat (s:ByteArray) (c:Nat) (w:World) (hc:c≤9223372036854775807) (hlen:s.size * c≤140737488355328) :
  Calls Tryz.prog 251 #[.string s,.int .i64 c] w fun e w'=>e = .returned (.string ⟨(Lib.repeatL s.data.toList c).toArray⟩)∧Below w.heap.size w w':=Any.strings_Repeat Tryz.lays105 Tryz.Builder_Extra_105 s c w hc hlen
end Go.Proofs
namespace Go.Proofs.YtjblgpmagampbaaGreatDoor
open VL Go.RowKit
def ZsN (l:List UInt8):List Bool:=(List.range 256).map fun j=>l.contains (UInt8.ofNat j)
def Ze7 (l:List UInt8):List PV:=(ZsN l).map PV.bool
theorem Zh4 (l:List UInt8):(Ze7 l).length=256:=by simp [Ze7,ZsN]
theorem ZrK (l:List UInt8) (x:UInt8):(Ze7 l)[x.toNat]? = some (.bool (l.contains x)):=by
 have hx:x.toNat<256:=x.toNat_lt
 unfold Ze7 ZsN
 rw [List.getElem?_map,List.getElem?_map,List.getElem?_range hx]
 simp
theorem Zow (l:List UInt8) (x:UInt8):ZlI false 1 ((Ze7 l).drop (x.toNat * 1))=some (.bool (l.contains x)):=by
 show ((Ze7 l).drop (x.toNat * 1))[0]? = _
 rw [List.getElem?_drop,Nat.mul_one,Nat.add_zero]
 exact ZrK l x
theorem Zox {f:Nat→Option (Gen×VObj)} {t:Nat} {g:Gen} {l:List UInt8} (h:ZG f t g=some (.box (Ze7 l))) (s:ByteArray):Ze2 (frz f) [.str s,.ptr t g 0]=some [.str s,.cel (Ze7 l)]:=by
 have e:Zl4 f (.ptr t g 0)=some (.cel (Ze7 l)):=by
  simp only [Zl4,h,List.drop_zero]
  unfold Ze7
  rw [Zl0]
  rfl
 simp only [Ze2,frz,Zmd,e]
instance:Ar Tryz.prog 324 256 1:=⟨by kernel_rfl⟩
instance:Ze Tryz.prog 324 (List.replicate 256 (.bool false)):=⟨by kernel_rfl⟩
instance:Ld Tryz.prog 324 true 256:=⟨by kernel_rfl⟩
set_option maxRecDepth 100000 in
theorem Zgu (l:List UInt8) (x:UInt8):Zd Tryz.prog 314 [.cel (Ze7 l),.int .u8 (x.toNat:Int)] (.bool (l.contains x)):=by
 refine Zbq mix Tryz.func314 (by kernel_rfl) rfl (by kernel_rfl) ?_
 repeat (first | (refine ZrD rfl rfl ?_) | (refine ZmE rfl rfl rfl x.toNat_lt ?_) | (refine ZA rfl rfl (Zow l x) ?_) | refine Zhp ?_)
 exact ZdW rfl rfl rfl
def Zdd (l:List UInt8) (s:ByteArray):ByteArray:=⟨(s.data.toList.dropWhile l.contains).toArray⟩
def Zd3 (l:List UInt8) (s:ByteArray):ByteArray:=⟨(s.data.toList.reverse.dropWhile l.contains).reverse.toArray⟩
theorem Zoy {l:List UInt8} {s:ByteArray} (h:¬ 0<s.size):Zdd l s=s:=by
 obtain ⟨⟨d⟩⟩:=s
 cases d with
 | nil=>rfl
 | cons a r=>exact absurd (Nat.succ_pos _) h
theorem Znq {l:List UInt8} {s:ByteArray} (h:0<s.size) (h1:l.contains (s[0]'h)=false):Zdd l s=s:=by
 obtain ⟨⟨d⟩⟩:=s
 cases d with
 | nil=>exact absurd h (Nat.lt_irrefl 0)
 | cons a r=>
   have h2:l.contains a=false:=h1
   show (⟨(List.dropWhile l.contains (a::r)).toArray⟩:ByteArray)=⟨(a::r).toArray⟩
   rw [List.dropWhile_cons,if_neg (by rw [h2];simp)]
theorem Znr {l:List UInt8} {s:ByteArray} (h:0<s.size) (h1:l.contains (s[0]'h)=true):Zdd l (s.extract 1 s.size)=Zdd l s:=by
 obtain ⟨⟨d⟩⟩:=s
 cases d with
 | nil=>exact absurd h (Nat.lt_irrefl 0)
 | cons a r=>
   have h2:l.contains a=true:=h1
   have e:(⟨(a::r).toArray⟩:ByteArray).extract 1 (a::r).length=⟨(((a::r).drop 1).take ((a::r).length - 1)).toArray⟩:=ByteArray.extract_mk (a::r) 1 (a::r).length
   show Zdd l ((⟨(a::r).toArray⟩:ByteArray).extract 1 (a::r).length)=_
   rw [e]
   show (⟨(List.dropWhile l.contains (((a::r).drop 1).take ((a::r).length - 1))).toArray⟩:ByteArray)=⟨(List.dropWhile l.contains (a::r)).toArray⟩
   rw [List.dropWhile_cons,if_pos h2]
   simp
theorem Zoz {l:List UInt8} {s:ByteArray} (h:¬ 0<s.size):Zd3 l s=s:=by
 obtain ⟨⟨d⟩⟩:=s
 cases d with
 | nil=>rfl
 | cons a r=>exact absurd (Nat.succ_pos _) h
theorem ZjL (s:ByteArray) (n:Nat) (hn:s.size=n+1):∃ r:List UInt8,s.data.toList=r ++ [s[n]'(by omega)]∧r.length=n∧s.extract 0 n=⟨r.toArray⟩:=by
 obtain ⟨⟨d⟩⟩:=s
 have hd:d.length=n+1:=hn
 refine ⟨d.take n,?_,by simp;omega,?_⟩
 ·show d=d.take n ++ [d[n]]
  rw [List.take_append_getElem]
  rw [List.take_of_length_le (by omega)]
 ·have e:(⟨d.toArray⟩:ByteArray).extract 0 n=⟨((d.drop 0).take (n - 0)).toArray⟩:=ByteArray.extract_mk d 0 n
  show (⟨d.toArray⟩:ByteArray).extract 0 n=_
  rw [e]
  simp
theorem Zns {l:List UInt8} {s:ByteArray} {n:Nat} (hn:s.size=n+1) (h1:l.contains (s[n]'(by omega))=false):Zd3 l s=s:=by
 obtain ⟨r,e1,_,_⟩:=ZjL s n hn
 unfold Zd3
 rw [e1,List.reverse_append]
 simp only [List.reverse_cons,List.reverse_nil,List.nil_append,List.cons_append,List.dropWhile,h1]
 rw [List.reverse_reverse,← e1]
theorem Znt {l:List UInt8} {s:ByteArray} {n:Nat} (hn:s.size=n+1) (h1:l.contains (s[n]'(by omega))=true):Zd3 l (s.extract 0 n)=Zd3 l s:=by
 obtain ⟨r,e1,_,e3⟩:=ZjL s n hn
 unfold Zd3
 rw [e1,e3,List.reverse_append]
 simp only [List.reverse_cons,List.reverse_nil,List.nil_append,List.cons_append,List.dropWhile,h1]
set_option maxRecDepth 100000 in
theorem Zf7 (l:List UInt8) (s:ByteArray):Zd Tryz.prog 261 [.str s,.cel (Ze7 l)] (.str (Zdd l s)):=by
 refine Zbq mix Tryz.func261 (by kernel_rfl) rfl (by kernel_rfl) ?_
 repeat (first | refine Zhp ?_)
 refine Zq (α:=ByteArray) (fun c _=>mkS [(0,.str c),(1,.cel (Ze7 l))] [] 2) (fun c=>Zdd l c=Zdd l s) (fun c=>c.size) s 2 rfl (Zew [] ⟨rfl,rfl,trivial⟩ trivial rfl) (fun c _ (hno:Zdd l c=Zdd l s)=>?_)
 repeat (first | refine Zhp ?_ | refine Ze8 Tryz.underlying9 rfl rfl ?_)
 by_cases hz:(0:Int)<(c.size:Int)
 ·refine Zo (by (conv=>lhs;whnf);try rfl) (decide_eq_true hz) ?_
  have hz':0<c.size:=by omega
  have h0:c[0]? = some (c[0]'hz'):=getElem?_pos c 0 hz'
  repeat (first | (refine Zkk Tryz.underlying9 rfl rfl rfl h0 ?_) | (refine Zhw (Zgu l _) rfl rfl rfl ?_) | refine Zhp ?_)
  rcases Bool.eq_false_or_eq_true (l.contains (c[0]'hz')) with hb | hb
  ·refine Zf (by (conv=>lhs;whnf);try rfl) (by rw [hb];rfl) ?_
   repeat (first | (refine Zkl Tryz.underlying9 rfl rfl rfl rfl (by omega) (by omega) rfl ?_) | refine Zhp ?_)
   refine ZR (c.extract 1 c.size) 2 ((Znr hz' hb).trans hno) ?_ (Zew [] ⟨rfl,rfl,trivial⟩ trivial rfl)
   show (c.extract 1 c.size).size<c.size
   rw [ByteArray.size_extract]
   omega
  ·refine Zo (by (conv=>lhs;whnf);try rfl) (by rw [hb];rfl) ?_
   repeat (first | refine Zhp ?_)
   exact ZdW rfl rfl (by rw [← hno,Znq hz' hb];rfl)
 ·refine Zf (by (conv=>lhs;whnf);try rfl) (decide_eq_false hz) ?_
  repeat (first | refine Zhp ?_)
  exact ZdW rfl rfl (by rw [← hno,Zoy (by omega)];rfl)
set_option maxRecDepth 100000 in
theorem Zk9 (l:List UInt8) (s:ByteArray) (hs:s.size≤9223372036854775807):Zd Tryz.prog 346 [.str s,.cel (Ze7 l)] (.str (Zd3 l s)):=by
 refine Zbq mix Tryz.func346 (by kernel_rfl) rfl (by kernel_rfl) ?_
 repeat (first | refine Zhp ?_)
 refine Zq (α:=ByteArray) (fun c _=>mkS [(0,.str c),(1,.cel (Ze7 l))] [] 2) (fun c=>Zd3 l c=Zd3 l s∧c.size≤9223372036854775807) (fun c=>c.size) s 2 ⟨rfl,hs⟩ (Zew [] ⟨rfl,rfl,trivial⟩ trivial rfl) (fun c _ hJ=>?_)
 obtain ⟨(hno:Zd3 l c=Zd3 l s),(hcs:c.size≤9223372036854775807)⟩:=hJ
 repeat (first | refine Zhp ?_ | refine Ze8 Tryz.underlying9 rfl rfl ?_)
 by_cases hz:(0:Int)<(c.size:Int)
 ·refine Zo (by (conv=>lhs;whnf);try rfl) (decide_eq_true hz) ?_
  obtain ⟨n,hn⟩:∃ n,c.size=n+1:=⟨c.size - 1,by omega⟩
  have e1:(c.size:Int) - 1=(n:Int):=by omega
  have h0:c[n]? = some (c[n]'(by omega)):=getElem?_pos c n (by omega)
  have h2:toNat? (PV.int .i64 ((c.size:Int) - 1))=some n:=by rw [e1];exact ZbP
  repeat (first | (refine Zkk Tryz.underlying9 rfl rfl (congrArg (PV.int .i64) e1) h0 ?_) | (refine Zhw (Zgu l _) rfl rfl rfl ?_) | refine Zkj rfl rfl rfl (by omega) (by omega) ?_ | refine Zhp ?_ | refine Ze8 Tryz.underlying9 rfl rfl ?_)
  rcases Bool.eq_false_or_eq_true (l.contains (c[n]'(by omega))) with hb | hb
  ·refine Zf (by (conv=>lhs;whnf);try rfl) (by rw [hb];rfl) ?_
   repeat (first | (refine Zkl Tryz.underlying9 rfl rfl rfl h2 (by omega) (by omega) rfl ?_) | refine Zkj rfl rfl rfl (by omega) (by omega) ?_ | refine Zhp ?_ | refine Ze8 Tryz.underlying9 rfl rfl ?_)
   refine ZR (c.extract 0 n) 2 ⟨(Znt hn hb).trans hno,?_⟩ ?_ (Zew [] ⟨rfl,rfl,trivial⟩ trivial rfl)
   ·show (c.extract 0 n).size≤_
    rw [ByteArray.size_extract]
    omega
   ·show (c.extract 0 n).size<c.size
    rw [ByteArray.size_extract]
    omega
  ·refine Zo (by (conv=>lhs;whnf);try rfl) (by rw [hb];rfl) ?_
   repeat (first | refine Zhp ?_)
   exact ZdW rfl rfl (by rw [← hno,Zns hn hb];rfl)
 ·refine Zf (by (conv=>lhs;whnf);try rfl) (decide_eq_false hz) ?_
  repeat (first | refine Zhp ?_)
  exact ZdW rfl rfl (by rw [← hno,Zoz (by omega)];rfl)
theorem Zkh (l:List UInt8):(Lib.setCells l).toList=(ZsN l).map Value.bool:=by
 rw [Lib.setCells_eq]
 simp [ZsN]
set_option maxRecDepth 1000000 in
theorem Ziv (l:List UInt8) (hs:l.length<4294967281) (hl:∀ (j:Nat) b,l[j]? = some b→b.toNat<128):Zd Tryz.prog 260 [.str ⟨l.toArray⟩] (.tup [.agg (Ze7 l),.bool true]):=
 Zan (vals:=[.string ⟨l.toArray⟩]) (v:=.tuple #[.agg (Lib.setCells l),.bool true]) (by kernel_rfl) rfl (by
   show (PV.dry2 (.agg (Ze7 l))&&(PV.dry2 (.bool true)&&true))=true
   have:(Ze7 l).all PV.dry1=true:=by
    rw [List.all_eq_true]
    intro p hp
    obtain ⟨b,_,rfl⟩:=List.mem_map.1 hp
    rfl
   show ((Ze7 l).all PV.dry1&&_)=true
   rw [this]
   rfl)
  (fun x=>.tup _ _ rfl fun i p v hp hv=>by
   match i,hp,hv with
   | 0,hp,hv=>
     injection hp with hp
     injection hv with hv
     subst hp hv
     refine .agg _ _ (by rw [Zh4,Lib.setCells_size]) fun j q w hq hw=>?_
     rw [← Array.getElem?_toList,Zkh,List.getElem?_map,Option.map_eq_some_iff] at hw
     obtain ⟨b,hb,rfl⟩:=hw
     unfold Ze7 at hq
     rw [List.getElem?_map,hb] at hq
     injection hq with hq
     subst hq
     exact .bool b
   | 1,hp,hv=>injection hp with hp;injection hv with hv;subst hp hv;exact .bool _
   | i+2,hp,_=>simp at hp)
  fun w _=>(Tryz.strings_makeASCIISet (fun w=>Tryz.zeroValue324 w) ⟨l.toArray⟩ w hs (fun j b h=>hl j b (by simpa using h))).mono fun e w' ⟨e1,e2⟩=>by
   have e3:(⟨l.toArray⟩:ByteArray).data.toList=l:=by simp
   rw [e3] at e1 e2
   exact ⟨e1,by rw [e2];exact Below.al (Below.refl _ _) _⟩
end Go.Proofs.YtjblgpmagampbaaGreatDoor
namespace Go.Proofs.YtjblgpmagampbaaGreatDoor
open Go.RowKit
theorem Zka (a b:Title) (W:World):(binOp .eql 24 (.agg #[.int .i64 a.space,.string a.name]) (.agg #[.int .i64 b.space,.string b.name])).run Tryz.prog W = .ok (.bool (decide (a=b))) W:=by
 have e:(if a.space=b.space then if a.name.toList=b.name.toList then true else false else false)=(decide (a=b)):=by
  obtain ⟨a1,a2⟩:=a
  obtain ⟨b1,b2⟩:=b
  simp only [Title.mk.injEq,Zcg]
  (repeat' split)<;>simp_all
 rw [← e]
 go_simp
 (repeat' split)<;>simp_all
theorem Zkb (a b:Title) (W:World):(binOp .neq 24 (.agg #[.int .i64 a.space,.string a.name]) (.agg #[.int .i64 b.space,.string b.name])).run Tryz.prog W = .ok (.bool (!decide (a=b))) W:=by
 have e:(if a.space=b.space then if a.name.toList=b.name.toList then false else true else true)=(!decide (a=b)):=by
  obtain ⟨a1,a2⟩:=a
  obtain ⟨b1,b2⟩:=b
  simp only [Title.mk.injEq,Zcg]
  (repeat' split)<;>simp_all
 rw [← e]
 go_simp
 (repeat' split)<;>simp_all
end Go.Proofs.YtjblgpmagampbaaGreatDoor
namespace Go.Proofs.YtjblgpmagampbaaGreatDoor
namespace VL
open Go.RowKit
def ZaN (σ:Gen→Option (Nat×Gen)):List (Nat×Gen×VObj)→Option (List (Nat×Gen×VObj))
 | []=>some []
 | (_,g,o)::r=>match σ g,rnO σ o,ZaN σ r with
  | some (t2,g2),some o2,some r2=>some ((t2,g2,o2)::r2)
  | _,_,_=>none
theorem ZlS {σ:Gen→Option (Nat×Gen)}:∀ {l l2:List (Nat×Gen×VObj)},ZaN σ l=some l2→∀ t2 g2 o2,(t2,g2,o2) ∈ l2→∃ t g o,(t,g,o) ∈ l∧σ g=some (t2,g2)∧rnO σ o=some o2
 | [],l2,h,t2,g2,o2,hm=>by
   injection h with h
   subst h
   cases hm
 | (t,g,o)::r,l2,h,t2,g2,o2,hm=>by
  simp only [ZaN] at h
  split at h
  ·rename_i t3 g3 o3 r3 h1 h2 h3
   injection h with h
   subst h
   rcases List.mem_cons.1 hm with e | hm
   ·injection e with e1 e2
    injection e2 with e2 e3
    subst e1 e2 e3
    exact ⟨t,g,o,List.mem_cons_self ..,h1,h2⟩
   ·obtain ⟨t',g',o',q1,q2,q3⟩:=ZlS h3 t2 g2 o2 hm
    exact ⟨t',g',o',List.mem_cons_of_mem _ q1,q2,q3⟩
  ·cases h
theorem Zag {σ:Gen→Option (Nat×Gen)}:∀ {a b a2 b2:List (Nat×Gen×VObj)},ZaN σ a=some a2→ZaN σ b=some b2→ZaN σ (a++b)=some (a2++b2)
 | [],b,a2,b2,h,h'=>by injection h with h;subst h;exact h'
 | (t,g,o)::r,b,a2,b2,h,h'=>by
  simp only [ZaN] at h
  split at h
  ·rename_i t3 g3 o3 r3 h1 h2 h3
   injection h with h
   subst h
   simp only [List.cons_append,ZaN,h1,h2,Zag h3 h']
  ·cases h
def Zn9 (σ:Gen→Option (Nat×Gen)) (κ:Nat→Nat) (γ:Nat→Gen) (f:Nat→Option (Gen×VObj)):List (Nat×VObj)→Prop
 | []=>True
 | (t,o)::r=>(∃ o2,rnO σ o=some o2∧f (κ t)=some (γ t,o2))∧Zn9 σ κ γ f r
theorem ZkL {σ:Gen→Option (Nat×Gen)} {κ:Nat→Nat} {γ:Nat→Gen} {f:Nat→Option (Gen×VObj)}:∀ {l:List (Nat×VObj)},Zn9 σ κ γ f l→∀ t o,(t,o) ∈ l→∃ o2,rnO σ o=some o2∧f (κ t)=some (γ t,o2)
 | [],_,t,o,hm=>by cases hm
 | (t',o')::r,h,t,o,hm=>by
  rcases List.mem_cons.1 hm with e | hm
  ·injection e with e1 e2
   subst e1 e2
   exact h.1
  ·exact ZkL h.2 t o hm
theorem Zje {σ:Gen→Option (Nat×Gen)} {κ:Nat→Nat} {γ:Nat→Gen} {f:Nat→Option (Gen×VObj)}:∀ {a b:List (Nat×VObj)},Zn9 σ κ γ f a→Zn9 σ κ γ f b→Zn9 σ κ γ f (a++b)
 | [],_,_,h=>h
 | _::_,_,h,h'=>⟨h.1,Zje h.2 h'⟩
theorem ZlT {κ:Nat→Nat} {l:List (Nat×VObj)} (h:(l.map fun q=>κ q.1).Nodup) {t t':Nat} {o o':VObj} (h1:(t,o) ∈ l) (h2:(t',o') ∈ l) (hne:t≠t'):κ t≠κ t':=fun e=>by
 obtain ⟨i,hi⟩:=List.getElem?_of_mem h1
 obtain ⟨j,hj⟩:=List.getElem?_of_mem h2
 have hij:i≠j:=fun e=>by
  subst e
  rw [hi] at hj
  injection hj with hj
  injection hj with hj
  exact hne hj
 have a1:(l.map fun q=>κ q.1)[i]? = some (κ t):=by rw [List.getElem?_map,hi];rfl
 have a2:(l.map fun q=>κ q.1)[j]? = some (κ t):=by rw [List.getElem?_map,hj];show some (κ t')=_;rw [e]
 exact hij ((List.getElem?_inj (List.getElem?_eq_some_iff.1 a1).1 h).1 (a1.trans a2.symm))
theorem ZkM {l:List (Nat×Gen×VObj)} (h:(l.map (·.1)).Nodup) {t:Nat} {g g':Gen} {o o':VObj} (h1:(t,g,o) ∈ l) (h2:(t,g',o') ∈ l):g=g':=by
 obtain ⟨i,hi⟩:=List.getElem?_of_mem h1
 obtain ⟨j,hj⟩:=List.getElem?_of_mem h2
 have a1:(l.map (·.1))[i]? = some t:=by rw [List.getElem?_map,hi];rfl
 have a2:(l.map (·.1))[j]? = some t:=by rw [List.getElem?_map,hj];rfl
 have e:=(List.getElem?_inj (List.getElem?_eq_some_iff.1 a1).1 h).1 (a1.trans a2.symm)
 subst e
 rw [hi] at hj
 injection hj with hj
 injection hj with _ hj
 injection hj
section
variable {P:Program} [WInv P] {ops:Array Oper} {o:Oper} {i:Nat} {s:FS}
theorem ZpJ {f:FuncId} {es:Array Operand} {ts:Array TypeId} {args:List PV} {obs:List (Nat×VObj)} {res res2:PV} {obs' obs2:List (Nat×Gen×VObj)} {dom:Nat→Bool} {κ κ':Nat→Nat} {γ:Nat→Gen} (hw:Zb ops s o=some true) (ho:o.op = .call { callee:=.value (.func f),args:=es,argTypes:=ts })
  (he:rnA (σ0 κ γ) args=some (es.toList.map (ev s))) (hob:Zn9 (σ0 κ γ) κ γ s.ob obs) (hinj:(obs.map fun q=>κ q.1).Nodup) (hdom:∀ k,dom k=true→∃ o,(k,o) ∈ obs) (hkey:∀ t o',(t,o') ∈ obs→κ t ∈ Zr s o) (hres:rnP (σ1 dom κ γ κ' s.ng i) res=some res2)
  (h2:ZaN (σ1 dom κ γ κ' s.ng i) obs'=some obs2) (h3:(obs'.map (·.1)).Nodup) (hc:ContractG P f args obs res obs'):OpR P ops i o s ⟨res2,usG κ obs obs2⟩:=.anyx hw fun s' r hA hI=>by
 obtain ⟨e1,_,_⟩:=ZcJ ho hA
 rw [hA.ng] at hres h2
 refine ZqL ho (by rw [e1];exact he) (fun t o' hm=>?_) (fun t o t' o' h h' hne=>ZlT hinj h h' hne) hdom hres (ZlS h2) (fun t2 g2 o2 t2' g2' o2' t g o t' g' o' _ _ a1 a2 b1 b2 hne e=>?_) hc hI
 ·obtain ⟨o2,q1,q2⟩:=ZkL hob t o' hm
  exact ⟨o2,q1,by rw [← hA.ob _ (hkey t o' hm)];exact q2⟩
 ·subst e
  have:=ZkM h3 a1 a2
  subst this
  rw [b1] at b2
  injection b2 with b2
  injection b2 with b2
  exact hne b2
end
section
variable {P:Program} [WInv P] {ops:Array Oper} {draw:Bool} {i:Nat} {L:List Oper} {acc:List (List Nat×List Nat)} {K:FS→Prop} {tm:List (Nat×PV)} {ob:List (Nat×Option (Gen×VObj))} {ng:Nat}
 {d:Option Tmp} {ty:TypeId} {pos:String} {after:Array Edge} {gd:Option (Nat×Bool)}
theorem ZmB {f:FuncId} {es:Array Operand} {ts:Array TypeId} {args:List PV} {obs:List (Nat×VObj)} {res res2:PV} {obs' obs2:List (Nat×Gen×VObj)} {us:List (Nat×Option (Gen×VObj))} (dom:Nat→Bool) (κ:Nat→Nat) (γ:Nat→Gen) (κ':Nat→Nat) (hc:ContractG P f args obs res obs')
  (hw:Zb ops (mkS tm ob ng) ⟨d,.call ⟨.value (.func f),es,ts⟩,ty,pos,after,gd⟩=some true) (he:rnA (σ0 κ γ) args=some (es.toList.map (evL tm))) (hob:Zn9 (σ0 κ γ) κ γ (Zg ob) obs) (hinj:(obs.map fun q=>κ q.1).Nodup) (hdom:∀ k,dom k=true→∃ o,(k,o) ∈ obs)
  (hkey:∀ t o',(t,o') ∈ obs→κ t ∈ Zr (mkS tm ob ng) ⟨d,.call ⟨.value (.func f),es,ts⟩,ty,pos,after,gd⟩) (hres:rnP (σ1 dom κ γ κ' ng i) res=some res2) (h2:ZaN (σ1 dom κ γ κ' ng i) obs'=some obs2) (h3:(obs'.map (·.1)).Nodup) (hus:usG κ obs obs2=us)
  (k:GoL P ops draw (i+1) L (acc ++ [(Zr (mkS tm ob ng) ⟨d,.call ⟨.value (.func f),es,ts⟩,ty,pos,after,gd⟩,us.map (·.1))]) (mkS (Zau d res2 tm) (us.reverse++ob) ng) K):GoL P ops draw i (⟨d,.call ⟨.value (.func f),es,ts⟩,ty,pos,after,gd⟩::L) acc (mkS tm ob ng) K:=by
 subst hus
 refine ZbR (ZpJ (dom:=dom) (κ:=κ) (κ':=κ') (γ:=γ) hw rfl (by rw [ZB];exact he) hob hinj hdom hkey hres h2 h3 hc) ?_
 rw [Zac]
 exact k
end
end VL
end Go.Proofs.YtjblgpmagampbaaGreatDoor
namespace Go.Proofs.YtjblgpmagampbaaGreatDoor
namespace VL
open Go.RowKit
def rnC (σ:Gen→Option (Nat×Gen)) (x:Ctx):Ctx:=⟨fun g'=>∃ k g,σ g'=some (k,g)∧x.G g,x.F,x.W,fun g'=>match σ g' with
 | some q=>x.ρ q.2
 | none=>x.ρ g'⟩
theorem Zto (σ:Gen→Option (Nat×Gen)) (x:Ctx):Bk σ x (rnC σ x):=
 ⟨fun g k g' h hG=>⟨⟨k,g',h,hG⟩,by simp only [rnC,h]⟩,fun _ _ h=>h,fun _ _ _ _ h=>h⟩
def Zfs (σ:Gen→Option (Nat×Gen)) (tm:List (Nat×PV)):List (Nat×PV)→Prop
 | []=>True
 | (k,v)::r=>rnP σ v=some (look tm k)∧Zfs σ tm r
def Zq6 (σ:Gen→Option (Nat×Gen)) (ob:List (Nat×Option (Gen×VObj))):List (Nat×Gen×VObj)→Prop
 | []=>True
 | (_,g',o')::r=>(∃ k g o,σ g'=some (k,g)∧rnO σ o'=some o∧Zg ob k=some (g,o))∧Zq6 σ ob r
def somes (l:List (Nat×Gen×VObj)):List (Nat×Option (Gen×VObj)):=l.map fun q=>(q.1,some q.2)
theorem ZeT {t:Nat} {g:Gen} {o:VObj}:∀ {l:List (Nat×Gen×VObj)},Zg (somes l) t=some (g,o)→(t,g,o) ∈ l
 | [],h=>by cases h
 | q::r,h=>by
   change (if t=q.1 then some q.2 else Zg (somes r) t)=some (g,o) at h
   split at h
   ·rename_i e
    injection h with h
    subst e
    have:q=(q.1,g,o):=by rw [← h]
    exact this ▸ List.mem_cons_self ..
   ·exact List.mem_cons_of_mem _ (ZeT h)
theorem ZgZ {σ:Gen→Option (Nat×Gen)} {ob:List (Nat×Option (Gen×VObj))}:∀ {l:List (Nat×Gen×VObj)},Zq6 σ ob l→∀ t g' o',(t,g',o') ∈ l→∃ k g o,σ g'=some (k,g)∧rnO σ o'=some o∧Zg ob k=some (g,o)
 | [],_,_,_,_,hm=>by cases hm
 | (t',g2,o2)::r,h,t,g',o',hm=>by
  rcases List.mem_cons.1 hm with e | hm
  ·injection e with e1 e2
   injection e2 with e2 e3
   subst e1 e2 e3
   exact h.1
  ·exact ZgZ h.2 t g' o' hm
theorem ZkR {α β:Type} {f:α→β} {l:List α} (h:(l.map f).Nodup) {a b:α} (ha:a ∈ l) (hb:b ∈ l) (e:f a=f b):a=b:=by
 obtain ⟨i,hi⟩:=List.getElem?_of_mem ha
 obtain ⟨j,hj⟩:=List.getElem?_of_mem hb
 have a1:(l.map f)[i]? = some (f a):=by rw [List.getElem?_map,hi];rfl
 have a2:(l.map f)[j]? = some (f a):=by rw [List.getElem?_map,hj,e];rfl
 have:=(List.getElem?_inj (List.getElem?_eq_some_iff.1 a1).1 h).1 (a1.trans a2.symm)
 subst this
 rw [hi] at hj
 injection hj
theorem Zq7 (σ:Gen→Option (Nat×Gen)) {tm tm':List (Nat×PV)} {ob:List (Nat×Option (Gen×VObj))} {l:List (Nat×Gen×VObj)} {ng ng':Nat} (h0:∀ g:Gen,g.1=0→∃ k,σ g=some (k,g)) (h1:Zfs σ tm tm') (h2:Zq6 σ ob l) (h3:∀ g k g0,σ g=some (k,g0)→g.1<ng')
  (h4:(l.map fun q=>(σ q.2.1).map (·.1)).Nodup):Shift (mkS tm ob ng) (mkS tm' (somes l) ng'):=fun r a x h=>by
 have bk:=Zto σ x
 have k1:∀ (l:List (Nat×PV)),Zfs σ tm l→∀ t,look l t = .un∨rnP σ (look l t)=some (look tm t):=fun l=>by
  induction l with
  | nil=>intro _ t;exact .inl rfl
  | cons q l ih=>
    obtain ⟨k,v⟩:=q
    intro hl t
    show (if t=k then v else look l t)=_∨rnP σ (if t=k then v else look l t)=_
    split
    ·rename_i e;subst e;exact .inr hl.1
    ·exact ih hl.2 t
 have hr:∀ g' k g,σ g'=some (k,g)→(rnC σ x).ρ g'=x.ρ g:=fun g' k g e=>by simp only [rnC,e]
 refine ⟨rnC σ x,rfl,h.defers,h.size,h.gr,fun g' hg'=>.inl ?_,fun t=>?_,fun t g' o' ho=>?_,fun t t' g g' o o' b hne e1 e2 hb=>?_,h.flt,h.f0,h.fnew,fun g hg=>?_,h.inv,h.keep⟩
 ·obtain ⟨k,g,e,_⟩:=hg'
  exact h3 g' k g e
 ·rcases k1 tm' h1 t with e | e
  ·show Rep _ (look tm' t) _
   rw [e];exact .un _
  ·exact Zrn bk e (h.tm t)
 ·obtain ⟨k,g,o,e1,e2,e3⟩:=ZgZ h2 t g' o' (ZeT ho)
  obtain ⟨q1,q2⟩:=h.ob k g o e3
  exact ⟨⟨k,g,e1,q1⟩,Zro bk e2 (hr g' k g e1) (fun _ _ h=>h) rfl (fun b hb=>(q2.lt b hb).2) q2⟩
 ·have m1:=ZeT e1
  have m2:=ZeT e2
  obtain ⟨k1,g1,o1,a1,a2,a3⟩:=ZgZ h2 t g o m1
  obtain ⟨k2,g2,o2,c1,c2,c3⟩:=ZgZ h2 t' g' o' m2
  rw [hr g k1 g1 a1] at hb
  rw [hr g' k2 g2 c1]
  refine h.apart k1 k2 g1 g2 o1 o2 b (fun e=>hne ?_) a3 c3 hb
  have:=ZkR h4 m1 m2 (by simp only [a1,c1,Option.map_some,e])
  injection this
 ·obtain ⟨k,e⟩:=h0 g (h.inv.2 g hg)
  exact ⟨⟨k,g,e,(h.rho g hg).1⟩,(hr g k g e).trans (h.rho g hg).2⟩
end VL
end Go.Proofs.YtjblgpmagampbaaGreatDoor
namespace Go.Proofs.YtjblgpmagampbaaGreatDoor
structure Node where
 kind:Int
 tag:Int
 text:ByteArray
 kids:List (List VL.PV)
 args:List (List VL.PV)
structure Arg where
 named:Bool
 name:List (List VL.PV)
 value:List (List VL.PV)
open VL in
def Node.cs (x:Node):List PV:=[.int .i64 x.kind,.int .i64 x.tag,.str x.text,.sl x.kids,.sl x.args]
open VL in
def Arg.cs (x:Arg):List PV:=[.bool x.named,.sl x.name,.sl x.value]
namespace VL
open Go.RowKit
structure El where
 kind:Int
 tag:Int
 count:Int
 list:List (List PV)
 args:Option (List Arg×Arg)
section
variable (NT AT ET:Nat)
def ZfS (b:Nat) (ν:Nat→Gen):Option (List Arg×Arg)→List (List PV)
 | none=>[]
 | some (pre,a)=>pre.map Arg.cs ++ [[.bool a.named,.sl a.name,.row (b+3) (ν (b+3))]]
def Zla (b:Nat) (ν:Nat→Gen):Option (List Arg×Arg)→List (Nat×Gen×VObj)
 | none=>[]
 | some (_,a)=>[(b+3,ν (b+3),.row NT 5 false a.value)]
def elO (b:Nat) (ν:Nat→Gen) (e:El):List (Nat×Gen×VObj):=
 (b,ν b,.box [.int .i64 e.kind,.int .i64 e.tag,.int .i64 e.count,.row (b+1) (ν (b+1)),.row (b+2) (ν (b+2))]) ::
 (b+1,ν (b+1),.row NT 5 false e.list)::(b+2,ν (b+2),.prow AT 3 (ZfS b ν e.args))::Zla NT b ν e.args
def Za4 (r:List El):Nat:=2000+10 * r.length
def ZeV (ν:Nat→Gen):List El→List (Nat×Gen×VObj)
 | []=>[]
 | e::r=>elO NT AT (Za4 r) ν e++ZeV ν r
def Zdh (ν:Nat→Gen):List El→List (List PV)
 | []=>[]
 | _::r=>Zdh ν r ++ [[.ptr (Za4 r) (ν (Za4 r)) 0]]
def stO (ν:Nat→Gen) (e:El) (r:List El):List (Nat×Gen×VObj):=
 (0,ν 0,.box [.row 1000 (ν 1000)])::(1000,ν 1000,.prow ET 1 (Zdh ν r ++ [[.ptr 1001 (ν 1001) 0]]))::(elO NT AT 1001 ν e++ZeV NT AT ν r)
end
section
variable {NT AT ET:Nat} {σ:Gen→Option (Nat×Gen)}
theorem ZaB:∀ {a b a2 b2:List (List PV)},ZeY σ a=some a2→ZeY σ b=some b2→ZeY σ (a++b)=some (a2++b2)
 | [],b,a2,b2,h,h'=>by injection h with h;subst h;exact h'
 | e::r,b,a2,b2,h,h'=>by
   simp only [ZeY] at h
   split at h
   ·rename_i q qs h1 h2
    injection h with h
    subst h
    simp only [List.cons_append,ZeY,h1,ZaB h2 h']
   ·cases h
theorem Ziy:∀ (l:List Arg),ZeY σ (l.map Arg.cs)=some (l.map Arg.cs)
 | []=>rfl
 | a::l=>by
   show (match rnL σ a.cs,ZeY σ (l.map Arg.cs) with | some q,some qs=>some (q::qs) | _,_=>none)=_
   rw [Ziy l]
   rfl
theorem Zgx {b b':Nat} {ν ν':Nat→Gen} (h:∀ j,j<4→σ (ν (b+j))=some (b'+j,ν' (b'+j))) (e:El):ZaN σ (elO NT AT b ν e)=some (elO NT AT b' ν' e):=by
 have h0:=h 0 (by omega)
 have h1:=h 1 (by omega)
 have h2:=h 2 (by omega)
 have h3:=h 3 (by omega)
 rw [Nat.add_zero,Nat.add_zero] at h0
 obtain ⟨k,t,c,l,args⟩:=e
 cases args with
 | none=>
   simp only [elO,Zla,ZfS,ZaN,rnO,rnL,rn1,h0,h1,h2,Option.map_some,ZeY]
 | some q=>
   obtain ⟨pre,a⟩:=q
   have:ZeY σ (pre.map Arg.cs ++ [[.bool a.named,.sl a.name,.row (b+3) (ν (b+3))]])=some (pre.map Arg.cs ++ [[.bool a.named,.sl a.name,.row (b'+3) (ν' (b'+3))]]):=
    ZaB (Ziy pre) (by simp only [ZeY,rnL,rn1,h3,Option.map_some])
   simp only [elO,Zla,ZfS,ZaN,rnO,rnL,rn1,h0,h1,h2,h3,Option.map_some,this]
theorem Zha {ν ν':Nat→Gen} (h:∀ k,2000≤k→σ (ν k)=some (k,ν' k)):∀ (r:List El),ZaN σ (ZeV NT AT ν r)=some (ZeV NT AT ν' r)
 | []=>rfl
 | e::r=>Zag (Zgx (fun j _=>h _ (by unfold Za4;omega)) e) (Zha h r)
theorem Zhb {ν ν':Nat→Gen} (h:∀ k,2000≤k→σ (ν k)=some (k,ν' k)):∀ (r:List El),ZeY σ (Zdh ν r)=some (Zdh ν' r)
 | []=>rfl
 | e::r=>ZaB (Zhb h r) (by simp only [ZeY,rnL,rn1,h (Za4 r) (by unfold Za4;omega),Option.map_some])
theorem ZjM {ν ν':Nat→Gen} (h:∀ k,k=0∨1000≤k→σ (ν k)=some (k,ν' k)) (e:El) (r:List El):ZaN σ (stO NT AT ET ν e r)=some (stO NT AT ET ν' e r):=by
 have h0:=h 0 (.inl rfl)
 have h1:=h 1000 (.inr (by omega))
 have h2:=h 1001 (.inr (by omega))
 have hp:ZeY σ (Zdh ν r ++ [[.ptr 1001 (ν 1001) 0]])=some (Zdh ν' r ++ [[.ptr 1001 (ν' 1001) 0]]):=ZaB (Zhb (fun k hk=>h k (.inr (by omega))) r) (by simp only [ZeY,rnL,rn1,h2,Option.map_some])
 have he:=Zag (Zgx (NT:=NT) (AT:=AT) (b:=1001) (b':=1001) (fun j _=>h _ (.inr (by omega))) e) (Zha (NT:=NT) (AT:=AT) (fun k hk=>h k (.inr (by omega))) r)
 simp only [stO,ZaN,rnO,rnL,rn1,h0,h1,Option.map_some,hp,he]
def Za5 (k:Nat):Bool:=k == 0||decide (1000≤k)
theorem ZcT {b:Nat} {ν:Nat→Gen} {e:El} {q:Nat×Gen×VObj} (h:q ∈ elO NT AT b ν e):b≤q.1∧q.1<b+4∧q.2.1=ν q.1:=by
 unfold elO at h
 rcases List.mem_cons.1 h with rfl | h
 ·exact ⟨Nat.le_refl _,by show b<_;omega,rfl⟩
 ·rcases List.mem_cons.1 h with rfl | h
  ·exact ⟨by show b≤_;omega,by show b+1<_;omega,rfl⟩
  ·rcases List.mem_cons.1 h with rfl | h
   ·exact ⟨by show b≤_;omega,by show b+2<_;omega,rfl⟩
   ·unfold Zla at h
    split at h
    ·cases h
    ·obtain rfl:=List.mem_singleton.1 h
     exact ⟨by show b≤_;omega,by show b+3<_;omega,rfl⟩
theorem ZdE (b:Nat) (ν:Nat→Gen) (e:El):((elO NT AT b ν e).map (·.1)).Nodup:=by
 obtain ⟨k,t,c,l,args⟩:=e
 cases args<;>simp [elO,Zla]
theorem Zcj {ν:Nat→Gen} {q:Nat×Gen×VObj}:∀ {r:List El},q ∈ ZeV NT AT ν r→2000≤q.1∧q.1<Za4 r∧q.2.1=ν q.1
 | [],h=>by cases h
 | e::r,h=>by
   have hb:Za4 (e::r)=Za4 r+10:=by unfold Za4;rw [List.length_cons];omega
   rw [hb]
   rcases List.mem_append.1 h with h | h
   ·obtain ⟨h1,h2,h3⟩:=ZcT h
    exact ⟨by have:2000≤Za4 r:=by unfold Za4;omega
              omega,by omega,h3⟩
   ·obtain ⟨h1,h2,h3⟩:=Zcj h
    exact ⟨h1,by omega,h3⟩
theorem Zeo {α:Type} {a b:List α} (h1:a.Nodup) (h2:b.Nodup) (h:∀ x ∈ a,x ∉ b):(a++b).Nodup:=by
 rw [List.nodup_append]
 exact ⟨h1,h2,fun x hx y hy e=>h x hx (e ▸ hy)⟩
theorem Zfy (ν:Nat→Gen):∀ (r:List El),((ZeV NT AT ν r).map (·.1)).Nodup
 | []=>List.nodup_nil
 | e::r=>by
   unfold ZeV
   rw [List.map_append]
   refine Zeo (ZdE _ ν e) (Zfy ν r) fun k hk hk'=>?_
   obtain ⟨q,hq,rfl⟩:=List.mem_map.1 hk
   obtain ⟨q',hq',e'⟩:=List.mem_map.1 hk'
   have:=(ZcT hq).1
   have:=(Zcj hq').2.1
   omega
theorem Zdi {ν:Nat→Gen} {e:El} {r:List El} {q:Nat×Gen×VObj} (h:q ∈ stO NT AT ET ν e r):(q.1=0∨1000≤q.1∧q.1<1005∨2000≤q.1)∧q.2.1=ν q.1:=by
 unfold stO at h
 rcases List.mem_cons.1 h with rfl | h
 ·exact ⟨.inl rfl,rfl⟩
 ·rcases List.mem_cons.1 h with rfl | h
  ·exact ⟨.inr (.inl ⟨Nat.le_refl _,by show 1000<_;omega⟩),rfl⟩
  ·rcases List.mem_append.1 h with h | h
   ·obtain ⟨h1,h2,h3⟩:=ZcT h
    exact ⟨.inr (.inl ⟨by omega,by omega⟩),h3⟩
   ·obtain ⟨h1,h2,h3⟩:=Zcj h
    exact ⟨.inr (.inr h1),h3⟩
theorem Zay (ν:Nat→Gen) (e:El) (r:List El):((stO NT AT ET ν e r).map (·.1)).Nodup:=by
 unfold stO
 rw [List.map_cons,List.map_cons,List.map_append,List.nodup_cons,List.nodup_cons]
 have hel:∀ k ∈ (elO NT AT 1001 ν e).map (·.1),1001≤k∧k<1005:=fun k hk=>by
  obtain ⟨q,hq,rfl⟩:=List.mem_map.1 hk
  exact ⟨(ZcT hq).1,(ZcT hq).2.1⟩
 have hlo:∀ k ∈ (ZeV NT AT ν r).map (·.1),2000≤k:=fun k hk=>by
  obtain ⟨q,hq,rfl⟩:=List.mem_map.1 hk
  exact (Zcj hq).1
 refine ⟨fun h=>?_,fun h=>?_,Zeo (ZdE _ ν e) (Zfy ν r) fun k hk hk'=>?_⟩
 ·rcases List.mem_cons.1 h with h | h
  ·cases h
  ·rcases List.mem_append.1 h with h | h
   ·have:=hel _ h;omega
   ·have:=hlo _ h;omega
 ·rcases List.mem_append.1 h with h | h
  ·have:=hel _ h;omega
  ·have:=hlo _ h;omega
 ·have:=hel _ hk
  have:=hlo _ hk'
  omega
theorem ZbB (a b:List (Nat×Option (Gen×VObj))) (t:Nat) (h:∀ q ∈ a,q.1≠t):Zg (a++b) t=Zg b t:=by
 induction a with
 | nil=>rfl
 | cons q a ih=>
   show (if t=q.1 then q.2 else Zg (a++b) t)=_
   rw [if_neg fun e=>h q (List.mem_cons_self ..) e.symm]
   exact ih fun q' hq'=>h q' (List.mem_cons_of_mem _ hq')
theorem Zbr:∀ {l:List (Nat×Gen×VObj)} (b:List (Nat×Option (Gen×VObj))),(l.map (·.1)).Nodup→∀ {t:Nat} {g:Gen} {o:VObj},(t,g,o) ∈ l→Zg (somes l++b) t=some (g,o)
 | [],_,_,_,_,_,h=>by cases h
 | q::l,b,hn,t,g,o,h=>by
   rw [List.map_cons,List.nodup_cons] at hn
   show (if t=q.1 then some q.2 else Zg (somes l++b) t)=_
   rcases List.mem_cons.1 h with e | h
   ·subst e
    exact if_pos rfl
   ·rw [if_neg fun e=>hn.1 (by rw [← e];exact List.mem_map.2 ⟨_,h,rfl⟩)]
    exact Zbr b hn.2 h
theorem Zfz {l:List (Nat×Gen×VObj)} {q:Nat×Option (Gen×VObj)} (h:q ∈ somes l):∃ g o,(q.1,g,o) ∈ l∧q.2=some (g,o):=by
 obtain ⟨⟨t,g,o⟩,h1,rfl⟩:=List.mem_map.1 h
 exact ⟨g,o,h1,rfl⟩
def Has (ob:List (Nat×Option (Gen×VObj))) (l:List (Nat×Gen×VObj)):Prop:=∀ t g o,(t,g,o) ∈ l→Zg ob t=some (g,o)
theorem ZaU {lits:List (Nat×Option (Gen×VObj))} {ν:Nat→Gen} {e:El} {r:List El} (h:(lits.all fun q=>!Za5 q.1)=true):Has (lits++somes (stO NT AT ET ν e r)) (stO NT AT ET ν e r):=fun t g o hm=>by
 have hk:=(Zdi hm).1
 rw [ZbB _ _ t fun q hq hqt=>?_]
 ·have:=Zbr [] (Zay ν e r) hm
  rwa [List.append_nil] at this
 ·have:=List.all_eq_true.1 h q hq
  rw [hqt] at this
  unfold Za5 at this
  simp only [Bool.not_eq_true',Bool.or_eq_false_iff,beq_eq_false_iff_ne,decide_eq_false_iff_not] at this
  change t=0∨1000≤t∧t<1005∨2000≤t at hk
  omega
end
end VL
end Go.Proofs.YtjblgpmagampbaaGreatDoor
namespace Go.Proofs.YtjblgpmagampbaaGreatDoor
open VL
def ZoN:List PV→Option Node
 | [.int .i64 k,.int .i64 t,.str s,.sl a,.sl b]=>some ⟨k,t,s,a,b⟩
 | _=>none
theorem ZoO {e:List PV} {n:Node} (h:ZoN e=some n):e=n.cs:=by
 unfold ZoN at h
 split at h
 ·injection h with h
  subst h
  rfl
 ·cases h
def ZrX:List PV→Option Arg
 | [.bool b,.sl n,.sl v]=>some ⟨b,n,v⟩
 | _=>none
theorem Zqs {e:List PV} {n:Arg} (h:ZrX e=some n):e=n.cs:=by
 unfold ZrX at h
 split at h
 ·injection h with h
  subst h
  rfl
 ·cases h
def rdL {α:Type} (f:List PV→Option α):List (List PV)→Option (List α)
 | []=>some []
 | e::es=>match f e,rdL f es with
   | some x,some xs=>some (x::xs)
   | _,_=>none
theorem ZoP {α:Type} {f:List PV→Option α} {cs:α→List PV} (hf:∀ e x,f e=some x→e=cs x):∀ {l:List (List PV)} {xs:List α},rdL f l=some xs→l=xs.map cs
 | [],xs,h=>by injection h with h;subst h;rfl
 | e::es,xs,h=>by
   simp only [rdL] at h
   split at h
   ·rename_i x ys h1 h2
    injection h with h
    subst h
    rw [List.map_cons,← hf e x h1,← ZoP hf h2]
   ·cases h
def Zgb (l:List (List PV)):Option (List Node):=rdL ZoN l
theorem Zdt {l:List (List PV)} {xs:List Node} (h:Zgb l=some xs):l=xs.map Node.cs:=ZoP (fun _ _ h=>ZoO h) h
def Zrl (l:List (List PV)):Option (List Arg):=rdL ZrX l
theorem ZoQ {l:List (List PV)} {xs:List Arg} (h:Zrl l=some xs):l=xs.map Arg.cs:=ZoP (fun _ _ h=>Zqs h) h
namespace VL
theorem ZsC {P:Program} [WInv P] {ops:Array Oper} {draw:Bool} {i:Nat} {L:List Oper} {acc:List (List Nat×List Nat)} {K:FS→Prop} {tm:List (Nat×PV)} {ob:List (Nat×Option (Gen×VObj))} {ng:Nat} (t:Nat) {l l':List (List PV)} (h:l=l') (hx:look tm t = .sl l) (k:GoL P ops draw i L acc (mkS ((t,.sl l')::tm) ob ng) K):GoL P ops draw i L acc (mkS tm ob ng) K:=by
 have e:mkS ((t,.sl l')::tm) ob ng=mkS tm ob ng:=by
  unfold mkS
  congr 1
  funext t'
  show (if t'=t then PV.sl l' else look tm t')=look tm t'
  split
  ·rename_i e
   rw [e,hx,h]
  ·rfl
 rwa [e] at k
end VL
end Go.Proofs.YtjblgpmagampbaaGreatDoor
namespace Go.Proofs.YtjblgpmagampbaaGreatDoor
namespace VL
open Go.RowKit Go.ChangeMaps
def ZdB {α β:Type} [DecidableEq α]:List (α×β)→α→Option β
 | [],_=>none
 | (k,b)::r,a=>if a=k then some b else ZdB r a
def Zci {α β:Type} [DecidableEq α]:List (α×β)→α→β→List (α×β)
 | [],a,b=>[(a,b)]
 | (k,c)::r,a,b=>if a=k then (a,b)::r else (k,c)::Zci r a b
theorem ZjH {α β:Type} [DecidableEq α] {a:α} {b:β}:∀ {M:List (α×β)},a ∉ M.map (·.1)→Zci M a b=M ++ [(a,b)]
 | [],_=>rfl
 | (k,c)::r,h=>by
  simp only [List.map_cons,List.mem_cons,not_or] at h
  simp only [Zci,if_neg h.1,ZjH h.2,List.cons_append]
theorem ZjI {α β:Type} [DecidableEq α] {a:α} {b:β}:∀ {M:List (α×β)} {j:Nat},(M.map (·.1))[j]? = some a→a ∉ (M.map (·.1)).take j→Zci M a b=M.set j (a,b)
 | [],j,h,_=>by simp at h
 | (k,c)::r,0,h,_=>by
  simp only [List.map_cons,List.getElem?_cons_zero,Option.some.injEq] at h
  simp only [Zci,if_pos h.symm,List.set_cons_zero]
 | (k,c)::r,j+1,h,h'=>by
  simp only [List.map_cons,List.getElem?_cons_succ,List.take_succ_cons,List.mem_cons,not_or] at h h'
  simp only [Zci,if_neg h'.1,ZjI h h'.2,List.set_cons_succ]
theorem ZjJ {α β:Type} [DecidableEq α] {a:α}:∀ {M:List (α×β)},a ∉ M.map (·.1)→ZdB M a=none
 | [],_=>rfl
 | (k,c)::r,h=>by
  simp only [List.map_cons,List.mem_cons,not_or] at h
  simp only [ZdB,if_neg h.1,ZjJ h.2]
theorem ZjK {α β:Type} [DecidableEq α] {a:α}:∀ {M:List (α×β)} {j:Nat},(M.map (·.1))[j]? = some a→a ∉ (M.map (·.1)).take j→ZdB M a=(M[j]?).map (·.2)
 | [],j,h,_=>by simp at h
 | (k,c)::r,0,h,_=>by
  simp only [List.map_cons,List.getElem?_cons_zero,Option.some.injEq] at h
  simp only [ZdB,if_pos h.symm,List.getElem?_cons_zero,Option.map_some]
 | (k,c)::r,j+1,h,h'=>by
  simp only [List.map_cons,List.getElem?_cons_succ,List.take_succ_cons,List.mem_cons,not_or] at h h'
  simp only [ZdB,if_neg h'.1,ZjK h h'.2,List.getElem?_cons_succ]
class KeyE (P:Program) (K:TypeId) {α:Type} [DecidableEq α] (f:α→PV) (val:outParam (α→List Value)):Prop where
 desc:∃ fs,P.underlying K=some (.struct fs)
 plain:∀ a,VL.plain (f a)=some (.agg (val a).toArray)
 eq:∀ a b W,(Op.equal K (.agg (val a).toArray) (.agg (val b).toArray)).run P W = .ok (decide (a=b)) W
 check:∀ em a W,(Instr.checkKey em 10000 K (.agg (val a).toArray)).run P W = .ok () W
 stays:∀ a,Instr.sameBits 10000 (.agg (val a).toArray) (.agg (val a).toArray)=true
class ElE {β:Type} (h:β→PV) (val:outParam (β→Value)):Prop where
 plain:∀ b,VL.plain (h b)=some (val b)
 back:∀ b,ZcS (val b)=h b
section
variable {P:Program} {K:TypeId} {α:Type} [DecidableEq α] {f:α→PV} {val:α→List Value}
theorem ZmL (H:KeyE P K f val):∀ (ks:List α) (es:List MapEntry),es.map (·.key)=ks.map (fun a=>.agg (val a).toArray)→∀ (a:α) (i:Nat) (W:World),
  ((Instr.findAsking K (.agg (val a).toArray) es i).run P W = .ok none W∧a ∉ ks)∨
    ∃ j e,(Instr.findAsking K (.agg (val a).toArray) es i).run P W = .ok (some (i+j,e.val)) W∧es[j]? = some e∧ks[j]? = some a∧a ∉ ks.take j
 | [],[],_,a,i,W=>.inl ⟨rfl,by simp⟩
 | [],e::es,h,_,_,_=>by simp at h
 | k::ks,[],h,_,_,_=>by simp at h
 | k::ks,e::es,h,a,i,W=>by
   simp only [List.map_cons,List.cons.injEq] at h
   have he:=H.eq a k W
   unfold Instr.findAsking
   rw [h.1,Sem.run_bind,he]
   by_cases hk:a=k
   ·refine .inr ⟨0,e,?_,rfl,by rw [hk];rfl,by simp⟩
    simp [hk]
   ·rcases ZmL H ks es h.2 a (i+1) W with ⟨h1,h2⟩ | ⟨j,e',h1,h2,h3,h4⟩
    ·refine .inl ⟨?_,by simp [hk,h2]⟩
     simp [hk,h1]
    ·refine .inr ⟨j+1,e',?_,h2,h3,by simp [hk,h4]⟩
     simp [hk,h1]
     omega
theorem ZmM (H:KeyE P K f val) (ks:List α) (es:List MapEntry) (h:es.map (·.key)=ks.map (fun a=>.agg (val a).toArray)) (a:α) (W:World) :
  ((Instr.findKey K (.agg (val a).toArray) es).run P W = .ok none W∧a ∉ ks)∨
    ∃ j e,(Instr.findKey K (.agg (val a).toArray) es).run P W = .ok (some (j,e.val)) W∧es[j]? = some e∧ks[j]? = some a∧a ∉ ks.take j:=by
 obtain ⟨fs,hd⟩:=H.desc
 have key:(Instr.findKey K (.agg (val a).toArray) es).run P W=(Instr.findAsking K (.agg (val a).toArray) es 0).run P W:=by
  unfold Instr.findKey
  rw [Sem.run_bind,run_underlying hd,Result.andThen_ok]
  cases es with
  | nil=>rfl
  | cons e es=>rfl
 rw [key]
 rcases ZmL H ks es h a 0 W with h1 | ⟨j,e,h1,h2⟩
 ·exact .inl h1
 ·exact .inr ⟨j,e,by rw [h1,Nat.zero_add],h2⟩
end
def mpI (P:Program) (T:TypeId):Option (TypeId×Value):=match P.underlying T with
 | some (.map K E)=>match P.info? E with
   | some i=>i.zero.map fun z=>(K,z)
   | none=>none
 | _=>none
theorem ZmN {P:Program} {T K:TypeId} {z:Value} (h:mpI P T=some (K,z)):∃ E i,P.underlying T=some (.map K E)∧P.info? E=some i∧i.zero=some z:=by
 unfold mpI at h
 split at h
 ·rename_i K' E h1
  split at h
  ·rename_i i h2
   rw [Option.map_eq_some_iff] at h
   obtain ⟨z',h3,h4⟩:=h
   cases h4
   exact ⟨E,i,h1,h2,h3⟩
  ·cases h
 ·cases h
section
variable {P:Program} {r:Run} {o:Oper} {i:Nat} {s:FS}
theorem Znp {T d:Nat} (ho:o.op = .makeMap T none):OpOK P r o i s ⟨.mp d (s.ng,i),[(d,some ((s.ng,i),.mp []))]⟩:=by
 intro S a x Q hX hi hd
 have hold:∀ b,b<x.W.heap.size→(x.W.alloc (.map #[] 0)).heap[b]? = x.W.heap[b]?:=fun b hb=>heap_alloc_old x.W _ hb
 obtain ⟨y,hy1,hy2⟩:=hX.newObj hi hd (d:=o.dst) (t:=d) (v0:=.map (some x.W.heap.size)) (v:=.map (some x.W.heap.size)) (val:=.mp d (s.ng,i)) (o:=.mp []) (W':=x.W.alloc (.map #[] 0)) rfl rfl rfl (by simp) (fun b hb _=>hold b hb) (fun b o v hF hv=>by
   rw [World.cell?_of_block (hold b (hX.flt b o hF))];exact hv) (fun b hb=>.inl (by
   have:x.W.heap.size=b:=by simpa [blk] using hb
   omega)) (fun y k hF hW hρ=>⟨x.W.heap.size,#[],0,hρ,by rw [hW];exact heap_alloc_new x.W _,rfl,MapKept.stamped_empty 0,.inl hX.gr.size,fun o ho=>by
   rw [hF] at ho
   exact absurd (hX.flt _ _ ho) (Nat.lt_irrefl _)⟩) (fun y k hW hG hρ=>.mp d (s.ng,i) _ hG hρ)
 refine ZC (v:=.map (some x.W.heap.size)) (W':=x.W.alloc (.map #[] 0)) ?_ ⟨y,hy1,hy2⟩
 unfold execOp
 rw [ho]
 rfl
variable {T K E t:Nat} {g:Gen} {α β:Type} [DecidableEq α] {f:α→PV} {val:α→List Value} {h:β→PV} {hv:β→Value} {M:List (α×β)} {e e' e2:Operand} {a0:α} {b0:β}
theorem ZmO (H:KeyE P K f val) (H2:ElE h hv) {S:Nat→Prop} {a:Act} {x:Ctx} (hX:RstX r S s a x) (he:ev s e = .mp t g) (hob:ZG s.ob t g=some (.mp (M.map fun q=>(f q.1,h q.2)))) :
  ∃ b es clock,a.eval e = .map (some b)∧x.ρ g = .map (some b)∧x.G g∧x.W.heap[b]? = some (.map es clock)∧es.toList.map (·.key)=(M.map (·.1)).map (fun a=>.agg (val a).toArray)∧es.toList.map (·.val)=M.map (fun q=>hv q.2)∧MapKept.Stamped es clock∧(r.W0.heap.size≤b∨r.D b)∧∀ o,¬ x.F b o:=by
 have hr:=ZE hX e
 obtain ⟨hg,b,es,clock,h1,h2,h3,h4,h5,h6⟩:=hX.ob t g _ (ZD hob)
 rw [he] at hr
 generalize a.eval e=v at hr
 cases hr with
 | mp _ _ b' hG hρ=>
   rw [h1] at hρ
   injection hρ with hρ
   injection hρ with hρ
   subst hρ
   have e0:es.toList.map (fun e=>(some e.key,some e.val))=M.map fun q=>(some (.agg (val q.1).toArray),some (hv q.2)):=by
    rw [← h3,List.map_map]
    refine List.map_congr_left fun q _=>?_
    simp only [Function.comp,H.plain,H2.plain]
   refine ⟨b,es,clock,rfl,h1,hg,h2,?_,?_,h4,h5,h6⟩
   ·have:=congrArg (List.map fun q:Option Value×Option Value=>q.1.getD undef) e0
    simpa [List.map_map,Function.comp_def] using this
   ·have:=congrArg (List.map fun q:Option Value×Option Value=>q.2.getD undef) e0
    simpa [List.map_map,Function.comp_def] using this
theorem Zor (H:KeyE P K f val) (H2:ElE h hv) (ho:o.op = .mapUpdate T e e' e2) (ht:P.underlying T=some (.map K E)) (he:ev s e = .mp t g) (hob:ZG s.ob t g=some (.mp (M.map fun q=>(f q.1,h q.2)))) (he':ev s e'=f a0) (he2:ev s e2=h b0) :
  OpOK P r o i s ⟨.un,[(t,some (g,.mp ((Zci M a0 b0).map fun q=>(f q.1,h q.2))))]⟩:=by
 intro S a x Q hX hi hd
 obtain ⟨b,es,clock,hev,hρ,hg,hh,hk,hvs,hst,hB,hF⟩:=ZmO H H2 hX he hob
 have v1:a.eval e' = .agg (val a0).toArray:=Ze9 (H.plain a0) (by rw [← he'];exact ZE hX e')
 have v2:a.eval e2=hv b0:=Ze9 (H2.plain b0) (by rw [← he2];exact ZE hX e2)
 have hob2:=ZD hob
 have hlen:es.toList.length=M.length:=by have:=congrArg List.length hvs;simpa using this
 have fin:∀ (es':Array MapEntry) (clock':Nat),(Instr.mapUpdate T (.map (some b)) (.agg (val a0).toArray) (hv b0)).run P x.W = .ok () (setBlock x.W b (.map es' clock'))→MapKept.Stamped es' clock'→
   ((Zci M a0 b0).map fun q=>(f q.1,h q.2)).map (fun e=>(plain e.1,plain e.2))=es'.toList.map (fun e=>(some e.key,some e.val))→o.wp P a x.W (fun a' W'=>∃ y:Ctx,y.W=W'∧RstX r (fun j=>S j∨j=i) (s.app o.dst ⟨.un,[(t,some (g,.mp ((Zci M a0 b0).map fun q=>(f q.1,h q.2))))]⟩) a' y) Q:=fun es' clock' hrun hst' hm=>by
  have hne:∀ b' o',x.F b' o'→b'≠b:=fun b' o' hFF e=>hF o' (e ▸ hFF)
  have hoth:∀ b',b'≠b→(setBlock x.W b (.map es' clock')).heap[b']? = x.W.heap[b']?:=fun b' hb'=>heap_setBlock_other hh _ hb'
  have hsz:(setBlock x.W b (.map es' clock')).heap.size=x.W.heap.size:=by simp [setBlock]
  have k2:Step x ⟨x.G,x.F,setBlock x.W b (.map es' clock'),x.ρ⟩:=⟨fun _ h=>⟨h,rfl⟩,fun _ _ h=>h,fun b' o' v' hFF hv'=>by
   rw [World.cell?_of_block (hoth b' (hne b' o' hFF))];exact hv'⟩
  refine Zfx (W':=setBlock x.W b (.map es' clock')) ?_ ⟨⟨x.G,x.F,setBlock x.W b (.map es' clock'),x.ρ⟩,rfl,?_⟩
  ·unfold execOp
   rw [ho]
   simp [hev,v1,v2,hrun]
  ·exact hX.change k2 hd rfl rfl rfl (by rw [hsz];exact Nat.le_refl _) (fun b' hb' hne'=>hoth b' fun e=>hne' g _ hob2 (by rw [hρ,e];rfl)) (fun _ _ h=>.inl h) (fun b' o' hb'=>by show b'<(setBlock x.W b (.map es' clock')).heap.size;rw [hsz];exact hX.flt b' o' hb')
    (fun g' hg'=>(hX.gens g' hg').imp id fun ⟨e1,e2⟩=>⟨e1,.inl e2⟩) hg ⟨b,es',clock',hρ,heap_setBlock_same hh _,hm,hst',hB,hF⟩ (fun b' hb'=>.inr ⟨g,_,hob2,hb'⟩) (.un _)
 have hpl:∀ q:α×β,(plain (f q.1),plain (h q.2))=(some (.agg (val q.1).toArray),some (hv q.2)):=fun q=>by rw [H.plain,H2.plain]
 have hes:es.toList.map (fun e=>(some e.key,some e.val))=M.map fun q=>((some (.agg (val q.1).toArray),some (hv q.2)):Option Value×Option Value):=by
  apply List.ext_getElem?
  intro j
  have a1:=congrArg (fun l=>l[j]?) hk
  have a2:=congrArg (fun l=>l[j]?) hvs
  simp only [List.getElem?_map] at a1 a2 ⊢
  cases h1:es.toList[j]?<;>cases h2:M[j]?<;>simp_all
 rcases ZmM H (M.map (·.1)) es.toList hk a0 x.W with ⟨h1,h2⟩ | ⟨j,e0,h1,h2,h3,h4⟩
 ·refine fin (es.push ⟨.agg (val a0).toArray,hv b0,clock⟩) (clock+1) ?_ (MapKept.stamped_push hst fun y hy hk'=>h2 ?_) ?_
  ·simp [Instr.mapUpdate,run_underlying ht,MapKept.run_getObj_map hh,H.check,h1,MapKept.run_setObj_map _ hh,Result.andThen,setBlock]
  ·have hm:(.agg (val a0).toArray:Value) ∈ es.toList.map (·.key):=List.mem_map.2 ⟨y,hy,hk'⟩
   rw [hk] at hm
   obtain ⟨a1,ha1,ha2⟩:=List.mem_map.1 hm
   have:=H.eq a1 a1 x.W
   have h3:=H.eq a0 a1 x.W
   rw [← ha2,this] at h3
   have h4:a0=a1:=by simpa using h3
   rw [h4];exact ha1
  ·rw [ZjH h2]
   simp only [List.map_append,List.map_map,Array.toList_push,hes,List.map_cons,List.map_nil,Function.comp_def,H.plain,H2.plain]
 ·have hj:es[j]? = some e0:=by simpa using h2
  have hke:e0.key = .agg (val a0).toArray:=by
   have a1:=congrArg (fun l=>l[j]?) hk
   simp only [List.getElem?_map,h2,Option.map_some] at a1
   rw [List.getElem?_map] at h3
   cases hM:M[j]? with
   | none=>rw [hM] at h3;cases h3
   | some q=>
     rw [hM] at a1 h3
     simp only [Option.map_some,Option.some.injEq] at a1 h3
     rw [a1,h3]
  refine fin (es.modify j fun e=>{ e with key:=.agg (val a0).toArray,val:=hv b0 }) clock ?_ (MapKept.stamped_modify hst _ _ (fun _ _=>rfl) fun e' _ he'=>?_) ?_
  ·have hks:(Instr.keyThatStays (.agg (val a0).toArray) (.agg (val a0).toArray)).run P x.W = .ok (.agg (val a0).toArray) x.W:=by
    unfold Instr.keyThatStays
    rw [if_pos (H.stays a0)]
    rfl
   simp [Instr.mapUpdate,run_underlying ht,MapKept.run_getObj_map hh,H.check,h1,hj,hke,hks,MapKept.run_setObj_map _ hh,Result.andThen,setBlock]
  ·rw [hj] at he'
   cases he'
   exact hke.symm
  ·rw [ZjI h3 h4,Array.toList_modify,modify_eq_set _ _ _ _ h2,List.map_set,List.map_set,List.map_set,hes,List.map_map]
   simp only [Function.comp_def,H.plain,H2.plain]
theorem Zos (H:KeyE P K f val) (H2:ElE h hv) {z:β} (ho:o.op = .lookup T e e' false) (ht:mpI P T=some (K,hv z)) (he:ev s e = .mp t g) (hob:ZG s.ob t g=some (.mp (M.map fun q=>(f q.1,h q.2)))) (he':ev s e'=f a0) :
  OpOK P r o i s ⟨h ((ZdB M a0).getD z),[]⟩:=by
 intro S a x Q hX hi hd
 obtain ⟨b,es,clock,hev,hρ,hg,hh,hk,hvs,hst,hB,hF⟩:=ZmO H H2 hX he hob
 have v1:a.eval e' = .agg (val a0).toArray:=Ze9 (H.plain a0) (by rw [← he'];exact ZE hX e')
 obtain ⟨E,inf,q1,q2,q3⟩:=ZmN ht
 have hrep:∀ b,Rep x (h b) (hv b):=fun b=>by
  rw [← H2.back]
  exact Zfm x _
 have fin:∀ v,(Instr.lookup T (.map (some b)) (.agg (val a0).toArray) false).run P x.W = .ok v x.W→v=hv ((ZdB M a0).getD z)→o.wp P a x.W (fun a' W'=>∃ y:Ctx,y.W=W'∧RstX r (fun j=>S j∨j=i) (s.app o.dst ⟨h ((ZdB M a0).getD z),[]⟩) a' y) Q:=fun v hrun hrep'=>by
  subst hrep'
  refine ZC (v:=hv ((ZdB M a0).getD z)) (W':=x.W) ?_ (hX.val hd (hrep _))
  unfold execOp
  rw [ho]
  simp [hev,v1,hrun]
 rcases ZmM H (M.map (·.1)) es.toList hk a0 x.W with ⟨h1,h2⟩ | ⟨j,e0,h1,h2,h3,h4⟩
 ·rw [ZjJ h2] at fin ⊢
  refine fin (hv z) ?_ rfl
  simp [Instr.lookup,run_underlying q1,MapKept.run_getObj_map hh,H.check,h1,Result.andThen,zeroValue,typeInfo,q2,q3]
 ·rw [ZjK h3 h4] at fin ⊢
  cases hM:M[j]? with
  | none=>rw [List.getElem?_map,hM] at h3;cases h3
  | some q=>
    rw [hM] at fin
    have a2:=congrArg (fun l=>l[j]?) hvs
    simp only [List.getElem?_map,h2,hM,Option.map_some,Option.some.injEq] at a2
    refine fin e0.val ?_ a2
    simp [Instr.lookup,run_underlying q1,MapKept.run_getObj_map hh,H.check,h1,Result.andThen]
end
end VL
end Go.Proofs.YtjblgpmagampbaaGreatDoor
namespace Go.Proofs.YtjblgpmagampbaaGreatDoor
namespace VL
open Go.RowKit
class MpT (P:Program) (T:TypeId) (K:outParam TypeId) (z:outParam Value):Prop where
 eq:mpI P T=some (K,z)
def ZeU {α β:Type} (f:α→PV) (h:β→PV) (M:List (α×β)):List (PV×PV):=M.map fun q=>(f q.1,h q.2)
section
variable {P:Program} [WInv P] {ops:Array Oper} {draw:Bool} {i:Nat} {L:List Oper} {acc:List (List Nat×List Nat)} {K0:FS→Prop} {tm:List (Nat×PV)} {ob:List (Nat×Option (Gen×VObj))} {ng:Nat}
 {d:Option Tmp} {ty:TypeId} {pos:String} {after:Array Edge} {gd:Option (Nat×Bool)} {T K:TypeId} {x y v:Operand} {t:Nat} {g:Gen} {α β:Type} [DecidableEq α] {f:α→PV} {val:α→List Value} {h:β→PV} {hv:β→Value} {M:List (α×β)}
omit [DecidableEq α] in
theorem ZkX {dd:Nat} (f:α→PV) (h:β→PV) (hw:Zb ops (mkS tm ob ng) ⟨some dd,.makeMap T none,ty,pos,after,gd⟩=some true)
  (k:GoL P ops draw (i+1) L (acc ++ [(Zr (mkS tm ob ng) ⟨some dd,.makeMap T none,ty,pos,after,gd⟩,[dd])]) (mkS ((dd,.mp dd (ng,i))::tm) ((dd,some ((ng,i),.mp (ZeU f h [])))::ob) ng) K0):GoL P ops draw i (⟨some dd,.makeMap T none,ty,pos,after,gd⟩::L) acc (mkS tm ob ng) K0:=by
 refine ZbR (u:=⟨.mp dd (ng,i),[(dd,some ((ng,i),.mp []))]⟩) (.any hw fun s' r hA hI=>?_) ?_
 ·have e3:ng=s'.ng:=hA.ng
  rw [e3]
  exact Znp rfl
 ·rw [Zac]
  exact k
theorem Zkc (f:α→PV) (h:β→PV) (a0:α) (b0:β) {z0:Value} [hT:MpT P T K z0] [H:KeyE P K f val] [H2:ElE h hv] (hw:Zb ops (mkS tm ob ng) ⟨d,.mapUpdate T x y v,ty,pos,after,gd⟩=some true) (hx:evL tm x = .mp t g) (hb:ZG (Zg ob) t g=some (.mp (ZeU f h M))) (hy:evL tm y=f a0) (hv':evL tm v=h b0)
  (k:GoL P ops draw (i+1) L (acc ++ [(Zr (mkS tm ob ng) ⟨d,.mapUpdate T x y v,ty,pos,after,gd⟩,[t])]) (mkS (Zau d .un tm) ((t,some (g,.mp (ZeU f h (Zci M a0 b0))))::ob) ng) K0):GoL P ops draw i (⟨d,.mapUpdate T x y v,ty,pos,after,gd⟩::L) acc (mkS tm ob ng) K0:=by
 obtain ⟨E,inf,q1,_⟩:=ZmN hT.eq
 refine ZbR (u:=⟨.un,[(t,some (g,.mp (ZeU f h (Zci M a0 b0))))]⟩) (.any hw fun s' r hA hI=>?_) ?_
 ·have e1:ev s' x = .mp t g:=by rw [← hA.ev x (by simp [Op.operands])];exact (congrFun (ZB tm ob ng) x).trans hx
  have e2:ev s' y=f a0:=by rw [← hA.ev y (by simp [Op.operands])];exact (congrFun (ZB tm ob ng) y).trans hy
  have e3:ev s' v=h b0:=by rw [← hA.ev v (by simp [Op.operands])];exact (congrFun (ZB tm ob ng) v).trans hv'
  refine Zor H H2 rfl q1 e1 ?_ e2 e3
  rw [Zaj hA (e:=x) (by simp [Op.operands]) rfl rfl (by rw [ZB,hx];simp [Zab])]
  exact hb
 ·rw [Zac]
  exact k
theorem ZmG (f:α→PV) (h:β→PV) (a0:α) (z:β) {z0:Value} [hT:MpT P T K z0] [H:KeyE P K f val] [H2:ElE h hv] (hz:hv z=z0) (hw:Zb ops (mkS tm ob ng) ⟨d,.lookup T x y false,ty,pos,after,gd⟩=some true) (hx:evL tm x = .mp t g) (hb:ZG (Zg ob) t g=some (.mp (ZeU f h M))) (hy:evL tm y=f a0)
  (k:GoL P ops draw (i+1) L (acc ++ [(Zr (mkS tm ob ng) ⟨d,.lookup T x y false,ty,pos,after,gd⟩,[])]) (mkS (Zau d (h ((ZdB M a0).getD z)) tm) ob ng) K0):GoL P ops draw i (⟨d,.lookup T x y false,ty,pos,after,gd⟩::L) acc (mkS tm ob ng) K0:=by
 refine ZbR (u:=⟨h ((ZdB M a0).getD z),[]⟩) (.any hw fun s' r hA hI=>?_) ?_
 ·have e1:ev s' x = .mp t g:=by rw [← hA.ev x (by simp [Op.operands])];exact (congrFun (ZB tm ob ng) x).trans hx
  have e2:ev s' y=f a0:=by rw [← hA.ev y (by simp [Op.operands])];exact (congrFun (ZB tm ob ng) y).trans hy
  refine Zos H H2 rfl (by rw [hz];exact hT.eq) e1 ?_ e2
  rw [Zaj hA (e:=x) (by simp [Op.operands]) rfl rfl (by rw [ZB,hx];simp [Zab])]
  exact hb
 ·rw [Zac]
  exact k
end
instance:ElE PV.bool Value.bool:=⟨fun _=>rfl,fun _=>rfl⟩
end VL
end Go.Proofs.YtjblgpmagampbaaGreatDoor
set_option linter.unusedVariables false
set_option maxHeartbeats 4000000
set_option maxRecDepth 100000
namespace Go.Proofs.YtjblgpmagampbaaGreatDoor
open VL
instance:VL.StrT Tryz.prog 9:=⟨by kernel_rfl⟩
instance:VL.MpT Tryz.prog 112 24 (.bool false):=⟨by kernel_rfl⟩
structure SrcF where
 l:List Int
 pos:Int
 seed:Int
def SrcF.cs (x:SrcF):List PV:=[.sl (List.map csI x.l),.int .i64 x.pos,.int .u64 x.seed]
structure Link where
 kind:Int
 title:Title
 deriving DecidableEq
def Link.cs (x:Link):List PV:=[.int .i64 x.kind,.int .i64 x.title.space,.str x.title.name]
structure Memb where
 category:Title
 sort:ByteArray
 deriving DecidableEq
def Memb.cs (x:Memb):List PV:=[.int .i64 x.category.space,.str x.category.name,.str x.sort]
def Memb.pv (x:Memb):PV:=.agg x.cs
structure CatRow where
 page:Title
 memb:Memb
def CatRow.cs (x:CatRow):List PV:=[.int .i64 x.page.space,.str x.page.name,.int .i64 x.memb.category.space,.str x.memb.category.name,.str x.memb.sort]
def CatRow.pv (x:CatRow):PV:=.agg x.cs
structure Mbr where
 page:Title
 key:ByteArray
 deriving DecidableEq
def Mbr.cs (x:Mbr):List PV:=[.int .i64 x.page.space,.str x.page.name,.str x.key]
def Mbr.pv (x:Mbr):PV:=.agg x.cs
structure Tok where
 kind:Int
 from_:Int
 to_:Int
 deriving DecidableEq
def Tok.cs (x:Tok):List PV:=[.int .i64 x.kind,.int .i64 x.from_,.int .i64 x.to_]
def Tok.pv (x:Tok):PV:=.agg x.cs
structure Finder where
 links:List Link
 members:List Memb
end Go.Proofs.YtjblgpmagampbaaGreatDoor
namespace Go.Proofs.YtjblgpmagampbaaGreatDoor
open VL Go.RowKit
def ZmR:List UInt8:=[9,10,13,32]
set_option maxHeartbeats 4000000 in
set_option maxRecDepth 1000000 in
theorem ZrR (s:ByteArray) (hs:s.size≤9223372036854775807):Zd Tryz.prog 313 [.str s,.str ⟨#[9,10,13,32]⟩] (.str (Zdd ZmR (Zd3 ZmR s))):=by
 have hm:=Ziv ZmR (by decide) (fun j b h=>by
  match j,h with
  | 0,h=>injection h with h;subst h;decide
  | 1,h=>injection h with h;subst h;decide
  | 2,h=>injection h with h;subst h;decide
  | 3,h=>injection h with h;subst h;decide
  | j+4,h=>simp [ZmR] at h)
 have hR:=Zk9 ZmR s hs
 have hL:=Zf7 ZmR (Zd3 ZmR s)
 have ha:∀ {f:Nat→Option (Gen×VObj)} {t:Nat} {g:Gen},ZG f t g=some (.box (Ze7 ZmR))→∀ s,Ze2 (frz f) [.str s,.ptr t g 0]=some [.str s,.cel (Ze7 ZmR)]:=fun h s=>Zox h s
 have hspc:(Ze7 ZmR).all PV.cell=true:=by
  rw [List.all_eq_true]
  intro p hp
  obtain ⟨b,_,rfl⟩:=List.mem_map.1 hp
  rfl
 have hsl:(Ze7 ZmR).length=256:=Zh4 _
 have hrc:(List.replicate 256 (PV.bool false)).all PV.cell=true:=by
  rw [List.all_eq_true]
  intro p hp
  rw [List.eq_of_mem_replicate hp]
  rfl
 have hrl:(List.replicate 256 (PV.bool false)).length=256:=List.length_replicate
 generalize Ze7 ZmR=sp at hm hR hL ha hspc hsl
 generalize hz:List.replicate 256 (PV.bool false)=zp at hrc hrl
 have zi:Ze Tryz.prog 324 zp:=hz ▸ inferInstance
 refine Zbq mix Tryz.func313 (by kernel_rfl) rfl (by kernel_rfl) ?_
 repeat (first | refine Zm rfl (by (conv=>lhs;whnf);try rfl) ?_ | refine Zn rfl (by (conv=>lhs;whnf);try rfl) ?_ | refine ZhU rfl rfl rfl rfl (by (conv=>lhs;whnf);try rfl) ?_ | refine Zc ?_ | refine Zh ?_ | refine Za ?_)
 by_cases h0:s=⟨#[]⟩
 ·rw [decide_eq_true h0]
  repeat (first | (refine ZI rfl ?_) | refine ZaL rfl rfl (by (conv=>lhs;whnf);try rfl) ?_ | refine Zc ?_)
  refine Zo (by (conv=>lhs;whnf);try rfl) rfl ?_
  repeat (first | refine Zm rfl (by (conv=>lhs;whnf);try rfl) ?_ | refine Zn rfl (by (conv=>lhs;whnf);try rfl) ?_ | refine Zc ?_ | refine Zh ?_ | refine Za ?_ | refine ZaY ?_)
  exact ZdW rfl rfl (by rw [h0];rfl)
 rw [decide_eq_false h0]
 repeat (first | refine Zm rfl (by (conv=>lhs;whnf);try rfl) ?_ | refine ZhU rfl rfl rfl rfl (by (conv=>lhs;whnf);try rfl) ?_ | refine ZaL rfl rfl (by (conv=>lhs;whnf);try rfl) ?_ | refine Zc ?_)
 refine Zf (by (conv=>lhs;whnf);try rfl) (by decide) ?_
 repeat (first | (refine ZI rfl ?_) | (refine Zf rfl rfl ?_) | (refine Ze0 hm rfl rfl ?_) | (refine ZcK (z:=zp) rfl hrc ?_) | (refine Zap (ps:=sp) (cs:=zp) (cs':=sp) rfl rfl rfl rfl rfl hsl hspc (show 0+256≤zp.length by omega) (Zhu (show zp.length=sp.length by omega)) ?_) | (refine Zo rfl rfl ?_) | (refine Zhw hR rfl (ha rfl _) rfl ?_) | (refine Zhw hL rfl (ha rfl _) rfl ?_) | refine Zm rfl (by (conv=>lhs;whnf);try rfl) ?_ | refine Zn rfl (by (conv=>lhs;whnf);try rfl) ?_ | refine ZL rfl rfl rfl rfl (by (conv=>lhs;whnf);try rfl) ?_ | refine Ze8 Tryz.underlying9 rfl rfl ?_ | refine Zez rfl rfl rfl ?_ | refine ZaL rfl rfl (by (conv=>lhs;whnf);try rfl) ?_ | refine Zc ?_ | refine Zh ?_ | refine Za ?_ | refine Zz ?_ | refine ZaY ?_)
 exact ZdW rfl rfl rfl
def Zp1:List UInt8:=[32,9]
set_option maxHeartbeats 4000000 in
set_option maxRecDepth 1000000 in
theorem ZrS (s:ByteArray):Zd Tryz.prog 175 [.str s,.str ⟨#[32,9]⟩] (.str (Zdd Zp1 s)):=by
 have hm:=Ziv Zp1 (by decide) (fun j b h=>by
  match j,h with
  | 0,h=>injection h with h;subst h;decide
  | 1,h=>injection h with h;subst h;decide
  | j+2,h=>simp [Zp1] at h)
 have hL:=Zf7 Zp1 s
 have ha:∀ {f:Nat→Option (Gen×VObj)} {t:Nat} {g:Gen},ZG f t g=some (.box (Ze7 Zp1))→∀ s,Ze2 (frz f) [.str s,.ptr t g 0]=some [.str s,.cel (Ze7 Zp1)]:=fun h s=>Zox h s
 have hspc:(Ze7 Zp1).all PV.cell=true:=by
  rw [List.all_eq_true]
  intro p hp
  obtain ⟨b,_,rfl⟩:=List.mem_map.1 hp
  rfl
 have hsl:(Ze7 Zp1).length=256:=Zh4 _
 have hrc:(List.replicate 256 (PV.bool false)).all PV.cell=true:=by
  rw [List.all_eq_true]
  intro p hp
  rw [List.eq_of_mem_replicate hp]
  rfl
 have hrl:(List.replicate 256 (PV.bool false)).length=256:=List.length_replicate
 generalize Ze7 Zp1=sp at hm hL ha hspc hsl
 generalize hz:List.replicate 256 (PV.bool false)=zp at hrc hrl
 have zi:Ze Tryz.prog 324 zp:=hz ▸ inferInstance
 refine Zbq mix Tryz.func175 (by kernel_rfl) rfl (by kernel_rfl) ?_
 repeat (first | refine Zm rfl (by (conv=>lhs;whnf);try rfl) ?_ | refine Zn rfl (by (conv=>lhs;whnf);try rfl) ?_ | refine ZhU rfl rfl rfl rfl (by (conv=>lhs;whnf);try rfl) ?_ | refine Zc ?_ | refine Zh ?_ | refine Za ?_)
 by_cases h0:s=⟨#[]⟩
 ·rw [decide_eq_true h0]
  repeat (first | (refine ZI rfl ?_) | refine ZaL rfl rfl (by (conv=>lhs;whnf);try rfl) ?_ | refine Zc ?_)
  refine Zo (by (conv=>lhs;whnf);try rfl) rfl ?_
  repeat (first | refine Zm rfl (by (conv=>lhs;whnf);try rfl) ?_ | refine Zn rfl (by (conv=>lhs;whnf);try rfl) ?_ | refine Zc ?_ | refine Zh ?_ | refine Za ?_ | refine ZaY ?_)
  exact ZdW rfl rfl (by rw [h0];rfl)
 rw [decide_eq_false h0]
 repeat (first | refine Zm rfl (by (conv=>lhs;whnf);try rfl) ?_ | refine ZhU rfl rfl rfl rfl (by (conv=>lhs;whnf);try rfl) ?_ | refine ZaL rfl rfl (by (conv=>lhs;whnf);try rfl) ?_ | refine Zc ?_)
 refine Zf (by (conv=>lhs;whnf);try rfl) (by decide) ?_
 repeat (first | (refine ZI rfl ?_) | (refine Zf rfl rfl ?_) | (refine Ze0 hm rfl rfl ?_) | (refine ZcK (z:=zp) rfl hrc ?_) | (refine Zap (ps:=sp) (cs:=zp) (cs':=sp) rfl rfl rfl rfl rfl hsl hspc (show 0+256≤zp.length by omega) (Zhu (show zp.length=sp.length by omega)) ?_) | (refine Zo rfl rfl ?_) | (refine Zhw hL rfl (ha rfl _) rfl ?_) | refine Zm rfl (by (conv=>lhs;whnf);try rfl) ?_ | refine Zn rfl (by (conv=>lhs;whnf);try rfl) ?_ | refine ZL rfl rfl rfl rfl (by (conv=>lhs;whnf);try rfl) ?_ | refine Ze8 Tryz.underlying9 rfl rfl ?_ | refine Zez rfl rfl rfl ?_ | refine ZaL rfl rfl (by (conv=>lhs;whnf);try rfl) ?_ | refine Zc ?_ | refine Zh ?_ | refine Za ?_ | refine Zz ?_ | refine ZaY ?_)
 exact ZdW rfl rfl rfl
def Zp2:List UInt8:=[9,32,95]
set_option maxHeartbeats 4000000 in
set_option maxRecDepth 1000000 in
theorem ZrT (s:ByteArray):Zd Tryz.prog 175 [.str s,.str ⟨#[9,32,95]⟩] (.str (Zdd Zp2 s)):=by
 have hm:=Ziv Zp2 (by decide) (fun j b h=>by
  match j,h with
  | 0,h=>injection h with h;subst h;decide
  | 1,h=>injection h with h;subst h;decide
  | 2,h=>injection h with h;subst h;decide
  | j+3,h=>simp [Zp2] at h)
 have hL:=Zf7 Zp2 s
 have ha:∀ {f:Nat→Option (Gen×VObj)} {t:Nat} {g:Gen},ZG f t g=some (.box (Ze7 Zp2))→∀ s,Ze2 (frz f) [.str s,.ptr t g 0]=some [.str s,.cel (Ze7 Zp2)]:=fun h s=>Zox h s
 have hspc:(Ze7 Zp2).all PV.cell=true:=by
  rw [List.all_eq_true]
  intro p hp
  obtain ⟨b,_,rfl⟩:=List.mem_map.1 hp
  rfl
 have hsl:(Ze7 Zp2).length=256:=Zh4 _
 have hrc:(List.replicate 256 (PV.bool false)).all PV.cell=true:=by
  rw [List.all_eq_true]
  intro p hp
  rw [List.eq_of_mem_replicate hp]
  rfl
 have hrl:(List.replicate 256 (PV.bool false)).length=256:=List.length_replicate
 generalize Ze7 Zp2=sp at hm hL ha hspc hsl
 generalize hz:List.replicate 256 (PV.bool false)=zp at hrc hrl
 have zi:Ze Tryz.prog 324 zp:=hz ▸ inferInstance
 refine Zbq mix Tryz.func175 (by kernel_rfl) rfl (by kernel_rfl) ?_
 repeat (first | refine Zm rfl (by (conv=>lhs;whnf);try rfl) ?_ | refine Zn rfl (by (conv=>lhs;whnf);try rfl) ?_ | refine ZhU rfl rfl rfl rfl (by (conv=>lhs;whnf);try rfl) ?_ | refine Zc ?_ | refine Zh ?_ | refine Za ?_)
 by_cases h0:s=⟨#[]⟩
 ·rw [decide_eq_true h0]
  repeat (first | (refine ZI rfl ?_) | refine ZaL rfl rfl (by (conv=>lhs;whnf);try rfl) ?_ | refine Zc ?_)
  refine Zo (by (conv=>lhs;whnf);try rfl) rfl ?_
  repeat (first | refine Zm rfl (by (conv=>lhs;whnf);try rfl) ?_ | refine Zn rfl (by (conv=>lhs;whnf);try rfl) ?_ | refine Zc ?_ | refine Zh ?_ | refine Za ?_ | refine ZaY ?_)
  exact ZdW rfl rfl (by rw [h0];rfl)
 rw [decide_eq_false h0]
 repeat (first | refine Zm rfl (by (conv=>lhs;whnf);try rfl) ?_ | refine ZhU rfl rfl rfl rfl (by (conv=>lhs;whnf);try rfl) ?_ | refine ZaL rfl rfl (by (conv=>lhs;whnf);try rfl) ?_ | refine Zc ?_)
 refine Zf (by (conv=>lhs;whnf);try rfl) (by decide) ?_
 repeat (first | (refine ZI rfl ?_) | (refine Zf rfl rfl ?_) | (refine Ze0 hm rfl rfl ?_) | (refine ZcK (z:=zp) rfl hrc ?_) | (refine Zap (ps:=sp) (cs:=zp) (cs':=sp) rfl rfl rfl rfl rfl hsl hspc (show 0+256≤zp.length by omega) (Zhu (show zp.length=sp.length by omega)) ?_) | (refine Zo rfl rfl ?_) | (refine Zhw hL rfl (ha rfl _) rfl ?_) | refine Zm rfl (by (conv=>lhs;whnf);try rfl) ?_ | refine Zn rfl (by (conv=>lhs;whnf);try rfl) ?_ | refine ZL rfl rfl rfl rfl (by (conv=>lhs;whnf);try rfl) ?_ | refine Ze8 Tryz.underlying9 rfl rfl ?_ | refine Zez rfl rfl rfl ?_ | refine ZaL rfl rfl (by (conv=>lhs;whnf);try rfl) ?_ | refine Zc ?_ | refine Zh ?_ | refine Za ?_ | refine Zz ?_ | refine ZaY ?_)
 exact ZdW rfl rfl rfl
def ZeF (s c:ByteArray):Option ByteArray:=if s.size≤9223372036854775807∧c=⟨#[9,10,13,32]⟩ then some (Zdd ZmR (Zd3 ZmR s)) else none
theorem ZiB (s c:ByteArray) (r:ByteArray) (h:ZeF s c=some r):Zd Tryz.prog 313 [.str s,.str c] (.str r):=by
 unfold ZeF at h
 split at h
 ·rename_i hc
  cases h
  rw [hc.2]
  exact ZrR s hc.1
 ·cases h
def ZbK (s c:ByteArray):Option ByteArray:=if c=⟨#[32,9]⟩ then some (Zdd Zp1 s) else if c=⟨#[9,32,95]⟩ then some (Zdd Zp2 s) else none
theorem ZdG (s c:ByteArray) (r:ByteArray) (h:ZbK s c=some r):Zd Tryz.prog 175 [.str s,.str c] (.str r):=by
 unfold ZbK at h
 split at h
 ·rename_i hc
  cases h
  rw [hc]
  exact ZrS s
 ·split at h
  ·rename_i hc
   cases h
   rw [hc]
   exact ZrT s
  ·cases h
end Go.Proofs.YtjblgpmagampbaaGreatDoor
namespace Go.Proofs.YtjblgpmagampbaaGreatDoor
open Go.RowKit
def orI:List Int→Int
 | []=>0
 | x::xs=>if x=0 then orI xs else x
theorem ZjT (x y:Int) (w:World):Calls Tryz.prog 102 #[.int .i64 x,.int .i64 y] w fun e w'=>e = .returned (.int .i64 (Lib.compareInt x y))∧w=w':=
 (Tryz.cmp_Compare_int x y w).mono fun _ _ ⟨a,b⟩=>⟨a,b.symm⟩
theorem ZjU (a b:ByteArray) (w:World):Calls Tryz.prog 103 #[.string a,.string b] w fun e w'=>e = .returned (.int .i64 (Lib.compareBytes a.data.toList b.data.toList))∧w=w':=
 (Tryz.strings_Compare a b w).mono fun _ _ ⟨a,b⟩=>⟨a,b.symm⟩
set_option maxHeartbeats 400000 in
theorem Zo5 (A:Option Addr) (n c:Nat) (xs:List Int) (w:World) (h:SlR w A n c xs):Calls Tryz.prog 61 #[.slice A n c] w fun e w'=>e = .returned (.int .i64 (orI xs))∧w=w':=by
 have HN:=Lib.hid h.1
 have hle:=h.le
 go_enter Tryz.func61,Tryz.ntmps61
 go_wp2
 go_loop [5,8] (fun _ i=>∃ q:Nat,q≤n∧i = .int .i64 q∧orI xs=orI (xs.drop q)) (fun _ i=>n - (intOf i).toNat)
 case atStart=>exact ⟨0,Nat.zero_le _,rfl,rfl⟩
 case round=>
  obtain ⟨q,hq,rfl,hO⟩:=hrel
  by_cases hlt:q<n
  ·obtain ⟨b,off,x,cs,rfl,hbl,hx,hd,hR,hc⟩:=h.elem hlt
   have c0:w.cell? ⟨b,off+q,none⟩=some (.int .i64 x):=by subst hR;simpa using hc 0 _ rfl
   have HO:=Lib.hid hO
   clear hO hc hx h
   have HD:=Lib.hid hd
   clear hd
   by_cases h0:x=0
   ·subst h0
    go_wp2
    go_round
    case rel=>exact ⟨q+1,by omega,by go_num,by rw [HO.out,HD.out];simp [orI]⟩
    case measure=>simp [intOf];omega
   ·have e0:(!(x == 0))=true:=by simpa using h0
    go_wp2
    go_ret
    exact ⟨Zjg (by rw [HO.out,HD.out];simp [orI,h0]),rfl⟩
  ·have hq':q=n:=by omega
   have hz:orI xs=0:=by rw [hO,hq',HN.out,List.drop_length];rfl
   have HZ:=Lib.hid hz
   clear hz hO h hq'
   go_wp2
   go_ret
   exact ⟨Zjg HZ.out.symm,rfl⟩
def Title.cmp (a b:Title):Int:=orI [Lib.compareInt a.space b.space,Lib.compareBytes a.name.data.toList b.name.data.toList]
theorem Zkf:∀ a b:List UInt8,Lib.compareBytes a b=if Op.bytesLess a b=true then -1 else if a=b then 0 else 1
 | [],[]=>by simp [Lib.compareBytes,Op.bytesLess]
 | [],_::_=>by simp [Lib.compareBytes,Op.bytesLess]
 | _::_,[]=>by simp [Lib.compareBytes,Op.bytesLess]
 | x::a,y::b=>by
   have h:=Zkf a b
   have e:x<y∨x=y∨y<x:=by
    rcases Nat.lt_trichotomy x.toNat y.toNat with h | h | h
    ·exact .inl h
    ·exact .inr (.inl (UInt8.toNat_inj.1 h))
    ·exact .inr (.inr h)
   rcases e with e | e | e
   ·simp [Lib.compareBytes,Op.bytesLess,e]
   ·subst e
    have hx:¬ x<x:=fun h=>by simp at h
    simp [Lib.compareBytes,Op.bytesLess,h]
   ·have hx:¬ x<y:=fun h=>by simp [UInt8.lt_iff_toNat_lt] at h e;omega
    have hne:¬ x=y:=fun h=>by subst h;simp at e
    simp [Lib.compareBytes,Op.bytesLess,hx,hne,e]
theorem ZrH (a b:Title):Title.cmp a b=if a.space<b.space then -1 else if b.space<a.space then 1 else if Op.bytesLess a.name.toList b.name.toList=true then -1 else if a.name.toList=b.name.toList then 0 else 1:=by
 unfold Title.cmp orI Lib.compareInt
 rw [Zkf,ByteArray.toList_eq,ByteArray.toList_eq]
 by_cases h1:a.space<b.space
 ·simp [h1]
 ·by_cases h2:b.space<a.space
  ·simp [h1,h2]
  ·simp only [h1,h2,if_false,if_true,orI]
   by_cases h:Op.bytesLess a.name.data.toList b.name.data.toList=true
   ·simp [h]
   ·by_cases h':a.name.data.toList=b.name.data.toList<;>simp [h,h']
theorem Ziq:∀ a:List UInt8,Op.bytesLess a a=false
 | []=>rfl
 | x::a=>by simp [Op.bytesLess,Ziq a]
set_option maxHeartbeats 400000 in
theorem Zf5 (a b:Title) (w:World):Calls Tryz.prog 40 #[.agg #[.int .i64 a.space,.string a.name],.agg #[.int .i64 b.space,.string b.name]] w fun e w'=>e = .returned (.int .i64 (Title.cmp a b))∧Below w.heap.size w w':=by
 go_enter Tryz.func40,Tryz.ntmps40
 go_wp2
 all_goals
  go_ret
  refine ⟨Zjg ?_,((Below.refl _ _).alloc (Nat.le_refl _) _).alloc (by simp) _⟩
  rw [ZrH]
  first
   | (rw [if_pos (by omega)];done)
   | (rw [if_neg (by omega),if_neg (by omega),if_pos (by assumption)];done)
   | (rw [if_neg (by omega),if_pos (by omega)];done)
   | (rw [if_neg (by omega),if_neg (by omega),if_neg (by simp_all),if_pos (by assumption)];done)
   | (rw [if_neg (by omega),if_neg (by omega),if_neg (by simp_all),if_neg (by assumption)];done)
def Za4 (c:UInt8):UInt8:=if 65≤c.toNat∧c.toNat≤90 then UInt8.ofNat (c.toNat+32) else c
def ZbW (l:List UInt8):List UInt8:=l.map Za4
def BytesAt (w:World) (g:Nat) (l:List UInt8):Prop:=
 g<w.heap.size∧∀ j c,l[j]? = some c→w.cell? ⟨g,j,none⟩=some (.int .u8 (c.toNat:Int))∧w.frozen? ⟨g,j,none⟩=false
theorem BytesAt.set {w:World} {g:Nat} {l:List UInt8} (h:BytesAt w g l) (k:Nat) (c:UInt8) (hk:k<l.length):BytesAt (w.setCell ⟨g,k,none⟩ (.int .u8 (c.toNat:Int))) g (l.set k c):=by
 refine ⟨by simpa [World.setCell] using h.1,fun j d hj=>?_⟩
 by_cases e:j=k
 ·subst e
  rw [List.getElem?_set_self hk] at hj
  obtain rfl:c=d:=by simpa using hj
  obtain ⟨h1,h2⟩:=h.2 j _ (List.getElem?_eq_getElem hk)
  exact ⟨World.cell?_setCell_same w ⟨g,j,none⟩ _ h1,by simpa using h2⟩
 ·rw [List.getElem?_set_ne (fun e'=>e e'.symm)] at hj
  obtain ⟨h1,h2⟩:=h.2 j d hj
  refine ⟨(World.cell?_setCell_other w ⟨g,k,none⟩ ⟨g,j,none⟩ _ (fun e'=>e (by injection e' with _ e2;exact e2.symm))).trans h1,by simpa using h2⟩
theorem BytesAt.back {P:Program} {w:World} {g cap:Nat} {l:List UInt8} (h:BytesAt w g l) (src dst e:TypeId) (hs:P.underlying src=some (.slice e)) (he:P.underlying e=some (.int .u8)) (hd:P.underlying dst=some .string) :
  (convert src dst (.slice (some ⟨g,0,none⟩) l.length cap)).run P w = .ok (.string ⟨l.toArray⟩) w:=
 run_convert_bytes_back w src dst e ⟨g,0,none⟩ cap l hs he hd fun j hj=>by
  have:=(h.2 j _ (List.getElem?_eq_getElem hj)).1
  unfold Addr.add
  split
  ·rename_i h0;subst h0;exact this
  ·simpa using this
theorem Zn5 {P:Program} (w:World) (src dst e:TypeId) (s:ByteArray) (hs:P.underlying src=some .string) (hd:P.underlying dst=some (.slice e)) (he:P.underlying e=some (.int .u8)) :
  ∃ cap w1,(convert src dst (.string s)).run P w = .ok (.slice (some ⟨w.heap.size,0,none⟩) s.size cap) w1∧Below w.heap.size w w1∧BytesAt w1 w.heap.size s.data.toList:=by
 refine ⟨_,_,run_bytes_of_string w src dst e s hs hd he,(Below.refl _ _).drew.alloc (Nat.le_refl _) _,by simp,fun j c hj=>?_⟩
 have hjl:j<s.data.size:=by have:=(List.getElem?_eq_some_iff.1 hj).1;simpa using this
 have hc:c=s.data[j]:=by
  rw [List.getElem?_eq_getElem (by simpa using hjl)] at hj
  simpa using hj.symm
 constructor
 ·exact (World.cell?_alloc_mark w.drew _ _ _ j).trans (by rw [bytesRow_at _ _ _ hjl,hc])
 ·refine (World.frozen?_alloc_mark w.drew _ _ _ _ j).trans ?_
  have:j<(bytesRow s (grownCap w s.size 0 e)).size:=by simp only [bytesRow,Array.size_append,Array.size_map];omega
  simp;omega
theorem ZlU (l:List UInt8) (q:Nat) (c:UInt8) (hc:l[q]? = some c):(ZbW (l.take q)++l.drop q).set q (Za4 c)=ZbW (l.take (q+1))++l.drop (q+1):=by
 have hq:q<l.length:=(List.getElem?_eq_some_iff.1 hc).1
 have hl:(ZbW (l.take q)).length=q:=by simp [ZbW];omega
 have hg:l[q]=c:=by rw [List.getElem?_eq_getElem hq] at hc;simpa using hc
 rw [List.set_append_right _ _ (by omega),hl,Nat.sub_self,List.drop_eq_getElem_cons hq,List.set_cons_zero,List.take_succ_eq_append_getElem hq,hg]
 simp [ZbW]
theorem ZpN (l:List UInt8) (q:Nat) (c:UInt8) (hc:l[q]? = some c) (he:Za4 c=c):ZbW (l.take q)++l.drop q=ZbW (l.take (q+1))++l.drop (q+1):=by
 rw [← ZlU l q c hc,he]
 have hq:q<l.length:=(List.getElem?_eq_some_iff.1 hc).1
 have hl:(ZbW (l.take q)).length=q:=by simp [ZbW];omega
 have hg:l[q]=c:=by rw [List.getElem?_eq_getElem hq] at hc;simpa using hc
 rw [List.set_append_right _ _ (by omega),hl,Nat.sub_self,List.drop_eq_getElem_cons hq,List.set_cons_zero,hg]
theorem Zsq (l:List UInt8) (q:Nat) (c:UInt8) (hc:l[q]? = some c):(ZbW (l.take q)++l.drop q)[q]? = some c:=by
 have hq:q<l.length:=(List.getElem?_eq_some_iff.1 hc).1
 have hl:(ZbW (l.take q)).length=q:=by simp [ZbW];omega
 rw [List.getElem?_append_right (by omega),hl,Nat.sub_self,List.getElem?_drop]
 simpa using hc
set_option maxHeartbeats 400000 in
set_option maxRecDepth 100000 in
theorem ZfQ (s:ByteArray) (w:World) (hs:s.size≤9223372036854775807):Calls Tryz.prog 353 #[.string s] w fun e w'=>e = .returned (.string ⟨(ZbW s.data.toList).toArray⟩)∧Below w.heap.size w w':=by
 obtain ⟨cap,w1,hconv,hb,hB⟩:=Zn5 (P:=Tryz.prog) w 9 341 5 s Tryz.underlying9 Tryz.underlying341 Tryz.underlying5
 have HB:=Lib.hid hb
 have HBB:=Lib.hid hB
 clear hb hB
 have HL:Hid (s.data.toList.length=s.size):=Lib.hid (Array.length_toList)
 go_enter Tryz.func353,Tryz.ntmps353
 go_wp2
 go_loopw [4,5,10] (fun _ _ i wr=>∃ q:Nat,q≤s.size∧i = .int .i64 q∧Below w.heap.size w wr∧BytesAt wr w.heap.size (ZbW (s.data.toList.take q)++s.data.toList.drop q)) (fun _ _ i _=>s.size - (intOf i).toNat)
 case atStart=>exact ⟨0,Nat.zero_le _,rfl,HB.out,by simpa [ZbW] using HBB.out⟩
 case round=>
  obtain ⟨q,hq,rfl,hbw,hBw⟩:=hrel
  by_cases hlt:q<s.size
  ·obtain ⟨x,hx⟩:∃ x,s.data.toList[q]? = some x:=⟨_,List.getElem?_eq_getElem (by rw [HL.out];exact hlt)⟩
   obtain ⟨c0,f0⟩:=hBw.2 q x (Zsq _ _ _ hx)
   have HX:=Lib.hid hx
   have HW:=Lib.hid hBw
   have HQ:=Lib.hid hbw
   clear hx hBw hbw hconv
   have hx1:(x.toNat:Int)<256:=by have:=x.toNat_lt;omega
   by_cases h1:(65:Int)≤x.toNat∧(x.toNat:Int)≤90
   ·obtain ⟨h1,h2⟩:=h1
    go_wp2
    go_roundw
    case rel=>
     refine ⟨q+1,by omega,by go_num,HQ.out.setCell (Nat.le_refl _) _,?_⟩
     have hl:Za4 x=UInt8.ofNat (x.toNat+32):=by unfold Za4;rw [if_pos (by omega)]
     have hl2:((Za4 x).toNat:Int)=(x.toNat:Int)+32:=by rw [hl];simp;omega
     rw [← ZlU _ _ _ HX.out,← hl2]
     exact HW.out.set q _ (by rw [List.length_append];simp [ZbW];omega)
    case measure=>simp [intOf];omega
   ·have hk:Za4 x=x:=by unfold Za4;rw [if_neg (by omega)]
    have HK:=Lib.hid hk
    clear hk
    have h3:(x.toNat:Int)<65∨((65:Int)≤x.toNat∧(90:Int)<x.toNat):=by omega
    clear h1
    rcases h3 with h2 | ⟨h2,h3⟩
    all_goals
     go_wp2
     go_roundw
     case rel=>exact ⟨q+1,by omega,by go_num,HQ.out,by rw [← ZpN _ _ _ HX.out HK.out];exact HW.out⟩
     case measure=>simp [intOf];omega
  ·obtain rfl:q=s.size:=by omega
   have hz:ZbW (s.data.toList.take s.size)++s.data.toList.drop s.size=ZbW s.data.toList:=by
    rw [List.take_of_length_le (by rw [HL.out];omega),List.drop_eq_nil_of_le (by rw [HL.out];omega),List.append_nil]
   rw [hz] at hBw
   have hback:=hBw.back (P:=Tryz.prog) (cap:=cap) 341 9 5 Tryz.underlying341 Tryz.underlying5 Tryz.underlying9
   rw [show (ZbW s.data.toList).length=s.size by rw [ZbW,List.length_map];exact HL.out] at hback
   have HQ:=Lib.hid hbw
   clear hz hBw hbw hconv
   go_wp2
   go_ret
   exact ⟨rfl,HQ.out⟩
def Zsz (w:World):Prop:=∃ m,w.cell? ⟨0,0,none⟩=some (.int .i64 m)
theorem ZsH (s sep:List UInt8):(Lib.cut s sep).1.length≤s.length:=by
 unfold Lib.cut
 split
 ·simp;omega
 ·exact Nat.le_refl _
theorem Zkd (s p:List UInt8):(Lib.trimSuffix s p).length≤s.length:=by
 unfold Lib.trimSuffix
 split
 ·rw [List.length_take];omega
 ·exact Nat.le_refl _
def Zeg (n:List UInt8):Int:=
 if n = [116,97,108,107] then 1 else if n = [117,115,101,114] then 2 else if n = [116,101,109,112,108,97,116,101] then 3 else if n = [99,97,116,101,103,111,114,121] then 4 else if n = [112,114,111,106,101,99,116] then 5 else 0
def Zeh (s:List UInt8):Option (Int×List UInt8):=
 if (Lib.cut s [58]).2.2=true∧Zeg (ZbW (Lib.trimSuffix (Lib.cut s [58]).1 [32]))≠0 then some (Zeg (ZbW (Lib.trimSuffix (Lib.cut s [58]).1 [32])),(Lib.cut s [58]).2.1) else none
def Zg3 (s:List UInt8):Value:=match Zeh s with
 | some (n,r)=>.tuple #[.int .i64 n,.string ⟨r.toArray⟩,.bool true]
 | none=>.tuple #[.int .i64 0,.string ⟨#[]⟩,.bool false]
set_option maxHeartbeats 400000 in
theorem Zni (w:World):Calls Tryz.prog 354 #[] w fun e w'=>e = .returned (.agg #[.string ⟨#[]⟩,.string ⟨#[84,97,108,107]⟩,.string ⟨#[85,115,101,114]⟩,.string ⟨#[84,101,109,112,108,97,116,101]⟩,.string ⟨#[67,97,116,101,103,111,114,121]⟩,.string ⟨#[80,114,111,106,101,99,116]⟩])∧Below w.heap.size w w':=by
 go_enter Tryz.func354,Tryz.ntmps354
 go_wp2
 exact bodyPost_ret (v:=.agg #[.string ⟨#[]⟩,.string ⟨#[84,97,108,107]⟩,.string ⟨#[85,115,101,114]⟩,.string ⟨#[84,101,109,112,108,97,116,101]⟩,.string ⟨#[67,97,116,101,103,111,114,121]⟩,.string ⟨#[80,114,111,106,101,99,116]⟩]) (by simp [results,Tryz.results354,go_sem]) rfl ⟨rfl,Below.al (Below.refl _ _) _⟩
def Zbm (q:Nat):List UInt8:=match q with | 1=>[116,97,108,107] | 2=>[117,115,101,114] | 3=>[116,101,109,112,108,97,116,101] | 4=>[99,97,116,101,103,111,114,121] | 5=>[112,114,111,106,101,99,116] | _=>[]
theorem ZkY (n:List UInt8) (h:∀ j,1≤j→j<6→n≠Zbm j):Zeg n=0:=by
 have h1:=h 1 (by decide) (by decide)
 have h2:=h 2 (by decide) (by decide)
 have h3:=h 3 (by decide) (by decide)
 have h4:=h 4 (by decide) (by decide)
 have h5:=h 5 (by decide) (by decide)
 simp only [Zbm] at h1 h2 h3 h4 h5
 simp only [Zeg,h1,h2,h3,h4,h5,if_false]
set_option maxRecDepth 100000 in
set_option maxHeartbeats 1000000 in
theorem Zg4 (s:ByteArray) (w:World) (hs:s.size<4294967281) (hG:Zsz w):Calls Tryz.prog 321 #[.string s] w fun e w'=>e = .returned (Zg3 s.data.toList)∧Below w.heap.size w w':=by
 obtain ⟨m,hm⟩:=hG
 have HF:Hid (Zg3 s.data.toList=match Zeh s.data.toList with
  | some (n,r)=>.tuple #[.int .i64 n,.string ⟨r.toArray⟩,.bool true]
  | none=>.tuple #[.int .i64 0,.string ⟨#[]⟩,.bool false]):=Lib.hid rfl
 unfold Zeh at HF
 have hl1:(Lib.cut s.data.toList [58]).1.length≤s.data.toList.length:=ZsH _ _
 go_enter Tryz.func321,Tryz.ntmps321
 go_wp2_with fail
 refine (Tryz.strings_Cut s _ m _ hs hm).mono ?_
 rintro e w1 ⟨rfl,n1,rfl⟩
 rw [show (⟨#[58]⟩:ByteArray).data.toList = [58] from rfl]
 generalize Lib.cut s.data.toList [58]=C at *
 obtain ⟨b,a,ok⟩:=C
 cases ok
 ·go_wp2
  go_ret3
  exact ⟨by rw [HF.out];simp,Below.dn (Below.refl _ _) _⟩
 ·go_wp2_with fail
  refine (Tryz.strings_TrimSuffix _ _ _ (by have:=s.data.toList.length;simp only [ByteArray.size,Array.length_toList,List.size_toArray] at hl1 hs ⊢;omega)).mono ?_
  rintro e w1 ⟨rfl,rfl⟩
  go_wp2_with fail
  refine (ZfQ _ _ (by have h2:=Zkd b [32];simp only [ByteArray.size,Array.length_toList,List.size_toArray] at hl1 hs h2 ⊢;omega)).mono ?_
  rintro e w1 ⟨rfl,hb1⟩
  go_wp2_with fail
  refine (Zni _).mono ?_
  rintro e w2 ⟨rfl,hb2⟩
  have HB:=Lib.hid (Below.tr (Below.tr (Below.dn (Below.refl _ _) _) hb1) hb2)
  clear hb1 hb2 hm hs hl1
  generalize ZbW (Lib.trimSuffix b [32])=N at *
  simp only [true_and] at HF
  go_wp2_with fail
  go_loopw [23] (fun i wr=>∃ z:Int,0≤z∧z≤6∧i = .int .i64 z∧Below w2.heap.size w2 wr∧Hid (∀ j:Nat,1≤j→(j:Int)<z→N≠Zbm j)) (fun i _=>6 - (intOf i).toNat)
  case atStart=>exact ⟨0,by omega,by omega,rfl,Below.refl _ _,fun j _ h=>absurd h (by omega)⟩
  case round=>
   obtain ⟨z,hz0,hz6,rfl,hbw,hno⟩:=hrel
   have HQ:=Lib.hid hbw
   clear hbw
   by_cases h6:z=6
   ·subst h6
    have hz:Zeg N=0:=ZkY N fun j h1 h2=>hno.out j h1 (by omega)
    rw [hz] at HF
    clear hz
    go_wp2
    go_ret3
    exact ⟨by rw [HF.out];simp,Below.tr HB.out HQ.out⟩
   ·have hq6:z=0∨z=1∨z=2∨z=3∨z=4∨z=5:=by omega
    clear h6 hz0 hz6
    have ix:∀ w (z:Int) (x:Value),(#[Value.string { data:=#[] },Value.string { data:=#[84,97,108,107] },Value.string { data:=#[85,115,101,114] },Value.string { data:=#[84,101,109,112,108,97,116,101] },Value.string { data:=#[67,97,116,101,103,111,114,121] },Value.string { data:=#[80,114,111,106,101,99,116] }]:Array Value)[z.toNat]? = some x→0≤z→z<6→
     (Instr.index 386 (.agg #[Value.string { data:=#[] },Value.string { data:=#[84,97,108,107] },Value.string { data:=#[85,115,101,114] },Value.string { data:=#[84,101,109,112,108,97,116,101] },Value.string { data:=#[67,97,116,101,103,111,114,121] },Value.string { data:=#[80,114,111,106,101,99,116] }]) (.int .i64 z)).run Tryz.prog w = .ok x w:=by
     intro w z x h h0 h6
     obtain rfl | rfl | rfl | rfl | rfl | rfl:z=0∨z=1∨z=2∨z=3∨z=4∨z=5:=by omega
     all_goals
      (simp at h;subst h;kernel_rfl)
    rcases hq6 with rfl | rfl | rfl | rfl | rfl | rfl
    ·have i0:=fun w=>ix w 0 _ rfl (by decide) (by decide)
     clear ix
     go_wp2
     go_roundw
     case rel=>exact ⟨1,by omega,by omega,rfl,HQ.out,fun j h1 h2=>absurd h2 (by omega)⟩
     case measure=>simp [intOf]
    ·have i0:=fun w=>ix w 1 _ rfl (by decide) (by decide)
     clear ix
     go_wp2_with (go_at_call 353;refine (ZfQ _ _ (by decide)).mono ?_;rintro e w5 ⟨rfl,hb5⟩)
     ·have h:(N == ZbW [84,97,108,107])=true:=by assumption
      have hN:N=Zbm 1:=(beq_iff_eq.1 h).trans (by decide)
      have hz:Zeg N=1:=by rw [hN];decide
      go_ret3
      exact ⟨by rw [HF.out,hz];simp,Below.tr HB.out (Below.tr HQ.out hb5)⟩
     ·go_roundw
      case rel=>
       have h:(N == ZbW [84,97,108,107])=false:=by assumption
       have hN:N≠Zbm 1:=fun e=>beq_eq_false_iff_ne.1 h (e.trans (by decide))
       refine ⟨1+1,by omega,by omega,rfl,Below.tr HQ.out hb5,fun j h1 h2=>?_⟩
       rcases Nat.lt_or_ge j 1 with hj | hj
       ·exact hno.out j h1 (by omega)
       ·obtain rfl:j=1:=by omega
        exact hN
      case measure=>simp [intOf]
    ·have i0:=fun w=>ix w 2 _ rfl (by decide) (by decide)
     clear ix
     go_wp2_with (go_at_call 353;refine (ZfQ _ _ (by decide)).mono ?_;rintro e w5 ⟨rfl,hb5⟩)
     ·have h:(N == ZbW [85,115,101,114])=true:=by assumption
      have hN:N=Zbm 2:=(beq_iff_eq.1 h).trans (by decide)
      have hz:Zeg N=2:=by rw [hN];decide
      go_ret3
      exact ⟨by rw [HF.out,hz];simp,Below.tr HB.out (Below.tr HQ.out hb5)⟩
     ·go_roundw
      case rel=>
       have h:(N == ZbW [85,115,101,114])=false:=by assumption
       have hN:N≠Zbm 2:=fun e=>beq_eq_false_iff_ne.1 h (e.trans (by decide))
       refine ⟨2+1,by omega,by omega,rfl,Below.tr HQ.out hb5,fun j h1 h2=>?_⟩
       rcases Nat.lt_or_ge j 2 with hj | hj
       ·exact hno.out j h1 (by omega)
       ·obtain rfl:j=2:=by omega
        exact hN
      case measure=>simp [intOf]
    ·have i0:=fun w=>ix w 3 _ rfl (by decide) (by decide)
     clear ix
     go_wp2_with (go_at_call 353;refine (ZfQ _ _ (by decide)).mono ?_;rintro e w5 ⟨rfl,hb5⟩)
     ·have h:(N == ZbW [84,101,109,112,108,97,116,101])=true:=by assumption
      have hN:N=Zbm 3:=(beq_iff_eq.1 h).trans (by decide)
      have hz:Zeg N=3:=by rw [hN];decide
      go_ret3
      exact ⟨by rw [HF.out,hz];simp,Below.tr HB.out (Below.tr HQ.out hb5)⟩
     ·go_roundw
      case rel=>
       have h:(N == ZbW [84,101,109,112,108,97,116,101])=false:=by assumption
       have hN:N≠Zbm 3:=fun e=>beq_eq_false_iff_ne.1 h (e.trans (by decide))
       refine ⟨3+1,by omega,by omega,rfl,Below.tr HQ.out hb5,fun j h1 h2=>?_⟩
       rcases Nat.lt_or_ge j 3 with hj | hj
       ·exact hno.out j h1 (by omega)
       ·obtain rfl:j=3:=by omega
        exact hN
      case measure=>simp [intOf]
    ·have i0:=fun w=>ix w 4 _ rfl (by decide) (by decide)
     clear ix
     go_wp2_with (go_at_call 353;refine (ZfQ _ _ (by decide)).mono ?_;rintro e w5 ⟨rfl,hb5⟩)
     ·have h:(N == ZbW [67,97,116,101,103,111,114,121])=true:=by assumption
      have hN:N=Zbm 4:=(beq_iff_eq.1 h).trans (by decide)
      have hz:Zeg N=4:=by rw [hN];decide
      go_ret3
      exact ⟨by rw [HF.out,hz];simp,Below.tr HB.out (Below.tr HQ.out hb5)⟩
     ·go_roundw
      case rel=>
       have h:(N == ZbW [67,97,116,101,103,111,114,121])=false:=by assumption
       have hN:N≠Zbm 4:=fun e=>beq_eq_false_iff_ne.1 h (e.trans (by decide))
       refine ⟨4+1,by omega,by omega,rfl,Below.tr HQ.out hb5,fun j h1 h2=>?_⟩
       rcases Nat.lt_or_ge j 4 with hj | hj
       ·exact hno.out j h1 (by omega)
       ·obtain rfl:j=4:=by omega
        exact hN
      case measure=>simp [intOf]
    ·have i0:=fun w=>ix w 5 _ rfl (by decide) (by decide)
     clear ix
     go_wp2_with (go_at_call 353;refine (ZfQ _ _ (by decide)).mono ?_;rintro e w5 ⟨rfl,hb5⟩)
     ·have h:(N == ZbW [80,114,111,106,101,99,116])=true:=by assumption
      have hN:N=Zbm 5:=(beq_iff_eq.1 h).trans (by decide)
      have hz:Zeg N=5:=by rw [hN];decide
      go_ret3
      exact ⟨by rw [HF.out,hz];simp,Below.tr HB.out (Below.tr HQ.out hb5)⟩
     ·go_roundw
      case rel=>
       have h:(N == ZbW [80,114,111,106,101,99,116])=false:=by assumption
       have hN:N≠Zbm 5:=fun e=>beq_eq_false_iff_ne.1 h (e.trans (by decide))
       refine ⟨5+1,by omega,by omega,rfl,Below.tr HQ.out hb5,fun j h1 h2=>?_⟩
       rcases Nat.lt_or_ge j 5 with hj | hj
       ·exact hno.out j h1 (by omega)
       ·obtain rfl:j=5:=by omega
        exact hN
      case measure=>simp [intOf]
def Zf1:List UInt8:=[60,62,91,93,123,125,124,35,95]
def Zdz:Int→List UInt8→Bool
 | _,[]=>true
 | p,c::r=>if (c.toNat:Int)<32∨(c.toNat:Int)=127∨0≤Lib.indexByte Zf1 c∨((c.toNat:Int)=32∧p=32) then false else Zdz c.toNat r
theorem Zik {p:Int} {c:UInt8} {r:List UInt8} (h:(c.toNat:Int)<32∨(c.toNat:Int)=127∨0≤Lib.indexByte Zf1 c∨((c.toNat:Int)=32∧p=32)):Zdz p (c::r)=false:=by
 simp only [Zdz,if_pos h]
theorem ZkZ {p:Int} {c:UInt8} {r:List UInt8} (h:¬((c.toNat:Int)<32∨(c.toNat:Int)=127∨0≤Lib.indexByte Zf1 c∨((c.toNat:Int)=32∧p=32))):Zdz p (c::r)=Zdz c.toNat r:=by
 simp only [Zdz,if_neg h]
def ZjC (s:ByteArray) (q:Nat):Int:=if h:0<q∧q - 1<s.size then ((s[q - 1]'h.2).toNat:Int) else -1
set_option maxRecDepth 100000 in
set_option maxHeartbeats 1000000 in
theorem Zk0 (s:ByteArray) (w:World) (hs:s.size≤9223372036854775807):Calls Tryz.prog 358 #[.string s] w fun e w'=>e = .returned (.bool (Zdz (-1) s.data.toList))∧w=w':=by
 go_enter Tryz.func358,Tryz.ntmps358
 go_wp2
 go_loop [3,4] (fun i _=>∃ q:Nat,q≤s.size∧i = .int .i64 q∧Hid (Zdz (-1) s.data.toList=Zdz (ZjC s q) (s.data.toList.drop q))) (fun i _=>s.size - (intOf i).toNat)
 case atStart=>exact ⟨0,Nat.zero_le _,rfl,rfl⟩
 case round=>
  obtain ⟨q,hq,rfl,hC⟩:=hrel
  by_cases hlt:q<s.size
  ·have HD:Hid (s.data.toList.drop q=s[q]::s.data.toList.drop (q+1)):=List.drop_eq_getElem_cons (by rw [Array.length_toList];exact hlt)
   have HP':Hid (ZjC s (q+1)=((s[q]'hlt).toNat:Int)):=by unfold ZjC;rw [dif_pos ⟨Nat.succ_pos q,hlt⟩];rfl
   by_cases h0:q=0
   ·subst h0
    have HP:Hid (ZjC s 0 = -1):=rfl
    go_wp2_with (go_at_call 366;refine (Tryz.strings_IndexByte _ _ _).mono ?_;rintro e w' ⟨rfl,rfl⟩)
    all_goals (try simp only [beq_iff_eq,beq_eq_false_iff_ne,ne_eq] at *)
    all_goals first
     | (exfalso;omega)
     | (go_ret;refine ⟨Zef ?_,rfl⟩;rw [hC.out,HD.out];refine (Zik ?_).symm;rw [HP.out];unfold Zf1;omega)
     | (go_round;(case rel=>(refine ⟨1,by omega,rfl,?_⟩;rw [hC.out,HD.out,ZkZ (by rw [HP.out];unfold Zf1;omega)];exact congrArg (fun p=>Zdz p (s.data.toList.drop (0+1))) HP'.out.symm));(case measure=>(simp [intOf];omega)))
   ·have HP:Hid (ZjC s q=((s[q - 1]'(by omega)).toNat:Int)):=by unfold ZjC;rw [dif_pos ⟨by omega,by omega⟩];exact Lib.hid rfl
    have h1:0<q:=by omega
    clear h0
    go_wp2_with (go_at_call 366;refine (Tryz.strings_IndexByte _ _ _).mono ?_;rintro e w' ⟨rfl,rfl⟩)
    all_goals (try simp only [beq_iff_eq,beq_eq_false_iff_ne,ne_eq] at *)
    all_goals first
     | (exfalso;omega)
     | (go_ret;refine ⟨Zef ?_,rfl⟩;rw [hC.out,HD.out];refine (Zik ?_).symm;rw [HP.out];unfold Zf1;omega)
     | (go_round;(case rel=>(refine ⟨q+1,by omega,by go_num,?_⟩;rw [hC.out,HD.out,ZkZ (by rw [HP.out];unfold Zf1;omega)];exact congrArg (fun p=>Zdz p (s.data.toList.drop (q+1))) HP'.out.symm));(case measure=>(simp [intOf];omega)))
  ·obtain rfl:q=s.size:=by omega
   have hz:s.data.toList.drop s.size = []:=List.drop_eq_nil_of_le (by rw [Array.length_toList];exact Nat.le_refl _)
   have HZ:Hid (Zdz (-1) s.data.toList=true):=by rw [hC.out,hz];exact rfl
   clear hz hC
   go_wp2
   go_ret
   exact ⟨Zef HZ.out.symm,rfl⟩
theorem Zoa (s:ByteArray):Lib.countB s ⟨#[47]⟩≤s.size:=by
 have h:=Lib.countB_mul_le ⟨#[47]⟩ (by decide) s.size s (Nat.le_refl _)
 have e:(⟨#[47]⟩:ByteArray).size=1:=rfl
 rw [e] at h
 omega
theorem Zqa:∀ (l:List UInt8) (h:0<l.length),l.headD 0=l[0]
 | _::_,_=>rfl
theorem ZrE (s:ByteArray) (h:0<s.size):s.data.toList.headD 0=s[0]:=
 Zqa _ (by rw [Array.length_toList];exact h)
theorem Zl7 (s:ByteArray) (w:World) (hs:s.size<4294967281) (hG:Zsz w) (h:Zeh s.data.toList=none):Calls Tryz.prog 321 #[.string s] w fun e w'=>e = .returned (.tuple #[.int .i64 0,.string ⟨#[]⟩,.bool false])∧Below w.heap.size w w':=
 (Zg4 s w hs hG).mono fun _ _ ⟨he,hb⟩=>⟨he.trans (by unfold Zg3;rw [h]),hb⟩
theorem Zl8 (s:ByteArray) (w:World) (hs:s.size<4294967281) (hG:Zsz w) {n:Int} {r:List UInt8} (h:Zeh s.data.toList=some (n,r)):Calls Tryz.prog 321 #[.string s] w fun e w'=>e = .returned (.tuple #[.int .i64 n,.string ⟨r.toArray⟩,.bool true])∧Below w.heap.size w w':=
 (Zg4 s w hs hG).mono fun _ _ ⟨he,hb⟩=>⟨he.trans (by unfold Zg3;rw [h]),hb⟩
theorem Zil (sep:ByteArray):∀ (k:Nat) (s p:ByteArray),p ∈ Lib.splitB sep 0 k s→p.size≤s.size
 | 0,s,p,h=>by
   rw [Lib.splitB_zero] at h
   simp at h
   rw [h];exact Nat.le_refl _
 | k+1,s,p,h=>by
   rcases Lib.index_spec s.data.toList sep.data.toList with ⟨h1,_⟩ | ⟨i,h1,_⟩
   ·rw [Lib.splitB_miss sep 0 (k+1) s h1] at h
    simp at h
    rw [h];exact Nat.le_refl _
   ·rw [Lib.splitB_hit sep 0 k s i h1] at h
    rcases List.mem_cons.1 h with h | h
    ·rw [h,ByteArray.size_extract];omega
    ·have:=Zil sep k _ p h
     rw [ByteArray.size_extract] at this
     omega
def Zhv (p:List UInt8):Bool:=decide (p≠[])&&decide (p[0]?≠some 32)&&decide (p.getLast?≠some 32)
theorem ZsI (a:UInt8):decide (some a≠some 32) = !((a.toNat:Int) == 32):=by
 by_cases h:a=32
 ·subst h;rfl
 ·have h2:a.toNat≠32:=fun e=>h (UInt8.toNat_inj.1 e)
  have h3:((a.toNat:Int) == 32)=false:=by rw [beq_eq_false_iff_ne];omega
  rw [h3];simp [h]
theorem Znj (x:ByteArray) (h:0<x.size):Zhv x.data.toList = !((x[0].toNat:Int) == 32||((x[x.size - 1]'(by omega)).toNat:Int) == 32):=by
 have hl:x.data.toList.length=x.size:=Array.length_toList
 have h1:x.data.toList≠[]:=fun e=>by rw [e] at hl;simp at hl;omega
 have h2:x.data.toList[0]? = some x[0]:=List.getElem?_eq_getElem (by omega)
 have h3:x.data.toList.getLast? = some (x[x.size - 1]'(by omega)):=by
  rw [List.getLast?_eq_getElem?,hl]
  exact List.getElem?_eq_getElem (by omega)
 unfold Zhv
 rw [h2,h3,ZsI,ZsI]
 simp [h1]
def Zf2 (c:Int):Bool:=decide (c≠58) && !(decide (97≤c)&&decide (c≤122))
theorem Zim {c:Int} (h:c=58):Zf2 c=false:=by subst h;rfl
theorem Zin {c:Int} (h:97≤c) (h':c≤122):Zf2 c=false:=by simp [Zf2,h,h']
theorem Zio {c:Int} (h:c≠58) (h':c<97∨122<c):Zf2 c=true:=by
 unfold Zf2
 have:¬ (97≤c∧c≤122):=by omega
 simp [h];omega
def Title.valid (t:Title):Bool:=
 decide (0≤t.space)&&decide (t.space<6)&&decide (1≤t.name.size)&&decide (t.name.size≤100)&&Zdz (-1) t.name.data.toList &&
 (Lib.splitB ⟨#[47]⟩ 0 (Lib.countB t.name ⟨#[47]⟩) t.name).all (fun p=>Zhv p.data.toList) &&
 Zf2 (t.name.data.toList.headD 0).toNat &&
 (decide (t.space≠0)||decide (Zeh t.name.data.toList=none))
set_option maxRecDepth 100000 in
set_option maxHeartbeats 1000000 in
theorem Zob (t:Title) (w:World) (hG:Zsz w):Calls Tryz.prog 323 #[.agg #[.int .i64 t.space,.string t.name]] w fun e w'=>e = .returned (.bool t.valid)∧Below w.heap.size w w':=by
 obtain ⟨m,hm⟩:=hG
 obtain ⟨sp,s⟩:=t
 by_cases h:(0≤sp∧sp<6)∧(1≤s.size∧s.size≤100)∧Zdz (-1) s.data.toList=true
 ·obtain ⟨⟨h1,h2⟩,⟨h3,h4⟩,h5⟩:=h
  go_enter Tryz.func323,Tryz.ntmps323
  go_wp2_with (first | (go_at_call 358;refine (Zk0 _ _ (by omega)).mono ?_;rintro e w' ⟨rfl,rfl⟩) | (go_at_call 355;refine (Tryz.strings_Split _ _ m _ (by omega) (by exact re1 (Below.al (Below.refl _ _) _) (Za0 hm) hm) (by decide)).mono ?_;rintro e w' ⟨rfl,rfl⟩))
  have hcl:=Lib.splitB_all ⟨#[47]⟩ (by decide) 0 _ s rfl
  have hb:Below w.heap.size w ((w.alloc (Obj.cells #[Value.int IntKind.i64 sp,Value.string s] 24)).alloc (Obj.cells (List.map Value.string (Lib.splitB { data:=#[47] } 0 (Lib.countB s { data:=#[47] }) s)).toArray 9)):=Below.al (Below.al (Below.refl _ _) _) _
  have hS:=SlR.strs (w.alloc (Obj.cells #[Value.int IntKind.i64 sp,Value.string s] 24)) 9 (n:=Lib.countB s { data:=#[47] }+1) (Lib.splitB { data:=#[47] } 0 (Lib.countB s { data:=#[47] }) s) hcl.symm (by have:=Zoa s;omega)
  have e1:(w.alloc (Obj.cells #[Value.int IntKind.i64 sp,Value.string s] 24)).heap.size=w.heap.size+1:=by simp
  rw [e1] at hS
  have c0:((w.alloc (Obj.cells #[Value.int IntKind.i64 sp,Value.string s] 24)).alloc (Obj.cells (List.map Value.string (Lib.splitB { data:=#[47] } 0 (Lib.countB s { data:=#[47] }) s)).toArray 9)).cell? ⟨w.heap.size,0,none⟩=some (.int .i64 sp):=by go_simp
  generalize (w.alloc (Obj.cells #[Value.int IntKind.i64 sp,Value.string s] 24)).alloc (Obj.cells (List.map Value.string (Lib.splitB { data:=#[47] } 0 (Lib.countB s { data:=#[47] }) s)).toArray 9)=w2 at *
  have HB:=Lib.hid hb
  clear hb e1 hcl
  have hsp:Title.valid ⟨sp,s⟩=((Lib.splitB { data:=#[47] } 0 (Lib.countB s { data:=#[47] }) s).all (fun p=>Zhv p.data.toList)&&(Zf2 (s.data.toList.headD 0).toNat &&
   (decide (sp≠0)||decide (Zeh s.data.toList=none)))):=by simp [Title.valid,h1,h2,h3,h4,h5,Bool.and_assoc]
  have splitB_sizes:=fun p h=>Nat.le_trans (Zil ⟨#[47]⟩ (Lib.countB s ⟨#[47]⟩) s p h) h4
  generalize Lib.countB s { data:=#[47] }=K at *
  generalize Lib.splitB { data:=#[47] } 0 K s=ps at *
  have HSP:=Lib.hid hsp
  have HK:=Lib.hid hS.1
  have hle:=hS.le
  clear hsp
  go_loopw [5,37] (fun _ i wr=>∃ q:Nat,q≤K+1∧i = .int .i64 q∧Below w2.heap.size w2 wr∧Hid (ps.all (fun p=>Zhv p.data.toList)=(ps.drop q).all (fun p=>Zhv p.data.toList))) (fun _ i _=>K+1 - (intOf i).toNat)
  case atStart=>exact ⟨0,by omega,rfl,Below.refl _ _,rfl⟩
  case round=>
   obtain ⟨q,hq,rfl,hbw,hA⟩:=hrel
   have HW:=Lib.hid hbw
   by_cases hlt:q<K+1
   ·obtain ⟨b,off,x,cs,hA0,hbl,hx,hd,hR,hc⟩:=(hS.mono hbw).elem hlt
    obtain ⟨rfl,rfl⟩:w.heap.size+1=b∧0=off:=by injection hA0 with h;injection h with h1 h2;exact ⟨h1,h2⟩
    have d0:wr.cell? ⟨w.heap.size+1,q,none⟩=some (.string x):=by subst hR;simpa using hc 0 _ rfl
    have HD:=Lib.hid hd
    have hxs:=splitB_sizes x (List.mem_of_getElem? hx)
    clear hA0 hx hd hR hc hbw hS h5 h1 h2 hbl splitB_sizes
    by_cases hx0:x.size=0
    ·have hx1:x.toList = []:=by rw [ByteArray.toList_eq];exact List.eq_nil_of_length_eq_zero (by rw [Array.length_toList];exact hx0)
     have HP:Hid (Zhv x.data.toList=false):=Lib.hid (by rw [← ByteArray.toList_eq,hx1];rfl)
     clear hx0
     go_wp2
     go_ret
     exact ⟨Zef (by rw [HSP.out,hA.out,HD.out,List.all_cons,HP.out];rfl),Below.tr HB.out HW.out⟩
    ·have hx1:¬ x.toList = []:=fun e=>by rw [ByteArray.toList_eq] at e;exact hx0 (by have:=congrArg List.length e;rw [Array.length_toList] at this;exact this)
     have hx2:0<x.size:=by omega
     have hx3:(0:Int)≤(x.size:Int) - 1:=by omega
     have HP:=Lib.hid (Znj x hx2)
     clear hx0
     go_wp2
     all_goals (try simp only [beq_iff_eq,beq_eq_false_iff_ne,ne_eq,List.isEmpty_iff,List.isEmpty_eq_false_iff] at *)
     all_goals first
      | (exfalso;omega)
      | (go_ret;refine ⟨Zef ?_,Below.tr HB.out HW.out⟩;rw [HSP.out,hA.out,HD.out,List.all_cons,HP.out];simp_all;done)
      | (go_roundw;(case rel=>(refine ⟨q+1,by omega,by go_num,HW.out,?_⟩;refine Lib.hid ?_;rw [hA.out,HD.out,List.all_cons,HP.out];simp_all));(case measure=>(simp [intOf];omega)))
   ·obtain rfl:q=K+1:=by omega
    have hz:ps.all (fun p=>Zhv p.data.toList)=true:=by
     rw [hA.out,List.drop_eq_nil_of_le (by rw [← HK.out];exact Nat.le_refl _)];rfl
    rw [hz,Bool.true_and] at HSP
    have c1:wr.cell? ⟨w.heap.size,0,none⟩=some (.int .i64 sp):=re1 hbw (Za0 c0) c0
    have hm1:wr.cell? ⟨0,0,none⟩=some (.int .i64 m):=re1 (Below.tr HB.out hbw) (Za0 hm) hm
    have hg:s.data.toList.headD 0=s[0]'(by omega):=ZrE s (by omega)
    rw [hg] at HSP
    have hs0:(0:Int)<s.size:=by omega
    clear hz hbw hS h5 hA c0 hle splitB_sizes hg hm
    rcases hp:Zeh s.data.toList with _ | ⟨n,r⟩
    ·rw [hp] at HSP
     have hpr:=fun W h1 h2=>Zl7 s W h1 h2 hp
     clear hp
     go_wp2_with (go_at_call 321;refine (hpr _ (by omega) ⟨m,by assumption⟩).mono ?_;rintro e w5 ⟨rfl,hb5⟩;have c2:=re1 hb5 (Za0 c1) c1)
     all_goals
      go_ret
      refine ⟨Zef ?_,?_⟩
      ·rw [HSP.out]
       simp only [beq_iff_eq,beq_eq_false_iff_ne,ne_eq] at *
       first
        | (rw [Zim (by omega)];rfl)
        | (rw [Zin (by omega) (by omega)];rfl)
        | (rw [Zio (by omega) (by omega)];simp_all;done)
      ·first | exact Below.tr (Below.tr HB.out HW.out) (by assumption) | exact Below.tr HB.out HW.out
    ·rw [hp] at HSP
     have hpr:=fun W h1 h2=>Zl8 s W h1 h2 hp
     clear hp
     go_wp2_with (go_at_call 321;refine (hpr _ (by omega) ⟨m,by assumption⟩).mono ?_;rintro e w5 ⟨rfl,hb5⟩;have c2:=re1 hb5 (Za0 c1) c1)
     all_goals
      go_ret
      refine ⟨Zef ?_,?_⟩
      ·rw [HSP.out]
       simp only [beq_iff_eq,beq_eq_false_iff_ne,ne_eq] at *
       first
        | (rw [Zim (by omega)];rfl)
        | (rw [Zin (by omega) (by omega)];rfl)
        | (rw [Zio (by omega) (by omega)];simp_all;done)
      ·first | exact Below.tr (Below.tr HB.out HW.out) (by assumption) | exact Below.tr HB.out HW.out
 ·go_enter Tryz.func323,Tryz.ntmps323
  have hv:Title.valid ⟨sp,s⟩=false:=by
   cases hV:Title.valid ⟨sp,s⟩ with
   | false=>rfl
   | true=>
     simp only [Title.valid,Bool.and_eq_true,decide_eq_true_eq] at hV
     obtain ⟨⟨⟨⟨⟨⟨⟨ha,hb⟩,hc⟩,hd⟩,hcl⟩,_⟩,_⟩,_⟩:=hV
     exact absurd ⟨⟨ha,hb⟩,⟨hc,hd⟩,hcl⟩ h
  have HV:=Lib.hid hv
  clear hv
  go_wp2_with (first | (go_at_call 358;refine (Zk0 _ _ (by omega)).mono ?_;rintro e w' ⟨rfl,rfl⟩) | (go_at_call 355;exfalso;have h6:(!Zdz (-1) s.data.toList)=false:=And.right (by assumption);simp at h6;exact h ⟨⟨by omega,by omega⟩,⟨by omega,by omega⟩,h6⟩))
  all_goals
   go_ret
   exact ⟨Zef HV.out.symm,Below.al (Below.refl _ _) _⟩
theorem ZhR:∀ (css:List (List Value)) (xs:List ByteArray),css.length=xs.length→(∀ (i:Nat) (x:ByteArray) (cs:List Value),xs[i]? = some x→css[i]? = some cs→cs = [.string x])→css.flatten=xs.map Value.string
 | [],[],_,_=>rfl
 | [],_::_,h,_=>by simp at h
 | _::_,[],h,_=>by simp at h
 | c::css,x::xs,h,hR=>by
   have h0:=hR 0 x c rfl rfl
   subst h0
   rw [List.flatten_cons,ZhR css xs (by simpa using h) (fun i y cs hy hcs=>hR (i+1) y cs (by simpa using hy) (by simpa using hcs))]
   rfl
theorem OwnL.of_row {w:World} {B:Nat} {E:TypeId} {v:Value} {xs:List ByteArray} (h:w.ownsRow B E 1 v xs.length (xs.map Value.string)):OwnL w B E v xs:=by
 refine ⟨xs.map (fun x=>[.string x]),by simp,?_,fun i x cs hx hcs=>?_⟩
 ·rw [ZhR _ xs (by simp) (fun i x cs hx hcs=>by rw [List.getElem?_map,hx] at hcs;simpa using hcs.symm)]
  exact h
 ·rw [List.getElem?_map,hx] at hcs
  show cs = [.string x]
  simpa using hcs.symm
end Go.Proofs.YtjblgpmagampbaaGreatDoor
