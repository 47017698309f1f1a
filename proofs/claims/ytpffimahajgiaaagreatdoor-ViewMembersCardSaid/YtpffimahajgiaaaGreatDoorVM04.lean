/- DERIVED: THE SHELF's CONTRACTS AT THIS DUMP, IN PLAIN WORDS (tools/lay-plain.mjs out of 'TryzShelf.lean', which tools/lay-shelf.mjs wrote): THE SAME DECLARATIONS UNDER THE SAME NAMES: 'import', 'namespace', 'open', 'def', 'theorem' AND NOTHING ELSE: no command of the shelf's: FOR A HAND-IN. Each .. | strings.Trim at a set of ASCII bytes. | == and != of values without slices, at this translation. Written by types.py. | Function values as Lean functions; functions that hand back a new object; functions that turn an object with rows: held against Lean functions. No program is named. | Rows whose cells lead to other objects of the call: elements, lengths, parts, append. No program is named. | Rows whose cells lead to other objects: stores, append, fronts, literals. No program is named. | Rows whose cells lead to other objects: fronts of them, literals, and a plain row taken as one. No program is named. | The objects of one function under the names of another. No program is named. | Functions that turn many objects which lead to each other. No program is named. | A function that turns many objects which lead to each other: run its body. No program is named. | The rules for rows whose cells lead to other objects, and for calls that turn many objects. No program is named. | Calls that turn many objects which lead to each other: the rule. No program is named. | Objects get new keys and new names. No program is named. | The parser's objects: elements on a stack of pointers, the top one under fixed keys. No program is named. | Lists as nodes have them, read. No program is named. | Maps of the call's own: made, written, read. No program is named. | The rules for maps. No program is named. | Functions of the program as Lean functions. Written by fxgen.py. | strings.Trim and TrimLeft at the sets that links use. | New names where function values that came in lie in slots. No program is named. | A slice that is not empty is not nil. No program is named. | On as far as it goes by itself, but for arrays that are built. No program is named. | make([]T, 0, c): a new row of no elements. No program is named. | A call with function values that hands back a new object. No program is named. | A row of the call's own behind the library's turning of it. No program is named. | Comparisons of numbers, strings, titles and keys, in the program and in the reference: what each call returns. | The reference's comparison of titles, and both comparisons of keys. | Titles: the letters A to Z as lower-case letters. -/
import Derived.Shelf.Strings.Builder1
import Derived.Shelf.Strings.Builder2
import Derived.Shelf.Strings.OnBuilder
import Derived.Shelf.Strings.Trim
import Derived.Shelf.Small.Utf8
import Derived.Shelf.Small.Bits
import Derived.Shelf.Small.Strs
import Derived.Shelf.Small.Wraps
import Derived.Shelf.Strings.BuilderF
import Derived.Shelf.Strings.BuilderK
import Derived.Shelf.Utf8.RuneCount
import Derived.Shelf.Strings.Builder2Cap
import Derived.Shelf.Strconv.Itoa0
import Derived.Shelf.Strings.Search1
import Derived.Shelf.Strings.Search2
import Derived.Shelf.Strings.Search3
import Derived.Shelf.Strings.Cut
import Derived.Shelf.Strings.Count
import Derived.Shelf.LaysM
import Derived.Shelf.Strings.Shaped
import Derived.Shelf.Strings.Prefix
import Derived.Shelf.Strings.Split
import Derived.Shelf.Strings.Replace
import Derived.Shelf.Strings.SplitShaped
import Derived.Shelf.Unicode.Decode
import Derived.Shelf.Strings.Runes
import Derived.Shelf.Strings.RuneCount
import Derived.Shelf.Strings.IndexAny
import Derived.Shelf.Strings.AsciiSet
import Derived.Shelf.Strings.IndexAnyAll
import Derived.Shelf.Strings.Explode
import Derived.Shelf.Bits.Mul64
import Derived.Shelf.Strings.Repeat
import Derived.Shelf.Unicode.DecodeSlow
import Derived.Shelf.Unicode.DecodeAny
import Derived.Shelf.Unicode.DecodeLast
import Derived.Shelf.Strings.BuilderCap
import Derived.Shelf.Slices.Turned
import Derived.Ground.Names2Prog
import Derived.Shelf.Slices.SearchI
import Derived.Test.YtpffimahajgiaaaGreatDoorProg
import Derived.Test.YtpffimahajgiaaaGreatDoorVM03
import Derived.Lib.AsciiSet
import Derived.Test.YtpffimahajgiaaaGreatDoorRows
import Derived.Test.YtpffimahajgiaaaGreatDoorVM02
import Derived.ChangeMaps5
import Derived.Lib.SliceRun
import Derived.Laws.BytesArg
import Derived.Test.YtpffimahajgiaaaGreatDoorVM01
import Derived.Shelf.GgSortFunc.RowK
import Derived.Laws.IdiomStrings
namespace Go.Proofs
open Go.Shelf
def Tryz.lays169_ren:Go.Shelf.Ren:=⟨fun | 169=>63 | n=>n,fun | 70=>118 | 9=>9 | 0=>0 | 72=>121 | 37=>119 | 127=>193 | 3=>3 | 5=>5 | n=>n,fun | n=>n⟩
theorem Tryz.lays169:Go.Proofs.Lays.n169 Tryz.prog Tryz.lays169_ren:={
 mixed:=by kernel_rfl
 f169:=Tryz.func63.trans (congrArg some (by kernel_rfl))
 t0:=Tryz.underlying0
 a0:=Tryz.isAgg0
 z0:=Tryz.sizeOf0
 v0:=Tryz.zeroValue0
 t3:=Tryz.underlying3
 a3:=Tryz.isAgg3
 z3:=Tryz.sizeOf3
 v3:=Tryz.zeroValue3
 t9:=Tryz.underlying9
 a9:=Tryz.isAgg9
 z9:=Tryz.sizeOf9
 v9:=Tryz.zeroValue9
 t37:=Tryz.underlying119
 a37:=Tryz.isAgg119
 z37:=Tryz.sizeOf119
 v37:=Tryz.zeroValue119
 t70:=Tryz.underlying118
 a70:=Tryz.isAgg118
 z70:=Tryz.sizeOf118
 v70:=Tryz.zeroValue118
 t72:=Tryz.underlying121
 a72:=Tryz.isAgg121
 z72:=Tryz.sizeOf121
 v72:=Tryz.zeroValue121
 t127:=Tryz.underlying193
 a127:=Tryz.isAgg193
 z127:=Tryz.sizeOf193
 v127:=Tryz.zeroValue193 }
theorem Tryz.Builder_Extra_169:Builder.Extra Tryz.prog Tryz.lays169_ren:={
 sizeBuilder:=by kernel_rfl
 liesBuilder:=by kernel_rfl
 t5:=Tryz.underlying5
 a5:=Tryz.isAgg5
 z5:=Tryz.sizeOf5
 v5:=Tryz.zeroValue5
 infoByte:=by kernel_rfl
 cellsByte:=by kernel_rfl
 sizeByte:=by kernel_rfl
 neB5:=by decide }
def Tryz.lays156_ren:Go.Shelf.Ren:=⟨fun | 156=>19 | 165=>61 | 166=>62 | 169=>63 | 240=>108 | 241=>109 | 276=>174 | 277=>175 | n=>n,fun | 31=>28 | 9=>9 | 3=>3 | 4=>4 | 0=>0 | 20=>20 | 72=>121 | 76=>125 | 70=>118 | 37=>119 | 75=>124 | 127=>193 | 164=>237 | 5=>5 | 80=>74 | n=>n,fun | n=>n⟩
theorem Tryz.lays156:Go.Proofs.Lays.n156 Tryz.prog Tryz.lays156_ren:={
 mixed:=by kernel_rfl
 f156:=Tryz.func19.trans (congrArg some (by kernel_rfl))
 f165:=Tryz.func61.trans (congrArg some (by kernel_rfl))
 f166:=Tryz.func62.trans (congrArg some (by kernel_rfl))
 f169:=Tryz.func63.trans (congrArg some (by kernel_rfl))
 f240:=Tryz.func108.trans (congrArg some (by kernel_rfl))
 f241:=Tryz.func109.trans (congrArg some (by kernel_rfl))
 f276:=Tryz.func174.trans (congrArg some (by kernel_rfl))
 f277:=Tryz.func175.trans (congrArg some (by kernel_rfl))
 t0:=Tryz.underlying0
 a0:=Tryz.isAgg0
 z0:=Tryz.sizeOf0
 v0:=Tryz.zeroValue0
 t3:=Tryz.underlying3
 a3:=Tryz.isAgg3
 z3:=Tryz.sizeOf3
 v3:=Tryz.zeroValue3
 t4:=Tryz.underlying4
 a4:=Tryz.isAgg4
 z4:=Tryz.sizeOf4
 v4:=Tryz.zeroValue4
 t9:=Tryz.underlying9
 a9:=Tryz.isAgg9
 z9:=Tryz.sizeOf9
 v9:=Tryz.zeroValue9
 t20:=Tryz.underlying20
 a20:=Tryz.isAgg20
 z20:=Tryz.sizeOf20
 v20:=Tryz.zeroValue20
 t31:=Tryz.underlying28
 a31:=Tryz.isAgg28
 z31:=Tryz.sizeOf28
 v31:=Tryz.zeroValue28
 t37:=Tryz.underlying119
 a37:=Tryz.isAgg119
 z37:=Tryz.sizeOf119
 v37:=Tryz.zeroValue119
 t70:=Tryz.underlying118
 a70:=Tryz.isAgg118
 z70:=Tryz.sizeOf118
 v70:=Tryz.zeroValue118
 t72:=Tryz.underlying121
 a72:=Tryz.isAgg121
 z72:=Tryz.sizeOf121
 v72:=Tryz.zeroValue121
 t75:=Tryz.underlying124
 a75:=Tryz.isAgg124
 z75:=Tryz.sizeOf124
 v75:=Tryz.zeroValue124
 t76:=Tryz.underlying125
 a76:=Tryz.isAgg125
 z76:=Tryz.sizeOf125
 v76:=Tryz.zeroValue125
 t127:=Tryz.underlying193
 a127:=Tryz.isAgg193
 z127:=Tryz.sizeOf193
 v127:=Tryz.zeroValue193
 t164:=Tryz.underlying237
 a164:=Tryz.isAgg237
 z164:=Tryz.sizeOf237
 v164:=Tryz.zeroValue237 }
theorem Tryz.Builder_Extra_156:Builder.Extra Tryz.prog Tryz.lays156_ren:={
 sizeBuilder:=by kernel_rfl
 liesBuilder:=by kernel_rfl
 t5:=Tryz.underlying5
 a5:=Tryz.isAgg5
 z5:=Tryz.sizeOf5
 v5:=Tryz.zeroValue5
 infoByte:=by kernel_rfl
 cellsByte:=by kernel_rfl
 sizeByte:=by kernel_rfl
 neB5:=by decide }
open Go.RowKit in
theorem Tryz.strings_Join (bk o c:Nat) (xs:List ByteArray) (sep:ByteArray) (w:World) (hcells:∀ (j:Nat) x,xs[j]? = some x->w.cell? ⟨bk,o+j,none⟩=some (.string x)) (hbk:bk<w.heap.size) (hN:xs.length<=140737488355328) (hcap:xs.length<=c) (hlen:(Lib.join (xs.map (·.data.toList)) sep.data.toList).length<=140737488355328) :
  Calls Tryz.prog 19 #[.slice (some ⟨bk,o,none⟩) xs.length c,.string sep] w fun e w'=>e = .returned (.string ⟨(Lib.join (xs.map (·.data.toList)) sep.data.toList).toArray⟩)/\Below w.heap.size w w':=Any.strings_Join Tryz.lays156 Tryz.Builder_Extra_156 bk o c xs sep w hcells hbk hN hcap hlen
def Tryz.lays213_ren:Go.Shelf.Ren:=⟨fun | 213=>164 | 265=>208 | n=>n,fun | 9=>9 | 3=>3 | n=>n,fun | n=>n⟩
def Tryz.lays106_ren:Go.Shelf.Ren:=⟨fun | 106=>99 | 213=>164 | 265=>208 | n=>n,fun | 9=>9 | 3=>3 | n=>n,fun | n=>n⟩
theorem Tryz.lays106:Go.Proofs.Lays.n106 Tryz.prog Tryz.lays106_ren:={
 mixed:=by kernel_rfl
 f106:=Tryz.func99.trans (congrArg some (by kernel_rfl))
 f213:=Tryz.func164.trans (congrArg some (by kernel_rfl))
 f265:=Tryz.func208.trans (congrArg some (by kernel_rfl))
 t3:=Tryz.underlying3
 a3:=Tryz.isAgg3
 z3:=Tryz.sizeOf3
 v3:=Tryz.zeroValue3
 t9:=Tryz.underlying9
 a9:=Tryz.isAgg9
 z9:=Tryz.sizeOf9
 v9:=Tryz.zeroValue9 }
open Go.RowKit in
theorem Tryz.strings_Compare (a b:ByteArray) (w:World) :
  Calls Tryz.prog 99 #[.string a,.string b] w fun e w'=>e = .returned (.int .i64 (Lib.compareBytes a.data.toList b.data.toList))/\w'=w:=Any.strings_Compare Tryz.lays106 a b w
def Tryz.lays137_ren:Go.Shelf.Ren:=⟨fun | 137=>125 | 217=>185 | 266=>214 | n=>n,fun | 9=>9 | 5=>5 | 3=>3 | n=>n,fun | n=>n⟩
theorem Tryz.lays137:Go.Proofs.Lays.n137 Tryz.prog Tryz.lays137_ren:={
 mixed:=by kernel_rfl
 f137:=Tryz.func125.trans (congrArg some (by kernel_rfl))
 f217:=Tryz.func185.trans (congrArg some (by kernel_rfl))
 f266:=Tryz.func214.trans (congrArg some (by kernel_rfl))
 t3:=Tryz.underlying3
 a3:=Tryz.isAgg3
 z3:=Tryz.sizeOf3
 v3:=Tryz.zeroValue3
 t5:=Tryz.underlying5
 a5:=Tryz.isAgg5
 z5:=Tryz.sizeOf5
 v5:=Tryz.zeroValue5
 t9:=Tryz.underlying9
 a9:=Tryz.isAgg9
 z9:=Tryz.sizeOf9
 v9:=Tryz.zeroValue9 }
open Go.RowKit in
theorem Tryz.strings_IndexByte (s:ByteArray) (c:Int) (w:World) :
  Calls Tryz.prog 125 #[.string s,.int .u8 c] w fun e w'=>e = .returned (.int .i64 (Lib.indexByte s.data.toList c.toNat.toUInt8))/\w'=w:=Any.strings_IndexByte Tryz.lays137 s c w
def Tryz.lays210_ren:Go.Shelf.Ren:=⟨fun | 210=>148 | 206=>114 | n=>n,fun | 9=>9 | 4=>4 | 3=>3 | n=>n,fun | n=>n⟩
def Tryz.lays215_ren:Go.Shelf.Ren:=⟨fun | 215=>98 | n=>n,fun | 3=>3 | 4=>4 | n=>n,fun | n=>n⟩
def Tryz.lays122_ren:Go.Shelf.Ren:=⟨fun | 122=>48 | 215=>98 | n=>n,fun | 3=>3 | 4=>4 | n=>n,fun | n=>n⟩
theorem Tryz.lays122:Go.Proofs.Lays.n122 Tryz.prog Tryz.lays122_ren:={
 mixed:=by kernel_rfl
 f122:=Tryz.func48.trans (congrArg some (by kernel_rfl))
 f215:=Tryz.func98.trans (congrArg some (by kernel_rfl))
 t3:=Tryz.underlying3
 a3:=Tryz.isAgg3
 z3:=Tryz.sizeOf3
 v3:=Tryz.zeroValue3
 t4:=Tryz.underlying4
 a4:=Tryz.isAgg4
 z4:=Tryz.sizeOf4
 v4:=Tryz.zeroValue4 }
open Go.RowKit in
theorem Tryz.cmp_Compare_int (x y:Int) (w:World) :
  Calls Tryz.prog 48 #[.int .i64 x,.int .i64 y] w fun e w'=>e = .returned (.int .i64 (Lib.compareInt x y))/\w'=w:=Any.cmp_Compare_int Tryz.lays122 x y w
open Go.RowKit in
theorem Tryz.Builder_String_any_f (B b:Nat) (l:List UInt8) (w:World) (h:Lib.IsBuilderF 121 5 B b (Lib.byteCells l) w) (hBw:B<=w.heap.size) :
  Calls Tryz.prog 63 #[.pointer (some ⟨b,0,none⟩)] w fun e w'=>e = .returned (.string ⟨l.toArray⟩)/\(Lib.IsBuilderF 121 5 B b (Lib.byteCells l) w'/\Below B w w'):=Any.Builder_String_any_f Tryz.lays169 Tryz.Builder_Extra_169 B b l w h hBw
def Tryz.lays219_ren:Go.Shelf.Ren:=⟨fun | 219=>195 | 217=>185 | 225=>219 | 224=>220 | 267=>221 | 266=>214 | 314=>230 | n=>n,fun | 9=>9 | 3=>3 | 4=>4 | 5=>5 | 46=>131 | 146=>195 | 51=>194 | n=>n,fun | 1=>0 | n=>n⟩
def Tryz.lays143_ren:Go.Shelf.Ren:=⟨fun | 143=>144 | 219=>195 | 217=>185 | 225=>219 | 224=>220 | 267=>221 | 266=>214 | 314=>230 | n=>n,fun | 9=>9 | 3=>3 | 4=>4 | 5=>5 | 46=>131 | 146=>195 | 51=>194 | n=>n,fun | 1=>0 | n=>n⟩
theorem Tryz.lays143:Go.Proofs.Lays.n143 Tryz.prog Tryz.lays143_ren:={
 mixed:=by kernel_rfl
 f143:=Tryz.func144.trans (congrArg some (by kernel_rfl))
 f217:=Tryz.func185.trans (congrArg some (by kernel_rfl))
 f219:=Tryz.func195.trans (congrArg some (by kernel_rfl))
 f224:=Tryz.func220.trans (congrArg some (by kernel_rfl))
 f225:=Tryz.func219.trans (congrArg some (by kernel_rfl))
 f266:=Tryz.func214.trans (congrArg some (by kernel_rfl))
 f267:=Tryz.func221.trans (congrArg some (by kernel_rfl))
 f314:=Tryz.func230.trans (congrArg some (by kernel_rfl))
 t3:=Tryz.underlying3
 a3:=Tryz.isAgg3
 z3:=Tryz.sizeOf3
 v3:=Tryz.zeroValue3
 t4:=Tryz.underlying4
 a4:=Tryz.isAgg4
 z4:=Tryz.sizeOf4
 v4:=Tryz.zeroValue4
 t5:=Tryz.underlying5
 a5:=Tryz.isAgg5
 z5:=Tryz.sizeOf5
 v5:=Tryz.zeroValue5
 t9:=Tryz.underlying9
 a9:=Tryz.isAgg9
 z9:=Tryz.sizeOf9
 v9:=Tryz.zeroValue9
 t46:=Tryz.underlying131
 a46:=Tryz.isAgg131
 z46:=Tryz.sizeOf131
 v46:=Tryz.zeroValue131
 t51:=Tryz.underlying194
 a51:=Tryz.isAgg194
 z51:=Tryz.sizeOf194
 v51:=Tryz.zeroValue194
 t146:=Tryz.underlying195
 a146:=Tryz.isAgg195
 z146:=Tryz.sizeOf195
 v146:=Tryz.zeroValue195
 g1:=by kernel_rfl }
open Go.RowKit Go.Lib in
theorem Tryz.strings_Index (s sub:ByteArray) (m:Int) (w:World) (hs:s.size<4294967281) (hm:w.cell? ⟨0,0,none⟩=some (.int .i64 m)) :
  Calls Tryz.prog 144 #[.string s,.string sub] w fun e w'=>e = .returned (.int .i64 (Lib.index s.data.toList sub.data.toList))/\w'=w:=Any.strings_Index Tryz.lays143 s sub m w hs hm
def Tryz.lays144_ren:Go.Shelf.Ren:=⟨fun | 144=>94 | 143=>144 | 219=>195 | 217=>185 | 225=>219 | 224=>220 | 267=>221 | 266=>214 | 314=>230 | n=>n,fun | 9=>9 | 4=>4 | 3=>3 | 5=>5 | 46=>131 | 146=>195 | 51=>194 | n=>n,fun | 1=>0 | n=>n⟩
theorem Tryz.lays144:Go.Proofs.Lays.n144 Tryz.prog Tryz.lays144_ren:={
 mixed:=by kernel_rfl
 f143:=Tryz.func144.trans (congrArg some (by kernel_rfl))
 f144:=Tryz.func94.trans (congrArg some (by kernel_rfl))
 f217:=Tryz.func185.trans (congrArg some (by kernel_rfl))
 f219:=Tryz.func195.trans (congrArg some (by kernel_rfl))
 f224:=Tryz.func220.trans (congrArg some (by kernel_rfl))
 f225:=Tryz.func219.trans (congrArg some (by kernel_rfl))
 f266:=Tryz.func214.trans (congrArg some (by kernel_rfl))
 f267:=Tryz.func221.trans (congrArg some (by kernel_rfl))
 f314:=Tryz.func230.trans (congrArg some (by kernel_rfl))
 t3:=Tryz.underlying3
 a3:=Tryz.isAgg3
 z3:=Tryz.sizeOf3
 v3:=Tryz.zeroValue3
 t4:=Tryz.underlying4
 a4:=Tryz.isAgg4
 z4:=Tryz.sizeOf4
 v4:=Tryz.zeroValue4
 t5:=Tryz.underlying5
 a5:=Tryz.isAgg5
 z5:=Tryz.sizeOf5
 v5:=Tryz.zeroValue5
 t9:=Tryz.underlying9
 a9:=Tryz.isAgg9
 z9:=Tryz.sizeOf9
 v9:=Tryz.zeroValue9
 t46:=Tryz.underlying131
 a46:=Tryz.isAgg131
 z46:=Tryz.sizeOf131
 v46:=Tryz.zeroValue131
 t51:=Tryz.underlying194
 a51:=Tryz.isAgg194
 z51:=Tryz.sizeOf194
 v51:=Tryz.zeroValue194
 t146:=Tryz.underlying195
 a146:=Tryz.isAgg195
 z146:=Tryz.sizeOf195
 v146:=Tryz.zeroValue195
 g1:=by kernel_rfl }
open Go.RowKit Go.Lib in
theorem Tryz.strings_Contains (s sub:ByteArray) (m:Int) (w:World) (hs:s.size<4294967281) (hm:w.cell? ⟨0,0,none⟩=some (.int .i64 m)) :
  Calls Tryz.prog 94 #[.string s,.string sub] w fun e w'=>e = .returned (.bool (Lib.contains s.data.toList sub.data.toList))/\w'=w:=Any.strings_Contains Tryz.lays144 s sub m w hs hm
def Tryz.lays145_ren:Go.Shelf.Ren:=⟨fun | 145=>127 | 220=>188 | 219=>195 | 217=>185 | 225=>219 | 224=>220 | 267=>221 | 266=>214 | 314=>230 | n=>n,fun | 9=>9 | 4=>4 | 59=>206 | 3=>3 | 5=>5 | 46=>131 | 146=>195 | 51=>194 | n=>n,fun | 1=>0 | n=>n⟩
theorem Tryz.lays145:Go.Proofs.Lays.n145 Tryz.prog Tryz.lays145_ren:={
 mixed:=by kernel_rfl
 f145:=Tryz.func127.trans (congrArg some (by kernel_rfl))
 f217:=Tryz.func185.trans (congrArg some (by kernel_rfl))
 f219:=Tryz.func195.trans (congrArg some (by kernel_rfl))
 f220:=Tryz.func188.trans (congrArg some (by kernel_rfl))
 f224:=Tryz.func220.trans (congrArg some (by kernel_rfl))
 f225:=Tryz.func219.trans (congrArg some (by kernel_rfl))
 f266:=Tryz.func214.trans (congrArg some (by kernel_rfl))
 f267:=Tryz.func221.trans (congrArg some (by kernel_rfl))
 f314:=Tryz.func230.trans (congrArg some (by kernel_rfl))
 t3:=Tryz.underlying3
 a3:=Tryz.isAgg3
 z3:=Tryz.sizeOf3
 v3:=Tryz.zeroValue3
 t4:=Tryz.underlying4
 a4:=Tryz.isAgg4
 z4:=Tryz.sizeOf4
 v4:=Tryz.zeroValue4
 t5:=Tryz.underlying5
 a5:=Tryz.isAgg5
 z5:=Tryz.sizeOf5
 v5:=Tryz.zeroValue5
 t9:=Tryz.underlying9
 a9:=Tryz.isAgg9
 z9:=Tryz.sizeOf9
 v9:=Tryz.zeroValue9
 t46:=Tryz.underlying131
 a46:=Tryz.isAgg131
 z46:=Tryz.sizeOf131
 v46:=Tryz.zeroValue131
 t51:=Tryz.underlying194
 a51:=Tryz.isAgg194
 z51:=Tryz.sizeOf194
 v51:=Tryz.zeroValue194
 t59:=Tryz.underlying206
 a59:=Tryz.isAgg206
 z59:=Tryz.sizeOf206
 v59:=Tryz.zeroValue206
 t146:=Tryz.underlying195
 a146:=Tryz.isAgg195
 z146:=Tryz.sizeOf195
 v146:=Tryz.zeroValue195
 g1:=by kernel_rfl }
open Go.RowKit Go.Lib in
theorem Tryz.strings_Cut (s sep:ByteArray) (m:Int) (w:World) (hs:s.size<4294967281) (hm:w.cell? ⟨0,0,none⟩=some (.int .i64 m)) :
  Calls Tryz.prog 127 #[.string s,.string sep] w fun e w'=>e = .returned (.tuple #[.string ⟨(Lib.cut s.data.toList sep.data.toList).1.toArray⟩,.string ⟨(Lib.cut s.data.toList sep.data.toList).2.1.toArray⟩,.bool (Lib.cut s.data.toList sep.data.toList).2.2])/\∃ n,w'=w.drewN n:=Any.strings_Cut Tryz.lays145 s sep m w hs hm
def Tryz.lays102_ren:Go.Shelf.Ren:=⟨fun | 102=>129 | 209=>189 | 207=>217 | n=>n,fun | 9=>9 | 4=>4 | 3=>3 | n=>n,fun | n=>n⟩
theorem Tryz.lays102:Go.Proofs.Lays.n102 Tryz.prog Tryz.lays102_ren:={
 mixed:=by kernel_rfl
 f102:=Tryz.func129.trans (congrArg some (by kernel_rfl))
 f207:=Tryz.func217.trans (congrArg some (by kernel_rfl))
 f209:=Tryz.func189.trans (congrArg some (by kernel_rfl))
 t3:=Tryz.underlying3
 a3:=Tryz.isAgg3
 z3:=Tryz.sizeOf3
 v3:=Tryz.zeroValue3
 t4:=Tryz.underlying4
 a4:=Tryz.isAgg4
 z4:=Tryz.sizeOf4
 v4:=Tryz.zeroValue4
 t9:=Tryz.underlying9
 a9:=Tryz.isAgg9
 z9:=Tryz.sizeOf9
 v9:=Tryz.zeroValue9 }
open Go.RowKit Go.Lib in
theorem Tryz.strings_TrimSuffix (s p:ByteArray) (w:World) (hs:s.size<=9223372036854775807) :
  Calls Tryz.prog 129 #[.string s,.string p] w fun e w'=>e = .returned (.string ⟨(Lib.trimSuffix s.data.toList p.data.toList).toArray⟩)/\w'=w:=Any.strings_TrimSuffix Tryz.lays102 s p w hs
def Tryz.lays221_ren:Go.Shelf.Ren:=⟨fun | 221=>126 | 268=>186 | 138=>187 | 143=>144 | 195=>215 | 197=>197 | 218=>216 | 219=>195 | 260=>222 | 217=>185 | 225=>219 | 224=>220 | 267=>221 | 266=>214 | 314=>230 | n=>n,fun | 9=>9 | 3=>3 | 31=>28 | 4=>4 | 0=>0 | 105=>248 | 21=>21 | 5=>5 | 46=>131 | 119=>265 | 139=>268 | 138=>267 | 146=>195 | 51=>194 | n=>n,fun | 1=>0 | 3=>1 | 4=>2 | n=>n⟩
def Tryz.lays146_ren:Go.Shelf.Ren:=⟨fun | 146=>83 | 221=>126 | 268=>186 | 138=>187 | 143=>144 | 195=>215 | 197=>197 | 218=>216 | 219=>195 | 260=>222 | 217=>185 | 225=>219 | 224=>220 | 267=>221 | 266=>214 | 314=>230 | n=>n,fun | 9=>9 | 31=>28 | 3=>3 | 4=>4 | 0=>0 | 105=>248 | 21=>21 | 5=>5 | 46=>131 | 119=>265 | 139=>268 | 138=>267 | 146=>195 | 51=>194 | n=>n,fun | 1=>0 | 3=>1 | 4=>2 | n=>n⟩
theorem Tryz.lays146:Go.Proofs.Lays.n146 Tryz.prog Tryz.lays146_ren:={
 mixed:=by kernel_rfl
 f138:=Tryz.func187.trans (congrArg some (by kernel_rfl))
 f143:=Tryz.func144.trans (congrArg some (by kernel_rfl))
 f146:=Tryz.func83.trans (congrArg some (by kernel_rfl))
 f195:=Tryz.func215.trans (congrArg some (by kernel_rfl))
 f197:=Tryz.func197.trans (congrArg some (by kernel_rfl))
 f217:=Tryz.func185.trans (congrArg some (by kernel_rfl))
 f218:=Tryz.func216.trans (congrArg some (by kernel_rfl))
 f219:=Tryz.func195.trans (congrArg some (by kernel_rfl))
 f221:=Tryz.func126.trans (congrArg some (by kernel_rfl))
 f224:=Tryz.func220.trans (congrArg some (by kernel_rfl))
 f225:=Tryz.func219.trans (congrArg some (by kernel_rfl))
 f260:=Tryz.func222.trans (congrArg some (by kernel_rfl))
 f266:=Tryz.func214.trans (congrArg some (by kernel_rfl))
 f267:=Tryz.func221.trans (congrArg some (by kernel_rfl))
 f268:=Tryz.func186.trans (congrArg some (by kernel_rfl))
 f314:=Tryz.func230.trans (congrArg some (by kernel_rfl))
 t0:=Tryz.underlying0
 a0:=Tryz.isAgg0
 z0:=Tryz.sizeOf0
 v0:=Tryz.zeroValue0
 t3:=Tryz.underlying3
 a3:=Tryz.isAgg3
 z3:=Tryz.sizeOf3
 v3:=Tryz.zeroValue3
 t4:=Tryz.underlying4
 a4:=Tryz.isAgg4
 z4:=Tryz.sizeOf4
 v4:=Tryz.zeroValue4
 t5:=Tryz.underlying5
 a5:=Tryz.isAgg5
 z5:=Tryz.sizeOf5
 v5:=Tryz.zeroValue5
 t9:=Tryz.underlying9
 a9:=Tryz.isAgg9
 z9:=Tryz.sizeOf9
 v9:=Tryz.zeroValue9
 t21:=Tryz.underlying21
 a21:=Tryz.isAgg21
 z21:=Tryz.sizeOf21
 v21:=Tryz.zeroValue21
 t31:=Tryz.underlying28
 a31:=Tryz.isAgg28
 z31:=Tryz.sizeOf28
 v31:=Tryz.zeroValue28
 t46:=Tryz.underlying131
 a46:=Tryz.isAgg131
 z46:=Tryz.sizeOf131
 v46:=Tryz.zeroValue131
 t51:=Tryz.underlying194
 a51:=Tryz.isAgg194
 z51:=Tryz.sizeOf194
 v51:=Tryz.zeroValue194
 t105:=Tryz.underlying248
 a105:=Tryz.isAgg248
 z105:=Tryz.sizeOf248
 v105:=Tryz.zeroValue248
 t119:=Tryz.underlying265
 a119:=Tryz.isAgg265
 z119:=Tryz.sizeOf265
 t138:=Tryz.underlying267
 a138:=Tryz.isAgg267
 z138:=Tryz.sizeOf267
 v138:=Tryz.zeroValue267
 t139:=Tryz.underlying268
 a139:=Tryz.isAgg268
 z139:=Tryz.sizeOf268
 v139:=Tryz.zeroValue268
 t146:=Tryz.underlying195
 a146:=Tryz.isAgg195
 z146:=Tryz.sizeOf195
 v146:=Tryz.zeroValue195
 g1:=by kernel_rfl
 g3:=by kernel_rfl
 g4:=by kernel_rfl }
open Go.RowKit Go.Lib in
theorem Tryz.strings_Split (s sep:ByteArray) (m:Int) (w:World) (hs:s.size<4294967281) (hm:w.cell? ⟨0,0,none⟩=some (.int .i64 m)) (h1:1<=sep.size) :
  Calls Tryz.prog 83 #[.string s,.string sep] w fun e w'=>
   e = .returned (.slice (some ⟨w.heap.size,0,none⟩) (Lib.countB s sep+1) (Lib.countB s sep+1))/\w'=w.alloc (.cells ((Lib.splitB sep 0 (Lib.countB s sep) s).map Value.string).toArray 9):=Any.strings_Split Tryz.lays146 (by kernel_rfl) s sep m w hs hm h1
def Tryz.lays154_ren:Go.Shelf.Ren:=⟨fun | 154=>223 | 138=>187 | 165=>61 | 143=>144 | 166=>62 | 197=>197 | 169=>63 | 195=>215 | 218=>216 | 240=>108 | 241=>109 | 219=>195 | 260=>222 | 276=>174 | 277=>175 | 217=>185 | 225=>219 | 224=>220 | 267=>221 | 266=>214 | 314=>230 | n=>n,fun | 9=>9 | 3=>3 | 4=>4 | 72=>121 | 0=>0 | 76=>125 | 105=>248 | 21=>21 | 5=>5 | 70=>118 | 20=>20 | 37=>119 | 75=>124 | 127=>193 | 164=>237 | 46=>131 | 119=>265 | 139=>268 | 138=>267 | 146=>195 | 51=>194 | 80=>74 | n=>n,fun | 1=>0 | 3=>1 | 4=>2 | n=>n⟩
def Tryz.lays155_ren:Go.Shelf.Ren:=⟨fun | 155=>200 | 154=>223 | 138=>187 | 165=>61 | 143=>144 | 166=>62 | 197=>197 | 169=>63 | 195=>215 | 218=>216 | 240=>108 | 241=>109 | 219=>195 | 260=>222 | 276=>174 | 277=>175 | 217=>185 | 225=>219 | 224=>220 | 267=>221 | 266=>214 | 314=>230 | n=>n,fun | 9=>9 | 3=>3 | 4=>4 | 72=>121 | 0=>0 | 76=>125 | 105=>248 | 21=>21 | 5=>5 | 70=>118 | 20=>20 | 37=>119 | 75=>124 | 127=>193 | 164=>237 | 46=>131 | 119=>265 | 139=>268 | 138=>267 | 146=>195 | 51=>194 | 80=>74 | n=>n,fun | 1=>0 | 3=>1 | 4=>2 | n=>n⟩
theorem Tryz.lays155:Go.Proofs.Lays.n155 Tryz.prog Tryz.lays155_ren:={
 mixed:=by kernel_rfl
 f138:=Tryz.func187.trans (congrArg some (by kernel_rfl))
 f143:=Tryz.func144.trans (congrArg some (by kernel_rfl))
 f154:=Tryz.func223.trans (congrArg some (by kernel_rfl))
 f155:=Tryz.func200.trans (congrArg some (by kernel_rfl))
 f165:=Tryz.func61.trans (congrArg some (by kernel_rfl))
 f166:=Tryz.func62.trans (congrArg some (by kernel_rfl))
 f169:=Tryz.func63.trans (congrArg some (by kernel_rfl))
 f195:=Tryz.func215.trans (congrArg some (by kernel_rfl))
 f197:=Tryz.func197.trans (congrArg some (by kernel_rfl))
 f217:=Tryz.func185.trans (congrArg some (by kernel_rfl))
 f218:=Tryz.func216.trans (congrArg some (by kernel_rfl))
 f219:=Tryz.func195.trans (congrArg some (by kernel_rfl))
 f224:=Tryz.func220.trans (congrArg some (by kernel_rfl))
 f225:=Tryz.func219.trans (congrArg some (by kernel_rfl))
 f240:=Tryz.func108.trans (congrArg some (by kernel_rfl))
 f241:=Tryz.func109.trans (congrArg some (by kernel_rfl))
 f260:=Tryz.func222.trans (congrArg some (by kernel_rfl))
 f266:=Tryz.func214.trans (congrArg some (by kernel_rfl))
 f267:=Tryz.func221.trans (congrArg some (by kernel_rfl))
 f276:=Tryz.func174.trans (congrArg some (by kernel_rfl))
 f277:=Tryz.func175.trans (congrArg some (by kernel_rfl))
 f314:=Tryz.func230.trans (congrArg some (by kernel_rfl))
 t0:=Tryz.underlying0
 a0:=Tryz.isAgg0
 z0:=Tryz.sizeOf0
 v0:=Tryz.zeroValue0
 t3:=Tryz.underlying3
 a3:=Tryz.isAgg3
 z3:=Tryz.sizeOf3
 v3:=Tryz.zeroValue3
 t4:=Tryz.underlying4
 a4:=Tryz.isAgg4
 z4:=Tryz.sizeOf4
 v4:=Tryz.zeroValue4
 t5:=Tryz.underlying5
 a5:=Tryz.isAgg5
 z5:=Tryz.sizeOf5
 v5:=Tryz.zeroValue5
 t9:=Tryz.underlying9
 a9:=Tryz.isAgg9
 z9:=Tryz.sizeOf9
 v9:=Tryz.zeroValue9
 t20:=Tryz.underlying20
 a20:=Tryz.isAgg20
 z20:=Tryz.sizeOf20
 v20:=Tryz.zeroValue20
 t21:=Tryz.underlying21
 a21:=Tryz.isAgg21
 z21:=Tryz.sizeOf21
 v21:=Tryz.zeroValue21
 t37:=Tryz.underlying119
 a37:=Tryz.isAgg119
 z37:=Tryz.sizeOf119
 v37:=Tryz.zeroValue119
 t46:=Tryz.underlying131
 a46:=Tryz.isAgg131
 z46:=Tryz.sizeOf131
 v46:=Tryz.zeroValue131
 t51:=Tryz.underlying194
 a51:=Tryz.isAgg194
 z51:=Tryz.sizeOf194
 v51:=Tryz.zeroValue194
 t70:=Tryz.underlying118
 a70:=Tryz.isAgg118
 z70:=Tryz.sizeOf118
 v70:=Tryz.zeroValue118
 t72:=Tryz.underlying121
 a72:=Tryz.isAgg121
 z72:=Tryz.sizeOf121
 v72:=Tryz.zeroValue121
 t75:=Tryz.underlying124
 a75:=Tryz.isAgg124
 z75:=Tryz.sizeOf124
 v75:=Tryz.zeroValue124
 t76:=Tryz.underlying125
 a76:=Tryz.isAgg125
 z76:=Tryz.sizeOf125
 v76:=Tryz.zeroValue125
 t105:=Tryz.underlying248
 a105:=Tryz.isAgg248
 z105:=Tryz.sizeOf248
 v105:=Tryz.zeroValue248
 t119:=Tryz.underlying265
 a119:=Tryz.isAgg265
 z119:=Tryz.sizeOf265
 t127:=Tryz.underlying193
 a127:=Tryz.isAgg193
 z127:=Tryz.sizeOf193
 v127:=Tryz.zeroValue193
 t138:=Tryz.underlying267
 a138:=Tryz.isAgg267
 z138:=Tryz.sizeOf267
 v138:=Tryz.zeroValue267
 t139:=Tryz.underlying268
 a139:=Tryz.isAgg268
 z139:=Tryz.sizeOf268
 v139:=Tryz.zeroValue268
 t146:=Tryz.underlying195
 a146:=Tryz.isAgg195
 z146:=Tryz.sizeOf195
 v146:=Tryz.zeroValue195
 t164:=Tryz.underlying237
 a164:=Tryz.isAgg237
 z164:=Tryz.sizeOf237
 v164:=Tryz.zeroValue237
 g1:=by kernel_rfl
 g3:=by kernel_rfl
 g4:=by kernel_rfl }
theorem Tryz.Builder_Extra_155:Builder.Extra Tryz.prog Tryz.lays155_ren:={
 sizeBuilder:=by kernel_rfl
 liesBuilder:=by kernel_rfl
 t5:=Tryz.underlying5
 a5:=Tryz.isAgg5
 z5:=Tryz.sizeOf5
 v5:=Tryz.zeroValue5
 infoByte:=by kernel_rfl
 cellsByte:=by kernel_rfl
 sizeByte:=by kernel_rfl
 neB5:=by decide }
open Go.RowKit Go.Lib in
theorem Tryz.strings_ReplaceAll (s old new:ByteArray) (m:Int) (w:World) (hs:s.size<4294967281) (hm:w.cell? ⟨0,0,none⟩=some (.int .i64 m)) (h1:1<=old.size) (hlen:s.size+Lib.countB s old * new.size<=140737488355328) :
  Calls Tryz.prog 200 #[.string s,.string old,.string new] w fun e w'=>
   e = .returned (.string ⟨(Lib.replaceAll s.data.toList old.data.toList new.data.toList).toArray⟩)/\Below w.heap.size w w':=Any.strings_ReplaceAll Tryz.lays155 Tryz.Builder_Extra_155 s old new m w hs hm h1 hlen
def Tryz.lays227_ren:Go.Shelf.Ren:=⟨fun | 227=>150 | n=>n,fun | 9=>9 | 116=>216 | 4=>4 | 0=>0 | 3=>3 | 5=>5 | n=>n,fun | n=>n⟩
theorem Tryz.lays227:Go.Proofs.Lays.n227 Tryz.prog Tryz.lays227_ren:={
 mixed:=by kernel_rfl
 f227:=Tryz.func150.trans (congrArg some (by kernel_rfl))
 t0:=Tryz.underlying0
 a0:=Tryz.isAgg0
 z0:=Tryz.sizeOf0
 v0:=Tryz.zeroValue0
 t3:=Tryz.underlying3
 a3:=Tryz.isAgg3
 z3:=Tryz.sizeOf3
 v3:=Tryz.zeroValue3
 t4:=Tryz.underlying4
 a4:=Tryz.isAgg4
 z4:=Tryz.sizeOf4
 v4:=Tryz.zeroValue4
 t5:=Tryz.underlying5
 a5:=Tryz.isAgg5
 z5:=Tryz.sizeOf5
 v5:=Tryz.zeroValue5
 t9:=Tryz.underlying9
 a9:=Tryz.isAgg9
 z9:=Tryz.sizeOf9
 v9:=Tryz.zeroValue9
 t116:=Tryz.underlying216
 a116:=Tryz.isAgg216
 z116:=Tryz.sizeOf216 }
open Go.RowKit Go.Lib in
theorem Tryz.strings_makeASCIISet (hv116:∀ w,(zeroValue 216).run Tryz.prog w = .ok (.agg (Array.replicate 256 (.bool false))) w) (chars:ByteArray) (w:World) (hs:chars.size<4294967281) (hascii:∀ (j:Nat) b,chars.data.toList[j]? = some b->b.toNat<128) :
  Calls Tryz.prog 150 #[.string chars] w fun e w'=>e = .returned (.tuple #[.agg (Lib.setCells chars.data.toList),.bool true])/\w'=w.alloc (.cells (Lib.setCells chars.data.toList) 216):=Any.strings_makeASCIISet Tryz.lays227 hv116 (by kernel_rfl) chars w hs hascii
def Tryz.lays105_ren:Go.Shelf.Ren:=⟨fun | 105=>29 | 212=>68 | 99=>69 | 165=>61 | 166=>62 | 170=>70 | 169=>63 | 263=>112 | 264=>113 | 206=>114 | 240=>108 | 241=>109 | 276=>174 | 277=>175 | n=>n,fun | 9=>9 | 3=>3 | 4=>4 | 20=>20 | 0=>0 | 46=>131 | 109=>132 | 5=>5 | 72=>121 | 76=>125 | 51=>194 | 146=>195 | 53=>197 | 148=>198 | 70=>118 | 37=>119 | 75=>124 | 127=>193 | 164=>237 | 80=>74 | n=>n,fun | n=>n⟩
theorem Tryz.lays105:Go.Proofs.Lays.n105 Tryz.prog Tryz.lays105_ren:={
 mixed:=by kernel_rfl
 f99:=Tryz.func69.trans (congrArg some (by kernel_rfl))
 f105:=Tryz.func29.trans (congrArg some (by kernel_rfl))
 f165:=Tryz.func61.trans (congrArg some (by kernel_rfl))
 f166:=Tryz.func62.trans (congrArg some (by kernel_rfl))
 f169:=Tryz.func63.trans (congrArg some (by kernel_rfl))
 f170:=Tryz.func70.trans (congrArg some (by kernel_rfl))
 f206:=Tryz.func114.trans (congrArg some (by kernel_rfl))
 f212:=Tryz.func68.trans (congrArg some (by kernel_rfl))
 f240:=Tryz.func108.trans (congrArg some (by kernel_rfl))
 f241:=Tryz.func109.trans (congrArg some (by kernel_rfl))
 f263:=Tryz.func112.trans (congrArg some (by kernel_rfl))
 f264:=Tryz.func113.trans (congrArg some (by kernel_rfl))
 f276:=Tryz.func174.trans (congrArg some (by kernel_rfl))
 f277:=Tryz.func175.trans (congrArg some (by kernel_rfl))
 t0:=Tryz.underlying0
 a0:=Tryz.isAgg0
 z0:=Tryz.sizeOf0
 v0:=Tryz.zeroValue0
 t3:=Tryz.underlying3
 a3:=Tryz.isAgg3
 z3:=Tryz.sizeOf3
 v3:=Tryz.zeroValue3
 t4:=Tryz.underlying4
 a4:=Tryz.isAgg4
 z4:=Tryz.sizeOf4
 v4:=Tryz.zeroValue4
 t5:=Tryz.underlying5
 a5:=Tryz.isAgg5
 z5:=Tryz.sizeOf5
 v5:=Tryz.zeroValue5
 t9:=Tryz.underlying9
 a9:=Tryz.isAgg9
 z9:=Tryz.sizeOf9
 v9:=Tryz.zeroValue9
 t20:=Tryz.underlying20
 a20:=Tryz.isAgg20
 z20:=Tryz.sizeOf20
 v20:=Tryz.zeroValue20
 t37:=Tryz.underlying119
 a37:=Tryz.isAgg119
 z37:=Tryz.sizeOf119
 v37:=Tryz.zeroValue119
 t46:=Tryz.underlying131
 a46:=Tryz.isAgg131
 z46:=Tryz.sizeOf131
 v46:=Tryz.zeroValue131
 t51:=Tryz.underlying194
 a51:=Tryz.isAgg194
 z51:=Tryz.sizeOf194
 v51:=Tryz.zeroValue194
 t53:=Tryz.underlying197
 a53:=Tryz.isAgg197
 z53:=Tryz.sizeOf197
 v53:=Tryz.zeroValue197
 t70:=Tryz.underlying118
 a70:=Tryz.isAgg118
 z70:=Tryz.sizeOf118
 v70:=Tryz.zeroValue118
 t72:=Tryz.underlying121
 a72:=Tryz.isAgg121
 z72:=Tryz.sizeOf121
 v72:=Tryz.zeroValue121
 t75:=Tryz.underlying124
 a75:=Tryz.isAgg124
 z75:=Tryz.sizeOf124
 v75:=Tryz.zeroValue124
 t76:=Tryz.underlying125
 a76:=Tryz.isAgg125
 z76:=Tryz.sizeOf125
 v76:=Tryz.zeroValue125
 t109:=Tryz.underlying132
 a109:=Tryz.isAgg132
 z109:=Tryz.sizeOf132
 v109:=Tryz.zeroValue132
 t127:=Tryz.underlying193
 a127:=Tryz.isAgg193
 z127:=Tryz.sizeOf193
 v127:=Tryz.zeroValue193
 t146:=Tryz.underlying195
 a146:=Tryz.isAgg195
 z146:=Tryz.sizeOf195
 v146:=Tryz.zeroValue195
 t148:=Tryz.underlying198
 a148:=Tryz.isAgg198
 z148:=Tryz.sizeOf198
 v148:=Tryz.zeroValue198
 t164:=Tryz.underlying237
 a164:=Tryz.isAgg237
 z164:=Tryz.sizeOf237
 v164:=Tryz.zeroValue237 }
theorem Tryz.Builder_Extra_105:Builder.Extra Tryz.prog Tryz.lays105_ren:={
 sizeBuilder:=by kernel_rfl
 liesBuilder:=by kernel_rfl
 t5:=Tryz.underlying5
 a5:=Tryz.isAgg5
 z5:=Tryz.sizeOf5
 v5:=Tryz.zeroValue5
 infoByte:=by kernel_rfl
 cellsByte:=by kernel_rfl
 sizeByte:=by kernel_rfl
 neB5:=by decide }
open Go.RowKit Go.Lib in
theorem Tryz.strings_Repeat (s:ByteArray) (c:Nat) (w:World) (hc:c<=9223372036854775807) (hlen:s.size * c<=140737488355328) :
  Calls Tryz.prog 29 #[.string s,.int .i64 c] w fun e w'=>e = .returned (.string ⟨(Lib.repeatL s.data.toList c).toArray⟩)/\Below w.heap.size w w':=Any.strings_Repeat Tryz.lays105 Tryz.Builder_Extra_105 s c w hc hlen
end Go.Proofs
namespace Go.Proofs.YtpffimahajgiaaaGreatDoor
open VL Go.RowKit
def Zws (l:List UInt8):List Bool:=(List.range 256).map fun j=>l.contains (UInt8.ofNat j)
def Zgb (l:List UInt8):List PV:=(Zws l).map PV.bool
theorem Zi2 (l:List UInt8):(Zgb l).length=256:=by simp [Zgb,Zws]
theorem Zvh (l:List UInt8) (x:UInt8):(Zgb l)[x.toNat]? = some (.bool (l.contains x)):=by{
have hx:x.toNat<256:=x.toNat_lt
unfold Zgb Zws
rw [List.getElem?_map,List.getElem?_map,List.getElem?_range hx]
simp}
theorem ZrB (l:List UInt8) (x:UInt8):Zne false 1 ((Zgb l).drop (x.toNat * 1))=some (.bool (l.contains x)):=by
 show ((Zgb l).drop (x.toNat * 1))[0]? = _
 rw [List.getElem?_drop,Nat.mul_one,Nat.add_zero]
 exact Zvh l x
theorem ZrC {f:Nat->Option (Gen×VObj)} {t:Nat} {g:Gen} {l:List UInt8} (h:ZX f t g=some (.box (Zgb l))) (s:ByteArray):Zgx (frz f) [.str s,.ptr t g 0]=some [.str s,.cel (Zgb l)]:=by{
have e:Zno f (.ptr t g 0)=some (.cel (Zgb l)):=by
 simp only [Zno,h,List.drop_zero]
 unfold Zgb
 rw [Zmk]
 rfl
simp only [Zgx,frz,Zn6,e]}
instance:Ar Tryz.prog 216 256 1:=⟨by kernel_rfl⟩
instance:Ze Tryz.prog 216 (List.replicate 256 (.bool false)):=⟨by kernel_rfl⟩
instance:Ld Tryz.prog 216 true 256:=⟨by kernel_rfl⟩
set_option maxRecDepth 100000 in
theorem Zhy (l:List UInt8) (x:UInt8):Zg Tryz.prog 196 [.cel (Zgb l),.int .u8 (x.toNat:Int)] (.bool (l.contains x)):=by
 refine ZbM mix Tryz.func196 (by kernel_rfl) rfl (by kernel_rfl) ?_
 repeat (first | (refine ZtO rfl rfl ?_) | (refine Zns rfl rfl rfl x.toNat_lt ?_) | (refine ZH rfl rfl (ZrB l x) ?_) | refine ZhZ ?_)
 exact Zes rfl rfl rfl
def Zb3 (l:List UInt8) (s:ByteArray):ByteArray:=⟨(s.data.toList.dropWhile l.contains).toArray⟩
def Zc3 (l:List UInt8) (s:ByteArray):ByteArray:=⟨(s.data.toList.reverse.dropWhile l.contains).reverse.toArray⟩
theorem ZrD {l:List UInt8} {s:ByteArray} (h:¬ 0<s.size):Zb3 l s=s:=by{
obtain ⟨⟨d⟩⟩:=s
cases d with
| nil=>rfl
| cons a r=>exact absurd (Nat.succ_pos _) h}
theorem ZpB {l:List UInt8} {s:ByteArray} (h:0<s.size) (h1:l.contains (s[0]'h)=false):Zb3 l s=s:=by{
obtain ⟨⟨d⟩⟩:=s
cases d with
| nil=>exact absurd h (Nat.lt_irrefl 0)
| cons a r=>
  have h2:l.contains a=false:=h1
  show (⟨(List.dropWhile l.contains (a::r)).toArray⟩:ByteArray)=⟨(a::r).toArray⟩
  rw [List.dropWhile_cons,if_neg (by rw [h2];simp)]}
theorem ZpC {l:List UInt8} {s:ByteArray} (h:0<s.size) (h1:l.contains (s[0]'h)=true):Zb3 l (s.extract 1 s.size)=Zb3 l s:=by{
obtain ⟨⟨d⟩⟩:=s
cases d with
| nil=>exact absurd h (Nat.lt_irrefl 0)
| cons a r=>
  have h2:l.contains a=true:=h1
  have e:(⟨(a::r).toArray⟩:ByteArray).extract 1 (a::r).length=⟨(((a::r).drop 1).take ((a::r).length-1)).toArray⟩:=ByteArray.extract_mk (a::r) 1 (a::r).length
  show Zb3 l ((⟨(a::r).toArray⟩:ByteArray).extract 1 (a::r).length)=_
  rw [e]
  show (⟨(List.dropWhile l.contains (((a::r).drop 1).take ((a::r).length-1))).toArray⟩:ByteArray)=⟨(List.dropWhile l.contains (a::r)).toArray⟩
  rw [List.dropWhile_cons,if_pos h2]
  simp}
theorem ZrE {l:List UInt8} {s:ByteArray} (h:¬ 0<s.size):Zc3 l s=s:=by{
obtain ⟨⟨d⟩⟩:=s
cases d with
| nil=>rfl
| cons a r=>exact absurd (Nat.succ_pos _) h}
theorem Zla (s:ByteArray) (n:Nat) (hn:s.size=n+1):∃ r:List UInt8,s.data.toList=r ++ [s[n]'(by omega)]/\r.length=n/\s.extract 0 n=⟨r.toArray⟩:=by{
obtain ⟨⟨d⟩⟩:=s
have hd:d.length=n+1:=hn
refine ⟨d.take n,?_,by simp;omega,?_⟩
show d=d.take n ++ [d[n]]
rw [List.take_append_getElem]
rw [List.take_of_length_le (by omega)]
have e:(⟨d.toArray⟩:ByteArray).extract 0 n=⟨((d.drop 0).take (n-0)).toArray⟩:=ByteArray.extract_mk d 0 n
show (⟨d.toArray⟩:ByteArray).extract 0 n=_
rw [e]
simp}
theorem ZpD {l:List UInt8} {s:ByteArray} {n:Nat} (hn:s.size=n+1) (h1:l.contains (s[n]'(by omega))=false):Zc3 l s=s:=by{
obtain ⟨r,e1,_,_⟩:=Zla s n hn
unfold Zc3
rw [e1,List.reverse_append]
simp only [List.reverse_cons,List.reverse_nil,List.nil_append,List.cons_append,List.dropWhile,h1]
rw [List.reverse_reverse,<- e1]}
theorem ZpE {l:List UInt8} {s:ByteArray} {n:Nat} (hn:s.size=n+1) (h1:l.contains (s[n]'(by omega))=true):Zc3 l (s.extract 0 n)=Zc3 l s:=by{
obtain ⟨r,e1,_,e3⟩:=Zla s n hn
unfold Zc3
rw [e1,e3,List.reverse_append]
simp only [List.reverse_cons,List.reverse_nil,List.nil_append,List.cons_append,List.dropWhile,h1]}
set_option maxRecDepth 100000 in
theorem Zg6 (l:List UInt8) (s:ByteArray):Zg Tryz.prog 151 [.str s,.cel (Zgb l)] (.str (Zb3 l s)):=by{
refine ZbM mix Tryz.func151 (by kernel_rfl) rfl (by kernel_rfl) ?_
repeat refine ZhZ ?_
refine Zv (α:=ByteArray) (fun c _=>mkS [(0,.str c),(1,.cel (Zgb l))] [] 2) (fun c=>Zb3 l c=Zb3 l s) (fun c=>c.size) s 2 rfl (ZeY [] ⟨rfl,rfl,trivial⟩ trivial rfl) (fun c _ (hno:Zb3 l c=Zb3 l s)=>?_)
repeat (first | refine ZhZ ?_ | refine Zf3 Tryz.underlying9 rfl rfl ?_)
by_cases hz:(0:Int)<(c.size:Int)
·refine Zs (by (conv=>lhs;whnf);try rfl) (decide_eq_true hz) ?_
 have hz':0<c.size:=by omega
 have h0:c[0]? = some (c[0]'hz'):=getElem?_pos c 0 hz'
 repeat (first | (refine ZlD Tryz.underlying9 rfl rfl rfl h0 ?_) | (refine ZhG (Zhy l _) rfl rfl rfl ?_) | refine ZhZ ?_)
 rcases Bool.eq_false_or_eq_true (l.contains (c[0]'hz')) with hb | hb
 ·refine Zj (by (conv=>lhs;whnf);try rfl) (by rw [hb];rfl) ?_
  repeat (first | (refine ZlE Tryz.underlying9 rfl rfl rfl rfl (by omega) (by omega) rfl ?_) | refine ZhZ ?_)
  refine Zak (c.extract 1 c.size) 2 ((ZpC hz' hb).trans hno) ?_ (ZeY [] ⟨rfl,rfl,trivial⟩ trivial rfl)
  show (c.extract 1 c.size).size<c.size
  rw [ByteArray.size_extract]
  omega
 ·refine Zs (by (conv=>lhs;whnf);try rfl) (by rw [hb];rfl) ?_
  repeat refine ZhZ ?_
  exact Zes rfl rfl (by rw [<- hno,ZpB hz' hb];rfl)
·refine Zj (by (conv=>lhs;whnf);try rfl) (decide_eq_false hz) ?_
 repeat refine ZhZ ?_
 exact Zes rfl rfl (by rw [<- hno,ZrD (by omega)];rfl)}
set_option maxRecDepth 100000 in
theorem Zm7 (l:List UInt8) (s:ByteArray) (hs:s.size<=9223372036854775807):Zg Tryz.prog 181 [.str s,.cel (Zgb l)] (.str (Zc3 l s)):=by{
refine ZbM mix Tryz.func181 (by kernel_rfl) rfl (by kernel_rfl) ?_
repeat refine ZhZ ?_
refine Zv (α:=ByteArray) (fun c _=>mkS [(0,.str c),(1,.cel (Zgb l))] [] 2) (fun c=>Zc3 l c=Zc3 l s/\c.size<=9223372036854775807) (fun c=>c.size) s 2 ⟨rfl,hs⟩ (ZeY [] ⟨rfl,rfl,trivial⟩ trivial rfl) (fun c _ hJ=>?_)
obtain ⟨(hno:Zc3 l c=Zc3 l s),(hcs:c.size<=9223372036854775807)⟩:=hJ
repeat (first | refine ZhZ ?_ | refine Zf3 Tryz.underlying9 rfl rfl ?_)
by_cases hz:(0:Int)<(c.size:Int)
·refine Zs (by (conv=>lhs;whnf);try rfl) (decide_eq_true hz) ?_
 obtain ⟨n,hn⟩:∃ n,c.size=n+1:=⟨c.size-1,by omega⟩
 have e1:(c.size:Int)-1=(n:Int):=by omega
 have h0:c[n]? = some (c[n]'(by omega)):=getElem?_pos c n (by omega)
 have h2:toNat? (PV.int .i64 ((c.size:Int)-1))=some n:=by rw [e1];exact Zcn
 repeat (first | (refine ZlD Tryz.underlying9 rfl rfl (congrArg (PV.int .i64) e1) h0 ?_) | (refine ZhG (Zhy l _) rfl rfl rfl ?_) | refine ZlC rfl rfl rfl (by omega) (by omega) ?_ | refine ZhZ ?_ | refine Zf3 Tryz.underlying9 rfl rfl ?_)
 rcases Bool.eq_false_or_eq_true (l.contains (c[n]'(by omega))) with hb | hb
 ·refine Zj (by (conv=>lhs;whnf);try rfl) (by rw [hb];rfl) ?_
  repeat (first | (refine ZlE Tryz.underlying9 rfl rfl rfl h2 (by omega) (by omega) rfl ?_) | refine ZlC rfl rfl rfl (by omega) (by omega) ?_ | refine ZhZ ?_ | refine Zf3 Tryz.underlying9 rfl rfl ?_)
  refine Zak (c.extract 0 n) 2 ⟨(ZpE hn hb).trans hno,?_⟩ ?_ (ZeY [] ⟨rfl,rfl,trivial⟩ trivial rfl)
  show (c.extract 0 n).size<=_
  rw [ByteArray.size_extract]
  omega
  show (c.extract 0 n).size<c.size
  rw [ByteArray.size_extract]
  omega
 ·refine Zs (by (conv=>lhs;whnf);try rfl) (by rw [hb];rfl) ?_
  repeat refine ZhZ ?_
  exact Zes rfl rfl (by rw [<- hno,ZpD hn hb];rfl)
·refine Zj (by (conv=>lhs;whnf);try rfl) (decide_eq_false hz) ?_
 repeat refine ZhZ ?_
 exact Zes rfl rfl (by rw [<- hno,ZrE (by omega)];rfl)}
theorem ZlR (l:List UInt8):(Lib.setCells l).toList=(Zws l).map Value.bool:=by
 rw [Lib.setCells_eq]
 simp [Zws]
set_option maxRecDepth 1000000 in
theorem Zj5 (l:List UInt8) (hs:l.length<4294967281) (hl:∀ (j:Nat) b,l[j]? = some b->b.toNat<128):Zg Tryz.prog 150 [.str ⟨l.toArray⟩] (.tup [.agg (Zgb l),.bool true]):=
 Zav (vals:=[.string ⟨l.toArray⟩]) (v:=.tuple #[.agg (Lib.setCells l),.bool true]) (by kernel_rfl) rfl (by
   show (PV.dry2 (.agg (Zgb l))&&(PV.dry2 (.bool true)&&true))=true
   have:(Zgb l).all PV.dry1=true:=by
    rw [List.all_eq_true]
    intro p hp
    obtain ⟨b,_,rfl⟩:=List.mem_map.1 hp
    rfl
   show ((Zgb l).all PV.dry1&&_)=true
   rw [this]
   rfl)
  (fun x=>.tup _ _ rfl fun i p v hp hv=>by
   match i,hp,hv with
   | 0,hp,hv=>
     injection hp with hp
     injection hv with hv
     subst hp hv
     refine .agg _ _ (by rw [Zi2,Lib.setCells_size]) fun j q w hq hw=>?_
     rw [<- Array.getElem?_toList,ZlR,List.getElem?_map,Option.map_eq_some_iff] at hw
     obtain ⟨b,hb,rfl⟩:=hw
     unfold Zgb at hq
     rw [List.getElem?_map,hb] at hq
     injection hq with hq
     subst hq
     exact .bool b
   | 1,hp,hv=>injection hp with hp;injection hv with hv;subst hp hv;exact .bool _
   | i+2,hp,_=>simp at hp)
  fun w _=>(Tryz.strings_makeASCIISet (fun w=>Tryz.zeroValue216 w) ⟨l.toArray⟩ w hs (fun j b h=>hl j b (by simpa using h))).mono fun e w' ⟨e1,e2⟩=>by
   have e3:(⟨l.toArray⟩:ByteArray).data.toList=l:=by simp
   rw [e3] at e1 e2
   exact ⟨e1,by rw [e2];exact Below.al (Below.refl _ _) _⟩
end Go.Proofs.YtpffimahajgiaaaGreatDoor
namespace Go.Proofs.YtpffimahajgiaaaGreatDoor
open Go.RowKit
theorem Zhi (a b:Title) (W:World):(binOp .eql 34 (.agg #[.int .i64 a.space,.string a.name]) (.agg #[.int .i64 b.space,.string b.name])).run Tryz.prog W = .ok (.bool (decide (a=b))) W:=by{
have e:(if a.space=b.space then if a.name.toList=b.name.toList then true else false else false)=(decide (a=b)):=by
 obtain ⟨a1,a2⟩:=a
 obtain ⟨b1,b2⟩:=b
 simp only [Title.mk.injEq,Zcm]
 (repeat' split)<;>simp_all
rw [<- e]
go_simp
(repeat' split)<;>simp_all}
theorem ZsD (a b:Title) (W:World):(binOp .neq 34 (.agg #[.int .i64 a.space,.string a.name]) (.agg #[.int .i64 b.space,.string b.name])).run Tryz.prog W = .ok (.bool (!decide (a=b))) W:=by{
have e:(if a.space=b.space then if a.name.toList=b.name.toList then false else true else true)=(!decide (a=b)):=by
 obtain ⟨a1,a2⟩:=a
 obtain ⟨b1,b2⟩:=b
 simp only [Title.mk.injEq,Zcm]
 (repeat' split)<;>simp_all
rw [<- e]
go_simp
(repeat' split)<;>simp_all}
theorem ZtR (a b:Key) (W:World):(binOp .eql 36 (.agg #[.int .i64 a.kind,.int .i64 a.title.space,.string a.title.name,.int .i64 a.n]) (.agg #[.int .i64 b.kind,.int .i64 b.title.space,.string b.title.name,.int .i64 b.n])).run Tryz.prog W = .ok (.bool (decide (a=b))) W:=by{
have e:(if a.kind=b.kind then if a.title.space=b.title.space then if a.title.name.toList=b.title.name.toList then if a.n=b.n then true else false else false else false else false)=(decide (a=b)):=by
 obtain ⟨a1,⟨a2,a3⟩,a4⟩:=a
 obtain ⟨b1,⟨b2,b3⟩,b4⟩:=b
 simp only [Key.mk.injEq,Title.mk.injEq,Zcm]
 (repeat' split)<;>simp_all
rw [<- e]
go_simp
(repeat' split)<;>simp_all}
theorem Zmt (a b:Answer) (W:World):(binOp .eql 59 (.agg #[.bool a.ok,.string a.text,.int .i64 a.n]) (.agg #[.bool b.ok,.string b.text,.int .i64 b.n])).run Tryz.prog W = .ok (.bool (decide (a=b))) W:=by{
have e:(if a.ok=b.ok then if a.text.toList=b.text.toList then if a.n=b.n then true else false else false else false)=(decide (a=b)):=by
 obtain ⟨a1,a2,a3⟩:=a
 obtain ⟨b1,b2,b3⟩:=b
 simp only [Answer.mk.injEq,Zcm]
 (repeat' split)<;>simp_all
rw [<- e]
go_simp
(repeat' split)<;>simp_all}
end Go.Proofs.YtpffimahajgiaaaGreatDoor
namespace Go.Proofs.YtpffimahajgiaaaGreatDoor
namespace VL
open Go.RowKit
theorem ZjH {h:PV->Option PV}:∀ {a b a' b':List PV},Zgx h a=some a'->Zgx h b=some b'->Zgx h (a++b)=some (a'++b')
 | [],b,a',b',h1,h2=>by
   injection h1 with h1
   subst h1
   exact h2
 | p::ps,b,a',b',h1,h2=>by
   simp only [Zgx] at h1
   split at h1
   rename_i q qs e1 e2
   injection h1 with h1
   subst h1
   show (match h p,Zgx h (ps++b) with
    | some q,some qs=>some (q::qs)
    | _,_=>none)=_
   rw [e1,ZjH e2 h2]
   rfl
   cases h1
theorem ZjI {f:Nat->Option (Gen×VObj)}:∀ (L:List (List PV)),Zgx (Zno f) (L.map PV.cel)=some (L.map PV.cel)
 | []=>rfl
 | cs::L=>by
   show (match Zno f (.cel cs),Zgx (Zno f) (L.map PV.cel) with
    | some q,some qs=>some (q::qs)
    | _,_=>none)=_
   rw [ZjI L]
   rfl
section
variable {P:Program} [WInv P] {ops:Array Oper} {draw:Bool} {i:Nat} {L:List Oper} {acc:List (List Nat×List Nat)} {K:FS->Prop} {tm:List (Nat×PV)} {ob:List (Nat×Option (Gen×VObj))} {ng:Nat}
 {d:Option Tmp} {ty:TypeId} {pos:String} {after:Array Edge} {gd:Option (Nat×Bool)}
theorem Zfs {e:Operand} {f:FuncId} {Lc:List (List PV)} {es:Array Operand} {ts:Array TypeId} {args1:List PV} {res:PV} (hc:Contract P f (args1++Lc.map .cel) none res []) (hw:Zf ops (mkS tm ob ng) ⟨d,.call ⟨.value e,es,ts⟩,ty,pos,after,gd⟩=some true)
  (hf:evL tm e = .fn f (Lc.map .cel)) (ha:Zgx (frz (Zm ob)) (es.toList.map (evL tm))=some args1) (hp:res.dry=true)
  (k:GoL P ops draw (i+1) L (acc ++ [(ZA (mkS tm ob ng) ⟨d,.call ⟨.value e,es,ts⟩,ty,pos,after,gd⟩,[])]) (mkS (ZaW d res tm) ob ng) K):GoL P ops draw i (⟨d,.call ⟨.value e,es,ts⟩,ty,pos,after,gd⟩::L) acc (mkS tm ob ng) K:=
 Zr4 hc hw hf ha (ZjI Lc) hp k
theorem Zu3 {f g:FuncId} {Lc:List (List PV)} {es:Array Operand} {ts:Array TypeId} {pre pre':List PV} {res:PV} (hc:Contract P f (pre' ++ [.fn g (Lc.map .cel)]) none res []) (hw:Zf ops (mkS tm ob ng) ⟨d,.call ⟨.value (.func f),es,ts⟩,ty,pos,after,gd⟩=some true)
  (he:es.toList.map (evL tm)=pre ++ [.fn g (Lc.map .cel)]) (ha:Zgx (frz (Zm ob)) pre=some pre') (hp:res.dry=true)
  (k:GoL P ops draw (i+1) L (acc ++ [(ZA (mkS tm ob ng) ⟨d,.call ⟨.value (.func f),es,ts⟩,ty,pos,after,gd⟩,[])]) (mkS (ZaW d res tm) ob ng) K):GoL P ops draw i (⟨d,.call ⟨.value (.func f),es,ts⟩,ty,pos,after,gd⟩::L) acc (mkS tm ob ng) K:=by{
refine ZhG hc hw ?_ hp k
rw [he]
refine ZjH ha ?_
show (match (Zgx (Zno (Zm ob)) (Lc.map .cel)).map (PV.fn g),(some []:Option (List PV)) with
 | some q,some qs=>some (q::qs)
 | _,_=>none)=_
rw [ZjI]
rfl}
end
theorem ZnK {P:Program} [WInv P] {β:Type} {F:Option β} {O:β->VObj} {f:FuncId} {fn:Func} {c:Code} {args:List PV} {r:β} (hF:F=some r) (hmix:P.follows .mixedOrders=true) (hf:P.funcs[f]? = some fn) (hg:isGo P f=true) (hb:fn.body=some c) (hok:(decide (args.length<=fn.ntmps)&&ZaU fn.ntmps c)=true)
  (h:∀ r,F=some r->PWs P [c] (ZwC P fn.results.toList (O r)) (mkS (Zdg 0 args) [] 1)):ContractN P f args (O r):=Zlg hmix hf hg hb hok (h r hF)
theorem ZgW {P:Program} [WInv P] {β:Type} {F:Option β} {R:β->PV} {O:β->List OC} {f:FuncId} {fn:Func} {c:Code} {args:List PV} {oc:List OC} {r:β} (hF:F=some r) (hmix:P.follows .mixedOrders=true) (hf:P.funcs[f]? = some fn) (hg:isGo P f=true) (hb:fn.body=some c) (hok:(decide (args.length<=fn.ntmps)&&ZaU fn.ntmps c&&decide (0<1000))=true) (hd:(R r).dry=true)
  (h:∀ r,F=some r->PWs P [c] (Zwu P fn.results.toList (R r) 0 (O r)) (mkS (Zdg 0 args) ((0,some ((0,0),.box (Zbh κ0 ν0 0 oc)))::Zen κ0 ν0 0 oc) 1)):ContractP P f args 0 oc (R r) (O r):=ZlS hmix hf hg hb hok hd (h r hF)
theorem ZmP {P:Program} {s:FS} {rs:List ResultVar} {res:PV} {j:Nat} {oc':List OC} {ps cs:List PV} {oq:List (Nat×Gen×OC)} (h1:Zcr P s rs=some ps) (h2:Zcs ps=res) (h3:s.ob j=some ((0,j),.box cs)) (h4:Zsb s.ob cs=some oq) (h5:okK j oq=true) (h6:oq.map (·.2.2)=oc'):Zwu P rs res j oc' .normal s:=⟨ps,cs,oq,h1,h2,h3,h4,h5,h6⟩
end VL
end Go.Proofs.YtpffimahajgiaaaGreatDoor
namespace Go.Proofs.YtpffimahajgiaaaGreatDoor
namespace VL
open Go.RowKit
theorem Zgi {x:Ctx} {B:Nat} {D:Nat->Prop} {g:Gen} {E k:Nat} {els:List (List PV)} (h:ObRep x B D g (.prow E k els)) {i:Nat} {e:List PV} (hi:els[i]? = some e) :
  ∃ b n c,x.ρ g = .slice (some ⟨b,0,none⟩) n c/\n=els.length/\n<=c/\c<=maxLen/\(B<=b\/D b)/\∀ j p,e[j]? = some p->∃ v,x.W.cell? ⟨b,i * k+j,none⟩=some v/\Rep x p v:=by{
obtain ⟨h1,h2,vs,⟨hl,h3⟩,h4,h5⟩:=h
have hlt:i<els.length:=(List.getElem?_eq_some_iff.1 hi).1
rcases h3 with ⟨_,hn⟩ | ⟨b,cap,cur,hv,hB,hh,hc,hm,hs,ht⟩
omega
refine ⟨b,_,cap,hv,rfl,hc,hm,(h5 b (by rw [hv];rfl)).1,fun j p hp=>?_⟩
have hf:=Zev els h1 i e j p hi hp
have hlen:(els.flatten).length=els.length * k:=Zan els h1
have hlt2:i * k+j<vs.length:=by rw [hl,<- hlen];exact (List.getElem?_eq_some_iff.1 hf).1
obtain ⟨v,hvv⟩:∃ v,vs[i * k+j]? = some v:=⟨_,List.getElem?_eq_getElem hlt2⟩
refine ⟨v,?_,h4 _ p v hf hvv⟩
have hvv':=hvv
rw [<- ht,List.getElem?_take] at hvv'
split at hvv'
rw [cell_of_row x.W b _ cur E (0,0) hh]
simpa using hvv'
cases hvv'}
def Zoe (f:Nat->Option (Gen×VObj)):PV->Option (List (List PV))
 | .sl els=>some els
 | .nil=>some []
 | .row t g=>match ZX f t g with
   | some (.row _ _ _ els)=>some els
   | some (.prow _ _ els)=>some els
   | _=>none
 | _=>none
section
variable {P:Program} {r:Run} {o:Oper} {i:Nat} {s:FS}
theorem Zjh {S:Nat->Prop} {a:Act} {x:Ctx} (hX:RstX r S s a x) {p:PV} {v:Value} {els:List (List PV)} (h:Zoe s.ob p=some els) (hr:Rep x p v) :
  ∃ A c k,v = .slice A els.length c/\els.length<=c/\c<=9223372036854775807/\(∀ e ∈ els,e.length=k)/\(∀ e ∈ els,∀ q ∈ e,q.cell=true)/\
   ∃ b off,(0<els.length->A=some ⟨b,off,none⟩/\∀ (i j:Nat) (e:List PV) (q:PV),els[i]? = some e->e[j]? = some q->∃ w,x.W.cell? ⟨b,off+i * k+j,none⟩=some w/\Rep x q w):=by{
have old:ZhI s.ob p=some els->∃ A c k,v = .slice A els.length c/\els.length<=c/\c<=9223372036854775807/\(∀ e ∈ els,e.length=k)/\(∀ e ∈ els,∀ q ∈ e,q.cell=true)/\
  ∃ b off,(0<els.length->A=some ⟨b,off,none⟩/\∀ (i j:Nat) (e:List PV) (q:PV),els[i]? = some e->e[j]? = some q->∃ w,x.W.cell? ⟨b,off+i * k+j,none⟩=some w/\Rep x q w):=fun h=>by
 obtain ⟨A,c,k,h1,h2,h3,h4,h5,h6⟩:=ZhD hX h hr
 exact ⟨A,c,k,h1,h2,h3,h4,fun e he q hq=>PV.cell_of_pure (h5 e he q hq),h6⟩
cases p with
| sl els'=>exact old h
| nil=>exact old h
| row t g=>
  unfold Zoe at h
  simp only at h
  split at h
  rename_i E k sh els' hob
  exact old (by unfold ZhI;simp only [hob];exact h)
  rename_i E k els' hob
  injection h with h
  subst h
  obtain ⟨hg,hO⟩:=hX.ob t g _ (ZT hob)
  have hO':=hO
  obtain ⟨h1,h2,vs,h3,h4,h5⟩:=hO
  cases hr with
  | row _ _ A n c hG hv=>
    rcases h3.2 with ⟨hn,hl⟩ | ⟨b,cap,cur,hv2,hB,hh,hc,hm,hs,ht⟩
    rw [hv] at hn
    injection hn with q1 q2 q3
    subst q1 q2 q3
    refine ⟨none,0,k,by rw [hl],by omega,by omega,h1,h2,0,0,fun h0=>absurd h0 (by omega)⟩
    rw [hv] at hv2
    injection hv2 with q1 q2 q3
    subst q1 q2 q3
    refine ⟨_,c,k,rfl,hc,by unfold maxLen at hm;omega,h1,h2,b,0,fun h0=>⟨rfl,fun i j e q he hq=>?_⟩⟩
    obtain ⟨b',n',c',h6,_,_,_,_,h7⟩:=Zgi hO' he
    rw [hv] at h6
    injection h6 with h6
    injection h6 with h6
    injection h6 with h6
    subst h6
    rw [Nat.zero_add]
    exact h7 j q hq
  cases h
| _=>simp [Zoe] at h}
theorem Zuo {T:TypeId} {e:Operand} {E a1 a2:Nat} {a3:List PV} {els:List (List PV)} (ho:o.op = .call { callee:=.builtin .len,args:=#[e],argTypes:=#[T] }) (ht:tyI P T=some ⟨.slice E,a1,a2,a3⟩) (hels:Zoe s.ob (ev s e)=some els):OpOK P r o i s ⟨.int .i64 els.length,[]⟩:=by{
intro S a x Q hX hi hd
obtain ⟨inf,z,h1,_⟩:=ZO ht
obtain ⟨A,c,k,hv,_⟩:=Zjh hX hels (ZV hX e)
refine ZQ (v:=.int .i64 els.length) (W':=x.W) ?_ (hX.val hd (.int _ _))
unfold execOp
rw [ho]
simp [resolve,invoke,builtin,Builtin.len_,hv,run_underlying h1,goInt]}
theorem Zp4 {T:TypeId} {e e':Operand} {E E' a1 a2 t k n:Nat} {a3:List PV} {te:TI} {g:Gen} {els:List (List PV)} (ho:o.op = .indexAddr T e e') (ht:tyI P T=some ⟨.slice E,a1,a2,a3⟩) (hte:tyI P E=some te) (he:ev s e = .row t g)
  (hn:toNat? (ev s e')=some n) (hob:ZX s.ob t g=some (.prow E' k els)) (hnl:n<els.length) (hk:k=te.size):OpOK P r o i s ⟨.elp t g n k 0,[]⟩:=by{
intro S a x Q hX hi hd
subst hk
obtain ⟨inf,z,h1,_⟩:=ZO ht
obtain ⟨inf',z',h1',h2',_,h4',_,_⟩:=ZO hte
have hr:=ZV hX e
obtain ⟨kd,hidx⟩:=ZbK hn (ZV hX e')
have key:∀ (ad:Addr) (len cap:Nat),a.eval e = .slice (some ad) len cap->n<len->(execOp a.eval o).run P x.W = .ok (.value (.pointer (some (ad.add (n * te.size))))) x.W:=fun ad len cap hv hlt=>by
 unfold execOp
 rw [ho]
 have:(0:Int)<=n/\(n:Int)<len:=by omega
 simp [hv,hidx,Instr.indexAt,asIntOf,run_underlying h1,sizeOf,typeInfo,h2',h4',hlt]
rw [he] at hr
obtain ⟨hg,hO⟩:=hX.ob t g _ (ZT hob)
obtain ⟨b,m,c,h5,h6,_⟩:=Zgi hO (List.getElem?_eq_getElem hnl)
generalize hv:a.eval e=v at hr key
cases hr with
| row _ _ A m' c' hG hvv=>
  rw [h5] at hvv
  injection hvv with q1 q2 q3
  subst q1 q2 q3
  refine ZQ (key _ m c rfl (by omega)) (hX.val hd ?_)
  rw [ZbB,Nat.zero_add]
  have:=Rep.elp (x:=x) t g n te.size 0 b hG (by rw [h5];rfl)
  rw [Nat.add_zero] at this
  exact this}
theorem Zso {T:TypeId} {e:Operand} {ti:TI} {t n k off E:Nat} {g:Gen} {els:List (List PV)} {el:List PV} {p:PV} (ho:o.op = .load T e) (ht:tyI P T=some ti) (he:ev s e = .elp t g n k off) (hob:ZX s.ob t g=some (.prow E k els))
  (hel:els[n]? = some el) (hp:ZiH ti (el.drop off)=some p):OpOK P r o i s ⟨p,[]⟩:=by{
intro S a x Q hX hi hd
have hr:=ZV hX e
rw [he] at hr
obtain ⟨hg,hO⟩:=hX.ob t g _ (ZT hob)
obtain ⟨b,m,c,h1,_,_,_,_,hc⟩:=Zgi hO hel
generalize hv:a.eval e=v at hr
cases hr with
| elp _ _ _ _ _ b' hG hb=>
  rw [h1] at hb
  obtain rfl:b=b':=by simpa [blk] using hb
  obtain ⟨v,h2,h3⟩:=ZdK (x:=x) (b:=b) (off:=n * k+off) ht (fun j q hq=>by
   rw [List.getElem?_drop] at hq
   rw [Nat.add_assoc]
   exact hc (off+j) q hq) hp
  refine ZQ (v:=v) (W':=x.W) ?_ (hX.val hd h3)
  unfold execOp
  rw [ho]
  simp [hv,h2]}
end
end VL
end Go.Proofs.YtpffimahajgiaaaGreatDoor
namespace Go.Proofs.YtpffimahajgiaaaGreatDoor
namespace VL
open Go.RowKit
section
variable {P:Program} {r:Run} {o:Oper} {i:Nat} {s:FS}
theorem Zqv {T:TypeId} {e e':Operand} {t:Nat} {g:Gen} {n k off E:Nat} {els:List (List PV)} {el:List PV} {ti:TI} (ho:o.op = .store T e e') (ht:tyI P T=some ti) (hl:(ev s e').cells.length=ti.size) (hp:ev s e = .elp t g n k off)
  (hcell:(ev s e').cells.all PV.cell=true) (hob:ZX s.ob t g=some (.prow E k els)) (hel:els[n]? = some el) (hfit:off+ti.size<=k):OpOK P r o i s ⟨.un,[(t,some (g,.prow E k (els.set n (Zas el off (ev s e').cells))))]⟩:=by{
intro S a x Q hX hi hd
have hr:=ZV hX e
have hr':=ZV hX e'
obtain ⟨h8,h9⟩:=Zem hr' hcell
have hob2:=ZT hob
obtain ⟨hg,hO⟩:=hX.ob t g _ hob2
have hO':=hO
obtain ⟨h1,h2,vs,h3,h4,h5⟩:=hO
obtain ⟨b,m,c,hρ,hm,hmc,hcm,hB,_⟩:=Zgi hO' hel
rw [hp] at hr
generalize hv:a.eval e=v at hr
cases hr with
| elp _ _ _ _ _ b' hG hb=>
  rw [hρ] at hb
  obtain rfl:b=b':=by simpa [blk] using hb
  have hnl:n<els.length:=(List.getElem?_eq_some_iff.1 hel).1
  have hk1:=h1 el (List.mem_of_getElem? hel)
  rcases h3.2 with ⟨_,hl0⟩ | ⟨b2,cap,cur,hv2,hB2,hh,hnc,hcm2,hcs,htake⟩
  omega
  rw [hρ] at hv2
  injection hv2 with q1 q2 q3
  injection q1 with q1
  injection q1 with q1
  subst q1 q2 q3
  have hvl:vs.length=els.length * k:=h3.1
  have hroom:n * k+off+ti.size<=els.length * k:=by
   calc n * k+off+ti.size<=n * k+k:=by omega
    _=(n+1) * k:=by rw [Nat.succ_mul]
    _<=els.length * k:=Nat.mul_le_mul_right _ hnl
  have hcap:els.length * k<=c * k:=Nat.mul_le_mul_right _ hnc
  have hrun:=Zeb (P:=P) (off:=n * k+off) ht hh hr' hcell hl (by omega)
  have hF:∀ b' o',x.F b' o'->b'≠b:=fun b' o' hFF e=>by
   subst e
   exact (h5 b' (by rw [hρ];rfl)).2 o' hFF
  let W':=x.W.setRow b (cur.toList.take (n * k+off)++(a.eval e').cells.toList++cur.toList.drop (n * k+off+(a.eval e').cells.toList.length)).toArray
  have k2:Step x ⟨x.G,x.F,W',x.ρ⟩:=⟨fun _ h=>⟨h,rfl⟩,fun _ _ h=>h,fun b' o' v' hFF hv'=>(Zcf x.W b _ (hF b' o' hFF)).trans hv'⟩
  have hsz:W'.heap.size=x.W.heap.size:=by simp [W',World.setRow]
  refine Zgn (W':=W') ?_ ⟨⟨x.G,x.F,W',x.ρ⟩,rfl,?_⟩
  unfold execOp
  rw [ho]
  simp [hv,hrun,W']
  refine hX.change k2 hd rfl rfl rfl (by rw [hsz];exact Nat.le_refl _) (fun b' hb' hne=>setRow_other x.W b b' _ (fun e=>hne g _ hob2 (by rw [hρ,e];rfl))) (fun _ _ h=>.inl h) (fun b' o' hb'=>by show b'<W'.heap.size;rw [hsz];exact hX.flt b' o' hb')
   (fun g' hg'=>(hX.gens g' hg').imp id fun ⟨e1,e2⟩=>⟨e1,.inl e2⟩) hg ?_ (fun b' hb'=>.inr ⟨g,_,hob2,hb'⟩) (.un _)
  have hlen2:(Zas el off (ev s e').cells).length=k:=by rw [Zc4 _ _ _ (by omega),hk1]
  have hwl:∀ e2 ∈ els.set n (Zas el off (ev s e').cells),e2.length=k:=fun e2 he2=>by
   rcases List.mem_or_eq_of_mem_set he2 with h | h
   exact h1 e2 h
   rw [h,hlen2]
  have hcl:(a.eval e').cells.toList.length=ti.size:=by rw [Array.length_toList];omega
  refine ⟨hwl,fun e2 he2 p hp=>?_,vs.take (n * k+off)++(a.eval e').cells.toList++vs.drop (n * k+off+(a.eval e').cells.toList.length),?_,fun m' p v' hpp hvv=>?_,fun b' hb'=>⟨(h5 b' hb').1,fun o' hFF=>(h5 b' hb').2 o' hFF⟩⟩
  rcases List.mem_or_eq_of_mem_set he2 with h | h
  exact h2 e2 h p hp
  subst h
  unfold Zas at hp
  rcases List.mem_append.1 hp with hp | hp
  rcases List.mem_append.1 hp with hp | hp
  exact h2 el (List.mem_of_getElem? hel) p (List.mem_of_mem_take hp)
  exact List.all_eq_true.1 hcell p hp
  exact h2 el (List.mem_of_getElem? hel) p (List.mem_of_mem_drop hp)
  refine ⟨?_,.inr ⟨b,c,_,by show x.ρ g=_;rw [hρ,List.length_set],hB2,setRow_heap x.W b cur _ E (0,0) hh,by rw [List.length_set];exact hnc,hcm2,?_,?_⟩⟩
  simp;omega
  simp;omega
  rw [List.length_set,<- htake]
  exact ZgK cur.toList (a.eval e').cells.toList (n * k+off) (els.length * k) (by rw [hcl];omega) (by have e:cur.toList.length=cur.size:=(by simp);omega)
  have hpp':(els.flatten.take (n * k+off)++(ev s e').cells++els.flatten.drop (n * k+off+(ev s e').cells.length))[m']? = some p:=by
   rw [<- ZiQ els h1 n el off (ev s e').cells hel (by rw [hl];exact hfit)]
   exact hpp
  rcases written (by rw [Zan els h1,hvl]) (by rw [hl,hcl]) (by rw [Zan els h1,hl];exact hroom) hpp' hvv with ⟨e1,e2⟩ | ⟨j,e1,e2⟩
  exact (h4 m' p v' e1 e2).step k2
  exact (h9 j p v' e1 (by simpa using e2)).step k2}
theorem Zjy {S:Nat->Prop} {a:Act} {x:Ctx} (hX:RstX r S s a x) {T E:TypeId} {ty:TypeId} {ti te:TI} (ht:tyI P T=some ti) (hE:ti.desc = .slice E) (hte:tyI P E=some te) (hk0:0<te.size) (hz:te.zero.length=te.size)
  {v0:Value} {n:Nat} {xs:List Value} (hown:x.W.ownsRow 0 E te.size v0 n xs) {p:PV} {v:Value} {new:List (List PV)} (hnew:Zoe s.ob p=some new) (hr:Rep x p v) (hk:∀ e ∈ new,e.length=te.size)
  (h63:n+new.length<=9223372036854775807) (hbytes:(n+new.length) * te.bytes<=140737488355328) :
  ∃ v' W' ys,(Builtin.append_ #[T,T] ty #[v0,v]).run P x.W = .ok v' W'/\W'.ownsRow 0 E te.size v' (n+new.length) (xs++ys)/\x.W.grownBy W' v0.ownBlock/\(v'.ownBlock=v0.ownBlock\/(v'.ownBlock=some x.W.heap.size/\x.W.grownBy W' none))/\
   ys.length=new.length * te.size/\∀ (m:Nat) (q:PV) (w:Value),new.flatten[m]? = some q->ys[m]? = some w->Rep x q w:=by{
obtain ⟨inf,z,h1,_⟩:=ZO ht
rw [hE] at h1
obtain ⟨inf',z',h1',h2',h3',h4',h5',h6'⟩:=ZO hte
obtain ⟨A,c,k,rfl,hc,hm,hkk,hpure,b,off,hcell⟩:=Zjh hX hnew hr
have hbase:0<=x.W.heap.size:=Nat.zero_le _
rcases Nat.eq_zero_or_pos new.length with h0 | h0
have hn0:new = []:=List.eq_nil_of_length_eq_zero h0
subst hn0
cases A with
| none=>
  refine ⟨v0,x.W,[],Zfa x.W 0 T ty E inf' te.size h1 h2' v0 n xs hown c,by simpa using hown,World.grownBy.refl _ _,.inl rfl,by simp,fun m q w hq=>by simp at hq⟩
| some ad=>
  obtain ⟨v',W',hrun,g1,g2,g3⟩:=Zhj (P:=P) x.W 0 T ty E inf' z' te.size te.bytes h1 h2' h3' h4' h5' (by rw [<- hz,h6'];simp) hk0 v0 n xs hown ad 0 c [] (by simp) (fun j u hu=>by simp at hu) (fun u hu=>by simp at hu) (by unfold maxLen;simp at h63;omega) (by simpa using hbytes) hbase
  exact ⟨v',W',[],by simpa using hrun,by simpa using g1,g2,g3,by simp,fun m q w hq=>by simp at hq⟩
obtain ⟨hA,hcell2⟩:=hcell h0
subst hA
have hks:k=te.size:=by
 obtain ⟨e,he⟩:=List.exists_mem_of_length_pos h0
 rw [<- hkk e he];exact hk e he
subst hks
have hlen:new.flatten.length=new.length * te.size:=Zan new hkk
have hat:∀ m,m<new.flatten.length->∃ q w,new.flatten[m]? = some q/\x.W.cell? ⟨b,off+m,none⟩=some w/\Rep x q w/\q.cell=true:=fun m hml=>by
 rw [hlen] at hml
 have hi:m / te.size<new.length:=Nat.div_lt_of_lt_mul (by rw [Nat.mul_comm];exact hml)
 have hj:m % te.size<te.size:=Nat.mod_lt _ hk0
 have hem:m / te.size * te.size+m % te.size=m:=by rw [Nat.mul_comm];exact Nat.div_add_mod m te.size
 have he:new[m / te.size]? = some new[m / te.size]:=List.getElem?_eq_getElem hi
 have hel:(new[m / te.size]).length=te.size:=hkk _ (List.getElem_mem hi)
 have hq:(new[m / te.size])[m % te.size]? = some ((new[m / te.size])[m % te.size]'(by omega)):=List.getElem?_eq_getElem (by omega)
 obtain ⟨w,hw1,hw2⟩:=hcell2 _ _ _ _ he hq
 refine ⟨_,w,?_,?_,hw2,hpure _ (List.getElem_mem hi) _ (List.getElem_mem _)⟩
 rw [<- Zev new hkk _ _ _ _ he hq,hem]
 rw [<- hw1,Nat.add_assoc,hem]
let ys:List Value:=(List.range new.flatten.length).map fun m=>(x.W.cell? ⟨b,off+m,none⟩).getD undef
have hyl:ys.length=new.flatten.length:=by simp [ys]
have hyg:∀ m w,ys[m]? = some w->m<new.flatten.length/\x.W.cell? ⟨b,off+m,none⟩=some w:=fun m w hw=>by
 have hml:m<new.flatten.length:=by rw [<- hyl];exact (List.getElem?_eq_some_iff.1 hw).1
 obtain ⟨q,w',_,hw',_⟩:=hat m hml
 refine ⟨hml,?_⟩
 simp only [ys,List.getElem?_map,List.getElem?_range hml,Option.map_some,Option.some.injEq] at hw
 rw [hw'] at hw ⊢
 rw [<- hw];rfl
obtain ⟨v',W',hrun,g1,g2,g3⟩:=Zhj (P:=P) x.W 0 T ty E inf' z' te.size te.bytes h1 h2' h3' h4' h5' (by rw [<- hz,h6'];simp) hk0 v0 n xs hown ⟨b,off,none⟩ new.length c ys (by rw [hyl,hlen])
 (fun j u hu=>by rw [ZbB];exact (hyg j u hu).2) (fun u hu=>by
  obtain ⟨m,hm'⟩:=List.getElem?_of_mem hu
  obtain ⟨hml,hw⟩:=hyg m u hm'
  obtain ⟨q,w',_,hw',hq,hp⟩:=hat m hml
  rw [hw'] at hw
  injection hw with hw
  subst hw
  exact hq.one hp) (by unfold maxLen;omega) hbytes hbase
refine ⟨v',W',ys,hrun,g1,g2,g3,by rw [hyl,hlen],fun m q w hq hw=>?_⟩
obtain ⟨hml,hw1⟩:=hyg m w hw
obtain ⟨q',w',hq',hw',hq2,_⟩:=hat m hml
rw [hq'] at hq
injection hq with hq
rw [hw'] at hw1
injection hw1 with hw1
subst hq hw1
exact hq2}
theorem Zpb {T:TypeId} {e e':Operand} {E a1 a2 t k:Nat} {a3:List PV} {te:TI} {g:Gen} {els new:List (List PV)} (ho:o.op = .call { callee:=.builtin .append,args:=#[e,e'],argTypes:=#[T,T] }) (ht:tyI P T=some ⟨.slice E,a1,a2,a3⟩) (hte:tyI P E=some te)
  (he:ev s e = .row t g) (hob:ZX s.ob t g=some (.prow E k els)) (hnew:Zoe s.ob (ev s e')=some new) (hks:k=te.size) (hc1:(els.length+new.length) * te.bytes<=140737488355328) (hc2:els.length+new.length<=9223372036854775807) (hc3:0<te.size) (hc4:te.zero.length=te.size)
  (hk:∀ el ∈ new,el.length=te.size):OpOK P r o i s ⟨.row t (s.ng,i),[(t,some ((s.ng,i),.prow E k (els++new)))]⟩:=by{
intro S a x Q hX hi hd
subst hks
have hr:=ZV hX e
have hr':=ZV hX e'
have run:∀ (v':Value) (W':World),(Builtin.append_ #[T,T] o.type #[a.eval e,a.eval e']).run P x.W = .ok v' W'->(execOp a.eval o).run P x.W = .ok (.value v') W':=fun v' W' hrun=>by
 unfold execOp
 rw [ho]
 simp [resolve,invoke,builtin,hrun]
have hob':=ZT hob
obtain ⟨hg,hO⟩:=hX.ob t g _ hob'
obtain ⟨h1,h2,vs,h3,h4,h5⟩:=hO
rw [he] at hr
generalize hv:a.eval e=v at hr run
cases hr with
| row _ _ A n c hG hvv=>
  rw [hvv] at h3
  obtain ⟨v',W',ys,hrun,g1,g2,g3,g4,g5⟩:=Zjy hX (ty:=o.type) ht rfl hte hc3 hc4 h3 hnew hr' hk hc2 hc1
  obtain ⟨A',c',hv',hbk⟩:=Zb6 g1
  obtain ⟨A0,c0,hv0,hbk0⟩:=Zb6 h3
  have hold:∀ b,b<x.W.heap.size->(∀ g o,s.ob t=some (g,o)->blk (x.ρ g)≠some b)->W'.heap[b]? = x.W.heap[b]?:=fun b hb hne=>g2.block b hb (fun e1=>hne g _ hob' (by rw [hvv,<- hbk0];exact e1.symm))
  have hxs:vs.length=els.length * te.size:=h3.1
  have hcells:∀ b o v,x.F b o->x.W.cell? ⟨b,o,none⟩=some v->W'.cell? ⟨b,o,none⟩=some v:=fun b o w hF hw=>
   (World.cell?_of_block (g2.block b (hX.flt b o hF) (fun e1=>(h5 b (by rw [hvv,<- hbk0];exact e1.symm)).2 o hF))).trans hw
  refine ZQ (run v' W' hrun) ?_
  refine hX.newObj hi hd g2.os g2.tape g2.output g2.size hold hcells (v0:=v') (fun b hb=>?_)
   (fun y k hF hW hρ=>⟨?_,?_,vs++ys,by rw [hW,hρ,List.length_append];exact g1,fun m q w hq hw=>?_,fun b hb=>⟨?_,fun o ho=>?_⟩⟩) (fun y k hW hG hρ=>?_)
  rw [<- hbk] at hb
  rcases g3 with e1 | ⟨e1,_⟩
  rw [e1,hbk0] at hb
  exact .inr ⟨g,_,hob',by rw [hvv];exact hb⟩
  rw [e1] at hb
  injection hb with hb
  exact .inl (Nat.le_of_eq hb)
  intro el hel
  rcases List.mem_append.1 hel with hel | hel
  exact h1 el hel
  exact hk el hel
  intro el hel
  obtain ⟨_,_,_,_,_,_,_,hp,_⟩:=Zjh hX hnew hr'
  rcases List.mem_append.1 hel with hel | hel
  exact h2 el hel
  exact hp el hel
  rw [List.flatten_append] at hq
  have hfl:els.flatten.length=vs.length:=by rw [hxs,Zan els h1]
  rw [List.getElem?_append] at hq hw
  rw [hfl] at hq
  split at hq
  rename_i hm
  rw [if_pos hm] at hw
  exact (h4 m q w hq hw).step k
  rename_i hm
  rw [if_neg hm] at hw
  exact (g5 _ q w hq hw).step k
  rw [hρ,<- hbk] at hb
  rcases g3 with e1 | ⟨e1,_⟩
  rw [e1,hbk0] at hb
  exact (h5 b (by rw [hvv];exact hb)).1
  rw [e1] at hb
  injection hb with hb
  rw [<- hb]
  exact .inl hX.gr.size
  rw [hF] at ho
  rw [hρ,<- hbk] at hb
  rcases g3 with e1 | ⟨e1,_⟩
  rw [e1,hbk0] at hb
  exact (h5 b (by rw [hvv];exact hb)).2 o ho
  rw [e1] at hb
  injection hb with hb
  have:=hX.flt b o ho
  change b<x.W.heap.size at this
  omega
  subst hv'
  rw [<- List.length_append] at hρ ⊢
  exact .row _ _ _ _ _ hG hρ}
end
end VL
end Go.Proofs.YtpffimahajgiaaaGreatDoor
namespace Go.Proofs.YtpffimahajgiaaaGreatDoor
namespace VL
open Go.RowKit
section
variable {P:Program} {r:Run} {o:Oper} {i:Nat} {s:FS}
theorem Zqz {T:TypeId} {e w:Operand} {E a1 a2 t k n:Nat} {a3:List PV} {te:TI} {g:Gen} {els:List (List PV)} (ho:o.op = .slice T e none (some w) none) (ht:tyI P T=some ⟨.slice E,a1,a2,a3⟩) (hte:tyI P E=some te)
  (he:ev s e = .row t g) (hob:ZX s.ob t g=some (.prow E k els)) (hn:toNat? (ev s w)=some n) (hnl:n<=els.length):OpOK P r o i s ⟨.row t (s.ng,i),[(t,some ((s.ng,i),.prow E k (els.take n)))]⟩:=by{
intro S a x Q hX hi hd
obtain ⟨inf,z,h1,_⟩:=ZO ht
obtain ⟨inf',z',h1',h2',_,h4',_,_⟩:=ZO hte
have hr:=ZV hX e
obtain ⟨kd,hw⟩:=ZbK hn (ZV hX w)
have hob':=ZT hob
obtain ⟨hg,hO⟩:=hX.ob t g _ hob'
obtain ⟨q1,q2,vs,h3,q4,q5⟩:=hO
rw [he] at hr
generalize hv:a.eval e=v at hr
cases hr with
| row _ _ A m c hG hvv=>
  rw [hvv] at h3
  have hmc:m=els.length/\els.length<=c/\(A=none/\c=0/\els.length=0\/∃ b,A=some ⟨b,0,none⟩):=by
   rcases h3.2 with ⟨hn0,hl⟩ | ⟨b,cap,cur,hv2,_,_,hc,_⟩
   injection hn0 with e1 e2 e3
   exact ⟨by omega,by omega,.inl ⟨e1,by omega,hl⟩⟩
   injection hv2 with e1 e2 e3
   subst e3
   exact ⟨e2,hc,.inr ⟨b,e1⟩⟩
  obtain ⟨rfl,hlc,hA⟩:=hmc
  have hb:(Instr.sliceBounds true els.length c none (some (a.eval w)) none).run P x.W = .ok (0,n,c) x.W:=by
   have hhc:(0:Int)<=n/\(n:Int)<=c:=by omega
   have hhc2:n<=c:=by omega
   simp [Instr.sliceBounds,Instr.sliceBound,asIntOf,hw,hhc2]
  have hsame:(if c=0 then A else A.map (·.add (0 * te.size)))=A:=by
   rcases hA with ⟨rfl,rfl,_⟩ | ⟨b,rfl⟩
   rfl
   split
   rfl
   simp only [Option.map_some,ZbB,Nat.zero_mul,Nat.add_zero]
  refine ZQ (v:=.slice A n c) (W':=x.W) ?_ ?_
  unfold execOp
  rw [ho]
  have hb':=hb
  simp [hv,Instr.sliceAt,Instr.slice,run_underlying h1,hb',sizeOf,typeInfo,h2',h4']
  have:=hsame
  simp at this
  exact this
  refine hX.newObj hi hd rfl rfl rfl (Nat.le_refl _) (fun b hb _=>rfl) (fun b o v hF hv=>hv) (v0:=.slice A n c) (fun b hb=>.inr ⟨g,_,hob',?_⟩) (fun y st hF hW hρ=>⟨fun el hel=>q1 el (List.mem_of_mem_take hel),fun el hel=>q2 el (List.mem_of_mem_take hel),vs.take (n * k),?_,fun m' q u hq hu=>?_,fun b hb=>⟨?_,fun o ho=>?_⟩⟩) (fun y st hW hG hρ=>.row _ _ _ _ _ hG hρ)
  rw [hvv]
  rcases hA with ⟨rfl,rfl,_⟩ | ⟨b',rfl⟩
  simp [blk] at hb
  exact hb
  rw [hρ,hW]
  have hlt:(els.take n).length=n:=by rw [List.length_take];omega
  rw [hlt]
  have hvl:vs.length=els.length * k:=h3.1
  have hnk:n * k<=els.length * k:=Nat.mul_le_mul_right _ hnl
  refine ⟨by rw [List.length_take];omega,?_⟩
  rcases h3.2 with ⟨hn0,hl⟩ | ⟨b,cap,cur,hv2,hB,hh,hc,hm,hs,htk⟩
  injection hn0 with e1 e2 e3
  exact .inl ⟨by rw [e1,e3,show n=0 by omega],by omega⟩
  injection hv2 with e1 e2 e3
  subst e1 e3
  refine .inr ⟨b,c,cur,rfl,hB,hh,by omega,hm,hs,?_⟩
  rw [<- htk,List.take_take,Nat.min_eq_left hnk]
  have hlf:(els.take n).flatten=els.flatten.take (n * k):=by
   have h6:els.flatten=(els.take n).flatten++(els.drop n).flatten:=by rw [<- List.flatten_append,List.take_append_drop]
   have h7:(els.take n).flatten.length=n * k:=by
    rw [Zan (k:=k) _ (fun el hel=>q1 el (List.mem_of_mem_take hel)),List.length_take]
    have:min n els.length=n:=by omega
    rw [this]
   rw [h6,<- h7,List.take_left']
   rfl
  rw [hlf,List.getElem?_take] at hq
  rw [List.getElem?_take] at hu
  split at hq
  rename_i hm'
  rw [if_pos hm'] at hu
  exact (q4 m' q u hq hu).step st
  cases hq
  rw [hρ] at hb
  refine (q5 b ?_).1
  rw [hvv]
  rcases hA with ⟨rfl,rfl,_⟩ | ⟨b',rfl⟩
  simp [blk] at hb
  exact hb
  rw [hρ] at hb
  rw [hF] at ho
  refine (q5 b ?_).2 o ho
  rw [hvv]
  rcases hA with ⟨rfl,rfl,_⟩ | ⟨b',rfl⟩
  simp [blk] at hb
  exact hb}
theorem ZsL {S:Nat->Prop} {a:Act} {x:Ctx} (hX:RstX r S s a x) (hi:¬ S i) {d:Nat} (hd:d<r.N) {E k n:Nat} {els:List (List PV)} {vs:Array Value} (hn:els.length=n) (hk:∀ e ∈ els,e.length=k) (hp:∀ e ∈ els,∀ p ∈ e,p.cell=true)
  (hm:n<=9223372036854775807) (hr:Zsa x els.flatten vs) :
  ∃ y:Ctx,y.W=x.W.alloc (.cells vs E)/\RstX r (fun j=>S j\/j=i) (s.app (some d) ⟨.row d (s.ng,i),[(d,some ((s.ng,i),.prow E k els))]⟩) (a.put (some d) (.slice (some ⟨x.W.heap.size,0,none⟩) n n)) y:=by{
have hold:∀ b,b<x.W.heap.size->(x.W.alloc (.cells vs E)).heap[b]? = x.W.heap[b]?:=fun b hb=>heap_alloc_old x.W _ hb
have hl:vs.size=n * k:=by rw [<- hr.1,Zan els hk,hn]
refine hX.newObj hi (fun k hk=>by cases hk;exact hd) rfl rfl rfl (by simp) (fun b hb _=>hold b hb) (fun b o v hF hv=>?_) (v0:=.slice (some ⟨x.W.heap.size,0,none⟩) n n) (fun b hb=>.inl ?_) (fun y st hF hW hρ=>?_) (fun y st hW hG hρ=>?_)
rw [World.cell?_of_block (hold b (hX.flt b o hF))];exact hv
have:x.W.heap.size=b:=by simpa [blk] using hb
omega
refine ⟨hk,hp,vs.toList,?_,fun m p v hpp hv=>((hr.2 m p v hpp (by simpa using hv)).step st),fun b hb=>⟨.inl ?_,fun o ho=>?_⟩⟩
rw [hρ,hW,hn]
exact ⟨by simp [hl],.inr ⟨x.W.heap.size,n,vs,rfl,Nat.zero_le _,heap_alloc_new x.W _,Nat.le_refl _,by unfold maxLen;omega,hl,by rw [List.take_of_length_le (by simp [hl])]⟩⟩
rw [hρ] at hb
have e:x.W.heap.size=b:=by simpa [blk] using hb
rw [<- e]
exact hX.gr.size
rw [hρ] at hb
rw [hF] at ho
have e:x.W.heap.size=b:=by simpa [blk] using hb
have:=hX.flt b o ho
omega
exact .row d (s.ng,i) _ _ _ hG hρ}
theorem ZqA {T:TypeId} {n d:Nat} {parts:Array (Nat×Operand)} {E a1 a2:Nat} {a3 cs:List PV} {te:TI} (ho:o.op = .buildSlice T n parts) (hdst:o.dst=some d) (ht:tyI P T=some ⟨.slice E,a1,a2,a3⟩) (hte:tyI P E=some te)
  (hf:Zdw (fun i=>some (i * te.size,te.size)) (List.replicate n te.zero).flatten (parts.toList.map fun q=>(q.1,ev s q.2))=some cs) (hcell:cs.all PV.cell=true) (hc1:cs.length=n * te.size) (hc2:n * te.size<=16777216) (hc3:0<te.size) :
  OpOK P r o i s ⟨.row d (s.ng,i),[(d,some ((s.ng,i),.prow E te.size (chunks te.size n cs)))]⟩:=by{
intro S a x Q hX hi hd
obtain ⟨inf,zv,h1,_⟩:=ZO ht
obtain ⟨inf',z',h1',h2',h3',h4',_,h6'⟩:=ZO hte
have hcl:=ZjA _ hf
have hzl:te.zero.length=z'.cells.size:=by rw [h6'];simp
have hrl:(List.replicate n te.zero).flatten.length=n * z'.cells.size:=by
 rw [Zan (k:=te.zero.length) _ (fun e he=>by rw [List.eq_of_mem_replicate he]),List.length_replicate,hzl]
let z0:Array Value:=(Array.range (n * te.size)).map fun j=>(if n * te.size=0 then #[] else z'.cells)[j % (if n * te.size=0 then #[] else z'.cells).size]!
have hz0:Zsa x (List.replicate n te.zero).flatten z0:=by
 refine ⟨by rw [hrl];simp only [z0,Array.size_map,Array.size_range];omega,fun j p v hp hv=>?_⟩
 have hjl:j<n * z'.cells.size:=by rw [<- hrl];exact (List.getElem?_eq_some_iff.1 hp).1
 have hzs:0<z'.cells.size:=by
  rcases Nat.eq_zero_or_pos z'.cells.size with h0 | h0
  rw [h0] at hjl;omega
  exact h0
 have hi':j / z'.cells.size<n:=Nat.div_lt_of_lt_mul (by rw [Nat.mul_comm];exact hjl)
 have hj':j % z'.cells.size<z'.cells.size:=Nat.mod_lt _ hzs
 have hem:j / z'.cells.size * z'.cells.size+j % z'.cells.size=j:=by rw [Nat.mul_comm];exact Nat.div_add_mod j _
 have he:(List.replicate n te.zero)[j / z'.cells.size]? = some te.zero:=by rw [List.getElem?_replicate,if_pos hi']
 have hq:te.zero[j % z'.cells.size]? = some (Zbu z'.cells[j % z'.cells.size]):=by rw [h6'];simp [hj']
 have:=Zev (k:=z'.cells.size) (List.replicate n te.zero) (fun e he=>by rw [List.eq_of_mem_replicate he,hzl]) _ _ _ _ he hq
 rw [hem,hp] at this
 injection this with this
 subst this
 have hnz:n * te.size≠0:=by omega
 have hjt:j<n * te.size:=by rw [<- hc1,hcl,hrl];exact hjl
 simp only [z0,if_neg hnz] at hv
 rw [Array.getElem?_map,Array.getElem?_range,if_pos hjt] at hv
 simp only [Option.map_some,Option.some.injEq] at hv
 rw [getElem!_pos z'.cells (j % z'.cells.size) hj'] at hv
 subst hv
 exact Zcl x _
obtain ⟨ws,h7,h8⟩:=Ze4 (place':=fun i=>some (i * te.size,te.size)) (fun e=>ZV hX e) (fun _ _ h=>h) parts.toList hz0 hf
obtain ⟨c1,c2,c3⟩:=ZgP te.size n cs hc1
obtain ⟨y,hy1,hy2⟩:=ZsL hX hi (hd d hdst) (E:=E) (n:=n) c3 c2 (fun e he p hp=>List.all_eq_true.1 hcell p (by rw [<- c1];exact List.mem_flatten.2 ⟨e,he,hp⟩)) (by have:=Nat.le_mul_of_pos_right n hc3;omega) (vs:=ws) (by rw [c1];exact h8)
rw [hdst]
refine ZQ (v:=.slice (some ⟨x.W.heap.size,0,none⟩) n n) (W':=x.W.alloc (.cells ws E)) ?_ ⟨y,hy1,?_⟩
unfold execOp
rw [ho]
have hle:¬ (16777216<n * te.size):=by omega
simp [Instr.buildSlice,run_underlying h1,sizeOf,typeInfo,h2',h4',hle]
by_cases hz:n * te.size=0
have ez:z0=Array.map (fun _=>default) (Array.range (n * te.size)):=by simp [z0,hz]
rw [if_pos hz,<- ez,h7]
simp [newRow,newObj]
rfl
have ez:z0=Array.map (fun j=>z'.cells[j % z'.cells.size]!) (Array.range (n * te.size)):=by simp [z0,hz]
rw [if_neg hz]
simp only [zeroValue,typeInfo,Sem.run_bind,h2',h3',Sem.run_pure,Result.andThen_ok,run_program]
rw [<- ez,h7]
simp [newRow,newObj]
rfl
rw [hdst]
exact hy2}
end
theorem ZcC {tm:List (Nat×PV)} {ob:List (Nat×Option (Gen×VObj))} {ng t E k:Nat} {g:Gen} {els:List (List PV)} (h:Zm ob t=some (g,.row E k false els)):Shift (mkS tm ob ng) (mkS tm ((t,some (g,.prow E k els))::ob) ng):=fun r a x hX=>by
 have hob:∀ t' g' o',(mkS tm ((t,some (g,.prow E k els))::ob) ng).ob t'=some (g',o')->(t'=t/\g'=g/\o' = .prow E k els)\/(mkS tm ob ng).ob t'=some (g',o'):=fun t' g' o' ho=>by
  change (if t'=t then some (g,VObj.prow E k els) else Zm ob t')=some (g',o') at ho
  split at ho
  rename_i e
  injection ho with ho
  injection ho with e1 e2
  exact .inl ⟨e,e1.symm,e2.symm⟩
  exact .inr ho
 have hsame:∀ t' g' o',(mkS tm ((t,some (g,.prow E k els))::ob) ng).ob t'=some (g',o')->∃ o2,(mkS tm ob ng).ob t'=some (g',o2):=fun t' g' o' ho=>by
  rcases hob t' g' o' ho with ⟨rfl,rfl,rfl⟩ | ho
  exact ⟨_,h⟩
  exact ⟨_,ho⟩
 refine ⟨x,rfl,hX.defers,hX.size,hX.gr,hX.gens,hX.tm,fun t' g' o' ho=>?_,fun t1 t2 g1 g2 o1 o2 b hne h1 h2 hb=>?_,hX.flt,hX.f0,hX.fnew,hX.rho,hX.inv,hX.keep⟩
 rcases hob t' g' o' ho with ⟨rfl,rfl,rfl⟩ | ho
 obtain ⟨hg,q1,q2,vs,q3,q4,q5⟩:=hX.ob t' g' _ h
 exact ⟨hg,q1,fun e he p hp=>PV.cell_of_pure (q2 e he p hp),vs,q3,q4,fun b hb=>⟨(q5 b hb).1,fun o hF=>by have:=((q5 b hb).2 o hF).1;cases this⟩⟩
 exact hX.ob t' g' o' ho
 obtain ⟨o1',h1'⟩:=hsame t1 g1 o1 h1
 obtain ⟨o2',h2'⟩:=hsame t2 g2 o2 h2
 exact hX.apart t1 t2 g1 g2 o1' o2' b hne h1' h2' hb
end VL
end Go.Proofs.YtpffimahajgiaaaGreatDoor
namespace Go.Proofs.YtpffimahajgiaaaGreatDoor
namespace VL
open Go.RowKit
def rn1 (σ:Gen->Option (Nat×Gen)):PV->Option PV | .ptr _ g o=>(σ g).map fun q=>.ptr q.1 q.2 o | .elp _ g i k o=>(σ g).map fun q=>.elp q.1 q.2 i k o | .row _ g=>(σ g).map fun q=>.row q.1 q.2 | .suf _ g i k=>(σ g).map fun q=>.suf q.1 q.2 i k | .mp _ g=>(σ g).map fun q=>.mp q.1 q.2 | .agg _=>none | .tup _=>none | .fn _ _=>none | p=>some p
def rnL (σ:Gen->Option (Nat×Gen)):List PV->Option (List PV)
 | []=>some []
 | p::ps=>match rn1 σ p,rnL σ ps with
   | some q,some qs=>some (q::qs)
   | _,_=>none
def rnP (σ:Gen->Option (Nat×Gen)):PV->Option PV | .agg ps=>(rnL σ ps).map .agg | .tup ps=>(rnL σ ps).map .tup | p=>rn1 σ p
def ZfE (σ:Gen->Option (Nat×Gen)):List (List PV)->Option (List (List PV))
 | []=>some []
 | e::es=>match rnL σ e,ZfE σ es with
   | some q,some qs=>some (q::qs)
   | _,_=>none
def rnO (σ:Gen->Option (Nat×Gen)):VObj->Option VObj | .box cs=>(rnL σ cs).map .box | .row E k sh els=>some (.row E k sh els) | .prow E k els=>(ZfE σ els).map (.prow E k) | .mp ents=>some (.mp ents) | .qrow E k els=>some (.qrow E k els)
section
variable {σ:Gen->Option (Nat×Gen)} {x y:Ctx}
theorem Zcj:∀ {ps qs:List PV},rnL σ ps=some qs->ps.length=qs.length/\(∀ (i:Nat) (p:PV),ps[i]? = some p->∃ q,qs[i]? = some q/\rn1 σ p=some q)/\∀ (i:Nat) (q:PV),qs[i]? = some q->∃ p,ps[i]? = some p/\rn1 σ p=some q
 | [],qs,h=>by
   injection h with h
   subst h
   exact ⟨rfl,fun i p hp=>by simp at hp,fun i p hp=>by simp at hp⟩
 | p::ps,qs,h=>by
   simp only [rnL] at h
   split at h
   rename_i q qs' h1 h2
   injection h with h
   subst h
   obtain ⟨h3,h4,h5⟩:=Zcj h2
   refine ⟨by simp [h3],fun i p' hp=>?_,fun i p' hp=>?_⟩
   cases i with
   | zero=>
     simp only [List.getElem?_cons_zero,Option.some.injEq] at hp
     subst hp
     exact ⟨q,rfl,h1⟩
   | succ i=>
     simp only [List.getElem?_cons_succ] at hp ⊢
     exact h4 i p' hp
   cases i with
   | zero=>
     simp only [List.getElem?_cons_zero,Option.some.injEq] at hp
     subst hp
     exact ⟨p,rfl,h1⟩
   | succ i=>
     simp only [List.getElem?_cons_succ] at hp ⊢
     exact h5 i p' hp
   cases h
theorem ZkS:∀ {a b qa qb:List PV},rnL σ a=some qa->rnL σ b=some qb->rnL σ (a++b)=some (qa++qb)
 | [],b,qa,qb,h,h'=>by injection h with h;subst h;exact h'
 | p::ps,b,qa,qb,h,h'=>by
   simp only [rnL] at h
   split at h
   rename_i q qs h1 h2
   injection h with h
   subst h
   simp only [List.cons_append,rnL,h1,ZkS h2 h']
   cases h
theorem ZjB:∀ {es qs:List (List PV)},ZfE σ es=some qs->es.length=qs.length/\rnL σ es.flatten=some qs.flatten/\(∀ (i:Nat) (e:List PV),es[i]? = some e->∃ q,qs[i]? = some q/\rnL σ e=some q)/\∀ (i:Nat) (q:List PV),qs[i]? = some q->∃ e,es[i]? = some e/\rnL σ e=some q
 | [],qs,h=>by
   injection h with h
   subst h
   exact ⟨rfl,rfl,fun i p hp=>by simp at hp,fun i p hp=>by simp at hp⟩
 | e::es,qs,h=>by
   simp only [ZfE] at h
   split at h
   rename_i q qs' h1 h2
   injection h with h
   subst h
   obtain ⟨h3,h4,h5,h6⟩:=ZjB h2
   refine ⟨by simp [h3],?_,fun i p' hp=>?_,fun i p' hp=>?_⟩
   rw [List.flatten_cons,List.flatten_cons]
   exact ZkS h1 h4
   cases i with
   | zero=>
     simp only [List.getElem?_cons_zero,Option.some.injEq] at hp
     subst hp
     exact ⟨q,rfl,h1⟩
   | succ i=>
     simp only [List.getElem?_cons_succ] at hp ⊢
     exact h5 i p' hp
   cases i with
   | zero=>
     simp only [List.getElem?_cons_zero,Option.some.injEq] at hp
     subst hp
     exact ⟨e,rfl,h1⟩
   | succ i=>
     simp only [List.getElem?_cons_succ] at hp ⊢
     exact h6 i p' hp
   cases h
structure Bk (σ:Gen->Option (Nat×Gen)) (x y:Ctx):Prop where
 G:∀ g k g',σ g=some (k,g')->x.G g'->y.G g/\y.ρ g=x.ρ g'
 F:∀ b o,x.F b o->y.F b o
 W:∀ b o v,x.F b o->x.W.cell? ⟨b,o,none⟩=some v->y.W.cell? ⟨b,o,none⟩=some v
structure Fw (σ:Gen->Option (Nat×Gen)) (x y:Ctx):Prop where
 G:∀ g k g',σ g=some (k,g')->x.G g->y.G g'/\y.ρ g'=x.ρ g
 F:∀ b o,x.F b o->y.F b o
 W:∀ b o v,x.F b o->x.W.cell? ⟨b,o,none⟩=some v->y.W.cell? ⟨b,o,none⟩=some v
theorem ZmG {p q:PV} {v:Value} (k:Bk σ x y) (h:rn1 σ p=some q) (hr:Rep x q v):Rep y p v:=by{
cases p with
| ptr t g o=>
  simp only [rn1,Option.map_eq_some_iff] at h
  obtain ⟨⟨t',g'⟩,h1,rfl⟩:=h
  cases hr with
  | ptr _ _ _ b hG hb=>
    obtain ⟨a1,a2⟩:=k.G g t' g' h1 hG
    exact .ptr _ _ _ b a1 (by rw [a2];exact hb)
| elp t g i kk o=>
  simp only [rn1,Option.map_eq_some_iff] at h
  obtain ⟨⟨t',g'⟩,h1,rfl⟩:=h
  cases hr with
  | elp _ _ _ _ _ b hG hb=>
    obtain ⟨a1,a2⟩:=k.G g t' g' h1 hG
    exact .elp _ _ _ _ _ b a1 (by rw [a2];exact hb)
| row t g=>
  simp only [rn1,Option.map_eq_some_iff] at h
  obtain ⟨⟨t',g'⟩,h1,rfl⟩:=h
  cases hr with
  | row _ _ A n c hG hv=>
    obtain ⟨a1,a2⟩:=k.G g t' g' h1 hG
    exact .row _ _ A n c a1 (a2.trans hv)
| suf t g i kk=>
  simp only [rn1,Option.map_eq_some_iff] at h
  obtain ⟨⟨t',g'⟩,h1,rfl⟩:=h
  cases hr with
  | suf _ _ _ _ A A' n c c' hG hv h3 h4 h5=>
    obtain ⟨a1,a2⟩:=k.G g t' g' h1 hG
    exact .suf _ _ _ _ A A' n c c' a1 (a2.trans hv) h3 h4 h5
| mp t g=>
  simp only [rn1,Option.map_eq_some_iff] at h
  obtain ⟨⟨t',g'⟩,h1,rfl⟩:=h
  cases hr with
  | mp _ _ b hG hv=>
    obtain ⟨a1,a2⟩:=k.G g t' g' h1 hG
    exact .mp _ _ b a1 (a2.trans hv)
| agg ps=>cases h
| tup ps=>cases h
| fn f ps=>cases h
| un=>exact .un _
| nil=>injection h with h;subst h;cases hr;exact .nil
| cel cs=>
  injection h with h
  subst h
  cases hr with
  | cel _ b off f hcell hh=>exact .cel cs b off f (fun j p hp=>⟨(hcell j p hp).1,k.F _ _ (hcell j p hp).2.1,k.W _ _ _ (hcell j p hp).2.1 (hcell j p hp).2.2⟩) fun j p hp=>(hh j p hp).pure_mono (hcell j p hp).1 k.F k.W
| bool b=>injection h with h;subst h;exact hr.pure_mono rfl k.F k.W
| int kd n=>injection h with h;subst h;exact hr.pure_mono rfl k.F k.W
| str s=>injection h with h;subst h;exact hr.pure_mono rfl k.F k.W
| sl els=>injection h with h;subst h;exact hr.pure_mono rfl k.F k.W}
theorem ZmH {p q:PV} {v:Value} (k:Fw σ x y) (h:rn1 σ p=some q) (hr:Rep x p v):Rep y q v:=by{
cases p with
| ptr t g o=>
  simp only [rn1,Option.map_eq_some_iff] at h
  obtain ⟨⟨t',g'⟩,h1,rfl⟩:=h
  cases hr with
  | ptr _ _ _ b hG hb=>
    obtain ⟨a1,a2⟩:=k.G g t' g' h1 hG
    exact .ptr _ _ _ b a1 (by rw [a2];exact hb)
| elp t g i kk o=>
  simp only [rn1,Option.map_eq_some_iff] at h
  obtain ⟨⟨t',g'⟩,h1,rfl⟩:=h
  cases hr with
  | elp _ _ _ _ _ b hG hb=>
    obtain ⟨a1,a2⟩:=k.G g t' g' h1 hG
    exact .elp _ _ _ _ _ b a1 (by rw [a2];exact hb)
| row t g=>
  simp only [rn1,Option.map_eq_some_iff] at h
  obtain ⟨⟨t',g'⟩,h1,rfl⟩:=h
  cases hr with
  | row _ _ A n c hG hv=>
    obtain ⟨a1,a2⟩:=k.G g t' g' h1 hG
    exact .row _ _ A n c a1 (a2.trans hv)
| suf t g i kk=>
  simp only [rn1,Option.map_eq_some_iff] at h
  obtain ⟨⟨t',g'⟩,h1,rfl⟩:=h
  cases hr with
  | suf _ _ _ _ A A' n c c' hG hv h3 h4 h5=>
    obtain ⟨a1,a2⟩:=k.G g t' g' h1 hG
    exact .suf _ _ _ _ A A' n c c' a1 (a2.trans hv) h3 h4 h5
| mp t g=>
  simp only [rn1,Option.map_eq_some_iff] at h
  obtain ⟨⟨t',g'⟩,h1,rfl⟩:=h
  cases hr with
  | mp _ _ b hG hv=>
    obtain ⟨a1,a2⟩:=k.G g t' g' h1 hG
    exact .mp _ _ b a1 (a2.trans hv)
| agg ps=>cases h
| tup ps=>cases h
| fn f ps=>cases h
| un=>injection h with h;subst h;exact .un _
| nil=>injection h with h;subst h;cases hr;exact .nil
| cel cs=>
  injection h with h
  subst h
  cases hr with
  | cel _ b off f hcell hh=>exact .cel cs b off f (fun j p hp=>⟨(hcell j p hp).1,k.F _ _ (hcell j p hp).2.1,k.W _ _ _ (hcell j p hp).2.1 (hcell j p hp).2.2⟩) fun j p hp=>(hh j p hp).pure_mono (hcell j p hp).1 k.F k.W
| bool b=>injection h with h;subst h;exact hr.pure_mono rfl k.F k.W
| int kd n=>injection h with h;subst h;exact hr.pure_mono rfl k.F k.W
| str s=>injection h with h;subst h;exact hr.pure_mono rfl k.F k.W
| sl els=>injection h with h;subst h;exact hr.pure_mono rfl k.F k.W}
theorem ZiT {p q:PV} (h:rn1 σ p=some q):p.cell=q.cell:=by{
cases p with
| ptr t g o=>simp only [rn1,Option.map_eq_some_iff] at h;obtain ⟨_,_,rfl⟩:=h;rfl
| elp t g i k o=>simp only [rn1,Option.map_eq_some_iff] at h;obtain ⟨_,_,rfl⟩:=h;rfl
| row t g=>simp only [rn1,Option.map_eq_some_iff] at h;obtain ⟨_,_,rfl⟩:=h;rfl
| suf t g i k=>simp only [rn1,Option.map_eq_some_iff] at h;obtain ⟨_,_,rfl⟩:=h;rfl
| mp t g=>simp only [rn1,Option.map_eq_some_iff] at h;obtain ⟨_,_,rfl⟩:=h;rfl
| agg ps=>cases h
| tup ps=>cases h
| fn f ps=>cases h
| _=>injection h with h;subst h;rfl}
theorem Zt1 {p q:PV} {v:Value} (k:Bk σ x y) (h:rnP σ p=some q) (hr:Rep x q v):Rep y p v:=by{
cases p with
| agg ps=>
  simp only [rnP,Option.map_eq_some_iff] at h
  obtain ⟨qs,h1,rfl⟩:=h
  obtain ⟨h2,h3,_⟩:=Zcj h1
  cases hr with
  | agg _ cs hl hh=>
    refine .agg ps cs (h2.trans hl) fun i p v hp hv=>?_
    obtain ⟨q,hq,hpq⟩:=h3 i p hp
    exact ZmG k hpq (hh i q v hq hv)
| tup ps=>
  simp only [rnP,Option.map_eq_some_iff] at h
  obtain ⟨qs,h1,rfl⟩:=h
  obtain ⟨h2,h3,_⟩:=Zcj h1
  cases hr with
  | tup _ cs hl hh=>
    refine .tup ps cs (h2.trans hl) fun i p v hp hv=>?_
    obtain ⟨q,hq,hpq⟩:=h3 i p hp
    exact ZmG k hpq (hh i q v hq hv)
| _=>exact ZmG k h hr}
theorem Zv9 {p q:PV} {v:Value} (k:Fw σ x y) (h:rnP σ p=some q) (hr:Rep x p v):Rep y q v:=by{
cases p with
| agg ps=>
  simp only [rnP,Option.map_eq_some_iff] at h
  obtain ⟨qs,h1,rfl⟩:=h
  obtain ⟨h2,_,h3⟩:=Zcj h1
  cases hr with
  | agg _ cs hl hh=>
    refine .agg qs cs (h2.symm.trans hl) fun i q v hq hv=>?_
    obtain ⟨p,hp,hpq⟩:=h3 i q hq
    exact ZmH k hpq (hh i p v hp hv)
| tup ps=>
  simp only [rnP,Option.map_eq_some_iff] at h
  obtain ⟨qs,h1,rfl⟩:=h
  obtain ⟨h2,_,h3⟩:=Zcj h1
  cases hr with
  | tup _ cs hl hh=>
    refine .tup qs cs (h2.symm.trans hl) fun i q v hq hv=>?_
    obtain ⟨p,hp,hpq⟩:=h3 i q hq
    exact ZmH k hpq (hh i p v hp hv)
| _=>exact ZmH k (by exact h) hr}
theorem Zt2 {B B':Nat} {D D':Nat->Prop} {g g':Gen} {o o':VObj} (k:Bk σ x y) (h:rnO σ o=some o') (hρ:y.ρ g=x.ρ g') (hF:∀ b o,y.F b o->x.F b o) (hW:y.W=x.W) (hD:∀ b,blk (x.ρ g')=some b->B'<=b\/D' b) (hr:ObRep x B D g' o'):ObRep y B' D' g o:=by{
cases o with
| box cs=>
  simp only [rnO,Option.map_eq_some_iff] at h
  obtain ⟨qs,h1,rfl⟩:=h
  obtain ⟨l1,l2,l3⟩:=Zcj h1
  obtain ⟨b,T,vs,q1,q2,q3,q4,q5,q6,q7⟩:=hr
  refine ⟨b,T,vs,hρ.trans q1,by rw [hW];exact q2,l1.trans q3,fun p hp=>?_,fun j p v hp hv=>?_,hD b (by rw [q1];rfl),fun o ho=>q7 o (hF b o ho)⟩
  obtain ⟨i,hi⟩:=List.getElem?_of_mem hp
  obtain ⟨q,hq,hpq⟩:=l2 i p hi
  rw [ZiT hpq]
  exact q4 q (List.mem_of_getElem? hq)
  obtain ⟨q,hq,hpq⟩:=l2 j p hp
  exact ZmG k hpq (q5 j q v hq hv)
| row E kk sh els=>
  injection h with h
  subst h
  obtain ⟨q1,q2,vs,q3,q4,q5⟩:=hr
  refine ⟨q1,q2,vs,by rw [hρ,hW];exact q3,fun m p v hp hv=>?_,fun b hb=>?_⟩
  obtain ⟨e,he,hpe⟩:=List.mem_flatten.1 (List.mem_of_getElem? hp)
  exact (q4 m p v hp hv).pure_mono (q2 e he p hpe) k.F k.W
  rw [hρ] at hb
  exact ⟨hD b hb,fun o ho=>(q5 b hb).2 o (hF b o ho)⟩
| prow E kk els=>
  simp only [rnO,Option.map_eq_some_iff] at h
  obtain ⟨qs,h1,rfl⟩:=h
  obtain ⟨l1,l2,l3,l4⟩:=ZjB h1
  obtain ⟨q1,q2,vs,q3,q4,q5⟩:=hr
  refine ⟨fun e he=>?_,fun e he p hp=>?_,vs,by rw [hρ,hW,l1];exact q3,fun m p v hp hv=>?_,fun b hb=>?_⟩
  obtain ⟨i,hi⟩:=List.getElem?_of_mem he
  obtain ⟨q,hq,hpq⟩:=l3 i e hi
  rw [(Zcj hpq).1]
  exact q1 q (List.mem_of_getElem? hq)
  obtain ⟨i,hi⟩:=List.getElem?_of_mem he
  obtain ⟨q,hq,hpq⟩:=l3 i e hi
  obtain ⟨j,hj⟩:=List.getElem?_of_mem hp
  obtain ⟨r,hr1,hr2⟩:=(Zcj hpq).2.1 j p hj
  rw [ZiT hr2]
  exact q2 q (List.mem_of_getElem? hq) r (List.mem_of_getElem? hr1)
  obtain ⟨r,hr1,hr2⟩:=(Zcj l2).2.1 m p hp
  exact ZmG k hr2 (q4 m r v hr1 hv)
  rw [hρ] at hb
  exact ⟨hD b hb,fun o ho=>(q5 b hb).2 o (hF b o ho)⟩
| mp ents=>
  injection h with h
  subst h
  obtain ⟨b,es,clock,q1,q2,q3,q4,q5,q6⟩:=hr
  exact ⟨b,es,clock,hρ.trans q1,by rw [hW];exact q2,q3,q4,hD b (by rw [q1];rfl),fun o ho=>q6 o (hF b o ho)⟩
| qrow E kk els=>
  injection h with h
  subst h
  obtain ⟨q1,q2,b,off,cap,cur,q3,q4,q5,q6,q7,q8,q9,q10⟩:=hr
  refine ⟨q1,q2,b,off,cap,cur,hρ.trans q3,by rw [hW];exact q4,q5,q6,q7,fun i j e p he hp=>?_,hD b (by rw [q3];rfl),fun hc o ho=>q10 hc o (hF b o ho)⟩
  obtain ⟨f1,v,f2,f3⟩:=q8 i j e p he hp
  exact ⟨k.F _ _ f1,v,k.W _ _ _ f1 f2,f3.pure_mono (q2 e (List.mem_of_getElem? he) p (List.mem_of_getElem? hp)) k.F k.W⟩}
theorem Zwa {B B':Nat} {D D':Nat->Prop} {g g':Gen} {o o':VObj} (k:Fw σ x y) (h:rnO σ o=some o') (hρ:y.ρ g'=x.ρ g) (hF:∀ b o,y.F b o->x.F b o) (hW:y.W=x.W) (hD:∀ b,blk (x.ρ g)=some b->B'<=b\/D' b) (hr:ObRep x B D g o):ObRep y B' D' g' o':=by{
cases o with
| box cs=>
  simp only [rnO,Option.map_eq_some_iff] at h
  obtain ⟨qs,h1,rfl⟩:=h
  obtain ⟨l1,l2,l3⟩:=Zcj h1
  obtain ⟨b,T,vs,q1,q2,q3,q4,q5,q6,q7⟩:=hr
  refine ⟨b,T,vs,hρ.trans q1,by rw [hW];exact q2,l1.symm.trans q3,fun q hq=>?_,fun j q v hq hv=>?_,hD b (by rw [q1];rfl),fun o ho=>q7 o (hF b o ho)⟩
  obtain ⟨i,hi⟩:=List.getElem?_of_mem hq
  obtain ⟨p,hp,hpq⟩:=l3 i q hi
  rw [<- ZiT hpq]
  exact q4 p (List.mem_of_getElem? hp)
  obtain ⟨p,hp,hpq⟩:=l3 j q hq
  exact ZmH k hpq (q5 j p v hp hv)
| row E kk sh els=>
  injection h with h
  subst h
  obtain ⟨q1,q2,vs,q3,q4,q5⟩:=hr
  refine ⟨q1,q2,vs,by rw [hρ,hW];exact q3,fun m p v hp hv=>?_,fun b hb=>?_⟩
  obtain ⟨e,he,hpe⟩:=List.mem_flatten.1 (List.mem_of_getElem? hp)
  exact (q4 m p v hp hv).pure_mono (q2 e he p hpe) k.F k.W
  rw [hρ] at hb
  exact ⟨hD b hb,fun o ho=>(q5 b hb).2 o (hF b o ho)⟩
| prow E kk els=>
  simp only [rnO,Option.map_eq_some_iff] at h
  obtain ⟨qs,h1,rfl⟩:=h
  obtain ⟨l1,l2,l3,l4⟩:=ZjB h1
  obtain ⟨q1,q2,vs,q3,q4,q5⟩:=hr
  refine ⟨fun e he=>?_,fun e he p hp=>?_,vs,by rw [hρ,hW,<- l1];exact q3,fun m q v hq hv=>?_,fun b hb=>?_⟩
  obtain ⟨i,hi⟩:=List.getElem?_of_mem he
  obtain ⟨q,hq,hpq⟩:=l4 i e hi
  rw [<- (Zcj hpq).1]
  exact q1 q (List.mem_of_getElem? hq)
  obtain ⟨i,hi⟩:=List.getElem?_of_mem he
  obtain ⟨q,hq,hpq⟩:=l4 i e hi
  obtain ⟨j,hj⟩:=List.getElem?_of_mem hp
  obtain ⟨r,hr1,hr2⟩:=(Zcj hpq).2.2 j p hj
  rw [<- ZiT hr2]
  exact q2 q (List.mem_of_getElem? hq) r (List.mem_of_getElem? hr1)
  obtain ⟨r,hr1,hr2⟩:=(Zcj l2).2.2 m q hq
  exact ZmH k hr2 (q4 m r v hr1 hv)
  rw [hρ] at hb
  exact ⟨hD b hb,fun o ho=>(q5 b hb).2 o (hF b o ho)⟩
| mp ents=>
  injection h with h
  subst h
  obtain ⟨b,es,clock,q1,q2,q3,q4,q5,q6⟩:=hr
  exact ⟨b,es,clock,hρ.trans q1,by rw [hW];exact q2,q3,q4,hD b (by rw [q1];rfl),fun o ho=>q6 o (hF b o ho)⟩
| qrow E kk els=>
  injection h with h
  subst h
  obtain ⟨q1,q2,b,off,cap,cur,q3,q4,q5,q6,q7,q8,q9,q10⟩:=hr
  refine ⟨q1,q2,b,off,cap,cur,hρ.trans q3,by rw [hW];exact q4,q5,q6,q7,fun i j e p he hp=>?_,hD b (by rw [q3];rfl),fun hc o ho=>q10 hc o (hF b o ho)⟩
  obtain ⟨f1,v,f2,f3⟩:=q8 i j e p he hp
  exact ⟨k.F _ _ f1,v,k.W _ _ _ f1 f2,f3.pure_mono (q2 e (List.mem_of_getElem? he) p (List.mem_of_getElem? hp)) k.F k.W⟩}
end
end VL
end Go.Proofs.YtpffimahajgiaaaGreatDoor
namespace Go.Proofs.YtpffimahajgiaaaGreatDoor
namespace VL
open Go.RowKit
structure GRep (x:Ctx) (B:Nat) (D:Nat->Prop) (l:List (Nat×Gen×VObj)):Prop where
 ob:∀ t g o,(t,g,o) ∈ l->x.G g/\ObRep x B D g o
 apart:∀ t t' g g' o o' b,t≠t'->(t,g,o) ∈ l->(t',g',o') ∈ l->blk (x.ρ g)=some b->blk (x.ρ g')≠some b
def ZwX (obs:List (Nat×VObj)):List (Nat×Gen×VObj):=obs.map fun q=>(q.1,(0,q.1),q.2)
def Dg (x:Ctx) (obs:List (Nat×VObj)) (b:Nat):Prop:=∃ t o,(t,o) ∈ obs/\blk (x.ρ (0,t))=some b
theorem Zgv {obs:List (Nat×VObj)} {t:Nat} {g:Gen} {o:VObj}:(t,g,o) ∈ ZwX obs↔(t,o) ∈ obs/\g=(0,t):=by{
unfold ZwX
rw [List.mem_map]
constructor
rintro ⟨⟨t',o'⟩,h,e⟩
injection e with e1 e2
injection e2 with e2 e3
subst e1 e2 e3
exact ⟨h,rfl⟩
rintro ⟨h,rfl⟩
exact ⟨(t,o),h,rfl⟩}
structure PreG (x:Ctx) (args:List PV) (obs:List (Nat×VObj)) (vs:Array Value):Prop where
 size:args.length=vs.size
 rep:∀ (i:Nat) (p:PV) (v:Value),args[i]? = some p->vs[i]? = some v->Rep x p v
 ob:GRep x x.W.heap.size (Dg x obs) (ZwX obs)
 gen:∀ g,x.G g->g.1=0
 flt:∀ b o,x.F b o->b<x.W.heap.size
structure PostG (x y:Ctx) (obs:List (Nat×VObj)) (r:PV) (obs':List (Nat×Gen×VObj)) (v:Value):Prop where
 step:Step x y
 gr:Gr (Dg x obs) x.W y.W
 fnew:∀ b o,y.F b o->x.F b o\/x.W.heap.size<=b\/Dg x obs b
 flt:∀ b o,y.F b o->b<y.W.heap.size
 rep:Rep y r v
 ob:GRep y x.W.heap.size (Dg x obs) obs'
structure ContractG (P:Program) [WInv P] (f:FuncId) (args:List PV) (obs:List (Nat×VObj)) (r:PV) (obs':List (Nat×Gen×VObj)):Prop where
 isGo:VL.isGo P f=true
 calls:∀ (x:Ctx) (vs:Array Value),PreG x args obs vs->(∀ W',Gr (Dg x obs) x.W W'->WInv.I P W')->Calls P f vs x.W fun e W'=>∃ y v,y.W=W'/\e = .returned v/\PostG x y obs r obs' v
def σ0 (κ:Nat->Nat) (γ:Nat->Gen) (g:Gen):Option (Nat×Gen):=if g.1=0 then some (κ g.2,γ g.2) else none
def σ1 (dom:Nat->Bool) (κ:Nat->Nat) (γ:Nat->Gen) (κ':Nat->Nat) (ng i:Nat) (g:Gen):Option (Nat×Gen):=if g.1=0 then (if dom g.2=true then some (κ g.2,γ g.2) else none) else if g.1=1 then some (κ' g.2,(ng,i+1000000 * (g.2+1))) else none
def rnA (σ:Gen->Option (Nat×Gen)):List PV->Option (List PV)
 | []=>some []
 | p::ps=>match rnP σ p,rnA σ ps with
   | some q,some qs=>some (q::qs)
   | _,_=>none
theorem ZoP {σ:Gen->Option (Nat×Gen)}:∀ {ps qs:List PV},rnA σ ps=some qs->ps.length=qs.length/\∀ (i:Nat) (p:PV),ps[i]? = some p->∃ q,qs[i]? = some q/\rnP σ p=some q
 | [],qs,h=>by
   injection h with h
   subst h
   exact ⟨rfl,fun i p hp=>by simp at hp⟩
 | p::ps,qs,h=>by
   simp only [rnA] at h
   split at h
   rename_i q qs' h1 h2
   injection h with h
   subst h
   obtain ⟨h3,h4⟩:=ZoP h2
   refine ⟨by simp [h3],fun i p' hp=>?_⟩
   cases i with
   | zero=>
     simp only [List.getElem?_cons_zero,Option.some.injEq] at hp
     subst hp
     exact ⟨q,rfl,h1⟩
   | succ i=>
     simp only [List.getElem?_cons_succ] at hp ⊢
     exact h4 i p' hp
   cases h
def usG (κ:Nat->Nat) (obs:List (Nat×VObj)) (obs2:List (Nat×Gen×VObj)):List (Nat×Option (Gen×VObj)):=obs.map (fun q=>(κ q.1,none))++obs2.map fun q=>(q.1,some q.2)
section
variable {P:Program} [WInv P] {r:Run} {ops:Array Oper} {o:Oper} {i:Nat} {s s':FS}
theorem Zty {f:FuncId} {es:Array Operand} {ts:Array TypeId} {args:List PV} {obs:List (Nat×VObj)} {res res2:PV} {obs' obs2:List (Nat×Gen×VObj)} {dom:Nat->Bool} {κ κ':Nat->Nat} {γ:Nat->Gen} (ho:o.op = .call { callee:=.value (.func f),args:=es,argTypes:=ts })
  (he:rnA (σ0 κ γ) args=some (es.toList.map (ev s))) (hob:∀ t o,(t,o) ∈ obs->∃ o2,rnO (σ0 κ γ) o=some o2/\s.ob (κ t)=some (γ t,o2)) (hinj:∀ t o t' o',(t,o) ∈ obs->(t',o') ∈ obs->t≠t'->κ t≠κ t')
  (hdom:∀ k,dom k=true->∃ o,(k,o) ∈ obs) (hres:rnP (σ1 dom κ γ κ' s.ng i) res=some res2)
  (h2:∀ t2 g2 o2,(t2,g2,o2) ∈ obs2->∃ t g o,(t,g,o) ∈ obs'/\σ1 dom κ γ κ' s.ng i g=some (t2,g2)/\rnO (σ1 dom κ γ κ' s.ng i) o=some o2)
  (h3:∀ t2 g2 o2 t2' g2' o2' t g o t' g' o',(t2,g2,o2) ∈ obs2->(t2',g2',o2') ∈ obs2->(t,g,o) ∈ obs'->(t',g',o') ∈ obs'->σ1 dom κ γ κ' s.ng i g=some (t2,g2)->σ1 dom κ γ κ' s.ng i g'=some (t2',g2')->t2≠t2'->t≠t')
  (hc:ContractG P f args obs res obs') (hI:r.I=WInv.I P):Zqw P r o i s ⟨res2,usG κ obs obs2⟩:=by{
intro S a x Q hX hiM hi hi2 hd
have hrep:∀ (j:Nat) (p:PV),(es.toList.map (ev s))[j]? = some p->Rep x p ((es.map a.eval).getD j undef):=fun j p hp=>by
 rw [List.getElem?_map] at hp
 cases he:es.toList[j]? with
 | none=>rw [he] at hp;simp at hp
 | some e=>
   rw [he] at hp
   simp only [Option.map_some,Option.some.injEq] at hp
   subst hp
   have hea:es[j]? = some e:=by simpa using he
   have:(es.map a.eval).getD j undef=a.eval e:=by simp [hea]
   rw [this]
   exact ZV hX e
let z:Ctx:=⟨fun g=>g.1=0/\x.G (γ g.2),x.F,x.W,fun g=>x.ρ (γ g.2)⟩
have bk:Bk (σ0 κ γ) x z:=by
 refine ⟨fun g k g' h hG=>?_,fun _ _ h=>h,fun _ _ _ _ h=>h⟩
 unfold σ0 at h
 split at h
 rename_i e
 injection h with h
 injection h with _ h
 subst h
 exact ⟨⟨e,hG⟩,rfl⟩
 cases h
have hD:∀ b,Dg z obs b->b<x.W.heap.size/\(r.W0.heap.size<=b\/r.D b):=fun b ⟨t,o,h,hb⟩=>by
 obtain ⟨o2,_,h5⟩:=hob t o h
 exact (hX.ob (κ t) (γ t) o2 h5).2.lt b hb
have hpre:PreG z args obs (es.map a.eval):=by
 obtain ⟨l1,l2⟩:=ZoP he
 refine ⟨by rw [l1];simp,fun j p v hp hv=>?_,⟨fun t g o h=>?_,fun t t' g g' o o' b hne h h' hb hb'=>?_⟩,fun g hg=>hg.1,hX.flt⟩
 obtain ⟨q,hq,hpq⟩:=l2 j p hp
 have:=hrep j q hq
 rw [Array.getD_eq_getD_getElem?,hv] at this
 exact Zt1 bk hpq this
 obtain ⟨hm,rfl⟩:=Zgv.1 h
 obtain ⟨o2,h4,h5⟩:=hob t o hm
 obtain ⟨q1,q2⟩:=hX.ob (κ t) (γ t) o2 h5
 exact ⟨⟨rfl,q1⟩,Zt2 bk h4 rfl (fun _ _ h=>h) rfl (fun b hb=>.inr ⟨t,o,hm,hb⟩) q2⟩
 obtain ⟨hm,rfl⟩:=Zgv.1 h
 obtain ⟨hm',rfl⟩:=Zgv.1 h'
 obtain ⟨o2,_,h5⟩:=hob t o hm
 obtain ⟨o2',_,h5'⟩:=hob t' o' hm'
 exact hX.apart (κ t) (κ t') (γ t) (γ t') o2 o2' b (hinj t o t' o' hm hm' hne) h5 h5' hb hb'
have hcalls:=hc.calls z _ hpre fun W' hW=>by
 rw [<- hI]
 exact hX.inv.1 W' (hX.gr.trans' hW.os hW.tape hW.output hW.size fun b' hb' hD'=>hW.block b' (Nat.lt_of_lt_of_le hb' hX.gr.size) fun hDb=>by
  rcases (hD b' hDb).2 with h | h
  omega
  exact hD' h)
unfold Oper.wp
rw [Zej ho hc.isGo,Oper.upon_enter]
refine hcalls.mono ?_
rintro e W' ⟨y,v,rfl,rfl,hpost⟩
let nm:Nat->Gen:=fun c=>(s.ng,i+1000000 * (c+1))
let y':Ctx:=⟨fun g'=>x.G g'\/∃ c,g'=nm c/\y.G (1,c),y.F,y.W,fun g'=>if g'.1=s.ng/\g'.2 % 1000000=i/\1000000<=g'.2 then y.ρ (1,g'.2 / 1000000-1) else x.ρ g'⟩
have yn:∀ c,y'.ρ (nm c)=y.ρ (1,c):=fun c=>by
 show (if s.ng=s.ng/\(i+1000000 * (c+1)) % 1000000=i/\1000000<=i+1000000 * (c+1) then y.ρ (1,(i+1000000 * (c+1)) / 1000000-1) else _)=_
 rw [if_pos ⟨rfl,by omega,by omega⟩]
 have:(i+1000000 * (c+1)) / 1000000-1=c:=by omega
 rw [this]
have old:∀ g',x.G g'->y'.ρ g'=x.ρ g':=fun g' hg'=>if_neg fun ⟨e1,e2,e3⟩=>by
 rcases hX.gens g' hg' with e | ⟨_,e⟩
 omega
 refine hi (hi2 (g'.2 / 1000000-1) ?_)
 have:i+1000000 * (g'.2 / 1000000-1+1)=g'.2:=by omega
 rw [this]
 exact e
have k:Step x y':=⟨fun g' hg'=>⟨.inl hg',old g' hg'⟩,fun b o hb=>hpost.step.F b o hb,fun b o v hb hv=>hpost.step.W b o v hb hv⟩
have fw:Fw (σ1 dom κ γ κ' s.ng i) y y':=by
 refine ⟨fun g kk g' h hG=>?_,fun _ _ h=>h,fun _ _ _ _ h=>h⟩
 unfold σ1 at h
 split at h
 rename_i e
 split at h
 rename_i hdm
 injection h with h
 injection h with _ h
 subst h
 obtain ⟨o,hm⟩:=hdom _ hdm
 obtain ⟨o2,_,h5⟩:=hob _ o hm
 have hxG:=(hX.ob _ _ _ h5).1
 have hg:g=(0,g.2):=by rw [<- e]
 refine ⟨.inl hxG,(old _ hxG).trans ?_⟩
 rw [hg]
 exact ((hpost.step.G (0,g.2) ⟨rfl,hxG⟩).2).symm
 cases h
 split at h
 rename_i e
 injection h with h
 injection h with _ h
 subst h
 have hg:g=(1,g.2):=by rw [<- e]
 rw [hg] at hG ⊢
 exact ⟨.inr ⟨g.2,rfl,hG⟩,yn g.2⟩
 cases h
have fwρ:∀ g t2 g2,σ1 dom κ γ κ' s.ng i g=some (t2,g2)->y.G g->y'.ρ g2=y.ρ g:=fun g t2 g2 h hG=>(fw.G g t2 g2 h hG).2
have conv:∀ b2,(x.W.heap.size<=b2\/Dg z obs b2)->(r.W0.heap.size<=b2\/r.D b2):=fun b2 h=>h.elim (fun h=>.inl (Nat.le_trans hX.gr.size h)) fun h=>(hD b2 h).2
have notD:∀ t2 g2 o2 b2,(∀ t o,(t,o) ∈ obs->κ t≠t2)->s.ob t2=some (g2,o2)->blk (x.ρ g2)=some b2->¬ Dg z obs b2:=fun t2 g2 o2 b2 n h hb ⟨t,o,hm,hb'⟩=>by
 obtain ⟨o3,_,h5⟩:=hob t o hm
 exact hX.apart t2 (κ t) g2 (γ t) o2 o3 b2 (fun e=>n t o hm e.symm) h h5 hb hb'
have cases2:∀ t2 g2 o2,(flips s.ob (usG κ obs obs2)) t2=some (g2,o2)->((∀ t o,(t,o) ∈ obs->κ t≠t2)/\s.ob t2=some (g2,o2))\/(t2,g2,o2) ∈ obs2:=fun t2 g2 o2 h=>by
 rcases Zlp (usG κ obs obs2) s.ob t2 with ⟨q1,q2⟩ | ⟨w,q1,q2⟩
 rw [q1] at h
 refine .inl ⟨fun t o hm e=>q2 none (List.mem_append_left _ (List.mem_map.2 ⟨(t,o),hm,by rw [e]⟩)),h⟩
 rw [q2] at h
 subst h
 rcases List.mem_append.1 q1 with h | h
 obtain ⟨_,_,e⟩:=List.mem_map.1 h
 injection e with _ e
 cases e
 obtain ⟨⟨t3,g3,o3⟩,hm,e⟩:=List.mem_map.1 h
 injection e with e1 e2
 injection e2 with e2
 injection e2 with e2 e3
 subst e1 e2 e3
 exact .inr hm
have newOb:∀ t2 g2 o2,(t2,g2,o2) ∈ obs2->y'.G g2/\ObRep y' r.W0.heap.size r.D g2 o2:=fun t2 g2 o2 hm=>by
 obtain ⟨t,g,o,q1,q2,q3⟩:=h2 t2 g2 o2 hm
 obtain ⟨w1,w2⟩:=hpost.ob.ob t g o q1
 refine ⟨(fw.G g t2 g2 q2 w1).1,Zwa fw q3 (fwρ g t2 g2 q2 w1) (fun _ _ h=>h) rfl (fun b hb=>conv b (w2.lt b hb).2) w2⟩
have newLt:∀ t2 g2 o2 b2,(t2,g2,o2) ∈ obs2->blk (y'.ρ g2)=some b2->x.W.heap.size<=b2\/Dg z obs b2:=fun t2 g2 o2 b2 hm hb=>by
 obtain ⟨t,g,o,q1,q2,q3⟩:=h2 t2 g2 o2 hm
 obtain ⟨w1,w2⟩:=hpost.ob.ob t g o q1
 rw [fwρ g t2 g2 q2 w1] at hb
 exact (w2.lt b2 hb).2
have oldLt:∀ t2 g2 o2 b2,(∀ t o,(t,o) ∈ obs->κ t≠t2)->s.ob t2=some (g2,o2)->blk (y'.ρ g2)=some b2->b2<x.W.heap.size/\¬ Dg z obs b2:=fun t2 g2 o2 b2 n h hb=>by
 obtain ⟨q1,q2⟩:=hX.ob t2 g2 o2 h
 rw [old g2 q1] at hb
 exact ⟨(q2.lt b2 hb).1,notD t2 g2 o2 b2 n h hb⟩
refine ⟨y',rfl,?_⟩
refine ⟨by rw [Zeu];exact hX.defers,by rw [Zht];exact hX.size,?_,fun g' hg'=>?_,fun t'=>?_,fun t2 g2 o2 hh=>?_,fun t1 t2 g1 g2 o1 o2 b2 hne q1 q2 hb hb2=>?_,hpost.flt,fun b o hb=>k.F b o (hX.f0 b o hb),fun b2 o2 hb=>?_,fun g' hg'=>⟨(k.G g' (hX.rho g' hg').1).1,(k.G g' (hX.rho g' hg').1).2.trans (hX.rho g' hg').2⟩,hX.inv,fun b o v hF hv=>k.W b o v (hX.f0 b o hF) (hX.keep b o v hF hv)⟩
refine hX.gr.trans' hpost.gr.os hpost.gr.tape hpost.gr.output hpost.gr.size fun b' hb' hD'=>hpost.gr.block b' (Nat.lt_of_lt_of_le hb' hX.gr.size) fun hDb=>?_
rcases (hD b' hDb).2 with h | h
omega
exact hD' h
rcases hg' with hg' | ⟨c,rfl,_⟩
exact (hX.gens g' hg').imp id fun ⟨e1,e2⟩=>⟨e1,.inl e2⟩
exact .inr ⟨rfl,.inr (.inr ⟨by show 1000000<=i+1000000 * (c+1);omega,by show (i+1000000 * (c+1)) % 1000000=i;omega⟩)⟩
exact Zt0 hX.size hd (Zv9 fw hres hpost.rep) (fun t=>(hX.tm t).step k) t'
rcases cases2 t2 g2 o2 hh with ⟨n,h⟩ | hm
obtain ⟨q1,q2⟩:=hX.ob t2 g2 o2 h
refine ⟨.inl q1,q2.step q1 k fun b2 hb2=>?_⟩
have hlt:=(q2.lt b2 hb2).1
have hnd:=notD t2 g2 o2 b2 n h hb2
refine ⟨hpost.gr.block b2 hlt hnd,fun o3 ho3=>?_⟩
rcases hpost.fnew b2 o3 ho3 with h | h | h
exact h
exact absurd hlt (Nat.not_lt.2 h)
exact absurd h hnd
exact newOb t2 g2 o2 hm
rcases cases2 t1 g1 o1 q1 with ⟨n1,w1⟩ | m1
rcases cases2 t2 g2 o2 q2 with ⟨n2,w2⟩ | m2
rw [old g1 (hX.ob t1 g1 o1 w1).1] at hb
rw [old g2 (hX.ob t2 g2 o2 w2).1] at hb2
exact hX.apart t1 t2 g1 g2 o1 o2 b2 hne w1 w2 hb hb2
obtain ⟨u1,u2⟩:=oldLt t1 g1 o1 b2 n1 w1 hb
rcases newLt t2 g2 o2 b2 m2 hb2 with w | w
omega
exact u2 w
rcases cases2 t2 g2 o2 q2 with ⟨n2,w2⟩ | m2
obtain ⟨u1,u2⟩:=oldLt t2 g2 o2 b2 n2 w2 hb2
rcases newLt t1 g1 o1 b2 m1 hb with w | w
omega
exact u2 w
obtain ⟨t,g,o,a1,a2,a3⟩:=h2 t1 g1 o1 m1
obtain ⟨t',g',o',c1,c2,c3⟩:=h2 t2 g2 o2 m2
rw [fwρ g t1 g1 a2 (hpost.ob.ob t g o a1).1] at hb
rw [fwρ g' t2 g2 c2 (hpost.ob.ob t' g' o' c1).1] at hb2
exact hpost.ob.apart t t' g g' o o' b2 (h3 t1 g1 o1 t2 g2 o2 t g o t' g' o' m1 m2 a1 c1 a2 c2 hne) a1 c1 hb hb2
rcases hpost.fnew b2 o2 hb with h | h | h
exact hX.fnew b2 o2 h
exact .inr (.inl (Nat.le_trans hX.gr.size h))
exact .inr (hD b2 h).2}
end
end VL
end Go.Proofs.YtpffimahajgiaaaGreatDoor
namespace Go.Proofs.YtpffimahajgiaaaGreatDoor
namespace VL
open Go.RowKit
def obG (obs:List (Nat×VObj)):List (Nat×Option (Gen×VObj)):=obs.map fun q=>(q.1,some ((0,q.1),q.2))
theorem Zha {t:Nat} {g:Gen} {o:VObj}:∀ {obs:List (Nat×VObj)},Zm (obG obs) t=some (g,o)->(t,o) ∈ obs/\g=(0,t)
 | [],h=>by cases h
 | q::r,h=>by
   change (if t=q.1 then some ((0,q.1),q.2) else Zm (obG r) t)=some (g,o) at h
   split at h
   rename_i e
   injection h with h
   injection h with e1 e2
   subst e e1 e2
   exact ⟨List.mem_cons_self ..,rfl⟩
   obtain ⟨h1,h2⟩:=Zha h
   exact ⟨List.mem_cons_of_mem _ h1,h2⟩
def Zuh (args:List PV) (obs:List (Nat×VObj)):FS:=⟨fun t=>args.getD t (.tup []),Zm (obG obs),1⟩
section
variable {P:Program} [WInv P]
theorem Zii (hmix:P.follows .mixedOrders=true) {f:FuncId} {fn:Func} {c:Code} {args:List PV} {obs:List (Nat×VObj)} {obs':List (Nat×Gen×VObj)} {e:Ex} {s0 s1:FS} {ps:List PV} {res:PV}
  (hg:isGo P f=true) (hf:P.funcs[f]? = some fn) (hb:fn.body=some c) (hn:args.length<=fn.ntmps) (hok:ZaU fn.ntmps c=true) (hrun:RunC P c (Zuh args obs) e s0) (hs:Shift s0 s1) (he:e = .normal\/e = .ret)
  (hres:Zcr P s1 fn.results.toList=some ps) (hps:Zcs ps=res) (hob:∀ t g o,(t,g,o) ∈ obs'->s1.ob t=some (g,o)):ContractG P f args obs res obs':=by{
subst hps
refine ⟨hg,fun x vs hpre hinv=>?_⟩
let r:Run:=⟨x.W,Dg x obs,(vs++Array.replicate (fn.ntmps-vs.size) undef).size,x.F,x.G,x.ρ,WInv.I P⟩
have hNr:r.N=fn.ntmps:=by
 have:=hpre.size
 simp [r]
 omega
have hX:RstX r (fun _=>False) (Zuh args obs) { tmps:=vs++Array.replicate (fn.ntmps-vs.size) undef,defers:=[] } x:=by
 refine ⟨rfl,rfl,Gr.refl _ _,fun g hg=>?_,fun t=>?_,fun t g o ho=>?_,fun t t' g g' o o' b hne h1 h2 hb1 hb2=>?_,hpre.flt,fun _ _ h=>h,fun _ _ h=>.inl h,fun _ h=>⟨h,rfl⟩,⟨hinv,hpre.gen⟩,fun _ _ _ _ h=>h⟩
 rw [hpre.gen g hg]
 exact .inl Nat.zero_lt_one
 show Rep x (args.getD t (.tup [])) _
 rw [Array.getD_eq_getD_getElem?,Array.getElem?_append,List.getD_eq_getElem?_getD]
 by_cases ht:t<vs.size
 rw [if_pos ht,List.getElem?_eq_getElem (by rw [hpre.size];exact ht),Array.getElem?_eq_getElem ht]
 exact hpre.rep t _ _ (List.getElem?_eq_getElem (by rw [hpre.size];exact ht)) (Array.getElem?_eq_getElem ht)
 rw [if_neg ht,List.getElem?_eq_none (by rw [hpre.size];omega)]
 have:(Array.replicate (fn.ntmps-vs.size) undef)[t-vs.size]?.getD undef=undef:=by
  rw [Array.getElem?_replicate]
  split<;>rfl
 rw [this]
 exact .tup [] #[] rfl (fun i p v hp=>by simp at hp)
 obtain ⟨hm,rfl⟩:=Zha ho
 exact hpre.ob.ob t (0,t) o (Zgv.2 ⟨hm,rfl⟩)
 obtain ⟨hm,rfl⟩:=Zha h1
 obtain ⟨hm',rfl⟩:=Zha h2
 exact hpre.ob.apart t t' (0,t) (0,t') o o' b hne (Zgv.2 ⟨hm,rfl⟩) (Zgv.2 ⟨hm',rfl⟩) hb1 hb2
refine calls_of_wp hf hb ?_
refine (Zd4 hmix hrun).1 r _ x _ ⟨rfl,by rw [hNr];exact hok⟩ hX fun a' y0 hY0=>?_
obtain ⟨y,hyW,hY⟩:=hs _ _ _ hY0
rw [<- hyW]
obtain ⟨ws,h1,h2,h3⟩:=ZbP hY fn.results.toList hres
have hstep:Step x y:=⟨fun g hg=>hY.rho g hg,fun b o hb=>hY.f0 b o hb,fun b o v hb hv=>hY.keep b o v hb hv⟩
have hO:GRep y x.W.heap.size (Dg x obs) obs':=⟨fun t g o h=>hY.ob t g o (hob t g o h),fun t t' g g' o o' b hne h h' hb hb'=>hY.apart t t' g g' o o' b hne (hob t g o h) (hob t' g' o' h') hb hb'⟩
have hend:(results fn a'.tmps).run P y.W = .ok (if ws.length=1 then ws.getD 0 undef else .tuple ws.toArray) y.W:=by
 have:(fn.results.mapM (Znp a')).run P y.W = .ok ws.toArray y.W:=by
  rw [Array.mapM_eq_mapM_toList,map_eq_pure_bind,Sem.run_bind,h1]
  rfl
 have e:results fn a'.tmps=(fn.results.mapM (Znp a') >>= fun vs=>pure (if h:vs.size=1 then vs[0] else .tuple vs)):=by
  unfold results
  congr 1
 rw [e,Sem.run_bind,this]
 simp only [Result.andThen_ok,Sem.run_pure]
 congr 1
 by_cases hl:ws.length=1
 simp [hl]
 simp [hl]
have hfin:∃ v,(results fn a'.tmps).run P y.W = .ok v y.W/\(fun e W'=>∃ y v,y.W=W'/\e=Ending.returned v/\PostG x y obs (Zcs ps) obs' v) (Ending.returned v) y.W:=by
 refine ⟨_,hend,y,_,rfl,rfl,hstep,hY.gr,hY.fnew,hY.flt,?_,hO⟩
 have hlq:ps.length=ws.length:=h2.symm
 unfold Zcs
 split
 rename_i p
 rw [if_pos (by simpa using hlq.symm)]
 exact h3 0 p rfl
 rename_i hne
 have hn1:¬ ws.length=1:=fun h=>by
  rw [h] at hlq
  match ps,hlq with
  | [q],_=>exact hne q rfl
 rw [if_neg hn1]
 refine .tup ps ws.toArray (by simpa using hlq) fun j q v hq hv=>?_
 have:=h3 j q hq
 have hv':ws[j]? = some v:=by simpa using hv
 rw [List.getD_eq_getElem?_getD,hv'] at this
 exact this
rcases he with rfl | rfl
exact ⟨hY.defers,hfin⟩
exact ⟨hY.defers,hfin⟩}
end
end VL
end Go.Proofs.YtpffimahajgiaaaGreatDoor
namespace Go.Proofs.YtpffimahajgiaaaGreatDoor
namespace VL
open Go.RowKit
section
variable {P:Program} [WInv P] {ops:Array Oper} {o:Oper} {i:Nat} {s:FS} {T:TypeId} {e e':Operand} {E a1 a2 t k n off:Nat} {a3:List PV} {te ti:TI} {g:Gen} {els new:List (List PV)} {el:List PV}
theorem ZkT {f f':Nat->Option (Gen×VObj)} {p:PV} (h:∀ t ∈ ZaG p,f t=f' t):Zoe f p=Zoe f' p:=by
 cases p<;>simp only [Zoe]
 rename_i t g
 rw [Zay (h t (by simp [ZaG])) g]
omit [WInv P] in
theorem Zbo {s':FS} (h:Agree ops o s s') (he:e ∈ o.op.operands) (hq:quiet o.op=false) (hs:Zjm o.op=false) (hk:t ∈ ZaG (ev s e)):ZX s'.ob t g=ZX s.ob t g:=Zay (h.key he hq hs t (ZcW (Zg5 hk))).symm g
theorem Zs7 (hw:Zf ops s o=some true) (ho:o.op = .call { callee:=.builtin .len,args:=#[e],argTypes:=#[T] }) (ht:tyI P T=some ⟨.slice E,a1,a2,a3⟩) (hels:Zoe s.ob (ev s e)=some els):OpR P ops i o s ⟨.int .i64 els.length,[]⟩:=.any hw fun s' r hA hI=>by
 have hm:e ∈ o.op.operands:=by rw [ho];simp [Op.operands,Call.operands]
 refine Zuo ho ht ?_
 rw [<- hA.ev e hm,<- hels]
 exact (ZkT fun t ht=>hA.key hm (by rw [ho];rfl) (by rw [ho];rfl) t (ZcW (Zg5 ht))).symm
theorem Zpi {E':Nat} (hw:Zf ops s o=some true) (ho:o.op = .indexAddr T e e') (ht:tyI P T=some ⟨.slice E,a1,a2,a3⟩) (hte:tyI P E=some te) (he:ev s e = .row t g) (hn:toNat? (ev s e')=some n) (hob:ZX s.ob t g=some (.prow E' k els)) (hnl:n<els.length) (hk:k=te.size) :
  OpR P ops i o s ⟨.elp t g n k 0,[]⟩:=.any hw fun s' r hA hI=>by
 have hm:e ∈ o.op.operands:=by rw [ho];simp [Op.operands]
 have hm':e' ∈ o.op.operands:=by rw [ho];simp [Op.operands]
 exact Zp4 ho ht hte (by rw [<- hA.ev e hm];exact he) (by rw [<- hA.ev e' hm'];exact hn) (by rw [Zbo hA hm (by rw [ho];rfl) (by rw [ho];rfl) (by rw [he];simp [ZaG])];exact hob) hnl hk
theorem ZqT {p:PV} (hw:Zf ops s o=some true) (ho:o.op = .load T e) (ht:tyI P T=some ti) (he:ev s e = .elp t g n k off) (hob:ZX s.ob t g=some (.prow E k els)) (hel:els[n]? = some el) (hp:ZiH ti (el.drop off)=some p):OpR P ops i o s ⟨p,[]⟩:=.any hw fun s' r hA hI=>by
 have hm:e ∈ o.op.operands:=by rw [ho];simp [Op.operands]
 exact Zso ho ht (by rw [<- hA.ev e hm];exact he) (by rw [Zbo hA hm (by rw [ho];rfl) (by rw [ho];rfl) (by rw [he];simp [ZaG])];exact hob) hel hp
omit [WInv P] in
theorem ZmK {s':FS} (h:Agree ops o s s') (ho:o.op = .store T e e') (hk:t ∈ ZaG (ev s e)):ZX s'.ob t g=ZX s.ob t g:=Zay (h.keyL (e:=e) (by rw [ho];exact Zj3) (by rw [ho];rfl) t (ZcW (Zg5 hk))).symm g
theorem Zpj {p:PV} (hw:Zf ops s o=some true) (ho:o.op = .store T e e') (ht:tyI P T=some ti) (he':ev s e'=p) (hl:p.cells.length=ti.size) (he:ev s e = .elp t g n k off) (hcell:p.cells.all PV.cell=true) (hob:ZX s.ob t g=some (.prow E k els)) (hel:els[n]? = some el) (hfit:off+ti.size<=k) :
  OpR P ops i o s ⟨.un,[(t,some (g,.prow E k (els.set n (Zas el off p.cells))))]⟩:=.any hw fun s' r hA hI=>by
 have hm:e ∈ o.op.operands:=by rw [ho];simp [Op.operands]
 have hm':e' ∈ o.op.operands:=by rw [ho];simp [Op.operands]
 subst he'
 have h1:=hA.ev e' hm'
 rw [h1] at hl hcell ⊢
 exact Zqv ho ht hl (by rw [<- hA.ev e hm];exact he) hcell (by rw [ZmK hA ho (by rw [he];simp [ZaG])];exact hob) hel hfit
theorem ZnG (hw:Zf ops s o=some true) (ho:o.op = .call { callee:=.builtin .append,args:=#[e,e'],argTypes:=#[T,T] }) (ht:tyI P T=some ⟨.slice E,a1,a2,a3⟩) (hte:tyI P E=some te) (he:ev s e = .row t g) (hob:ZX s.ob t g=some (.prow E k els)) (hnew:Zoe s.ob (ev s e')=some new)
  (hks:k=te.size) (hc1:(els.length+new.length) * te.bytes<=140737488355328) (hc2:els.length+new.length<=9223372036854775807) (hc3:0<te.size) (hc4:te.zero.length=te.size) (hk:∀ el ∈ new,el.length=te.size):OpR P ops i o s ⟨.row t (s.ng,i),[(t,some ((s.ng,i),.prow E k (els++new)))]⟩:=.any hw fun s' r hA hI=>by
 have hm:e ∈ o.op.operands:=by rw [ho];simp [Op.operands,Call.operands]
 have hm':e' ∈ o.op.operands:=by rw [ho];simp [Op.operands,Call.operands]
 rw [hA.ng]
 refine Zpb ho ht hte (by rw [<- hA.ev e hm];exact he) (by rw [Zbo hA hm (by rw [ho];rfl) (by rw [ho];rfl) (by rw [he];simp [ZaG])];exact hob) ?_ hks hc1 hc2 hc3 hc4 hk
 rw [<- hA.ev e' hm',<- hnew]
 exact (ZkT fun t ht=>hA.key hm' (by rw [ho];rfl) (by rw [ho];rfl) t (ZcW (Zg5 ht))).symm
theorem Zpk {w:Operand} (hw:Zf ops s o=some true) (ho:o.op = .slice T e none (some w) none) (ht:tyI P T=some ⟨.slice E,a1,a2,a3⟩) (hte:tyI P E=some te) (he:ev s e = .row t g) (hob:ZX s.ob t g=some (.prow E k els)) (hn:toNat? (ev s w)=some n) (hnl:n<=els.length) :
  OpR P ops i o s ⟨.row t (s.ng,i),[(t,some ((s.ng,i),.prow E k (els.take n)))]⟩:=.any hw fun s' r hA hI=>by
 have hm:e ∈ o.op.operands:=by rw [ho];simp [Op.operands]
 have hm':w ∈ o.op.operands:=by rw [ho];simp [Op.operands]
 rw [hA.ng]
 exact Zqz ho ht hte (by rw [<- hA.ev e hm];exact he) (by rw [Zbo hA hm (by rw [ho];rfl) (by rw [ho];rfl) (by rw [he];simp [ZaG])];exact hob) (by rw [<- hA.ev w hm'];exact hn) hnl
theorem Zpl {d:Nat} {parts:Array (Nat×Operand)} {cs:List PV} (hw:Zf ops s o=some true) (ho:o.op = .buildSlice T n parts) (hdst:o.dst=some d) (ht:tyI P T=some ⟨.slice E,a1,a2,a3⟩) (hte:tyI P E=some te)
  (hf:Zdw (fun i=>some (i * te.size,te.size)) (List.replicate n te.zero).flatten (parts.toList.map fun q=>(q.1,ev s q.2))=some cs) (hcell:cs.all PV.cell=true) (hc1:cs.length=n * te.size) (hc2:n * te.size<=16777216) (hc3:0<te.size) :
  OpR P ops i o s ⟨.row d (s.ng,i),[(d,some ((s.ng,i),.prow E te.size (chunks te.size n cs)))]⟩:=.any hw fun s' r hA hI=>by
 rw [hA.ng]
 refine ZqA ho hdst ht hte ?_ hcell hc1 hc2 hc3
 rw [<- hf]
 congr 1
 refine List.map_congr_left fun q hq=>?_
 rw [hA.ev q.2 (by rw [ho];simp [Op.operands];exact ⟨q.1,by simpa using hq⟩)]
end
section
variable {P:Program} [WInv P] {ops:Array Oper} {draw:Bool} {i:Nat} {L:List Oper} {acc:List (List Nat×List Nat)} {K:FS->Prop} {tm:List (Nat×PV)} {ob:List (Nat×Option (Gen×VObj))} {ng:Nat}
 {d:Option Tmp} {ty:TypeId} {pos:String} {after:Array Edge} {gd:Option (Nat×Bool)} {T:TypeId} {x y:Operand} {E kk by_:Nat} {z:List PV} {t:Nat} {g:Gen} {els new:List (List PV)}
theorem Zwd [Sl P T E kk by_ z] (hw:Zf ops (mkS tm ob ng) ⟨d,.call ⟨.builtin .len,#[x],#[T]⟩,ty,pos,after,gd⟩=some true) (hx:Zoe (Zm ob) (evL tm x)=some els)
  (k:GoL P ops draw (i+1) L (acc ++ [(ZA (mkS tm ob ng) ⟨d,.call ⟨.builtin .len,#[x],#[T]⟩,ty,pos,after,gd⟩,[])]) (mkS (ZaW d (.int .i64 (els.length:Int)) tm) ob ng) K):GoL P ops draw i (⟨d,.call ⟨.builtin .len,#[x],#[T]⟩,ty,pos,after,gd⟩::L) acc (mkS tm ob ng) K:=by{
obtain ⟨s,b,zz,te,q1,q2,q3,_,_,_,_⟩:=ZbJ (P:=P) (T:=T) (E:=E) (k:=kk) (by_:=by_) (z:=z)
refine Zc1 (Zs7 hw rfl q1 (by rw [ZR];exact hx)) ?_
rw [ZaS]
exact k}
theorem ZeN {E':Nat} {kd:IntKind} {n:Nat} [Sl P T E kk by_ z] (hw:Zf ops (mkS tm ob ng) ⟨d,.indexAddr T x y,ty,pos,after,gd⟩=some true) (hx:evL tm x = .row t g) (hb:ZX (Zm ob) t g=some (.prow E' kk els)) (hy:evL tm y = .int kd (n:Int)) (hn:n<els.length)
  (k:GoL P ops draw (i+1) L (acc ++ [(ZA (mkS tm ob ng) ⟨d,.indexAddr T x y,ty,pos,after,gd⟩,[])]) (mkS (ZaW d (.elp t g n kk 0) tm) ob ng) K):GoL P ops draw i (⟨d,.indexAddr T x y,ty,pos,after,gd⟩::L) acc (mkS tm ob ng) K:=by{
obtain ⟨s,b,zz,te,q1,q2,q3,_,_,_,_⟩:=ZbJ (P:=P) (T:=T) (E:=E) (k:=kk) (by_:=by_) (z:=z)
refine Zc1 (Zpi hw rfl q1 q2 (by rw [ZR];exact hx) (by rw [ZR,hy];exact Zcn) hb hn q3.symm) ?_
rw [ZaS]
exact k}
theorem ZcP {agg:Bool} {n q off:Nat} {e:List PV} {v:PV} [Ld P T agg n] (hw:Zf ops (mkS tm ob ng) ⟨d,.load T x,ty,pos,after,gd⟩=some true) (hx:evL tm x = .elp t g q kk off) (hb:ZX (Zm ob) t g=some (.prow E kk els)) (he:els[q]? = some e) (hv:Zne agg n (e.drop off)=some v)
  (k:GoL P ops draw (i+1) L (acc ++ [(ZA (mkS tm ob ng) ⟨d,.load T x,ty,pos,after,gd⟩,[])]) (mkS (ZaW d v tm) ob ng) K):GoL P ops draw i (⟨d,.load T x,ty,pos,after,gd⟩::L) acc (mkS tm ob ng) K:=by{
obtain ⟨ti,ht,h1,h2⟩:=Zka (P:=P) (T:=T) (agg:=agg) (n:=n)
refine Zc1 (ZqT hw rfl ht (by rw [ZR];exact hx) hb he (by rw [ZrV h1 h2];exact hv)) ?_
rw [ZaS]
exact k}
theorem ZiU {agg:Bool} {n q off:Nat} {e ps:List PV} {p:PV} [Ld P T agg n] (hw:Zf ops (mkS tm ob ng) ⟨d,.store T x y,ty,pos,after,gd⟩=some true) (hx:evL tm x = .elp t g q kk off) (hb:ZX (Zm ob) t g=some (.prow E kk els)) (he:els[q]? = some e) (hy:evL tm y=p) (hps:p.cells=ps) (hl:ps.length=n)
  (hz:ps.all PV.cell=true) (hf:off+n<=kk) {els':List (List PV)} (hs:els.set q (Zas e off ps)=els')
  (k:GoL P ops draw (i+1) L (acc ++ [(ZA (mkS tm ob ng) ⟨d,.store T x y,ty,pos,after,gd⟩,[t])]) (mkS (ZaW d .un tm) ((t,some (g,.prow E kk els'))::ob) ng) K):GoL P ops draw i (⟨d,.store T x y,ty,pos,after,gd⟩::L) acc (mkS tm ob ng) K:=by{
obtain ⟨ti,ht,h1,h2⟩:=Zka (P:=P) (T:=T) (agg:=agg) (n:=n)
subst hs hps
refine Zc1 (Zpj hw rfl ht (by rw [ZR];exact hy) (by rw [h2];exact hl) (by rw [ZR];exact hx) hz hb he (by rw [h2];exact hf)) ?_
rw [ZaS]
exact k}
theorem ZjD {dd:Nat} [Sl P T E kk by_ z] (hw:Zf ops (mkS tm ob ng) ⟨some dd,.call ⟨.builtin .append,#[x,y],#[T,T]⟩,ty,pos,after,gd⟩=some true) (hx:evL tm x = .row t g) (hb:ZX (Zm ob) t g=some (.prow E kk els)) (hy:Zoe (Zm ob) (evL tm y)=some new)
  (h1:(els.length+new.length) * by_<=140737488355328) (h2:els.length+new.length<=9223372036854775807) (h3:∀ e ∈ new,e.length=kk)
  (k:GoL P ops draw (i+1) L (acc ++ [(ZA (mkS tm ob ng) ⟨some dd,.call ⟨.builtin .append,#[x,y],#[T,T]⟩,ty,pos,after,gd⟩,[t])]) (mkS ((dd,.row t (ng,i))::tm) ((t,some ((ng,i),.prow E kk (els++new)))::ob) ng) K) :
  GoL P ops draw i (⟨some dd,.call ⟨.builtin .append,#[x,y],#[T,T]⟩,ty,pos,after,gd⟩::L) acc (mkS tm ob ng) K:=by{
obtain ⟨s,b,zz,te,q1,q2,q3,q4,q5,q6,q7⟩:=ZbJ (P:=P) (T:=T) (E:=E) (k:=kk) (by_:=by_) (z:=z)
refine Zc1 (ZnG hw rfl q1 q2 (by rw [ZR];exact hx) hb (by rw [ZR];exact hy) q3.symm (by rw [q4];exact h1) h2 (by rw [q3];exact q6) (by rw [q5,q3];exact q7) (fun e he=>by rw [q3];exact h3 e he)) ?_
rw [ZaS]
exact k}
theorem Zs8 {w:Operand} {kd:IntKind} {n:Nat} {els':List (List PV)} [Sl P T E kk by_ z] (hw:Zf ops (mkS tm ob ng) ⟨d,.slice T x none (some w) none,ty,pos,after,gd⟩=some true) (hx:evL tm x = .row t g) (hb:ZX (Zm ob) t g=some (.prow E kk els)) (hy:evL tm w = .int kd (n:Int)) (hn:n<=els.length) (hs:els.take n=els')
  (k:GoL P ops draw (i+1) L (acc ++ [(ZA (mkS tm ob ng) ⟨d,.slice T x none (some w) none,ty,pos,after,gd⟩,[t])]) (mkS (ZaW d (.row t (ng,i)) tm) ((t,some ((ng,i),.prow E kk els'))::ob) ng) K):GoL P ops draw i (⟨d,.slice T x none (some w) none,ty,pos,after,gd⟩::L) acc (mkS tm ob ng) K:=by{
obtain ⟨s,b,zz,te,q1,q2,q3,_,_,_,_⟩:=ZbJ (P:=P) (T:=T) (E:=E) (k:=kk) (by_:=by_) (z:=z)
subst hs
refine Zc1 (Zpk hw rfl q1 q2 (by rw [ZR];exact hx) hb (by rw [ZR,hy];exact Zcn) hn) ?_
rw [ZaS]
exact k}
theorem ZiV {dd n:Nat} {parts:Array (Nat×Operand)} {cs:List PV} [Sl P T E kk by_ z] (hw:Zf ops (mkS tm ob ng) ⟨some dd,.buildSlice T n parts,ty,pos,after,gd⟩=some true) (hf:Zdw (fun i=>some (i * kk,kk)) (List.replicate n z).flatten (evs tm parts.toList)=some cs) (hz:cs.all PV.cell=true)
  (hl:cs.length=n * kk) (hm:n * kk<=16777216) {els':List (List PV)} (hs:chunks kk n cs=els')
  (k:GoL P ops draw (i+1) L (acc ++ [(ZA (mkS tm ob ng) ⟨some dd,.buildSlice T n parts,ty,pos,after,gd⟩,[dd])]) (mkS ((dd,.row dd (ng,i))::tm) ((dd,some ((ng,i),.prow E kk els'))::ob) ng) K):GoL P ops draw i (⟨some dd,.buildSlice T n parts,ty,pos,after,gd⟩::L) acc (mkS tm ob ng) K:=by{
obtain ⟨s,b,zz,te,q1,q2,q3,q4,q5,q6,_⟩:=ZbJ (P:=P) (T:=T) (E:=E) (k:=kk) (by_:=by_) (z:=z)
subst hs q3 q5
refine Zc1 (Zpl hw rfl rfl q1 q2 (by rw [ZR,Znf];exact hf) hz hl hm q6) ?_
rw [ZaS]
exact k}
end
end VL
end Go.Proofs.YtpffimahajgiaaaGreatDoor
namespace Go.Proofs.YtpffimahajgiaaaGreatDoor
namespace VL
open Go.RowKit
def Za6 (σ:Gen->Option (Nat×Gen)):List (Nat×Gen×VObj)->Option (List (Nat×Gen×VObj))
 | []=>some []
 | (_,g,o)::r=>match σ g,rnO σ o,Za6 σ r with
  | some (t2,g2),some o2,some r2=>some ((t2,g2,o2)::r2)
  | _,_,_=>none
theorem Zna {σ:Gen->Option (Nat×Gen)}:∀ {l l2:List (Nat×Gen×VObj)},Za6 σ l=some l2->∀ t2 g2 o2,(t2,g2,o2) ∈ l2->∃ t g o,(t,g,o) ∈ l/\σ g=some (t2,g2)/\rnO σ o=some o2
 | [],l2,h,t2,g2,o2,hm=>by
   injection h with h
   subst h
   cases hm
 | (t,g,o)::r,l2,h,t2,g2,o2,hm=>by
  simp only [Za6] at h
  split at h
  rename_i t3 g3 o3 r3 h1 h2 h3
  injection h with h
  subst h
  rcases List.mem_cons.1 hm with e | hm
  injection e with e1 e2
  injection e2 with e2 e3
  subst e1 e2 e3
  exact ⟨t,g,o,List.mem_cons_self ..,h1,h2⟩
  obtain ⟨t',g',o',q1,q2,q3⟩:=Zna h3 t2 g2 o2 hm
  exact ⟨t',g',o',List.mem_cons_of_mem _ q1,q2,q3⟩
  cases h
theorem ZaC {σ:Gen->Option (Nat×Gen)}:∀ {a b a2 b2:List (Nat×Gen×VObj)},Za6 σ a=some a2->Za6 σ b=some b2->Za6 σ (a++b)=some (a2++b2)
 | [],b,a2,b2,h,h'=>by injection h with h;subst h;exact h'
 | (t,g,o)::r,b,a2,b2,h,h'=>by
  simp only [Za6] at h
  split at h
  rename_i t3 g3 o3 r3 h1 h2 h3
  injection h with h
  subst h
  simp only [List.cons_append,Za6,h1,h2,ZaC h3 h']
  cases h
def ZpS (σ:Gen->Option (Nat×Gen)) (κ:Nat->Nat) (γ:Nat->Gen) (f:Nat->Option (Gen×VObj)):List (Nat×VObj)->Prop | []=>True | (t,o)::r=>(∃ o2,rnO σ o=some o2/\f (κ t)=some (γ t,o2))/\ZpS σ κ γ f r
theorem Zl0 {σ:Gen->Option (Nat×Gen)} {κ:Nat->Nat} {γ:Nat->Gen} {f:Nat->Option (Gen×VObj)}:∀ {l:List (Nat×VObj)},ZpS σ κ γ f l->∀ t o,(t,o) ∈ l->∃ o2,rnO σ o=some o2/\f (κ t)=some (γ t,o2)
 | [],_,t,o,hm=>by cases hm
 | (t',o')::r,h,t,o,hm=>by
  rcases List.mem_cons.1 hm with e | hm
  injection e with e1 e2
  subst e1 e2
  exact h.1
  exact Zl0 h.2 t o hm
theorem Zj8 {σ:Gen->Option (Nat×Gen)} {κ:Nat->Nat} {γ:Nat->Gen} {f:Nat->Option (Gen×VObj)}:∀ {a b:List (Nat×VObj)},ZpS σ κ γ f a->ZpS σ κ γ f b->ZpS σ κ γ f (a++b)
 | [],_,_,h=>h
 | _::_,_,h,h'=>⟨h.1,Zj8 h.2 h'⟩
theorem Znb {κ:Nat->Nat} {l:List (Nat×VObj)} (h:(l.map fun q=>κ q.1).Nodup) {t t':Nat} {o o':VObj} (h1:(t,o) ∈ l) (h2:(t',o') ∈ l) (hne:t≠t'):κ t≠κ t':=fun e=>by
 obtain ⟨i,hi⟩:=List.getElem?_of_mem h1
 obtain ⟨j,hj⟩:=List.getElem?_of_mem h2
 have hij:i≠j:=fun e=>by
  subst e
  rw [hi] at hj
  injection hj with hj
  injection hj with hj
  exact hne hj
 have a1:(l.map fun q=>κ q.1)[i]? = some (κ t):=by rw [List.getElem?_map,hi];rfl
 have a2:(l.map fun q=>κ q.1)[j]? = some (κ t):=by rw [List.getElem?_map,hj];show some (κ t')=_;rw [e]
 exact hij ((List.getElem?_inj (List.getElem?_eq_some_iff.1 a1).1 h).1 (a1.trans a2.symm))
theorem Zl1 {l:List (Nat×Gen×VObj)} (h:(l.map (·.1)).Nodup) {t:Nat} {g g':Gen} {o o':VObj} (h1:(t,g,o) ∈ l) (h2:(t,g',o') ∈ l):g=g':=by{
obtain ⟨i,hi⟩:=List.getElem?_of_mem h1
obtain ⟨j,hj⟩:=List.getElem?_of_mem h2
have a1:(l.map (·.1))[i]? = some t:=by rw [List.getElem?_map,hi];rfl
have a2:(l.map (·.1))[j]? = some t:=by rw [List.getElem?_map,hj];rfl
have e:=(List.getElem?_inj (List.getElem?_eq_some_iff.1 a1).1 h).1 (a1.trans a2.symm)
subst e
rw [hi] at hj
injection hj with hj
injection hj with _ hj
injection hj}
section
variable {P:Program} [WInv P] {ops:Array Oper} {o:Oper} {i:Nat} {s:FS}
theorem ZrO {f:FuncId} {es:Array Operand} {ts:Array TypeId} {args:List PV} {obs:List (Nat×VObj)} {res res2:PV} {obs' obs2:List (Nat×Gen×VObj)} {dom:Nat->Bool} {κ κ':Nat->Nat} {γ:Nat->Gen} (hw:Zf ops s o=some true) (ho:o.op = .call { callee:=.value (.func f),args:=es,argTypes:=ts })
  (he:rnA (σ0 κ γ) args=some (es.toList.map (ev s))) (hob:ZpS (σ0 κ γ) κ γ s.ob obs) (hinj:(obs.map fun q=>κ q.1).Nodup) (hdom:∀ k,dom k=true->∃ o,(k,o) ∈ obs) (hkey:∀ t o',(t,o') ∈ obs->κ t ∈ ZA s o) (hres:rnP (σ1 dom κ γ κ' s.ng i) res=some res2)
  (h2:Za6 (σ1 dom κ γ κ' s.ng i) obs'=some obs2) (h3:(obs'.map (·.1)).Nodup) (hc:ContractG P f args obs res obs'):OpR P ops i o s ⟨res2,usG κ obs obs2⟩:=.anyx hw fun s' r hA hI=>by
 obtain ⟨e1,_,_⟩:=Zd5 ho hA
 rw [hA.ng] at hres h2
 refine Zty ho (by rw [e1];exact he) (fun t o' hm=>?_) (fun t o t' o' h h' hne=>Znb hinj h h' hne) hdom hres (Zna h2) (fun t2 g2 o2 t2' g2' o2' t g o t' g' o' _ _ a1 a2 b1 b2 hne e=>?_) hc hI
 obtain ⟨o2,q1,q2⟩:=Zl0 hob t o' hm
 exact ⟨o2,q1,by rw [<- hA.ob _ (hkey t o' hm)];exact q2⟩
 subst e
 have:=Zl1 h3 a1 a2
 subst this
 rw [b1] at b2
 injection b2 with b2
 injection b2 with b2
 exact hne b2
end
section
variable {P:Program} [WInv P] {ops:Array Oper} {draw:Bool} {i:Nat} {L:List Oper} {acc:List (List Nat×List Nat)} {K:FS->Prop} {tm:List (Nat×PV)} {ob:List (Nat×Option (Gen×VObj))} {ng:Nat}
 {d:Option Tmp} {ty:TypeId} {pos:String} {after:Array Edge} {gd:Option (Nat×Bool)}
theorem Zn1 {f:FuncId} {es:Array Operand} {ts:Array TypeId} {args:List PV} {obs:List (Nat×VObj)} {res res2:PV} {obs' obs2:List (Nat×Gen×VObj)} {us:List (Nat×Option (Gen×VObj))} (dom:Nat->Bool) (κ:Nat->Nat) (γ:Nat->Gen) (κ':Nat->Nat) (hc:ContractG P f args obs res obs')
  (hw:Zf ops (mkS tm ob ng) ⟨d,.call ⟨.value (.func f),es,ts⟩,ty,pos,after,gd⟩=some true) (he:rnA (σ0 κ γ) args=some (es.toList.map (evL tm))) (hob:ZpS (σ0 κ γ) κ γ (Zm ob) obs) (hinj:(obs.map fun q=>κ q.1).Nodup) (hdom:∀ k,dom k=true->∃ o,(k,o) ∈ obs)
  (hkey:∀ t o',(t,o') ∈ obs->κ t ∈ ZA (mkS tm ob ng) ⟨d,.call ⟨.value (.func f),es,ts⟩,ty,pos,after,gd⟩) (hres:rnP (σ1 dom κ γ κ' ng i) res=some res2) (h2:Za6 (σ1 dom κ γ κ' ng i) obs'=some obs2) (h3:(obs'.map (·.1)).Nodup) (hus:usG κ obs obs2=us)
  (k:GoL P ops draw (i+1) L (acc ++ [(ZA (mkS tm ob ng) ⟨d,.call ⟨.value (.func f),es,ts⟩,ty,pos,after,gd⟩,us.map (·.1))]) (mkS (ZaW d res2 tm) (us.reverse++ob) ng) K):GoL P ops draw i (⟨d,.call ⟨.value (.func f),es,ts⟩,ty,pos,after,gd⟩::L) acc (mkS tm ob ng) K:=by{
subst hus
refine Zc1 (ZrO (dom:=dom) (κ:=κ) (κ':=κ') (γ:=γ) hw rfl (by rw [ZR];exact he) hob hinj hdom hkey hres h2 h3 hc) ?_
rw [ZaS]
exact k}
end
end VL
end Go.Proofs.YtpffimahajgiaaaGreatDoor
namespace Go.Proofs.YtpffimahajgiaaaGreatDoor
namespace VL
open Go.RowKit
def rnC (σ:Gen->Option (Nat×Gen)) (x:Ctx):Ctx:=⟨fun g'=>∃ k g,σ g'=some (k,g)/\x.G g,x.F,x.W,fun g'=>match σ g' with | some q=>x.ρ q.2 | none=>x.ρ g'⟩
theorem Zwn (σ:Gen->Option (Nat×Gen)) (x:Ctx):Bk σ x (rnC σ x):=
 ⟨fun g k g' h hG=>⟨⟨k,g',h,hG⟩,by simp only [rnC,h]⟩,fun _ _ h=>h,fun _ _ _ _ h=>h⟩
def Zf7 (σ:Gen->Option (Nat×Gen)) (tm:List (Nat×PV)):List (Nat×PV)->Prop | []=>True | (k,v)::r=>rnP σ v=some (look tm k)/\Zf7 σ tm r
def Zto (σ:Gen->Option (Nat×Gen)) (ob:List (Nat×Option (Gen×VObj))):List (Nat×Gen×VObj)->Prop | []=>True | (_,g',o')::r=>(∃ k g o,σ g'=some (k,g)/\rnO σ o'=some o/\Zm ob k=some (g,o))/\Zto σ ob r
def somes (l:List (Nat×Gen×VObj)):List (Nat×Option (Gen×VObj)):=l.map fun q=>(q.1,some q.2)
theorem Zfv {t:Nat} {g:Gen} {o:VObj}:∀ {l:List (Nat×Gen×VObj)},Zm (somes l) t=some (g,o)->(t,g,o) ∈ l
 | [],h=>by cases h
 | q::r,h=>by
   change (if t=q.1 then some q.2 else Zm (somes r) t)=some (g,o) at h
   split at h
   rename_i e
   injection h with h
   subst e
   have:q=(q.1,g,o):=by rw [<- h]
   exact this ▸ List.mem_cons_self ..
   exact List.mem_cons_of_mem _ (Zfv h)
theorem Zhv {σ:Gen->Option (Nat×Gen)} {ob:List (Nat×Option (Gen×VObj))}:∀ {l:List (Nat×Gen×VObj)},Zto σ ob l->∀ t g' o',(t,g',o') ∈ l->∃ k g o,σ g'=some (k,g)/\rnO σ o'=some o/\Zm ob k=some (g,o)
 | [],_,_,_,_,hm=>by cases hm
 | (t',g2,o2)::r,h,t,g',o',hm=>by
  rcases List.mem_cons.1 hm with e | hm
  injection e with e1 e2
  injection e2 with e2 e3
  subst e1 e2 e3
  exact h.1
  exact Zhv h.2 t g' o' hm
theorem ZlI {α β:Type} {f:α->β} {l:List α} (h:(l.map f).Nodup) {a b:α} (ha:a ∈ l) (hb:b ∈ l) (e:f a=f b):a=b:=by{
obtain ⟨i,hi⟩:=List.getElem?_of_mem ha
obtain ⟨j,hj⟩:=List.getElem?_of_mem hb
have a1:(l.map f)[i]? = some (f a):=by rw [List.getElem?_map,hi];rfl
have a2:(l.map f)[j]? = some (f a):=by rw [List.getElem?_map,hj,e];rfl
have:=(List.getElem?_inj (List.getElem?_eq_some_iff.1 a1).1 h).1 (a1.trans a2.symm)
subst this
rw [hi] at hj
injection hj}
theorem Ztp (σ:Gen->Option (Nat×Gen)) {tm tm':List (Nat×PV)} {ob:List (Nat×Option (Gen×VObj))} {l:List (Nat×Gen×VObj)} {ng ng':Nat} (h0:∀ g:Gen,g.1=0->∃ k,σ g=some (k,g)) (h1:Zf7 σ tm tm') (h2:Zto σ ob l) (h3:∀ g k g0,σ g=some (k,g0)->g.1<ng')
  (h4:(l.map fun q=>(σ q.2.1).map (·.1)).Nodup):Shift (mkS tm ob ng) (mkS tm' (somes l) ng'):=fun r a x h=>by
 have bk:=Zwn σ x
 have k1:∀ (l:List (Nat×PV)),Zf7 σ tm l->∀ t,look l t = .un\/rnP σ (look l t)=some (look tm t):=fun l=>by
  induction l with
  | nil=>intro _ t;exact .inl rfl
  | cons q l ih=>
    obtain ⟨k,v⟩:=q
    intro hl t
    show (if t=k then v else look l t)=_\/rnP σ (if t=k then v else look l t)=_
    split
    rename_i e;subst e;exact .inr hl.1
    exact ih hl.2 t
 have hr:∀ g' k g,σ g'=some (k,g)->(rnC σ x).ρ g'=x.ρ g:=fun g' k g e=>by simp only [rnC,e]
 refine ⟨rnC σ x,rfl,h.defers,h.size,h.gr,fun g' hg'=>.inl ?_,fun t=>?_,fun t g' o' ho=>?_,fun t t' g g' o o' b hne e1 e2 hb=>?_,h.flt,h.f0,h.fnew,fun g hg=>?_,h.inv,h.keep⟩
 obtain ⟨k,g,e,_⟩:=hg'
 exact h3 g' k g e
 rcases k1 tm' h1 t with e | e
 show Rep _ (look tm' t) _
 rw [e];exact .un _
 exact Zt1 bk e (h.tm t)
 obtain ⟨k,g,o,e1,e2,e3⟩:=Zhv h2 t g' o' (Zfv ho)
 obtain ⟨q1,q2⟩:=h.ob k g o e3
 exact ⟨⟨k,g,e1,q1⟩,Zt2 bk e2 (hr g' k g e1) (fun _ _ h=>h) rfl (fun b hb=>(q2.lt b hb).2) q2⟩
 have m1:=Zfv e1
 have m2:=Zfv e2
 obtain ⟨k1,g1,o1,a1,a2,a3⟩:=Zhv h2 t g o m1
 obtain ⟨k2,g2,o2,c1,c2,c3⟩:=Zhv h2 t' g' o' m2
 rw [hr g k1 g1 a1] at hb
 rw [hr g' k2 g2 c1]
 refine h.apart k1 k2 g1 g2 o1 o2 b (fun e=>hne ?_) a3 c3 hb
 have:=ZlI h4 m1 m2 (by simp only [a1,c1,Option.map_some,e])
 injection this
 obtain ⟨k,e⟩:=h0 g (h.inv.2 g hg)
 exact ⟨⟨k,g,e,(h.rho g hg).1⟩,(hr g k g e).trans (h.rho g hg).2⟩
end VL
end Go.Proofs.YtpffimahajgiaaaGreatDoor
namespace Go.Proofs.YtpffimahajgiaaaGreatDoor
structure Node where
 kind:Int
 tag:Int
 text:ByteArray
 kids:List (List VL.PV)
 args:List (List VL.PV)
structure Arg where
 named:Bool
 name:List (List VL.PV)
 value:List (List VL.PV)
open VL in
def Node.cs (x:Node):List PV:=[.int .i64 x.kind,.int .i64 x.tag,.str x.text,.sl x.kids,.sl x.args]
open VL in
def Arg.cs (x:Arg):List PV:=[.bool x.named,.sl x.name,.sl x.value]
namespace VL
open Go.RowKit
structure El where
 kind:Int
 tag:Int
 count:Int
 list:List (List PV)
 args:Option (List Arg×Arg)
section
variable (NT AT ET:Nat)
def ZgB (b:Nat) (ν:Nat->Gen):Option (List Arg×Arg)->List (List PV) | none=>[] | some (pre,a)=>pre.map Arg.cs ++ [[.bool a.named,.sl a.name,.row (b+3) (ν (b+3))]]
def Zmx (b:Nat) (ν:Nat->Gen):Option (List Arg×Arg)->List (Nat×Gen×VObj) | none=>[] | some (_,a)=>[(b+3,ν (b+3),.row NT 5 false a.value)]
def elO (b:Nat) (ν:Nat->Gen) (e:El):List (Nat×Gen×VObj):=(b,ν b,.box [.int .i64 e.kind,.int .i64 e.tag,.int .i64 e.count,.row (b+1) (ν (b+1)),.row (b+2) (ν (b+2))]) :: (b+1,ν (b+1),.row NT 5 false e.list)::(b+2,ν (b+2),.prow AT 3 (ZgB b ν e.args))::Zmx NT b ν e.args
def Zbm (r:List El):Nat:=2000+10 * r.length
def ZfC (ν:Nat->Gen):List El->List (Nat×Gen×VObj) | []=>[] | e::r=>elO NT AT (Zbm r) ν e++ZfC ν r
def ZdV (ν:Nat->Gen):List El->List (List PV) | []=>[] | _::r=>ZdV ν r ++ [[.ptr (Zbm r) (ν (Zbm r)) 0]]
def stO (ν:Nat->Gen) (e:El) (r:List El):List (Nat×Gen×VObj):=(0,ν 0,.box [.row 1000 (ν 1000)])::(1000,ν 1000,.prow ET 1 (ZdV ν r ++ [[.ptr 1001 (ν 1001) 0]]))::(elO NT AT 1001 ν e++ZfC NT AT ν r)
end
section
variable {NT AT ET:Nat} {σ:Gen->Option (Nat×Gen)}
theorem ZaY:∀ {a b a2 b2:List (List PV)},ZfE σ a=some a2->ZfE σ b=some b2->ZfE σ (a++b)=some (a2++b2)
 | [],b,a2,b2,h,h'=>by injection h with h;subst h;exact h'
 | e::r,b,a2,b2,h,h'=>by
   simp only [ZfE] at h
   split at h
   rename_i q qs h1 h2
   injection h with h
   subst h
   simp only [List.cons_append,ZfE,h1,ZaY h2 h']
   cases h
theorem Zjv:∀ (l:List Arg),ZfE σ (l.map Arg.cs)=some (l.map Arg.cs)
 | []=>rfl
 | a::l=>by
   show (match rnL σ a.cs,ZfE σ (l.map Arg.cs) with | some q,some qs=>some (q::qs) | _,_=>none)=_
   rw [Zjv l]
   rfl
theorem Zhm {b b':Nat} {ν ν':Nat->Gen} (h:∀ j,j<4->σ (ν (b+j))=some (b'+j,ν' (b'+j))) (e:El):Za6 σ (elO NT AT b ν e)=some (elO NT AT b' ν' e):=by{
have h0:=h 0 (by omega)
have h1:=h 1 (by omega)
have h2:=h 2 (by omega)
have h3:=h 3 (by omega)
rw [Nat.add_zero,Nat.add_zero] at h0
obtain ⟨k,t,c,l,args⟩:=e
cases args with
| none=>
  simp only [elO,Zmx,ZgB,Za6,rnO,rnL,rn1,h0,h1,h2,Option.map_some,ZfE]
| some q=>
  obtain ⟨pre,a⟩:=q
  have:ZfE σ (pre.map Arg.cs ++ [[.bool a.named,.sl a.name,.row (b+3) (ν (b+3))]])=some (pre.map Arg.cs ++ [[.bool a.named,.sl a.name,.row (b'+3) (ν' (b'+3))]]):=
   ZaY (Zjv pre) (by simp only [ZfE,rnL,rn1,h3,Option.map_some])
  simp only [elO,Zmx,ZgB,Za6,rnO,rnL,rn1,h0,h1,h2,h3,Option.map_some,this]}
theorem ZhU {ν ν':Nat->Gen} (h:∀ k,2000<=k->σ (ν k)=some (k,ν' k)):∀ (r:List El),Za6 σ (ZfC NT AT ν r)=some (ZfC NT AT ν' r)
 | []=>rfl
 | e::r=>ZaC (Zhm (fun j _=>h _ (by unfold Zbm;omega)) e) (ZhU h r)
theorem ZhV {ν ν':Nat->Gen} (h:∀ k,2000<=k->σ (ν k)=some (k,ν' k)):∀ (r:List El),ZfE σ (ZdV ν r)=some (ZdV ν' r)
 | []=>rfl
 | e::r=>ZaY (ZhV h r) (by simp only [ZfE,rnL,rn1,h (Zbm r) (by unfold Zbm;omega),Option.map_some])
theorem ZkN {ν ν':Nat->Gen} (h:∀ k,k=0\/1000<=k->σ (ν k)=some (k,ν' k)) (e:El) (r:List El):Za6 σ (stO NT AT ET ν e r)=some (stO NT AT ET ν' e r):=by{
have h0:=h 0 (.inl rfl)
have h1:=h 1000 (.inr (by omega))
have h2:=h 1001 (.inr (by omega))
have hp:ZfE σ (ZdV ν r ++ [[.ptr 1001 (ν 1001) 0]])=some (ZdV ν' r ++ [[.ptr 1001 (ν' 1001) 0]]):=ZaY (ZhV (fun k hk=>h k (.inr (by omega))) r) (by simp only [ZfE,rnL,rn1,h2,Option.map_some])
have he:=ZaC (Zhm (NT:=NT) (AT:=AT) (b:=1001) (b':=1001) (fun j _=>h _ (.inr (by omega))) e) (ZhU (NT:=NT) (AT:=AT) (fun k hk=>h k (.inr (by omega))) r)
simp only [stO,Za6,rnO,rnL,rn1,h0,h1,Option.map_some,hp,he]}
def Zbn (k:Nat):Bool:=k == 0||decide (1000<=k)
theorem Zdr {b:Nat} {ν:Nat->Gen} {e:El} {q:Nat×Gen×VObj} (h:q ∈ elO NT AT b ν e):b<=q.1/\q.1<b+4/\q.2.1=ν q.1:=by{
unfold elO at h
rcases List.mem_cons.1 h with rfl | h
exact ⟨Nat.le_refl _,by show b<_;omega,rfl⟩
rcases List.mem_cons.1 h with rfl | h
exact ⟨by show b<=_;omega,by show b+1<_;omega,rfl⟩
rcases List.mem_cons.1 h with rfl | h
exact ⟨by show b<=_;omega,by show b+2<_;omega,rfl⟩
unfold Zmx at h
split at h
cases h
obtain rfl:=List.mem_singleton.1 h
exact ⟨by show b<=_;omega,by show b+3<_;omega,rfl⟩}
theorem Zek (b:Nat) (ν:Nat->Gen) (e:El):((elO NT AT b ν e).map (·.1)).Nodup:=by
 obtain ⟨k,t,c,l,args⟩:=e
 cases args<;>simp [elO,Zmx]
theorem ZcM {ν:Nat->Gen} {q:Nat×Gen×VObj}:∀ {r:List El},q ∈ ZfC NT AT ν r->2000<=q.1/\q.1<Zbm r/\q.2.1=ν q.1
 | [],h=>by cases h
 | e::r,h=>by
   have hb:Zbm (e::r)=Zbm r+10:=by unfold Zbm;rw [List.length_cons];omega
   rw [hb]
   rcases List.mem_append.1 h with h | h
   obtain ⟨h1,h2,h3⟩:=Zdr h
   exact ⟨by have:2000<=Zbm r:=by unfold Zbm;omega
             omega,by omega,h3⟩
   obtain ⟨h1,h2,h3⟩:=ZcM h
   exact ⟨h1,by omega,h3⟩
theorem Ze2 {α:Type} {a b:List α} (h1:a.Nodup) (h2:b.Nodup) (h:∀ x ∈ a,x ∉ b):(a++b).Nodup:=by
 rw [List.nodup_append]
 exact ⟨h1,h2,fun x hx y hy e=>h x hx (e ▸ hy)⟩
theorem Zgl (ν:Nat->Gen):∀ (r:List El),((ZfC NT AT ν r).map (·.1)).Nodup
 | []=>List.nodup_nil
 | e::r=>by
   unfold ZfC
   rw [List.map_append]
   refine Ze2 (Zek _ ν e) (Zgl ν r) fun k hk hk'=>?_
   obtain ⟨q,hq,rfl⟩:=List.mem_map.1 hk
   obtain ⟨q',hq',e'⟩:=List.mem_map.1 hk'
   have:=(Zdr hq).1
   have:=(ZcM hq').2.1
   omega
theorem ZdW {ν:Nat->Gen} {e:El} {r:List El} {q:Nat×Gen×VObj} (h:q ∈ stO NT AT ET ν e r):(q.1=0\/1000<=q.1/\q.1<1005\/2000<=q.1)/\q.2.1=ν q.1:=by{
unfold stO at h
rcases List.mem_cons.1 h with rfl | h
exact ⟨.inl rfl,rfl⟩
rcases List.mem_cons.1 h with rfl | h
exact ⟨.inr (.inl ⟨Nat.le_refl _,by show 1000<_;omega⟩),rfl⟩
rcases List.mem_append.1 h with h | h
obtain ⟨h1,h2,h3⟩:=Zdr h
exact ⟨.inr (.inl ⟨by omega,by omega⟩),h3⟩
obtain ⟨h1,h2,h3⟩:=ZcM h
exact ⟨.inr (.inr h1),h3⟩}
theorem ZaV (ν:Nat->Gen) (e:El) (r:List El):((stO NT AT ET ν e r).map (·.1)).Nodup:=by{
unfold stO
rw [List.map_cons,List.map_cons,List.map_append,List.nodup_cons,List.nodup_cons]
have hel:∀ k ∈ (elO NT AT 1001 ν e).map (·.1),1001<=k/\k<1005:=fun k hk=>by
 obtain ⟨q,hq,rfl⟩:=List.mem_map.1 hk
 exact ⟨(Zdr hq).1,(Zdr hq).2.1⟩
have hlo:∀ k ∈ (ZfC NT AT ν r).map (·.1),2000<=k:=fun k hk=>by
 obtain ⟨q,hq,rfl⟩:=List.mem_map.1 hk
 exact (ZcM hq).1
refine ⟨fun h=>?_,fun h=>?_,Ze2 (Zek _ ν e) (Zgl ν r) fun k hk hk'=>?_⟩
rcases List.mem_cons.1 h with h | h
cases h
rcases List.mem_append.1 h with h | h
have:=hel _ h;omega
have:=hlo _ h;omega
rcases List.mem_append.1 h with h | h
have:=hel _ h;omega
have:=hlo _ h;omega
have:=hel _ hk
have:=hlo _ hk'
omega}
theorem Zca (a b:List (Nat×Option (Gen×VObj))) (t:Nat) (h:∀ q ∈ a,q.1≠t):Zm (a++b) t=Zm b t:=by{
induction a with
| nil=>rfl
| cons q a ih=>
  show (if t=q.1 then q.2 else Zm (a++b) t)=_
  rw [if_neg fun e=>h q (List.mem_cons_self ..) e.symm]
  exact ih fun q' hq'=>h q' (List.mem_cons_of_mem _ hq')}
theorem ZbR:∀ {l:List (Nat×Gen×VObj)} (b:List (Nat×Option (Gen×VObj))),(l.map (·.1)).Nodup->∀ {t:Nat} {g:Gen} {o:VObj},(t,g,o) ∈ l->Zm (somes l++b) t=some (g,o)
 | [],_,_,_,_,_,h=>by cases h
 | q::l,b,hn,t,g,o,h=>by
   rw [List.map_cons,List.nodup_cons] at hn
   show (if t=q.1 then some q.2 else Zm (somes l++b) t)=_
   rcases List.mem_cons.1 h with e | h
   subst e
   exact if_pos rfl
   rw [if_neg fun e=>hn.1 (by rw [<- e];exact List.mem_map.2 ⟨_,h,rfl⟩)]
   exact ZbR b hn.2 h
theorem Zgm {l:List (Nat×Gen×VObj)} {q:Nat×Option (Gen×VObj)} (h:q ∈ somes l):∃ g o,(q.1,g,o) ∈ l/\q.2=some (g,o):=by
 obtain ⟨⟨t,g,o⟩,h1,rfl⟩:=List.mem_map.1 h
 exact ⟨g,o,h1,rfl⟩
def Has (ob:List (Nat×Option (Gen×VObj))) (l:List (Nat×Gen×VObj)):Prop:=∀ t g o,(t,g,o) ∈ l->Zm ob t=some (g,o)
theorem Zbg {lits:List (Nat×Option (Gen×VObj))} {ν:Nat->Gen} {e:El} {r:List El} (h:(lits.all fun q=>!Zbn q.1)=true):Has (lits++somes (stO NT AT ET ν e r)) (stO NT AT ET ν e r):=fun t g o hm=>by
 have hk:=(ZdW hm).1
 rw [Zca _ _ t fun q hq hqt=>?_]
 have:=ZbR [] (ZaV ν e r) hm
 rwa [List.append_nil] at this
 have:=List.all_eq_true.1 h q hq
 rw [hqt] at this
 unfold Zbn at this
 simp only [Bool.not_eq_true',Bool.or_eq_false_iff,beq_eq_false_iff_ne,decide_eq_false_iff_not] at this
 change t=0\/1000<=t/\t<1005\/2000<=t at hk
 omega
end
end VL
end Go.Proofs.YtpffimahajgiaaaGreatDoor
namespace Go.Proofs.YtpffimahajgiaaaGreatDoor
open VL
def ZoL:List PV->Option Node | [.int .i64 k,.int .i64 t,.str s,.sl a,.sl b]=>some ⟨k,t,s,a,b⟩ | _=>none
theorem Zrs {e:List PV} {n:Node} (h:ZoL e=some n):e=n.cs:=by{
unfold ZoL at h
split at h
injection h with h
subst h
rfl
cases h}
def Ztu:List PV->Option Arg | [.bool b,.sl n,.sl v]=>some ⟨b,n,v⟩ | _=>none
theorem Ztv {e:List PV} {n:Arg} (h:Ztu e=some n):e=n.cs:=by{
unfold Ztu at h
split at h
injection h with h
subst h
rfl
cases h}
def rdL {α:Type} (f:List PV->Option α):List (List PV)->Option (List α)
 | []=>some []
 | e::es=>match f e,rdL f es with
   | some x,some xs=>some (x::xs)
   | _,_=>none
theorem Zrt {α:Type} {f:List PV->Option α} {cs:α->List PV} (hf:∀ e x,f e=some x->e=cs x):∀ {l:List (List PV)} {xs:List α},rdL f l=some xs->l=xs.map cs
 | [],xs,h=>by injection h with h;subst h;rfl
 | e::es,xs,h=>by
   simp only [rdL] at h
   split at h
   rename_i x ys h1 h2
   injection h with h
   subst h
   rw [List.map_cons,<- hf e x h1,<- Zrt hf h2]
   cases h
def Zbq (l:List (List PV)):Option (List Node):=rdL ZoL l
theorem Zd7 {l:List (List PV)} {xs:List Node} (h:Zbq l=some xs):l=xs.map Node.cs:=Zrt (fun _ _ h=>Zrs h) h
def Zm3 (l:List (List PV)):Option (List Arg):=rdL Ztu l
theorem Zru {l:List (List PV)} {xs:List Arg} (h:Zm3 l=some xs):l=xs.map Arg.cs:=Zrt (fun _ _ h=>Ztv h) h
theorem ZnT {α:Type} {f:List PV->Option α} {cs:α->List PV} (hf:∀ x,f (cs x)=some x):∀ (xs:List α),rdL f (xs.map cs)=some xs
 | []=>rfl
 | x::xs=>by simp only [List.map_cons,rdL,hf x,ZnT hf xs]
theorem Zdl (xs:List Node):Zbq (xs.map Node.cs)=some xs:=ZnT (f:=ZoL) (cs:=Node.cs) (fun _=>rfl) xs
theorem Zpy (xs:List Arg):Zm3 (xs.map Arg.cs)=some xs:=ZnT (f:=Ztu) (cs:=Arg.cs) (fun _=>rfl) xs
namespace VL
theorem ZvD {P:Program} [WInv P] {ops:Array Oper} {draw:Bool} {i:Nat} {L:List Oper} {acc:List (List Nat×List Nat)} {K:FS->Prop} {tm:List (Nat×PV)} {ob:List (Nat×Option (Gen×VObj))} {ng:Nat} (t:Nat) {l l':List (List PV)} (h:l=l') (hx:look tm t = .sl l) (k:GoL P ops draw i L acc (mkS ((t,.sl l')::tm) ob ng) K):GoL P ops draw i L acc (mkS tm ob ng) K:=by{
have e:mkS ((t,.sl l')::tm) ob ng=mkS tm ob ng:=by
 unfold mkS
 congr 1
 funext t'
 show (if t'=t then PV.sl l' else look tm t')=look tm t'
 split
 rename_i e
 rw [e,hx,h]
 rfl
rwa [e] at k}
end VL
end Go.Proofs.YtpffimahajgiaaaGreatDoor
namespace Go.Proofs.YtpffimahajgiaaaGreatDoor
namespace VL
open Go.RowKit Go.ChangeMaps
def Ze8 {α β:Type} [DecidableEq α]:List (α×β)->α->Option β | [],_=>none | (k,b)::r,a=>if a=k then some b else Ze8 r a
def Ze9 {α β:Type} [DecidableEq α]:List (α×β)->α->β->List (α×β) | [],a,b=>[(a,b)] | (k,c)::r,a,b=>if a=k then (a,b)::r else (k,c)::Ze9 r a b
theorem ZkV {α β:Type} [DecidableEq α] {a:α} {b:β}:∀ {M:List (α×β)},a ∉ M.map (·.1)->Ze9 M a b=M ++ [(a,b)]
 | [],_=>rfl
 | (k,c)::r,h=>by
  simp only [List.map_cons,List.mem_cons,not_or] at h
  simp only [Ze9,if_neg h.1,ZkV h.2,List.cons_append]
theorem ZkW {α β:Type} [DecidableEq α] {a:α} {b:β}:∀ {M:List (α×β)} {j:Nat},(M.map (·.1))[j]? = some a->a ∉ (M.map (·.1)).take j->Ze9 M a b=M.set j (a,b)
 | [],j,h,_=>by simp at h
 | (k,c)::r,0,h,_=>by
  simp only [List.map_cons,List.getElem?_cons_zero,Option.some.injEq] at h
  simp only [Ze9,if_pos h.symm,List.set_cons_zero]
 | (k,c)::r,j+1,h,h'=>by
  simp only [List.map_cons,List.getElem?_cons_succ,List.take_succ_cons,List.mem_cons,not_or] at h h'
  simp only [Ze9,if_neg h'.1,ZkW h h'.2,List.set_cons_succ]
theorem ZkX {α β:Type} [DecidableEq α] {a:α}:∀ {M:List (α×β)},a ∉ M.map (·.1)->Ze8 M a=none
 | [],_=>rfl
 | (k,c)::r,h=>by
  simp only [List.map_cons,List.mem_cons,not_or] at h
  simp only [Ze8,if_neg h.1,ZkX h.2]
theorem ZkY {α β:Type} [DecidableEq α] {a:α}:∀ {M:List (α×β)} {j:Nat},(M.map (·.1))[j]? = some a->a ∉ (M.map (·.1)).take j->Ze8 M a=(M[j]?).map (·.2)
 | [],j,h,_=>by simp at h
 | (k,c)::r,0,h,_=>by
  simp only [List.map_cons,List.getElem?_cons_zero,Option.some.injEq] at h
  simp only [Ze8,if_pos h.symm,List.getElem?_cons_zero,Option.map_some]
 | (k,c)::r,j+1,h,h'=>by
  simp only [List.map_cons,List.getElem?_cons_succ,List.take_succ_cons,List.mem_cons,not_or] at h h'
  simp only [Ze8,if_neg h'.1,ZkY h h'.2,List.getElem?_cons_succ]
class KeyE (P:Program) (K:TypeId) {α:Type} [DecidableEq α] (f:α->PV) (val:outParam (α->List Value)):Prop where
 desc:∃ fs,P.underlying K=some (.struct fs)
 plain:∀ a,VL.plain (f a)=some (.agg (val a).toArray)
 eq:∀ a b W,(Op.equal K (.agg (val a).toArray) (.agg (val b).toArray)).run P W = .ok (decide (a=b)) W
 check:∀ em a W,(Instr.checkKey em 10000 K (.agg (val a).toArray)).run P W = .ok () W
 stays:∀ a,Instr.sameBits 10000 (.agg (val a).toArray) (.agg (val a).toArray)=true
class ElE {β:Type} (h:β->PV) (val:outParam (β->Value)):Prop where
 plain:∀ b,VL.plain (h b)=some (val b)
 back:∀ b,Zc6 (val b)=h b
section
variable {P:Program} {K:TypeId} {α:Type} [DecidableEq α] {f:α->PV} {val:α->List Value}
theorem ZoB (H:KeyE P K f val):∀ (ks:List α) (es:List MapEntry),es.map (·.key)=ks.map (fun a=>.agg (val a).toArray)->∀ (a:α) (i:Nat) (W:World),
  ((Instr.findAsking K (.agg (val a).toArray) es i).run P W = .ok none W/\a ∉ ks)\/
    ∃ j e,(Instr.findAsking K (.agg (val a).toArray) es i).run P W = .ok (some (i+j,e.val)) W/\es[j]? = some e/\ks[j]? = some a/\a ∉ ks.take j
 | [],[],_,a,i,W=>.inl ⟨rfl,by simp⟩
 | [],e::es,h,_,_,_=>by simp at h
 | k::ks,[],h,_,_,_=>by simp at h
 | k::ks,e::es,h,a,i,W=>by
   simp only [List.map_cons,List.cons.injEq] at h
   have he:=H.eq a k W
   unfold Instr.findAsking
   rw [h.1,Sem.run_bind,he]
   by_cases hk:a=k
   refine .inr ⟨0,e,?_,rfl,by rw [hk];rfl,by simp⟩
   simp [hk]
   rcases ZoB H ks es h.2 a (i+1) W with ⟨h1,h2⟩ | ⟨j,e',h1,h2,h3,h4⟩
   refine .inl ⟨?_,by simp [hk,h2]⟩
   simp [hk,h1]
   refine .inr ⟨j+1,e',?_,h2,h3,by simp [hk,h4]⟩
   simp [hk,h1]
   omega
theorem ZoC (H:KeyE P K f val) (ks:List α) (es:List MapEntry) (h:es.map (·.key)=ks.map (fun a=>.agg (val a).toArray)) (a:α) (W:World) :
  ((Instr.findKey K (.agg (val a).toArray) es).run P W = .ok none W/\a ∉ ks)\/
    ∃ j e,(Instr.findKey K (.agg (val a).toArray) es).run P W = .ok (some (j,e.val)) W/\es[j]? = some e/\ks[j]? = some a/\a ∉ ks.take j:=by{
obtain ⟨fs,hd⟩:=H.desc
have key:(Instr.findKey K (.agg (val a).toArray) es).run P W=(Instr.findAsking K (.agg (val a).toArray) es 0).run P W:=by
 unfold Instr.findKey
 rw [Sem.run_bind,run_underlying hd,Result.andThen_ok]
 cases es with
 | nil=>rfl
 | cons e es=>rfl
rw [key]
rcases ZoB H ks es h a 0 W with h1 | ⟨j,e,h1,h2⟩
exact .inl h1
exact .inr ⟨j,e,by rw [h1,Nat.zero_add],h2⟩}
end
def mpI (P:Program) (T:TypeId):Option (TypeId×Value):=match P.underlying T with
 | some (.map K E)=>match P.info? E with
   | some i=>i.zero.map fun z=>(K,z)
   | none=>none
 | _=>none
theorem ZoD {P:Program} {T K:TypeId} {z:Value} (h:mpI P T=some (K,z)):∃ E i,P.underlying T=some (.map K E)/\P.info? E=some i/\i.zero=some z:=by{
unfold mpI at h
split at h
rename_i K' E h1
split at h
rename_i i h2
rw [Option.map_eq_some_iff] at h
obtain ⟨z',h3,h4⟩:=h
cases h4
exact ⟨E,i,h1,h2,h3⟩
cases h
cases h}
section
variable {P:Program} {r:Run} {o:Oper} {i:Nat} {s:FS}
theorem Zpm {T d:Nat} (ho:o.op = .makeMap T none):OpOK P r o i s ⟨.mp d (s.ng,i),[(d,some ((s.ng,i),.mp []))]⟩:=by{
intro S a x Q hX hi hd
have hold:∀ b,b<x.W.heap.size->(x.W.alloc (.map #[] 0)).heap[b]? = x.W.heap[b]?:=fun b hb=>heap_alloc_old x.W _ hb
obtain ⟨y,hy1,hy2⟩:=hX.newObj hi hd (d:=o.dst) (t:=d) (v0:=.map (some x.W.heap.size)) (v:=.map (some x.W.heap.size)) (val:=.mp d (s.ng,i)) (o:=.mp []) (W':=x.W.alloc (.map #[] 0)) rfl rfl rfl (by simp) (fun b hb _=>hold b hb) (fun b o v hF hv=>by
  rw [World.cell?_of_block (hold b (hX.flt b o hF))];exact hv) (fun b hb=>.inl (by
  have:x.W.heap.size=b:=by simpa [blk] using hb
  omega)) (fun y k hF hW hρ=>⟨x.W.heap.size,#[],0,hρ,by rw [hW];exact heap_alloc_new x.W _,rfl,MapKept.stamped_empty 0,.inl hX.gr.size,fun o ho=>by
  rw [hF] at ho
  exact absurd (hX.flt _ _ ho) (Nat.lt_irrefl _)⟩) (fun y k hW hG hρ=>.mp d (s.ng,i) _ hG hρ)
refine ZQ (v:=.map (some x.W.heap.size)) (W':=x.W.alloc (.map #[] 0)) ?_ ⟨y,hy1,hy2⟩
unfold execOp
rw [ho]
rfl}
variable {T K E t:Nat} {g:Gen} {α β:Type} [DecidableEq α] {f:α->PV} {val:α->List Value} {h:β->PV} {hv:β->Value} {M:List (α×β)} {e e' e2:Operand} {a0:α} {b0:β}
theorem ZoE (H:KeyE P K f val) (H2:ElE h hv) {S:Nat->Prop} {a:Act} {x:Ctx} (hX:RstX r S s a x) (he:ev s e = .mp t g) (hob:ZX s.ob t g=some (.mp (M.map fun q=>(f q.1,h q.2)))) :
  ∃ b es clock,a.eval e = .map (some b)/\x.ρ g = .map (some b)/\x.G g/\x.W.heap[b]? = some (.map es clock)/\es.toList.map (·.key)=(M.map (·.1)).map (fun a=>.agg (val a).toArray)/\es.toList.map (·.val)=M.map (fun q=>hv q.2)/\MapKept.Stamped es clock/\(r.W0.heap.size<=b\/r.D b)/\∀ o,¬ x.F b o:=by{
have hr:=ZV hX e
obtain ⟨hg,b,es,clock,h1,h2,h3,h4,h5,h6⟩:=hX.ob t g _ (ZT hob)
rw [he] at hr
generalize a.eval e=v at hr
cases hr with
| mp _ _ b' hG hρ=>
  rw [h1] at hρ
  injection hρ with hρ
  injection hρ with hρ
  subst hρ
  have e0:es.toList.map (fun e=>(some e.key,some e.val))=M.map fun q=>(some (.agg (val q.1).toArray),some (hv q.2)):=by
   rw [<- h3,List.map_map]
   refine List.map_congr_left fun q _=>?_
   simp only [Function.comp,H.plain,H2.plain]
  refine ⟨b,es,clock,rfl,h1,hg,h2,?_,?_,h4,h5,h6⟩
  have:=congrArg (List.map fun q:Option Value×Option Value=>q.1.getD undef) e0
  simpa [List.map_map,Function.comp_def] using this
  have:=congrArg (List.map fun q:Option Value×Option Value=>q.2.getD undef) e0
  simpa [List.map_map,Function.comp_def] using this}
theorem ZqV (H:KeyE P K f val) (H2:ElE h hv) (ho:o.op = .mapUpdate T e e' e2) (ht:P.underlying T=some (.map K E)) (he:ev s e = .mp t g) (hob:ZX s.ob t g=some (.mp (M.map fun q=>(f q.1,h q.2)))) (he':ev s e'=f a0) (he2:ev s e2=h b0) :
  OpOK P r o i s ⟨.un,[(t,some (g,.mp ((Ze9 M a0 b0).map fun q=>(f q.1,h q.2))))]⟩:=by{
intro S a x Q hX hi hd
obtain ⟨b,es,clock,hev,hρ,hg,hh,hk,hvs,hst,hB,hF⟩:=ZoE H H2 hX he hob
have v1:a.eval e' = .agg (val a0).toArray:=ZfO (H.plain a0) (by rw [<- he'];exact ZV hX e')
have v2:a.eval e2=hv b0:=ZfO (H2.plain b0) (by rw [<- he2];exact ZV hX e2)
have hob2:=ZT hob
have hlen:es.toList.length=M.length:=by have:=congrArg List.length hvs;simpa using this
have fin:∀ (es':Array MapEntry) (clock':Nat),(Instr.mapUpdate T (.map (some b)) (.agg (val a0).toArray) (hv b0)).run P x.W = .ok () (setBlock x.W b (.map es' clock'))->MapKept.Stamped es' clock'->
  ((Ze9 M a0 b0).map fun q=>(f q.1,h q.2)).map (fun e=>(plain e.1,plain e.2))=es'.toList.map (fun e=>(some e.key,some e.val))->o.wp P a x.W (fun a' W'=>∃ y:Ctx,y.W=W'/\RstX r (fun j=>S j\/j=i) (s.app o.dst ⟨.un,[(t,some (g,.mp ((Ze9 M a0 b0).map fun q=>(f q.1,h q.2))))]⟩) a' y) Q:=fun es' clock' hrun hst' hm=>by
 have hne:∀ b' o',x.F b' o'->b'≠b:=fun b' o' hFF e=>hF o' (e ▸ hFF)
 have hoth:∀ b',b'≠b->(setBlock x.W b (.map es' clock')).heap[b']? = x.W.heap[b']?:=fun b' hb'=>heap_setBlock_other hh _ hb'
 have hsz:(setBlock x.W b (.map es' clock')).heap.size=x.W.heap.size:=by simp [setBlock]
 have k2:Step x ⟨x.G,x.F,setBlock x.W b (.map es' clock'),x.ρ⟩:=⟨fun _ h=>⟨h,rfl⟩,fun _ _ h=>h,fun b' o' v' hFF hv'=>by
  rw [World.cell?_of_block (hoth b' (hne b' o' hFF))];exact hv'⟩
 refine Zgn (W':=setBlock x.W b (.map es' clock')) ?_ ⟨⟨x.G,x.F,setBlock x.W b (.map es' clock'),x.ρ⟩,rfl,?_⟩
 unfold execOp
 rw [ho]
 simp [hev,v1,v2,hrun]
 exact hX.change k2 hd rfl rfl rfl (by rw [hsz];exact Nat.le_refl _) (fun b' hb' hne'=>hoth b' fun e=>hne' g _ hob2 (by rw [hρ,e];rfl)) (fun _ _ h=>.inl h) (fun b' o' hb'=>by show b'<(setBlock x.W b (.map es' clock')).heap.size;rw [hsz];exact hX.flt b' o' hb')
  (fun g' hg'=>(hX.gens g' hg').imp id fun ⟨e1,e2⟩=>⟨e1,.inl e2⟩) hg ⟨b,es',clock',hρ,heap_setBlock_same hh _,hm,hst',hB,hF⟩ (fun b' hb'=>.inr ⟨g,_,hob2,hb'⟩) (.un _)
have hpl:∀ q:α×β,(plain (f q.1),plain (h q.2))=(some (.agg (val q.1).toArray),some (hv q.2)):=fun q=>by rw [H.plain,H2.plain]
have hes:es.toList.map (fun e=>(some e.key,some e.val))=M.map fun q=>((some (.agg (val q.1).toArray),some (hv q.2)):Option Value×Option Value):=by
 apply List.ext_getElem?
 intro j
 have a1:=congrArg (fun l=>l[j]?) hk
 have a2:=congrArg (fun l=>l[j]?) hvs
 simp only [List.getElem?_map] at a1 a2 ⊢
 cases h1:es.toList[j]?<;>cases h2:M[j]?<;>simp_all
rcases ZoC H (M.map (·.1)) es.toList hk a0 x.W with ⟨h1,h2⟩ | ⟨j,e0,h1,h2,h3,h4⟩
refine fin (es.push ⟨.agg (val a0).toArray,hv b0,clock⟩) (clock+1) ?_ (MapKept.stamped_push hst fun y hy hk'=>h2 ?_) ?_
simp [Instr.mapUpdate,run_underlying ht,MapKept.run_getObj_map hh,H.check,h1,MapKept.run_setObj_map _ hh,Result.andThen,setBlock]
have hm:(.agg (val a0).toArray:Value) ∈ es.toList.map (·.key):=List.mem_map.2 ⟨y,hy,hk'⟩
rw [hk] at hm
obtain ⟨a1,ha1,ha2⟩:=List.mem_map.1 hm
have:=H.eq a1 a1 x.W
have h3:=H.eq a0 a1 x.W
rw [<- ha2,this] at h3
have h4:a0=a1:=by simpa using h3
rw [h4];exact ha1
rw [ZkV h2]
simp only [List.map_append,List.map_map,Array.toList_push,hes,List.map_cons,List.map_nil,Function.comp_def,H.plain,H2.plain]
have hj:es[j]? = some e0:=by simpa using h2
have hke:e0.key = .agg (val a0).toArray:=by
 have a1:=congrArg (fun l=>l[j]?) hk
 simp only [List.getElem?_map,h2,Option.map_some] at a1
 rw [List.getElem?_map] at h3
 cases hM:M[j]? with
 | none=>rw [hM] at h3;cases h3
 | some q=>
   rw [hM] at a1 h3
   simp only [Option.map_some,Option.some.injEq] at a1 h3
   rw [a1,h3]
refine fin (es.modify j fun e=>{ e with key:=.agg (val a0).toArray,val:=hv b0 }) clock ?_ (MapKept.stamped_modify hst _ _ (fun _ _=>rfl) fun e' _ he'=>?_) ?_
have hks:(Instr.keyThatStays (.agg (val a0).toArray) (.agg (val a0).toArray)).run P x.W = .ok (.agg (val a0).toArray) x.W:=by
 unfold Instr.keyThatStays
 rw [if_pos (H.stays a0)]
 rfl
simp [Instr.mapUpdate,run_underlying ht,MapKept.run_getObj_map hh,H.check,h1,hj,hke,hks,MapKept.run_setObj_map _ hh,Result.andThen,setBlock]
rw [hj] at he'
cases he'
exact hke.symm
rw [ZkW h3 h4,Array.toList_modify,modify_eq_set _ _ _ _ h2,List.map_set,List.map_set,List.map_set,hes,List.map_map]
simp only [Function.comp_def,H.plain,H2.plain]}
theorem ZqW (H:KeyE P K f val) (H2:ElE h hv) {z:β} (ho:o.op = .lookup T e e' false) (ht:mpI P T=some (K,hv z)) (he:ev s e = .mp t g) (hob:ZX s.ob t g=some (.mp (M.map fun q=>(f q.1,h q.2)))) (he':ev s e'=f a0) :
  OpOK P r o i s ⟨h ((Ze8 M a0).getD z),[]⟩:=by{
intro S a x Q hX hi hd
obtain ⟨b,es,clock,hev,hρ,hg,hh,hk,hvs,hst,hB,hF⟩:=ZoE H H2 hX he hob
have v1:a.eval e' = .agg (val a0).toArray:=ZfO (H.plain a0) (by rw [<- he'];exact ZV hX e')
obtain ⟨E,inf,q1,q2,q3⟩:=ZoD ht
have hrep:∀ b,Rep x (h b) (hv b):=fun b=>by
 rw [<- H2.back]
 exact Zf6 x _
have fin:∀ v,(Instr.lookup T (.map (some b)) (.agg (val a0).toArray) false).run P x.W = .ok v x.W->v=hv ((Ze8 M a0).getD z)->o.wp P a x.W (fun a' W'=>∃ y:Ctx,y.W=W'/\RstX r (fun j=>S j\/j=i) (s.app o.dst ⟨h ((Ze8 M a0).getD z),[]⟩) a' y) Q:=fun v hrun hrep'=>by
 subst hrep'
 refine ZQ (v:=hv ((Ze8 M a0).getD z)) (W':=x.W) ?_ (hX.val hd (hrep _))
 unfold execOp
 rw [ho]
 simp [hev,v1,hrun]
rcases ZoC H (M.map (·.1)) es.toList hk a0 x.W with ⟨h1,h2⟩ | ⟨j,e0,h1,h2,h3,h4⟩
rw [ZkX h2] at fin ⊢
refine fin (hv z) ?_ rfl
simp [Instr.lookup,run_underlying q1,MapKept.run_getObj_map hh,H.check,h1,Result.andThen,zeroValue,typeInfo,q2,q3]
rw [ZkY h3 h4] at fin ⊢
cases hM:M[j]? with
| none=>rw [List.getElem?_map,hM] at h3;cases h3
| some q=>
  rw [hM] at fin
  have a2:=congrArg (fun l=>l[j]?) hvs
  simp only [List.getElem?_map,h2,hM,Option.map_some,Option.some.injEq] at a2
  refine fin e0.val ?_ a2
  simp [Instr.lookup,run_underlying q1,MapKept.run_getObj_map hh,H.check,h1,Result.andThen]}
end
end VL
end Go.Proofs.YtpffimahajgiaaaGreatDoor
namespace Go.Proofs.YtpffimahajgiaaaGreatDoor
namespace VL
open Go.RowKit
class MpT (P:Program) (T:TypeId) (K:outParam TypeId) (z:outParam Value):Prop where
 eq:mpI P T=some (K,z)
def ZkZ {α β:Type} (f:α->PV) (h:β->PV) (M:List (α×β)):List (PV×PV):=M.map fun q=>(f q.1,h q.2)
section
variable {P:Program} [WInv P] {ops:Array Oper} {draw:Bool} {i:Nat} {L:List Oper} {acc:List (List Nat×List Nat)} {K0:FS->Prop} {tm:List (Nat×PV)} {ob:List (Nat×Option (Gen×VObj))} {ng:Nat}
 {d:Option Tmp} {ty:TypeId} {pos:String} {after:Array Edge} {gd:Option (Nat×Bool)} {T K:TypeId} {x y v:Operand} {t:Nat} {g:Gen} {α β:Type} [DecidableEq α] {f:α->PV} {val:α->List Value} {h:β->PV} {hv:β->Value} {M:List (α×β)}
omit [DecidableEq α] in
theorem Zq7 {dd:Nat} (f:α->PV) (h:β->PV) (hw:Zf ops (mkS tm ob ng) ⟨some dd,.makeMap T none,ty,pos,after,gd⟩=some true)
  (k:GoL P ops draw (i+1) L (acc ++ [(ZA (mkS tm ob ng) ⟨some dd,.makeMap T none,ty,pos,after,gd⟩,[dd])]) (mkS ((dd,.mp dd (ng,i))::tm) ((dd,some ((ng,i),.mp (ZkZ f h [])))::ob) ng) K0):GoL P ops draw i (⟨some dd,.makeMap T none,ty,pos,after,gd⟩::L) acc (mkS tm ob ng) K0:=by{
refine Zc1 (u:=⟨.mp dd (ng,i),[(dd,some ((ng,i),.mp []))]⟩) (.any hw fun s' r hA hI=>?_) ?_
have e3:ng=s'.ng:=hA.ng
rw [e3]
exact Zpm rfl
rw [ZaS]
exact k}
theorem Ztg (f:α->PV) (h:β->PV) (a0:α) (b0:β) {z0:Value} [hT:MpT P T K z0] [H:KeyE P K f val] [H2:ElE h hv] (hw:Zf ops (mkS tm ob ng) ⟨d,.mapUpdate T x y v,ty,pos,after,gd⟩=some true) (hx:evL tm x = .mp t g) (hb:ZX (Zm ob) t g=some (.mp (ZkZ f h M))) (hy:evL tm y=f a0) (hv':evL tm v=h b0)
  (k:GoL P ops draw (i+1) L (acc ++ [(ZA (mkS tm ob ng) ⟨d,.mapUpdate T x y v,ty,pos,after,gd⟩,[t])]) (mkS (ZaW d .un tm) ((t,some (g,.mp (ZkZ f h (Ze9 M a0 b0))))::ob) ng) K0):GoL P ops draw i (⟨d,.mapUpdate T x y v,ty,pos,after,gd⟩::L) acc (mkS tm ob ng) K0:=by{
obtain ⟨E,inf,q1,_⟩:=ZoD hT.eq
refine Zc1 (u:=⟨.un,[(t,some (g,.mp (ZkZ f h (Ze9 M a0 b0))))]⟩) (.any hw fun s' r hA hI=>?_) ?_
have e1:ev s' x = .mp t g:=by rw [<- hA.ev x (by simp [Op.operands])];exact (congrFun (ZR tm ob ng) x).trans hx
have e2:ev s' y=f a0:=by rw [<- hA.ev y (by simp [Op.operands])];exact (congrFun (ZR tm ob ng) y).trans hy
have e3:ev s' v=h b0:=by rw [<- hA.ev v (by simp [Op.operands])];exact (congrFun (ZR tm ob ng) v).trans hv'
refine ZqV H H2 rfl q1 e1 ?_ e2 e3
rw [Zbo hA (e:=x) (by simp [Op.operands]) rfl rfl (by rw [ZR,hx];simp [ZaG])]
exact hb
rw [ZaS]
exact k}
theorem Zth (f:α->PV) (h:β->PV) (a0:α) (z:β) {z0:Value} [hT:MpT P T K z0] [H:KeyE P K f val] [H2:ElE h hv] (hz:hv z=z0) (hw:Zf ops (mkS tm ob ng) ⟨d,.lookup T x y false,ty,pos,after,gd⟩=some true) (hx:evL tm x = .mp t g) (hb:ZX (Zm ob) t g=some (.mp (ZkZ f h M))) (hy:evL tm y=f a0)
  (k:GoL P ops draw (i+1) L (acc ++ [(ZA (mkS tm ob ng) ⟨d,.lookup T x y false,ty,pos,after,gd⟩,[])]) (mkS (ZaW d (h ((Ze8 M a0).getD z)) tm) ob ng) K0):GoL P ops draw i (⟨d,.lookup T x y false,ty,pos,after,gd⟩::L) acc (mkS tm ob ng) K0:=by{
refine Zc1 (u:=⟨h ((Ze8 M a0).getD z),[]⟩) (.any hw fun s' r hA hI=>?_) ?_
have e1:ev s' x = .mp t g:=by rw [<- hA.ev x (by simp [Op.operands])];exact (congrFun (ZR tm ob ng) x).trans hx
have e2:ev s' y=f a0:=by rw [<- hA.ev y (by simp [Op.operands])];exact (congrFun (ZR tm ob ng) y).trans hy
refine ZqW H H2 rfl (by rw [hz];exact hT.eq) e1 ?_ e2
rw [Zbo hA (e:=x) (by simp [Op.operands]) rfl rfl (by rw [ZR,hx];simp [ZaG])]
exact hb
rw [ZaS]
exact k}
end
instance:ElE PV.bool Value.bool:=⟨fun _=>rfl,fun _=>rfl⟩
end VL
end Go.Proofs.YtpffimahajgiaaaGreatDoor
set_option linter.unusedVariables false
set_option maxHeartbeats 4000000
set_option maxRecDepth 100000
namespace Go.Proofs.YtpffimahajgiaaaGreatDoor
open VL
instance:VL.BoolT Tryz.prog 4:=⟨by kernel_rfl⟩
instance:VL.StrT Tryz.prog 9:=⟨by kernel_rfl⟩
instance:VL.MpT Tryz.prog 139 36 (.bool false):=⟨by kernel_rfl⟩
structure TapeF where
 l:List Int
 pos:Int
def TapeF.cs (x:TapeF):List PV:=[.sl (List.map csI x.l),.int .i64 x.pos]
structure Link where
 kind:Int
 title:Title
 deriving DecidableEq
def Link.cs (x:Link):List PV:=[.int .i64 x.kind,.int .i64 x.title.space,.str x.title.name]
structure Memb where
 category:Title
 sort:ByteArray
 deriving DecidableEq
def Memb.cs (x:Memb):List PV:=[.int .i64 x.category.space,.str x.category.name,.str x.sort]
def Memb.pv (x:Memb):PV:=.agg x.cs
structure Tok where
 kind:Int
 from_:Int
 to_:Int
 deriving DecidableEq
def Tok.cs (x:Tok):List PV:=[.int .i64 x.kind,.int .i64 x.from_,.int .i64 x.to_]
def Tok.pv (x:Tok):PV:=.agg x.cs
structure Finder where
 links:List Link
 members:List Memb
end Go.Proofs.YtpffimahajgiaaaGreatDoor
namespace Go.Proofs.YtpffimahajgiaaaGreatDoor
open VL Go.RowKit
def ZkO:List UInt8:=[9,10,13,32]
set_option maxHeartbeats 4000000 in
set_option maxRecDepth 1000000 in
theorem ZuM (s:ByteArray) (hs:s.size<=9223372036854775807):Zg Tryz.prog 120 [.str s,.str ⟨#[9,10,13,32]⟩] (.str (Zb3 ZkO (Zc3 ZkO s))):=by{
have hm:=Zj5 ZkO (by decide) (fun j b h=>by
 match j,h with
 | 0,h=>injection h with h;subst h;decide
 | 1,h=>injection h with h;subst h;decide
 | 2,h=>injection h with h;subst h;decide
 | 3,h=>injection h with h;subst h;decide
 | j+4,h=>simp [ZkO] at h)
have hR:=Zm7 ZkO s hs
have hL:=Zg6 ZkO (Zc3 ZkO s)
have ha:∀ {f:Nat->Option (Gen×VObj)} {t:Nat} {g:Gen},ZX f t g=some (.box (Zgb ZkO))->∀ s,Zgx (frz f) [.str s,.ptr t g 0]=some [.str s,.cel (Zgb ZkO)]:=fun h s=>ZrC h s
have hspc:(Zgb ZkO).all PV.cell=true:=by
 rw [List.all_eq_true]
 intro p hp
 obtain ⟨b,_,rfl⟩:=List.mem_map.1 hp
 rfl
have hsl:(Zgb ZkO).length=256:=Zi2 _
have hrc:(List.replicate 256 (PV.bool false)).all PV.cell=true:=by
 rw [List.all_eq_true]
 intro p hp
 rw [List.eq_of_mem_replicate hp]
 rfl
have hrl:(List.replicate 256 (PV.bool false)).length=256:=List.length_replicate
generalize Zgb ZkO=sp at hm hR hL ha hspc hsl
generalize hz:List.replicate 256 (PV.bool false)=zp at hrc hrl
have zi:Ze Tryz.prog 216 zp:=hz ▸ inferInstance
refine ZbM mix Tryz.func120 (by kernel_rfl) rfl (by kernel_rfl) ?_
repeat (first | refine Zq rfl (by (conv=>lhs;whnf);try rfl) ?_ | refine Zr rfl (by (conv=>lhs;whnf);try rfl) ?_ | refine ZiM rfl rfl rfl rfl (by (conv=>lhs;whnf);try rfl) ?_ | refine Zd ?_ | refine Zk ?_ | refine Za ?_)
by_cases h0:s=⟨#[]⟩
·rw [decide_eq_true h0]
 repeat (first | (refine ZE rfl ?_) | refine Za3 rfl rfl (by (conv=>lhs;whnf);try rfl) ?_ | refine Zd ?_)
 refine Zs (by (conv=>lhs;whnf);try rfl) rfl ?_
 repeat (first | refine Zq rfl (by (conv=>lhs;whnf);try rfl) ?_ | refine Zr rfl (by (conv=>lhs;whnf);try rfl) ?_ | refine Zd ?_ | refine Zk ?_ | refine Za ?_ | refine Zbi ?_)
 exact Zes rfl rfl (by rw [h0];rfl)
rw [decide_eq_false h0]
repeat (first | refine Zq rfl (by (conv=>lhs;whnf);try rfl) ?_ | refine ZiM rfl rfl rfl rfl (by (conv=>lhs;whnf);try rfl) ?_ | refine Za3 rfl rfl (by (conv=>lhs;whnf);try rfl) ?_ | refine Zd ?_)
refine Zj (by (conv=>lhs;whnf);try rfl) (by decide) ?_
repeat (first | (refine ZE rfl ?_) | (refine Zj rfl rfl ?_) | (refine ZfH hm rfl rfl ?_) | (refine Zdp (z:=zp) rfl hrc ?_) | (refine ZaN (ps:=sp) (cs:=zp) (cs':=sp) rfl rfl rfl rfl rfl hsl hspc (show 0+256<=zp.length by omega) (ZhO (show zp.length=sp.length by omega)) ?_) | (refine Zs rfl rfl ?_) | (refine ZhG hR rfl (ha rfl _) rfl ?_) | (refine ZhG hL rfl (ha rfl _) rfl ?_) | refine Zq rfl (by (conv=>lhs;whnf);try rfl) ?_ | refine Zr rfl (by (conv=>lhs;whnf);try rfl) ?_ | refine Zae rfl rfl rfl rfl (by (conv=>lhs;whnf);try rfl) ?_ | refine Zf3 Tryz.underlying9 rfl rfl ?_ | refine Zfi rfl rfl rfl ?_ | refine Za3 rfl rfl (by (conv=>lhs;whnf);try rfl) ?_ | refine Zd ?_ | refine Zk ?_ | refine Za ?_ | refine ZF ?_ | refine Zbi ?_)
exact Zes rfl rfl rfl}
def Zo9:List UInt8:=[32,9]
set_option maxHeartbeats 4000000 in
set_option maxRecDepth 1000000 in
theorem ZuN (s:ByteArray):Zg Tryz.prog 92 [.str s,.str ⟨#[32,9]⟩] (.str (Zb3 Zo9 s)):=by{
have hm:=Zj5 Zo9 (by decide) (fun j b h=>by
 match j,h with
 | 0,h=>injection h with h;subst h;decide
 | 1,h=>injection h with h;subst h;decide
 | j+2,h=>simp [Zo9] at h)
have hL:=Zg6 Zo9 s
have ha:∀ {f:Nat->Option (Gen×VObj)} {t:Nat} {g:Gen},ZX f t g=some (.box (Zgb Zo9))->∀ s,Zgx (frz f) [.str s,.ptr t g 0]=some [.str s,.cel (Zgb Zo9)]:=fun h s=>ZrC h s
have hspc:(Zgb Zo9).all PV.cell=true:=by
 rw [List.all_eq_true]
 intro p hp
 obtain ⟨b,_,rfl⟩:=List.mem_map.1 hp
 rfl
have hsl:(Zgb Zo9).length=256:=Zi2 _
have hrc:(List.replicate 256 (PV.bool false)).all PV.cell=true:=by
 rw [List.all_eq_true]
 intro p hp
 rw [List.eq_of_mem_replicate hp]
 rfl
have hrl:(List.replicate 256 (PV.bool false)).length=256:=List.length_replicate
generalize Zgb Zo9=sp at hm hL ha hspc hsl
generalize hz:List.replicate 256 (PV.bool false)=zp at hrc hrl
have zi:Ze Tryz.prog 216 zp:=hz ▸ inferInstance
refine ZbM mix Tryz.func92 (by kernel_rfl) rfl (by kernel_rfl) ?_
repeat (first | refine Zq rfl (by (conv=>lhs;whnf);try rfl) ?_ | refine Zr rfl (by (conv=>lhs;whnf);try rfl) ?_ | refine ZiM rfl rfl rfl rfl (by (conv=>lhs;whnf);try rfl) ?_ | refine Zd ?_ | refine Zk ?_ | refine Za ?_)
by_cases h0:s=⟨#[]⟩
·rw [decide_eq_true h0]
 repeat (first | (refine ZE rfl ?_) | refine Za3 rfl rfl (by (conv=>lhs;whnf);try rfl) ?_ | refine Zd ?_)
 refine Zs (by (conv=>lhs;whnf);try rfl) rfl ?_
 repeat (first | refine Zq rfl (by (conv=>lhs;whnf);try rfl) ?_ | refine Zr rfl (by (conv=>lhs;whnf);try rfl) ?_ | refine Zd ?_ | refine Zk ?_ | refine Za ?_ | refine Zbi ?_)
 exact Zes rfl rfl (by rw [h0];rfl)
rw [decide_eq_false h0]
repeat (first | refine Zq rfl (by (conv=>lhs;whnf);try rfl) ?_ | refine ZiM rfl rfl rfl rfl (by (conv=>lhs;whnf);try rfl) ?_ | refine Za3 rfl rfl (by (conv=>lhs;whnf);try rfl) ?_ | refine Zd ?_)
refine Zj (by (conv=>lhs;whnf);try rfl) (by decide) ?_
repeat (first | (refine ZE rfl ?_) | (refine Zj rfl rfl ?_) | (refine ZfH hm rfl rfl ?_) | (refine Zdp (z:=zp) rfl hrc ?_) | (refine ZaN (ps:=sp) (cs:=zp) (cs':=sp) rfl rfl rfl rfl rfl hsl hspc (show 0+256<=zp.length by omega) (ZhO (show zp.length=sp.length by omega)) ?_) | (refine Zs rfl rfl ?_) | (refine ZhG hL rfl (ha rfl _) rfl ?_) | refine Zq rfl (by (conv=>lhs;whnf);try rfl) ?_ | refine Zr rfl (by (conv=>lhs;whnf);try rfl) ?_ | refine Zae rfl rfl rfl rfl (by (conv=>lhs;whnf);try rfl) ?_ | refine Zf3 Tryz.underlying9 rfl rfl ?_ | refine Zfi rfl rfl rfl ?_ | refine Za3 rfl rfl (by (conv=>lhs;whnf);try rfl) ?_ | refine Zd ?_ | refine Zk ?_ | refine Za ?_ | refine ZF ?_ | refine Zbi ?_)
exact Zes rfl rfl rfl}
def Zqt:List UInt8:=[9,32,95]
set_option maxHeartbeats 4000000 in
set_option maxRecDepth 1000000 in
theorem ZuO (s:ByteArray):Zg Tryz.prog 92 [.str s,.str ⟨#[9,32,95]⟩] (.str (Zb3 Zqt s)):=by{
have hm:=Zj5 Zqt (by decide) (fun j b h=>by
 match j,h with
 | 0,h=>injection h with h;subst h;decide
 | 1,h=>injection h with h;subst h;decide
 | 2,h=>injection h with h;subst h;decide
 | j+3,h=>simp [Zqt] at h)
have hL:=Zg6 Zqt s
have ha:∀ {f:Nat->Option (Gen×VObj)} {t:Nat} {g:Gen},ZX f t g=some (.box (Zgb Zqt))->∀ s,Zgx (frz f) [.str s,.ptr t g 0]=some [.str s,.cel (Zgb Zqt)]:=fun h s=>ZrC h s
have hspc:(Zgb Zqt).all PV.cell=true:=by
 rw [List.all_eq_true]
 intro p hp
 obtain ⟨b,_,rfl⟩:=List.mem_map.1 hp
 rfl
have hsl:(Zgb Zqt).length=256:=Zi2 _
have hrc:(List.replicate 256 (PV.bool false)).all PV.cell=true:=by
 rw [List.all_eq_true]
 intro p hp
 rw [List.eq_of_mem_replicate hp]
 rfl
have hrl:(List.replicate 256 (PV.bool false)).length=256:=List.length_replicate
generalize Zgb Zqt=sp at hm hL ha hspc hsl
generalize hz:List.replicate 256 (PV.bool false)=zp at hrc hrl
have zi:Ze Tryz.prog 216 zp:=hz ▸ inferInstance
refine ZbM mix Tryz.func92 (by kernel_rfl) rfl (by kernel_rfl) ?_
repeat (first | refine Zq rfl (by (conv=>lhs;whnf);try rfl) ?_ | refine Zr rfl (by (conv=>lhs;whnf);try rfl) ?_ | refine ZiM rfl rfl rfl rfl (by (conv=>lhs;whnf);try rfl) ?_ | refine Zd ?_ | refine Zk ?_ | refine Za ?_)
by_cases h0:s=⟨#[]⟩
·rw [decide_eq_true h0]
 repeat (first | (refine ZE rfl ?_) | refine Za3 rfl rfl (by (conv=>lhs;whnf);try rfl) ?_ | refine Zd ?_)
 refine Zs (by (conv=>lhs;whnf);try rfl) rfl ?_
 repeat (first | refine Zq rfl (by (conv=>lhs;whnf);try rfl) ?_ | refine Zr rfl (by (conv=>lhs;whnf);try rfl) ?_ | refine Zd ?_ | refine Zk ?_ | refine Za ?_ | refine Zbi ?_)
 exact Zes rfl rfl (by rw [h0];rfl)
rw [decide_eq_false h0]
repeat (first | refine Zq rfl (by (conv=>lhs;whnf);try rfl) ?_ | refine ZiM rfl rfl rfl rfl (by (conv=>lhs;whnf);try rfl) ?_ | refine Za3 rfl rfl (by (conv=>lhs;whnf);try rfl) ?_ | refine Zd ?_)
refine Zj (by (conv=>lhs;whnf);try rfl) (by decide) ?_
repeat (first | (refine ZE rfl ?_) | (refine Zj rfl rfl ?_) | (refine ZfH hm rfl rfl ?_) | (refine Zdp (z:=zp) rfl hrc ?_) | (refine ZaN (ps:=sp) (cs:=zp) (cs':=sp) rfl rfl rfl rfl rfl hsl hspc (show 0+256<=zp.length by omega) (ZhO (show zp.length=sp.length by omega)) ?_) | (refine Zs rfl rfl ?_) | (refine ZhG hL rfl (ha rfl _) rfl ?_) | refine Zq rfl (by (conv=>lhs;whnf);try rfl) ?_ | refine Zr rfl (by (conv=>lhs;whnf);try rfl) ?_ | refine Zae rfl rfl rfl rfl (by (conv=>lhs;whnf);try rfl) ?_ | refine Zf3 Tryz.underlying9 rfl rfl ?_ | refine Zfi rfl rfl rfl ?_ | refine Za3 rfl rfl (by (conv=>lhs;whnf);try rfl) ?_ | refine Zd ?_ | refine Zk ?_ | refine Za ?_ | refine ZF ?_ | refine Zbi ?_)
exact Zes rfl rfl rfl}
def ZcN (s c:ByteArray):Option ByteArray:=if s.size<=9223372036854775807/\c=⟨#[9,10,13,32]⟩ then some (Zb3 ZkO (Zc3 ZkO s)) else none
theorem Zjw (s c:ByteArray) (r:ByteArray) (h:ZcN s c=some r):Zg Tryz.prog 120 [.str s,.str c] (.str r):=by{
unfold ZcN at h
split at h
rename_i hc
cases h
rw [hc.2]
exact ZuM s hc.1
cases h}
def Zbk (s c:ByteArray):Option ByteArray:=if c=⟨#[32,9]⟩ then some (Zb3 Zo9 s) else if c=⟨#[9,32,95]⟩ then some (Zb3 Zqt s) else none
theorem Zel (s c:ByteArray) (r:ByteArray) (h:Zbk s c=some r):Zg Tryz.prog 92 [.str s,.str c] (.str r):=by{
unfold Zbk at h
split at h
rename_i hc
cases h
rw [hc]
exact ZuN s
split at h
rename_i hc
cases h
rw [hc]
exact ZuO s
cases h}
end Go.Proofs.YtpffimahajgiaaaGreatDoor
namespace Go.Proofs.YtpffimahajgiaaaGreatDoor
namespace VL
theorem Znc (σ:List (Gen×Gen)):∀ (L:List (List PV)),Zmf σ (L.map PV.cel)=some (L.map PV.cel)
 | []=>rfl
 | cs::L=>by
   show (match Zod σ (.cel cs),Zmf σ (L.map PV.cel) with
    | some q,some qs=>some (q::qs)
    | _,_=>none)=_
   rw [Znc σ L]
   rfl
theorem Znd (σ:List (Gen×Gen)) (f:FuncId) (L:List (List PV)):Zvy σ (.fn f (L.map PV.cel))=some (.fn f (L.map PV.cel)):=by
 show (Zmf σ (L.map PV.cel)).map (PV.fn f)=_
 rw [Znc]
 rfl
end VL
end Go.Proofs.YtpffimahajgiaaaGreatDoor

namespace Go.Proofs.YtpffimahajgiaaaGreatDoor
namespace VL
open Go.RowKit
section
variable {P:Program} {r:Run} {o:Oper} {i:Nat} {s:FS}
theorem Zsj {S:Nat->Prop} {a:Act} {x:Ctx} (hX:RstX r S s a x) (hi:¬ S i) {d:Nat} (hd:d<r.N) {E k c:Nat} {vs:Array Value} (hl:vs.size=c * k) (hm:c<=9223372036854775807) :
  ∃ y:Ctx,y.W=x.W.alloc (.cells vs E)/\RstX r (fun j=>S j\/j=i) (s.app (some d) ⟨.row d (s.ng,i),[(d,some ((s.ng,i),.row E k false []))]⟩) (a.put (some d) (.slice (some ⟨x.W.heap.size,0,none⟩) 0 c)) y:=by{
have hold:∀ b,b<x.W.heap.size->(x.W.alloc (.cells vs E)).heap[b]? = x.W.heap[b]?:=fun b hb=>heap_alloc_old x.W _ hb
refine hX.newObj hi (fun k hk=>by cases hk;exact hd) rfl rfl rfl (by simp) (fun b hb _=>hold b hb) (fun b o v hF hv=>?_) (v0:=.slice (some ⟨x.W.heap.size,0,none⟩) 0 c) (fun b hb=>.inl ?_) (fun y st hF hW hρ=>?_) (fun y st hW hG hρ=>?_)
rw [World.cell?_of_block (hold b (hX.flt b o hF))];exact hv
have:x.W.heap.size=b:=by simpa [blk] using hb
omega
refine ⟨fun e he=>(by cases he),fun e he=>(by cases he),[],?_,fun m p v hpp hv=>(by simp at hpp),fun b hb=>⟨.inl ?_,fun o ho=>?_⟩⟩
rw [hρ,hW]
exact ⟨by simp,.inr ⟨x.W.heap.size,c,vs,rfl,Nat.zero_le _,heap_alloc_new x.W _,Nat.zero_le _,by unfold maxLen;omega,hl,by simp⟩⟩
rw [hρ] at hb
have e:x.W.heap.size=b:=by simpa [blk] using hb
rw [<- e]
exact hX.gr.size
rw [hρ] at hb
rw [hF] at ho
have e:x.W.heap.size=b:=by simpa [blk] using hb
have:=hX.flt b o ho
change b<x.W.heap.size at this
omega
exact .row d (s.ng,i) _ _ _ hG hρ}
theorem Zsk {T E d:Nat} {e e':Operand} {te:TI} {sz b:Nat} {zz:List PV} {c:Nat} {kl kc:IntKind} (ho:o.op = .makeSlice T e e') (hdst:o.dst=some d) (ht:tyI P T=some ⟨.slice E,sz,b,zz⟩) (hte:tyI P E=some te) (hl:ev s e = .int kl 0) (hc:ev s e' = .int kc (c:Int)) (hb:te.bytes * c<=281474976710656) (hm:c<=9223372036854775807) :
  OpOK P r o i s ⟨.row d (s.ng,i),[(d,some ((s.ng,i),.row E te.size false []))]⟩:=by{
intro S a x Q hX hi hd
obtain ⟨inf,zv,h1,_⟩:=ZO ht
obtain ⟨inf',z',h1',h2',h3',h4',h5',h6'⟩:=ZO hte
have q1:a.eval e = .int kl 0:=by
 have:=ZV hX e
 rw [hl] at this
 generalize a.eval e=v at this
 cases this
 rfl
have q2:a.eval e' = .int kc (c:Int):=by
 have:=ZV hX e'
 rw [hc] at this
 generalize a.eval e'=v at this
 cases this
 rfl
have hrun:=run_make (P:=P) (w:=x.W) T E inf' z' h1 h2' h3' kl kc 0 c (Int.le_refl _) (by omega) (by
 rw [h5',<- Int.natCast_mul];omega) (by omega)
simp only [Int.toNat_natCast,Int.toNat_zero,h4'] at hrun
obtain ⟨y,hy1,hy2⟩:=Zsj hX hi (hd d hdst) (E:=E) (k:=te.size) (c:=c) (vs:=madeCells z'.cells (c * te.size)) (size_madeCells _ _) hm
rw [hdst]
refine ZQ (v:=.slice (some ⟨x.W.heap.size,0,none⟩) 0 c) (W':=x.W.alloc (.cells (madeCells z'.cells (c * te.size)) E)) ?_ ⟨y,hy1,by rw [hdst];exact hy2⟩
unfold execOp
rw [ho]
simp [q1,q2,hrun]}
end
def Zsl (w:Nat) (c:Int):Option Unit:=if 0<=c/\c * (w:Int)<=281474976710656/\c<=9223372036854775807 then some () else none
section
variable {P:Program} [WInv P] {ops:Array Oper} {draw:Bool} {i:Nat} {L:List Oper} {acc:List (List Nat×List Nat)} {K:FS->Prop} {tm:List (Nat×PV)} {ob:List (Nat×Option (Gen×VObj))} {ng:Nat}
 {d:Nat} {ty T:TypeId} {pos:String} {after:Array Edge} {gd:Option (Nat×Bool)} {x y:Operand}
theorem Zun {α:Type} (f:α->List PV) {E kk by_:Nat} {z:List PV} [Sl P T E kk by_ z] {kl:IntKind} {c:Int} {u:Unit} (hw:Zf ops (mkS tm ob ng) ⟨some d,.makeSlice T x y,ty,pos,after,gd⟩=some true) (hx:evL tm x = .int kl 0) {kc:IntKind} (hy:evL tm y = .int kc c) (hs:Zsl by_ c=some u)
  (k:GoL P ops draw (i+1) L (acc ++ [(ZA (mkS tm ob ng) ⟨some d,.makeSlice T x y,ty,pos,after,gd⟩,[d])]) (mkS ((d,.row d (ng,i))::tm) ((d,some ((ng,i),.row E kk false (List.map f [])))::ob) ng) K):GoL P ops draw i (⟨some d,.makeSlice T x y,ty,pos,after,gd⟩::L) acc (mkS tm ob ng) K:=by{
obtain ⟨s1,b,zz,te,q1,q2,q3,q4,q5,q6,q7⟩:=ZbJ (P:=P) (T:=T) (E:=E) (k:=kk) (by_:=by_) (z:=z)
unfold Zsl at hs
split at hs
rename_i hc
refine Zc1 (u:=⟨.row d (ng,i),[(d,some ((ng,i),.row E kk false []))]⟩) (.any hw fun s' r hA hI=>?_) ?_
have e1:ev s' x = .int kl 0:=by rw [<- hA.ev x (by simp [Op.operands])];exact (congrFun (ZR tm ob ng) x).trans hx
have e2:ev s' y = .int kc ((c.toNat:Nat):Int):=by rw [<- hA.ev y (by simp [Op.operands]),Int.toNat_of_nonneg hc.1];exact (congrFun (ZR tm ob ng) y).trans hy
have e3:s'.ng=ng:=hA.ng.symm
rw [<- e3,<- q3]
refine Zsk rfl rfl q1 q2 e1 e2 ?_ ?_
rw [q4]
have h1:=hc.2.1
have:((by_ * c.toNat:Nat):Int)<=281474976710656:=by rw [Int.natCast_mul,Int.toNat_of_nonneg hc.1,Int.mul_comm];exact h1
omega
have:=hc.2.2
omega
rw [ZaS]
exact k
cases hs}
end
theorem ZpZ {P:Program} {y:Ctx} {l:List Int} {v:Value} (h:Rep y (.sl (l.map fun n=>[PV.int .u8 n])) v) {src E dst:TypeId} (hs:P.underlying src=some (.slice E)) (he:P.underlying E=some (.int .u8)) (hd:P.underlying dst=some .string) :
  (convert src dst v).run P y.W = .ok (.string (strOfNums l)) y.W:=by{
generalize hg:(l.map fun n=>[PV.int .u8 n])=els at h
cases h with
| sl _ A n c k b off f hn hc hm hk hA hcell hh=>
  have hln:n=l.length:=by rw [hn,<- hg,List.length_map]
  have hel:∀ (i:Nat) (m:Int),l[i]? = some m->els[i]? = some [PV.int .u8 m]:=fun i m hi=>by rw [<- hg,List.getElem?_map,hi];rfl
  have key:∀ a:Addr,A=some a->(loadCells a n).run P y.W = .ok (l.map (Value.int .u8)).toArray y.W:=fun a ha=>by
   have:=run_loadCells_list (P:=P) y.W a (l.map (Value.int .u8)) (fun j u hj=>by
    rw [List.getElem?_map,Option.map_eq_some_iff] at hj
    obtain ⟨m,hm1,rfl⟩:=hj
    have hjl:=(List.getElem?_eq_some_iff.1 hm1).1
    rw [hA (by omega)] at ha
    injection ha with ha
    subst ha
    have h1:=hel j m hm1
    have hk1:k=1:=by rw [<- hk _ (List.mem_of_getElem? h1)];rfl
    subst hk1
    obtain ⟨_,_,h2⟩:=hcell j 0 _ _ h1 rfl
    have h3:=hh j 0 _ _ h1 rfl
    have h4:f j 0 = .int .u8 m:=by
     generalize f j 0=w at h3
     cases h3
     rfl
    rw [h4] at h2
    have hadd:(⟨b,off,none⟩:Addr).add j=⟨b,off+j,none⟩:=by unfold Addr.add;split<;>simp_all
    rw [hadd]
    simpa using h2)
   simpa [hln] using this
  cases A with
  | none=>
    have:l = []:=by
     rcases Nat.eq_zero_or_pos n with h0 | h0
     exact List.eq_nil_of_length_eq_zero (by omega)
     have:=hA h0
     cases this
    subst this
    exact run_convert_bytes_nil y.W src E hs he n c dst hd
  | some a=>
    rw [run_convert_bytes_string y.W src dst E (some a) n c hs he hd,run_bytesToString y.W a n c l (key a rfl),foldl_push_bytes]
    simp [strOfNums,ByteArray.empty,ByteArray.emptyWithCapacity]
    rfl}
section
variable {P:Program} [WInv P] {ops:Array Oper} {draw:Bool} {i:Nat} {L:List Oper} {acc:List (List Nat×List Nat)} {K:FS->Prop} {tm:List (Nat×PV)} {ob:List (Nat×Option (Gen×VObj))} {ng:Nat}
 {d:Option Tmp} {ty T T':TypeId} {pos:String} {after:Array Edge} {gd:Option (Nat×Bool)} {x:Operand}
theorem Zob {E kk by_:Nat} {z:List PV} [Sl P T E kk by_ z] [hk:Kd P E .u8] [hs:StrT P T'] {l:List Int} (hw:Zf ops (mkS tm ob ng) ⟨d,.convert T T' x,ty,pos,after,gd⟩=some true) (hx:Zn6 (Zm ob) (evL tm x)=some (.sl (l.map fun n=>[PV.int .u8 n])))
  (k:GoL P ops draw (i+1) L (acc ++ [(ZA (mkS tm ob ng) ⟨d,.convert T T' x,ty,pos,after,gd⟩,[])]) (mkS (ZaW d (.str (strOfNums l)) tm) ob ng) K):GoL P ops draw i (⟨d,.convert T T' x,ty,pos,after,gd⟩::L) acc (mkS tm ob ng) K:=by{
obtain ⟨s1,b,zz,te,q1,q2,q3,q4,q5,q6,q7⟩:=ZbJ (P:=P) (T:=T) (E:=E) (k:=kk) (by_:=by_) (z:=z)
obtain ⟨inf,zv,h1,_⟩:=ZO q1
refine Zc1 (u:=⟨.str (strOfNums l),[]⟩) (.any hw fun s' r hA hI=>?_) ?_
intro S a c Q hX hi hd
have hm:x ∈ (Op.convert T T' x).operands:=by simp [Op.operands]
have e1:ev s' x=evL tm x:=by rw [<- hA.ev x hm];exact congrFun (ZR tm ob ng) x
have e2:Zn6 s'.ob (ev s' x)=some (.sl (l.map fun n=>[PV.int .u8 n])):=by
 rw [<- Zgy (fun t ht=>hA.key1 hm rfl rfl t ht),e1]
 exact hx
have h3:=Zd3 hX e2 (ZV hX x)
have hrun:=ZpZ (P:=P) h3 (src:=T) (dst:=T') h1 hk.eq hs.eq
refine ZQ (v:=.string (strOfNums l)) (W':=c.W) ?_ (hX.val hd (.str _))
unfold execOp
have hrun2:(convert T T' (a.eval x)).run P c.W = .ok (.string (strOfNums l)) c.W:=hrun
simp [hrun2]
rw [ZaS]
exact k}
end
end VL
end Go.Proofs.YtpffimahajgiaaaGreatDoor

namespace Go.Proofs.YtpffimahajgiaaaGreatDoor
namespace VL
open Go.RowKit Go.Sort
section
variable {α:Type} [Inhabited α]
theorem Zh6 (enc:α->List Value) (k:Nat) (hk:∀ x,(enc x).length=k) (M:List α):(flatK enc k M.toArray).toList=M.flatMap enc:=by{
have hlen:(M.flatMap enc).length=M.length * k:=by
 induction M with
 | nil=>simp
 | cons x M ih=>simp [List.flatMap_cons,hk,ih,Nat.succ_mul];omega
apply List.ext_getElem?
intro t
by_cases ht:t<M.length * k
have hk0:0<k:=by rcases Nat.eq_zero_or_pos k with h | h
                 subst h;simp at ht
                 exact h
have hi:t / k<M.length:=Nat.div_lt_of_lt_mul (by rw [Nat.mul_comm];exact ht)
have hj:t % k<k:=Nat.mod_lt _ hk0
have e:=ZlJ enc k hk M (t / k) M[t / k] (t % k) ((enc M[t / k])[t % k]'(by rw [hk];exact hj)) (List.getElem?_eq_getElem hi) (List.getElem?_eq_getElem (by rw [hk];exact hj))
rw [Nat.mul_comm (t / k) k,Nat.div_add_mod] at e
rw [e]
have h1:t<(flatK enc k M.toArray).size:=by rw [size_flatK];simpa using ht
have h2:=get_flatK enc k M.toArray t (by simpa using ht)
rw [getElem!_pos _ t h1] at h2
rw [Array.getElem?_toList,Array.getElem?_eq_getElem h1,h2,getElem!_pos M.toArray (t / k) (by simpa using hi)]
simp only [List.getElem_toArray]
rw [getElem!_pos (enc M[t / k]) (t % k) (by rw [hk];exact hj)]
rw [List.getElem?_eq_none (l:=(flatK enc k M.toArray).toList) (by simp;omega),List.getElem?_eq_none (l:=M.flatMap enc) (by rw [hlen];omega)]}
theorem Zpp (enc:α->List Value) (k:Nat) (hk:∀ x,(enc x).length=k) {w:World} {g:Nat} {cur:Array Value} {E:TypeId} {L:List α} (hb:w.heap[g]? = some (.cells cur E (0,0))) (ht:cur.toList.take (L.length * k)=L.flatMap enc):HoldsK enc k w g 0 L.toArray:=by{
intro j hj
have hj':j<L.length * k:=by simpa using hj
refine ⟨?_,by simp [World.frozen?,hb]⟩
have h1:(cur.toList.take (L.length * k))[j]? = (flatK enc k L.toArray).toList[j]?:=by rw [ht,Zh6 enc k hk]
rw [List.getElem?_take_of_lt hj'] at h1
simp only [World.cell?,hb,Nat.zero_add]
simp only [Option.isSome_none,Bool.false_eq_true,if_false]
rw [<- Array.getElem?_toList,h1,Array.getElem?_toList,Array.getElem?_eq_getElem hj,getElem!_pos _ j hj]
rfl}
theorem ZnJ (enc:α->List Value) (k:Nat) (hk:∀ x,(enc x).length=k) {w:World} {g cap n:Nat} {cur:Array Value} {E:TypeId} {M:List α} (hb:w.heap[g]? = some (.cells cur E (0,0))) (h1:M.length<=cap) (h2:cap<=maxLen) (h3:cur.size=cap * k) :
  (putRowK enc k (Sort.ahead w n) g 0 M.toArray).ownsRow 0 E k (.slice (some ⟨g,0,none⟩) M.length cap) M.length (M.flatMap enc)/\Gr (fun b=>blk (.slice (some ⟨g,0,none⟩) M.length cap)=some b) w (putRowK enc k (Sort.ahead w n) g 0 M.toArray):=by{
have hg:g<w.heap.size:=(Array.getElem?_eq_some_iff.1 hb).1
have hh:(putRowK enc k (Sort.ahead w n) g 0 M.toArray).heap[g]? = some (.cells (putCells id 0 (flatK enc k M.toArray) cur) E (0,0)):=by
 simp [putRowK,putRow,mapBlock,Sort.ahead,Array.getElem?_modify,hb,onCells]
have hlen:(M.flatMap enc).length=M.length * k:=by rw [<- Zh6 enc k hk M];simp
refine ⟨⟨hlen,.inr ⟨g,cap,_,rfl,Nat.zero_le _,hh,h1,h2,by simp [putCells,h3],?_⟩⟩,rfl,rfl,rfl,by simp [putRowK,putRow,mapBlock,Sort.ahead],fun b hb' hne=>?_⟩
rw [<- Zh6 enc k hk M]
have hle:M.length * k<=cur.size:=by rw [h3];exact Nat.mul_le_mul_right _ h1
apply List.ext_getElem?
intro j
by_cases hj:j<M.length * k
rw [List.getElem?_take_of_lt hj,Array.getElem?_toList,Array.getElem?_toList]
simp [putCells,hj,show j<cur.size by omega]
rw [List.getElem?_take_eq_none (by omega),List.getElem?_eq_none (by simp;omega)]
have:g≠b:=fun e=>hne (by rw [e];rfl)
simp [putRowK,putRow,mapBlock,Sort.ahead,Array.getElem?_modify,this]}
end
theorem Zhq:∀ {a b:List PV} {va vb:List Value},Zbz a=some va->Zbz b=some vb->Zbz (a++b)=some (va++vb)
 | [],b,va,vb,h,k=>by
   injection h with h
   subst h
   exact k
 | p::a,b,va,vb,h,k=>by
   simp only [Zbz] at h
   split at h
   rename_i v vs h1 h2
   injection h with h
   subst h
   simp only [List.cons_append,Zbz]
   rw [h1,Zhq h2 k]
   cases h
theorem Zep {α:Type} {cs:α->List PV} {enc:α->List Value} (h:∀ x,Zbz (cs x)=some (enc x)):∀ (xs:List α),Zbz (xs.map cs).flatten=some (xs.flatMap enc)
 | []=>rfl
 | x::xs=>by
   rw [List.map_cons,List.flatten_cons,List.flatMap_cons]
   exact Zhq (h x) (Zep h xs)
section
variable {P:Program} [WInv P]
theorem Zks {α:Type} [Enc α] [EncPV α] {f:FuncId} {args:List PV} {vals:List Value} {E:TypeId} {xs:List α} {enc:α->List Value} (hg:isGo P f=true) (hp:∀ (x:Ctx) (vs:Array Value),Pre x args none vs->vs=vals.toArray) (hpl:∀ x:α,Zbz (EncPV.cs x)=some (enc x))
  (hE:∀ (S:Nat->Prop) (w:World) (x:α) (cs:List Value),Enc.R S w x cs->cs=enc x) (hk:∀ x:α,(EncPV.cs x).length=Enc.k α)
  (h:∀ w,(∀ W,Below w.heap.size w W->WInv.I P W)->Calls P f vals.toArray w fun e w'=>∃ v,e = .returned v/\OwnL w' w.heap.size E v xs/\Below w.heap.size w w'):ContractN P f args (.row E (Enc.k α) false (xs.map EncPV.cs)):=by{
refine ⟨hg,⟨fun cs h=>(by cases h),fun E k els h=>(by cases h)⟩,fun x vs hpre hI=>?_⟩
obtain rfl:vs=vals.toArray:=hp x vs hpre
refine (h x.W fun W hW=>hI W ⟨hW.os,hW.tape,hW.output,hW.size,fun b hb _=>hW.block b hb⟩).mono ?_
rintro _ w' ⟨v,rfl,⟨css,hl,hown,hR⟩,hb⟩
let y:Ctx:=⟨fun g=>g=(0,0),x.F,w',fun _=>v⟩
have hcss:css.flatten=xs.flatMap enc:=by
 have:css=xs.map enc:=by
  apply List.ext_getElem?
  intro i
  by_cases hi:i<xs.length
  have h1:xs[i]? = some xs[i]:=List.getElem?_eq_getElem hi
  have h2:css[i]? = some css[i]:=List.getElem?_eq_getElem (by omega)
  rw [h2,List.getElem?_map,h1,hE _ _ _ _ (hR i _ _ h1 h2)]
  rfl
  rw [List.getElem?_eq_none (by omega),List.getElem?_eq_none (by simp;omega)]
 rw [this]
 rfl
have hpure:∀ e ∈ xs.map EncPV.cs,∀ p ∈ e,p.pure=true:=fun e he p hpm=>by
 obtain ⟨z,_,rfl⟩:=List.mem_map.1 he
 obtain ⟨j,hj⟩:=List.getElem?_of_mem hpm
 have:=Zgf (hpl z) hj
 obtain ⟨r,_,_⟩:=this
 have:∀ (l:List PV) {vs:List Value},Zbz l=some vs->∀ p ∈ l,p.pure=true:=fun l=>by
  induction l with
  | nil=>intro vs _ p hp;cases hp
  | cons q l ih=>
    intro vs hq p hp
    simp only [Zbz] at hq
    split at hq
    rename_i v1 vs1 h1 h2
    rcases List.mem_cons.1 hp with rfl | hp
    cases p<;>simp_all [Zhb,PV.pure]
    exact ih h2 p hp
    cases hq
 exact this _ (hpl z) p hpm
refine ⟨y,v,rfl,rfl,⟨fun g hg=>?_,fun _ _ h=>h,fun b o v hF hv=>(World.cell?_of_block (hb.block b (hpre.flt b o hF))).trans hv⟩,Gr.ofBelow hb,fun _ _ h=>.inl h,fun b o hF=>Nat.lt_of_lt_of_le (hpre.flt b o hF) hb.size,(0,0),rfl,fun e he=>?_,hpure,css.flatten,?_,fun m p w hm hw=>?_,fun b hbk=>?_⟩
obtain ⟨j,os,h,_⟩:=hpre.gen g hg
cases h
obtain ⟨z,_,rfl⟩:=List.mem_map.1 he
exact hk z
rw [List.length_map]
exact ⟨hown.1,hown.2.imp id fun ⟨g,cap,cur,h1,h2,h3⟩=>⟨g,cap,cur,h1,Nat.zero_le _,h3⟩⟩
obtain ⟨r,h1,h2⟩:=Zgf (Zep hpl xs) hm
rw [hcss,h1] at hw
injection hw with hw
subst hw
rw [<- h2]
exact Zf6 y r
have hB:x.W.heap.size<=b:=by
 change blk v=some b at hbk
 rcases hown.2 with ⟨hn,_⟩ | ⟨b',cap,cur,hv,hB,_⟩
 rw [hn] at hbk
 simp [blk] at hbk
 rw [hv] at hbk
 obtain rfl:b'=b:=by simpa [blk] using hbk
 exact hB
exact ⟨.inl hB,fun o hF=>by
 have h1:=hpre.flt b o hF
 omega⟩}
theorem Zkt {α:Type} [Enc α] [EncPV α] {f:FuncId} {args:List PV} {vals:List Value} {E:TypeId} {xs:List α} {enc:α->List Value} (hg:isGo P f=true) (hp:∀ (x:Ctx) (vs:Array Value),Pre x args none vs->vs=vals.toArray) (hpl:∀ x:α,Zbz (EncPV.cs x)=some (enc x))
  (hE:∀ (S:Nat->Prop) (w:World) (x:α) (cs:List Value),Enc.R S w x cs->cs=enc x) (hk:∀ x:α,(EncPV.cs x).length=Enc.k α)
  (h:∀ w,WInv.I P w->Calls P f vals.toArray w fun e w'=>∃ v,e = .returned v/\OwnL w' w.heap.size E v xs/\Below w.heap.size w w'):ContractN P f args (.row E (Enc.k α) false (xs.map EncPV.cs)):=
 Zks hg hp hpl hE hk fun w hw=>h w (hw w (Below.refl _ _))
theorem Zlx {α:Type} [Enc α] [EncPV α] {f:FuncId} {args:List PV} {vals:List Value} {E:TypeId} {xs:List α} {enc:α->List Value} (hg:isGo P f=true) (hp:ZkP args=some vals) (hpl:∀ x:α,Zbz (EncPV.cs x)=some (enc x))
  (hE:∀ (S:Nat->Prop) (w:World) (x:α) (cs:List Value),Enc.R S w x cs->cs=enc x) (hk:∀ x:α,(EncPV.cs x).length=Enc.k α)
  (h:∀ w,WInv.I P w->Calls P f vals.toArray w fun e w'=>∃ v,e = .returned v/\OwnL w' w.heap.size E v xs/\Below w.heap.size w w'):ContractN P f args (.row E (Enc.k α) false (xs.map EncPV.cs)):=by
 refine Zkt (vals:=vals) hg (fun x vs hpre=>?_) hpl hE hk h
 have e:vs.toList=vals:=ZhW args hp vs.toList (by simpa using hpre.size) fun i p v hp hv=>hpre.rep i p v hp (by simpa using hv)
 rw [<- e]
end
end VL
end Go.Proofs.YtpffimahajgiaaaGreatDoor
namespace Go.Proofs.YtpffimahajgiaaaGreatDoor
open Go.RowKit
def orI:List Int->Int | []=>0 | x::xs=>if x=0 then orI xs else x
theorem Zk1 (x y:Int) (w:World):Calls Tryz.prog 48 #[.int .i64 x,.int .i64 y] w fun e w'=>e = .returned (.int .i64 (Lib.compareInt x y))/\w=w':=
 (Tryz.cmp_Compare_int x y w).mono fun _ _ ⟨a,b⟩=>⟨a,b.symm⟩
theorem Zk2 (a b:ByteArray) (w:World):Calls Tryz.prog 99 #[.string a,.string b] w fun e w'=>e = .returned (.int .i64 (Lib.compareBytes a.data.toList b.data.toList))/\w=w':=
 (Tryz.strings_Compare a b w).mono fun _ _ ⟨a,b⟩=>⟨a,b.symm⟩
set_option maxHeartbeats 400000 in
theorem Zt6 (A:Option Addr) (n c:Nat) (xs:List Int) (w:World) (h:SlR w A n c xs):Calls Tryz.prog 47 #[.slice A n c] w fun e w'=>e = .returned (.int .i64 (orI xs))/\w=w':=by{
have HN:=Lib.hid h.1
have hle:=h.le
go_enter Tryz.func47,Tryz.ntmps47
go_wp2
go_loop [5,8] (fun _ i=>∃ q:Nat,q<=n/\i = .int .i64 q/\orI xs=orI (xs.drop q)) (fun _ i=>n-(intOf i).toNat)
case atStart=>exact ⟨0,Nat.zero_le _,rfl,rfl⟩
case round=>
 obtain ⟨q,hq,rfl,hO⟩:=hrel
 by_cases hlt:q<n
 obtain ⟨b,off,x,cs,rfl,hbl,hx,hd,hR,hc⟩:=h.elem hlt
 have c0:w.cell? ⟨b,off+q,none⟩=some (.int .i64 x):=by subst hR;simpa using hc 0 _ rfl
 have HO:=Lib.hid hO
 clear hO hc hx h
 have HD:=Lib.hid hd
 clear hd
 by_cases h0:x=0
 ·subst h0
  go_wp2
  go_round
  case rel=>exact ⟨q+1,by omega,by go_num,by rw [HO.out,HD.out];simp [orI]⟩
  case measure=>simp [intOf];omega
 ·have e0:(!(x == 0))=true:=by simpa using h0
  go_wp2
  go_ret
  exact ⟨ZnP (by rw [HO.out,HD.out];simp [orI,h0]),rfl⟩
 ·have hq':q=n:=by omega
  have hz:orI xs=0:=by rw [hO,hq',HN.out,List.drop_length];rfl
  have HZ:=Lib.hid hz
  clear hz hO h hq'
  go_wp2
  go_ret
  exact ⟨ZnP HZ.out.symm,rfl⟩}
def Title.cmp (a b:Title):Int:=orI [Lib.compareInt a.space b.space,Lib.compareBytes a.name.data.toList b.name.data.toList]
theorem ZnM:∀ a b:List UInt8,Lib.compareBytes a b=if Op.bytesLess a b=true then -1 else if a=b then 0 else 1
 | [],[]=>by simp [Lib.compareBytes,Op.bytesLess]
 | [],_::_=>by simp [Lib.compareBytes,Op.bytesLess]
 | _::_,[]=>by simp [Lib.compareBytes,Op.bytesLess]
 | x::a,y::b=>by
   have h:=ZnM a b
   have e:x<y\/x=y\/y<x:=by
    rcases Nat.lt_trichotomy x.toNat y.toNat with h | h | h
    ·exact .inl h
    ·exact .inr (.inl (UInt8.toNat_inj.1 h))
    ·exact .inr (.inr h)
   rcases e with e | e | e
   ·simp [Lib.compareBytes,Op.bytesLess,e]
   ·subst e
    have hx:¬ x<x:=fun h=>by simp at h
    simp [Lib.compareBytes,Op.bytesLess,h]
   ·have hx:¬ x<y:=fun h=>by simp [UInt8.lt_iff_toNat_lt] at h e;omega
    have hne:¬ x=y:=fun h=>by subst h;simp at e
    simp [Lib.compareBytes,Op.bytesLess,hx,hne,e]
theorem Zu8 (a b:Title):Title.cmp a b=if a.space<b.space then -1 else if b.space<a.space then 1 else if Op.bytesLess a.name.toList b.name.toList=true then -1 else if a.name.toList=b.name.toList then 0 else 1:=by{
unfold Title.cmp orI Lib.compareInt
rw [ZnM,ByteArray.toList_eq,ByteArray.toList_eq]
by_cases h1:a.space<b.space
simp [h1]
by_cases h2:b.space<a.space
simp [h1,h2]
simp only [h1,h2,if_false,if_true,orI]
by_cases h:Op.bytesLess a.name.data.toList b.name.data.toList=true
simp [h]
by_cases h':a.name.data.toList=b.name.data.toList<;>simp [h,h']}
set_option maxHeartbeats 400000 in
theorem ZgY (a b:Title) (w:World):Calls Tryz.prog 36 #[.agg #[.int .i64 a.space,.string a.name],.agg #[.int .i64 b.space,.string b.name]] w fun e w'=>e = .returned (.int .i64 (Title.cmp a b))/\Below w.heap.size w w':=by{
go_enter Tryz.func36,Tryz.ntmps36
go_wp2
all_goals
 go_ret
 refine ⟨ZnP ?_,((Below.refl _ _).alloc (Nat.le_refl _) _).alloc (by simp) _⟩
 rw [Zu8]
 first
  | (rw [if_pos (by omega)];done)
  | (rw [if_neg (by omega),if_neg (by omega),if_pos (by assumption)];done)
  | (rw [if_neg (by omega),if_pos (by omega)];done)
  | (rw [if_neg (by omega),if_neg (by omega),if_neg (by simp_all),if_pos (by assumption)];done)
  | (rw [if_neg (by omega),if_neg (by omega),if_neg (by simp_all),if_neg (by assumption)];done)}
def Zbm (c:UInt8):UInt8:=if 65<=c.toNat/\c.toNat<=90 then UInt8.ofNat (c.toNat+32) else c
def Zcq (l:List UInt8):List UInt8:=l.map Zbm
def BytesAt (w:World) (g:Nat) (l:List UInt8):Prop:=g<w.heap.size/\∀ j c,l[j]? = some c->w.cell? ⟨g,j,none⟩=some (.int .u8 (c.toNat:Int))/\w.frozen? ⟨g,j,none⟩=false
theorem BytesAt.set {w:World} {g:Nat} {l:List UInt8} (h:BytesAt w g l) (k:Nat) (c:UInt8) (hk:k<l.length):BytesAt (w.setCell ⟨g,k,none⟩ (.int .u8 (c.toNat:Int))) g (l.set k c):=by{
refine ⟨by simpa [World.setCell] using h.1,fun j d hj=>?_⟩
by_cases e:j=k
subst e
rw [List.getElem?_set_self hk] at hj
obtain rfl:c=d:=by simpa using hj
obtain ⟨h1,h2⟩:=h.2 j _ (List.getElem?_eq_getElem hk)
exact ⟨World.cell?_setCell_same w ⟨g,j,none⟩ _ h1,by simpa using h2⟩
rw [List.getElem?_set_ne (fun e'=>e e'.symm)] at hj
obtain ⟨h1,h2⟩:=h.2 j d hj
refine ⟨(World.cell?_setCell_other w ⟨g,k,none⟩ ⟨g,j,none⟩ _ (fun e'=>e (by injection e' with _ e2;exact e2.symm))).trans h1,by simpa using h2⟩}
theorem BytesAt.back {P:Program} {w:World} {g cap:Nat} {l:List UInt8} (h:BytesAt w g l) (src dst e:TypeId) (hs:P.underlying src=some (.slice e)) (he:P.underlying e=some (.int .u8)) (hd:P.underlying dst=some .string) :
  (convert src dst (.slice (some ⟨g,0,none⟩) l.length cap)).run P w = .ok (.string ⟨l.toArray⟩) w:=
 run_convert_bytes_back w src dst e ⟨g,0,none⟩ cap l hs he hd fun j hj=>by
  have:=(h.2 j _ (List.getElem?_eq_getElem hj)).1
  unfold Addr.add
  split
  rename_i h0;subst h0;exact this
  simpa using this
theorem Zpr {P:Program} (w:World) (src dst e:TypeId) (s:ByteArray) (hs:P.underlying src=some .string) (hd:P.underlying dst=some (.slice e)) (he:P.underlying e=some (.int .u8)) :
  ∃ cap w1,(convert src dst (.string s)).run P w = .ok (.slice (some ⟨w.heap.size,0,none⟩) s.size cap) w1/\Below w.heap.size w w1/\BytesAt w1 w.heap.size s.data.toList:=by{
refine ⟨_,_,run_bytes_of_string w src dst e s hs hd he,(Below.refl _ _).drew.alloc (Nat.le_refl _) _,by simp,fun j c hj=>?_⟩
have hjl:j<s.data.size:=by have:=(List.getElem?_eq_some_iff.1 hj).1;simpa using this
have hc:c=s.data[j]:=by
 rw [List.getElem?_eq_getElem (by simpa using hjl)] at hj
 simpa using hj.symm
constructor
exact (World.cell?_alloc_mark w.drew _ _ _ j).trans (by rw [bytesRow_at _ _ _ hjl,hc])
refine (World.frozen?_alloc_mark w.drew _ _ _ _ j).trans ?_
have:j<(bytesRow s (grownCap w s.size 0 e)).size:=by simp only [bytesRow,Array.size_append,Array.size_map];omega
simp;omega}
theorem ZmQ (l:List UInt8) (q:Nat) (c:UInt8) (hc:l[q]? = some c):(Zcq (l.take q)++l.drop q).set q (Zbm c)=Zcq (l.take (q+1))++l.drop (q+1):=by{
have hq:q<l.length:=(List.getElem?_eq_some_iff.1 hc).1
have hl:(Zcq (l.take q)).length=q:=by simp [Zcq];omega
have hg:l[q]=c:=by rw [List.getElem?_eq_getElem hq] at hc;simpa using hc
rw [List.set_append_right _ _ (by omega),hl,Nat.sub_self,List.drop_eq_getElem_cons hq,List.set_cons_zero,List.take_succ_eq_append_getElem hq,hg]
simp [Zcq]}
theorem ZqZ (l:List UInt8) (q:Nat) (c:UInt8) (hc:l[q]? = some c) (he:Zbm c=c):Zcq (l.take q)++l.drop q=Zcq (l.take (q+1))++l.drop (q+1):=by{
rw [<- ZmQ l q c hc,he]
have hq:q<l.length:=(List.getElem?_eq_some_iff.1 hc).1
have hl:(Zcq (l.take q)).length=q:=by simp [Zcq];omega
have hg:l[q]=c:=by rw [List.getElem?_eq_getElem hq] at hc;simpa using hc
rw [List.set_append_right _ _ (by omega),hl,Nat.sub_self,List.drop_eq_getElem_cons hq,List.set_cons_zero,hg]}
theorem Zu5 (l:List UInt8) (q:Nat) (c:UInt8) (hc:l[q]? = some c):(Zcq (l.take q)++l.drop q)[q]? = some c:=by{
have hq:q<l.length:=(List.getElem?_eq_some_iff.1 hc).1
have hl:(Zcq (l.take q)).length=q:=by simp [Zcq];omega
rw [List.getElem?_append_right (by omega),hl,Nat.sub_self,List.getElem?_drop]
simpa using hc}
set_option maxHeartbeats 400000 in
set_option maxRecDepth 100000 in
theorem Zgo (s:ByteArray) (w:World) (hs:s.size<=9223372036854775807):Calls Tryz.prog 128 #[.string s] w fun e w'=>e = .returned (.string ⟨(Zcq s.data.toList).toArray⟩)/\Below w.heap.size w w':=by{
obtain ⟨cap,w1,hconv,hb,hB⟩:=Zpr (P:=Tryz.prog) w 9 119 5 s Tryz.underlying9 Tryz.underlying119 Tryz.underlying5
have HB:=Lib.hid hb
have HBB:=Lib.hid hB
clear hb hB
have HL:Hid (s.data.toList.length=s.size):=Lib.hid (Array.length_toList)
go_enter Tryz.func128,Tryz.ntmps128
go_wp2
go_loopw [4,5,10] (fun _ _ i wr=>∃ q:Nat,q<=s.size/\i = .int .i64 q/\Below w.heap.size w wr/\BytesAt wr w.heap.size (Zcq (s.data.toList.take q)++s.data.toList.drop q)) (fun _ _ i _=>s.size-(intOf i).toNat)
case atStart=>exact ⟨0,Nat.zero_le _,rfl,HB.out,by simpa [Zcq] using HBB.out⟩
case round=>
 obtain ⟨q,hq,rfl,hbw,hBw⟩:=hrel
 by_cases hlt:q<s.size
 obtain ⟨x,hx⟩:∃ x,s.data.toList[q]? = some x:=⟨_,List.getElem?_eq_getElem (by rw [HL.out];exact hlt)⟩
 obtain ⟨c0,f0⟩:=hBw.2 q x (Zu5 _ _ _ hx)
 have HX:=Lib.hid hx
 have HW:=Lib.hid hBw
 have HQ:=Lib.hid hbw
 clear hx hBw hbw hconv
 have hx1:(x.toNat:Int)<256:=by have:=x.toNat_lt;omega
 by_cases h1:(65:Int)<=x.toNat/\(x.toNat:Int)<=90
 ·obtain ⟨h1,h2⟩:=h1
  go_wp2
  go_roundw
  case rel=>
   refine ⟨q+1,by omega,by go_num,HQ.out.setCell (Nat.le_refl _) _,?_⟩
   have hl:Zbm x=UInt8.ofNat (x.toNat+32):=by unfold Zbm;rw [if_pos (by omega)]
   have hl2:((Zbm x).toNat:Int)=(x.toNat:Int)+32:=by rw [hl];simp;omega
   rw [<- ZmQ _ _ _ HX.out,<- hl2]
   exact HW.out.set q _ (by rw [List.length_append];simp [Zcq];omega)
  case measure=>simp [intOf];omega
 ·have hk:Zbm x=x:=by unfold Zbm;rw [if_neg (by omega)]
  have HK:=Lib.hid hk
  clear hk
  have h3:(x.toNat:Int)<65\/((65:Int)<=x.toNat/\(90:Int)<x.toNat):=by omega
  clear h1
  rcases h3 with h2 | ⟨h2,h3⟩
  all_goals
   go_wp2
   go_roundw
   case rel=>exact ⟨q+1,by omega,by go_num,HQ.out,by rw [<- ZqZ _ _ _ HX.out HK.out];exact HW.out⟩
   case measure=>simp [intOf];omega
 ·obtain rfl:q=s.size:=by omega
  have hz:Zcq (s.data.toList.take s.size)++s.data.toList.drop s.size=Zcq s.data.toList:=by
   rw [List.take_of_length_le (by rw [HL.out];omega),List.drop_eq_nil_of_le (by rw [HL.out];omega),List.append_nil]
  rw [hz] at hBw
  have hback:=hBw.back (P:=Tryz.prog) (cap:=cap) 119 9 5 Tryz.underlying119 Tryz.underlying5 Tryz.underlying9
  rw [show (Zcq s.data.toList).length=s.size by rw [Zcq,List.length_map];exact HL.out] at hback
  have HQ:=Lib.hid hbw
  clear hz hBw hbw hconv
  go_wp2
  go_ret
  exact ⟨rfl,HQ.out⟩}
end Go.Proofs.YtpffimahajgiaaaGreatDoor
