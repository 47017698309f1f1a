/- DERIVED: THE SHELF's CONTRACTS AT THIS DUMP, IN PLAIN WORDS (tools/lay-plain.mjs out of 'TryzShelf.lean', which tools/lay-shelf.mjs wrote): THE SAME DECLARATIONS UNDER THE SAME NAMES: 'import', 'namespace', 'open', 'def', 'theorem' AND NOTHING ELSE: no command of the shelf's: FOR A HAND-IN. Each .. | Comparisons of numbers, strings, titles and keys, in the program and in the reference: what each call returns. | The reference's comparison of titles, and both comparisons of keys. | Titles: the letters A to Z as lower-case letters. | Titles: the words ahead of a colon that name a namespace. | Titles: which bytes names may have; which titles are valid. | The reference's small functions on titles: an index, letters without their case, the words ahead of a colon. | The reference's words ahead of a colon. | A slice of strings that the call itself made: reading and storing an element. No program is named. | The reference's Parts: a text divided at each slash. | Plain laws: the reference's Parts and prefixed say what strings.Split and title.prefix say. -/
import Derived.Shelf.Strings.Builder1
import Derived.Shelf.Strings.Builder2
import Derived.Shelf.Strings.OnBuilder
import Derived.Shelf.Strings.Trim
import Derived.Shelf.Small.Utf8
import Derived.Shelf.Small.Bits
import Derived.Shelf.Small.Strs
import Derived.Shelf.Small.Wraps
import Derived.Shelf.Strings.BuilderF
import Derived.Shelf.Strings.BuilderK
import Derived.Shelf.Utf8.RuneCount
import Derived.Shelf.Strings.Builder2Cap
import Derived.Shelf.Strconv.Itoa0
import Derived.Shelf.Strings.Search1
import Derived.Shelf.Strings.Search2
import Derived.Shelf.Strings.Search3
import Derived.Shelf.Strings.Cut
import Derived.Shelf.Strings.Count
import Derived.Shelf.LaysM
import Derived.Shelf.Strings.Shaped
import Derived.Shelf.Strings.Prefix
import Derived.Shelf.Strings.Split
import Derived.Shelf.Strings.Replace
import Derived.Shelf.Strings.SplitShaped
import Derived.Shelf.Unicode.Decode
import Derived.Shelf.Strings.Runes
import Derived.Shelf.Strings.RuneCount
import Derived.Shelf.Strings.IndexAny
import Derived.Shelf.Strings.AsciiSet
import Derived.Shelf.Strings.IndexAnyAll
import Derived.Shelf.Bits.Mul64
import Derived.Shelf.Strings.Repeat
import Derived.Shelf.Unicode.DecodeSlow
import Derived.Shelf.Unicode.DecodeAny
import Derived.Shelf.Unicode.DecodeLast
import Derived.Shelf.Strings.BuilderCap
import Derived.Shelf.Slices.Turned
import Derived.Ground.Names2Prog
import Derived.Shelf.Slices.SearchI
import Derived.Test.YtpffimahajgiaaaGreatDoorProg
import Derived.Test.YtpffimahajgiaaaGreatDoorRows
import Derived.Test.YtpffimahajgiaaaGreatDoorVV01
import Derived.Laws.IdiomStrings
import Derived.Test.YtpffimahajgiaaaGreatDoorVV02
import Derived.Lib.IndexEntry
import Derived.Laws.OwnMore
import Derived.Lib.IndexBytes
namespace Go.Proofs
open Go.Shelf
def Tryz.lays213_ren:Go.Shelf.Ren:=⟨fun | 213=>164 | 265=>208 | n=>n,fun | 9=>9 | 3=>3 | n=>n,fun | n=>n⟩
def Tryz.lays106_ren:Go.Shelf.Ren:=⟨fun | 106=>99 | 213=>164 | 265=>208 | n=>n,fun | 9=>9 | 3=>3 | n=>n,fun | n=>n⟩
theorem Tryz.lays106:Go.Proofs.Lays.n106 Tryz.prog Tryz.lays106_ren:={
 mixed:=by kernel_rfl
 f106:=Tryz.func99.trans (congrArg some (by kernel_rfl))
 f213:=Tryz.func164.trans (congrArg some (by kernel_rfl))
 f265:=Tryz.func208.trans (congrArg some (by kernel_rfl))
 t3:=Tryz.underlying3
 a3:=Tryz.isAgg3
 z3:=Tryz.sizeOf3
 v3:=Tryz.zeroValue3
 t9:=Tryz.underlying9
 a9:=Tryz.isAgg9
 z9:=Tryz.sizeOf9
 v9:=Tryz.zeroValue9 }
open Go.RowKit in
theorem Tryz.strings_Compare (a b:ByteArray) (w:World) :
  Calls Tryz.prog 99 #[.string a,.string b] w fun e w'=>e = .returned (.int .i64 (Lib.compareBytes a.data.toList b.data.toList))∧w'=w:=Any.strings_Compare Tryz.lays106 a b w
def Tryz.lays137_ren:Go.Shelf.Ren:=⟨fun | 137=>125 | 217=>185 | 266=>214 | n=>n,fun | 9=>9 | 5=>5 | 3=>3 | n=>n,fun | n=>n⟩
theorem Tryz.lays137:Go.Proofs.Lays.n137 Tryz.prog Tryz.lays137_ren:={
 mixed:=by kernel_rfl
 f137:=Tryz.func125.trans (congrArg some (by kernel_rfl))
 f217:=Tryz.func185.trans (congrArg some (by kernel_rfl))
 f266:=Tryz.func214.trans (congrArg some (by kernel_rfl))
 t3:=Tryz.underlying3
 a3:=Tryz.isAgg3
 z3:=Tryz.sizeOf3
 v3:=Tryz.zeroValue3
 t5:=Tryz.underlying5
 a5:=Tryz.isAgg5
 z5:=Tryz.sizeOf5
 v5:=Tryz.zeroValue5
 t9:=Tryz.underlying9
 a9:=Tryz.isAgg9
 z9:=Tryz.sizeOf9
 v9:=Tryz.zeroValue9 }
open Go.RowKit in
theorem Tryz.strings_IndexByte (s:ByteArray) (c:Int) (w:World) :
  Calls Tryz.prog 125 #[.string s,.int .u8 c] w fun e w'=>e = .returned (.int .i64 (Lib.indexByte s.data.toList c.toNat.toUInt8))∧w'=w:=Any.strings_IndexByte Tryz.lays137 s c w
def Tryz.lays210_ren:Go.Shelf.Ren:=⟨fun | 210=>148 | 206=>114 | n=>n,fun | 9=>9 | 4=>4 | 3=>3 | n=>n,fun | n=>n⟩
def Tryz.lays103_ren:Go.Shelf.Ren:=⟨fun | 103=>91 | 210=>148 | 206=>114 | n=>n,fun | 9=>9 | 4=>4 | 24=>171 | 3=>3 | n=>n,fun | n=>n⟩
theorem Tryz.lays103:Go.Proofs.Lays.n103 Tryz.prog Tryz.lays103_ren:={
 mixed:=by kernel_rfl
 f103:=Tryz.func91.trans (congrArg some (by kernel_rfl))
 f206:=Tryz.func114.trans (congrArg some (by kernel_rfl))
 f210:=Tryz.func148.trans (congrArg some (by kernel_rfl))
 t3:=Tryz.underlying3
 a3:=Tryz.isAgg3
 z3:=Tryz.sizeOf3
 v3:=Tryz.zeroValue3
 t4:=Tryz.underlying4
 a4:=Tryz.isAgg4
 z4:=Tryz.sizeOf4
 v4:=Tryz.zeroValue4
 t9:=Tryz.underlying9
 a9:=Tryz.isAgg9
 z9:=Tryz.sizeOf9
 v9:=Tryz.zeroValue9
 t24:=Tryz.underlying171
 a24:=Tryz.isAgg171
 z24:=Tryz.sizeOf171
 v24:=Tryz.zeroValue171 }
open Go.RowKit in
theorem Tryz.strings_CutPrefix (s p:ByteArray) (w:World) :
  Calls Tryz.prog 91 #[.string s,.string p] w fun e w'=>e = .returned (.tuple #[.string ⟨(Lib.trimPrefix s.data.toList p.data.toList).toArray⟩,.bool (Lib.hasPrefix s.data.toList p.data.toList)])∧w'=w:=Any.strings_CutPrefix Tryz.lays103 s p w
def Tryz.lays215_ren:Go.Shelf.Ren:=⟨fun | 215=>98 | n=>n,fun | 3=>3 | 4=>4 | n=>n,fun | n=>n⟩
def Tryz.lays219_ren:Go.Shelf.Ren:=⟨fun | 219=>195 | 217=>185 | 225=>219 | 224=>220 | 267=>221 | 266=>214 | 314=>230 | n=>n,fun | 9=>9 | 3=>3 | 4=>4 | 5=>5 | 46=>131 | 146=>195 | 51=>194 | n=>n,fun | 1=>0 | n=>n⟩
def Tryz.lays145_ren:Go.Shelf.Ren:=⟨fun | 145=>127 | 220=>188 | 219=>195 | 217=>185 | 225=>219 | 224=>220 | 267=>221 | 266=>214 | 314=>230 | n=>n,fun | 9=>9 | 4=>4 | 59=>206 | 3=>3 | 5=>5 | 46=>131 | 146=>195 | 51=>194 | n=>n,fun | 1=>0 | n=>n⟩
theorem Tryz.lays145:Go.Proofs.Lays.n145 Tryz.prog Tryz.lays145_ren:={
 mixed:=by kernel_rfl
 f145:=Tryz.func127.trans (congrArg some (by kernel_rfl))
 f217:=Tryz.func185.trans (congrArg some (by kernel_rfl))
 f219:=Tryz.func195.trans (congrArg some (by kernel_rfl))
 f220:=Tryz.func188.trans (congrArg some (by kernel_rfl))
 f224:=Tryz.func220.trans (congrArg some (by kernel_rfl))
 f225:=Tryz.func219.trans (congrArg some (by kernel_rfl))
 f266:=Tryz.func214.trans (congrArg some (by kernel_rfl))
 f267:=Tryz.func221.trans (congrArg some (by kernel_rfl))
 f314:=Tryz.func230.trans (congrArg some (by kernel_rfl))
 t3:=Tryz.underlying3
 a3:=Tryz.isAgg3
 z3:=Tryz.sizeOf3
 v3:=Tryz.zeroValue3
 t4:=Tryz.underlying4
 a4:=Tryz.isAgg4
 z4:=Tryz.sizeOf4
 v4:=Tryz.zeroValue4
 t5:=Tryz.underlying5
 a5:=Tryz.isAgg5
 z5:=Tryz.sizeOf5
 v5:=Tryz.zeroValue5
 t9:=Tryz.underlying9
 a9:=Tryz.isAgg9
 z9:=Tryz.sizeOf9
 v9:=Tryz.zeroValue9
 t46:=Tryz.underlying131
 a46:=Tryz.isAgg131
 z46:=Tryz.sizeOf131
 v46:=Tryz.zeroValue131
 t51:=Tryz.underlying194
 a51:=Tryz.isAgg194
 z51:=Tryz.sizeOf194
 v51:=Tryz.zeroValue194
 t59:=Tryz.underlying206
 a59:=Tryz.isAgg206
 z59:=Tryz.sizeOf206
 v59:=Tryz.zeroValue206
 t146:=Tryz.underlying195
 a146:=Tryz.isAgg195
 z146:=Tryz.sizeOf195
 v146:=Tryz.zeroValue195
 g1:=by kernel_rfl }
open Go.RowKit Go.Lib in
theorem Tryz.strings_Cut (s sep:ByteArray) (m:Int) (w:World) (hs:s.size<4294967281) (hm:w.cell? ⟨0,0,none⟩=some (.int .i64 m)) :
  Calls Tryz.prog 127 #[.string s,.string sep] w fun e w'=>e = .returned (.tuple #[.string ⟨(Lib.cut s.data.toList sep.data.toList).1.toArray⟩,.string ⟨(Lib.cut s.data.toList sep.data.toList).2.1.toArray⟩,.bool (Lib.cut s.data.toList sep.data.toList).2.2])∧∃ n,w'=w.drewN n:=Any.strings_Cut Tryz.lays145 s sep m w hs hm
def Tryz.lays102_ren:Go.Shelf.Ren:=⟨fun | 102=>129 | 209=>189 | 207=>217 | n=>n,fun | 9=>9 | 4=>4 | 3=>3 | n=>n,fun | n=>n⟩
theorem Tryz.lays102:Go.Proofs.Lays.n102 Tryz.prog Tryz.lays102_ren:={
 mixed:=by kernel_rfl
 f102:=Tryz.func129.trans (congrArg some (by kernel_rfl))
 f207:=Tryz.func217.trans (congrArg some (by kernel_rfl))
 f209:=Tryz.func189.trans (congrArg some (by kernel_rfl))
 t3:=Tryz.underlying3
 a3:=Tryz.isAgg3
 z3:=Tryz.sizeOf3
 v3:=Tryz.zeroValue3
 t4:=Tryz.underlying4
 a4:=Tryz.isAgg4
 z4:=Tryz.sizeOf4
 v4:=Tryz.zeroValue4
 t9:=Tryz.underlying9
 a9:=Tryz.isAgg9
 z9:=Tryz.sizeOf9
 v9:=Tryz.zeroValue9 }
open Go.RowKit Go.Lib in
theorem Tryz.strings_TrimSuffix (s p:ByteArray) (w:World) (hs:s.size≤9223372036854775807) :
  Calls Tryz.prog 129 #[.string s,.string p] w fun e w'=>e = .returned (.string ⟨(Lib.trimSuffix s.data.toList p.data.toList).toArray⟩)∧w'=w:=Any.strings_TrimSuffix Tryz.lays102 s p w hs
def Tryz.lays221_ren:Go.Shelf.Ren:=⟨fun | 221=>126 | 268=>186 | 138=>187 | 143=>144 | 195=>215 | 197=>197 | 218=>216 | 219=>195 | 260=>222 | 217=>185 | 225=>219 | 224=>220 | 267=>221 | 266=>214 | 314=>230 | n=>n,fun | 9=>9 | 3=>3 | 31=>28 | 4=>4 | 0=>0 | 105=>248 | 21=>21 | 5=>5 | 46=>131 | 119=>265 | 139=>268 | 138=>267 | 146=>195 | 51=>194 | n=>n,fun | 1=>0 | 3=>1 | 4=>2 | n=>n⟩
def Tryz.lays146_ren:Go.Shelf.Ren:=⟨fun | 146=>83 | 221=>126 | 268=>186 | 138=>187 | 143=>144 | 195=>215 | 197=>197 | 218=>216 | 219=>195 | 260=>222 | 217=>185 | 225=>219 | 224=>220 | 267=>221 | 266=>214 | 314=>230 | n=>n,fun | 9=>9 | 31=>28 | 3=>3 | 4=>4 | 0=>0 | 105=>248 | 21=>21 | 5=>5 | 46=>131 | 119=>265 | 139=>268 | 138=>267 | 146=>195 | 51=>194 | n=>n,fun | 1=>0 | 3=>1 | 4=>2 | n=>n⟩
theorem Tryz.lays146:Go.Proofs.Lays.n146 Tryz.prog Tryz.lays146_ren:={
 mixed:=by kernel_rfl
 f138:=Tryz.func187.trans (congrArg some (by kernel_rfl))
 f143:=Tryz.func144.trans (congrArg some (by kernel_rfl))
 f146:=Tryz.func83.trans (congrArg some (by kernel_rfl))
 f195:=Tryz.func215.trans (congrArg some (by kernel_rfl))
 f197:=Tryz.func197.trans (congrArg some (by kernel_rfl))
 f217:=Tryz.func185.trans (congrArg some (by kernel_rfl))
 f218:=Tryz.func216.trans (congrArg some (by kernel_rfl))
 f219:=Tryz.func195.trans (congrArg some (by kernel_rfl))
 f221:=Tryz.func126.trans (congrArg some (by kernel_rfl))
 f224:=Tryz.func220.trans (congrArg some (by kernel_rfl))
 f225:=Tryz.func219.trans (congrArg some (by kernel_rfl))
 f260:=Tryz.func222.trans (congrArg some (by kernel_rfl))
 f266:=Tryz.func214.trans (congrArg some (by kernel_rfl))
 f267:=Tryz.func221.trans (congrArg some (by kernel_rfl))
 f268:=Tryz.func186.trans (congrArg some (by kernel_rfl))
 f314:=Tryz.func230.trans (congrArg some (by kernel_rfl))
 t0:=Tryz.underlying0
 a0:=Tryz.isAgg0
 z0:=Tryz.sizeOf0
 v0:=Tryz.zeroValue0
 t3:=Tryz.underlying3
 a3:=Tryz.isAgg3
 z3:=Tryz.sizeOf3
 v3:=Tryz.zeroValue3
 t4:=Tryz.underlying4
 a4:=Tryz.isAgg4
 z4:=Tryz.sizeOf4
 v4:=Tryz.zeroValue4
 t5:=Tryz.underlying5
 a5:=Tryz.isAgg5
 z5:=Tryz.sizeOf5
 v5:=Tryz.zeroValue5
 t9:=Tryz.underlying9
 a9:=Tryz.isAgg9
 z9:=Tryz.sizeOf9
 v9:=Tryz.zeroValue9
 t21:=Tryz.underlying21
 a21:=Tryz.isAgg21
 z21:=Tryz.sizeOf21
 v21:=Tryz.zeroValue21
 t31:=Tryz.underlying28
 a31:=Tryz.isAgg28
 z31:=Tryz.sizeOf28
 v31:=Tryz.zeroValue28
 t46:=Tryz.underlying131
 a46:=Tryz.isAgg131
 z46:=Tryz.sizeOf131
 v46:=Tryz.zeroValue131
 t51:=Tryz.underlying194
 a51:=Tryz.isAgg194
 z51:=Tryz.sizeOf194
 v51:=Tryz.zeroValue194
 t105:=Tryz.underlying248
 a105:=Tryz.isAgg248
 z105:=Tryz.sizeOf248
 v105:=Tryz.zeroValue248
 t119:=Tryz.underlying265
 a119:=Tryz.isAgg265
 z119:=Tryz.sizeOf265
 t138:=Tryz.underlying267
 a138:=Tryz.isAgg267
 z138:=Tryz.sizeOf267
 v138:=Tryz.zeroValue267
 t139:=Tryz.underlying268
 a139:=Tryz.isAgg268
 z139:=Tryz.sizeOf268
 v139:=Tryz.zeroValue268
 t146:=Tryz.underlying195
 a146:=Tryz.isAgg195
 z146:=Tryz.sizeOf195
 v146:=Tryz.zeroValue195
 g1:=by kernel_rfl
 g3:=by kernel_rfl
 g4:=by kernel_rfl }
open Go.RowKit Go.Lib in
theorem Tryz.strings_Split (s sep:ByteArray) (m:Int) (w:World) (hs:s.size<4294967281) (hm:w.cell? ⟨0,0,none⟩=some (.int .i64 m)) (h1:1≤sep.size) :
  Calls Tryz.prog 83 #[.string s,.string sep] w fun e w'=>
   e = .returned (.slice (some ⟨w.heap.size,0,none⟩) (Lib.countB s sep+1) (Lib.countB s sep+1))∧w'=w.alloc (.cells ((Lib.splitB sep 0 (Lib.countB s sep) s).map Value.string).toArray 9):=Any.strings_Split Tryz.lays146 (by kernel_rfl) s sep m w hs hm h1
def Tryz.lays152_ren:Go.Shelf.Ren:=⟨fun | 152=>211 | 137=>125 | 119=>228 | 224=>220 | 225=>219 | 217=>185 | 266=>214 | n=>n,fun | 9=>9 | 21=>21 | 3=>3 | 4=>4 | 5=>5 | 0=>0 | 46=>131 | n=>n,fun | n=>n⟩
theorem Tryz.lays152:Go.Proofs.Lays.n152 Tryz.prog Tryz.lays152_ren:={
 mixed:=by kernel_rfl
 f119:=Tryz.func228.trans (congrArg some (by kernel_rfl))
 f137:=Tryz.func125.trans (congrArg some (by kernel_rfl))
 f152:=Tryz.func211.trans (congrArg some (by kernel_rfl))
 f217:=Tryz.func185.trans (congrArg some (by kernel_rfl))
 f224:=Tryz.func220.trans (congrArg some (by kernel_rfl))
 f225:=Tryz.func219.trans (congrArg some (by kernel_rfl))
 f266:=Tryz.func214.trans (congrArg some (by kernel_rfl))
 t0:=Tryz.underlying0
 a0:=Tryz.isAgg0
 z0:=Tryz.sizeOf0
 v0:=Tryz.zeroValue0
 t3:=Tryz.underlying3
 a3:=Tryz.isAgg3
 z3:=Tryz.sizeOf3
 v3:=Tryz.zeroValue3
 t4:=Tryz.underlying4
 a4:=Tryz.isAgg4
 z4:=Tryz.sizeOf4
 v4:=Tryz.zeroValue4
 t5:=Tryz.underlying5
 a5:=Tryz.isAgg5
 z5:=Tryz.sizeOf5
 v5:=Tryz.zeroValue5
 t9:=Tryz.underlying9
 a9:=Tryz.isAgg9
 z9:=Tryz.sizeOf9
 v9:=Tryz.zeroValue9
 t21:=Tryz.underlying21
 a21:=Tryz.isAgg21
 z21:=Tryz.sizeOf21
 v21:=Tryz.zeroValue21
 t46:=Tryz.underlying131
 a46:=Tryz.isAgg131
 z46:=Tryz.sizeOf131
 v46:=Tryz.zeroValue131 }
open Go.RowKit Go.Lib in
theorem Tryz.strings_IndexRune_ascii (s:ByteArray) (r:Int) (w:World) (h0:0≤r) (h1:r<128) :
  Calls Tryz.prog 211 #[.string s,.int .i32 r] w fun e w'=>e = .returned (.int .i64 (Lib.indexByte s.data.toList r.toNat.toUInt8))∧w'=w:=Any.strings_IndexRune_ascii Tryz.lays152 s r w h0 h1
def Tryz.lays226_ren:Go.Shelf.Ren:=⟨fun | 226=>212 | n=>n,fun | 3=>3 | 4=>4 | n=>n,fun | n=>n⟩
theorem Tryz.lays226:Go.Proofs.Lays.n226 Tryz.prog Tryz.lays226_ren:={
 mixed:=by kernel_rfl
 f226:=Tryz.func212.trans (congrArg some (by kernel_rfl))
 t3:=Tryz.underlying3
 a3:=Tryz.isAgg3
 z3:=Tryz.sizeOf3
 v3:=Tryz.zeroValue3
 t4:=Tryz.underlying4
 a4:=Tryz.isAgg4
 z4:=Tryz.sizeOf4
 v4:=Tryz.zeroValue4 }
open Go.RowKit Go.Lib in
theorem Tryz.strings_shouldUseASCIISet (n:Int) (w:World) :
  Calls Tryz.prog 212 #[.int .i64 n] w fun e w'=>e = .returned (.bool (decide (8<n)))∧w'=w:=Any.strings_shouldUseASCIISet Tryz.lays226 n w
def Tryz.lays153_ren:Go.Shelf.Ren:=⟨fun | 153=>179 | 152=>211 | 226=>212 | 227=>150 | 228=>196 | 137=>125 | 119=>228 | 224=>220 | 225=>219 | 217=>185 | 266=>214 | n=>n,fun | 9=>9 | 3=>3 | 4=>4 | 5=>5 | 21=>21 | 117=>217 | 116=>216 | 0=>0 | 46=>131 | 124=>220 | n=>n,fun | n=>n⟩
theorem Tryz.lays153:Go.Proofs.Lays.n153 Tryz.prog Tryz.lays153_ren:={
 mixed:=by kernel_rfl
 f119:=Tryz.func228.trans (congrArg some (by kernel_rfl))
 f137:=Tryz.func125.trans (congrArg some (by kernel_rfl))
 f152:=Tryz.func211.trans (congrArg some (by kernel_rfl))
 f153:=Tryz.func179.trans (congrArg some (by kernel_rfl))
 f217:=Tryz.func185.trans (congrArg some (by kernel_rfl))
 f224:=Tryz.func220.trans (congrArg some (by kernel_rfl))
 f225:=Tryz.func219.trans (congrArg some (by kernel_rfl))
 f226:=Tryz.func212.trans (congrArg some (by kernel_rfl))
 f227:=Tryz.func150.trans (congrArg some (by kernel_rfl))
 f228:=Tryz.func196.trans (congrArg some (by kernel_rfl))
 f266:=Tryz.func214.trans (congrArg some (by kernel_rfl))
 t0:=Tryz.underlying0
 a0:=Tryz.isAgg0
 z0:=Tryz.sizeOf0
 v0:=Tryz.zeroValue0
 t3:=Tryz.underlying3
 a3:=Tryz.isAgg3
 z3:=Tryz.sizeOf3
 v3:=Tryz.zeroValue3
 t4:=Tryz.underlying4
 a4:=Tryz.isAgg4
 z4:=Tryz.sizeOf4
 v4:=Tryz.zeroValue4
 t5:=Tryz.underlying5
 a5:=Tryz.isAgg5
 z5:=Tryz.sizeOf5
 v5:=Tryz.zeroValue5
 t9:=Tryz.underlying9
 a9:=Tryz.isAgg9
 z9:=Tryz.sizeOf9
 v9:=Tryz.zeroValue9
 t21:=Tryz.underlying21
 a21:=Tryz.isAgg21
 z21:=Tryz.sizeOf21
 v21:=Tryz.zeroValue21
 t46:=Tryz.underlying131
 a46:=Tryz.isAgg131
 z46:=Tryz.sizeOf131
 v46:=Tryz.zeroValue131
 t116:=Tryz.underlying216
 a116:=Tryz.isAgg216
 z116:=Tryz.sizeOf216
 t117:=Tryz.underlying217
 a117:=Tryz.isAgg217
 z117:=Tryz.sizeOf217
 v117:=Tryz.zeroValue217
 t124:=Tryz.underlying220
 a124:=Tryz.isAgg220
 z124:=Tryz.sizeOf220
 v124:=Tryz.zeroValue220 }
def Tryz.lays227_ren:Go.Shelf.Ren:=⟨fun | 227=>150 | n=>n,fun | 9=>9 | 116=>216 | 4=>4 | 0=>0 | 3=>3 | 5=>5 | n=>n,fun | n=>n⟩
theorem Tryz.lays227:Go.Proofs.Lays.n227 Tryz.prog Tryz.lays227_ren:={
 mixed:=by kernel_rfl
 f227:=Tryz.func150.trans (congrArg some (by kernel_rfl))
 t0:=Tryz.underlying0
 a0:=Tryz.isAgg0
 z0:=Tryz.sizeOf0
 v0:=Tryz.zeroValue0
 t3:=Tryz.underlying3
 a3:=Tryz.isAgg3
 z3:=Tryz.sizeOf3
 v3:=Tryz.zeroValue3
 t4:=Tryz.underlying4
 a4:=Tryz.isAgg4
 z4:=Tryz.sizeOf4
 v4:=Tryz.zeroValue4
 t5:=Tryz.underlying5
 a5:=Tryz.isAgg5
 z5:=Tryz.sizeOf5
 v5:=Tryz.zeroValue5
 t9:=Tryz.underlying9
 a9:=Tryz.isAgg9
 z9:=Tryz.sizeOf9
 v9:=Tryz.zeroValue9
 t116:=Tryz.underlying216
 a116:=Tryz.isAgg216
 z116:=Tryz.sizeOf216 }
open Go.RowKit Go.Lib in
theorem Tryz.strings_makeASCIISet (hv116:∀ w,(zeroValue 216).run Tryz.prog w = .ok (.agg (Array.replicate 256 (.bool false))) w) (chars:ByteArray) (w:World) (hs:chars.size<4294967281) (hascii:∀ (j:Nat) b,chars.data.toList[j]? = some b→b.toNat<128) :
  Calls Tryz.prog 150 #[.string chars] w fun e w'=>e = .returned (.tuple #[.agg (Lib.setCells chars.data.toList),.bool true])∧w'=w.alloc (.cells (Lib.setCells chars.data.toList) 216):=Any.strings_makeASCIISet Tryz.lays227 hv116 (by kernel_rfl) chars w hs hascii
open Go.RowKit Go.Lib in
theorem Tryz.strings_IndexAny_long (hv116:∀ w,(zeroValue 216).run Tryz.prog w = .ok (.agg (Array.replicate 256 (.bool false))) w) (s chars:ByteArray) (w:World) (h2:2≤chars.size) (h8:8<s.size) (hs:s.size<4294967281) (hcs:chars.size<4294967281) (hascii:∀ (j:Nat) b,chars.data.toList[j]? = some b→b.toNat<128) :
  Calls Tryz.prog 179 #[.string s,.string chars] w fun e w'=>e = .returned (.int .i64 (Lib.indexAny s.data.toList chars.data.toList))∧w'=((w.alloc (.cells (Lib.setCells chars.data.toList) 216)).alloc (.cells (Lib.setCells chars.data.toList) 216)):=Any.strings_IndexAny_long Tryz.lays153 hv116 (by kernel_rfl) s chars w h2 h8 hs hcs hascii
def Tryz.lays105_ren:Go.Shelf.Ren:=⟨fun | 105=>29 | 212=>68 | 99=>69 | 165=>61 | 166=>62 | 170=>70 | 169=>63 | 263=>112 | 264=>113 | 206=>114 | 240=>108 | 241=>109 | 276=>174 | 277=>175 | n=>n,fun | 9=>9 | 3=>3 | 4=>4 | 20=>20 | 0=>0 | 46=>131 | 109=>132 | 5=>5 | 72=>121 | 76=>125 | 51=>194 | 146=>195 | 53=>197 | 148=>198 | 70=>118 | 37=>119 | 75=>124 | 127=>193 | 164=>237 | 80=>74 | n=>n,fun | n=>n⟩
theorem Tryz.lays105:Go.Proofs.Lays.n105 Tryz.prog Tryz.lays105_ren:={
 mixed:=by kernel_rfl
 f99:=Tryz.func69.trans (congrArg some (by kernel_rfl))
 f105:=Tryz.func29.trans (congrArg some (by kernel_rfl))
 f165:=Tryz.func61.trans (congrArg some (by kernel_rfl))
 f166:=Tryz.func62.trans (congrArg some (by kernel_rfl))
 f169:=Tryz.func63.trans (congrArg some (by kernel_rfl))
 f170:=Tryz.func70.trans (congrArg some (by kernel_rfl))
 f206:=Tryz.func114.trans (congrArg some (by kernel_rfl))
 f212:=Tryz.func68.trans (congrArg some (by kernel_rfl))
 f240:=Tryz.func108.trans (congrArg some (by kernel_rfl))
 f241:=Tryz.func109.trans (congrArg some (by kernel_rfl))
 f263:=Tryz.func112.trans (congrArg some (by kernel_rfl))
 f264:=Tryz.func113.trans (congrArg some (by kernel_rfl))
 f276:=Tryz.func174.trans (congrArg some (by kernel_rfl))
 f277:=Tryz.func175.trans (congrArg some (by kernel_rfl))
 t0:=Tryz.underlying0
 a0:=Tryz.isAgg0
 z0:=Tryz.sizeOf0
 v0:=Tryz.zeroValue0
 t3:=Tryz.underlying3
 a3:=Tryz.isAgg3
 z3:=Tryz.sizeOf3
 v3:=Tryz.zeroValue3
 t4:=Tryz.underlying4
 a4:=Tryz.isAgg4
 z4:=Tryz.sizeOf4
 v4:=Tryz.zeroValue4
 t5:=Tryz.underlying5
 a5:=Tryz.isAgg5
 z5:=Tryz.sizeOf5
 v5:=Tryz.zeroValue5
 t9:=Tryz.underlying9
 a9:=Tryz.isAgg9
 z9:=Tryz.sizeOf9
 v9:=Tryz.zeroValue9
 t20:=Tryz.underlying20
 a20:=Tryz.isAgg20
 z20:=Tryz.sizeOf20
 v20:=Tryz.zeroValue20
 t37:=Tryz.underlying119
 a37:=Tryz.isAgg119
 z37:=Tryz.sizeOf119
 v37:=Tryz.zeroValue119
 t46:=Tryz.underlying131
 a46:=Tryz.isAgg131
 z46:=Tryz.sizeOf131
 v46:=Tryz.zeroValue131
 t51:=Tryz.underlying194
 a51:=Tryz.isAgg194
 z51:=Tryz.sizeOf194
 v51:=Tryz.zeroValue194
 t53:=Tryz.underlying197
 a53:=Tryz.isAgg197
 z53:=Tryz.sizeOf197
 v53:=Tryz.zeroValue197
 t70:=Tryz.underlying118
 a70:=Tryz.isAgg118
 z70:=Tryz.sizeOf118
 v70:=Tryz.zeroValue118
 t72:=Tryz.underlying121
 a72:=Tryz.isAgg121
 z72:=Tryz.sizeOf121
 v72:=Tryz.zeroValue121
 t75:=Tryz.underlying124
 a75:=Tryz.isAgg124
 z75:=Tryz.sizeOf124
 v75:=Tryz.zeroValue124
 t76:=Tryz.underlying125
 a76:=Tryz.isAgg125
 z76:=Tryz.sizeOf125
 v76:=Tryz.zeroValue125
 t109:=Tryz.underlying132
 a109:=Tryz.isAgg132
 z109:=Tryz.sizeOf132
 v109:=Tryz.zeroValue132
 t127:=Tryz.underlying193
 a127:=Tryz.isAgg193
 z127:=Tryz.sizeOf193
 v127:=Tryz.zeroValue193
 t146:=Tryz.underlying195
 a146:=Tryz.isAgg195
 z146:=Tryz.sizeOf195
 v146:=Tryz.zeroValue195
 t148:=Tryz.underlying198
 a148:=Tryz.isAgg198
 z148:=Tryz.sizeOf198
 v148:=Tryz.zeroValue198
 t164:=Tryz.underlying237
 a164:=Tryz.isAgg237
 z164:=Tryz.sizeOf237
 v164:=Tryz.zeroValue237 }
theorem Tryz.Builder_Extra_105:Builder.Extra Tryz.prog Tryz.lays105_ren:={
 sizeBuilder:=by kernel_rfl
 liesBuilder:=by kernel_rfl
 t5:=Tryz.underlying5
 a5:=Tryz.isAgg5
 z5:=Tryz.sizeOf5
 v5:=Tryz.zeroValue5
 infoByte:=by kernel_rfl
 cellsByte:=by kernel_rfl
 sizeByte:=by kernel_rfl
 neB5:=by decide }
open Go.RowKit Go.Lib in
theorem Tryz.strings_Repeat (s:ByteArray) (c:Nat) (w:World) (hc:c≤9223372036854775807) (hlen:s.size * c≤140737488355328) :
  Calls Tryz.prog 29 #[.string s,.int .i64 c] w fun e w'=>e = .returned (.string ⟨(Lib.repeatL s.data.toList c).toArray⟩)∧Below w.heap.size w w':=Any.strings_Repeat Tryz.lays105 Tryz.Builder_Extra_105 s c w hc hlen
end Go.Proofs
namespace Go.Proofs.YtpffimahajgiaaaGreatDoor
open Go.RowKit
def orI:List Int→Int
 | []=>0
 | x::xs=>if x=0 then orI xs else x
theorem Zju (a b:ByteArray) (w:World):Calls Tryz.prog 99 #[.string a,.string b] w fun e w'=>e = .returned (.int .i64 (Lib.compareBytes a.data.toList b.data.toList))∧w=w':=
 (Tryz.strings_Compare a b w).mono fun _ _ ⟨a,b⟩=>⟨a,b.symm⟩
def Title.cmp (a b:Title):Int:=orI [Lib.compareInt a.space b.space,Lib.compareBytes a.name.data.toList b.name.data.toList]
theorem Zii:∀ a b:List UInt8,Lib.compareBytes a b=if Op.bytesLess a b=true then -1 else if a=b then 0 else 1
 | [],[]=>by simp [Lib.compareBytes,Op.bytesLess]
 | [],_::_=>by simp [Lib.compareBytes,Op.bytesLess]
 | _::_,[]=>by simp [Lib.compareBytes,Op.bytesLess]
 | x::a,y::b=>by
   have h:=Zii a b
   have e:x<y∨x=y∨y<x:=by
    rcases Nat.lt_trichotomy x.toNat y.toNat with h | h | h
    ·exact .inl h
    ·exact .inr (.inl (UInt8.toNat_inj.1 h))
    ·exact .inr (.inr h)
   rcases e with e | e | e
   ·simp [Lib.compareBytes,Op.bytesLess,e]
   ·subst e
    have hx:¬ x<x:=fun h=>by simp at h
    simp [Lib.compareBytes,Op.bytesLess,h]
   ·have hx:¬ x<y:=fun h=>by simp [UInt8.lt_iff_toNat_lt] at h e;omega
    have hne:¬ x=y:=fun h=>by subst h;simp at e
    simp [Lib.compareBytes,Op.bytesLess,hx,hne,e]
theorem Znj (a b:Title):Title.cmp a b=if a.space<b.space then -1 else if b.space<a.space then 1 else if Op.bytesLess a.name.toList b.name.toList=true then -1 else if a.name.toList=b.name.toList then 0 else 1:=by
 unfold Title.cmp orI Lib.compareInt
 rw [Zii,ByteArray.toList_eq,ByteArray.toList_eq]
 by_cases h1:a.space<b.space
 ·simp [h1]
 ·by_cases h2:b.space<a.space
  ·simp [h1,h2]
  ·simp only [h1,h2,if_false,if_true,orI]
   by_cases h:Op.bytesLess a.name.data.toList b.name.data.toList=true
   ·simp [h]
   ·by_cases h':a.name.data.toList=b.name.data.toList<;>simp [h,h']
set_option maxHeartbeats 400000 in
theorem ZdQ (a b:Title) (w:World):Calls Tryz.prog 36 #[.agg #[.int .i64 a.space,.string a.name],.agg #[.int .i64 b.space,.string b.name]] w fun e w'=>e = .returned (.int .i64 (Title.cmp a b))∧Below w.heap.size w w':=by
 go_enter Tryz.func36,Tryz.ntmps36
 go_wp2
 all_goals
  go_ret
  refine ⟨ZgK ?_,((Below.refl _ _).alloc (Nat.le_refl _) _).alloc (by simp) _⟩
  rw [Znj]
  first
   | (rw [if_pos (by omega)];done)
   | (rw [if_neg (by omega),if_neg (by omega),if_pos (by assumption)];done)
   | (rw [if_neg (by omega),if_pos (by omega)];done)
   | (rw [if_neg (by omega),if_neg (by omega),if_neg (by simp_all),if_pos (by assumption)];done)
   | (rw [if_neg (by omega),if_neg (by omega),if_neg (by simp_all),if_neg (by assumption)];done)
def Zdz (c:UInt8):UInt8:=if 65≤c.toNat∧c.toNat≤90 then UInt8.ofNat (c.toNat+32) else c
def Zaz (l:List UInt8):List UInt8:=l.map Zdz
def BytesAt (w:World) (g:Nat) (l:List UInt8):Prop:=
 g<w.heap.size∧∀ j c,l[j]? = some c→w.cell? ⟨g,j,none⟩=some (.int .u8 (c.toNat:Int))∧w.frozen? ⟨g,j,none⟩=false
theorem BytesAt.set {w:World} {g:Nat} {l:List UInt8} (h:BytesAt w g l) (k:Nat) (c:UInt8) (hk:k<l.length):BytesAt (w.setCell ⟨g,k,none⟩ (.int .u8 (c.toNat:Int))) g (l.set k c):=by
 refine ⟨by simpa [World.setCell] using h.1,fun j d hj=>?_⟩
 by_cases e:j=k
 ·subst e
  rw [List.getElem?_set_self hk] at hj
  obtain rfl:c=d:=by simpa using hj
  obtain ⟨h1,h2⟩:=h.2 j _ (List.getElem?_eq_getElem hk)
  exact ⟨World.cell?_setCell_same w ⟨g,j,none⟩ _ h1,by simpa using h2⟩
 ·rw [List.getElem?_set_ne (fun e'=>e e'.symm)] at hj
  obtain ⟨h1,h2⟩:=h.2 j d hj
  refine ⟨(World.cell?_setCell_other w ⟨g,k,none⟩ ⟨g,j,none⟩ _ (fun e'=>e (by injection e' with _ e2;exact e2.symm))).trans h1,by simpa using h2⟩
theorem BytesAt.back {P:Program} {w:World} {g cap:Nat} {l:List UInt8} (h:BytesAt w g l) (src dst e:TypeId) (hs:P.underlying src=some (.slice e)) (he:P.underlying e=some (.int .u8)) (hd:P.underlying dst=some .string) :
  (convert src dst (.slice (some ⟨g,0,none⟩) l.length cap)).run P w = .ok (.string ⟨l.toArray⟩) w:=
 run_convert_bytes_back w src dst e ⟨g,0,none⟩ cap l hs he hd fun j hj=>by
  have:=(h.2 j _ (List.getElem?_eq_getElem hj)).1
  unfold Addr.add
  split
  ·rename_i h0;subst h0;exact this
  ·simpa using this
theorem Zjp {P:Program} (w:World) (src dst e:TypeId) (s:ByteArray) (hs:P.underlying src=some .string) (hd:P.underlying dst=some (.slice e)) (he:P.underlying e=some (.int .u8)) :
  ∃ cap w1,(convert src dst (.string s)).run P w = .ok (.slice (some ⟨w.heap.size,0,none⟩) s.size cap) w1∧Below w.heap.size w w1∧BytesAt w1 w.heap.size s.data.toList:=by
 refine ⟨_,_,run_bytes_of_string w src dst e s hs hd he,(Below.refl _ _).drew.alloc (Nat.le_refl _) _,by simp,fun j c hj=>?_⟩
 have hjl:j<s.data.size:=by have:=(List.getElem?_eq_some_iff.1 hj).1;simpa using this
 have hc:c=s.data[j]:=by
  rw [List.getElem?_eq_getElem (by simpa using hjl)] at hj
  simpa using hj.symm
 constructor
 ·exact (World.cell?_alloc_mark w.drew _ _ _ j).trans (by rw [bytesRow_at _ _ _ hjl,hc])
 ·refine (World.frozen?_alloc_mark w.drew _ _ _ _ j).trans ?_
  have:j<(bytesRow s (grownCap w s.size 0 e)).size:=by simp only [bytesRow,Array.size_append,Array.size_map];omega
  simp;omega
theorem Zhn (l:List UInt8) (q:Nat) (c:UInt8) (hc:l[q]? = some c):(Zaz (l.take q)++l.drop q).set q (Zdz c)=Zaz (l.take (q+1))++l.drop (q+1):=by
 have hq:q<l.length:=(List.getElem?_eq_some_iff.1 hc).1
 have hl:(Zaz (l.take q)).length=q:=by simp [Zaz];omega
 have hg:l[q]=c:=by rw [List.getElem?_eq_getElem hq] at hc;simpa using hc
 rw [List.set_append_right _ _ (by omega),hl,Nat.sub_self,List.drop_eq_getElem_cons hq,List.set_cons_zero,List.take_succ_eq_append_getElem hq,hg]
 simp [Zaz]
theorem ZkA (l:List UInt8) (q:Nat) (c:UInt8) (hc:l[q]? = some c) (he:Zdz c=c):Zaz (l.take q)++l.drop q=Zaz (l.take (q+1))++l.drop (q+1):=by
 rw [← Zhn l q c hc,he]
 have hq:q<l.length:=(List.getElem?_eq_some_iff.1 hc).1
 have hl:(Zaz (l.take q)).length=q:=by simp [Zaz];omega
 have hg:l[q]=c:=by rw [List.getElem?_eq_getElem hq] at hc;simpa using hc
 rw [List.set_append_right _ _ (by omega),hl,Nat.sub_self,List.drop_eq_getElem_cons hq,List.set_cons_zero,hg]
theorem Zng (l:List UInt8) (q:Nat) (c:UInt8) (hc:l[q]? = some c):(Zaz (l.take q)++l.drop q)[q]? = some c:=by
 have hq:q<l.length:=(List.getElem?_eq_some_iff.1 hc).1
 have hl:(Zaz (l.take q)).length=q:=by simp [Zaz];omega
 rw [List.getElem?_append_right (by omega),hl,Nat.sub_self,List.getElem?_drop]
 simpa using hc
set_option maxHeartbeats 400000 in
set_option maxRecDepth 100000 in
theorem Zdv (s:ByteArray) (w:World) (hs:s.size≤9223372036854775807):Calls Tryz.prog 128 #[.string s] w fun e w'=>e = .returned (.string ⟨(Zaz s.data.toList).toArray⟩)∧Below w.heap.size w w':=by
 obtain ⟨cap,w1,hconv,hb,hB⟩:=Zjp (P:=Tryz.prog) w 9 119 5 s Tryz.underlying9 Tryz.underlying119 Tryz.underlying5
 have HB:=Lib.hid hb
 have HBB:=Lib.hid hB
 clear hb hB
 have HL:Hid (s.data.toList.length=s.size):=Lib.hid (Array.length_toList)
 go_enter Tryz.func128,Tryz.ntmps128
 go_wp2
 go_loopw [4,5,10] (fun _ _ i wr=>∃ q:Nat,q≤s.size∧i = .int .i64 q∧Below w.heap.size w wr∧BytesAt wr w.heap.size (Zaz (s.data.toList.take q)++s.data.toList.drop q)) (fun _ _ i _=>s.size - (intOf i).toNat)
 case atStart=>exact ⟨0,Nat.zero_le _,rfl,HB.out,by simpa [Zaz] using HBB.out⟩
 case round=>
  obtain ⟨q,hq,rfl,hbw,hBw⟩:=hrel
  by_cases hlt:q<s.size
  ·obtain ⟨x,hx⟩:∃ x,s.data.toList[q]? = some x:=⟨_,List.getElem?_eq_getElem (by rw [HL.out];exact hlt)⟩
   obtain ⟨c0,f0⟩:=hBw.2 q x (Zng _ _ _ hx)
   have HX:=Lib.hid hx
   have HW:=Lib.hid hBw
   have HQ:=Lib.hid hbw
   clear hx hBw hbw hconv
   have hx1:(x.toNat:Int)<256:=by have:=x.toNat_lt;omega
   by_cases h1:(65:Int)≤x.toNat∧(x.toNat:Int)≤90
   ·obtain ⟨h1,h2⟩:=h1
    go_wp2
    go_roundw
    case rel=>
     refine ⟨q+1,by omega,by go_num,HQ.out.setCell (Nat.le_refl _) _,?_⟩
     have hl:Zdz x=UInt8.ofNat (x.toNat+32):=by unfold Zdz;rw [if_pos (by omega)]
     have hl2:((Zdz x).toNat:Int)=(x.toNat:Int)+32:=by rw [hl];simp;omega
     rw [← Zhn _ _ _ HX.out,← hl2]
     exact HW.out.set q _ (by rw [List.length_append];simp [Zaz];omega)
    case measure=>simp [intOf];omega
   ·have hk:Zdz x=x:=by unfold Zdz;rw [if_neg (by omega)]
    have HK:=Lib.hid hk
    clear hk
    have h3:(x.toNat:Int)<65∨((65:Int)≤x.toNat∧(90:Int)<x.toNat):=by omega
    clear h1
    rcases h3 with h2 | ⟨h2,h3⟩
    all_goals
     go_wp2
     go_roundw
     case rel=>exact ⟨q+1,by omega,by go_num,HQ.out,by rw [← ZkA _ _ _ HX.out HK.out];exact HW.out⟩
     case measure=>simp [intOf];omega
  ·obtain rfl:q=s.size:=by omega
   have hz:Zaz (s.data.toList.take s.size)++s.data.toList.drop s.size=Zaz s.data.toList:=by
    rw [List.take_of_length_le (by rw [HL.out];omega),List.drop_eq_nil_of_le (by rw [HL.out];omega),List.append_nil]
   rw [hz] at hBw
   have hback:=hBw.back (P:=Tryz.prog) (cap:=cap) 119 9 5 Tryz.underlying119 Tryz.underlying5 Tryz.underlying9
   rw [show (Zaz s.data.toList).length=s.size by rw [Zaz,List.length_map];exact HL.out] at hback
   have HQ:=Lib.hid hbw
   clear hz hBw hbw hconv
   go_wp2
   go_ret
   exact ⟨rfl,HQ.out⟩
def ZnJ (w:World):Prop:=∃ m,w.cell? ⟨0,0,none⟩=some (.int .i64 m)
theorem Zn2 (s sep:List UInt8):(Lib.cut s sep).1.length≤s.length:=by
 unfold Lib.cut
 split
 ·simp;omega
 ·exact Nat.le_refl _
theorem ZgA (s p:List UInt8):(Lib.trimSuffix s p).length≤s.length:=by
 unfold Lib.trimSuffix
 split
 ·rw [List.length_take];omega
 ·exact Nat.le_refl _
def ZaO (n:List UInt8):Int:=
 if n = [116,97,108,107] then 1 else if n = [117,115,101,114] then 2 else if n = [116,101,109,112,108,97,116,101] then 3 else if n = [99,97,116,101,103,111,114,121] then 4 else if n = [112,114,111,106,101,99,116] then 5 else 0
def Zbu (s:List UInt8):Option (Int×List UInt8):=
 if (Lib.cut s [58]).2.2=true∧ZaO (Zaz (Lib.trimSuffix (Lib.cut s [58]).1 [32]))≠0 then some (ZaO (Zaz (Lib.trimSuffix (Lib.cut s [58]).1 [32])),(Lib.cut s [58]).2.1) else none
def ZgB (s:List UInt8):Value:=match Zbu s with
 | some (n,r)=>.tuple #[.int .i64 n,.string ⟨r.toArray⟩,.bool true]
 | none=>.tuple #[.int .i64 0,.string ⟨#[]⟩,.bool false]
set_option maxHeartbeats 400000 in
theorem Zjk (w:World):Calls Tryz.prog 55 #[] w fun e w'=>e = .returned (.agg #[.string ⟨#[]⟩,.string ⟨#[84,97,108,107]⟩,.string ⟨#[85,115,101,114]⟩,.string ⟨#[84,101,109,112,108,97,116,101]⟩,.string ⟨#[67,97,116,101,103,111,114,121]⟩,.string ⟨#[80,114,111,106,101,99,116]⟩])∧Below w.heap.size w w':=by
 go_enter Tryz.func55,Tryz.ntmps55
 go_wp2
 exact bodyPost_ret (v:=.agg #[.string ⟨#[]⟩,.string ⟨#[84,97,108,107]⟩,.string ⟨#[85,115,101,114]⟩,.string ⟨#[84,101,109,112,108,97,116,101]⟩,.string ⟨#[67,97,116,101,103,111,114,121]⟩,.string ⟨#[80,114,111,106,101,99,116]⟩]) (by simp [results,Tryz.results55,go_sem]) rfl ⟨rfl,Below.al (Below.refl _ _) _⟩
def Zap (q:Nat):List UInt8:=match q with | 1=>[116,97,108,107] | 2=>[117,115,101,114] | 3=>[116,101,109,112,108,97,116,101] | 4=>[99,97,116,101,103,111,114,121] | 5=>[112,114,111,106,101,99,116] | _=>[]
theorem Zcv (n:List UInt8) (h:∀ j,1≤j→j<6→n≠Zap j):ZaO n=0:=by
 have h1:=h 1 (by decide) (by decide)
 have h2:=h 2 (by decide) (by decide)
 have h3:=h 3 (by decide) (by decide)
 have h4:=h 4 (by decide) (by decide)
 have h5:=h 5 (by decide) (by decide)
 simp only [Zap] at h1 h2 h3 h4 h5
 simp only [ZaO,h1,h2,h3,h4,h5,if_false]
theorem Zdb (j:Nat) (h1:1≤j) (h6:j<6):ZaO (Zap j)=j:=by
 obtain rfl | rfl | rfl | rfl | rfl:j=1∨j=2∨j=3∨j=4∨j=5:=by omega
 all_goals decide
set_option maxRecDepth 100000 in
set_option maxHeartbeats 1000000 in
theorem ZfT (s:ByteArray) (w:World) (hs:s.size<4294967281) (hG:ZnJ w):Calls Tryz.prog 84 #[.string s] w fun e w'=>e = .returned (ZgB s.data.toList)∧Below w.heap.size w w':=by
 obtain ⟨m,hm⟩:=hG
 have HF:Hid (ZgB s.data.toList=match Zbu s.data.toList with
  | some (n,r)=>.tuple #[.int .i64 n,.string ⟨r.toArray⟩,.bool true]
  | none=>.tuple #[.int .i64 0,.string ⟨#[]⟩,.bool false]):=Lib.hid rfl
 unfold Zbu at HF
 have hl1:(Lib.cut s.data.toList [58]).1.length≤s.data.toList.length:=Zn2 _ _
 go_enter Tryz.func84,Tryz.ntmps84
 go_wp2_with fail
 refine (Tryz.strings_Cut s _ m _ hs hm).mono ?_
 rintro e w1 ⟨rfl,n1,rfl⟩
 rw [show (⟨#[58]⟩:ByteArray).data.toList = [58] from rfl]
 generalize Lib.cut s.data.toList [58]=C at *
 obtain ⟨b,a,ok⟩:=C
 cases ok
 ·go_wp2
  go_ret3
  exact ⟨by rw [HF.out];simp,Below.dn (Below.refl _ _) _⟩
 ·go_wp2_with fail
  refine (Tryz.strings_TrimSuffix _ _ _ (by have:=s.data.toList.length;simp only [ByteArray.size,Array.length_toList,List.size_toArray] at hl1 hs ⊢;omega)).mono ?_
  rintro e w1 ⟨rfl,rfl⟩
  go_wp2_with fail
  refine (Zdv _ _ (by have h2:=ZgA b [32];simp only [ByteArray.size,Array.length_toList,List.size_toArray] at hl1 hs h2 ⊢;omega)).mono ?_
  rintro e w1 ⟨rfl,hb1⟩
  go_wp2_with fail
  refine (Zjk _).mono ?_
  rintro e w2 ⟨rfl,hb2⟩
  have HB:=Lib.hid (Below.tr (Below.tr (Below.dn (Below.refl _ _) _) hb1) hb2)
  clear hb1 hb2 hm hs hl1
  generalize Zaz (Lib.trimSuffix b [32])=N at *
  simp only [true_and] at HF
  go_wp2_with fail
  go_loopw [23] (fun i wr=>∃ z:Int,0≤z∧z≤6∧i = .int .i64 z∧Below w2.heap.size w2 wr∧Hid (∀ j:Nat,1≤j→(j:Int)<z→N≠Zap j)) (fun i _=>6 - (intOf i).toNat)
  case atStart=>exact ⟨0,by omega,by omega,rfl,Below.refl _ _,fun j _ h=>absurd h (by omega)⟩
  case round=>
   obtain ⟨z,hz0,hz6,rfl,hbw,hno⟩:=hrel
   have HQ:=Lib.hid hbw
   clear hbw
   by_cases h6:z=6
   ·subst h6
    have hz:ZaO N=0:=Zcv N fun j h1 h2=>hno.out j h1 (by omega)
    rw [hz] at HF
    clear hz
    go_wp2
    go_ret3
    exact ⟨by rw [HF.out];simp,Below.tr HB.out HQ.out⟩
   ·have hq6:z=0∨z=1∨z=2∨z=3∨z=4∨z=5:=by omega
    clear h6 hz0 hz6
    have ix:∀ w (z:Int) (x:Value),(#[Value.string { data:=#[] },Value.string { data:=#[84,97,108,107] },Value.string { data:=#[85,115,101,114] },Value.string { data:=#[84,101,109,112,108,97,116,101] },Value.string { data:=#[67,97,116,101,103,111,114,121] },Value.string { data:=#[80,114,111,106,101,99,116] }]:Array Value)[z.toNat]? = some x→0≤z→z<6→
     (Instr.index 112 (.agg #[Value.string { data:=#[] },Value.string { data:=#[84,97,108,107] },Value.string { data:=#[85,115,101,114] },Value.string { data:=#[84,101,109,112,108,97,116,101] },Value.string { data:=#[67,97,116,101,103,111,114,121] },Value.string { data:=#[80,114,111,106,101,99,116] }]) (.int .i64 z)).run Tryz.prog w = .ok x w:=by
     intro w z x h h0 h6
     obtain rfl | rfl | rfl | rfl | rfl | rfl:z=0∨z=1∨z=2∨z=3∨z=4∨z=5:=by omega
     all_goals
      (simp at h;subst h;kernel_rfl)
    rcases hq6 with rfl | rfl | rfl | rfl | rfl | rfl
    ·have i0:=fun w=>ix w 0 _ rfl (by decide) (by decide)
     clear ix
     go_wp2
     go_roundw
     case rel=>exact ⟨1,by omega,by omega,rfl,HQ.out,fun j h1 h2=>absurd h2 (by omega)⟩
     case measure=>simp [intOf]
    ·have i0:=fun w=>ix w 1 _ rfl (by decide) (by decide)
     clear ix
     go_wp2_with (go_at_call 128;refine (Zdv _ _ (by decide)).mono ?_;rintro e w5 ⟨rfl,hb5⟩)
     ·have h:(N == Zaz [84,97,108,107])=true:=by assumption
      have hN:N=Zap 1:=(beq_iff_eq.1 h).trans (by decide)
      have hz:ZaO N=1:=by rw [hN];decide
      go_ret3
      exact ⟨by rw [HF.out,hz];simp,Below.tr HB.out (Below.tr HQ.out hb5)⟩
     ·go_roundw
      case rel=>
       have h:(N == Zaz [84,97,108,107])=false:=by assumption
       have hN:N≠Zap 1:=fun e=>beq_eq_false_iff_ne.1 h (e.trans (by decide))
       refine ⟨1+1,by omega,by omega,rfl,Below.tr HQ.out hb5,fun j h1 h2=>?_⟩
       rcases Nat.lt_or_ge j 1 with hj | hj
       ·exact hno.out j h1 (by omega)
       ·obtain rfl:j=1:=by omega
        exact hN
      case measure=>simp [intOf]
    ·have i0:=fun w=>ix w 2 _ rfl (by decide) (by decide)
     clear ix
     go_wp2_with (go_at_call 128;refine (Zdv _ _ (by decide)).mono ?_;rintro e w5 ⟨rfl,hb5⟩)
     ·have h:(N == Zaz [85,115,101,114])=true:=by assumption
      have hN:N=Zap 2:=(beq_iff_eq.1 h).trans (by decide)
      have hz:ZaO N=2:=by rw [hN];decide
      go_ret3
      exact ⟨by rw [HF.out,hz];simp,Below.tr HB.out (Below.tr HQ.out hb5)⟩
     ·go_roundw
      case rel=>
       have h:(N == Zaz [85,115,101,114])=false:=by assumption
       have hN:N≠Zap 2:=fun e=>beq_eq_false_iff_ne.1 h (e.trans (by decide))
       refine ⟨2+1,by omega,by omega,rfl,Below.tr HQ.out hb5,fun j h1 h2=>?_⟩
       rcases Nat.lt_or_ge j 2 with hj | hj
       ·exact hno.out j h1 (by omega)
       ·obtain rfl:j=2:=by omega
        exact hN
      case measure=>simp [intOf]
    ·have i0:=fun w=>ix w 3 _ rfl (by decide) (by decide)
     clear ix
     go_wp2_with (go_at_call 128;refine (Zdv _ _ (by decide)).mono ?_;rintro e w5 ⟨rfl,hb5⟩)
     ·have h:(N == Zaz [84,101,109,112,108,97,116,101])=true:=by assumption
      have hN:N=Zap 3:=(beq_iff_eq.1 h).trans (by decide)
      have hz:ZaO N=3:=by rw [hN];decide
      go_ret3
      exact ⟨by rw [HF.out,hz];simp,Below.tr HB.out (Below.tr HQ.out hb5)⟩
     ·go_roundw
      case rel=>
       have h:(N == Zaz [84,101,109,112,108,97,116,101])=false:=by assumption
       have hN:N≠Zap 3:=fun e=>beq_eq_false_iff_ne.1 h (e.trans (by decide))
       refine ⟨3+1,by omega,by omega,rfl,Below.tr HQ.out hb5,fun j h1 h2=>?_⟩
       rcases Nat.lt_or_ge j 3 with hj | hj
       ·exact hno.out j h1 (by omega)
       ·obtain rfl:j=3:=by omega
        exact hN
      case measure=>simp [intOf]
    ·have i0:=fun w=>ix w 4 _ rfl (by decide) (by decide)
     clear ix
     go_wp2_with (go_at_call 128;refine (Zdv _ _ (by decide)).mono ?_;rintro e w5 ⟨rfl,hb5⟩)
     ·have h:(N == Zaz [67,97,116,101,103,111,114,121])=true:=by assumption
      have hN:N=Zap 4:=(beq_iff_eq.1 h).trans (by decide)
      have hz:ZaO N=4:=by rw [hN];decide
      go_ret3
      exact ⟨by rw [HF.out,hz];simp,Below.tr HB.out (Below.tr HQ.out hb5)⟩
     ·go_roundw
      case rel=>
       have h:(N == Zaz [67,97,116,101,103,111,114,121])=false:=by assumption
       have hN:N≠Zap 4:=fun e=>beq_eq_false_iff_ne.1 h (e.trans (by decide))
       refine ⟨4+1,by omega,by omega,rfl,Below.tr HQ.out hb5,fun j h1 h2=>?_⟩
       rcases Nat.lt_or_ge j 4 with hj | hj
       ·exact hno.out j h1 (by omega)
       ·obtain rfl:j=4:=by omega
        exact hN
      case measure=>simp [intOf]
    ·have i0:=fun w=>ix w 5 _ rfl (by decide) (by decide)
     clear ix
     go_wp2_with (go_at_call 128;refine (Zdv _ _ (by decide)).mono ?_;rintro e w5 ⟨rfl,hb5⟩)
     ·have h:(N == Zaz [80,114,111,106,101,99,116])=true:=by assumption
      have hN:N=Zap 5:=(beq_iff_eq.1 h).trans (by decide)
      have hz:ZaO N=5:=by rw [hN];decide
      go_ret3
      exact ⟨by rw [HF.out,hz];simp,Below.tr HB.out (Below.tr HQ.out hb5)⟩
     ·go_roundw
      case rel=>
       have h:(N == Zaz [80,114,111,106,101,99,116])=false:=by assumption
       have hN:N≠Zap 5:=fun e=>beq_eq_false_iff_ne.1 h (e.trans (by decide))
       refine ⟨5+1,by omega,by omega,rfl,Below.tr HQ.out hb5,fun j h1 h2=>?_⟩
       rcases Nat.lt_or_ge j 5 with hj | hj
       ·exact hno.out j h1 (by omega)
       ·obtain rfl:j=5:=by omega
        exact hN
      case measure=>simp [intOf]
def Zdi:List UInt8:=[60,62,91,93,123,125,124,35,95]
def Zbl:Int→List UInt8→Bool
 | _,[]=>true
 | p,c::r=>if (c.toNat:Int)<32∨(c.toNat:Int)=127∨0≤Lib.indexByte Zdi c∨((c.toNat:Int)=32∧p=32) then false else Zbl c.toNat r
theorem ZcQ {p:Int} {c:UInt8} {r:List UInt8} (h:(c.toNat:Int)<32∨(c.toNat:Int)=127∨0≤Lib.indexByte Zdi c∨((c.toNat:Int)=32∧p=32)):Zbl p (c::r)=false:=by
 simp only [Zbl,if_pos h]
theorem Zed {p:Int} {c:UInt8} {r:List UInt8} (h:¬((c.toNat:Int)<32∨(c.toNat:Int)=127∨0≤Lib.indexByte Zdi c∨((c.toNat:Int)=32∧p=32))):Zbl p (c::r)=Zbl c.toNat r:=by
 simp only [Zbl,if_neg h]
def ZcX (s:ByteArray) (q:Nat):Int:=if h:0<q∧q - 1<s.size then ((s[q - 1]'h.2).toNat:Int) else -1
set_option maxRecDepth 100000 in
set_option maxHeartbeats 1000000 in
theorem ZhC (s:ByteArray) (w:World) (hs:s.size≤9223372036854775807):Calls Tryz.prog 82 #[.string s] w fun e w'=>e = .returned (.bool (Zbl (-1) s.data.toList))∧w=w':=by
 go_enter Tryz.func82,Tryz.ntmps82
 go_wp2
 go_loop [3,4] (fun i _=>∃ q:Nat,q≤s.size∧i = .int .i64 q∧Hid (Zbl (-1) s.data.toList=Zbl (ZcX s q) (s.data.toList.drop q))) (fun i _=>s.size - (intOf i).toNat)
 case atStart=>exact ⟨0,Nat.zero_le _,rfl,rfl⟩
 case round=>
  obtain ⟨q,hq,rfl,hC⟩:=hrel
  by_cases hlt:q<s.size
  ·have HD:Hid (s.data.toList.drop q=s[q]::s.data.toList.drop (q+1)):=List.drop_eq_getElem_cons (by rw [Array.length_toList];exact hlt)
   have HP':Hid (ZcX s (q+1)=((s[q]'hlt).toNat:Int)):=by unfold ZcX;rw [dif_pos ⟨Nat.succ_pos q,hlt⟩];rfl
   by_cases h0:q=0
   ·subst h0
    have HP:Hid (ZcX s 0 = -1):=rfl
    go_wp2_with (go_at_call 125;refine (Tryz.strings_IndexByte _ _ _).mono ?_;rintro e w' ⟨rfl,rfl⟩)
    all_goals (try simp only [beq_iff_eq,beq_eq_false_iff_ne,ne_eq] at *)
    all_goals first
     | (exfalso;omega)
     | (go_ret;refine ⟨Zas ?_,rfl⟩;rw [hC.out,HD.out];refine (ZcQ ?_).symm;rw [HP.out];unfold Zdi;omega)
     | (go_round;(case rel=>(refine ⟨1,by omega,rfl,?_⟩;rw [hC.out,HD.out,Zed (by rw [HP.out];unfold Zdi;omega)];exact congrArg (fun p=>Zbl p (s.data.toList.drop (0+1))) HP'.out.symm));(case measure=>(simp [intOf];omega)))
   ·have HP:Hid (ZcX s q=((s[q - 1]'(by omega)).toNat:Int)):=by unfold ZcX;rw [dif_pos ⟨by omega,by omega⟩];exact Lib.hid rfl
    have h1:0<q:=by omega
    clear h0
    go_wp2_with (go_at_call 125;refine (Tryz.strings_IndexByte _ _ _).mono ?_;rintro e w' ⟨rfl,rfl⟩)
    all_goals (try simp only [beq_iff_eq,beq_eq_false_iff_ne,ne_eq] at *)
    all_goals first
     | (exfalso;omega)
     | (go_ret;refine ⟨Zas ?_,rfl⟩;rw [hC.out,HD.out];refine (ZcQ ?_).symm;rw [HP.out];unfold Zdi;omega)
     | (go_round;(case rel=>(refine ⟨q+1,by omega,by go_num,?_⟩;rw [hC.out,HD.out,Zed (by rw [HP.out];unfold Zdi;omega)];exact congrArg (fun p=>Zbl p (s.data.toList.drop (q+1))) HP'.out.symm));(case measure=>(simp [intOf];omega)))
  ·obtain rfl:q=s.size:=by omega
   have hz:s.data.toList.drop s.size = []:=List.drop_eq_nil_of_le (by rw [Array.length_toList];exact Nat.le_refl _)
   have HZ:Hid (Zbl (-1) s.data.toList=true):=by rw [hC.out,hz];exact rfl
   clear hz hC
   go_wp2
   go_ret
   exact ⟨Zas HZ.out.symm,rfl⟩
theorem ZkS (s:ByteArray):Lib.countB s ⟨#[47]⟩≤s.size:=by
 have h:=Lib.countB_mul_le ⟨#[47]⟩ (by decide) s.size s (Nat.le_refl _)
 have e:(⟨#[47]⟩:ByteArray).size=1:=rfl
 rw [e] at h
 omega
theorem Zmf:∀ (l:List UInt8) (h:0<l.length),l.headD 0=l[0]
 | _::_,_=>rfl
theorem ZkT (s:ByteArray) (h:0<s.size):s.data.toList.headD 0=s[0]:=
 Zmf _ (by rw [Array.length_toList];exact h)
theorem Zio (s:ByteArray) (w:World) (hs:s.size<4294967281) (hG:ZnJ w) (h:Zbu s.data.toList=none):Calls Tryz.prog 84 #[.string s] w fun e w'=>e = .returned (.tuple #[.int .i64 0,.string ⟨#[]⟩,.bool false])∧Below w.heap.size w w':=
 (ZfT s w hs hG).mono fun _ _ ⟨he,hb⟩=>⟨he.trans (by unfold ZgB;rw [h]),hb⟩
theorem Zip (s:ByteArray) (w:World) (hs:s.size<4294967281) (hG:ZnJ w) {n:Int} {r:List UInt8} (h:Zbu s.data.toList=some (n,r)):Calls Tryz.prog 84 #[.string s] w fun e w'=>e = .returned (.tuple #[.int .i64 n,.string ⟨r.toArray⟩,.bool true])∧Below w.heap.size w w':=
 (ZfT s w hs hG).mono fun _ _ ⟨he,hb⟩=>⟨he.trans (by unfold ZgB;rw [h]),hb⟩
theorem ZdU (sep:ByteArray):∀ (k:Nat) (s p:ByteArray),p ∈ Lib.splitB sep 0 k s→p.size≤s.size
 | 0,s,p,h=>by
   rw [Lib.splitB_zero] at h
   simp at h
   rw [h];exact Nat.le_refl _
 | k+1,s,p,h=>by
   rcases Lib.index_spec s.data.toList sep.data.toList with ⟨h1,_⟩ | ⟨i,h1,_⟩
   ·rw [Lib.splitB_miss sep 0 (k+1) s h1] at h
    simp at h
    rw [h];exact Nat.le_refl _
   ·rw [Lib.splitB_hit sep 0 k s i h1] at h
    rcases List.mem_cons.1 h with h | h
    ·rw [h,ByteArray.size_extract];omega
    ·have:=ZdU sep k _ p h
     rw [ByteArray.size_extract] at this
     omega
def ZbT (p:List UInt8):Bool:=decide (p≠[])&&decide (p[0]?≠some 32)&&decide (p.getLast?≠some 32)
theorem Zok (a:UInt8):decide (some a≠some 32) = !((a.toNat:Int) == 32):=by
 by_cases h:a=32
 ·subst h;rfl
 ·have h2:a.toNat≠32:=fun e=>h (UInt8.toNat_inj.1 e)
  have h3:((a.toNat:Int) == 32)=false:=by rw [beq_eq_false_iff_ne];omega
  rw [h3];simp [h]
theorem Zf7 (x:ByteArray) (h:0<x.size):ZbT x.data.toList = !((x[0].toNat:Int) == 32||((x[x.size - 1]'(by omega)).toNat:Int) == 32):=by
 have hl:x.data.toList.length=x.size:=Array.length_toList
 have h1:x.data.toList≠[]:=fun e=>by rw [e] at hl;simp at hl;omega
 have h2:x.data.toList[0]? = some x[0]:=List.getElem?_eq_getElem (by omega)
 have h3:x.data.toList.getLast? = some (x[x.size - 1]'(by omega)):=by
  rw [List.getLast?_eq_getElem?,hl]
  exact List.getElem?_eq_getElem (by omega)
 unfold ZbT
 rw [h2,h3,Zok,Zok]
 simp [h1]
def Zdj (c:Int):Bool:=decide (c≠58) && !(decide (97≤c)&&decide (c≤122))
theorem ZdV {c:Int} (h:c=58):Zdj c=false:=by subst h;rfl
theorem ZdW {c:Int} (h:97≤c) (h':c≤122):Zdj c=false:=by simp [Zdj,h,h']
theorem ZcR {c:Int} (h:c≠58) (h':c<97∨122<c):Zdj c=true:=by
 unfold Zdj
 have:¬ (97≤c∧c≤122):=by omega
 simp [h];omega
def Title.valid (t:Title):Bool:=
 decide (0≤t.space)&&decide (t.space<6)&&decide (1≤t.name.size)&&decide (t.name.size≤100)&&Zbl (-1) t.name.data.toList &&
 (Lib.splitB ⟨#[47]⟩ 0 (Lib.countB t.name ⟨#[47]⟩) t.name).all (fun p=>ZbT p.data.toList) &&
 Zdj (t.name.data.toList.headD 0).toNat &&
 (decide (t.space≠0)||decide (Zbu t.name.data.toList=none))
set_option maxRecDepth 100000 in
set_option maxHeartbeats 1000000 in
theorem ZhD (t:Title) (w:World) (hG:ZnJ w):Calls Tryz.prog 40 #[.agg #[.int .i64 t.space,.string t.name]] w fun e w'=>e = .returned (.bool t.valid)∧Below w.heap.size w w':=by
 obtain ⟨m,hm⟩:=hG
 obtain ⟨sp,s⟩:=t
 by_cases h:(0≤sp∧sp<6)∧(1≤s.size∧s.size≤100)∧Zbl (-1) s.data.toList=true
 ·obtain ⟨⟨h1,h2⟩,⟨h3,h4⟩,h5⟩:=h
  go_enter Tryz.func40,Tryz.ntmps40
  go_wp2_with (first | (go_at_call 82;refine (ZhC _ _ (by omega)).mono ?_;rintro e w' ⟨rfl,rfl⟩) | (go_at_call 83;refine (Tryz.strings_Split _ _ m _ (by omega) (by exact re1 (Below.al (Below.refl _ _) _) (ZbX hm) hm) (by decide)).mono ?_;rintro e w' ⟨rfl,rfl⟩))
  have hcl:=Lib.splitB_all ⟨#[47]⟩ (by decide) 0 _ s rfl
  have hb:Below w.heap.size w ((w.alloc (Obj.cells #[Value.int IntKind.i64 sp,Value.string s] 34)).alloc (Obj.cells (List.map Value.string (Lib.splitB { data:=#[47] } 0 (Lib.countB s { data:=#[47] }) s)).toArray 9)):=Below.al (Below.al (Below.refl _ _) _) _
  have hS:=SlR.strs (w.alloc (Obj.cells #[Value.int IntKind.i64 sp,Value.string s] 34)) 9 (n:=Lib.countB s { data:=#[47] }+1) (Lib.splitB { data:=#[47] } 0 (Lib.countB s { data:=#[47] }) s) hcl.symm (by have:=ZkS s;omega)
  have e1:(w.alloc (Obj.cells #[Value.int IntKind.i64 sp,Value.string s] 34)).heap.size=w.heap.size+1:=by simp
  rw [e1] at hS
  have c0:((w.alloc (Obj.cells #[Value.int IntKind.i64 sp,Value.string s] 34)).alloc (Obj.cells (List.map Value.string (Lib.splitB { data:=#[47] } 0 (Lib.countB s { data:=#[47] }) s)).toArray 9)).cell? ⟨w.heap.size,0,none⟩=some (.int .i64 sp):=by go_simp
  generalize (w.alloc (Obj.cells #[Value.int IntKind.i64 sp,Value.string s] 34)).alloc (Obj.cells (List.map Value.string (Lib.splitB { data:=#[47] } 0 (Lib.countB s { data:=#[47] }) s)).toArray 9)=w2 at *
  have HB:=Lib.hid hb
  clear hb e1 hcl
  have hsp:Title.valid ⟨sp,s⟩=((Lib.splitB { data:=#[47] } 0 (Lib.countB s { data:=#[47] }) s).all (fun p=>ZbT p.data.toList)&&(Zdj (s.data.toList.headD 0).toNat &&
   (decide (sp≠0)||decide (Zbu s.data.toList=none)))):=by simp [Title.valid,h1,h2,h3,h4,h5,Bool.and_assoc]
  have splitB_sizes:=fun p h=>Nat.le_trans (ZdU ⟨#[47]⟩ (Lib.countB s ⟨#[47]⟩) s p h) h4
  generalize Lib.countB s { data:=#[47] }=K at *
  generalize Lib.splitB { data:=#[47] } 0 K s=ps at *
  have HSP:=Lib.hid hsp
  have HK:=Lib.hid hS.1
  have hle:=hS.le
  clear hsp
  go_loopw [5,37] (fun _ i wr=>∃ q:Nat,q≤K+1∧i = .int .i64 q∧Below w2.heap.size w2 wr∧Hid (ps.all (fun p=>ZbT p.data.toList)=(ps.drop q).all (fun p=>ZbT p.data.toList))) (fun _ i _=>K+1 - (intOf i).toNat)
  case atStart=>exact ⟨0,by omega,rfl,Below.refl _ _,rfl⟩
  case round=>
   obtain ⟨q,hq,rfl,hbw,hA⟩:=hrel
   have HW:=Lib.hid hbw
   by_cases hlt:q<K+1
   ·obtain ⟨b,off,x,cs,hA0,hbl,hx,hd,hR,hc⟩:=(hS.mono hbw).elem hlt
    obtain ⟨rfl,rfl⟩:w.heap.size+1=b∧0=off:=by injection hA0 with h;injection h with h1 h2;exact ⟨h1,h2⟩
    have d0:wr.cell? ⟨w.heap.size+1,q,none⟩=some (.string x):=by subst hR;simpa using hc 0 _ rfl
    have HD:=Lib.hid hd
    have hxs:=splitB_sizes x (List.mem_of_getElem? hx)
    clear hA0 hx hd hR hc hbw hS h5 h1 h2 hbl splitB_sizes
    by_cases hx0:x.size=0
    ·have hx1:x.toList = []:=by rw [ByteArray.toList_eq];exact List.eq_nil_of_length_eq_zero (by rw [Array.length_toList];exact hx0)
     have HP:Hid (ZbT x.data.toList=false):=Lib.hid (by rw [← ByteArray.toList_eq,hx1];rfl)
     clear hx0
     go_wp2
     go_ret
     exact ⟨Zas (by rw [HSP.out,hA.out,HD.out,List.all_cons,HP.out];rfl),Below.tr HB.out HW.out⟩
    ·have hx1:¬ x.toList = []:=fun e=>by rw [ByteArray.toList_eq] at e;exact hx0 (by have:=congrArg List.length e;rw [Array.length_toList] at this;exact this)
     have hx2:0<x.size:=by omega
     have hx3:(0:Int)≤(x.size:Int) - 1:=by omega
     have HP:=Lib.hid (Zf7 x hx2)
     clear hx0
     go_wp2
     all_goals (try simp only [beq_iff_eq,beq_eq_false_iff_ne,ne_eq,List.isEmpty_iff,List.isEmpty_eq_false_iff] at *)
     all_goals first
      | (exfalso;omega)
      | (go_ret;refine ⟨Zas ?_,Below.tr HB.out HW.out⟩;rw [HSP.out,hA.out,HD.out,List.all_cons,HP.out];simp_all;done)
      | (go_roundw;(case rel=>(refine ⟨q+1,by omega,by go_num,HW.out,?_⟩;refine Lib.hid ?_;rw [hA.out,HD.out,List.all_cons,HP.out];simp_all));(case measure=>(simp [intOf];omega)))
   ·obtain rfl:q=K+1:=by omega
    have hz:ps.all (fun p=>ZbT p.data.toList)=true:=by
     rw [hA.out,List.drop_eq_nil_of_le (by rw [← HK.out];exact Nat.le_refl _)];rfl
    rw [hz,Bool.true_and] at HSP
    have c1:wr.cell? ⟨w.heap.size,0,none⟩=some (.int .i64 sp):=re1 hbw (ZbX c0) c0
    have hm1:wr.cell? ⟨0,0,none⟩=some (.int .i64 m):=re1 (Below.tr HB.out hbw) (ZbX hm) hm
    have hg:s.data.toList.headD 0=s[0]'(by omega):=ZkT s (by omega)
    rw [hg] at HSP
    have hs0:(0:Int)<s.size:=by omega
    clear hz hbw hS h5 hA c0 hle splitB_sizes hg hm
    rcases hp:Zbu s.data.toList with _ | ⟨n,r⟩
    ·rw [hp] at HSP
     have hpr:=fun W h1 h2=>Zio s W h1 h2 hp
     clear hp
     go_wp2_with (go_at_call 84;refine (hpr _ (by omega) ⟨m,by assumption⟩).mono ?_;rintro e w5 ⟨rfl,hb5⟩;have c2:=re1 hb5 (ZbX c1) c1)
     all_goals
      go_ret
      refine ⟨Zas ?_,?_⟩
      ·rw [HSP.out]
       simp only [beq_iff_eq,beq_eq_false_iff_ne,ne_eq] at *
       first
        | (rw [ZdV (by omega)];rfl)
        | (rw [ZdW (by omega) (by omega)];rfl)
        | (rw [ZcR (by omega) (by omega)];simp_all;done)
      ·first | exact Below.tr (Below.tr HB.out HW.out) (by assumption) | exact Below.tr HB.out HW.out
    ·rw [hp] at HSP
     have hpr:=fun W h1 h2=>Zip s W h1 h2 hp
     clear hp
     go_wp2_with (go_at_call 84;refine (hpr _ (by omega) ⟨m,by assumption⟩).mono ?_;rintro e w5 ⟨rfl,hb5⟩;have c2:=re1 hb5 (ZbX c1) c1)
     all_goals
      go_ret
      refine ⟨Zas ?_,?_⟩
      ·rw [HSP.out]
       simp only [beq_iff_eq,beq_eq_false_iff_ne,ne_eq] at *
       first
        | (rw [ZdV (by omega)];rfl)
        | (rw [ZdW (by omega) (by omega)];rfl)
        | (rw [ZcR (by omega) (by omega)];simp_all;done)
      ·first | exact Below.tr (Below.tr HB.out HW.out) (by assumption) | exact Below.tr HB.out HW.out
 ·go_enter Tryz.func40,Tryz.ntmps40
  have hv:Title.valid ⟨sp,s⟩=false:=by
   cases hV:Title.valid ⟨sp,s⟩ with
   | false=>rfl
   | true=>
     simp only [Title.valid,Bool.and_eq_true,decide_eq_true_eq] at hV
     obtain ⟨⟨⟨⟨⟨⟨⟨ha,hb⟩,hc⟩,hd⟩,hcl⟩,_⟩,_⟩,_⟩:=hV
     exact absurd ⟨⟨ha,hb⟩,⟨hc,hd⟩,hcl⟩ h
  have HV:=Lib.hid hv
  clear hv
  go_wp2_with (first | (go_at_call 82;refine (ZhC _ _ (by omega)).mono ?_;rintro e w' ⟨rfl,rfl⟩) | (go_at_call 83;exfalso;have h6:(!Zbl (-1) s.data.toList)=false:=And.right (by assumption);simp at h6;exact h ⟨⟨by omega,by omega⟩,⟨by omega,by omega⟩,h6⟩))
  all_goals
   go_ret
   exact ⟨Zas HV.out.symm,Below.al (Below.refl _ _) _⟩
def Zoq (b:Int):Int:=if 65≤b∧b≤90 then b+32 else b
set_option maxRecDepth 100000 in
set_option maxHeartbeats 400000 in
theorem Zhv (b:Int) (h0:0≤b) (h1:b<256) (w:World):Calls Tryz.prog 183 #[.int .u8 b] w fun e w'=>e = .returned (.int .u8 (Zoq b))∧w=w':=by
 go_enter Tryz.func183,Tryz.ntmps183
 go_wp2
 all_goals
  go_ret
  refine ⟨ZgK ?_,rfl⟩
  unfold Zoq
  first | (rw [if_pos (by omega)];done) | (rw [if_neg (by omega)];done)
theorem ZkO (c:UInt8):Zoq c.toNat=(Zdz c).toNat:=by
 unfold Zoq Zdz
 by_cases h:65≤c.toNat∧c.toNat≤90
 ·rw [if_pos (by omega),if_pos h];simp;omega
 ·rw [if_neg (by omega),if_neg h]
theorem Zof (c:UInt8):0≤(c.toNat:Int)∧(c.toNat:Int)<256:=by have:=c.toNat_lt;omega
theorem Zhw (a b:ByteArray) (j:Nat) (hj:j+b.size≤a.size):((a.extract j (j+b.size)).toList == b.toList)=Lib.occAt a.data.toList b.data.toList j:=by
 rw [← Lib.piece_eq_occAt a b j hj,beq_toListBytes]
theorem Zog {a b:ByteArray} {j:Nat} (hj:¬ j+b.size≤a.size) (hl:j≤a.size):Lib.occAt a.data.toList b.data.toList j=false:=by
 cases ho:Lib.occAt a.data.toList b.data.toList j with
 | false=>rfl
 | true=>
   rcases Lib.occAt_room ho with h | h
   ·rw [← Lib.size_eq,← Lib.size_eq] at h;omega
   ·have:b.size=0:=by rw [Lib.size_eq,h];rfl
    omega
set_option maxRecDepth 100000 in
set_option maxHeartbeats 1000000 in
theorem Zdf (s t:ByteArray) (w:World) (hs:s.size+t.size≤9223372036854775806):Calls Tryz.prog 75 #[.string s,.string t,.int .i64 0] w fun e w'=>e = .returned (.int .i64 (Lib.index s.data.toList t.data.toList))∧w=w':=by
 go_enter Tryz.func75,Tryz.ntmps75
 go_wp2
 go_loop [7] (fun i=>∃ q:Nat,q≤s.size+1∧i = .int .i64 q∧Hid (∀ j,j<q→Lib.occAt s.data.toList t.data.toList j=false)) (fun i=>s.size+1 - (intOf i).toNat)
 case atStart=>exact ⟨0,by omega,rfl,fun j h=>absurd h (by omega)⟩
 case round=>
  obtain ⟨q,hq,rfl,hno⟩:=hrel
  by_cases hlt:q+t.size≤s.size
  ·have b1:(0:Int)≤q:=by omega
   have b2:(q:Int)+(t.size:Int)≤(s.size:Int):=by omega
   go_wp2
   ·rename_i hocc _
    go_ret
    refine ⟨ZgK ?_,rfl⟩
    rw [Zhw s t q hlt] at hocc
    rw [Lib.index_first (by rw [← Lib.size_eq];omega) hocc hno.out]
   ·rename_i hocc
    rw [Zhw s t q hlt] at hocc
    refine ⟨⟨q+1,by omega,by simp,fun j hj=>?_⟩,by simp [intOf];omega⟩
    by_cases hjq:j<q
    ·exact hno.out j hjq
    ·have:j=q:=by omega
     subst this;exact hocc
  ·have b2:¬ (q:Int)+(t.size:Int)≤(s.size:Int):=by omega
   have b3:(s.size:Int)<(q:Int)+(t.size:Int):=by omega
   go_wp2
   all_goals
    first
    | (exfalso;omega)
    | (go_ret
       refine ⟨ZgK ?_,rfl⟩
       rw [Lib.index_none]
       intro j hj
       rw [← Lib.size_eq] at hj
       by_cases hjq:j<q
       ·exact hno.out j hjq
       ·exact Zog (by omega) hj)
theorem Ziv (c:UInt8) (w:World):Calls Tryz.prog 183 #[.int .u8 c.toNat] w fun e w'=>e = .returned (.int .u8 ((Zdz c).toNat:Int))∧w=w':=by
 refine (Zhv _ (Zof c).1 (Zof c).2 w).mono ?_
 rintro e w' ⟨rfl,rfl⟩
 exact ⟨by rw [ZkO],rfl⟩
def ZdX (a b:ByteArray):Bool:=decide (Zaz a.data.toList=Zaz b.data.toList)
theorem ZbV (l:List UInt8):(Zaz l).length=l.length:=by simp [Zaz]
theorem ZjA {a b:ByteArray} (h:a.size≠b.size):ZdX a b=false:=by
 unfold ZdX
 refine decide_eq_false fun e=>h ?_
 have:=congrArg List.length e
 rw [ZbV,ZbV,Array.length_toList,Array.length_toList] at this
 exact this
theorem Zmg {a b:ByteArray} (j:Nat) (ha:j<a.size) (hb:j<b.size) (h:Zdz a[j]≠Zdz b[j]):ZdX a b=false:=by
 unfold ZdX
 refine decide_eq_false fun e=>h ?_
 have:=congrArg (·[j]?) e
 simp only [Zaz,List.getElem?_map] at this
 rw [show a.data.toList[j]? = some a[j] from List.getElem?_eq_getElem (by rw [Array.length_toList];exact ha),show b.data.toList[j]? = some b[j] from List.getElem?_eq_getElem (by rw [Array.length_toList];exact hb)] at this
 simpa using this
theorem ZkW {a b:ByteArray} (hs:a.size=b.size) (h:∀ j (ha:j<a.size) (hb:j<b.size),Zdz a[j]=Zdz b[j]):ZdX a b=true:=by
 unfold ZdX
 refine decide_eq_true (List.ext_getElem ?_ fun j h1 h2=>?_)
 ·rw [ZbV,ZbV,Array.length_toList,Array.length_toList];exact hs
 ·rw [ZbV,Array.length_toList] at h1 h2
  simp only [Zaz,List.getElem_map]
  exact h j h1 h2
theorem Zns {c d:UInt8} (h:¬ ((Zdz c).toNat:Int)=(Zdz d).toNat):Zdz c≠Zdz d:=fun e=>h (by rw [e])
theorem Znt {c d:UInt8} (h:((Zdz c).toNat:Int)=(Zdz d).toNat):Zdz c=Zdz d:=UInt8.toNat_inj.1 (by omega)
set_option maxRecDepth 100000 in
set_option maxHeartbeats 2000000 in
theorem Zbz (a b:ByteArray) (w:World) (hsz:a.size≤4611686018427387904):Calls Tryz.prog 121 #[.string a,.string b] w fun e w'=>e = .returned (.bool (ZdX a b))∧Below w.heap.size w w':=by
 by_cases hl:a.size=b.size
 case neg=>
  have HE:=Lib.hid (ZjA hl)
  have h1:¬ (a.size:Int)=b.size:=by omega
  go_enter Tryz.func121,Tryz.ntmps121
  go_wp2
  all_goals first | (exfalso;omega) | (go_ret;exact ⟨Zas HE.out.symm,Below.refl _ _⟩)
 have HN:Hid (∀ j (ha:j<a.size) (hb:j<b.size),¬ ((Zdz a[j]).toNat:Int)=(Zdz b[j]).toNat→ZdX a b=false):=Lib.hid fun j ha hb h=>Zmg j ha hb (Zns h)
 have HG:Hid ((∀ j (ha:j<a.size) (hb:j<b.size),((Zdz a[j]).toNat:Int)=(Zdz b[j]).toNat)→ZdX a b=true):=Lib.hid fun h=>ZkW hl fun j ha hb=>Znt (h j ha hb)
 have HL:=Lib.hid hl
 have hl1:(a.size:Int)=b.size:=by omega
 clear hl
 go_enter Tryz.func121,Tryz.ntmps121
 go_wp2_with fail
 clear hl1
 go_loopw [5] (fun i wr=>∃ q:Nat,q≤a.size∧i = .int .i64 q∧Below w.heap.size w wr∧Hid (∀ j (ha:j<a.size) (hb:j<b.size),j<q→((Zdz a[j]).toNat:Int)=(Zdz b[j]).toNat)) (fun i _=>a.size - (intOf i).toNat)
 case atStart=>exact ⟨0,by omega,rfl,Below.refl _ _,Lib.hid fun j _ _ h=>absurd h (by omega)⟩
 case round=>
  obtain ⟨q,hq,rfl,hbw,hno⟩:=hrel
  have HQ:=Lib.hid hbw
  clear hbw
  by_cases hlt:q<a.size
  ·have hlb:q<b.size:=by rw [← HL.out];exact hlt
   have HS:Hid (((Zdz a[q]).toNat:Int)=(Zdz b[q]).toNat→∀ j (ha:j<a.size) (hb:j<b.size),j<q+1→((Zdz a[j]).toNat:Int)=(Zdz b[j]).toNat):=Lib.hid fun h j hj hb hj2=>by
    by_cases e:j<q
    ·exact hno.out j hj hb e
    ·have:j=q:=by omega
     subst this;exact h
   have HN2:=Lib.hid (HN.out q hlt hlb)
   have b1:(0:Int)≤q:=by omega
   have b2:(q:Int)<(a.size:Int):=by omega
   have b3:(q:Int)<(b.size:Int):=by omega
   go_wp2_with fail
   go_quiet ((go_at_call 183;exact Calls.quiet_of_same ((Ziv _ _).mono (fun e w' h=>⟨h.1,h.2.symm⟩))))
   go_wp2
   all_goals (try simp only [bne_iff_ne,bne_eq_false_iff_eq,ne_eq] at *)
   ·rename_i h
    go_ret
    exact ⟨Zas (HN2.out h).symm,Below.dn HQ.out _⟩
   ·rename_i h
    exact ⟨⟨q+1,by omega,by simp,Below.dn HQ.out _,Lib.hid (HS.out h)⟩,by simp [intOf];omega⟩
  ·have HE:=Lib.hid (HG.out fun j hj hb=>hno.out j hj hb (by omega))
   have b2:(a.size:Int)≤(q:Int):=by omega
   go_wp2
   all_goals first | (exfalso;omega) | (go_ret;exact ⟨Zas HE.out.symm,HQ.out⟩)
def ZdJ (z:Int):ByteArray:=if z=1 then ⟨#[84,97,108,107]⟩ else if z=2 then ⟨#[85,115,101,114]⟩ else if z=3 then ⟨#[84,101,109,112,108,97,116,101]⟩ else if z=4 then ⟨#[67,97,116,101,103,111,114,121]⟩ else if z=5 then ⟨#[80,114,111,106,101,99,116]⟩ else ⟨#[]⟩
set_option maxRecDepth 100000 in
set_option maxHeartbeats 2000000 in
theorem ZbY (z:Int) (w:World):Calls Tryz.prog 122 #[.int .i64 z] w fun e w'=>e = .returned (.string (ZdJ z))∧Below w.heap.size w w':=by
 have hz:z<0∨6≤z∨z=0∨z=1∨z=2∨z=3∨z=4∨z=5:=by omega
 have HE:Hid (z<0∨6≤z→ZdJ z=⟨#[]⟩):=Lib.hid fun h=>by
  unfold ZdJ
  rw [if_neg (by omega),if_neg (by omega),if_neg (by omega),if_neg (by omega),if_neg (by omega)]
 by_cases hin:0≤z∧z<6
 ·obtain ⟨h0,h6⟩:=hin
  obtain rfl | rfl | rfl | rfl | rfl | rfl:z=0∨z=1∨z=2∨z=3∨z=4∨z=5:=by omega
  all_goals
   go_enter Tryz.func122,Tryz.ntmps122
   go_wp2
   go_ret
   exact ⟨rfl,Below.al (Below.refl _ _) _⟩
 ·have HE2:=Lib.hid (HE.out (by omega))
  have hz2:z<0∨6≤z:=by omega
  clear hz hin HE
  go_enter Tryz.func122,Tryz.ntmps122
  rcases hz2 with hz2 | hz2
  all_goals
   go_wp2
  all_goals
   first
   | (exfalso;omega)
   | (go_ret
      exact ⟨by rw [HE2.out];rfl,Below.al (Below.refl _ _) _⟩)
theorem ZdY (z:Int) (h1:1≤z) (h2:z<6):Zaz (ZdJ z).data.toList=Zap z.toNat:=by
 obtain rfl | rfl | rfl | rfl | rfl:z=1∨z=2∨z=3∨z=4∨z=5:=by omega
 all_goals decide
def Zes (p:ByteArray):ByteArray:=if h:0<p.size then (if (p[p.size - 1]'(by omega)).toNat=32 then p.extract 0 (p.size - 1) else p) else p
theorem ZkX (s:ByteArray) (k:Nat) {h0:min k s.size - 1<(s.extract 0 k).size} (h:(((s.extract 0 k)[min k s.size - 1]'h0).toNat:Int)=32):Zes (s.extract 0 k)=(s.extract 0 k).extract 0 (min k s.size - 1):=by
 have hsz:(s.extract 0 k).size=min k s.size:=by simp [ByteArray.size_extract]
 unfold Zes
 rw [dif_pos (by omega),if_pos (by simp only [hsz];omega),hsz]
theorem ZjB (s:ByteArray) (k:Nat) {h0:min k s.size - 1<(s.extract 0 k).size} (h:¬ (((s.extract 0 k)[min k s.size - 1]'h0).toNat:Int)=32):Zes (s.extract 0 k)=s.extract 0 k:=by
 have hsz:(s.extract 0 k).size=min k s.size:=by simp [ByteArray.size_extract]
 unfold Zes
 rw [dif_pos (by omega),if_neg (by simp only [hsz];omega)]
theorem ZjC (s:ByteArray) (k:Nat) (h:¬ 0<min k s.size):Zes (s.extract 0 k)=s.extract 0 k:=by
 have hsz:(s.extract 0 k).size=min k s.size:=by simp [ByteArray.size_extract]
 unfold Zes
 rw [dif_neg (by omega)]
def ZeK (s:ByteArray):Int×Int:=
 if Lib.index s.data.toList [58]<0 then (0,0) else if ZaO (Zaz (Zes (s.extract 0 (Lib.index s.data.toList [58]).toNat)).data.toList)=0 then (0,0) else (ZaO (Zaz (Zes (s.extract 0 (Lib.index s.data.toList [58]).toNat)).data.toList),Lib.index s.data.toList [58])
theorem ZkY:∀ {s:List UInt8} {c:UInt8},0≤Lib.index s [c]→Lib.index s [c]<s.length:=by
 intro s
 induction s with
 | nil=>intro c h;exact absurd h (by simp [Lib.index])
 | cons a r ih=>
   intro c h
   by_cases h1:List.isPrefixOf [c] (a::r)=true
   ·simp only [Lib.index,h1,if_true];simp
   ·simp only [Lib.index,h1] at h ⊢
    by_cases h2:(Lib.index r [c] == -1)=true
    ·simp [h2] at h
    ·simp only [h2] at h ⊢
     have hge:0≤Lib.index r [c]:=by
      have h3:Lib.index r [c]≠-1:=fun e=>h2 (by rw [e];rfl)
      simp at h
      omega
     have:=ih hge
     simp
     omega
theorem Zmh {s:ByteArray} {c:UInt8} (h:0≤Lib.index s.data.toList [c]):Lib.index s.data.toList [c]<s.size:=by
 have:=ZkY h
 rw [Array.length_toList] at this
 exact this
set_option maxRecDepth 100000 in
set_option maxHeartbeats 2000000 in
theorem Zfq (s:ByteArray) (w:World) (hs:s.size≤4611686018427387904):Calls Tryz.prog 77 #[.string s] w fun e w'=>e = .returned (.tuple #[.int .i64 (ZeK s).1,.int .i64 (ZeK s).2])∧Below w.heap.size w w':=by
 have HR:Hid (ZeK s=if Lib.index s.data.toList [58]<0 then (0,0) else if ZaO (Zaz (Zes (s.extract 0 (Lib.index s.data.toList [58]).toNat)).data.toList)=0 then (0,0) else (ZaO (Zaz (Zes (s.extract 0 (Lib.index s.data.toList [58]).toNat)).data.toList),Lib.index s.data.toList [58])):=Lib.hid rfl
 have HI:Hid (0≤Lib.index s.data.toList [58]→Lib.index s.data.toList [58]<s.size):=Lib.hid Zmh
 generalize ZeK s=R at *
 go_enter Tryz.func77,Tryz.ntmps77
 go_wp2_with fail
 refine (Zdf s ⟨#[58]⟩ _ (by show s.size+1≤_;omega)).mono ?_
 rintro e w1 ⟨rfl,rfl⟩
 rw [show (⟨#[58]⟩:ByteArray).data.toList = [58] from rfl]
 generalize Lib.index s.data.toList [58]=at0 at *
 by_cases h0:at0<0
 ·obtain rfl:=HR.out.trans (if_pos h0)
  go_wp2
  all_goals first | (exfalso;omega) | (exact bodyPost_ret (v:=.tuple #[.int .i64 0,.int .i64 0]) (by simp [results,Tryz.results77,go_sem]) rfl ⟨rfl,Below.refl _ _⟩)
 obtain ⟨k,rfl⟩:∃ k:Nat,at0=k:=⟨at0.toNat,by omega⟩
 have hk:=HI.out (by omega)
 have HR2:=Lib.hid (HR.out.trans (if_neg h0))
 clear HR HI h0
 simp only [Int.toNat_natCast] at HR2
 have b1:(0:Int)≤k:=by omega
 by_cases hp:0<min k s.size
 case neg=>
  rw [ZjC s k (by omega)] at HR2
  go_wp2_with fail
  have hNs:Hid ((s.extract 0 k).size≤4611686018427387904):=Lib.hid (by simp only [ByteArray.size_extract];omega)
  clear hs
  go_loopw [6] (fun i wr=>∃ z:Int,1≤z∧z≤6∧i = .int .i64 z∧Below w.heap.size w wr∧Hid (∀ j:Nat,1≤j→(j:Int)<z→Zaz (s.extract 0 k).data.toList≠Zap j)) (fun i _=>6 - (intOf i).toNat)
  case atStart=>exact ⟨1,by omega,by omega,rfl,Below.refl _ _,fun j _ h=>absurd h (by omega)⟩
  case round=>
   obtain ⟨z,hz0,hz6,rfl,hbw,hno⟩:=hrel
   have HQ:=Lib.hid hbw
   clear hbw
   by_cases h6:z=6
   ·subst h6
    have hz:ZaO (Zaz (s.extract 0 k).data.toList)=0:=Zcv _ fun j h1 h2=>hno.out j h1 (by omega)
    obtain rfl:=HR2.out.trans (if_pos hz)
    clear hz
    go_wp2
    exact bodyPost_ret (v:=.tuple #[.int .i64 0,.int .i64 0]) (by simp [results,Tryz.results77,go_sem]) rfl ⟨rfl,HQ.out⟩
   ·have hz7:z<6:=by omega
    have HF:=Lib.hid (ZdY z hz0 hz7)
    go_wp2_with fail
    refine (ZbY z _).mono ?_
    rintro e w5 ⟨rfl,hb5⟩
    go_wp2_with fail
    refine (Zbz _ _ _ hNs.out).mono ?_
    rintro e w6 ⟨rfl,hb6⟩
    have HB6:=Lib.hid (Below.tr HQ.out (Below.tr hb5 hb6))
    clear hb5 hb6
    by_cases hsame:ZdX (s.extract 0 k) (ZdJ z)=true
    ·have hfl:Zaz (s.extract 0 k).data.toList=Zap z.toNat:=(of_decide_eq_true hsame).trans HF.out
     have hz:ZaO (Zaz (s.extract 0 k).data.toList)=z:=by rw [hfl,Zdb z.toNat (by omega) (by omega)];omega
     have hR:=HR2.out.trans (if_neg (by rw [hz];omega))
     rw [hz] at hR
     obtain rfl:=hR
     rw [hsame]
     clear hz hfl
     go_wp2
     exact bodyPost_ret (v:=.tuple #[.int .i64 z,.int .i64 k]) (by simp [results,Tryz.results77,go_sem]) rfl ⟨rfl,HB6.out⟩
    ·have hsame:ZdX (s.extract 0 k) (ZdJ z)=false:=by simpa using hsame
     have hfl:Zaz (s.extract 0 k).data.toList≠Zap z.toNat:=fun e=>of_decide_eq_false hsame (e.trans HF.out.symm)
     have HN:=Lib.hid hfl
     rw [hsame]
     clear hfl
     go_wp2
     go_roundw
     case rel=>
      refine ⟨z+1,by omega,by omega,rfl,HB6.out,fun j h1 h2=>?_⟩
      by_cases e:(j:Int)<z
      ·exact hno.out j h1 e
      ·have:j=z.toNat:=by omega
       subst this;exact HN.out
     case measure=>simp [intOf];omega
 have hq:min k s.size - 1<(s.extract 0 k).size:=by simp only [ByteArray.size_extract];omega
 have b3:(1:Int)≤(min k s.size:Nat):=by omega
 by_cases h:(((s.extract 0 k)[min k s.size - 1]'hq).toNat:Int)=32
 ·rw [ZkX s k h] at HR2
  go_wp2_with fail
  clear h b3 hp
  have hNs:Hid (((s.extract 0 k).extract 0 (min k s.size - 1)).size≤4611686018427387904):=Lib.hid (by simp only [ByteArray.size_extract];omega)
  clear hs
  go_loopw [6] (fun i wr=>∃ z:Int,1≤z∧z≤6∧i = .int .i64 z∧Below w.heap.size w wr∧Hid (∀ j:Nat,1≤j→(j:Int)<z→Zaz ((s.extract 0 k).extract 0 (min k s.size - 1)).data.toList≠Zap j)) (fun i _=>6 - (intOf i).toNat)
  case atStart=>exact ⟨1,by omega,by omega,rfl,Below.refl _ _,fun j _ h=>absurd h (by omega)⟩
  case round=>
   obtain ⟨z,hz0,hz6,rfl,hbw,hno⟩:=hrel
   have HQ:=Lib.hid hbw
   clear hbw
   by_cases h6:z=6
   ·subst h6
    have hz:ZaO (Zaz ((s.extract 0 k).extract 0 (min k s.size - 1)).data.toList)=0:=Zcv _ fun j h1 h2=>hno.out j h1 (by omega)
    obtain rfl:=HR2.out.trans (if_pos hz)
    clear hz
    go_wp2
    exact bodyPost_ret (v:=.tuple #[.int .i64 0,.int .i64 0]) (by simp [results,Tryz.results77,go_sem]) rfl ⟨rfl,HQ.out⟩
   ·have hz7:z<6:=by omega
    have HF:=Lib.hid (ZdY z hz0 hz7)
    go_wp2_with fail
    refine (ZbY z _).mono ?_
    rintro e w5 ⟨rfl,hb5⟩
    go_wp2_with fail
    refine (Zbz _ _ _ hNs.out).mono ?_
    rintro e w6 ⟨rfl,hb6⟩
    have HB6:=Lib.hid (Below.tr HQ.out (Below.tr hb5 hb6))
    clear hb5 hb6
    by_cases hsame:ZdX ((s.extract 0 k).extract 0 (min k s.size - 1)) (ZdJ z)=true
    ·have hfl:Zaz ((s.extract 0 k).extract 0 (min k s.size - 1)).data.toList=Zap z.toNat:=(of_decide_eq_true hsame).trans HF.out
     have hz:ZaO (Zaz ((s.extract 0 k).extract 0 (min k s.size - 1)).data.toList)=z:=by rw [hfl,Zdb z.toNat (by omega) (by omega)];omega
     have hR:=HR2.out.trans (if_neg (by rw [hz];omega))
     rw [hz] at hR
     obtain rfl:=hR
     rw [hsame]
     clear hz hfl
     go_wp2
     exact bodyPost_ret (v:=.tuple #[.int .i64 z,.int .i64 k]) (by simp [results,Tryz.results77,go_sem]) rfl ⟨rfl,HB6.out⟩
    ·have hsame:ZdX ((s.extract 0 k).extract 0 (min k s.size - 1)) (ZdJ z)=false:=by simpa using hsame
     have hfl:Zaz ((s.extract 0 k).extract 0 (min k s.size - 1)).data.toList≠Zap z.toNat:=fun e=>of_decide_eq_false hsame (e.trans HF.out.symm)
     have HN:=Lib.hid hfl
     rw [hsame]
     clear hfl
     go_wp2
     go_roundw
     case rel=>
      refine ⟨z+1,by omega,by omega,rfl,HB6.out,fun j h1 h2=>?_⟩
      by_cases e:(j:Int)<z
      ·exact hno.out j h1 e
      ·have:j=z.toNat:=by omega
       subst this;exact HN.out
     case measure=>simp [intOf];omega
 ·rw [ZjB s k h] at HR2
  have h2:((((s.extract 0 k)[min k s.size - 1]'hq).toNat:Int) == 32)=false:=beq_eq_false_iff_ne.2 h
  clear h
  go_wp2_with fail
  clear h2 hp
  have hNs:Hid ((s.extract 0 k).size≤4611686018427387904):=Lib.hid (by simp only [ByteArray.size_extract];omega)
  clear hs
  go_loopw [6] (fun i wr=>∃ z:Int,1≤z∧z≤6∧i = .int .i64 z∧Below w.heap.size w wr∧Hid (∀ j:Nat,1≤j→(j:Int)<z→Zaz (s.extract 0 k).data.toList≠Zap j)) (fun i _=>6 - (intOf i).toNat)
  case atStart=>exact ⟨1,by omega,by omega,rfl,Below.refl _ _,fun j _ h=>absurd h (by omega)⟩
  case round=>
   obtain ⟨z,hz0,hz6,rfl,hbw,hno⟩:=hrel
   have HQ:=Lib.hid hbw
   clear hbw
   by_cases h6:z=6
   ·subst h6
    have hz:ZaO (Zaz (s.extract 0 k).data.toList)=0:=Zcv _ fun j h1 h2=>hno.out j h1 (by omega)
    obtain rfl:=HR2.out.trans (if_pos hz)
    clear hz
    go_wp2
    exact bodyPost_ret (v:=.tuple #[.int .i64 0,.int .i64 0]) (by simp [results,Tryz.results77,go_sem]) rfl ⟨rfl,HQ.out⟩
   ·have hz7:z<6:=by omega
    have HF:=Lib.hid (ZdY z hz0 hz7)
    go_wp2_with fail
    refine (ZbY z _).mono ?_
    rintro e w5 ⟨rfl,hb5⟩
    go_wp2_with fail
    refine (Zbz _ _ _ hNs.out).mono ?_
    rintro e w6 ⟨rfl,hb6⟩
    have HB6:=Lib.hid (Below.tr HQ.out (Below.tr hb5 hb6))
    clear hb5 hb6
    by_cases hsame:ZdX (s.extract 0 k) (ZdJ z)=true
    ·have hfl:Zaz (s.extract 0 k).data.toList=Zap z.toNat:=(of_decide_eq_true hsame).trans HF.out
     have hz:ZaO (Zaz (s.extract 0 k).data.toList)=z:=by rw [hfl,Zdb z.toNat (by omega) (by omega)];omega
     have hR:=HR2.out.trans (if_neg (by rw [hz];omega))
     rw [hz] at hR
     obtain rfl:=hR
     rw [hsame]
     clear hz hfl
     go_wp2
     exact bodyPost_ret (v:=.tuple #[.int .i64 z,.int .i64 k]) (by simp [results,Tryz.results77,go_sem]) rfl ⟨rfl,HB6.out⟩
    ·have hsame:ZdX (s.extract 0 k) (ZdJ z)=false:=by simpa using hsame
     have hfl:Zaz (s.extract 0 k).data.toList≠Zap z.toNat:=fun e=>of_decide_eq_false hsame (e.trans HF.out.symm)
     have HN:=Lib.hid hfl
     rw [hsame]
     clear hfl
     go_wp2
     go_roundw
     case rel=>
      refine ⟨z+1,by omega,by omega,rfl,HB6.out,fun j h1 h2=>?_⟩
      by_cases e:(j:Int)<z
      ·exact hno.out j h1 e
      ·have:j=z.toNat:=by omega
       subst this;exact HN.out
     case measure=>simp [intOf];omega
theorem Zdn:∀ (css:List (List Value)) (xs:List ByteArray),css.length=xs.length→(∀ (i:Nat) (x:ByteArray) (cs:List Value),xs[i]? = some x→css[i]? = some cs→cs = [.string x])→css.flatten=xs.map Value.string
 | [],[],_,_=>rfl
 | [],_::_,h,_=>by simp at h
 | _::_,[],h,_=>by simp at h
 | c::css,x::xs,h,hR=>by
   have h0:=hR 0 x c rfl rfl
   subst h0
   rw [List.flatten_cons,Zdn css xs (by simpa using h) (fun i y cs hy hcs=>hR (i+1) y cs (by simpa using hy) (by simpa using hcs))]
   rfl
theorem OwnL.row {w:World} {B:Nat} {E:TypeId} {v:Value} {xs:List ByteArray} (h:OwnL w B E v xs):w.ownsRow B E 1 v xs.length (xs.map Value.string):=by
 obtain ⟨css,hl,hr,hR⟩:=h
 rw [Zdn css xs hl (fun i x cs hx hcs=>hR i x cs hx hcs)] at hr
 exact hr
theorem OwnL.of_row {w:World} {B:Nat} {E:TypeId} {v:Value} {xs:List ByteArray} (h:w.ownsRow B E 1 v xs.length (xs.map Value.string)):OwnL w B E v xs:=by
 refine ⟨xs.map (fun x=>[.string x]),by simp,?_,fun i x cs hx hcs=>?_⟩
 ·rw [Zdn _ xs (by simp) (fun i x cs hx hcs=>by rw [List.getElem?_map,hx] at hcs;simpa using hcs.symm)]
  exact h
 ·rw [List.getElem?_map,hx] at hcs
  show cs = [.string x]
  simpa using hcs.symm
theorem OwnL.cellS {w:World} {B:Nat} {E:TypeId} {g n c:Nat} {xs:List ByteArray} (h:OwnL w B E (.slice (some ⟨g,0,none⟩) n c) xs) (hn:n=xs.length) {i:Nat} {x:ByteArray} (hx:xs[i]? = some x):w.cell? ⟨g,i,none⟩=some (.string x):=by
 subst hn
 have hi:=(List.getElem?_eq_some_iff.1 hx).1
 rw [h.row.cellAt i (by omega),List.getElem?_map,hx]
 rfl
theorem OwnL.frozenS {w:World} {B:Nat} {E:TypeId} {g n c:Nat} {xs:List ByteArray} (h:OwnL w B E (.slice (some ⟨g,0,none⟩) n c) xs) (hn:n=xs.length) (i:Nat):w.frozen? ⟨g,i,none⟩=false:=by
 subst hn
 exact h.row.frozenAt i
theorem OwnL.setS {w:World} {B:Nat} {E:TypeId} {g n c:Nat} {xs:List ByteArray} (h:OwnL w B E (.slice (some ⟨g,0,none⟩) n c) xs) (hn:n=xs.length) (i:Nat) (y:ByteArray):OwnL (w.setCell ⟨g,i,none⟩ (.string y)) B E (.slice (some ⟨g,0,none⟩) n c) (xs.set i y):=by
 subst hn
 have:=(h.row.stored i (.string y)).1
 refine OwnL.of_row ?_
 rw [List.length_set,List.map_set]
 exact this
def Zbs (l:List ByteArray) (c:UInt8):List ByteArray:=if c.toNat=47 then l ++ [⟨#[]⟩] else l.set (l.length - 1) (l[l.length - 1]?.getD ⟨#[]⟩++⟨#[c]⟩)
def Zcs (s:List UInt8):List ByteArray:=s.foldl Zbs [⟨#[]⟩]
theorem okS:Zht Tryz.prog 28 9 (Enc.k ByteArray) 16:=Zoe Tryz.underlying28 (by kernel_rfl)
theorem ZhW (s:ByteArray) (q:Nat) (h:q<s.size):Zcs (s.data.toList.take (q+1))=Zbs (Zcs (s.data.toList.take q)) s[q]:=by
 have h2:s.data.toList[q]? = some s[q]:=List.getElem?_eq_getElem (by rw [Array.length_toList];exact h)
 unfold Zcs
 rw [List.take_add_one,h2,List.foldl_append]
 rfl
theorem Zd6 {l:List ByteArray} {c:UInt8} {q:Nat} (h:∀ p ∈ l,p.size≤q):∀ p ∈ Zbs l c,p.size≤q+1:=by
 intro p hp
 unfold Zbs at hp
 split at hp
 ·rcases List.mem_append.1 hp with hp | hp
  ·have:=h p hp;omega
  ·rw [List.mem_singleton.1 hp];exact Nat.zero_le _
 ·rcases List.mem_or_eq_of_mem_set hp with hp | hp
  ·have:=h p hp;omega
  ·rw [hp,ByteArray.size_append]
   have:(⟨#[c]⟩:ByteArray).size=1:=rfl
   cases hx:l[l.length - 1]? with
   | none=>simp only [Option.getD_none];rw [this];have:(⟨#[]⟩:ByteArray).size=0:=rfl;omega
   | some x=>have:=h x (List.mem_of_getElem? hx);simp only [Option.getD_some];omega
theorem Zj9 (s:ByteArray) (q:Nat) (h:q<s.size):s.extract q (q+1)=⟨#[s[q]]⟩:=by
 have h2:s.data.toList[q]? = some s[q]:=List.getElem?_eq_getElem (by rw [Array.length_toList];exact h)
 refine toList_inj ?_
 rw [Lib.extract_toList,ByteArray.toList_eq]
 show _ = [s[q]]
 rw [Nat.add_sub_cancel_left,List.take_one,List.head?_drop,h2]
 rfl
set_option maxRecDepth 100000 in
set_option maxHeartbeats 2000000 in
theorem Zhb (s:ByteArray) (w:World) (hs:s.size≤1099511627776):Calls Tryz.prog 76 #[.string s] w fun e w'=>∃ v,e = .returned v∧OwnL w' w.heap.size 9 v (Zcs s.data.toList)∧Below w.heap.size w w':=by
 go_enter Tryz.func76,Tryz.ntmps76
 go_wp2_with fail
 have hO:OwnL (w.alloc (Obj.cells #[Value.string { data:=#[] }] 9)) w.heap.size 9 (.slice (some ⟨w.heap.size,0,none⟩) 1 1) [(⟨#[]⟩:ByteArray)]:=
  OwnL.built [[.string ⟨#[]⟩]] _ (Nat.le_refl _) rfl rfl (by decide) (fun i x cs hx hcs=>by
   rcases i with _ | i
   ·simp at hx hcs;subst hx;subst hcs;exact rfl
   ·simp at hx) rfl
 have HO:=Lib.hid hO
 clear hO
 go_loopw [3,4] (fun l i wr=>∃ q g n c:Nat,q≤s.size∧i = .int .i64 q∧l = .slice (some ⟨g,0,none⟩) n c∧n=(Zcs (s.data.toList.take q)).length∧1≤n∧n≤q+1∧Hid (∀ p ∈ Zcs (s.data.toList.take q),p.size≤q)∧Below w.heap.size w wr∧OwnL wr w.heap.size 9 (.slice (some ⟨g,0,none⟩) n c) (Zcs (s.data.toList.take q))) (fun _ i _=>s.size - (intOf i).toNat)
 case atStart=>exact ⟨0,w.heap.size,1,1,by omega,rfl,rfl,rfl,by omega,by omega,Lib.hid (fun p hp=>by rw [List.mem_singleton.1 hp];exact Nat.zero_le _),Below.al (Below.refl _ _) _,HO.out⟩
 case round=>
  obtain ⟨q,g,n,c,hq,rfl,rfl,hn,h1,h2,HSZ,hbw,hown⟩:=hrel
  have HN:=Lib.hid hn
  have HQ:=Lib.hid hbw
  have HW:=Lib.hid hown
  clear hn hbw hown HO
  by_cases hlt:q<s.size
  ·have b1:(0:Int)≤q:=by omega
   have b2:(q:Int)<(s.size:Int):=by omega
   have HP:=Lib.hid (ZhW s q hlt)
   generalize Zcs (s.data.toList.take q)=L at *
   by_cases h47:(s[q].toNat:Int)=47
   ·have hl:=HW.out
    have b3:n+1≤maxLen:=by unfold maxLen;omega
    have b4:(n+1) * 16≤140737488355328:=by omega
    have B3:Hid (L.length+1≤maxLen):=Lib.hid (by rw [← HN.out];exact b3)
    have B4:Hid ((L.length+1) * 16≤140737488355328):=Lib.hid (by rw [← HN.out];exact b4)
    have hg:w.heap.size≤wr.heap.size:=HQ.out.size
    clear hl b3 b4
    go_wp2_with (at_builtin;go_must (refine Zfi rfl _ _ 28 rfl okS (by decide) (B:=w.heap.size) (v:=.slice (some ⟨g,0,none⟩) n c) (xs:=L) rfl (HW.out.keep (Below.al (Below.refl _ _) _)) (ys:=[(⟨#[]⟩:ByteArray)]) rfl (SlR.made (fun x:ByteArray=>[.string x]) (fun _ _ _=>rfl) _ _ (by simp) rfl (by simp) rfl) (fun _ _ _ h=>h) B3.out B4.out (by simp;omega) ?_);intro v' w' hown hg2 hv')
    obtain ⟨A,c',rfl,_,hA⟩:=hown.sl
    obtain ⟨g',rfl,_,_⟩:=hA (by simp)
    have hst:Zbs L s[q]=L ++ [⟨#[]⟩]:=by unfold Zbs;rw [if_pos (by omega)]
    refine ⟨⟨q+1,g',_,c',by omega,rfl,rfl,?_,?_,?_,?_,?_,?_⟩,by simp [intOf];omega⟩
    ·rw [HP.out,hst]
    ·simp
    ·simp only [List.length_append,List.length_singleton];rw [← HN.out];omega
    ·rw [HP.out];exact Lib.hid (Zd6 HSZ.out)
    ·exact (HQ.out.alloc hg _).grown hg2 (by simp;omega) (fun j hj=>by cases hj;exact HW.out.ge rfl)
    ·rw [HP.out,hst];exact hown
   ·obtain ⟨x,hx⟩:∃ x,L[n - 1]? = some x:=⟨_,List.getElem?_eq_getElem (by have:=HN.out;omega)⟩
    have c0:=HW.out.cellS HN.out hx
    have f0:=HW.out.frozenS HN.out (n - 1)
    have HX:=Lib.hid hx
    have hxs:=HSZ.out x (List.mem_of_getElem? hx)
    clear hx
    have hext:(s.extract q (q+1)).size=1:=by rw [Zj9 s q hlt];rfl
    have b4:x.size+(s.extract q (q+1)).size≤9223372036854775807:=by rw [hext];omega
    have b5:x.size+(min (q+1) s.size - q)≤9223372036854775807:=by omega
    clear hext hxs
    have b3:(1:Int)≤n:=by omega
    obtain ⟨m,rfl⟩:∃ m:Nat,n=m+1:=⟨n - 1,by omega⟩
    simp only [Nat.add_sub_cancel] at c0 f0 HX
    go_upto_region 7 with fail
    go_region
    go_wp2
    refine ⟨⟨q+1,g,m+1,c,by omega,rfl,rfl,?_,by omega,by omega,?_,?_,?_⟩,by simp [intOf];omega⟩
    ·rw [HP.out];unfold Zbs;rw [if_neg (by omega),List.length_set];exact HN.out
    ·rw [HP.out];exact Lib.hid (Zd6 HSZ.out)
    ·have hge:w.heap.size≤g:=HW.out.ge rfl
     have hbs:Below w.heap.size w (wr.setCell ⟨g,m,none⟩ (.string (x++s.extract q (q+1)))):=HQ.out.setCell hge _
     exact Below.drew hbs
    ·refine OwnL.keep (Below.refl _ _).drew ?_
     have hst:=HW.out.setS HN.out m (x++s.extract q (q+1))
     rw [HP.out]
     unfold Zbs
     rw [if_neg (by omega),← HN.out,Nat.add_sub_cancel,HX.out,Option.getD_some,← Zj9 s q hlt]
     exact hst
  ·have b2:(s.size:Int)≤(q:Int):=by omega
   obtain rfl:q=s.size:=by omega
   rw [List.take_of_length_le (by rw [Array.length_toList];exact Nat.le_refl _)] at HW
   go_wp2
   go_ret
   exact ⟨_,rfl,HW.out,HQ.out⟩
def Zc9:List UInt8→List UInt8→List (List UInt8)
 | a,[]=>[a]
 | a,c::r=>if c.toNat=47 then a::Zc9 [] r else Zc9 (a ++ [c]) r
theorem Zda:∀ (s a r:List UInt8),(∀ k:Nat,s[k]?≠some 47)→Zc9 a (s++r)=Zc9 (a++s) r
 | [],a,r,_=>by simp
 | c::s,a,r,h=>by
   have h0:c.toNat≠47:=fun e=>h 0 (by simp;exact UInt8.toNat_inj.1 e)
   rw [List.cons_append,Zc9,if_neg h0,Zda s (a ++ [c]) r (fun k=>by have:=h (k+1);simpa using this),List.append_assoc]
   rfl
theorem Zgx (l:List ByteArray) (p:ByteArray) (c:UInt8):Zbs (l ++ [p]) c=if c.toNat=47 then l ++ [p] ++ [⟨#[]⟩] else l ++ [p++⟨#[c]⟩]:=by
 unfold Zbs
 by_cases h:c.toNat=47
 ·rw [if_pos h,if_pos h]
 ·rw [if_neg h,if_neg h]
  have hl:(l ++ [p]).length - 1=l.length:=by simp
  rw [hl,List.getElem?_append_right (Nat.le_refl _),Nat.sub_self,List.set_append_right _ _ (Nat.le_refl _),Nat.sub_self]
  rfl
theorem ZlS (p:ByteArray) (c:UInt8):(p++⟨#[c]⟩:ByteArray).data.toList=p.data.toList ++ [c]:=by
 simp
theorem ZdP:∀ (s:List UInt8) (l:List ByteArray) (p:ByteArray),(s.foldl Zbs (l ++ [p])).map (·.data.toList)=l.map (·.data.toList)++Zc9 p.data.toList s
 | [],l,p=>by simp [Zc9]
 | c::r,l,p=>by
   rw [List.foldl_cons,Zgx,Zc9]
   by_cases h:c.toNat=47
   ·rw [if_pos h,if_pos h,ZdP r (l ++ [p]) ⟨#[]⟩]
    simp
   ·rw [if_neg h,if_neg h,ZdP r l _,ZlS]
theorem Zh4 (s:List UInt8):(Zcs s).map (·.data.toList)=Zc9 [] s:=by
 have:=ZdP s [] ⟨#[]⟩
 simpa [Zcs] using this
theorem ZfR:∀ (k:Nat) (s:ByteArray),Lib.countB s ⟨#[47]⟩=k→(Lib.splitB ⟨#[47]⟩ 0 k s).map (·.data.toList)=Zc9 [] s.data.toList
 | k,s,hk=>by
   have h1:Lib.indexB s ⟨#[47]⟩=Lib.indexByte s.data.toList 47:=Lib.index_one _ _
   rcases Lib.indexB_cases s ⟨#[47]⟩ with hi | ⟨i,hi,hlt⟩
   ·rw [Lib.splitB_miss _ _ _ _ hi]
    have:=Zda s.data.toList [] [] (Lib.indexByte_none (h1.symm.trans hi))
    rw [List.append_nil] at this
    rw [this]
    rfl
   ·have hc:=Lib.countB_hit s ⟨#[47]⟩ i (by decide) hi
    obtain ⟨k',rfl⟩:∃ k',k=k'+1:=⟨k - 1,by omega⟩
    rw [Lib.splitB_hit _ _ _ _ i hi,List.map_cons,ZfR k' _ (by omega)]
    have he:(⟨#[47]⟩:ByteArray).size=1:=rfl
    rw [he,Lib.extract_to_end,Lib.extract_data]
    obtain ⟨h2,h3⟩:=Lib.indexByte_some (h1.symm.trans hi)
    have hil:=(List.getElem?_eq_some_iff.1 h2).1
    have hsplit:s.data.toList=s.data.toList.take i++(47::s.data.toList.drop (i+1)):=by
     have h4:s.data.toList.drop i=47::s.data.toList.drop (i+1):=by
      rw [List.drop_eq_getElem_cons hil]
      rw [List.getElem?_eq_getElem hil] at h2
      rw [Option.some.inj h2]
     rw [← h4,List.take_append_drop]
    conv=>rhs;rw [hsplit]
    rw [Zda _ [] _ (fun k hk=>by
     rw [List.getElem?_take] at hk
     split at hk
     ·rename_i hki;exact h3 k hki hk
     ·cases hk),Zc9,if_pos (by decide)]
    simp
theorem Ze7 (s:ByteArray) (f:List UInt8→Bool):(Zcs s.data.toList).all (fun p=>f p.data.toList)=(Lib.splitB ⟨#[47]⟩ 0 (Lib.countB s ⟨#[47]⟩) s).all (fun p=>f p.data.toList):=by
 have h1:=congrArg (·.all f) (Zh4 s.data.toList)
 have h2:=congrArg (·.all f) (ZfR _ s rfl)
 simp only [List.all_map] at h1 h2
 exact h1.trans h2.symm
theorem Zji (p:ByteArray):(Zes p).data.toList=Lib.trimSuffix p.data.toList [32]:=by
 have hl:p.data.toList.length=p.size:=Array.length_toList
 unfold Zes Lib.trimSuffix Lib.hasSuffix
 by_cases h:0<p.size
 ·have hd:p.data.toList.drop (p.data.toList.length - [(32:UInt8)].length) = [p[p.size - 1]]:=by
   rw [hl,List.length_singleton,List.drop_eq_getElem_cons (by omega),List.drop_eq_nil_of_le (by omega)]
   rfl
  have hap:=List.take_append_drop (p.data.toList.length - [(32:UInt8)].length) p.data.toList
  rw [hd] at hap
  rw [dif_pos h]
  by_cases h2:(p[p.size - 1]'(by omega)).toNat=32
  ·have h3:p[p.size - 1]=(32:UInt8):=UInt8.toNat_inj.1 h2
   rw [h3] at hap
   rw [if_pos h2,if_pos (List.isSuffixOf_iff_suffix.2 ⟨_,hap⟩),Lib.extract_data,hl]
   simp
  ·have h3:p[p.size - 1]≠(32:UInt8):=fun e=>h2 (by rw [e];rfl)
   rw [if_neg h2,if_neg]
   intro hs
   obtain ⟨t,ht⟩:=List.isSuffixOf_iff_suffix.1 hs
   rw [← hap] at ht
   have:=(List.append_inj' ht rfl).2
   simp at this
   exact h3 this.symm
 ·have h0:p.data.toList = []:=List.eq_nil_of_length_eq_zero (by omega)
  rw [dif_neg h,h0]
  rfl
theorem Zgy (s:ByteArray):ZeK s=match Zbu s.data.toList with
  | some (n,_)=>(n,Lib.index s.data.toList [58])
  | none=>(0,0):=by
 unfold ZeK Zbu Lib.cut
 by_cases h:Lib.index s.data.toList [58]<0
 ·rw [if_pos h,if_neg (show ¬ 0≤Lib.index s.data.toList [58] by omega)]
  simp
 ·rw [if_neg h,if_pos (show 0≤Lib.index s.data.toList [58] by omega)]
  have he:(Zes (s.extract 0 (Lib.index s.data.toList [58]).toNat)).data.toList=Lib.trimSuffix (s.data.toList.take (Lib.index s.data.toList [58]).toNat) [32]:=by
   rw [Zji,Lib.extract_data]
   simp
  rw [he]
  by_cases h2:ZaO (Zaz (Lib.trimSuffix (s.data.toList.take (Lib.index s.data.toList [58]).toNat) [32]))=0
  ·rw [if_pos h2,if_neg (by simp [h2])]
  ·rw [if_neg h2,if_pos ⟨rfl,h2⟩]
theorem Zhi {s:List UInt8} {n:Int} {r:List UInt8} (h:Zbu s=some (n,r)):0≤Lib.index s [58]∧r=s.drop ((Lib.index s [58]).toNat+1)∧n=ZaO (Zaz (Lib.trimSuffix (s.take (Lib.index s [58]).toNat) [32]))∧n≠0:=by
 unfold Zbu Lib.cut at h
 by_cases h0:0≤Lib.index s [58]
 ·rw [if_pos h0] at h
  simp only [true_and,List.length_singleton] at h
  split at h
  ·rename_i h2
   simp only [Option.some.injEq,Prod.mk.injEq] at h
   exact ⟨h0,h.2.symm,h.1.symm,h.1 ▸ h2⟩
  ·cases h
 ·rw [if_neg h0] at h
  simp at h
theorem Zh5 (s:ByteArray):decide ((ZeK s).1=0)=decide (Zbu s.data.toList=none):=by
 rw [Zgy]
 cases h:Zbu s.data.toList with
 | none=>rfl
 | some x=>
   obtain ⟨n,r⟩:=x
   have:=(Zhi h).2.2.2
   simp [this]
end Go.Proofs.YtpffimahajgiaaaGreatDoor
