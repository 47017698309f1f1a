/- DERIVED: THE SHELF's CONTRACTS AT THIS DUMP, IN PLAIN WORDS (tools/lay-plain.mjs out of .. -/
import Derived.Shelf.SlicesQ.Reverse
import Derived.Ground.SlgnProg
import Derived.Shelf.Strings.Builder1
import Derived.Shelf.Strings.Builder2
import Derived.Shelf.Strings.OnBuilder
import Derived.Shelf.Strings.Trim
import Derived.Shelf.Small.Utf8
import Derived.Shelf.Small.Bits
import Derived.Shelf.Small.Strs
import Derived.Shelf.Small.Wraps
import Derived.Shelf.Strconv.Itoa0
import Derived.Shelf.Strings.Search1
import Derived.Shelf.Strings.Search2
import Derived.Shelf.Strings.Search3
import Derived.Shelf.Strings.Cut
import Derived.Shelf.Strings.Count
import Derived.Shelf.LaysM
import Derived.Shelf.Strings.Shaped
import Derived.Shelf.Sort.Plain
import Derived.Shelf.Strings.Prefix
import Derived.Shelf.Strings.Split
import Derived.Shelf.Strings.Replace
import Derived.Shelf.Strings.SplitShaped
import Derived.Shelf.Strings.Runes
import Derived.Shelf.Strings.IndexAny
import Derived.Shelf.Strings.AsciiSet
import Derived.Shelf.Strings.IndexAnyAll
import Derived.Shelf.Unicode.DecodeSlow
import Derived.Shelf.Unicode.DecodeAny
import Derived.Shelf.Unicode.DecodeLast
import Derived.Shelf.Strings.FieldsFuncAny
import Derived.Shelf.Strings.FieldsFuncGrows
import Derived.Shelf.Slices.Turned
import Derived.Test.YtjoneoobolnnbaaGreatDoorProg
import Derived.Test.YtjoneoobolnnbaaGreatDoorRows
import Derived.Test.YtjoneoobolnnbaaGreatDoorCB01
import Derived.Test.YtjoneoobolnnbaaGreatDoorCB03
import Derived.Lib.SliceRun
import Derived.Laws.BytesArg
namespace Go.Proofs
open Go.Shelf
def Tryz.lays156_ren:Go.Shelf.Ren:=⟨fun | 156=>291 | 165=>293 | 166=>294 | 169=>295 | 240=>296 | 241=>297 | 276=>298 | 277=>299 | n=>n,fun | 31=>37 | 9=>9 | 3=>3 | 4=>4 | 0=>0 | 20=>20 | 72=>299 | 76=>303 | 70=>297 | 37=>238 | 75=>302 | 127=>306 | 164=>307 | 5=>5 | 80=>305 | n=>n,fun | n=>n⟩
theorem Tryz.lays156:Go.Proofs.Lays.n156 Tryz.prog Tryz.lays156_ren:={
 mixed:=by kernel_rfl
 f156:=Tryz.func291.trans (congrArg some (by kernel_rfl))
 f165:=Tryz.func293.trans (congrArg some (by kernel_rfl))
 f166:=Tryz.func294.trans (congrArg some (by kernel_rfl))
 f169:=Tryz.func295.trans (congrArg some (by kernel_rfl))
 f240:=Tryz.func296.trans (congrArg some (by kernel_rfl))
 f241:=Tryz.func297.trans (congrArg some (by kernel_rfl))
 f276:=Tryz.func298.trans (congrArg some (by kernel_rfl))
 f277:=Tryz.func299.trans (congrArg some (by kernel_rfl))
 t0:=Tryz.underlying0
 a0:=Tryz.isAgg0
 z0:=Tryz.sizeOf0
 v0:=Tryz.zeroValue0
 t3:=Tryz.underlying3
 a3:=Tryz.isAgg3
 z3:=Tryz.sizeOf3
 v3:=Tryz.zeroValue3
 t4:=Tryz.underlying4
 a4:=Tryz.isAgg4
 z4:=Tryz.sizeOf4
 v4:=Tryz.zeroValue4
 t9:=Tryz.underlying9
 a9:=Tryz.isAgg9
 z9:=Tryz.sizeOf9
 v9:=Tryz.zeroValue9
 t20:=Tryz.underlying20
 a20:=Tryz.isAgg20
 z20:=Tryz.sizeOf20
 v20:=Tryz.zeroValue20
 t31:=Tryz.underlying37
 a31:=Tryz.isAgg37
 z31:=Tryz.sizeOf37
 v31:=Tryz.zeroValue37
 t37:=Tryz.underlying238
 a37:=Tryz.isAgg238
 z37:=Tryz.sizeOf238
 v37:=Tryz.zeroValue238
 t70:=Tryz.underlying297
 a70:=Tryz.isAgg297
 z70:=Tryz.sizeOf297
 v70:=Tryz.zeroValue297
 t72:=Tryz.underlying299
 a72:=Tryz.isAgg299
 z72:=Tryz.sizeOf299
 v72:=Tryz.zeroValue299
 t75:=Tryz.underlying302
 a75:=Tryz.isAgg302
 z75:=Tryz.sizeOf302
 v75:=Tryz.zeroValue302
 t76:=Tryz.underlying303
 a76:=Tryz.isAgg303
 z76:=Tryz.sizeOf303
 v76:=Tryz.zeroValue303
 t127:=Tryz.underlying306
 a127:=Tryz.isAgg306
 z127:=Tryz.sizeOf306
 v127:=Tryz.zeroValue306
 t164:=Tryz.underlying307
 a164:=Tryz.isAgg307
 z164:=Tryz.sizeOf307
 v164:=Tryz.zeroValue307 }
theorem Tryz.Builder_Extra_156:Builder.Extra Tryz.prog Tryz.lays156_ren:={
 sizeBuilder:=by kernel_rfl
 liesBuilder:=by kernel_rfl
 t5:=Tryz.underlying5
 a5:=Tryz.isAgg5
 z5:=Tryz.sizeOf5
 v5:=Tryz.zeroValue5
 infoByte:=by kernel_rfl
 cellsByte:=by kernel_rfl
 sizeByte:=by kernel_rfl
 neB5:=by decide }
open Go.RowKit in
theorem Tryz.strings_Join (bk o c:Nat) (xs:List ByteArray) (sep:ByteArray) (w:World) (hcells:∀ (j:Nat) x,xs[j]? = some x→w.cell? ⟨bk,o+j,none⟩=some (.string x)) (hbk:bk<w.heap.size) (hN:xs.length≤140737488355328) (hcap:xs.length≤c) (hlen:(Lib.join (xs.map (·.data.toList)) sep.data.toList).length≤140737488355328) :
  Calls Tryz.prog 291 #[.slice (some ⟨bk,o,none⟩) xs.length c,.string sep] w fun e w'=>e = .returned (.string ⟨(Lib.join (xs.map (·.data.toList)) sep.data.toList).toArray⟩)∧Below w.heap.size w w':=Any.strings_Join Tryz.lays156 Tryz.Builder_Extra_156 bk o c xs sep w hcells hbk hN hcap hlen
def Tryz.lays213_ren:Go.Shelf.Ren:=⟨fun | 213=>173 | 265=>221 | n=>n,fun | 9=>9 | 3=>3 | n=>n,fun | n=>n⟩
def Tryz.lays106_ren:Go.Shelf.Ren:=⟨fun | 106=>128 | 213=>173 | 265=>221 | n=>n,fun | 9=>9 | 3=>3 | n=>n,fun | n=>n⟩
theorem Tryz.lays106:Go.Proofs.Lays.n106 Tryz.prog Tryz.lays106_ren:={
 mixed:=by kernel_rfl
 f106:=Tryz.func128.trans (congrArg some (by kernel_rfl))
 f213:=Tryz.func173.trans (congrArg some (by kernel_rfl))
 f265:=Tryz.func221.trans (congrArg some (by kernel_rfl))
 t3:=Tryz.underlying3
 a3:=Tryz.isAgg3
 z3:=Tryz.sizeOf3
 v3:=Tryz.zeroValue3
 t9:=Tryz.underlying9
 a9:=Tryz.isAgg9
 z9:=Tryz.sizeOf9
 v9:=Tryz.zeroValue9 }
open Go.RowKit in
theorem Tryz.strings_Compare (a b:ByteArray) (w:World) :
  Calls Tryz.prog 128 #[.string a,.string b] w fun e w'=>e = .returned (.int .i64 (Lib.compareBytes a.data.toList b.data.toList))∧w'=w:=Any.strings_Compare Tryz.lays106 a b w
def Tryz.lays137_ren:Go.Shelf.Ren:=⟨fun | 137=>153 | 217=>195 | 266=>231 | n=>n,fun | 9=>9 | 5=>5 | 3=>3 | n=>n,fun | n=>n⟩
theorem Tryz.lays137:Go.Proofs.Lays.n137 Tryz.prog Tryz.lays137_ren:={
 mixed:=by kernel_rfl
 f137:=Tryz.func153.trans (congrArg some (by kernel_rfl))
 f217:=Tryz.func195.trans (congrArg some (by kernel_rfl))
 f266:=Tryz.func231.trans (congrArg some (by kernel_rfl))
 t3:=Tryz.underlying3
 a3:=Tryz.isAgg3
 z3:=Tryz.sizeOf3
 v3:=Tryz.zeroValue3
 t5:=Tryz.underlying5
 a5:=Tryz.isAgg5
 z5:=Tryz.sizeOf5
 v5:=Tryz.zeroValue5
 t9:=Tryz.underlying9
 a9:=Tryz.isAgg9
 z9:=Tryz.sizeOf9
 v9:=Tryz.zeroValue9 }
open Go.RowKit in
theorem Tryz.strings_IndexByte (s:ByteArray) (c:Int) (w:World) :
  Calls Tryz.prog 153 #[.string s,.int .u8 c] w fun e w'=>e = .returned (.int .i64 (Lib.indexByte s.data.toList c.toNat.toUInt8))∧w'=w:=Any.strings_IndexByte Tryz.lays137 s c w
def Tryz.lays210_ren:Go.Shelf.Ren:=⟨fun | 210=>279 | 206=>287 | n=>n,fun | 9=>9 | 4=>4 | 3=>3 | n=>n,fun | n=>n⟩
def Tryz.lays219_ren:Go.Shelf.Ren:=⟨fun | 219=>235 | 217=>195 | 225=>260 | 224=>261 | 267=>262 | 266=>231 | 314=>282 | n=>n,fun | 9=>9 | 3=>3 | 4=>4 | 5=>5 | 46=>97 | 146=>292 | 51=>224 | n=>n,fun | 1=>1 | n=>n⟩
def Tryz.lays145_ren:Go.Shelf.Ren:=⟨fun | 145=>155 | 220=>199 | 219=>235 | 217=>195 | 225=>260 | 224=>261 | 267=>262 | 266=>231 | 314=>282 | n=>n,fun | 9=>9 | 4=>4 | 59=>196 | 3=>3 | 5=>5 | 46=>97 | 146=>292 | 51=>224 | n=>n,fun | 1=>1 | n=>n⟩
theorem Tryz.lays145:Go.Proofs.Lays.n145 Tryz.prog Tryz.lays145_ren:={
 mixed:=by kernel_rfl
 f145:=Tryz.func155.trans (congrArg some (by kernel_rfl))
 f217:=Tryz.func195.trans (congrArg some (by kernel_rfl))
 f219:=Tryz.func235.trans (congrArg some (by kernel_rfl))
 f220:=Tryz.func199.trans (congrArg some (by kernel_rfl))
 f224:=Tryz.func261.trans (congrArg some (by kernel_rfl))
 f225:=Tryz.func260.trans (congrArg some (by kernel_rfl))
 f266:=Tryz.func231.trans (congrArg some (by kernel_rfl))
 f267:=Tryz.func262.trans (congrArg some (by kernel_rfl))
 f314:=Tryz.func282.trans (congrArg some (by kernel_rfl))
 t3:=Tryz.underlying3
 a3:=Tryz.isAgg3
 z3:=Tryz.sizeOf3
 v3:=Tryz.zeroValue3
 t4:=Tryz.underlying4
 a4:=Tryz.isAgg4
 z4:=Tryz.sizeOf4
 v4:=Tryz.zeroValue4
 t5:=Tryz.underlying5
 a5:=Tryz.isAgg5
 z5:=Tryz.sizeOf5
 v5:=Tryz.zeroValue5
 t9:=Tryz.underlying9
 a9:=Tryz.isAgg9
 z9:=Tryz.sizeOf9
 v9:=Tryz.zeroValue9
 t46:=Tryz.underlying97
 a46:=Tryz.isAgg97
 z46:=Tryz.sizeOf97
 v46:=Tryz.zeroValue97
 t51:=Tryz.underlying224
 a51:=Tryz.isAgg224
 z51:=Tryz.sizeOf224
 v51:=Tryz.zeroValue224
 t59:=Tryz.underlying196
 a59:=Tryz.isAgg196
 z59:=Tryz.sizeOf196
 v59:=Tryz.zeroValue196
 t146:=Tryz.underlying292
 a146:=Tryz.isAgg292
 z146:=Tryz.sizeOf292
 v146:=Tryz.zeroValue292
 g1:=by kernel_rfl }
open Go.RowKit Go.Lib in
theorem Tryz.strings_Cut (s sep:ByteArray) (m:Int) (w:World) (hs:s.size<4294967281) (hm:w.cell? ⟨1,0,none⟩=some (.int .i64 m)) :
  Calls Tryz.prog 155 #[.string s,.string sep] w fun e w'=>e = .returned (.tuple #[.string ⟨(Lib.cut s.data.toList sep.data.toList).1.toArray⟩,.string ⟨(Lib.cut s.data.toList sep.data.toList).2.1.toArray⟩,.bool (Lib.cut s.data.toList sep.data.toList).2.2])∧∃ n,w'=w.drewN n:=Any.strings_Cut Tryz.lays145 s sep m w hs hm
def Tryz.lays138_ren:Go.Shelf.Ren:=⟨fun | 138=>197 | 195=>232 | 218=>234 | 143=>198 | 219=>235 | 217=>195 | 225=>260 | 224=>261 | 267=>262 | 266=>231 | 314=>282 | n=>n,fun | 9=>9 | 3=>3 | 4=>4 | 5=>5 | 0=>0 | 46=>97 | 146=>292 | 51=>224 | n=>n,fun | 1=>1 | n=>n⟩
theorem Tryz.lays138:Go.Proofs.Lays.n138 Tryz.prog Tryz.lays138_ren:={
 mixed:=by kernel_rfl
 f138:=Tryz.func197.trans (congrArg some (by kernel_rfl))
 f143:=Tryz.func198.trans (congrArg some (by kernel_rfl))
 f195:=Tryz.func232.trans (congrArg some (by kernel_rfl))
 f217:=Tryz.func195.trans (congrArg some (by kernel_rfl))
 f218:=Tryz.func234.trans (congrArg some (by kernel_rfl))
 f219:=Tryz.func235.trans (congrArg some (by kernel_rfl))
 f224:=Tryz.func261.trans (congrArg some (by kernel_rfl))
 f225:=Tryz.func260.trans (congrArg some (by kernel_rfl))
 f266:=Tryz.func231.trans (congrArg some (by kernel_rfl))
 f267:=Tryz.func262.trans (congrArg some (by kernel_rfl))
 f314:=Tryz.func282.trans (congrArg some (by kernel_rfl))
 t0:=Tryz.underlying0
 a0:=Tryz.isAgg0
 z0:=Tryz.sizeOf0
 v0:=Tryz.zeroValue0
 t3:=Tryz.underlying3
 a3:=Tryz.isAgg3
 z3:=Tryz.sizeOf3
 v3:=Tryz.zeroValue3
 t4:=Tryz.underlying4
 a4:=Tryz.isAgg4
 z4:=Tryz.sizeOf4
 v4:=Tryz.zeroValue4
 t5:=Tryz.underlying5
 a5:=Tryz.isAgg5
 z5:=Tryz.sizeOf5
 v5:=Tryz.zeroValue5
 t9:=Tryz.underlying9
 a9:=Tryz.isAgg9
 z9:=Tryz.sizeOf9
 v9:=Tryz.zeroValue9
 t46:=Tryz.underlying97
 a46:=Tryz.isAgg97
 z46:=Tryz.sizeOf97
 v46:=Tryz.zeroValue97
 t51:=Tryz.underlying224
 a51:=Tryz.isAgg224
 z51:=Tryz.sizeOf224
 v51:=Tryz.zeroValue224
 t146:=Tryz.underlying292
 a146:=Tryz.isAgg292
 z146:=Tryz.sizeOf292
 v146:=Tryz.zeroValue292
 g1:=by kernel_rfl }
open Go.RowKit Go.Lib in
theorem Tryz.strings_Count_one (s:ByteArray) (c:UInt8) (w:World) :
  Calls Tryz.prog 197 #[.string s,.string ⟨#[c]⟩] w fun e w'=>e = .returned (.int .i64 (Lib.countByte s.data.toList c))∧w'=w:=Any.strings_Count_one Tryz.lays138 s c w
def Tryz.lays190_ren:Go.Shelf.Ren:=⟨fun | 190=>111 | 125=>130 | 258=>166 | 128=>182 | 129=>183 | 302=>208 | 303=>209 | 304=>210 | 305=>211 | 306=>212 | 307=>213 | 308=>214 | 309=>215 | 310=>216 | 333=>250 | 329=>223 | 330=>224 | 334=>251 | 335=>252 | 336=>253 | 344=>281 | n=>n,fun | 31=>37 | 9=>9 | 3=>3 | 46=>97 | 0=>0 | 51=>224 | 53=>94 | 4=>4 | 183=>217 | 182=>216 | 131=>221 | 5=>5 | 218=>253 | 222=>257 | 228=>271 | 229=>163 | n=>n,fun | n=>n⟩
theorem Tryz.lays190:Go.Proofs.Lays.n190 Tryz.prog Tryz.lays190_ren:={
 mixed:=by kernel_rfl
 f125:=Tryz.func130.trans (congrArg some (by kernel_rfl))
 f128:=Tryz.func182.trans (congrArg some (by kernel_rfl))
 f129:=Tryz.func183.trans (congrArg some (by kernel_rfl))
 f190:=Tryz.func111.trans (congrArg some (by kernel_rfl))
 f258:=Tryz.func166.trans (congrArg some (by kernel_rfl))
 f302:=Tryz.func208.trans (congrArg some (by kernel_rfl))
 f303:=Tryz.func209.trans (congrArg some (by kernel_rfl))
 f304:=Tryz.func210.trans (congrArg some (by kernel_rfl))
 f305:=Tryz.func211.trans (congrArg some (by kernel_rfl))
 f306:=Tryz.func212.trans (congrArg some (by kernel_rfl))
 f307:=Tryz.func213.trans (congrArg some (by kernel_rfl))
 f308:=Tryz.func214.trans (congrArg some (by kernel_rfl))
 f309:=Tryz.func215.trans (congrArg some (by kernel_rfl))
 f310:=Tryz.func216.trans (congrArg some (by kernel_rfl))
 f329:=Tryz.func223.trans (congrArg some (by kernel_rfl))
 f330:=Tryz.func224.trans (congrArg some (by kernel_rfl))
 f333:=Tryz.func250.trans (congrArg some (by kernel_rfl))
 f334:=Tryz.func251.trans (congrArg some (by kernel_rfl))
 f335:=Tryz.func252.trans (congrArg some (by kernel_rfl))
 f336:=Tryz.func253.trans (congrArg some (by kernel_rfl))
 f344:=Tryz.func281.trans (congrArg some (by kernel_rfl))
 t0:=Tryz.underlying0
 a0:=Tryz.isAgg0
 z0:=Tryz.sizeOf0
 v0:=Tryz.zeroValue0
 t3:=Tryz.underlying3
 a3:=Tryz.isAgg3
 z3:=Tryz.sizeOf3
 v3:=Tryz.zeroValue3
 t4:=Tryz.underlying4
 a4:=Tryz.isAgg4
 z4:=Tryz.sizeOf4
 v4:=Tryz.zeroValue4
 t5:=Tryz.underlying5
 a5:=Tryz.isAgg5
 z5:=Tryz.sizeOf5
 v5:=Tryz.zeroValue5
 t9:=Tryz.underlying9
 a9:=Tryz.isAgg9
 z9:=Tryz.sizeOf9
 v9:=Tryz.zeroValue9
 t31:=Tryz.underlying37
 a31:=Tryz.isAgg37
 z31:=Tryz.sizeOf37
 v31:=Tryz.zeroValue37
 t46:=Tryz.underlying97
 a46:=Tryz.isAgg97
 z46:=Tryz.sizeOf97
 v46:=Tryz.zeroValue97
 t51:=Tryz.underlying224
 a51:=Tryz.isAgg224
 z51:=Tryz.sizeOf224
 v51:=Tryz.zeroValue224
 t53:=Tryz.underlying94
 a53:=Tryz.isAgg94
 z53:=Tryz.sizeOf94
 v53:=Tryz.zeroValue94
 t131:=Tryz.underlying221
 a131:=Tryz.isAgg221
 z131:=Tryz.sizeOf221
 v131:=Tryz.zeroValue221
 t182:=Tryz.underlying216
 a182:=Tryz.isAgg216
 z182:=Tryz.sizeOf216
 v182:=Tryz.zeroValue216
 t183:=Tryz.underlying217
 a183:=Tryz.isAgg217
 z183:=Tryz.sizeOf217
 v183:=Tryz.zeroValue217
 t218:=Tryz.underlying253
 a218:=Tryz.isAgg253
 z218:=Tryz.sizeOf253
 v218:=Tryz.zeroValue253
 t222:=Tryz.underlying257
 a222:=Tryz.isAgg257
 z222:=Tryz.sizeOf257
 v222:=Tryz.zeroValue257
 t228:=Tryz.underlying271
 a228:=Tryz.isAgg271
 z228:=Tryz.sizeOf271
 v228:=Tryz.zeroValue271
 t229:=Tryz.underlying163
 a229:=Tryz.isAgg163
 z229:=Tryz.sizeOf163
 v229:=Tryz.zeroValue163 }
open Go.Sort Go.RowKit in
theorem Tryz.slices_Sort_string (blk off cap:Nat) (ss:List (List UInt8)) (w:World) (hH:Holds encStr w blk off ss.toArray) (hblk:blk<w.heap.size) (hsz:ss.length<4611686018427387904) :
  Calls Tryz.prog 111 #[.slice (some ⟨blk,off,none⟩) ss.length cap] w fun e w'=>
   e = .returned (.tuple #[])∧∃ n os,w'=grow (putRow encStr (Sort.ahead w n) blk off (ss.mergeSort fun x y=>decide (x≤y)).toArray) os:=Any.slices_Sort_string Tryz.lays190 blk off cap ss w hH hblk hsz
def Tryz.lays102_ren:Go.Shelf.Ren:=⟨fun | 102=>157 | 209=>200 | 207=>236 | n=>n,fun | 9=>9 | 4=>4 | 3=>3 | n=>n,fun | n=>n⟩
theorem Tryz.lays102:Go.Proofs.Lays.n102 Tryz.prog Tryz.lays102_ren:={
 mixed:=by kernel_rfl
 f102:=Tryz.func157.trans (congrArg some (by kernel_rfl))
 f207:=Tryz.func236.trans (congrArg some (by kernel_rfl))
 f209:=Tryz.func200.trans (congrArg some (by kernel_rfl))
 t3:=Tryz.underlying3
 a3:=Tryz.isAgg3
 z3:=Tryz.sizeOf3
 v3:=Tryz.zeroValue3
 t4:=Tryz.underlying4
 a4:=Tryz.isAgg4
 z4:=Tryz.sizeOf4
 v4:=Tryz.zeroValue4
 t9:=Tryz.underlying9
 a9:=Tryz.isAgg9
 z9:=Tryz.sizeOf9
 v9:=Tryz.zeroValue9 }
open Go.RowKit Go.Lib in
theorem Tryz.strings_TrimSuffix (s p:ByteArray) (w:World) (hs:s.size≤9223372036854775807) :
  Calls Tryz.prog 157 #[.string s,.string p] w fun e w'=>e = .returned (.string ⟨(Lib.trimSuffix s.data.toList p.data.toList).toArray⟩)∧w'=w:=Any.strings_TrimSuffix Tryz.lays102 s p w hs
def Tryz.lays221_ren:Go.Shelf.Ren:=⟨fun | 221=>154 | 268=>196 | 138=>197 | 143=>198 | 195=>232 | 197=>233 | 218=>234 | 219=>235 | 260=>259 | 217=>195 | 225=>260 | 224=>261 | 267=>262 | 266=>231 | 314=>282 | n=>n,fun | 9=>9 | 3=>3 | 31=>37 | 4=>4 | 0=>0 | 105=>261 | 21=>21 | 5=>5 | 46=>97 | 119=>288 | 139=>291 | 138=>290 | 146=>292 | 51=>224 | n=>n,fun | 1=>1 | 3=>2 | 4=>3 | n=>n⟩
theorem Tryz.lays221:Go.Proofs.Lays.n221 Tryz.prog Tryz.lays221_ren:={
 mixed:=by kernel_rfl
 f138:=Tryz.func197.trans (congrArg some (by kernel_rfl))
 f143:=Tryz.func198.trans (congrArg some (by kernel_rfl))
 f195:=Tryz.func232.trans (congrArg some (by kernel_rfl))
 f197:=Tryz.func233.trans (congrArg some (by kernel_rfl))
 f217:=Tryz.func195.trans (congrArg some (by kernel_rfl))
 f218:=Tryz.func234.trans (congrArg some (by kernel_rfl))
 f219:=Tryz.func235.trans (congrArg some (by kernel_rfl))
 f221:=Tryz.func154.trans (congrArg some (by kernel_rfl))
 f224:=Tryz.func261.trans (congrArg some (by kernel_rfl))
 f225:=Tryz.func260.trans (congrArg some (by kernel_rfl))
 f260:=Tryz.func259.trans (congrArg some (by kernel_rfl))
 f266:=Tryz.func231.trans (congrArg some (by kernel_rfl))
 f267:=Tryz.func262.trans (congrArg some (by kernel_rfl))
 f268:=Tryz.func196.trans (congrArg some (by kernel_rfl))
 f314:=Tryz.func282.trans (congrArg some (by kernel_rfl))
 t0:=Tryz.underlying0
 a0:=Tryz.isAgg0
 z0:=Tryz.sizeOf0
 v0:=Tryz.zeroValue0
 t3:=Tryz.underlying3
 a3:=Tryz.isAgg3
 z3:=Tryz.sizeOf3
 v3:=Tryz.zeroValue3
 t4:=Tryz.underlying4
 a4:=Tryz.isAgg4
 z4:=Tryz.sizeOf4
 v4:=Tryz.zeroValue4
 t5:=Tryz.underlying5
 a5:=Tryz.isAgg5
 z5:=Tryz.sizeOf5
 v5:=Tryz.zeroValue5
 t9:=Tryz.underlying9
 a9:=Tryz.isAgg9
 z9:=Tryz.sizeOf9
 v9:=Tryz.zeroValue9
 t21:=Tryz.underlying21
 a21:=Tryz.isAgg21
 z21:=Tryz.sizeOf21
 v21:=Tryz.zeroValue21
 t31:=Tryz.underlying37
 a31:=Tryz.isAgg37
 z31:=Tryz.sizeOf37
 v31:=Tryz.zeroValue37
 t46:=Tryz.underlying97
 a46:=Tryz.isAgg97
 z46:=Tryz.sizeOf97
 v46:=Tryz.zeroValue97
 t51:=Tryz.underlying224
 a51:=Tryz.isAgg224
 z51:=Tryz.sizeOf224
 v51:=Tryz.zeroValue224
 t105:=Tryz.underlying261
 a105:=Tryz.isAgg261
 z105:=Tryz.sizeOf261
 v105:=Tryz.zeroValue261
 t119:=Tryz.underlying288
 a119:=Tryz.isAgg288
 z119:=Tryz.sizeOf288
 t138:=Tryz.underlying290
 a138:=Tryz.isAgg290
 z138:=Tryz.sizeOf290
 v138:=Tryz.zeroValue290
 t139:=Tryz.underlying291
 a139:=Tryz.isAgg291
 z139:=Tryz.sizeOf291
 v139:=Tryz.zeroValue291
 t146:=Tryz.underlying292
 a146:=Tryz.isAgg292
 z146:=Tryz.sizeOf292
 v146:=Tryz.zeroValue292
 g1:=by kernel_rfl
 g3:=by kernel_rfl
 g4:=by kernel_rfl }
open Go.RowKit Go.Lib in
theorem Tryz.strings_genSplit (s sep:ByteArray) (sv:Nat) (n:Int) (N:Nat) (m:Int) (w:World) (hs:s.size<4294967281) (hm:w.cell? ⟨1,0,none⟩=some (.int .i64 m)) (h1:1≤sep.size) (hsv:sv≤sep.size) (hn0:n≠0) (hn63:n≤9223372036854775807) (hN:(N:Int)=min (if n<0 then (Lib.countB s sep:Int)+1 else n) ((s.size:Int)+1)) :
  Calls Tryz.prog 154 #[.string s,.string sep,.int .i64 sv,.int .i64 n] w fun e w'=>
   e = .returned (.slice (some ⟨w.heap.size,0,none⟩) (Lib.splitB sep sv (N - 1) s).length N)∧w'=w.alloc (.cells (Lib.cellsOf (Lib.splitB sep sv (N - 1) s) N) 9):=Any.strings_genSplit Tryz.lays221 (by kernel_rfl) s sep sv n N m w hs hm h1 hsv hn0 hn63 hN
def Tryz.lays146_ren:Go.Shelf.Ren:=⟨fun | 146=>100 | 221=>154 | 268=>196 | 138=>197 | 143=>198 | 195=>232 | 197=>233 | 218=>234 | 219=>235 | 260=>259 | 217=>195 | 225=>260 | 224=>261 | 267=>262 | 266=>231 | 314=>282 | n=>n,fun | 9=>9 | 31=>37 | 3=>3 | 4=>4 | 0=>0 | 105=>261 | 21=>21 | 5=>5 | 46=>97 | 119=>288 | 139=>291 | 138=>290 | 146=>292 | 51=>224 | n=>n,fun | 1=>1 | 3=>2 | 4=>3 | n=>n⟩
theorem Tryz.lays146:Go.Proofs.Lays.n146 Tryz.prog Tryz.lays146_ren:={
 mixed:=by kernel_rfl
 f138:=Tryz.func197.trans (congrArg some (by kernel_rfl))
 f143:=Tryz.func198.trans (congrArg some (by kernel_rfl))
 f146:=Tryz.func100.trans (congrArg some (by kernel_rfl))
 f195:=Tryz.func232.trans (congrArg some (by kernel_rfl))
 f197:=Tryz.func233.trans (congrArg some (by kernel_rfl))
 f217:=Tryz.func195.trans (congrArg some (by kernel_rfl))
 f218:=Tryz.func234.trans (congrArg some (by kernel_rfl))
 f219:=Tryz.func235.trans (congrArg some (by kernel_rfl))
 f221:=Tryz.func154.trans (congrArg some (by kernel_rfl))
 f224:=Tryz.func261.trans (congrArg some (by kernel_rfl))
 f225:=Tryz.func260.trans (congrArg some (by kernel_rfl))
 f260:=Tryz.func259.trans (congrArg some (by kernel_rfl))
 f266:=Tryz.func231.trans (congrArg some (by kernel_rfl))
 f267:=Tryz.func262.trans (congrArg some (by kernel_rfl))
 f268:=Tryz.func196.trans (congrArg some (by kernel_rfl))
 f314:=Tryz.func282.trans (congrArg some (by kernel_rfl))
 t0:=Tryz.underlying0
 a0:=Tryz.isAgg0
 z0:=Tryz.sizeOf0
 v0:=Tryz.zeroValue0
 t3:=Tryz.underlying3
 a3:=Tryz.isAgg3
 z3:=Tryz.sizeOf3
 v3:=Tryz.zeroValue3
 t4:=Tryz.underlying4
 a4:=Tryz.isAgg4
 z4:=Tryz.sizeOf4
 v4:=Tryz.zeroValue4
 t5:=Tryz.underlying5
 a5:=Tryz.isAgg5
 z5:=Tryz.sizeOf5
 v5:=Tryz.zeroValue5
 t9:=Tryz.underlying9
 a9:=Tryz.isAgg9
 z9:=Tryz.sizeOf9
 v9:=Tryz.zeroValue9
 t21:=Tryz.underlying21
 a21:=Tryz.isAgg21
 z21:=Tryz.sizeOf21
 v21:=Tryz.zeroValue21
 t31:=Tryz.underlying37
 a31:=Tryz.isAgg37
 z31:=Tryz.sizeOf37
 v31:=Tryz.zeroValue37
 t46:=Tryz.underlying97
 a46:=Tryz.isAgg97
 z46:=Tryz.sizeOf97
 v46:=Tryz.zeroValue97
 t51:=Tryz.underlying224
 a51:=Tryz.isAgg224
 z51:=Tryz.sizeOf224
 v51:=Tryz.zeroValue224
 t105:=Tryz.underlying261
 a105:=Tryz.isAgg261
 z105:=Tryz.sizeOf261
 v105:=Tryz.zeroValue261
 t119:=Tryz.underlying288
 a119:=Tryz.isAgg288
 z119:=Tryz.sizeOf288
 t138:=Tryz.underlying290
 a138:=Tryz.isAgg290
 z138:=Tryz.sizeOf290
 v138:=Tryz.zeroValue290
 t139:=Tryz.underlying291
 a139:=Tryz.isAgg291
 z139:=Tryz.sizeOf291
 v139:=Tryz.zeroValue291
 t146:=Tryz.underlying292
 a146:=Tryz.isAgg292
 z146:=Tryz.sizeOf292
 v146:=Tryz.zeroValue292
 g1:=by kernel_rfl
 g3:=by kernel_rfl
 g4:=by kernel_rfl }
open Go.RowKit Go.Lib in
theorem Tryz.strings_Split (s sep:ByteArray) (m:Int) (w:World) (hs:s.size<4294967281) (hm:w.cell? ⟨1,0,none⟩=some (.int .i64 m)) (h1:1≤sep.size) :
  Calls Tryz.prog 100 #[.string s,.string sep] w fun e w'=>
   e = .returned (.slice (some ⟨w.heap.size,0,none⟩) (Lib.countB s sep+1) (Lib.countB s sep+1))∧w'=w.alloc (.cells ((Lib.splitB sep 0 (Lib.countB s sep) s).map Value.string).toArray 9):=Any.strings_Split Tryz.lays146 (by kernel_rfl) s sep m w hs hm h1
def Tryz.lays153_ren:Go.Shelf.Ren:=⟨fun | 153=>238 | 152=>270 | 226=>271 | 227=>265 | 228=>272 | 137=>153 | 119=>285 | 224=>261 | 225=>260 | 217=>195 | 266=>231 | n=>n,fun | 9=>9 | 3=>3 | 4=>4 | 5=>5 | 21=>21 | 117=>276 | 116=>275 | 0=>0 | 46=>97 | 124=>279 | n=>n,fun | n=>n⟩
theorem Tryz.lays153:Go.Proofs.Lays.n153 Tryz.prog Tryz.lays153_ren:={
 mixed:=by kernel_rfl
 f119:=Tryz.func285.trans (congrArg some (by kernel_rfl))
 f137:=Tryz.func153.trans (congrArg some (by kernel_rfl))
 f152:=Tryz.func270.trans (congrArg some (by kernel_rfl))
 f153:=Tryz.func238.trans (congrArg some (by kernel_rfl))
 f217:=Tryz.func195.trans (congrArg some (by kernel_rfl))
 f224:=Tryz.func261.trans (congrArg some (by kernel_rfl))
 f225:=Tryz.func260.trans (congrArg some (by kernel_rfl))
 f226:=Tryz.func271.trans (congrArg some (by kernel_rfl))
 f227:=Tryz.func265.trans (congrArg some (by kernel_rfl))
 f228:=Tryz.func272.trans (congrArg some (by kernel_rfl))
 f266:=Tryz.func231.trans (congrArg some (by kernel_rfl))
 t0:=Tryz.underlying0
 a0:=Tryz.isAgg0
 z0:=Tryz.sizeOf0
 v0:=Tryz.zeroValue0
 t3:=Tryz.underlying3
 a3:=Tryz.isAgg3
 z3:=Tryz.sizeOf3
 v3:=Tryz.zeroValue3
 t4:=Tryz.underlying4
 a4:=Tryz.isAgg4
 z4:=Tryz.sizeOf4
 v4:=Tryz.zeroValue4
 t5:=Tryz.underlying5
 a5:=Tryz.isAgg5
 z5:=Tryz.sizeOf5
 v5:=Tryz.zeroValue5
 t9:=Tryz.underlying9
 a9:=Tryz.isAgg9
 z9:=Tryz.sizeOf9
 v9:=Tryz.zeroValue9
 t21:=Tryz.underlying21
 a21:=Tryz.isAgg21
 z21:=Tryz.sizeOf21
 v21:=Tryz.zeroValue21
 t46:=Tryz.underlying97
 a46:=Tryz.isAgg97
 z46:=Tryz.sizeOf97
 v46:=Tryz.zeroValue97
 t116:=Tryz.underlying275
 a116:=Tryz.isAgg275
 z116:=Tryz.sizeOf275
 t117:=Tryz.underlying276
 a117:=Tryz.isAgg276
 z117:=Tryz.sizeOf276
 v117:=Tryz.zeroValue276
 t124:=Tryz.underlying279
 a124:=Tryz.isAgg279
 z124:=Tryz.sizeOf279
 v124:=Tryz.zeroValue279 }
def Tryz.lays227_ren:Go.Shelf.Ren:=⟨fun | 227=>265 | n=>n,fun | 9=>9 | 116=>275 | 4=>4 | 0=>0 | 3=>3 | 5=>5 | n=>n,fun | n=>n⟩
theorem Tryz.lays227:Go.Proofs.Lays.n227 Tryz.prog Tryz.lays227_ren:={
 mixed:=by kernel_rfl
 f227:=Tryz.func265.trans (congrArg some (by kernel_rfl))
 t0:=Tryz.underlying0
 a0:=Tryz.isAgg0
 z0:=Tryz.sizeOf0
 v0:=Tryz.zeroValue0
 t3:=Tryz.underlying3
 a3:=Tryz.isAgg3
 z3:=Tryz.sizeOf3
 v3:=Tryz.zeroValue3
 t4:=Tryz.underlying4
 a4:=Tryz.isAgg4
 z4:=Tryz.sizeOf4
 v4:=Tryz.zeroValue4
 t5:=Tryz.underlying5
 a5:=Tryz.isAgg5
 z5:=Tryz.sizeOf5
 v5:=Tryz.zeroValue5
 t9:=Tryz.underlying9
 a9:=Tryz.isAgg9
 z9:=Tryz.sizeOf9
 v9:=Tryz.zeroValue9
 t116:=Tryz.underlying275
 a116:=Tryz.isAgg275
 z116:=Tryz.sizeOf275 }
open Go.RowKit Go.Lib in
theorem Tryz.strings_makeASCIISet (hv116:∀ w,(zeroValue 275).run Tryz.prog w = .ok (.agg (Array.replicate 256 (.bool false))) w) (chars:ByteArray) (w:World) (hs:chars.size<4294967281) (hascii:∀ (j:Nat) b,chars.data.toList[j]? = some b→b.toNat<128) :
  Calls Tryz.prog 265 #[.string chars] w fun e w'=>e = .returned (.tuple #[.agg (Lib.setCells chars.data.toList),.bool true])∧w'=w.alloc (.cells (Lib.setCells chars.data.toList) 275):=Any.strings_makeASCIISet Tryz.lays227 hv116 (by kernel_rfl) chars w hs hascii
def Tryz.lays150_ren:Go.Shelf.Ren:=⟨fun | 150=>249 | 153=>238 | 152=>270 | 226=>271 | 227=>265 | 228=>272 | 137=>153 | 119=>285 | 224=>261 | 225=>260 | 217=>195 | 266=>231 | n=>n,fun | 9=>9 | 4=>4 | 3=>3 | 5=>5 | 21=>21 | 117=>276 | 116=>275 | 0=>0 | 46=>97 | 124=>279 | n=>n,fun | n=>n⟩
theorem Tryz.lays150:Go.Proofs.Lays.n150 Tryz.prog Tryz.lays150_ren:={
 mixed:=by kernel_rfl
 f119:=Tryz.func285.trans (congrArg some (by kernel_rfl))
 f137:=Tryz.func153.trans (congrArg some (by kernel_rfl))
 f150:=Tryz.func249.trans (congrArg some (by kernel_rfl))
 f152:=Tryz.func270.trans (congrArg some (by kernel_rfl))
 f153:=Tryz.func238.trans (congrArg some (by kernel_rfl))
 f217:=Tryz.func195.trans (congrArg some (by kernel_rfl))
 f224:=Tryz.func261.trans (congrArg some (by kernel_rfl))
 f225:=Tryz.func260.trans (congrArg some (by kernel_rfl))
 f226:=Tryz.func271.trans (congrArg some (by kernel_rfl))
 f227:=Tryz.func265.trans (congrArg some (by kernel_rfl))
 f228:=Tryz.func272.trans (congrArg some (by kernel_rfl))
 f266:=Tryz.func231.trans (congrArg some (by kernel_rfl))
 t0:=Tryz.underlying0
 a0:=Tryz.isAgg0
 z0:=Tryz.sizeOf0
 v0:=Tryz.zeroValue0
 t3:=Tryz.underlying3
 a3:=Tryz.isAgg3
 z3:=Tryz.sizeOf3
 v3:=Tryz.zeroValue3
 t4:=Tryz.underlying4
 a4:=Tryz.isAgg4
 z4:=Tryz.sizeOf4
 v4:=Tryz.zeroValue4
 t5:=Tryz.underlying5
 a5:=Tryz.isAgg5
 z5:=Tryz.sizeOf5
 v5:=Tryz.zeroValue5
 t9:=Tryz.underlying9
 a9:=Tryz.isAgg9
 z9:=Tryz.sizeOf9
 v9:=Tryz.zeroValue9
 t21:=Tryz.underlying21
 a21:=Tryz.isAgg21
 z21:=Tryz.sizeOf21
 v21:=Tryz.zeroValue21
 t46:=Tryz.underlying97
 a46:=Tryz.isAgg97
 z46:=Tryz.sizeOf97
 v46:=Tryz.zeroValue97
 t116:=Tryz.underlying275
 a116:=Tryz.isAgg275
 z116:=Tryz.sizeOf275
 t117:=Tryz.underlying276
 a117:=Tryz.isAgg276
 z117:=Tryz.sizeOf276
 v117:=Tryz.zeroValue276
 t124:=Tryz.underlying279
 a124:=Tryz.isAgg279
 z124:=Tryz.sizeOf279
 v124:=Tryz.zeroValue279 }
open Go.RowKit Go.Lib in
theorem Tryz.strings_IndexAny_laid (s chars:ByteArray) (w:World) (hs:s.size<4294967281) (hcs:chars.size<4294967281) (has:∀ (j:Nat) b,s.data.toList[j]? = some b→b.toNat<128) (hac:∀ (j:Nat) b,chars.data.toList[j]? = some b→b.toNat<128) :
  Calls Tryz.prog 238 #[.string s,.string chars] w fun e w'=>e = .returned (.int .i64 (Lib.indexAny s.data.toList chars.data.toList))∧Below w.heap.size w w':=Any.strings_IndexAny_laid Tryz.lays153 (by kernel_rfl) s chars w hs hcs has hac
open Go.RowKit Go.Lib in
theorem Tryz.strings_ContainsAny_laid (s chars:ByteArray) (w:World) (hs:s.size<4294967281) (hcs:chars.size<4294967281) (has:∀ (j:Nat) b,s.data.toList[j]? = some b→b.toNat<128) (hac:∀ (j:Nat) b,chars.data.toList[j]? = some b→b.toNat<128) :
  Calls Tryz.prog 249 #[.string s,.string chars] w fun e w'=>e = .returned (.bool (Lib.containsAny s.data.toList chars.data.toList))∧Below w.heap.size w w':=Any.strings_ContainsAny_laid Tryz.lays150 (by kernel_rfl) s chars w hs hcs has hac
def Tryz.lays229_ren:Go.Shelf.Ren:=⟨fun | 229=>239 | n=>n,fun | 9=>9 | 40=>264 | 31=>37 | 152=>282 | 3=>3 | 0=>0 | 4=>4 | 21=>21 | 154=>284 | n=>n,fun | n=>n⟩
theorem Tryz.lays229:Go.Proofs.Lays.n229 Tryz.prog Tryz.lays229_ren:={
 mixed:=by kernel_rfl
 f229:=Tryz.func239.trans (congrArg some (by kernel_rfl))
 t0:=Tryz.underlying0
 a0:=Tryz.isAgg0
 z0:=Tryz.sizeOf0
 v0:=Tryz.zeroValue0
 t3:=Tryz.underlying3
 a3:=Tryz.isAgg3
 z3:=Tryz.sizeOf3
 v3:=Tryz.zeroValue3
 t4:=Tryz.underlying4
 a4:=Tryz.isAgg4
 z4:=Tryz.sizeOf4
 v4:=Tryz.zeroValue4
 t9:=Tryz.underlying9
 a9:=Tryz.isAgg9
 z9:=Tryz.sizeOf9
 v9:=Tryz.zeroValue9
 t21:=Tryz.underlying21
 a21:=Tryz.isAgg21
 z21:=Tryz.sizeOf21
 v21:=Tryz.zeroValue21
 t31:=Tryz.underlying37
 a31:=Tryz.isAgg37
 z31:=Tryz.sizeOf37
 v31:=Tryz.zeroValue37
 t40:=Tryz.underlying264
 a40:=Tryz.isAgg264
 z40:=Tryz.sizeOf264
 v40:=Tryz.zeroValue264
 t152:=Tryz.underlying282
 a152:=Tryz.isAgg282
 z152:=Tryz.sizeOf282
 v152:=Tryz.zeroValue282
 t154:=Tryz.underlying284
 a154:=Tryz.isAgg284
 z154:=Tryz.sizeOf284
 v154:=Tryz.zeroValue284 }
open Go.RowKit Go.Lib in
theorem Tryz.strings_FieldsFunc_grows (g:Nat) (lb:Array Value) (eg:∀ args w,(callFunc g args).run Tryz.prog w = .ok (.enter g args) w) (p:Nat→Bool) (s:ByteArray) (w:World) (hs:s.size≤4294967296) (hp:PredGrows Tryz.prog g lb p w) :
  Calls Tryz.prog 239 #[.string s,.func (.func g) #[] lb] w fun e w'=>∃ A,e = .returned (.slice (some ⟨A,0,none⟩) (Lib.goFieldsP p s).length (Lib.goFieldsP p s).length)∧w.heap.size≤A∧
   w'.ownsRow w.heap.size 9 1 (.slice (some ⟨A,0,none⟩) (Lib.goFieldsP p s).length (Lib.goFieldsP p s).length) (Lib.goFieldsP p s).length ((Lib.goFieldsP p s).map Value.string)∧Below w.heap.size w w':=Any.strings_FieldsFunc_grows Tryz.lays229 g lb eg p s w hs hp (by kernel_rfl) (by kernel_rfl)
def Tryz.lays110_ren:Go.Shelf.Ren:=⟨fun | 110=>107 | 109=>164 | n=>n,fun | 31=>37 | 9=>9 | 4=>4 | 3=>3 | 0=>0 | n=>n,fun | n=>n⟩
theorem Tryz.lays110:Go.Proofs.Lays.n110 Tryz.prog Tryz.lays110_ren:={
 mixed:=by kernel_rfl
 f109:=Tryz.func164.trans (congrArg some (by kernel_rfl))
 f110:=Tryz.func107.trans (congrArg some (by kernel_rfl))
 t0:=Tryz.underlying0
 a0:=Tryz.isAgg0
 z0:=Tryz.sizeOf0
 v0:=Tryz.zeroValue0
 t3:=Tryz.underlying3
 a3:=Tryz.isAgg3
 z3:=Tryz.sizeOf3
 v3:=Tryz.zeroValue3
 t4:=Tryz.underlying4
 a4:=Tryz.isAgg4
 z4:=Tryz.sizeOf4
 v4:=Tryz.zeroValue4
 t9:=Tryz.underlying9
 a9:=Tryz.isAgg9
 z9:=Tryz.sizeOf9
 v9:=Tryz.zeroValue9
 t31:=Tryz.underlying37
 a31:=Tryz.isAgg37
 z31:=Tryz.sizeOf37
 v31:=Tryz.zeroValue37 }
open Go.Lib in
theorem Tryz.slices_Contains_string (b off n c:Nat) (zs:List ByteArray) (x:ByteArray) (w:World) (hz:n≤zs.length) (hbig:n≤9223372036854775807) (hc:∀ j,j<zs.length→w.cell? ⟨b,off+j,none⟩=some (.string (zs.getD j ByteArray.empty))) :
  Calls Tryz.prog 107 #[.slice (some ⟨b,off,none⟩) n c,.string x] w fun e w'=>e = .returned (.bool (Lib.containsS (zs.take n) x))∧w'=w:=Any.slices_Contains_string Tryz.lays110 b off n c zs x w hz hbig hc
open Go.Lib in
theorem Tryz.slices_Contains_string_empty (a:Option Addr) (c:Nat) (x:ByteArray) (w:World) :
  Calls Tryz.prog 107 #[.slice a 0 c,.string x] w fun e w'=>e = .returned (.bool false)∧w'=w:=Any.slices_Contains_string_empty Tryz.lays110 a c x w
def Tryz.reverseTitle_ren:Go.Shelf.Ren:=⟨fun | 35=>163 | n=>n,fun | 22=>40 | 23=>29 | 3=>3 | 4=>4 | 0=>0 | n=>n,fun | n=>n⟩
theorem Tryz.reverseTitle:Go.Proofs.SlLaysE0.n35 Tryz.prog Tryz.reverseTitle_ren:={
 mixed:=by kernel_rfl
 f35:=⟨Tryz.f163.name,by decide,Tryz.func163.trans (congrArg some (by kernel_rfl))⟩
 t0:=Tryz.underlying0
 a0:=Tryz.isAgg0
 z0:=Tryz.sizeOf0
 v0:=Tryz.zeroValue0
 t3:=Tryz.underlying3
 a3:=Tryz.isAgg3
 z3:=Tryz.sizeOf3
 v3:=Tryz.zeroValue3
 t4:=Tryz.underlying4
 a4:=Tryz.isAgg4
 z4:=Tryz.sizeOf4
 v4:=Tryz.zeroValue4
 t22:=Tryz.underlying40
 a22:=Tryz.isAgg40
 z22:=Tryz.sizeOf40
 v22:=Tryz.zeroValue40 }
end Go.Proofs
namespace Go.Proofs.YtjoneoobolnnbaaGreatDoor
open Go.RowKit
def orI:List Int→Int
 | []=>0
 | x::xs=>if x=0 then orI xs else x
theorem Zs2 (a b:ByteArray) (w:World):Calls Tryz.prog 128 #[.string a,.string b] w fun e w'=>e = .returned (.int .i64 (Lib.compareBytes a.data.toList b.data.toList))∧w=w':=
 (Tryz.strings_Compare a b w).mono fun _ _ ⟨a,b⟩=>⟨a,b.symm⟩
def Title.cmp (a b:Title):Int:=orI [Lib.compareInt a.space b.space,Lib.compareBytes a.name.data.toList b.name.data.toList]
end Go.Proofs.YtjoneoobolnnbaaGreatDoor
namespace Go.Proofs.YtjoneoobolnnbaaGreatDoor
namespace VL
theorem ZpT (σ:List (Gen×Gen)):∀ (L:List (List PV)),Zvl σ (L.map PV.cel)=some (L.map PV.cel)
 | []=>rfl
 | cs::L=>by
   show (match Zu8 σ (.cel cs),Zvl σ (L.map PV.cel) with
    | some q,some qs=>some (q::qs)
    | _,_=>none)=_
   rw [ZpT σ L]
   rfl
theorem Zkb (σ:List (Gen×Gen)) (f:FuncId) (L:List (List PV)):Zya σ (.fn f (L.map PV.cel))=some (.fn f (L.map PV.cel)):=by
 show (Zvl σ (L.map PV.cel)).map (PV.fn f)=_
 rw [ZpT]
 rfl
end VL
end Go.Proofs.YtjoneoobolnnbaaGreatDoor
namespace Go.Proofs.YtjoneoobolnnbaaGreatDoor
namespace VL
open Go.RowKit
def neL {α:Type}:List α→Option Unit
 | []=>none
 | _::_=>some ()
section
variable {P:Program} [WInv P] {ops:Array Oper} {o:Oper} {i:Nat} {s:FS} {T T':TypeId}
theorem ZuG {E:TypeId} {x:Operand} {e:List PV} {els:List (List PV)} (hT:P.underlying T=some (.slice E)) (hw:Zp ops s o=some true) (ho:o.op = .binOp .eql T x (.const (.slice none 0 0)) T') (hx:ev s x = .sl (e::els)):OpR P ops i o s ⟨.bool false,[]⟩:=.any hw fun s' r hA hI=>by
 have e1:ev s x=ev s' x:=hA.ev x (by rw [ho];simp [Op.operands])
 intro S a y Q hX hi hd
 have hr:=Zaz hX x
 rw [← e1,hx] at hr
 generalize hv:a.eval x=v at hr
 cases hr with
 | sl _ A n c k b off f hn hc hm hk hA' hcell hh=>
   have hA2:=hA' (by rw [hn];simp)
   subst hA2
   refine Zaf (v:=.bool false) (W':=y.W) ?_ (hX.val hd (.bool false))
   have hq:=Lib.run_eql_slice_nil (P:=P) y.W T E (some ⟨b,off,none⟩) n c 0 0 hT
   unfold execOp
   rw [ho]
   simp only [binOp] at hq ⊢
   simp_all [Act.eval,eqGuard]
   generalize Sem.run P (Op.equal T (Value.slice (some ⟨b,off,none⟩) (els.length+1) c) (Value.slice none 0 0)) y.W=R at hq ⊢
   cases R<;>simp_all [Result.andThen]
end
section
variable {P:Program} [WInv P] {ops:Array Oper} {draw:Bool} {i:Nat} {L:List Oper} {acc:List (List Nat×List Nat)} {K:FS→Prop} {tm:List (Nat×PV)} {ob:List (Nat×Option (Gen×VObj))} {ng:Nat}
 {d:Option Tmp} {ty T T':TypeId} {pos:String} {after:Array Edge} {gd:Option (Nat×Bool)} {x:Operand}
theorem ZuH {E kk by_:Nat} {z:List PV} [h:Sl P T E kk by_ z] {α:Type} {f:α→List PV} {M:List α} {u:Unit} (hw:Zp ops (mkS tm ob ng) ⟨d,.binOp .eql T x (.const (.slice none 0 0)) T',ty,pos,after,gd⟩=some true) (hne:neL M=some u) (hx:evL tm x = .sl (M.map f))
  (k:GoL P ops draw (i+1) L (acc ++ [(ZN (mkS tm ob ng) ⟨d,.binOp .eql T x (.const (.slice none 0 0)) T',ty,pos,after,gd⟩,[])]) (mkS (ZbZ d (.bool false) tm) ob ng) K):GoL P ops draw i (⟨d,.binOp .eql T x (.const (.slice none 0 0)) T',ty,pos,after,gd⟩::L) acc (mkS tm ob ng) K:=by
 cases M with
 | nil=>cases hne
 | cons m M=>
   obtain ⟨ti,h1,h2⟩:∃ E,P.underlying T=some (.slice E)∧True:=by
    have:=h.eq
    unfold slI at this
    split at this
    ·rename_i ht
     obtain ⟨_,_,q,_⟩:=Zak ht
     exact ⟨_,q,trivial⟩
    ·simp at this
   refine Zhp (u:=⟨.bool false,[]⟩) (ZuG h1 hw rfl (by rw [ZaD];exact hx)) ?_
   rw [Zcg]
   exact k
end
end VL
end Go.Proofs.YtjoneoobolnnbaaGreatDoor
namespace Go.Proofs.YtjoneoobolnnbaaGreatDoor
namespace VL
theorem Zdr {p q:Prop} (k:q) (h:q→p:=by
 (intro k)
 (repeat (first
  | refine ZnN rfl rfl rfl ?_
  | refine ZrU rfl (by (conv=>lhs;whnf);try rfl) ?_
  | refine ZlH rfl (by (conv=>lhs;whnf);try rfl) ?_
  | refine Zg1 rfl rfl ?_
  | refine Zsm rfl rfl rfl rfl (by (conv=>lhs;whnf);try rfl) ?_
  | refine Zvm rfl rfl rfl rfl (by (conv=>lhs;whnf);try rfl) ?_
  | refine Zj6 rfl rfl rfl ?_
  | refine ZmC rfl rfl rfl (by (conv=>lhs;whnf);try rfl) (by (conv=>lhs;whnf);try rfl) (by rfl) (by rfl) (Nat.le_of_ble_eq_true rfl) (by (conv=>lhs;whnf);try rfl) ?_
  | refine ZmD rfl rfl ?_
  | refine Zu1 rfl rfl ?_
  | refine Zvn rfl rfl ?_
  | refine ZrV rfl rfl (by (conv=>lhs;whnf);try rfl) ?_
  | refine ZoF rfl rfl rfl ?_
  | refine ZvV rfl (by (conv=>lhs;whnf);try rfl) (by (conv=>lhs;whnf);try rfl) (by rfl) ?_
  | refine ZmB rfl rfl ?_
  | refine Zvy rfl rfl ?_
  | refine Zr3 rfl rfl ?_
  | refine ZrH rfl rfl ?_
  | refine ZrG rfl rfl rfl rfl ?_
  | refine Zn8 ?_
  | refine Zn9 (by kernel_rfl) ?_
  | refine Zor ?_
  | refine ZlB ?_
  | refine Zos ?_
  | refine ZlC ?_
  | refine Zoq ?_
  | refine Zot ?_
  | refine ZjU ?_
  | refine ZrI ?_
  | refine bk_other rfl ?_
  | refine Zou ?_
  | refine ZrJ ?_
  | refine jk_exit ?_
  | refine Zu0 ?_
  | refine pws_label ?_))
 (exact k)):p:=h k
end VL
end Go.Proofs.YtjoneoobolnnbaaGreatDoor
namespace Go.Proofs.YtjoneoobolnnbaaGreatDoor
namespace VL
open Go.RowKit
section
variable {P:Program} {r:Run} {o:Oper} {i:Nat} {s:FS}
theorem ZvW {S:Nat→Prop} {a:Act} {x:Ctx} (hX:RstX r S s a x) (hi:¬ S i) {d:Nat} (hd:d<r.N) {E k c:Nat} {vs:Array Value} (hl:vs.size=c * k) (hm:c≤9223372036854775807) :
  ∃ y:Ctx,y.W=x.W.alloc (.cells vs E)∧RstX r (fun j=>S j∨j=i) (s.app (some d) ⟨.row d (s.ng,i),[(d,some ((s.ng,i),.row E k false []))]⟩) (a.put (some d) (.slice (some ⟨x.W.heap.size,0,none⟩) 0 c)) y:=by
 have hold:∀ b,b<x.W.heap.size→(x.W.alloc (.cells vs E)).heap[b]? = x.W.heap[b]?:=fun b hb=>heap_alloc_old x.W _ hb
 refine hX.newObj hi (fun k hk=>by cases hk;exact hd) rfl rfl rfl (by simp) (fun b hb _=>hold b hb) (fun b o v hF hv=>?_) (v0:=.slice (some ⟨x.W.heap.size,0,none⟩) 0 c) (fun b hb=>.inl ?_) (fun y st hF hW hρ=>?_) (fun y st hW hG hρ=>?_)
 ·rw [World.cell?_of_block (hold b (hX.flt b o hF))];exact hv
 ·have:x.W.heap.size=b:=by simpa [blk] using hb
  omega
 ·refine ⟨fun e he=>(by cases he),fun e he=>(by cases he),[],?_,fun m p v hpp hv=>(by simp at hpp),fun b hb=>⟨.inl ?_,fun o ho=>?_⟩⟩
  ·rw [hρ,hW]
   exact ⟨by simp,.inr ⟨x.W.heap.size,c,vs,rfl,Nat.zero_le _,heap_alloc_new x.W _,Nat.zero_le _,by unfold maxLen;omega,hl,by simp⟩⟩
  ·rw [hρ] at hb
   have e:x.W.heap.size=b:=by simpa [blk] using hb
   rw [← e]
   exact hX.gr.size
  ·rw [hρ] at hb
   rw [hF] at ho
   have e:x.W.heap.size=b:=by simpa [blk] using hb
   have:=hX.flt b o ho
   change b<x.W.heap.size at this
   omega
 ·exact .row d (s.ng,i) _ _ _ hG hρ
theorem ZvX {T E d:Nat} {e e':Operand} {te:TI} {sz b:Nat} {zz:List PV} {c:Nat} {kl kc:IntKind} (ho:o.op = .makeSlice T e e') (hdst:o.dst=some d) (ht:tyI P T=some ⟨.slice E,sz,b,zz⟩) (hte:tyI P E=some te) (hl:ev s e = .int kl 0) (hc:ev s e' = .int kc (c:Int)) (hb:te.bytes * c≤281474976710656) (hm:c≤9223372036854775807) :
  OpOK P r o i s ⟨.row d (s.ng,i),[(d,some ((s.ng,i),.row E te.size false []))]⟩:=by
 intro S a x Q hX hi hd
 obtain ⟨inf,zv,h1,_⟩:=Zak ht
 obtain ⟨inf',z',h1',h2',h3',h4',h5',h6'⟩:=Zak hte
 have q1:a.eval e = .int kl 0:=by
  have:=Zaz hX e
  rw [hl] at this
  generalize a.eval e=v at this
  cases this
  rfl
 have q2:a.eval e' = .int kc (c:Int):=by
  have:=Zaz hX e'
  rw [hc] at this
  generalize a.eval e'=v at this
  cases this
  rfl
 have hrun:=run_make (P:=P) (w:=x.W) T E inf' z' h1 h2' h3' kl kc 0 c (Int.le_refl _) (by omega) (by
  rw [h5',← Int.natCast_mul];omega) (by omega)
 simp only [Int.toNat_natCast,Int.toNat_zero,h4'] at hrun
 obtain ⟨y,hy1,hy2⟩:=ZvW hX hi (hd d hdst) (E:=E) (k:=te.size) (c:=c) (vs:=madeCells z'.cells (c * te.size)) (size_madeCells _ _) hm
 rw [hdst]
 refine Zaf (v:=.slice (some ⟨x.W.heap.size,0,none⟩) 0 c) (W':=x.W.alloc (.cells (madeCells z'.cells (c * te.size)) E)) ?_ ⟨y,hy1,by rw [hdst];exact hy2⟩
 unfold execOp
 rw [ho]
 simp [q1,q2,hrun]
end
def Zxq (w:Nat) (c:Int):Option Unit:=if 0≤c∧c * (w:Int)≤281474976710656∧c≤9223372036854775807 then some () else none
section
variable {P:Program} [WInv P] {ops:Array Oper} {draw:Bool} {i:Nat} {L:List Oper} {acc:List (List Nat×List Nat)} {K:FS→Prop} {tm:List (Nat×PV)} {ob:List (Nat×Option (Gen×VObj))} {ng:Nat}
 {d:Nat} {ty T:TypeId} {pos:String} {after:Array Edge} {gd:Option (Nat×Bool)} {x y:Operand}
theorem Zxr {α:Type} (f:α→List PV) {E kk by_:Nat} {z:List PV} [Sl P T E kk by_ z] {kl:IntKind} {c:Int} {u:Unit} (hw:Zp ops (mkS tm ob ng) ⟨some d,.makeSlice T x y,ty,pos,after,gd⟩=some true) (hx:evL tm x = .int kl 0) {kc:IntKind} (hy:evL tm y = .int kc c) (hs:Zxq by_ c=some u)
  (k:GoL P ops draw (i+1) L (acc ++ [(ZN (mkS tm ob ng) ⟨some d,.makeSlice T x y,ty,pos,after,gd⟩,[d])]) (mkS ((d,.row d (ng,i))::tm) ((d,some ((ng,i),.row E kk false (List.map f [])))::ob) ng) K):GoL P ops draw i (⟨some d,.makeSlice T x y,ty,pos,after,gd⟩::L) acc (mkS tm ob ng) K:=by
 obtain ⟨s1,b,zz,te,q1,q2,q3,q4,q5,q6,q7⟩:=Zf9 (P:=P) (T:=T) (E:=E) (k:=kk) (by_:=by_) (z:=z)
 unfold Zxq at hs
 split at hs
 ·rename_i hc
  refine Zhp (u:=⟨.row d (ng,i),[(d,some ((ng,i),.row E kk false []))]⟩) (.any hw fun s' r hA hI=>?_) ?_
  ·have e1:ev s' x = .int kl 0:=by rw [← hA.ev x (by simp [Op.operands])];exact (congrFun (ZaD tm ob ng) x).trans hx
   have e2:ev s' y = .int kc ((c.toNat:Nat):Int):=by rw [← hA.ev y (by simp [Op.operands]),Int.toNat_of_nonneg hc.1];exact (congrFun (ZaD tm ob ng) y).trans hy
   have e3:s'.ng=ng:=hA.ng.symm
   rw [← e3,← q3]
   refine ZvX rfl rfl q1 q2 e1 e2 ?_ ?_
   ·rw [q4]
    have h1:=hc.2.1
    have:((by_ * c.toNat:Nat):Int)≤281474976710656:=by rw [Int.natCast_mul,Int.toNat_of_nonneg hc.1,Int.mul_comm];exact h1
    omega
   ·have:=hc.2.2
    omega
  ·rw [Zcg]
   exact k
 ·cases hs
end
theorem Zul {P:Program} {y:Ctx} {l:List Int} {v:Value} (h:Rep y (.sl (l.map fun n=>[PV.int .u8 n])) v) {src E dst:TypeId} (hs:P.underlying src=some (.slice E)) (he:P.underlying E=some (.int .u8)) (hd:P.underlying dst=some .string) :
  (convert src dst v).run P y.W = .ok (.string (strOfNums l)) y.W:=by
 generalize hg:(l.map fun n=>[PV.int .u8 n])=els at h
 cases h with
 | sl _ A n c k b off f hn hc hm hk hA hcell hh=>
   have hln:n=l.length:=by rw [hn,← hg,List.length_map]
   have hel:∀ (i:Nat) (m:Int),l[i]? = some m→els[i]? = some [PV.int .u8 m]:=fun i m hi=>by rw [← hg,List.getElem?_map,hi];rfl
   have key:∀ a:Addr,A=some a→(loadCells a n).run P y.W = .ok (l.map (Value.int .u8)).toArray y.W:=fun a ha=>by
    have:=run_loadCells_list (P:=P) y.W a (l.map (Value.int .u8)) (fun j u hj=>by
     rw [List.getElem?_map,Option.map_eq_some_iff] at hj
     obtain ⟨m,hm1,rfl⟩:=hj
     have hjl:=(List.getElem?_eq_some_iff.1 hm1).1
     rw [hA (by omega)] at ha
     injection ha with ha
     subst ha
     have h1:=hel j m hm1
     have hk1:k=1:=by rw [← hk _ (List.mem_of_getElem? h1)];rfl
     subst hk1
     obtain ⟨_,_,h2⟩:=hcell j 0 _ _ h1 rfl
     have h3:=hh j 0 _ _ h1 rfl
     have h4:f j 0 = .int .u8 m:=by
      generalize f j 0=w at h3
      cases h3
      rfl
     rw [h4] at h2
     have hadd:(⟨b,off,none⟩:Addr).add j=⟨b,off+j,none⟩:=by unfold Addr.add;split<;>simp_all
     rw [hadd]
     simpa using h2)
    simpa [hln] using this
   cases A with
   | none=>
     have:l = []:=by
      rcases Nat.eq_zero_or_pos n with h0 | h0
      ·exact List.eq_nil_of_length_eq_zero (by omega)
      ·have:=hA h0
       cases this
     subst this
     exact run_convert_bytes_nil y.W src E hs he n c dst hd
   | some a=>
     rw [run_convert_bytes_string y.W src dst E (some a) n c hs he hd,run_bytesToString y.W a n c l (key a rfl),foldl_push_bytes]
     simp [strOfNums,ByteArray.empty,ByteArray.emptyWithCapacity]
     rfl
section
variable {P:Program} [WInv P] {ops:Array Oper} {draw:Bool} {i:Nat} {L:List Oper} {acc:List (List Nat×List Nat)} {K:FS→Prop} {tm:List (Nat×PV)} {ob:List (Nat×Option (Gen×VObj))} {ng:Nat}
 {d:Option Tmp} {ty T T':TypeId} {pos:String} {after:Array Edge} {gd:Option (Nat×Bool)} {x:Operand}
theorem ZoI {E kk by_:Nat} {z:List PV} [Sl P T E kk by_ z] [hk:Kd P E .u8] [hs:StrT P T'] {l:List Int} (hw:Zp ops (mkS tm ob ng) ⟨d,.convert T T' x,ty,pos,after,gd⟩=some true) (hx:ZqJ (ZO ob) (evL tm x)=some (.sl (l.map fun n=>[PV.int .u8 n])))
  (k:GoL P ops draw (i+1) L (acc ++ [(ZN (mkS tm ob ng) ⟨d,.convert T T' x,ty,pos,after,gd⟩,[])]) (mkS (ZbZ d (.str (strOfNums l)) tm) ob ng) K):GoL P ops draw i (⟨d,.convert T T' x,ty,pos,after,gd⟩::L) acc (mkS tm ob ng) K:=by
 obtain ⟨s1,b,zz,te,q1,q2,q3,q4,q5,q6,q7⟩:=Zf9 (P:=P) (T:=T) (E:=E) (k:=kk) (by_:=by_) (z:=z)
 obtain ⟨inf,zv,h1,_⟩:=Zak q1
 refine Zhp (u:=⟨.str (strOfNums l),[]⟩) (.any hw fun s' r hA hI=>?_) ?_
 ·intro S a c Q hX hi hd
  have hm:x ∈ (Op.convert T T' x).operands:=by simp [Op.operands]
  have e1:ev s' x=evL tm x:=by rw [← hA.ev x hm];exact congrFun (ZaD tm ob ng) x
  have e2:ZqJ s'.ob (ev s' x)=some (.sl (l.map fun n=>[PV.int .u8 n])):=by
   rw [← Ziu (fun t ht=>hA.key1 hm rfl t ht),e1]
   exact hx
  have h3:=Ze4 hX e2 (Zaz hX x)
  have hrun:=Zul (P:=P) h3 (src:=T) (dst:=T') h1 hk.eq hs.eq
  refine Zaf (v:=.string (strOfNums l)) (W':=c.W) ?_ (hX.val hd (.str _))
  unfold execOp
  have hrun2:(convert T T' (a.eval x)).run P c.W = .ok (.string (strOfNums l)) c.W:=hrun
  simp [hrun2]
 ·rw [Zcg]
  exact k
end
end VL
end Go.Proofs.YtjoneoobolnnbaaGreatDoor
namespace Go.Proofs.YtjoneoobolnnbaaGreatDoor
namespace VL
open Go.RowKit
def ZwE:PV→Bool
 | .bool _ | .int _ _ | .str _=>true
 | .fn _ []=>true
 | _=>false
theorem Rep.flat {x y:Ctx} {p:PV} {v:Value} (hp:ZwE p=true) (h:Rep x p v):Rep y p v:=by
 cases h with
 | bool b=>exact .bool b
 | int k n=>exact .int k n
 | str s=>exact .str s
 | fn f ps cs hl hh=>
   cases ps with
   | nil=>exact .fn f [] cs hl fun i p v hp=>by simp at hp
   | cons=>cases hp
 | _=>cases hp
section
variable {P:Program} [WInv P] {r:Run} {ops:Array Oper} {o:Oper} {i:Nat} {s s':FS}
theorem Zth {f:FuncId} {es:Array Operand} {ts:Array TypeId} {args:List PV} {dd:Nat} {ob:VObj} (ho:o.op = .call { callee:=.value (.func f),args:=es,argTypes:=ts })
  (ha:es.toList.map (ev s)=args) (hf:args.all ZwE=true) (hc:ContractN P f args ob) (hI:r.I=WInv.I P):OpOK P r o i s ⟨Zhj ob dd (s.ng,i),[(dd,some ((s.ng,i),ob))]⟩:=by
 intro S a x Q hX hi hd
 let z:Ctx:=⟨fun _=>False,x.F,x.W,x.ρ⟩
 have hlen:args.length=es.size:=by rw [← ha];simp
 have hpre:Pre z args none (es.map a.eval):=by
  refine ⟨by simpa using hlen,fun j p v hp hv=>?_,fun j os h=>by simp at h,fun g hg=>hg.elim,fun b o hb=>hX.flt b o hb⟩
  have hfl:=List.all_eq_true.1 hf p (List.mem_of_getElem? hp)
  rw [← ha,List.getElem?_map,Option.map_eq_some_iff] at hp
  obtain ⟨e,he,rfl⟩:=hp
  rw [Array.getElem?_map,Option.map_eq_some_iff] at hv
  obtain ⟨e2,he2,rfl⟩:=hv
  rw [Array.getElem?_toList] at he
  rw [he] at he2
  injection he2 with he2
  subst he2
  exact (Zaz hX e).flat hfl
 have hcalls:=hc.calls z _ hpre fun W' hW=>by
  rw [← hI]
  exact hX.inv.1 W' (hX.gr.trans' hW.os hW.tape hW.output hW.size fun b hb _=>hW.block b (Nat.lt_of_lt_of_le hb hX.gr.size) fun h=>h)
 unfold Oper.wp
 rw [Zfr ho hc.isGo,Oper.upon_enter]
 refine hcalls.mono ?_
 rintro e W' ⟨y,v,rfl,rfl,hst,hgr,hfn,hfl,g0,hv,hob⟩
 have hnew:¬ x.G (s.ng,i):=fun hg=>by
  rcases hX.gens _ hg with e | ⟨_,e⟩
  ·exact absurd e (Nat.lt_irrefl _)
  ·exact hi e
 let y':Ctx:=⟨fun g=>x.G g∨g=(s.ng,i),y.F,y.W,fun g=>if g=(s.ng,i) then v else x.ρ g⟩
 have hρ:y'.ρ (s.ng,i)=v:=if_pos rfl
 have k:Step x y':=⟨fun g hg=>⟨.inl hg,if_neg (fun (e:g=(s.ng,i))=>hnew (by rw [← e];exact hg))⟩,fun b o hb=>hst.F b o hb,fun b o v hb hv=>hst.W b o v hb hv⟩
 have hob':∀ {B:Nat} {D:Nat→Prop},B≤x.W.heap.size→ObRep y' B D (s.ng,i) ob:=fun hB=>hob.newOf (hρ.trans hv.symm) rfl rfl hB hc.pure
 refine ⟨y',rfl,?_⟩
 refine hX.change k hd hgr.os hgr.tape hgr.output hgr.size (fun b hb _=>hgr.block b hb (fun e=>e)) hfn hfl (fun g hg=>?_) (.inr rfl) (hob' hX.gr.size) (fun b hb=>.inl ?_) (ZnA (hob' (Nat.le_refl _) (D:=fun _=>False)) (.inr rfl) hρ)
 ·rcases hg with hg | rfl
  ·exact (hX.gens g hg).imp id fun ⟨e,f⟩=>⟨e,.inl f⟩
  ·exact .inr ⟨rfl,.inr rfl⟩
 ·exact (((hob' (Nat.le_refl _) (D:=fun _=>False)).lt b hb).2).resolve_right fun e=>e
end
section
variable {P:Program} [WInv P] {ops:Array Oper} {draw:Bool} {i:Nat} {L:List Oper} {acc:List (List Nat×List Nat)} {K:FS→Prop} {tm:List (Nat×PV)} {ob:List (Nat×Option (Gen×VObj))} {ng:Nat}
 {ty:TypeId} {pos:String} {after:Array Edge} {gd:Option (Nat×Bool)}
theorem Zvd {dd:Nat} {f:FuncId} {es:Array Operand} {ts:Array TypeId} {args:List PV} {o2:VObj} (hc:ContractN P f args o2) (hw:Zp ops (mkS tm ob ng) ⟨some dd,.call ⟨.value (.func f),es,ts⟩,ty,pos,after,gd⟩=some true)
  (ha:es.toList.map (evL tm)=args) (hf:args.all ZwE=true)
  (k:GoL P ops draw (i+1) L (acc ++ [(ZN (mkS tm ob ng) ⟨some dd,.call ⟨.value (.func f),es,ts⟩,ty,pos,after,gd⟩,[dd])])
   (mkS ((dd,Zhj o2 dd (ng,i))::tm) ((dd,some ((ng,i),o2))::ob) ng) K):GoL P ops draw i (⟨some dd,.call ⟨.value (.func f),es,ts⟩,ty,pos,after,gd⟩::L) acc (mkS tm ob ng) K:=by
 refine Zhp (u:=⟨Zhj o2 dd (ng,i),[(dd,some ((ng,i),o2))]⟩) (.any hw fun s' r hA hI=>?_) ?_
 ·obtain ⟨e1,-⟩:=Zeg rfl hA
  have e3:s'.ng=ng:=hA.ng.symm
  rw [← e3]
  exact Zth rfl (by rw [e1,ZaD];exact ha) hf hc hI
 ·rw [Zcg]
  exact k
end
end VL
end Go.Proofs.YtjoneoobolnnbaaGreatDoor
namespace Go.Proofs.YtjoneoobolnnbaaGreatDoor
namespace VL
section
variable {P:Program} [WInv P] {α β:Type} {cs:List Code} {Q:Ex→FS→Prop} {s:FS} {tm:List (Nat×PV)} {ob:List (Nat×Option (Gen×VObj))} {ng:Nat}
theorem rg {draw:Bool} {id:Nat} {l:List Oper} {q:Prop} (k:q) (h:q→GoL P l.toArray draw 0 l [] s fun s'=>PWs P cs Q ⟨s'.tm,s'.ob,s'.ng+1⟩:=by
 (intro k)
 (refine Zh ?_)
 (exact k)):PWs P (.region id l.toArray draw::cs) Q s:=Zv (h k)
theorem bl {id:Nat} {c:Code} {q:Prop} (k:q) (h:q→PWs P [c] (Zpt id (PWs P cs Q) Q) s:=by
 (intro k)
 (refine Zh ?_)
 (exact k)):PWs P (.block id c::cs) Q s:=ZdN (h k)
theorem cS {A B:Option β} {r:β} {c:Operand} {x y:Code} {t:Bool} {q1 q2:Prop} (hF:(if t=true then A else B)=some r) (hc:evL tm c = .bool t) (k1:A=some r→q1) (k2:B=some r→q2)
  (h1:q1→PWs P (x::cs) Q (mkS tm ob ng):=by
 (intro k)
 (refine Zh ?_)
 (exact k)) (h2:q2→PWs P (y::cs) Q (mkS tm ob ng):=by
 (intro k)
 (refine Zh ?_)
 (exact k)):PWs P (.cond c x y::cs) Q (mkS tm ob ng):=
 Zbv hc (fun h=>h1 (k1 (ifT h hF))) fun h=>h2 (k2 (ifF h hF))
theorem kS (t:Nat) {A B:Option β} {r:β} {ops:Array Oper} {draw:Bool} {i:Nat} {L:List Oper} {acc:List (List Nat×List Nat)} {K:FS→Prop} {b:Bool} {q1 q2:Prop} (hF:(if b=true then A else B)=some r) (hx:look tm t = .bool b) (k1:A=some r→q1) (k2:B=some r→q2)
  (h1:q1→GoL P ops draw i L acc (mkS ((t,.bool true)::tm) ob ng) K:=by
 (intro k)
 (refine Zh ?_)
 (exact k)) (h2:q2→GoL P ops draw i L acc (mkS ((t,.bool false)::tm) ob ng) K:=by
 (intro k)
 (refine Zh ?_)
 (exact k)):GoL P ops draw i L acc (mkS tm ob ng) K:=
 Zzl t hx (fun h=>h1 (k1 (ifT h hF))) fun h=>h2 (k2 (ifF h hF))
theorem cF {F:Option β} (R:β→PV) {f:FuncId} {fn:Func} {c:Code} {args:List PV} {r:β} (hF:F=some r) (hmix:P.follows .mixedOrders=true) (hf:P.funcs[f]? = some fn)
  (h:∀ r,F=some r→PWs P [c] (Zx9 P fn.results.toList (R r)) (mkS (ZfI 0 args) [] 1)) (hg:isGo P f=true:=by kernel_rfl) (hb:fn.body=some c:=by exact rfl) (hok:(decide (args.length≤fn.ntmps)&&Zbq fn.ntmps c)=true:=by kernel_rfl):Zd P f args (R r):=
 Zs9 hF hmix hf hg hb hok h
omit [WInv P] in
theorem rQ {res:PV} {rs:List ResultVar} {ps qs:List PV} {us:List (Nat×Option (Gen×VObj))} (h1:Zgt P s rs=some ps:=by exact rfl) (h2:Zf6 s.ob ps=some (qs,us):=by exact rfl) (h3:Zf8 qs=res:=by exact rfl):Zx9 P rs res .ret s:=Zc5 h1 h2 h3
def sg (σ:List (Nat×Nat×Nat)):List (Gen×Gen):=σ.map fun q=>((1,q.1),q.2)
theorem sR (σ:List (Nat×Nat×Nat)) {tm':List (Nat×PV)} {ob':List (Nat×Option (Gen×VObj))} {ng':Nat} (h1:Ztz (sg σ) tm tm':=by
 (repeat (refine ⟨rfl,?_⟩))
 (exact trivial)) (h2:ZqE (sg σ) ob ob':=by
 (repeat (refine ⟨⟨rfl,rfl⟩,?_⟩))
 (exact trivial)) (h3:(decide (0<ng')&&(sg σ).all fun q=>decide (q.1.1<ng'))=true:=by exact rfl):Shift (mkS tm ob ng) (mkS tm' ob' ng'):=
 ZF (sg σ) h1 h2 h3
theorem jn {St:α→Nat→FS} {J:α→Prop} (a:α) (h1:J a) (h3:Shift s (St a 2)):Zuf St J Q .normal s:=Zbm a 2 h1 h3
theorem rn {St:α→Nat→FS} {J:α→Prop} {m:α→Nat} {a:α} (a':α) (h1:J a') (h3:Shift s (St a' 2)) (h2:m a'<m a:=by exact Nat.lt_succ_self _):Zpu St J m a Q .normal s:=ZaL a' 2 h1 h2 h3
theorem jL {K:α→Option β} {f:(α→Option β)→Option β} {r:β} {c c2:Code} {q1:(α→Option β)→Prop} {q2:α→Prop} (hF:letk K f=some r) (St:α→FS) (h1:∀ k,f k=some r→q1 k) (h2:∀ x,K x=some r→q2 x)
  (g1:∀ k:α→Option β,q1 k→PWs P [c] (Zuf (fun a _=>St a) (fun x=>k x=some r) Q) s:=by
 (intro k h)
 (refine Zh ?_)
 (exact h)) (g2:∀ x,q2 x→PWs P (c2::cs) Q (St x):=by
 (intro x h)
 (try dsimp only)
 (refine Zh ?_)
 (exact h)):PWs P (c::c2::cs) Q s:=
 ZaO (fun a _=>St a) (fun x=>K x=some r) (g1 K (h1 K hF)) fun a _ hJ=>g2 a (h2 a hJ)
end
end VL
end Go.Proofs.YtjoneoobolnnbaaGreatDoor
namespace Go.Proofs.YtjoneoobolnnbaaGreatDoor
namespace VL
open Go.RowKit
def PV.dryF:PV→Bool
 | .fn _ ps=>ps.isEmpty
 | p=>p.dry1
theorem Rep.dryF {x y:Ctx} {p:PV} {v:Value} (h:Rep x p v) (hp:p.dryF=true):Rep y p v:=by
 cases h with
 | fn f ps cs hl hh=>
   have:ps = []:=List.isEmpty_iff.1 hp
   subst this
   exact .fn f [] cs hl fun i p v hq=>by simp at hq
 | bool b=>exact .bool b
 | int k n=>exact .int k n
 | str s=>exact .str s
 | _=>simp [PV.dryF,PV.dry1] at hp
def Dr (x:Ctx) (b:Nat):Prop:=blk (x.ρ (0,0))=some b
structure PreR (x:Ctx) (args:List PV) (E k:Nat) (els:List (List PV)) (vs:Array Value):Prop where
 size:args.length+1=vs.size
 rep:∀ (i:Nat) (p:PV) (v:Value),(PV.row 0 (0,0)::args)[i]? = some p→vs[i]? = some v→Rep x p v
 ob:x.G (0,0)∧ObRep x x.W.heap.size (Dr x) (0,0) (.row E k false els)
 gen:∀ g,x.G g→g.1=0
 flt:∀ b o,x.F b o→b<x.W.heap.size
structure PostR (x y:Ctx) (E k:Nat) (r:PV) (els':List (List PV)) (v:Value):Prop where
 step:Step x y
 gr:Gr (Dr x) x.W y.W
 fnew:∀ b o,y.F b o→x.F b o∨x.W.heap.size≤b∨Dr x b
 flt:∀ b o,y.F b o→b<y.W.heap.size
 rep:Rep y r v
 ob:ObRep y x.W.heap.size (Dr x) (0,0) (.row E k false els')
structure ContractR (P:Program) [WInv P] (f:FuncId) (args:List PV) (E k:Nat) (els:List (List PV)) (r:PV) (els':List (List PV)):Prop where
 isGo:VL.isGo P f=true
 calls:∀ (x:Ctx) (vs:Array Value),PreR x args E k els vs→(∀ W',Gr (Dr x) x.W W'→WInv.I P W')→Calls P f vs x.W fun e W'=>∃ y v,y.W=W'∧e = .returned v∧PostR x y E k r els' v
section
variable {P:Program} [WInv P] {r:Run} {ops:Array Oper} {o:Oper} {i:Nat} {s s':FS}
theorem Zvs {f:FuncId} {es:Array Operand} {ts:Array TypeId} {post:List PV} {t:Nat} {g:Gen} {E k:Nat} {els els':List (List PV)} {res res':PV} (ho:o.op = .call { callee:=.value (.func f),args:=es,argTypes:=ts })
  (he:es.toList.map (ev s) = .row t g::post) (hob:s.ob t=some (g,.row E k false els)) (hp:post.all PV.dryF=true) (hc:ContractR P f post E k els res els') (hres:res.dry=true∧res'=res∨res = .row 0 (0,0)∧res' = .row t g) (hI:r.I=WInv.I P):OpOK P r o i s ⟨res',[(t,some (g,.row E k false els'))]⟩:=by
 intro S a x Q hX hi hd
 have hrep:∀ (j:Nat) (p:PV),(PV.row t g::post)[j]? = some p→Rep x p ((es.map a.eval).getD j undef):=fun j p hp=>by
  rw [← he,List.getElem?_map] at hp
  cases he:es.toList[j]? with
  | none=>rw [he] at hp;simp at hp
  | some e=>
    rw [he] at hp
    simp only [Option.map_some,Option.some.injEq] at hp
    subst hp
    have hea:es[j]? = some e:=by simpa using he
    have:(es.map a.eval).getD j undef=a.eval e:=by simp [hea]
    rw [this]
    exact Zaz hX e
 obtain ⟨hG,hO⟩:=hX.ob t g _ hob
 have hlt:=fun b hb=>hO.lt b hb
 obtain ⟨q1,q2,vs2,q3,q4,q5⟩:=hO
 let z:Ctx:=⟨fun g'=>g'=(0,0),x.F,x.W,fun _=>x.ρ g⟩
 have hpre:PreR z post E k els (es.map a.eval):=by
  refine ⟨?_,fun j p v hj hv=>?_,⟨rfl,q1,q2,vs2,q3,fun m p v hm hv=>?_,fun b hb=>⟨.inr hb,(q5 b hb).2⟩⟩,fun g' e=>?_,hX.flt⟩
  ·have:=congrArg List.length he
   simp at this
   simp [this]
  ·cases j with
   | zero=>
     simp only [List.getElem?_cons_zero,Option.some.injEq] at hj
     subst hj
     have:=hrep 0 (.row t g) rfl
     rw [Array.getD_eq_getD_getElem?,hv] at this
     simp only [Option.getD_some] at this
     cases this with
     | row _ _ A n c _ hvv=>exact .row _ _ A n c rfl hvv
   | succ j=>
     have hj':post[j]? = some p:=by simpa using hj
     have:=hrep (j+1) p hj
     rw [Array.getD_eq_getD_getElem?,hv] at this
     exact Rep.dryF this (List.all_eq_true.1 hp p (List.mem_of_getElem? hj'))
  ·obtain ⟨e,he,hpe⟩:=List.mem_flatten.1 (List.mem_of_getElem? hm)
   exact (q4 m p v hm hv).pure_mono (q2 e he p hpe) (fun _ _ h=>h) (fun _ _ _ _ h=>h)
  ·rw [show g'=(0,0) from e]
 have hbig:r.W0.heap.size≤x.W.heap.size:=hX.gr.size
 have hcalls:=hc.calls z _ hpre fun W' hW=>by
  rw [← hI]
  exact hX.inv.1 W' (hX.gr.trans' hW.os hW.tape hW.output hW.size fun b hb hD=>hW.block b (Nat.lt_of_lt_of_le hb hbig) fun e=>by
   rcases (hlt b e).2 with h | h
   ·omega
   ·exact hD h)
 unfold Oper.wp
 rw [Zfr ho hc.isGo,Oper.upon_enter]
 refine hcalls.mono ?_
 rintro e' W' ⟨y,v,rfl,rfl,hpost⟩
 obtain ⟨w1,w2,vs3,w3,w4,w5⟩:=hpost.ob
 have hρ:y.ρ (0,0)=x.ρ g:=(hpost.step.G (0,0) rfl).2
 rw [hρ] at w3 w5
 let y':Ctx:=⟨x.G,y.F,y.W,x.ρ⟩
 have k2:Step x y':=⟨fun _ h=>⟨h,rfl⟩,fun b o h=>hpost.step.F b o h,fun b o w hF hw=>hpost.step.W b o w hF hw⟩
 refine ⟨y',rfl,hX.change k2 hd hpost.gr.os hpost.gr.tape hpost.gr.output hpost.gr.size (fun b hb hne=>hpost.gr.block b hb fun e=>hne g _ hob e) (fun b o h=>?_) hpost.flt
  (fun g' hg'=>(hX.gens g' hg').imp id fun ⟨e1,e2⟩=>⟨e1,.inl e2⟩) hG ⟨w1,w2,vs3,w3,fun m p v hm hv=>?_,fun b hb=>⟨(hlt b hb).2,(w5 b hb).2⟩⟩ (fun b hb=>.inr ⟨g,_,hob,hb⟩) ?_⟩
 ·rcases hpost.fnew b o h with h1 | h1 | h1
  ·exact .inl h1
  ·exact .inr h1
  ·have:=((w5 b h1).2 o h).1
   cases this
 ·obtain ⟨e,he,hpe⟩:=List.mem_flatten.1 (List.mem_of_getElem? hm)
  exact (w4 m p v hm hv).pure_mono (w2 e he p hpe) (fun _ _ h=>h) (fun _ _ _ _ h=>h)
 ·have hr:=hpost.rep
  rcases hres with ⟨h1,rfl⟩ | ⟨rfl,rfl⟩
  ·exact hr.dry h1
  ·cases hr with
   | row _ _ A n c _ hvv=>exact .row _ _ A n c hG (hρ.symm.trans hvv)
theorem Zpl {f:FuncId} {es:Array Operand} {ts:Array TypeId} {post:List PV} {t:Nat} {g:Gen} {E k:Nat} {els els':List (List PV)} {res res':PV} (hw:Zp ops s o=some true) (ho:o.op = .call { callee:=.value (.func f),args:=es,argTypes:=ts })
  (he:es.toList.map (ev s) = .row t g::post) (hob:s.ob t=some (g,.row E k false els)) (hp:post.all PV.dryF=true) (hc:ContractR P f post E k els res els') (hres:res.dry=true∧res'=res∨res = .row 0 (0,0)∧res' = .row t g):OpR P ops i o s ⟨res',[(t,some (g,.row E k false els'))]⟩:=.any hw fun s' r hA hI=>by
 obtain ⟨e1,e2,_⟩:=Zeg ho hA
 refine Zvs ho (by rw [e1,he]) ?_ hp hc hres hI
 rw [← e2 (.row t g) (by rw [he];simp) t (by simp [Zhb,ZfJ,Zcp])]
 exact hob
end
section
variable {P:Program} [WInv P] {ops:Array Oper} {draw:Bool} {i:Nat} {L:List Oper} {acc:List (List Nat×List Nat)} {K:FS→Prop} {tm:List (Nat×PV)} {ob:List (Nat×Option (Gen×VObj))} {ng:Nat}
 {d:Option Tmp} {ty:TypeId} {pos:String} {after:Array Edge} {gd:Option (Nat×Bool)}
theorem ZcY {f:FuncId} {es:Array Operand} {ts:Array TypeId} {post:List PV} {t:Nat} {g:Gen} {E k:Nat} {els els':List (List PV)} {res:PV} (hc:ContractR P f post E k els res els') (hw:Zp ops (mkS tm ob ng) ⟨d,.call ⟨.value (.func f),es,ts⟩,ty,pos,after,gd⟩=some true)
  (he:es.toList.map (evL tm) = .row t g::post) (hob:ZO ob t=some (g,.row E k false els)) (hp:post.all PV.dryF=true) (hd:res.dry=true)
  (kk:GoL P ops draw (i+1) L (acc ++ [(ZN (mkS tm ob ng) ⟨d,.call ⟨.value (.func f),es,ts⟩,ty,pos,after,gd⟩,[t])]) (mkS (ZbZ d res tm) ((t,some (g,.row E k false els'))::ob) ng) K) :
  GoL P ops draw i (⟨d,.call ⟨.value (.func f),es,ts⟩,ty,pos,after,gd⟩::L) acc (mkS tm ob ng) K:=by
 refine Zhp (Zpl hw rfl (by rw [ZaD];exact he) hob hp hc (.inl ⟨hd,rfl⟩)) ?_
 rw [Zcg]
 exact kk
theorem Zon {f:FuncId} {es:Array Operand} {ts:Array TypeId} {post:List PV} {t:Nat} {g:Gen} {E k:Nat} {els els':List (List PV)} (hc:ContractR P f post E k els (.row 0 (0,0)) els') (hw:Zp ops (mkS tm ob ng) ⟨d,.call ⟨.value (.func f),es,ts⟩,ty,pos,after,gd⟩=some true)
  (he:es.toList.map (evL tm) = .row t g::post) (hob:ZO ob t=some (g,.row E k false els)) (hp:post.all PV.dryF=true)
  (kk:GoL P ops draw (i+1) L (acc ++ [(ZN (mkS tm ob ng) ⟨d,.call ⟨.value (.func f),es,ts⟩,ty,pos,after,gd⟩,[t])]) (mkS (ZbZ d (.row t g) tm) ((t,some (g,.row E k false els'))::ob) ng) K) :
  GoL P ops draw i (⟨d,.call ⟨.value (.func f),es,ts⟩,ty,pos,after,gd⟩::L) acc (mkS tm ob ng) K:=by
 refine Zhp (Zpl hw rfl (by rw [ZaD];exact he) hob hp hc (.inr ⟨rfl,rfl⟩)) ?_
 rw [Zcg]
 exact kk
end
def Zvt (args:List PV) (E k:Nat) (els:List (List PV)):FS:=⟨fun t=>(PV.row 0 (0,0)::args).getD t (.tup []),ZO [(0,some ((0,0),.row E k false els))],1⟩
theorem Zoo {args:List PV} {E k:Nat} {els:List (List PV)} {t:Nat} {g:Gen} {o:VObj} (h:(Zvt args E k els).ob t=some (g,o)):t=0∧g=(0,0)∧o = .row E k false els:=by
 change (if t=0 then some ((0,0),VObj.row E k false els) else none)=some (g,o) at h
 split at h
 ·rename_i e
  injection h with h
  injection h with e1 e2
  exact ⟨e,e1.symm,e2.symm⟩
 ·cases h
def Zzo (P:Program) (rs:List ResultVar) (res:PV) (E k:Nat) (els':List (List PV)):Ex→FS→Prop
 | .exit _,_=>False
 | _,s=>∃ ps,Zgt P s rs=some ps∧Zf8 ps=res∧s.ob 0=some ((0,0),.row E k false els')
theorem ZnB {P:Program} {s:FS} {rs:List ResultVar} {res:PV} {E k:Nat} {els':List (List PV)} {ps:List PV} (h1:Zgt P s rs=some ps) (h2:Zf8 ps=res) (h3:s.ob 0=some ((0,0),.row E k false els')):Zzo P rs res E k els' .ret s:=⟨ps,h1,h2,h3⟩
theorem Zc4 {P:Program} {s:FS} {rs:List ResultVar} {res:PV} {E k:Nat} {els':List (List PV)} {ps:List PV} (h1:Zgt P s rs=some ps) (h2:Zf8 ps=res) (h3:s.ob 0=some ((0,0),.row E k false els')):Zzo P rs res E k els' .normal s:=⟨ps,h1,h2,h3⟩
section
variable {P:Program} [WInv P]
theorem Zk1 (hmix:P.follows .mixedOrders=true) {f:FuncId} {fn:Func} {c:Code} {args:List PV} {E k:Nat} {els els':List (List PV)} {e:Ex} {s1:FS} {ps:List PV} {res:PV}
  (hg:isGo P f=true) (hf:P.funcs[f]? = some fn) (hb:fn.body=some c) (hn:args.length+1≤fn.ntmps) (hok:Zbq fn.ntmps c=true) (hrun:RunC P c (Zvt args E k els) e s1) (he:e = .normal∨e = .ret)
  (hres:Zgt P s1 fn.results.toList=some ps) (hps:Zf8 ps=res) (hob:s1.ob 0=some ((0,0),.row E k false els')):ContractR P f args E k els res els':=by
 subst hps
 refine ⟨hg,fun x vs hpre hinv=>?_⟩
 let r:Run:=⟨x.W,Dr x,(vs++Array.replicate (fn.ntmps - vs.size) undef).size,x.F,x.G,x.ρ,WInv.I P⟩
 have hNr:r.N=fn.ntmps:=by
  have:=hpre.size
  simp [r]
  omega
 have hX:RstX r (fun _=>False) (Zvt args E k els) { tmps:=vs++Array.replicate (fn.ntmps - vs.size) undef,defers:=[] } x:=by
  refine ⟨rfl,rfl,Gr.refl _ _,fun g hg=>?_,fun t=>?_,fun t g o ho=>?_,fun t t' g g' o o' b hne h1 h2 hb1 hb2=>?_,hpre.flt,fun _ _ h=>h,fun _ _ h=>.inl h,fun _ h=>⟨h,rfl⟩,⟨hinv,hpre.gen⟩,fun _ _ _ _ h=>h⟩
  ·rw [hpre.gen g hg]
   exact .inl Nat.zero_lt_one
  ·show Rep x ((PV.row 0 (0,0)::args).getD t (.tup [])) _
   rw [Array.getD_eq_getD_getElem?,Array.getElem?_append,List.getD_eq_getElem?_getD]
   by_cases ht:t<vs.size
   ·have hl:t<(PV.row 0 (0,0)::args).length:=by
     rw [List.length_cons,hpre.size]
     exact ht
    rw [if_pos ht,List.getElem?_eq_getElem hl,Array.getElem?_eq_getElem ht]
    exact hpre.rep t _ _ (List.getElem?_eq_getElem hl) (Array.getElem?_eq_getElem ht)
   ·rw [if_neg ht,List.getElem?_eq_none (by rw [List.length_cons,hpre.size];omega)]
    have:(Array.replicate (fn.ntmps - vs.size) undef)[t - vs.size]?.getD undef=undef:=by
     rw [Array.getElem?_replicate]
     split<;>rfl
    rw [this]
    exact .tup [] #[] rfl (fun i p v hp=>by simp at hp)
  ·obtain ⟨rfl,rfl,rfl⟩:=Zoo ho
   exact hpre.ob
  ·exact absurd ((Zoo h1).1.trans (Zoo h2).1.symm) hne
 refine calls_of_wp hf hb ?_
 refine (ZiA hmix hrun).1 r _ x _ ⟨rfl,by rw [hNr];exact hok⟩ hX fun a' y hY=>?_
 obtain ⟨ws,h1,h2,h3⟩:=ZdO hY fn.results.toList hres
 have hstep:Step x y:=⟨fun g hg=>hY.rho g hg,fun b o hb=>hY.f0 b o hb,fun b o v hb hv=>hY.keep b o v hb hv⟩
 have hend:(results fn a'.tmps).run P y.W = .ok (if ws.length=1 then ws.getD 0 undef else .tuple ws.toArray) y.W:=by
  have:(fn.results.mapM (Zt2 a')).run P y.W = .ok ws.toArray y.W:=by
   rw [Array.mapM_eq_mapM_toList,map_eq_pure_bind,Sem.run_bind,h1]
   rfl
  have e:results fn a'.tmps=(fn.results.mapM (Zt2 a') >>= fun vs=>pure (if h:vs.size=1 then vs[0] else .tuple vs)):=by
   unfold results
   congr 1
  rw [e,Sem.run_bind,this]
  simp only [Result.andThen_ok,Sem.run_pure]
  congr 1
  by_cases hl:ws.length=1
  ·simp [hl]
  ·simp [hl]
 have hfin:∃ v,(results fn a'.tmps).run P y.W = .ok v y.W∧(fun e W'=>∃ y v,y.W=W'∧e=Ending.returned v∧PostR x y E k (Zf8 ps) els' v) (Ending.returned v) y.W:=by
  refine ⟨_,hend,y,_,rfl,rfl,hstep,hY.gr,hY.fnew,hY.flt,?_,(hY.ob 0 _ _ hob).2⟩
  have hlq:ps.length=ws.length:=h2.symm
  unfold Zf8
  split
  ·rename_i p
   rw [if_pos (by simpa using hlq.symm)]
   exact h3 0 p rfl
  ·rename_i hne
   have hn1:¬ ws.length=1:=fun h=>by
    rw [h] at hlq
    match ps,hlq with
    | [q],_=>exact hne q rfl
   rw [if_neg hn1]
   refine .tup ps ws.toArray (by simpa using hlq) fun j q v hq hv=>?_
   have:=h3 j q hq
   have hv':ws[j]? = some v:=by simpa using hv
   rw [List.getD_eq_getElem?_getD,hv'] at this
   exact this
 rcases he with rfl | rfl
 ·exact ⟨hY.defers,hfin⟩
 ·exact ⟨hY.defers,hfin⟩
theorem Zop (hmix:P.follows .mixedOrders=true) {f:FuncId} {fn:Func} {c:Code} {args:List PV} {E k:Nat} {els els':List (List PV)} {res:PV} (hf:P.funcs[f]? = some fn) (hg:isGo P f=true) (hb:fn.body=some c) (hok:(decide (args.length+1≤fn.ntmps)&&Zbq fn.ntmps c)=true)
  (h:PWs P [c] (Zzo P fn.results.toList res E k els') (mkS (ZfI 0 (.row 0 (0,0)::args)) [(0,some ((0,0),.row E k false els))] 1)):ContractR P f args E k els res els':=by
 simp only [Bool.and_eq_true,decide_eq_true_eq] at hok
 obtain ⟨e,s',h1,h2⟩:=ZdM h
 have hsh:Shift (Zvt args E k els) (mkS (ZfI 0 (.row 0 (0,0)::args)) [(0,some ((0,0),.row E k false els))] 1):=Zgq (fun t=>by
  rcases Zfg (PV.row 0 (0,0)::args) 0 t with h | ⟨_,h⟩
  ·exact .inl h
  ·exact .inr h) (fun t=>.inr rfl) (Nat.le_refl _)
 cases e with
 | exit id=>exact h2.elim
 | normal=>
   obtain ⟨ps,q1,q2,q3⟩:=h2
   exact Zk1 hmix hg hf hb hok.1 hok.2 (.shift hsh h1) (.inl rfl) q1 q2 q3
 | ret=>
   obtain ⟨ps,q1,q2,q3⟩:=h2
   exact Zk1 hmix hg hf hb hok.1 hok.2 (.shift hsh h1) (.inr rfl) q1 q2 q3
end
end VL
end Go.Proofs.YtjoneoobolnnbaaGreatDoor
namespace Go.Proofs.YtjoneoobolnnbaaGreatDoor
namespace VL
open Go.RowKit
theorem Zbe {P:Program} [WInv P] {β:Type} {F:Option β} {R:β→PV} {O:β→List (List PV)} {f:FuncId} {fn:Func} {c:Code} {args:List PV} {E k:Nat} {els:List (List PV)} {r:β} (hF:F=some r) (hmix:P.follows .mixedOrders=true) (hf:P.funcs[f]? = some fn) (hg:isGo P f=true) (hb:fn.body=some c) (hok:(decide (args.length+1≤fn.ntmps)&&Zbq fn.ntmps c)=true)
  (h:∀ r,F=some r→PWs P [c] (Zzo P fn.results.toList (R r) E k (O r)) (mkS (ZfI 0 (.row 0 (0,0)::args)) [(0,some ((0,0),.row E k false els))] 1)):ContractR P f args E k els (R r) (O r):=Zop hmix hf hg hb hok (h r hF)
end VL
end Go.Proofs.YtjoneoobolnnbaaGreatDoor
namespace Go.Proofs.YtjoneoobolnnbaaGreatDoor
namespace VL
open Go.RowKit
def dn:PV→PV
 | .nil=>.sl []
 | p=>p
theorem Zyr {x:Ctx} {p:PV} {v:Value} (h:Rep x p v):Rep x (dn p) v:=by
 cases h with
 | nil=>exact .sl [] none 0 0 0 0 0 (fun _ _=>.int .i64 0) rfl (Nat.le_refl _) (by omega) (by simp) (by omega) (by simp) (by simp)
 | bool b=>exact .bool b
 | int k n=>exact .int k n
 | str s=>exact .str s
 | un v=>exact .un v
 | agg ps cs hl h=>exact .agg ps cs hl h
 | tup ps cs hl h=>exact .tup ps cs hl h
 | sl els A n c k b off f h1 h2 h3 h4 h5 h6 h7=>exact .sl els A n c k b off f h1 h2 h3 h4 h5 h6 h7
 | ptr t g off b h1 h2=>exact .ptr t g off b h1 h2
 | elp t g i k off b h1 h2=>exact .elp t g i k off b h1 h2
 | row t g A n c h1 h2=>exact .row t g A n c h1 h2
 | cel cs b off f h1 h2=>exact .cel cs b off f h1 h2
 | fn f ps cs hl h=>exact .fn f ps cs hl h
def ZfH (n:Int):List PV:=[.int .i32 n]
section
variable {P:Program} {r:Run} {o:Oper} {i:Nat} {s:FS}
theorem Zvh {T E d n:Nat} {e e':Operand} {te:TI} {sz b:Nat} {zz zc:List PV} {kl kc:IntKind} (ho:o.op = .makeSlice T e e') (hdst:o.dst=some d) (ht:tyI P T=some ⟨.slice E,sz,b,zz⟩) (hte:tyI P E=some te) (hl:ev s e = .int kl (n:Int)) (hc:ev s e' = .int kc (n:Int)) (hb:te.bytes * n≤140737488355328) (hm:n≤9223372036854775807)
  (hz:te.zero.map dn=zc) (hp:∀ p ∈ zc,p.pure=true) (hlen:te.zero.length=te.size) (hpos:0<te.size) :
  OpOK P r o i s ⟨.row d (s.ng,i),[(d,some ((s.ng,i),.row E te.size false (List.replicate n zc)))]⟩:=by
 intro S a x Q hX hi hd
 obtain ⟨inf,zv,h1,_⟩:=Zak ht
 obtain ⟨inf',z',h1',h2',h3',h4',h5',h6'⟩:=Zak hte
 have q1:a.eval e = .int kl (n:Int):=by
  have:=Zaz hX e
  rw [hl] at this
  generalize a.eval e=v at this
  cases this
  rfl
 have q2:a.eval e' = .int kc (n:Int):=by
  have:=Zaz hX e'
  rw [hc] at this
  generalize a.eval e'=v at this
  cases this
  rfl
 have hzs:z'.cells.size=te.size:=by rw [← hlen,h6'];simp
 have hzl:zc.length=te.size:=by rw [← hz,List.length_map,hlen]
 have hrun:=run_make (P:=P) (w:=x.W) T E inf' z' h1 h2' h3' kl kc n n (by omega) (Int.le_refl _) (by
  rw [h5',← Int.natCast_mul];omega) (by omega)
 simp only [Int.toNat_natCast,h4'] at hrun
 have hk:∀ e ∈ List.replicate n zc,e.length=te.size:=fun e he=>by rw [List.eq_of_mem_replicate he,hzl]
 have hreps:ZvC x (List.replicate n zc).flatten (madeCells z'.cells (n * te.size)):=by
  refine ⟨by rw [ZcW _ hk];simp [madeCells],fun j p v hp hv=>?_⟩
  have hjl:j<n * te.size:=by
   have:=(List.getElem?_eq_some_iff.1 hp).1
   rw [ZcW _ hk] at this
   simpa using this
  have hi':j / te.size<n:=Nat.div_lt_of_lt_mul (by rw [Nat.mul_comm];exact hjl)
  have hj':j % te.size<te.size:=Nat.mod_lt _ hpos
  have hem:j / te.size * te.size+j % te.size=j:=by rw [Nat.mul_comm];exact Nat.div_add_mod j _
  have he:(List.replicate n zc)[j / te.size]? = some zc:=by rw [List.getElem?_replicate,if_pos hi']
  have hj2:j % te.size<z'.cells.size:=by rw [hzs];exact hj'
  have hq:zc[j % te.size]? = some (dn (Zci z'.cells[j % te.size])):=by rw [← hz,h6'];simp [hj2]
  have:=ZkP (k:=te.size) (List.replicate n zc) hk _ _ _ _ he hq
  rw [hem,hp] at this
  injection this with this
  subst this
  simp only [madeCells] at hv
  rw [Array.getElem?_map,Array.getElem?_range,if_pos hjl,hzs] at hv
  simp only [Option.map_some,Option.some.injEq] at hv
  rw [getElem!_pos z'.cells (j % te.size) hj2] at hv
  subst hv
  exact Zyr (Zen x _)
 obtain ⟨y,hy1,hy2⟩:=ZqS hX hi (hd d hdst) (E:=E) (k:=te.size) (n:=n) (els:=List.replicate n zc) (vs:=madeCells z'.cells (n * te.size)) (by simp) hk
  (fun e he p hpp=>by rw [List.eq_of_mem_replicate he] at hpp;exact hp p hpp) hm hreps
 rw [hdst]
 refine Zaf (v:=.slice (some ⟨x.W.heap.size,0,none⟩) n n) (W':=x.W.alloc (.cells (madeCells z'.cells (n * te.size)) E)) ?_ ⟨y,hy1,by rw [hdst];exact hy2⟩
 unfold execOp
 rw [ho]
 simp [q1,q2,hrun]
end
def Zn7 (w:Nat) (n:Int):Option Unit:=if 0≤n∧n * (w:Int)≤140737488355328∧n≤9223372036854775807 then some () else none
section
variable {P:Program} [WInv P] {ops:Array Oper} {draw:Bool} {i:Nat} {L:List Oper} {acc:List (List Nat×List Nat)} {K:FS→Prop} {tm:List (Nat×PV)} {ob:List (Nat×Option (Gen×VObj))} {ng:Nat}
 {d:Nat} {ty T:TypeId} {pos:String} {after:Array Edge} {gd:Option (Nat×Bool)} {x y:Operand}
theorem Zqy {α:Type} (f:α→List PV) (z0:α) {E kk by_:Nat} {z:List PV} [Sl P T E kk by_ z] {kl:IntKind} {n:Int} {u:Unit} (hw:Zp ops (mkS tm ob ng) ⟨some d,.makeSlice T x y,ty,pos,after,gd⟩=some true) (hx:evL tm x = .int kl n) {kc:IntKind} (hy:evL tm y = .int kc n) (hs:Zn7 by_ n=some u) (hz:z.map dn=f z0) (hp:(f z0).all PV.pure=true)
  (k:GoL P ops draw (i+1) L (acc ++ [(ZN (mkS tm ob ng) ⟨some d,.makeSlice T x y,ty,pos,after,gd⟩,[d])]) (mkS ((d,.row d (ng,i))::tm) ((d,some ((ng,i),.row E kk false (List.map f (List.replicate n.toNat z0))))::ob) ng) K):GoL P ops draw i (⟨some d,.makeSlice T x y,ty,pos,after,gd⟩::L) acc (mkS tm ob ng) K:=by
 obtain ⟨s1,b,zz,te,q1,q2,q3,q4,q5,q6,q7⟩:=Zf9 (P:=P) (T:=T) (E:=E) (k:=kk) (by_:=by_) (z:=z)
 unfold Zn7 at hs
 split at hs
 ·rename_i hc
  rw [List.map_replicate] at k
  refine Zhp (u:=⟨.row d (ng,i),[(d,some ((ng,i),.row E kk false (List.replicate n.toNat (f z0))))]⟩) (.any hw fun s' r hA hI=>?_) ?_
  ·have e1:ev s' x = .int kl ((n.toNat:Nat):Int):=by rw [← hA.ev x (by simp [Op.operands]),Int.toNat_of_nonneg hc.1];exact (congrFun (ZaD tm ob ng) x).trans hx
   have e2:ev s' y = .int kc ((n.toNat:Nat):Int):=by rw [← hA.ev y (by simp [Op.operands]),Int.toNat_of_nonneg hc.1];exact (congrFun (ZaD tm ob ng) y).trans hy
   have e3:s'.ng=ng:=hA.ng.symm
   rw [← e3,← q3]
   refine Zvh rfl rfl q1 q2 e1 e2 ?_ ?_ (by rw [q5];exact hz) (fun p hpp=>List.all_eq_true.1 hp p hpp) (by rw [q5,q7,q3]) (by rw [q3];exact q6)
   ·rw [q4]
    have h1:=hc.2.1
    have:((by_ * n.toNat:Nat):Int)≤140737488355328:=by rw [Int.natCast_mul,Int.toNat_of_nonneg hc.1,Int.mul_comm];exact h1
    omega
   ·have:=hc.2.2
    omega
  ·rw [Zcg]
   exact k
 ·cases hs
end
end VL
end Go.Proofs.YtjoneoobolnnbaaGreatDoor
namespace Go.Proofs.YtjoneoobolnnbaaGreatDoor
namespace VL
open Go.RowKit
theorem ZgE:∀ (us:List (Nat×Option (Gen×VObj))) {f f':Nat→Option (Gen×VObj)} {t:Nat},f t=f' t→flips f us t=flips f' us t
 | [],_,_,_,h=>h
 | u::us,f,f',t,h=>ZgE us (by
   show (if t=u.1 then u.2 else f t)=if t=u.1 then u.2 else f' t
   rw [h])
theorem Zzq (s:FS) (f:Nat→Option (Gen×VObj)) (e:Operand):ev ⟨s.tm,f,s.ng⟩ e=ev s e:=by cases e<;>rfl
section
variable {P:Program} [WInv P] {r:Run} {ops:Array Oper} {o:Oper} {i:Nat} {s s':FS}
omit [WInv P] in
theorem Zyc {f:FuncId} {es:Array Operand} {ts:Array TypeId} {p0:PV} {ps ps':List PV} {us:List (Nat×Option (Gen×VObj))} {u:Upd} (_:o.op = .call { callee:=.value (.func f),args:=es,argTypes:=ts }) (he:es.toList.map (ev s)=p0::ps) (h:Zf6 s.ob ps=some (ps',us))
  (k:Zsi P r o i ⟨s.tm,flips s.ob us,s.ng⟩ u):Zsi P r o i s ⟨u.val,us++u.obs⟩:=by
 intro S a x Q hX hiM hi hi2 hd
 obtain ⟨F1,st1,hX1,_,_⟩:=ZcR ps (Flip.refl s.ob) hX (g:=fun j=>(es.map a.eval).getD (j+1) undef) h fun j p hp=>by
  have hp':(p0::ps)[j+1]? = some p:=by simpa using hp
  rw [← he,List.getElem?_map] at hp'
  cases he:es.toList[j+1]? with
  | none=>rw [he] at hp';simp at hp'
  | some e=>
    rw [he] at hp'
    simp only [Option.map_some,Option.some.injEq] at hp'
    subst hp'
    have hea:es[j+1]? = some e:=by simpa using he
    have:(es.map a.eval).getD (j+1) undef=a.eval e:=by simp [hea]
    rw [this]
    exact Zaz hX e
 have:=k S a { x with F:=F1 } Q hX1 hiM hi hi2 hd
 have e:(⟨s.tm,flips s.ob us,s.ng⟩:FS).app o.dst u=s.app o.dst ⟨u.val,us++u.obs⟩:=by
  unfold FS.app flips
  simp only [List.foldl_append]
 rw [e] at this
 exact this
theorem Zsd {f:FuncId} {es:Array Operand} {ts:Array TypeId} {post post':List PV} {t:Nat} {g:Gen} {cs:List PV} {oq:List (Nat×Gen×OC)} {oc':List OC} {res:PV} {us3:List (Nat×Option (Gen×VObj))} (hw:Zp ops s o=some true) (ho:o.op = .call { callee:=.value (.func f),args:=es,argTypes:=ts })
  (he:es.toList.map (ev s) = .ptr t g 0::post) (hob:s.ob t=some (g,.box cs)) (h3:Zf6 s.ob post=some (post',us3)) (hobF:flips s.ob us3 t=some (g,.box cs)) (hoq:Zta (flips s.ob us3) cs=some oq) (hk:okK t oq=true) (h4:Zf6 (flips s.ob us3) post=some (post',[])) (hc:ContractP P f (.ptr 0 (0,0) 0::post') 0 (oq.map (·.2.2)) res oc') :
  OpR P ops i o s ⟨res,us3++usP t g s.ng i oq oc'⟩:=.anyx hw fun s' r hA hI=>by
 obtain ⟨e1,e2,_⟩:=Zeg ho hA
 obtain ⟨q1,q2,q3⟩:=Zl3 hoq
 obtain ⟨q4,q5⟩:=Zn6 hk
 have hmem:(PV.ptr t g 0) ∈ es.toList.map (ev s):=by rw [he];exact List.mem_cons_self ..
 have ht:s.ob t=s'.ob t:=e2 _ hmem t (by simp [Zhb,ZfJ,Zcp])
 have hrow:∀ c E k sh els,(oq.map (·.2.2))[c]? = some (OC.row E k sh els)→s.ob (oqκ oq c)=s'.ob (oqκ oq c):=fun c E k sh els h=>by
  refine e2 _ hmem (oqκ oq c) ?_
  have hcell:cs[c]? = some (.row (oqκ oq c) (oqν oq c)):=by
   rw [q1,ZbR,h,Nat.zero_add]
   rfl
  simp only [Zhb,ZfJ,Zcp,List.flatMap_cons,List.flatMap_nil,List.append_nil]
  refine List.mem_append_right _ ?_
  unfold Zp6
  rw [hob]
  exact List.mem_flatMap.2 ⟨_,List.mem_of_getElem? hcell,by simp [Zcp]⟩
 have hpost:∀ p ∈ post,∀ t ∈ ZfJ p,s.ob t=s'.ob t:=fun p hp t ht=>e2 p (by rw [he];exact List.mem_cons_of_mem _ hp) t (ZhT ht)
 have hevs:es.toList.map (ev ⟨s'.tm,flips s'.ob us3,s'.ng⟩)=es.toList.map (ev s'):=List.map_congr_left fun e _=>Zzq s' _ e
 refine Zyc (u:=⟨res,usP t g s.ng i oq oc'⟩) ho (by rw [e1,he]) (by rw [← h3];exact (Zdt hpost).symm) ?_
 unfold usP
 rw [hA.ng]
 refine Zr0 (s:=⟨s'.tm,flips s'.ob us3,s'.ng⟩) (pre:=[]) (pre':=[]) (post:=post) (ν:=oqν oq) ho (by rw [hevs,e1,he];rfl) (by rw [← q1,← hobF];exact ZgE us3 ht.symm) (fun c E k sh els h=>by rw [← q2 c E k sh els h];exact ZgE us3 (hrow c E k sh els h).symm) q3 q4 q5 rfl ?_ (by decide) hc hI
 rw [← h4]
 exact Zdt fun p hp t ht=>ZgE us3 (hpost p hp t ht).symm
end
section
variable {P:Program} [WInv P] {ops:Array Oper} {draw:Bool} {i:Nat} {L:List Oper} {acc:List (List Nat×List Nat)} {K:FS→Prop} {tm:List (Nat×PV)} {ob:List (Nat×Option (Gen×VObj))} {ng:Nat}
 {d:Option Tmp} {ty:TypeId} {pos:String} {after:Array Edge} {gd:Option (Nat×Bool)}
theorem ZnX {f:FuncId} {es:Array Operand} {ts:Array TypeId} {post post':List PV} {t:Nat} {g:Gen} {cs:List PV} {oq:List (Nat×Gen×OC)} {oc oc':List OC} {res:PV} {us us3:List (Nat×Option (Gen×VObj))} (hc:ContractP P f (.ptr 0 (0,0) 0::post') 0 oc res oc') (hw:Zp ops (mkS tm ob ng) ⟨d,.call ⟨.value (.func f),es,ts⟩,ty,pos,after,gd⟩=some true)
  (he:es.toList.map (evL tm) = .ptr t g 0::post) (hob:ZO ob t=some (g,.box cs)) (h3:Zf6 (ZO ob) post=some (post',us3)) (hobF:ZO (us3.reverse++ob) t=some (g,.box cs)) (hoq:Zta (ZO (us3.reverse++ob)) cs=some oq) (hoc:oq.map (·.2.2)=oc) (hk:okK t oq=true) (h4:Zf6 (ZO (us3.reverse++ob)) post=some (post',[])) (hus:us3++usP t g ng i oq oc'=us)
  (k:GoL P ops draw (i+1) L (acc ++ [(ZN (mkS tm ob ng) ⟨d,.call ⟨.value (.func f),es,ts⟩,ty,pos,after,gd⟩,us.map (·.1))]) (mkS (ZbZ d res tm) (us.reverse++ob) ng) K):GoL P ops draw i (⟨d,.call ⟨.value (.func f),es,ts⟩,ty,pos,after,gd⟩::L) acc (mkS tm ob ng) K:=by
 subst hoc hus
 have hfl:flips (mkS tm ob ng).ob us3=ZO (us3.reverse++ob):=by
  have:=Zcg (d:=none) (v:=.un) (us:=us3) (tm:=tm) (ob:=ob) (ng:=ng)
  exact congrArg FS.ob this
 refine Zhp (Zsd hw rfl (by rw [ZaD];exact he) hob h3 (by rw [hfl];exact hobF) (by rw [hfl];exact hoq) hk (by rw [hfl];exact h4) hc) ?_
 rw [Zcg]
 exact k
end
end VL
end Go.Proofs.YtjoneoobolnnbaaGreatDoor
namespace Go.Proofs.YtjoneoobolnnbaaGreatDoor
open VL Go.RowKit
def strings_Compare (a b:ByteArray):Option Int:=some (Lib.compareBytes a.data.toList b.data.toList)
theorem ZkL (a b:ByteArray) (r:Int) (h:strings_Compare a b=some r):Zd Tryz.prog 128 [.str a,.str b] (.int .i64 r):=by
 unfold strings_Compare at h
 cases h
 exact Zay (vals:=[.string a,.string b]) (by kernel_rfl) rfl rfl (fun x=>.int _ _) fun w hw=>(Zs2 a b w).mono fun e w' ⟨h1,h2⟩=>⟨h1,by rw [← h2];exact Below.refl _ _⟩
end Go.Proofs.YtjoneoobolnnbaaGreatDoor
namespace Go.Proofs.YtjoneoobolnnbaaGreatDoor
namespace VL
theorem Zd3 {p q:Prop} (k:q) (h:q→p:=by
 (intro k)
 (repeat (first
  | refine ZnN rfl rfl rfl ?_
  | refine ZrU rfl (by (conv=>lhs;whnf);try rfl) ?_
  | refine ZlH rfl (by (conv=>lhs;whnf);try rfl) ?_
  | refine Zg1 rfl rfl ?_
  | refine Zsm rfl rfl rfl rfl (by (conv=>lhs;whnf);try rfl) ?_
  | refine Zvm rfl rfl rfl rfl (by (conv=>lhs;whnf);try rfl) ?_
  | refine Zj6 rfl rfl rfl ?_
  | refine ZmC rfl rfl rfl (by (conv=>lhs;whnf);try rfl) (by (conv=>lhs;whnf);try rfl) (by rfl) (by rfl) (Nat.le_of_ble_eq_true rfl) (by (conv=>lhs;whnf);try rfl) ?_
  | refine Zu1 rfl rfl ?_
  | refine Zvn rfl rfl ?_
  | refine ZrV rfl rfl (by (conv=>lhs;whnf);try rfl) ?_
  | refine ZoF rfl rfl rfl ?_
  | refine ZvV rfl (by (conv=>lhs;whnf);try rfl) (by (conv=>lhs;whnf);try rfl) (by rfl) ?_
  | refine ZmB rfl rfl ?_
  | refine Zvy rfl rfl ?_
  | refine Zr3 rfl rfl ?_
  | refine ZrH rfl rfl ?_
  | refine ZrG rfl rfl rfl rfl ?_
  | refine Zn8 ?_
  | refine Zn9 (by kernel_rfl) ?_
  | refine Zor ?_
  | refine ZlB ?_
  | refine Zos ?_
  | refine ZlC ?_
  | refine Zoq ?_
  | refine Zot ?_
  | refine ZjU ?_
  | refine ZrI ?_
  | refine bk_other rfl ?_
  | refine Zou ?_
  | refine ZrJ ?_
  | refine jk_exit ?_
  | refine Zu0 ?_
  | refine pws_label ?_))
 (exact k)):p:=h k
end VL
end Go.Proofs.YtjoneoobolnnbaaGreatDoor
namespace Go.Proofs.YtjoneoobolnnbaaGreatDoor
namespace VL
section
variable {P:Program} [WInv P] {α β γ:Type} {ops:Array Oper} {draw:Bool} {i:Nat} {L:List Oper} {acc:List (List Nat×List Nat)} {K:FS→Prop} {tm:List (Nat×PV)} {ob:List (Nat×Option (Gen×VObj))} {ng:Nat}
 {d:Option Tmp} {ty T:TypeId} {pos:String} {after:Array Edge} {gd:Option (Nat×Bool)} {x y:Operand} {r:γ} {q:β→Prop}
theorem aC {F:Option β} {G:β→Option γ} {R:β→PV} {f:FuncId} {es:Array Operand} {ts:Array TypeId} {args:List PV} {us:List (Nat×Option (Gen×VObj))} (hF:F.bind G=some r) (hc:∀ v,F=some v→Zd P f args (R v)) (k:∀ v,G v=some r→q v)
  (hw:Zp ops (mkS tm ob ng) ⟨d,.call ⟨.value (.func f),es,ts⟩,ty,pos,after,gd⟩=some true:=by exact rfl) (ha:Zf6 (ZO ob) (es.toList.map (evL tm))=some (args,us):=by exact rfl)
  (h:∀ v,q v→GoL P ops draw (i+1) L (acc ++ [(ZN (mkS tm ob ng) ⟨d,.call ⟨.value (.func f),es,ts⟩,ty,pos,after,gd⟩,us.map (·.1))]) (mkS (ZbZ d (R v) tm) (us.reverse++ob) ng) K:=by
 (intro v k)
 (refine Zh ?_)
 (exact k)):GoL P ops draw i (⟨d,.call ⟨.value (.func f),es,ts⟩,ty,pos,after,gd⟩::L) acc (mkS tm ob ng) K:=by
 obtain ⟨v,hv,hG⟩:=bnd hF
 exact ZfX (hc v hv) hw ha (h v (k v hG))
theorem aL {F:Option β} {G:β→Option γ} {R:β→PV} {f:FuncId} {es:Array Operand} {ts:Array TypeId} {args:List PV} (hF:F.bind G=some r) (hc:∀ v,F=some v→Zd P f args (R v)) (k:∀ v,G v=some r→q v)
  (hw:Zp ops (mkS tm ob ng) ⟨d,.call ⟨.value (.func f),es,ts⟩,ty,pos,after,gd⟩=some true:=by exact rfl) (ha:ZiX (frz (ZO ob)) (es.toList.map (evL tm))=some args:=by exact rfl) (hp:∀ v,(R v).dry=true:=by exact fun _=>rfl)
  (h:∀ v,q v→GoL P ops draw (i+1) L (acc ++ [(ZN (mkS tm ob ng) ⟨d,.call ⟨.value (.func f),es,ts⟩,ty,pos,after,gd⟩,[])]) (mkS (ZbZ d (R v) tm) ob ng) K:=by
 (intro v k)
 (refine Zh ?_)
 (exact k)):GoL P ops draw i (⟨d,.call ⟨.value (.func f),es,ts⟩,ty,pos,after,gd⟩::L) acc (mkS tm ob ng) K:=by
 obtain ⟨v,hv,hG⟩:=bnd hF
 exact ZjO (hc v hv) hw ha (hp v) (h v (k v hG))
theorem aN {dd:Nat} {F:Option β} {G:β→Option γ} {O:β→VObj} {f:FuncId} {es:Array Operand} {ts:Array TypeId} {args:List PV} {us:List (Nat×Option (Gen×VObj))} (hF:F.bind G=some r) (hc:∀ v,F=some v→ContractN P f args (O v)) (k:∀ v,G v=some r→q v)
  (hw:Zp ops (mkS tm ob ng) ⟨some dd,.call ⟨.value (.func f),es,ts⟩,ty,pos,after,gd⟩=some true:=by exact rfl) (ha:Zf6 (ZO ob) (es.toList.map (evL tm))=some (args,us):=by exact rfl)
  (h:∀ v,q v→GoL P ops draw (i+1) L (acc ++ [(ZN (mkS tm ob ng) ⟨some dd,.call ⟨.value (.func f),es,ts⟩,ty,pos,after,gd⟩,(us ++ [(dd,some ((ng,i),O v))]).map (·.1))])
   (mkS ((dd,Zhj (O v) dd (ng,i))::tm) ((us ++ [(dd,some ((ng,i),O v))]).reverse++ob) ng) K:=by
 (intro v k)
 (refine Zh ?_)
 (exact k)):GoL P ops draw i (⟨some dd,.call ⟨.value (.func f),es,ts⟩,ty,pos,after,gd⟩::L) acc (mkS tm ob ng) K:=by
 obtain ⟨v,hv,hG⟩:=bnd hF
 exact ZqK (hc v hv) hw ha (h v (k v hG))
theorem aO {F:Option β} {G:β→Option γ} {R:β→PV} {O:β→List PV} {f:FuncId} {es:Array Operand} {ts:Array TypeId} {post post':List PV} {t:Nat} {g:Gen} {cs qs:List PV} {us2 us3:List (Nat×Option (Gen×VObj))} (hF:F.bind G=some r)
  (hc:∀ v,F=some v→Contract P f (.ptr 0 (0,0) 0::post') (some (0,qs)) (R v) (O v)) (k:∀ v,G v=some r→q v) (hw:Zp ops (mkS tm ob ng) ⟨d,.call ⟨.value (.func f),es,ts⟩,ty,pos,after,gd⟩=some true:=by exact rfl)
  (he:es.toList.map (evL tm) = .ptr t g 0::post:=by exact rfl) (hob:Zb5 (ZO ob) t g=some (.box cs):=by exact rfl) (h2:ZfZ (ZO ob) cs=some (qs,us2):=by exact rfl) (h3:Zf6 (ZO ob) post=some (post',us3):=by exact rfl)
  (h:∀ v,q v→GoL P ops draw (i+1) L (acc ++ [(ZN (mkS tm ob ng) ⟨d,.call ⟨.value (.func f),es,ts⟩,ty,pos,after,gd⟩,(us2++us3 ++ [(t,some (g,VObj.box (O v)))]).map (·.1))])
   (mkS (ZbZ d (R v) tm) ((us2++us3 ++ [(t,some (g,VObj.box (O v)))]).reverse++ob) ng) K:=by
 (intro v k)
 (refine Zh ?_)
 (exact k)):GoL P ops draw i (⟨d,.call ⟨.value (.func f),es,ts⟩,ty,pos,after,gd⟩::L) acc (mkS tm ob ng) K:=by
 obtain ⟨v,hv,hG⟩:=bnd hF
 exact ZeS (hc v hv) hw he hob h2 h3 (h v (k v hG))
theorem aI (f:β→List PV) {M:List β} {n:Int} {G:β→Option γ} {E kk by_:Nat} {z:List PV} [Sl P T E kk by_ z] {kd:IntKind} (hF:(atI M n).bind G=some r) (k:∀ v,G v=some r→q v)
  (hw:Zp ops (mkS tm ob ng) ⟨d,.indexAddr T x y,ty,pos,after,gd⟩=some true:=by exact rfl) (hx:evL tm x = .sl (M.map f):=by exact rfl) (hy:evL tm y = .int kd n:=by exact rfl) (hl:∀ e,(f e).length=kk:=by exact fun _=>rfl)
  (h:∀ e,q e→GoL P ops draw (i+1) L (acc ++ [(ZN (mkS tm ob ng) ⟨d,.indexAddr T x y,ty,pos,after,gd⟩,[])]) (mkS (ZbZ d (.cel (f e)) tm) ob ng) K:=by
 (intro v k)
 (refine Zh ?_)
 (exact k)):GoL P ops draw i (⟨d,.indexAddr T x y,ty,pos,after,gd⟩::L) acc (mkS tm ob ng) K:=by
 obtain ⟨v,hv,hG⟩:=bnd hF
 exact Zo9 hw hv hx hy (hl v) (h v (k v hG))
theorem aS {a:ByteArray} {n:Int} {G:Int→Option γ} {q:Int→Prop} {kd:IntKind} (hF:(atS a n).bind G=some r) (k:∀ v,G v=some r→q v) [hT:StrT P T]
  (hw:Zp ops (mkS tm ob ng) ⟨d,.index T x y,ty,pos,after,gd⟩=some true:=by exact rfl) (hx:evL tm x = .str a:=by exact rfl) (hy:evL tm y = .int kd n:=by exact rfl)
  (h:∀ c,q c→GoL P ops draw (i+1) L (acc ++ [(ZN (mkS tm ob ng) ⟨d,.index T x y,ty,pos,after,gd⟩,[])]) (mkS (ZbZ d (.int .u8 c) tm) ob ng) K:=by
 (intro v k)
 (refine Zh ?_)
 (exact k)):GoL P ops draw i (⟨d,.index T x y,ty,pos,after,gd⟩::L) acc (mkS tm ob ng) K:=by
 obtain ⟨v,hv,hG⟩:=bnd hF
 exact ZuY StrT.eq hw hv hx hy (h v (k v hG))
theorem sS {a:ByteArray} {l m:Int} {G:ByteArray→Option γ} {q:ByteArray→Prop} {lo hi:Option Operand} (hF:(Zge a l m).bind G=some r) (k:∀ v,G v=some r→q v) [hT:StrT P T]
  (hw:Zp ops (mkS tm ob ng) ⟨d,.slice T x lo hi none,ty,pos,after,gd⟩=some true:=by exact rfl) (hx:evL tm x = .str a:=by exact rfl) (hlo:loI tm lo=some l:=by exact rfl) (hhi:hiI tm a.size hi=some m:=by exact rfl)
  (h:∀ b,q b→GoL P ops draw (i+1) L (acc ++ [(ZN (mkS tm ob ng) ⟨d,.slice T x lo hi none,ty,pos,after,gd⟩,[])]) (mkS (ZbZ d (.str b) tm) ob ng) K:=by
 (intro v k)
 (refine Zh ?_)
 (exact k)):GoL P ops draw i (⟨d,.slice T x lo hi none,ty,pos,after,gd⟩::L) acc (mkS tm ob ng) K:=by
 obtain ⟨v,hv,hG⟩:=bnd hF
 exact ZuX StrT.eq hw hv hx hlo hhi (h v (k v hG))
theorem sT {a b:ByteArray} {G:ByteArray→Option γ} {q:ByteArray→Prop} {T':TypeId} (hF:(Zns a b).bind G=some r) (k:∀ v,G v=some r→q v)
  (hw:Zp ops (mkS tm ob ng) ⟨d,.binOp .add T x y T',ty,pos,after,gd⟩=some true:=by exact rfl) (hx:evL tm x = .str a:=by exact rfl) (hy:evL tm y = .str b:=by exact rfl)
  (h:∀ c,q c→GoL P ops draw (i+1) L (acc ++ [(ZN (mkS tm ob ng) ⟨d,.binOp .add T x y T',ty,pos,after,gd⟩,[])]) (mkS (ZbZ d (.str c) tm) ob ng) K:=by
 (intro v k)
 (refine Zh ?_)
 (exact k)):GoL P ops draw i (⟨d,.binOp .add T x y T',ty,pos,after,gd⟩::L) acc (mkS tm ob ng) K:=by
 obtain ⟨v,hv,hG⟩:=bnd hF
 exact Zzm hw hv hx hy (h v (k v hG))
theorem pR (f:β→List PV) {dd:Nat} {E kk by_:Nat} {z:List PV} [Sl P T E kk by_ z] {M0 M:List β} {G:List β→Option γ} {q:List β→Prop} {t:Nat} {g:Gen} {sh:Bool} {new:List (List PV)} (hF:(ZcF by_ M0 M).bind G=some r) (k:∀ v,G v=some r→q v)
  (hw:Zp ops (mkS tm ob ng) ⟨some dd,.call ⟨.builtin .append,#[x,y],#[T,T]⟩,ty,pos,after,gd⟩=some true:=by exact rfl) (hf:∀ x,(f x).length=kk:=by exact fun _=>rfl) (hx:evL tm x = .row t g:=by exact rfl) (ho:Zb5 (ZO ob) t g=some (.row E kk sh (M0.map f)):=by exact rfl) (hy:Zlc (ZO ob) (evL tm y)=some new:=by exact rfl) (hm:new=M.map f:=by exact rfl)
  (h:∀ R,q R→GoL P ops draw (i+1) L (acc ++ [(ZN (mkS tm ob ng) ⟨some dd,.call ⟨.builtin .append,#[x,y],#[T,T]⟩,ty,pos,after,gd⟩,[t])]) (mkS ((dd,.row t (ng,i))::tm) ((t,some ((ng,i),.row E kk sh (R.map f)))::ob) ng) K:=by
 (intro v k)
 (refine Zh ?_)
 (exact k)):GoL P ops draw i (⟨some dd,.call ⟨.builtin .append,#[x,y],#[T,T]⟩,ty,pos,after,gd⟩::L) acc (mkS tm ob ng) K:=by
 obtain ⟨v,hv,hG⟩:=bnd hF
 exact ZuZ hw hv hf hx ho hy hm (h v (k v hG))
theorem sM (f:β→List PV) {E kk by_:Nat} {z:List PV} [Sl P T E kk by_ z] {lo hi:Option Operand} {M:List β} {l m:Int} {G:List β→Option γ} {q:List β→Prop} {us:List (Nat×Option (Gen×VObj))} (hF:(ZjA M l m).bind G=some r) (k:∀ v,G v=some r→q v)
  (hw:Zp ops (mkS tm ob ng) ⟨d,.slice T x lo hi none,ty,pos,after,gd⟩=some true:=by exact rfl) (hf:∀ x,(f x).length=kk:=by exact fun _=>rfl) (hx:Zlc (ZO ob) (evL tm x)=some (M.map f):=by exact rfl) (hlo:loI tm lo=some l:=by exact rfl) (hhi:hiI tm M.length hi=some m:=by exact rfl) (hus:Zva (ZO ob) (evL tm x)=us:=by exact rfl)
  (h:∀ R,q R→GoL P ops draw (i+1) L (acc ++ [(ZN (mkS tm ob ng) ⟨d,.slice T x lo hi none,ty,pos,after,gd⟩,us.map (·.1))]) (mkS (ZbZ d (.sl (R.map f)) tm) (us.reverse++ob) ng) K:=by
 (intro v k)
 (refine Zh ?_)
 (exact k)):GoL P ops draw i (⟨d,.slice T x lo hi none,ty,pos,after,gd⟩::L) acc (mkS tm ob ng) K:=by
 obtain ⟨v,hv,hG⟩:=bnd hF
 exact Zwl hw hv hf hx hlo hhi hus (h v (k v hG))
theorem lM (f:β→List PV) (M:List β) {E kk by_:Nat} {z:List PV} [Sl P T E kk by_ z] {q:Prop} (k:q)
  (hw:Zp ops (mkS tm ob ng) ⟨d,.call ⟨.builtin .len,#[x],#[T]⟩,ty,pos,after,gd⟩=some true:=by exact rfl) (hx:Zlc (ZO ob) (evL tm x)=some (M.map f):=by exact rfl)
  (h:q→GoL P ops draw (i+1) L (acc ++ [(ZN (mkS tm ob ng) ⟨d,.call ⟨.builtin .len,#[x],#[T]⟩,ty,pos,after,gd⟩,[])]) (mkS (ZbZ d (.int .i64 (M.length:Int)) tm) ob ng) K:=by
 (intro k)
 (refine Zh ?_)
 (exact k)):GoL P ops draw i (⟨d,.call ⟨.builtin .len,#[x],#[T]⟩,ty,pos,after,gd⟩::L) acc (mkS tm ob ng) K:=Zsb hw hx (h k)
theorem bM (f:β→List PV) (M:List β) {dd:Nat} {E kk by_:Nat} {z:List PV} [Sl P T E kk by_ z] {n:Nat} {parts:Array (Nat×Operand)} {q:Prop} {cs qs:List PV} {us:List (Nat×Option (Gen×VObj))} (k:q)
  (hw:Zp ops (mkS tm ob ng) ⟨some dd,.buildSlice T n parts,ty,pos,after,gd⟩=some true:=by exact rfl) (hf:Zgx (fun i=>some (i * kk,kk)) (List.replicate n z).flatten (evs tm parts.toList)=some cs:=by exact rfl) (hr:ZfZ (ZO ob) cs=some (qs,us):=by exact rfl) (hl:qs.length=n * kk:=by exact rfl) (hm:n * kk≤16777216:=by exact (Nat.le_of_ble_eq_true rfl)) (hc:chunks kk n qs=M.map f:=by exact rfl)
  (h:q→GoL P ops draw (i+1) L (acc ++ [(ZN (mkS tm ob ng) ⟨some dd,.buildSlice T n parts,ty,pos,after,gd⟩,us.map (·.1) ++ [dd])]) (mkS ((dd,.row dd (ng,i))::tm) ((dd,some ((ng,i),.row E kk false (M.map f)))::(us.reverse++ob)) ng) K:=by
 (intro k)
 (refine Zh ?_)
 (exact k)):GoL P ops draw i (⟨some dd,.buildSlice T n parts,ty,pos,after,gd⟩::L) acc (mkS tm ob ng) K:=ZZ M hw hf hr hl hm hc (h k)
end
end VL
end Go.Proofs.YtjoneoobolnnbaaGreatDoor
set_option linter.unusedVariables false
set_option maxHeartbeats 4000000
set_option maxRecDepth 100000
namespace Go.Proofs.YtjoneoobolnnbaaGreatDoor
open VL
def Za2 (p0:Int):Option Bool:=
 (some (!decide (p0=p0)):Option Bool)
theorem ZhU (p0:Int) (r:Bool) (h:Za2 p0=some r):Zd Tryz.prog 127 [.int .i64 p0] (.bool r):=by
 refine cF (fun r=>.bool r) h mix Tryz.func127 fun r h=>?_
 unfold Za2 at h
 refine Zh ?_
 refine rg ?_
 refine rg ?_
 cases h
 exact rQ
def Zav (p0:Int) (p1:Int):Option Int:=
 (Za2 p0).bind fun r1=>
 (Za2 p1).bind fun r2=>
 if r1 then
  if r2 then
   (some 0:Option Int)
  else
  (some (-1):Option Int)
 else
 if r2 then
  (some 1:Option Int)
 else
 if (decide (p0<p1)) then
  (some (-1):Option Int)
 else
 if (decide (p1<p0)) then
  (some 1:Option Int)
 else
 (some 0:Option Int)
theorem Zek (p0:Int) (p1:Int) (r:Int) (h:Zav p0 p1=some r):Zd Tryz.prog 77 [.int .i64 p0,.int .i64 p1] (.int .i64 r):=by
 refine cF (fun r=>.int .i64 r) h mix Tryz.func77 fun r h=>?_
 unfold Zav at h
 refine Zh ?_
 refine rg ?_
 refine rg ?_
 refine aC h (ZhU _) fun r1 h=>?_
 refine rg ?_
 refine aC h (ZhU _) fun r2 h=>?_
 refine rg ?_
 refine cS h rfl (fun h=>?_) fun h=>?_
 ·refine rg ?_
  refine cS h rfl (fun h=>?_) fun h=>?_
  ·refine rg ?_
   cases h
   exact rQ
  refine rg ?_
  cases h
  exact rQ
 refine rg ?_
 refine cS h rfl (fun h=>?_) fun h=>?_
 ·refine rg ?_
  cases h
  exact rQ
 refine rg ?_
 refine cS h rfl (fun h=>?_) fun h=>?_
 ·refine rg ?_
  cases h
  exact rQ
 refine rg ?_
 refine cS h rfl (fun h=>?_) fun h=>?_
 ·refine rg ?_
  cases h
  exact rQ
 refine rg ?_
 cases h
 exact rQ
def Zct (p0:List Int):Option Int:=
 ZE Zaj (fun f2 (x10:Int)=>
  if (decide (x10<(p0.length:Int))) then
   (atI p0 x10).bind fun e14=>
   if (!decide (e14=0)) then
    (some e14:Option Int)
   else
   f2 (w64 (x10+1))
  else
  (some 0:Option Int)) 0
theorem Zk8 (p0:List Int) (r:Int) (h:Zct p0=some r):Zd Tryz.prog 76 [.sl (List.map csI p0)] (.int .i64 r):=by
 refine cF (fun r=>.int .i64 r) h mix Tryz.func76 fun r h=>?_
 unfold Zct at h
 refine Zh ?_
 refine rg ?_
 refine rg ?_
 refine rg ?_
 refine lM csI p0 ?_
 refine bl ?_
 refine Zn h fun f2 mf2 hf2 h=>?_
 refine Zk (α:=Nat×Int) (fun a _=>mkS [(3,.int .i64 0),(6,.sl (List.map csI p0)),(7,.int .i64 (p0.length:Int)),(8,.int .i64 a.2)] [] 2) (fun a=>ZE a.1 f2 a.2=some r) (fun a=>a.1) (mf2,0) 2 h (sR []) (fun a _ h=>?_)
 obtain ⟨mf2,x10⟩:=a
 obtain ⟨mf2,rfl,h⟩:=Zo hf2 h
 dsimp only at h ⊢
 refine Zh ?_
 refine rg ?_
 refine cS h rfl (fun h=>?_) fun h=>?_
 ·refine bl ?_
  refine rg ?_
  refine aI csI h fun e14 h=>?_
  refine rg ?_
  refine cS h rfl (fun h=>?_) fun h=>?_
  ·refine rg ?_
   cases h
   exact rQ
  refine rg ?_
  exact rn (mf2,(w64 (x10+1))) h (sR [])
 refine rg ?_
 cases h
 exact rQ
def Zac (p0:Title) (p1:Title):Option Int:=
 (Zav p0.space p1.space).bind fun r1=>
 (strings_Compare p0.name p1.name).bind fun r2=>
 (Zct [r1,r2]).bind fun r3=>
 (some r3:Option Int)
theorem ZhV (p0:Title) (p1:Title) (r:Int) (h:Zac p0 p1=some r):Zd Tryz.prog 78 [p0.pv,p1.pv] (.int .i64 r):=by
 refine cF (fun r=>.int .i64 r) h mix Tryz.func78 fun r h=>?_
 unfold Zac at h
 refine Zh ?_
 refine rg ?_
 refine rg ?_
 refine aC h (Zek _ _) fun r1 h=>?_
 refine aC h (ZkL _ _) fun r2 h=>?_
 refine bM csI ([r1,r2]:List Int) ?_
 refine aL h (Zk8 _) fun r3 h=>?_
 cases h
 exact rQ
def ZS (p0:Num) (p1:Num):Option Int:=
 (Zav p0.seq p1.seq).bind fun r1=>
 (Zac p0.item.title p1.item.title).bind fun r2=>
 (Zav p0.item.number p1.item.number).bind fun r3=>
 (Zct [r1,r2,r3]).bind fun r4=>
 (some r4:Option Int)
theorem Zev (p0:Num) (p1:Num) (r:Int) (h:ZS p0 p1=some r):Zd Tryz.prog 75 [p0.pv,p1.pv] (.int .i64 r):=by
 refine cF (fun r=>.int .i64 r) h mix Tryz.func75 fun r h=>?_
 unfold ZS at h
 refine Zh ?_
 refine rg ?_
 refine rg ?_
 refine aC h (Zek _ _) fun r1 h=>?_
 refine aC h (ZhV _ _) fun r2 h=>?_
 refine aC h (Zek _ _) fun r3 h=>?_
 refine bM csI ([r1,r2,r3]:List Int) ?_
 refine aL h (Zk8 _) fun r4 h=>?_
 cases h
 exact rQ
end Go.Proofs.YtjoneoobolnnbaaGreatDoor
