/- DERIVED: THE SHELF's CONTRACTS AT THIS DUMP, IN PLAIN WORDS (tools/lay-plain.mjs out of 'TryzShelf.lean', which tools/lay-shelf.mjs wrote): THE SAME DECLARATIONS UNDER THE SAME NAMES: 'import', .. | Comparisons of numbers, strings, titles and keys, in the program and in the reference: what each call returns. | The reference's comparison of titles, and both comparisons of keys. | Titles: the letters A to Z as lower-case letters. | Titles: the words ahead of a colon that name a namespace. | Titles: which bytes names may have; which titles are valid. | The reference's small functions on titles: an index, letters without their case, the words ahead of a colon. | Names of users and groups. -/
import Derived.Shelf.SlicesQ.Reverse
import Derived.Ground.SlgnProg
import Derived.Shelf.Strings.Builder1
import Derived.Shelf.Strings.Builder2
import Derived.Shelf.Strings.OnBuilder
import Derived.Shelf.Strings.Trim
import Derived.Shelf.Small.Utf8
import Derived.Shelf.Small.Bits
import Derived.Shelf.Small.Strs
import Derived.Shelf.Small.Wraps
import Derived.Shelf.Strconv.Itoa0
import Derived.Shelf.Strings.Search1
import Derived.Shelf.Strings.Search2
import Derived.Shelf.Strings.Search3
import Derived.Shelf.Strings.Cut
import Derived.Shelf.Strings.Count
import Derived.Shelf.LaysM
import Derived.Shelf.Strings.Shaped
import Derived.Shelf.Sort.Plain
import Derived.Shelf.Strings.Prefix
import Derived.Shelf.Strings.Split
import Derived.Shelf.Strings.Replace
import Derived.Shelf.Strings.SplitShaped
import Derived.Shelf.Strings.Runes
import Derived.Shelf.Strings.IndexAny
import Derived.Shelf.Strings.AsciiSet
import Derived.Shelf.Strings.IndexAnyAll
import Derived.Shelf.Unicode.DecodeSlow
import Derived.Shelf.Unicode.DecodeAny
import Derived.Shelf.Unicode.DecodeLast
import Derived.Shelf.Strings.FieldsFuncAny
import Derived.Shelf.Strings.FieldsFuncGrows
import Derived.Shelf.Slices.Turned
import Derived.Test.YtphibahplgmgfaaGreatDoorProg
import Derived.Test.YtphibahplgmgfaaGreatDoorRows
import Derived.Test.YtphibahplgmgfaaGreatDoorPB01
import Derived.Laws.IdiomStrings
import Derived.Test.YtphibahplgmgfaaGreatDoorPB02
import Derived.Lib.IndexEntry
namespace Go.Proofs
open Go.Shelf
def Tryz.lays156_ren:Go.Shelf.Ren:=⟨fun | 156=>244 | 165=>247 | 166=>248 | 169=>249 | 240=>250 | 241=>251 | 276=>252 | 277=>253 | n=>n,fun | 31=>34 | 9=>9 | 3=>3 | 4=>4 | 0=>0 | 20=>20 | 72=>266 | 76=>270 | 70=>264 | 37=>235 | 75=>269 | 127=>273 | 164=>274 | 5=>5 | 80=>272 | n=>n,fun | n=>n⟩
theorem Tryz.lays156:Go.Proofs.Lays.n156 Tryz.prog Tryz.lays156_ren:={
 mixed:=by kernel_rfl
 f156:=Tryz.func244.trans (congrArg some (by kernel_rfl))
 f165:=Tryz.func247.trans (congrArg some (by kernel_rfl))
 f166:=Tryz.func248.trans (congrArg some (by kernel_rfl))
 f169:=Tryz.func249.trans (congrArg some (by kernel_rfl))
 f240:=Tryz.func250.trans (congrArg some (by kernel_rfl))
 f241:=Tryz.func251.trans (congrArg some (by kernel_rfl))
 f276:=Tryz.func252.trans (congrArg some (by kernel_rfl))
 f277:=Tryz.func253.trans (congrArg some (by kernel_rfl))
 t0:=Tryz.underlying0
 a0:=Tryz.isAgg0
 z0:=Tryz.sizeOf0
 v0:=Tryz.zeroValue0
 t3:=Tryz.underlying3
 a3:=Tryz.isAgg3
 z3:=Tryz.sizeOf3
 v3:=Tryz.zeroValue3
 t4:=Tryz.underlying4
 a4:=Tryz.isAgg4
 z4:=Tryz.sizeOf4
 v4:=Tryz.zeroValue4
 t9:=Tryz.underlying9
 a9:=Tryz.isAgg9
 z9:=Tryz.sizeOf9
 v9:=Tryz.zeroValue9
 t20:=Tryz.underlying20
 a20:=Tryz.isAgg20
 z20:=Tryz.sizeOf20
 v20:=Tryz.zeroValue20
 t31:=Tryz.underlying34
 a31:=Tryz.isAgg34
 z31:=Tryz.sizeOf34
 v31:=Tryz.zeroValue34
 t37:=Tryz.underlying235
 a37:=Tryz.isAgg235
 z37:=Tryz.sizeOf235
 v37:=Tryz.zeroValue235
 t70:=Tryz.underlying264
 a70:=Tryz.isAgg264
 z70:=Tryz.sizeOf264
 v70:=Tryz.zeroValue264
 t72:=Tryz.underlying266
 a72:=Tryz.isAgg266
 z72:=Tryz.sizeOf266
 v72:=Tryz.zeroValue266
 t75:=Tryz.underlying269
 a75:=Tryz.isAgg269
 z75:=Tryz.sizeOf269
 v75:=Tryz.zeroValue269
 t76:=Tryz.underlying270
 a76:=Tryz.isAgg270
 z76:=Tryz.sizeOf270
 v76:=Tryz.zeroValue270
 t127:=Tryz.underlying273
 a127:=Tryz.isAgg273
 z127:=Tryz.sizeOf273
 v127:=Tryz.zeroValue273
 t164:=Tryz.underlying274
 a164:=Tryz.isAgg274
 z164:=Tryz.sizeOf274
 v164:=Tryz.zeroValue274 }
theorem Tryz.Builder_Extra_156:Builder.Extra Tryz.prog Tryz.lays156_ren:={
 sizeBuilder:=by kernel_rfl
 liesBuilder:=by kernel_rfl
 t5:=Tryz.underlying5
 a5:=Tryz.isAgg5
 z5:=Tryz.sizeOf5
 v5:=Tryz.zeroValue5
 infoByte:=by kernel_rfl
 cellsByte:=by kernel_rfl
 sizeByte:=by kernel_rfl
 neB5:=by decide }
open Go.RowKit in
theorem Tryz.strings_Join (bk o c:Nat) (xs:List ByteArray) (sep:ByteArray) (w:World) (hcells:∀ (j:Nat) x,xs[j]? = some x→w.cell? ⟨bk,o+j,none⟩=some (.string x)) (hbk:bk<w.heap.size) (hN:xs.length≤140737488355328) (hcap:xs.length≤c) (hlen:(Lib.join (xs.map (·.data.toList)) sep.data.toList).length≤140737488355328) :
  Calls Tryz.prog 244 #[.slice (some ⟨bk,o,none⟩) xs.length c,.string sep] w fun e w'=>e = .returned (.string ⟨(Lib.join (xs.map (·.data.toList)) sep.data.toList).toArray⟩)∧Below w.heap.size w w':=Any.strings_Join Tryz.lays156 Tryz.Builder_Extra_156 bk o c xs sep w hcells hbk hN hcap hlen
def Tryz.lays137_ren:Go.Shelf.Ren:=⟨fun | 137=>171 | 217=>202 | 266=>230 | n=>n,fun | 9=>9 | 5=>5 | 3=>3 | n=>n,fun | n=>n⟩
theorem Tryz.lays137:Go.Proofs.Lays.n137 Tryz.prog Tryz.lays137_ren:={
 mixed:=by kernel_rfl
 f137:=Tryz.func171.trans (congrArg some (by kernel_rfl))
 f217:=Tryz.func202.trans (congrArg some (by kernel_rfl))
 f266:=Tryz.func230.trans (congrArg some (by kernel_rfl))
 t3:=Tryz.underlying3
 a3:=Tryz.isAgg3
 z3:=Tryz.sizeOf3
 v3:=Tryz.zeroValue3
 t5:=Tryz.underlying5
 a5:=Tryz.isAgg5
 z5:=Tryz.sizeOf5
 v5:=Tryz.zeroValue5
 t9:=Tryz.underlying9
 a9:=Tryz.isAgg9
 z9:=Tryz.sizeOf9
 v9:=Tryz.zeroValue9 }
open Go.RowKit in
theorem Tryz.strings_IndexByte (s:ByteArray) (c:Int) (w:World) :
  Calls Tryz.prog 171 #[.string s,.int .u8 c] w fun e w'=>e = .returned (.int .i64 (Lib.indexByte s.data.toList c.toNat.toUInt8))∧w'=w:=Any.strings_IndexByte Tryz.lays137 s c w
def Tryz.lays210_ren:Go.Shelf.Ren:=⟨fun | 210=>227 | 206=>240 | n=>n,fun | 9=>9 | 4=>4 | 3=>3 | n=>n,fun | n=>n⟩
def Tryz.lays219_ren:Go.Shelf.Ren:=⟨fun | 219=>210 | 217=>202 | 225=>233 | 224=>234 | 267=>235 | 266=>230 | 314=>245 | n=>n,fun | 9=>9 | 3=>3 | 4=>4 | 5=>5 | 46=>129 | 146=>262 | 51=>210 | n=>n,fun | 1=>1 | n=>n⟩
def Tryz.lays145_ren:Go.Shelf.Ren:=⟨fun | 145=>172 | 220=>203 | 219=>210 | 217=>202 | 225=>233 | 224=>234 | 267=>235 | 266=>230 | 314=>245 | n=>n,fun | 9=>9 | 4=>4 | 59=>213 | 3=>3 | 5=>5 | 46=>129 | 146=>262 | 51=>210 | n=>n,fun | 1=>1 | n=>n⟩
theorem Tryz.lays145:Go.Proofs.Lays.n145 Tryz.prog Tryz.lays145_ren:={
 mixed:=by kernel_rfl
 f145:=Tryz.func172.trans (congrArg some (by kernel_rfl))
 f217:=Tryz.func202.trans (congrArg some (by kernel_rfl))
 f219:=Tryz.func210.trans (congrArg some (by kernel_rfl))
 f220:=Tryz.func203.trans (congrArg some (by kernel_rfl))
 f224:=Tryz.func234.trans (congrArg some (by kernel_rfl))
 f225:=Tryz.func233.trans (congrArg some (by kernel_rfl))
 f266:=Tryz.func230.trans (congrArg some (by kernel_rfl))
 f267:=Tryz.func235.trans (congrArg some (by kernel_rfl))
 f314:=Tryz.func245.trans (congrArg some (by kernel_rfl))
 t3:=Tryz.underlying3
 a3:=Tryz.isAgg3
 z3:=Tryz.sizeOf3
 v3:=Tryz.zeroValue3
 t4:=Tryz.underlying4
 a4:=Tryz.isAgg4
 z4:=Tryz.sizeOf4
 v4:=Tryz.zeroValue4
 t5:=Tryz.underlying5
 a5:=Tryz.isAgg5
 z5:=Tryz.sizeOf5
 v5:=Tryz.zeroValue5
 t9:=Tryz.underlying9
 a9:=Tryz.isAgg9
 z9:=Tryz.sizeOf9
 v9:=Tryz.zeroValue9
 t46:=Tryz.underlying129
 a46:=Tryz.isAgg129
 z46:=Tryz.sizeOf129
 v46:=Tryz.zeroValue129
 t51:=Tryz.underlying210
 a51:=Tryz.isAgg210
 z51:=Tryz.sizeOf210
 v51:=Tryz.zeroValue210
 t59:=Tryz.underlying213
 a59:=Tryz.isAgg213
 z59:=Tryz.sizeOf213
 v59:=Tryz.zeroValue213
 t146:=Tryz.underlying262
 a146:=Tryz.isAgg262
 z146:=Tryz.sizeOf262
 v146:=Tryz.zeroValue262
 g1:=by kernel_rfl }
open Go.RowKit Go.Lib in
theorem Tryz.strings_Cut (s sep:ByteArray) (m:Int) (w:World) (hs:s.size<4294967281) (hm:w.cell? ⟨1,0,none⟩=some (.int .i64 m)) :
  Calls Tryz.prog 172 #[.string s,.string sep] w fun e w'=>e = .returned (.tuple #[.string ⟨(Lib.cut s.data.toList sep.data.toList).1.toArray⟩,.string ⟨(Lib.cut s.data.toList sep.data.toList).2.1.toArray⟩,.bool (Lib.cut s.data.toList sep.data.toList).2.2])∧∃ n,w'=w.drewN n:=Any.strings_Cut Tryz.lays145 s sep m w hs hm
def Tryz.lays138_ren:Go.Shelf.Ren:=⟨fun | 138=>181 | 195=>207 | 218=>209 | 143=>182 | 219=>210 | 217=>202 | 225=>233 | 224=>234 | 267=>235 | 266=>230 | 314=>245 | n=>n,fun | 9=>9 | 3=>3 | 4=>4 | 5=>5 | 0=>0 | 46=>129 | 146=>262 | 51=>210 | n=>n,fun | 1=>1 | n=>n⟩
theorem Tryz.lays138:Go.Proofs.Lays.n138 Tryz.prog Tryz.lays138_ren:={
 mixed:=by kernel_rfl
 f138:=Tryz.func181.trans (congrArg some (by kernel_rfl))
 f143:=Tryz.func182.trans (congrArg some (by kernel_rfl))
 f195:=Tryz.func207.trans (congrArg some (by kernel_rfl))
 f217:=Tryz.func202.trans (congrArg some (by kernel_rfl))
 f218:=Tryz.func209.trans (congrArg some (by kernel_rfl))
 f219:=Tryz.func210.trans (congrArg some (by kernel_rfl))
 f224:=Tryz.func234.trans (congrArg some (by kernel_rfl))
 f225:=Tryz.func233.trans (congrArg some (by kernel_rfl))
 f266:=Tryz.func230.trans (congrArg some (by kernel_rfl))
 f267:=Tryz.func235.trans (congrArg some (by kernel_rfl))
 f314:=Tryz.func245.trans (congrArg some (by kernel_rfl))
 t0:=Tryz.underlying0
 a0:=Tryz.isAgg0
 z0:=Tryz.sizeOf0
 v0:=Tryz.zeroValue0
 t3:=Tryz.underlying3
 a3:=Tryz.isAgg3
 z3:=Tryz.sizeOf3
 v3:=Tryz.zeroValue3
 t4:=Tryz.underlying4
 a4:=Tryz.isAgg4
 z4:=Tryz.sizeOf4
 v4:=Tryz.zeroValue4
 t5:=Tryz.underlying5
 a5:=Tryz.isAgg5
 z5:=Tryz.sizeOf5
 v5:=Tryz.zeroValue5
 t9:=Tryz.underlying9
 a9:=Tryz.isAgg9
 z9:=Tryz.sizeOf9
 v9:=Tryz.zeroValue9
 t46:=Tryz.underlying129
 a46:=Tryz.isAgg129
 z46:=Tryz.sizeOf129
 v46:=Tryz.zeroValue129
 t51:=Tryz.underlying210
 a51:=Tryz.isAgg210
 z51:=Tryz.sizeOf210
 v51:=Tryz.zeroValue210
 t146:=Tryz.underlying262
 a146:=Tryz.isAgg262
 z146:=Tryz.sizeOf262
 v146:=Tryz.zeroValue262
 g1:=by kernel_rfl }
open Go.RowKit Go.Lib in
theorem Tryz.strings_Count_one (s:ByteArray) (c:UInt8) (w:World) :
  Calls Tryz.prog 181 #[.string s,.string ⟨#[c]⟩] w fun e w'=>e = .returned (.int .i64 (Lib.countByte s.data.toList c))∧w'=w:=Any.strings_Count_one Tryz.lays138 s c w
def Tryz.lays190_ren:Go.Shelf.Ren:=⟨fun | 190=>85 | 125=>127 | 258=>126 | 128=>169 | 129=>170 | 302=>160 | 303=>161 | 304=>162 | 305=>163 | 306=>164 | 307=>165 | 308=>166 | 309=>167 | 310=>168 | 333=>196 | 329=>197 | 330=>198 | 334=>199 | 335=>200 | 336=>201 | 344=>229 | n=>n,fun | 31=>34 | 9=>9 | 3=>3 | 46=>129 | 0=>0 | 51=>210 | 53=>126 | 4=>4 | 183=>203 | 182=>202 | 131=>207 | 5=>5 | 218=>229 | 222=>233 | 228=>253 | 229=>150 | n=>n,fun | n=>n⟩
theorem Tryz.lays190:Go.Proofs.Lays.n190 Tryz.prog Tryz.lays190_ren:={
 mixed:=by kernel_rfl
 f125:=Tryz.func127.trans (congrArg some (by kernel_rfl))
 f128:=Tryz.func169.trans (congrArg some (by kernel_rfl))
 f129:=Tryz.func170.trans (congrArg some (by kernel_rfl))
 f190:=Tryz.func85.trans (congrArg some (by kernel_rfl))
 f258:=Tryz.func126.trans (congrArg some (by kernel_rfl))
 f302:=Tryz.func160.trans (congrArg some (by kernel_rfl))
 f303:=Tryz.func161.trans (congrArg some (by kernel_rfl))
 f304:=Tryz.func162.trans (congrArg some (by kernel_rfl))
 f305:=Tryz.func163.trans (congrArg some (by kernel_rfl))
 f306:=Tryz.func164.trans (congrArg some (by kernel_rfl))
 f307:=Tryz.func165.trans (congrArg some (by kernel_rfl))
 f308:=Tryz.func166.trans (congrArg some (by kernel_rfl))
 f309:=Tryz.func167.trans (congrArg some (by kernel_rfl))
 f310:=Tryz.func168.trans (congrArg some (by kernel_rfl))
 f329:=Tryz.func197.trans (congrArg some (by kernel_rfl))
 f330:=Tryz.func198.trans (congrArg some (by kernel_rfl))
 f333:=Tryz.func196.trans (congrArg some (by kernel_rfl))
 f334:=Tryz.func199.trans (congrArg some (by kernel_rfl))
 f335:=Tryz.func200.trans (congrArg some (by kernel_rfl))
 f336:=Tryz.func201.trans (congrArg some (by kernel_rfl))
 f344:=Tryz.func229.trans (congrArg some (by kernel_rfl))
 t0:=Tryz.underlying0
 a0:=Tryz.isAgg0
 z0:=Tryz.sizeOf0
 v0:=Tryz.zeroValue0
 t3:=Tryz.underlying3
 a3:=Tryz.isAgg3
 z3:=Tryz.sizeOf3
 v3:=Tryz.zeroValue3
 t4:=Tryz.underlying4
 a4:=Tryz.isAgg4
 z4:=Tryz.sizeOf4
 v4:=Tryz.zeroValue4
 t5:=Tryz.underlying5
 a5:=Tryz.isAgg5
 z5:=Tryz.sizeOf5
 v5:=Tryz.zeroValue5
 t9:=Tryz.underlying9
 a9:=Tryz.isAgg9
 z9:=Tryz.sizeOf9
 v9:=Tryz.zeroValue9
 t31:=Tryz.underlying34
 a31:=Tryz.isAgg34
 z31:=Tryz.sizeOf34
 v31:=Tryz.zeroValue34
 t46:=Tryz.underlying129
 a46:=Tryz.isAgg129
 z46:=Tryz.sizeOf129
 v46:=Tryz.zeroValue129
 t51:=Tryz.underlying210
 a51:=Tryz.isAgg210
 z51:=Tryz.sizeOf210
 v51:=Tryz.zeroValue210
 t53:=Tryz.underlying126
 a53:=Tryz.isAgg126
 z53:=Tryz.sizeOf126
 v53:=Tryz.zeroValue126
 t131:=Tryz.underlying207
 a131:=Tryz.isAgg207
 z131:=Tryz.sizeOf207
 v131:=Tryz.zeroValue207
 t182:=Tryz.underlying202
 a182:=Tryz.isAgg202
 z182:=Tryz.sizeOf202
 v182:=Tryz.zeroValue202
 t183:=Tryz.underlying203
 a183:=Tryz.isAgg203
 z183:=Tryz.sizeOf203
 v183:=Tryz.zeroValue203
 t218:=Tryz.underlying229
 a218:=Tryz.isAgg229
 z218:=Tryz.sizeOf229
 v218:=Tryz.zeroValue229
 t222:=Tryz.underlying233
 a222:=Tryz.isAgg233
 z222:=Tryz.sizeOf233
 v222:=Tryz.zeroValue233
 t228:=Tryz.underlying253
 a228:=Tryz.isAgg253
 z228:=Tryz.sizeOf253
 v228:=Tryz.zeroValue253
 t229:=Tryz.underlying150
 a229:=Tryz.isAgg150
 z229:=Tryz.sizeOf150
 v229:=Tryz.zeroValue150 }
open Go.Sort Go.RowKit in
theorem Tryz.slices_Sort_string (blk off cap:Nat) (ss:List (List UInt8)) (w:World) (hH:Holds encStr w blk off ss.toArray) (hblk:blk<w.heap.size) (hsz:ss.length<4611686018427387904) :
  Calls Tryz.prog 85 #[.slice (some ⟨blk,off,none⟩) ss.length cap] w fun e w'=>
   e = .returned (.tuple #[])∧∃ n os,w'=grow (putRow encStr (Sort.ahead w n) blk off (ss.mergeSort fun x y=>decide (x≤y)).toArray) os:=Any.slices_Sort_string Tryz.lays190 blk off cap ss w hH hblk hsz
def Tryz.lays102_ren:Go.Shelf.Ren:=⟨fun | 102=>174 | 209=>204 | 207=>231 | n=>n,fun | 9=>9 | 4=>4 | 3=>3 | n=>n,fun | n=>n⟩
theorem Tryz.lays102:Go.Proofs.Lays.n102 Tryz.prog Tryz.lays102_ren:={
 mixed:=by kernel_rfl
 f102:=Tryz.func174.trans (congrArg some (by kernel_rfl))
 f207:=Tryz.func231.trans (congrArg some (by kernel_rfl))
 f209:=Tryz.func204.trans (congrArg some (by kernel_rfl))
 t3:=Tryz.underlying3
 a3:=Tryz.isAgg3
 z3:=Tryz.sizeOf3
 v3:=Tryz.zeroValue3
 t4:=Tryz.underlying4
 a4:=Tryz.isAgg4
 z4:=Tryz.sizeOf4
 v4:=Tryz.zeroValue4
 t9:=Tryz.underlying9
 a9:=Tryz.isAgg9
 z9:=Tryz.sizeOf9
 v9:=Tryz.zeroValue9 }
open Go.RowKit Go.Lib in
theorem Tryz.strings_TrimSuffix (s p:ByteArray) (w:World) (hs:s.size≤9223372036854775807) :
  Calls Tryz.prog 174 #[.string s,.string p] w fun e w'=>e = .returned (.string ⟨(Lib.trimSuffix s.data.toList p.data.toList).toArray⟩)∧w'=w:=Any.strings_TrimSuffix Tryz.lays102 s p w hs
def Tryz.lays221_ren:Go.Shelf.Ren:=⟨fun | 221=>152 | 268=>180 | 138=>181 | 143=>182 | 195=>207 | 197=>208 | 218=>209 | 219=>210 | 260=>232 | 217=>202 | 225=>233 | 224=>234 | 267=>235 | 266=>230 | 314=>245 | n=>n,fun | 9=>9 | 3=>3 | 31=>34 | 4=>4 | 0=>0 | 105=>236 | 21=>21 | 5=>5 | 46=>129 | 119=>258 | 139=>261 | 138=>260 | 146=>262 | 51=>210 | n=>n,fun | 1=>1 | 3=>2 | 4=>3 | n=>n⟩
def Tryz.lays146_ren:Go.Shelf.Ren:=⟨fun | 146=>121 | 221=>152 | 268=>180 | 138=>181 | 143=>182 | 195=>207 | 197=>208 | 218=>209 | 219=>210 | 260=>232 | 217=>202 | 225=>233 | 224=>234 | 267=>235 | 266=>230 | 314=>245 | n=>n,fun | 9=>9 | 31=>34 | 3=>3 | 4=>4 | 0=>0 | 105=>236 | 21=>21 | 5=>5 | 46=>129 | 119=>258 | 139=>261 | 138=>260 | 146=>262 | 51=>210 | n=>n,fun | 1=>1 | 3=>2 | 4=>3 | n=>n⟩
theorem Tryz.lays146:Go.Proofs.Lays.n146 Tryz.prog Tryz.lays146_ren:={
 mixed:=by kernel_rfl
 f138:=Tryz.func181.trans (congrArg some (by kernel_rfl))
 f143:=Tryz.func182.trans (congrArg some (by kernel_rfl))
 f146:=Tryz.func121.trans (congrArg some (by kernel_rfl))
 f195:=Tryz.func207.trans (congrArg some (by kernel_rfl))
 f197:=Tryz.func208.trans (congrArg some (by kernel_rfl))
 f217:=Tryz.func202.trans (congrArg some (by kernel_rfl))
 f218:=Tryz.func209.trans (congrArg some (by kernel_rfl))
 f219:=Tryz.func210.trans (congrArg some (by kernel_rfl))
 f221:=Tryz.func152.trans (congrArg some (by kernel_rfl))
 f224:=Tryz.func234.trans (congrArg some (by kernel_rfl))
 f225:=Tryz.func233.trans (congrArg some (by kernel_rfl))
 f260:=Tryz.func232.trans (congrArg some (by kernel_rfl))
 f266:=Tryz.func230.trans (congrArg some (by kernel_rfl))
 f267:=Tryz.func235.trans (congrArg some (by kernel_rfl))
 f268:=Tryz.func180.trans (congrArg some (by kernel_rfl))
 f314:=Tryz.func245.trans (congrArg some (by kernel_rfl))
 t0:=Tryz.underlying0
 a0:=Tryz.isAgg0
 z0:=Tryz.sizeOf0
 v0:=Tryz.zeroValue0
 t3:=Tryz.underlying3
 a3:=Tryz.isAgg3
 z3:=Tryz.sizeOf3
 v3:=Tryz.zeroValue3
 t4:=Tryz.underlying4
 a4:=Tryz.isAgg4
 z4:=Tryz.sizeOf4
 v4:=Tryz.zeroValue4
 t5:=Tryz.underlying5
 a5:=Tryz.isAgg5
 z5:=Tryz.sizeOf5
 v5:=Tryz.zeroValue5
 t9:=Tryz.underlying9
 a9:=Tryz.isAgg9
 z9:=Tryz.sizeOf9
 v9:=Tryz.zeroValue9
 t21:=Tryz.underlying21
 a21:=Tryz.isAgg21
 z21:=Tryz.sizeOf21
 v21:=Tryz.zeroValue21
 t31:=Tryz.underlying34
 a31:=Tryz.isAgg34
 z31:=Tryz.sizeOf34
 v31:=Tryz.zeroValue34
 t46:=Tryz.underlying129
 a46:=Tryz.isAgg129
 z46:=Tryz.sizeOf129
 v46:=Tryz.zeroValue129
 t51:=Tryz.underlying210
 a51:=Tryz.isAgg210
 z51:=Tryz.sizeOf210
 v51:=Tryz.zeroValue210
 t105:=Tryz.underlying236
 a105:=Tryz.isAgg236
 z105:=Tryz.sizeOf236
 v105:=Tryz.zeroValue236
 t119:=Tryz.underlying258
 a119:=Tryz.isAgg258
 z119:=Tryz.sizeOf258
 t138:=Tryz.underlying260
 a138:=Tryz.isAgg260
 z138:=Tryz.sizeOf260
 v138:=Tryz.zeroValue260
 t139:=Tryz.underlying261
 a139:=Tryz.isAgg261
 z139:=Tryz.sizeOf261
 v139:=Tryz.zeroValue261
 t146:=Tryz.underlying262
 a146:=Tryz.isAgg262
 z146:=Tryz.sizeOf262
 v146:=Tryz.zeroValue262
 g1:=by kernel_rfl
 g3:=by kernel_rfl
 g4:=by kernel_rfl }
open Go.RowKit Go.Lib in
theorem Tryz.strings_Split (s sep:ByteArray) (m:Int) (w:World) (hs:s.size<4294967281) (hm:w.cell? ⟨1,0,none⟩=some (.int .i64 m)) (h1:1≤sep.size) :
  Calls Tryz.prog 121 #[.string s,.string sep] w fun e w'=>
   e = .returned (.slice (some ⟨w.heap.size,0,none⟩) (Lib.countB s sep+1) (Lib.countB s sep+1))∧w'=w.alloc (.cells ((Lib.splitB sep 0 (Lib.countB s sep) s).map Value.string).toArray 9):=Any.strings_Split Tryz.lays146 (by kernel_rfl) s sep m w hs hm h1
def Tryz.lays153_ren:Go.Shelf.Ren:=⟨fun | 153=>184 | 152=>218 | 226=>219 | 227=>213 | 228=>220 | 137=>171 | 119=>238 | 224=>234 | 225=>233 | 217=>202 | 266=>230 | n=>n,fun | 9=>9 | 3=>3 | 4=>4 | 5=>5 | 21=>21 | 117=>241 | 116=>240 | 0=>0 | 46=>129 | 124=>244 | n=>n,fun | n=>n⟩
theorem Tryz.lays153:Go.Proofs.Lays.n153 Tryz.prog Tryz.lays153_ren:={
 mixed:=by kernel_rfl
 f119:=Tryz.func238.trans (congrArg some (by kernel_rfl))
 f137:=Tryz.func171.trans (congrArg some (by kernel_rfl))
 f152:=Tryz.func218.trans (congrArg some (by kernel_rfl))
 f153:=Tryz.func184.trans (congrArg some (by kernel_rfl))
 f217:=Tryz.func202.trans (congrArg some (by kernel_rfl))
 f224:=Tryz.func234.trans (congrArg some (by kernel_rfl))
 f225:=Tryz.func233.trans (congrArg some (by kernel_rfl))
 f226:=Tryz.func219.trans (congrArg some (by kernel_rfl))
 f227:=Tryz.func213.trans (congrArg some (by kernel_rfl))
 f228:=Tryz.func220.trans (congrArg some (by kernel_rfl))
 f266:=Tryz.func230.trans (congrArg some (by kernel_rfl))
 t0:=Tryz.underlying0
 a0:=Tryz.isAgg0
 z0:=Tryz.sizeOf0
 v0:=Tryz.zeroValue0
 t3:=Tryz.underlying3
 a3:=Tryz.isAgg3
 z3:=Tryz.sizeOf3
 v3:=Tryz.zeroValue3
 t4:=Tryz.underlying4
 a4:=Tryz.isAgg4
 z4:=Tryz.sizeOf4
 v4:=Tryz.zeroValue4
 t5:=Tryz.underlying5
 a5:=Tryz.isAgg5
 z5:=Tryz.sizeOf5
 v5:=Tryz.zeroValue5
 t9:=Tryz.underlying9
 a9:=Tryz.isAgg9
 z9:=Tryz.sizeOf9
 v9:=Tryz.zeroValue9
 t21:=Tryz.underlying21
 a21:=Tryz.isAgg21
 z21:=Tryz.sizeOf21
 v21:=Tryz.zeroValue21
 t46:=Tryz.underlying129
 a46:=Tryz.isAgg129
 z46:=Tryz.sizeOf129
 v46:=Tryz.zeroValue129
 t116:=Tryz.underlying240
 a116:=Tryz.isAgg240
 z116:=Tryz.sizeOf240
 t117:=Tryz.underlying241
 a117:=Tryz.isAgg241
 z117:=Tryz.sizeOf241
 v117:=Tryz.zeroValue241
 t124:=Tryz.underlying244
 a124:=Tryz.isAgg244
 z124:=Tryz.sizeOf244
 v124:=Tryz.zeroValue244 }
def Tryz.lays227_ren:Go.Shelf.Ren:=⟨fun | 227=>213 | n=>n,fun | 9=>9 | 116=>240 | 4=>4 | 0=>0 | 3=>3 | 5=>5 | n=>n,fun | n=>n⟩
theorem Tryz.lays227:Go.Proofs.Lays.n227 Tryz.prog Tryz.lays227_ren:={
 mixed:=by kernel_rfl
 f227:=Tryz.func213.trans (congrArg some (by kernel_rfl))
 t0:=Tryz.underlying0
 a0:=Tryz.isAgg0
 z0:=Tryz.sizeOf0
 v0:=Tryz.zeroValue0
 t3:=Tryz.underlying3
 a3:=Tryz.isAgg3
 z3:=Tryz.sizeOf3
 v3:=Tryz.zeroValue3
 t4:=Tryz.underlying4
 a4:=Tryz.isAgg4
 z4:=Tryz.sizeOf4
 v4:=Tryz.zeroValue4
 t5:=Tryz.underlying5
 a5:=Tryz.isAgg5
 z5:=Tryz.sizeOf5
 v5:=Tryz.zeroValue5
 t9:=Tryz.underlying9
 a9:=Tryz.isAgg9
 z9:=Tryz.sizeOf9
 v9:=Tryz.zeroValue9
 t116:=Tryz.underlying240
 a116:=Tryz.isAgg240
 z116:=Tryz.sizeOf240 }
open Go.RowKit Go.Lib in
theorem Tryz.strings_makeASCIISet (hv116:∀ w,(zeroValue 240).run Tryz.prog w = .ok (.agg (Array.replicate 256 (.bool false))) w) (chars:ByteArray) (w:World) (hs:chars.size<4294967281) (hascii:∀ (j:Nat) b,chars.data.toList[j]? = some b→b.toNat<128) :
  Calls Tryz.prog 213 #[.string chars] w fun e w'=>e = .returned (.tuple #[.agg (Lib.setCells chars.data.toList),.bool true])∧w'=w.alloc (.cells (Lib.setCells chars.data.toList) 240):=Any.strings_makeASCIISet Tryz.lays227 hv116 (by kernel_rfl) chars w hs hascii
def Tryz.lays150_ren:Go.Shelf.Ren:=⟨fun | 150=>195 | 153=>184 | 152=>218 | 226=>219 | 227=>213 | 228=>220 | 137=>171 | 119=>238 | 224=>234 | 225=>233 | 217=>202 | 266=>230 | n=>n,fun | 9=>9 | 4=>4 | 3=>3 | 5=>5 | 21=>21 | 117=>241 | 116=>240 | 0=>0 | 46=>129 | 124=>244 | n=>n,fun | n=>n⟩
theorem Tryz.lays150:Go.Proofs.Lays.n150 Tryz.prog Tryz.lays150_ren:={
 mixed:=by kernel_rfl
 f119:=Tryz.func238.trans (congrArg some (by kernel_rfl))
 f137:=Tryz.func171.trans (congrArg some (by kernel_rfl))
 f150:=Tryz.func195.trans (congrArg some (by kernel_rfl))
 f152:=Tryz.func218.trans (congrArg some (by kernel_rfl))
 f153:=Tryz.func184.trans (congrArg some (by kernel_rfl))
 f217:=Tryz.func202.trans (congrArg some (by kernel_rfl))
 f224:=Tryz.func234.trans (congrArg some (by kernel_rfl))
 f225:=Tryz.func233.trans (congrArg some (by kernel_rfl))
 f226:=Tryz.func219.trans (congrArg some (by kernel_rfl))
 f227:=Tryz.func213.trans (congrArg some (by kernel_rfl))
 f228:=Tryz.func220.trans (congrArg some (by kernel_rfl))
 f266:=Tryz.func230.trans (congrArg some (by kernel_rfl))
 t0:=Tryz.underlying0
 a0:=Tryz.isAgg0
 z0:=Tryz.sizeOf0
 v0:=Tryz.zeroValue0
 t3:=Tryz.underlying3
 a3:=Tryz.isAgg3
 z3:=Tryz.sizeOf3
 v3:=Tryz.zeroValue3
 t4:=Tryz.underlying4
 a4:=Tryz.isAgg4
 z4:=Tryz.sizeOf4
 v4:=Tryz.zeroValue4
 t5:=Tryz.underlying5
 a5:=Tryz.isAgg5
 z5:=Tryz.sizeOf5
 v5:=Tryz.zeroValue5
 t9:=Tryz.underlying9
 a9:=Tryz.isAgg9
 z9:=Tryz.sizeOf9
 v9:=Tryz.zeroValue9
 t21:=Tryz.underlying21
 a21:=Tryz.isAgg21
 z21:=Tryz.sizeOf21
 v21:=Tryz.zeroValue21
 t46:=Tryz.underlying129
 a46:=Tryz.isAgg129
 z46:=Tryz.sizeOf129
 v46:=Tryz.zeroValue129
 t116:=Tryz.underlying240
 a116:=Tryz.isAgg240
 z116:=Tryz.sizeOf240
 t117:=Tryz.underlying241
 a117:=Tryz.isAgg241
 z117:=Tryz.sizeOf241
 v117:=Tryz.zeroValue241
 t124:=Tryz.underlying244
 a124:=Tryz.isAgg244
 z124:=Tryz.sizeOf244
 v124:=Tryz.zeroValue244 }
open Go.RowKit Go.Lib in
theorem Tryz.strings_IndexAny_laid (s chars:ByteArray) (w:World) (hs:s.size<4294967281) (hcs:chars.size<4294967281) (has:∀ (j:Nat) b,s.data.toList[j]? = some b→b.toNat<128) (hac:∀ (j:Nat) b,chars.data.toList[j]? = some b→b.toNat<128) :
  Calls Tryz.prog 184 #[.string s,.string chars] w fun e w'=>e = .returned (.int .i64 (Lib.indexAny s.data.toList chars.data.toList))∧Below w.heap.size w w':=Any.strings_IndexAny_laid Tryz.lays153 (by kernel_rfl) s chars w hs hcs has hac
open Go.RowKit Go.Lib in
theorem Tryz.strings_ContainsAny_laid (s chars:ByteArray) (w:World) (hs:s.size<4294967281) (hcs:chars.size<4294967281) (has:∀ (j:Nat) b,s.data.toList[j]? = some b→b.toNat<128) (hac:∀ (j:Nat) b,chars.data.toList[j]? = some b→b.toNat<128) :
  Calls Tryz.prog 195 #[.string s,.string chars] w fun e w'=>e = .returned (.bool (Lib.containsAny s.data.toList chars.data.toList))∧Below w.heap.size w w':=Any.strings_ContainsAny_laid Tryz.lays150 (by kernel_rfl) s chars w hs hcs has hac
def Tryz.lays229_ren:Go.Shelf.Ren:=⟨fun | 229=>185 | n=>n,fun | 9=>9 | 40=>224 | 31=>34 | 152=>248 | 3=>3 | 0=>0 | 4=>4 | 21=>21 | 154=>250 | n=>n,fun | n=>n⟩
theorem Tryz.lays229:Go.Proofs.Lays.n229 Tryz.prog Tryz.lays229_ren:={
 mixed:=by kernel_rfl
 f229:=Tryz.func185.trans (congrArg some (by kernel_rfl))
 t0:=Tryz.underlying0
 a0:=Tryz.isAgg0
 z0:=Tryz.sizeOf0
 v0:=Tryz.zeroValue0
 t3:=Tryz.underlying3
 a3:=Tryz.isAgg3
 z3:=Tryz.sizeOf3
 v3:=Tryz.zeroValue3
 t4:=Tryz.underlying4
 a4:=Tryz.isAgg4
 z4:=Tryz.sizeOf4
 v4:=Tryz.zeroValue4
 t9:=Tryz.underlying9
 a9:=Tryz.isAgg9
 z9:=Tryz.sizeOf9
 v9:=Tryz.zeroValue9
 t21:=Tryz.underlying21
 a21:=Tryz.isAgg21
 z21:=Tryz.sizeOf21
 v21:=Tryz.zeroValue21
 t31:=Tryz.underlying34
 a31:=Tryz.isAgg34
 z31:=Tryz.sizeOf34
 v31:=Tryz.zeroValue34
 t40:=Tryz.underlying224
 a40:=Tryz.isAgg224
 z40:=Tryz.sizeOf224
 v40:=Tryz.zeroValue224
 t152:=Tryz.underlying248
 a152:=Tryz.isAgg248
 z152:=Tryz.sizeOf248
 v152:=Tryz.zeroValue248
 t154:=Tryz.underlying250
 a154:=Tryz.isAgg250
 z154:=Tryz.sizeOf250
 v154:=Tryz.zeroValue250 }
open Go.RowKit Go.Lib in
theorem Tryz.strings_FieldsFunc_grows (g:Nat) (lb:Array Value) (eg:∀ args w,(callFunc g args).run Tryz.prog w = .ok (.enter g args) w) (p:Nat→Bool) (s:ByteArray) (w:World) (hs:s.size≤4294967296) (hp:PredGrows Tryz.prog g lb p w) :
  Calls Tryz.prog 185 #[.string s,.func (.func g) #[] lb] w fun e w'=>∃ A,e = .returned (.slice (some ⟨A,0,none⟩) (Lib.goFieldsP p s).length (Lib.goFieldsP p s).length)∧w.heap.size≤A∧
   w'.ownsRow w.heap.size 9 1 (.slice (some ⟨A,0,none⟩) (Lib.goFieldsP p s).length (Lib.goFieldsP p s).length) (Lib.goFieldsP p s).length ((Lib.goFieldsP p s).map Value.string)∧Below w.heap.size w w':=Any.strings_FieldsFunc_grows Tryz.lays229 g lb eg p s w hs hp (by kernel_rfl) (by kernel_rfl)
def Tryz.lays110_ren:Go.Shelf.Ren:=⟨fun | 110=>82 | 109=>124 | n=>n,fun | 31=>34 | 9=>9 | 4=>4 | 3=>3 | 0=>0 | n=>n,fun | n=>n⟩
theorem Tryz.lays110:Go.Proofs.Lays.n110 Tryz.prog Tryz.lays110_ren:={
 mixed:=by kernel_rfl
 f109:=Tryz.func124.trans (congrArg some (by kernel_rfl))
 f110:=Tryz.func82.trans (congrArg some (by kernel_rfl))
 t0:=Tryz.underlying0
 a0:=Tryz.isAgg0
 z0:=Tryz.sizeOf0
 v0:=Tryz.zeroValue0
 t3:=Tryz.underlying3
 a3:=Tryz.isAgg3
 z3:=Tryz.sizeOf3
 v3:=Tryz.zeroValue3
 t4:=Tryz.underlying4
 a4:=Tryz.isAgg4
 z4:=Tryz.sizeOf4
 v4:=Tryz.zeroValue4
 t9:=Tryz.underlying9
 a9:=Tryz.isAgg9
 z9:=Tryz.sizeOf9
 v9:=Tryz.zeroValue9
 t31:=Tryz.underlying34
 a31:=Tryz.isAgg34
 z31:=Tryz.sizeOf34
 v31:=Tryz.zeroValue34 }
open Go.Lib in
theorem Tryz.slices_Contains_string (b off n c:Nat) (zs:List ByteArray) (x:ByteArray) (w:World) (hz:n≤zs.length) (hbig:n≤9223372036854775807) (hc:∀ j,j<zs.length→w.cell? ⟨b,off+j,none⟩=some (.string (zs.getD j ByteArray.empty))) :
  Calls Tryz.prog 82 #[.slice (some ⟨b,off,none⟩) n c,.string x] w fun e w'=>e = .returned (.bool (Lib.containsS (zs.take n) x))∧w'=w:=Any.slices_Contains_string Tryz.lays110 b off n c zs x w hz hbig hc
open Go.Lib in
theorem Tryz.slices_Contains_string_empty (a:Option Addr) (c:Nat) (x:ByteArray) (w:World) :
  Calls Tryz.prog 82 #[.slice a 0 c,.string x] w fun e w'=>e = .returned (.bool false)∧w'=w:=Any.slices_Contains_string_empty Tryz.lays110 a c x w
def Tryz.reverseTitle_ren:Go.Shelf.Ren:=⟨fun | 35=>131 | n=>n,fun | 22=>37 | 23=>29 | 3=>3 | 4=>4 | 0=>0 | n=>n,fun | n=>n⟩
theorem Tryz.reverseTitle:Go.Proofs.SlLaysE0.n35 Tryz.prog Tryz.reverseTitle_ren:={
 mixed:=by kernel_rfl
 f35:=⟨Tryz.f131.name,by decide,Tryz.func131.trans (congrArg some (by kernel_rfl))⟩
 t0:=Tryz.underlying0
 a0:=Tryz.isAgg0
 z0:=Tryz.sizeOf0
 v0:=Tryz.zeroValue0
 t3:=Tryz.underlying3
 a3:=Tryz.isAgg3
 z3:=Tryz.sizeOf3
 v3:=Tryz.zeroValue3
 t4:=Tryz.underlying4
 a4:=Tryz.isAgg4
 z4:=Tryz.sizeOf4
 v4:=Tryz.zeroValue4
 t22:=Tryz.underlying37
 a22:=Tryz.isAgg37
 z22:=Tryz.sizeOf37
 v22:=Tryz.zeroValue37 }
end Go.Proofs
namespace Go.Proofs.YtphibahplgmgfaaGreatDoor
open Go.RowKit
def orI:List Int→Int
 | []=>0
 | x::xs=>if x=0 then orI xs else x
def Title.cmp (a b:Title):Int:=orI [Lib.compareInt a.space b.space,Lib.compareBytes a.name.data.toList b.name.data.toList]
end Go.Proofs.YtphibahplgmgfaaGreatDoor
namespace Go.Proofs.YtphibahplgmgfaaGreatDoor
open Go.RowKit
theorem cb_spec:∀ a b:List UInt8,Lib.compareBytes a b=if Op.bytesLess a b=true then -1 else if a=b then 0 else 1
 | [],[]=>by simp [Lib.compareBytes,Op.bytesLess]
 | [],_::_=>by simp [Lib.compareBytes,Op.bytesLess]
 | _::_,[]=>by simp [Lib.compareBytes,Op.bytesLess]
 | x::a,y::b=>by
   have h:=cb_spec a b
   have e:x<y∨x=y∨y<x:=by
    rcases Nat.lt_trichotomy x.toNat y.toNat with h | h | h
    ·exact .inl h
    ·exact .inr (.inl (UInt8.toNat_inj.1 h))
    ·exact .inr (.inr h)
   rcases e with e | e | e
   ·simp [Lib.compareBytes,Op.bytesLess,e]
   ·subst e
    have hx:¬ x<x:=fun h=>by simp at h
    simp [Lib.compareBytes,Op.bytesLess,h]
   ·have hx:¬ x<y:=fun h=>by simp [UInt8.lt_iff_toNat_lt] at h e;omega
    have hne:¬ x=y:=fun h=>by subst h;simp at e
    simp [Lib.compareBytes,Op.bytesLess,hx,hne,e]
theorem cmp_def (a b:Title):Title.cmp a b=if a.space<b.space then -1 else if b.space<a.space then 1 else if Op.bytesLess a.name.toList b.name.toList=true then -1 else if a.name.toList=b.name.toList then 0 else 1:=by
 unfold Title.cmp orI Lib.compareInt
 rw [cb_spec,ByteArray.toList_eq,ByteArray.toList_eq]
 by_cases h1:a.space<b.space
 ·simp [h1]
 ·by_cases h2:b.space<a.space
  ·simp [h1,h2]
  ·simp only [h1,h2,if_false,if_true,orI]
   by_cases h:Op.bytesLess a.name.data.toList b.name.data.toList=true
   ·simp [h]
   ·by_cases h':a.name.data.toList=b.name.data.toList<;>simp [h,h']
set_option maxHeartbeats 400000 in
theorem refTitleCompare_any (a b:Title) (w:World):Calls Tryz.prog 58 #[.agg #[.int .i64 a.space,.string a.name],.agg #[.int .i64 b.space,.string b.name]] w fun e w'=>e = .returned (.int .i64 (Title.cmp a b))∧Below w.heap.size w w':=by
 go_enter Tryz.func58,Tryz.ntmps58
 go_wp2
 all_goals
  go_ret
  refine ⟨ret_int ?_,((Below.refl _ _).alloc (Nat.le_refl _) _).alloc (by simp) _⟩
  rw [cmp_def]
  first
   | (rw [if_pos (by omega)];done)
   | (rw [if_neg (by omega),if_neg (by omega),if_pos (by assumption)];done)
   | (rw [if_neg (by omega),if_pos (by omega)];done)
   | (rw [if_neg (by omega),if_neg (by omega),if_neg (by simp_all),if_pos (by assumption)];done)
   | (rw [if_neg (by omega),if_neg (by omega),if_neg (by simp_all),if_neg (by assumption)];done)
end Go.Proofs.YtphibahplgmgfaaGreatDoor
namespace Go.Proofs.YtphibahplgmgfaaGreatDoor
open Go.RowKit
def lowB (c:UInt8):UInt8:=if 65≤c.toNat∧c.toNat≤90 then UInt8.ofNat (c.toNat+32) else c
def foldL (l:List UInt8):List UInt8:=l.map lowB
def BytesAt (w:World) (g:Nat) (l:List UInt8):Prop:=
 g<w.heap.size∧∀ j c,l[j]? = some c→w.cell? ⟨g,j,none⟩=some (.int .u8 (c.toNat:Int))∧w.frozen? ⟨g,j,none⟩=false
theorem BytesAt.set {w:World} {g:Nat} {l:List UInt8} (h:BytesAt w g l) (k:Nat) (c:UInt8) (hk:k<l.length):BytesAt (w.setCell ⟨g,k,none⟩ (.int .u8 (c.toNat:Int))) g (l.set k c):=by
 refine ⟨by simpa [World.setCell] using h.1,fun j d hj=>?_⟩
 by_cases e:j=k
 ·subst e
  rw [List.getElem?_set_self hk] at hj
  obtain rfl:c=d:=by simpa using hj
  obtain ⟨h1,h2⟩:=h.2 j _ (List.getElem?_eq_getElem hk)
  exact ⟨World.cell?_setCell_same w ⟨g,j,none⟩ _ h1,by simpa using h2⟩
 ·rw [List.getElem?_set_ne (fun e'=>e e'.symm)] at hj
  obtain ⟨h1,h2⟩:=h.2 j d hj
  refine ⟨(World.cell?_setCell_other w ⟨g,k,none⟩ ⟨g,j,none⟩ _ (fun e'=>e (by injection e' with _ e2;exact e2.symm))).trans h1,by simpa using h2⟩
theorem BytesAt.back {P:Program} {w:World} {g cap:Nat} {l:List UInt8} (h:BytesAt w g l) (src dst e:TypeId) (hs:P.underlying src=some (.slice e)) (he:P.underlying e=some (.int .u8)) (hd:P.underlying dst=some .string) :
  (convert src dst (.slice (some ⟨g,0,none⟩) l.length cap)).run P w = .ok (.string ⟨l.toArray⟩) w:=
 run_convert_bytes_back w src dst e ⟨g,0,none⟩ cap l hs he hd fun j hj=>by
  have:=(h.2 j _ (List.getElem?_eq_getElem hj)).1
  unfold Addr.add
  split
  ·rename_i h0;subst h0;exact this
  ·simpa using this
theorem bytes_conv {P:Program} (w:World) (src dst e:TypeId) (s:ByteArray) (hs:P.underlying src=some .string) (hd:P.underlying dst=some (.slice e)) (he:P.underlying e=some (.int .u8)) :
  ∃ cap w1,(convert src dst (.string s)).run P w = .ok (.slice (some ⟨w.heap.size,0,none⟩) s.size cap) w1∧Below w.heap.size w w1∧BytesAt w1 w.heap.size s.data.toList:=by
 refine ⟨_,_,run_bytes_of_string w src dst e s hs hd he,(Below.refl _ _).drew.alloc (Nat.le_refl _) _,by simp,fun j c hj=>?_⟩
 have hjl:j<s.data.size:=by have:=(List.getElem?_eq_some_iff.1 hj).1;simpa using this
 have hc:c=s.data[j]:=by
  rw [List.getElem?_eq_getElem (by simpa using hjl)] at hj
  simpa using hj.symm
 constructor
 ·exact (World.cell?_alloc_mark w.drew _ _ _ j).trans (by rw [bytesRow_at _ _ _ hjl,hc])
 ·refine (World.frozen?_alloc_mark w.drew _ _ _ _ j).trans ?_
  have:j<(bytesRow s (grownCap w s.size 0 e)).size:=by simp only [bytesRow,Array.size_append,Array.size_map];omega
  simp;omega
theorem fold_step (l:List UInt8) (q:Nat) (c:UInt8) (hc:l[q]? = some c):(foldL (l.take q)++l.drop q).set q (lowB c)=foldL (l.take (q+1))++l.drop (q+1):=by
 have hq:q<l.length:=(List.getElem?_eq_some_iff.1 hc).1
 have hl:(foldL (l.take q)).length=q:=by simp [foldL];omega
 have hg:l[q]=c:=by rw [List.getElem?_eq_getElem hq] at hc;simpa using hc
 rw [List.set_append_right _ _ (by omega),hl,Nat.sub_self,List.drop_eq_getElem_cons hq,List.set_cons_zero,List.take_succ_eq_append_getElem hq,hg]
 simp [foldL]
theorem fold_keep (l:List UInt8) (q:Nat) (c:UInt8) (hc:l[q]? = some c) (he:lowB c=c):foldL (l.take q)++l.drop q=foldL (l.take (q+1))++l.drop (q+1):=by
 rw [← fold_step l q c hc,he]
 have hq:q<l.length:=(List.getElem?_eq_some_iff.1 hc).1
 have hl:(foldL (l.take q)).length=q:=by simp [foldL];omega
 have hg:l[q]=c:=by rw [List.getElem?_eq_getElem hq] at hc;simpa using hc
 rw [List.set_append_right _ _ (by omega),hl,Nat.sub_self,List.drop_eq_getElem_cons hq,List.set_cons_zero,hg]
theorem fold_at (l:List UInt8) (q:Nat) (c:UInt8) (hc:l[q]? = some c):(foldL (l.take q)++l.drop q)[q]? = some c:=by
 have hq:q<l.length:=(List.getElem?_eq_some_iff.1 hc).1
 have hl:(foldL (l.take q)).length=q:=by simp [foldL];omega
 rw [List.getElem?_append_right (by omega),hl,Nat.sub_self,List.getElem?_drop]
 simpa using hc
set_option maxHeartbeats 400000 in
set_option maxRecDepth 100000 in
theorem fold_any (s:ByteArray) (w:World) (hs:s.size≤9223372036854775807):Calls Tryz.prog 173 #[.string s] w fun e w'=>e = .returned (.string ⟨(foldL s.data.toList).toArray⟩)∧Below w.heap.size w w':=by
 obtain ⟨cap,w1,hconv,hb,hB⟩:=bytes_conv (P:=Tryz.prog) w 9 235 5 s Tryz.underlying9 Tryz.underlying235 Tryz.underlying5
 have HB:=Lib.hid hb
 have HBB:=Lib.hid hB
 clear hb hB
 have HL:Hid (s.data.toList.length=s.size):=Lib.hid (Array.length_toList)
 go_enter Tryz.func173,Tryz.ntmps173
 go_wp2
 go_loopw [4,5,10] (fun _ _ i wr=>∃ q:Nat,q≤s.size∧i = .int .i64 q∧Below w.heap.size w wr∧BytesAt wr w.heap.size (foldL (s.data.toList.take q)++s.data.toList.drop q)) (fun _ _ i _=>s.size - (intOf i).toNat)
 case atStart=>exact ⟨0,Nat.zero_le _,rfl,HB.out,by simpa [foldL] using HBB.out⟩
 case round=>
  obtain ⟨q,hq,rfl,hbw,hBw⟩:=hrel
  by_cases hlt:q<s.size
  ·obtain ⟨x,hx⟩:∃ x,s.data.toList[q]? = some x:=⟨_,List.getElem?_eq_getElem (by rw [HL.out];exact hlt)⟩
   obtain ⟨c0,f0⟩:=hBw.2 q x (fold_at _ _ _ hx)
   have HX:=Lib.hid hx
   have HW:=Lib.hid hBw
   have HQ:=Lib.hid hbw
   clear hx hBw hbw hconv
   have hx1:(x.toNat:Int)<256:=by have:=x.toNat_lt;omega
   by_cases h1:(65:Int)≤x.toNat∧(x.toNat:Int)≤90
   ·obtain ⟨h1,h2⟩:=h1
    go_wp2
    go_roundw
    case rel=>
     refine ⟨q+1,by omega,by go_num,HQ.out.setCell (Nat.le_refl _) _,?_⟩
     have hl:lowB x=UInt8.ofNat (x.toNat+32):=by unfold lowB;rw [if_pos (by omega)]
     have hl2:((lowB x).toNat:Int)=(x.toNat:Int)+32:=by rw [hl];simp;omega
     rw [← fold_step _ _ _ HX.out,← hl2]
     exact HW.out.set q _ (by rw [List.length_append];simp [foldL];omega)
    case measure=>simp [intOf];omega
   ·have hk:lowB x=x:=by unfold lowB;rw [if_neg (by omega)]
    have HK:=Lib.hid hk
    clear hk
    have h3:(x.toNat:Int)<65∨((65:Int)≤x.toNat∧(90:Int)<x.toNat):=by omega
    clear h1
    rcases h3 with h2 | ⟨h2,h3⟩
    all_goals
     go_wp2
     go_roundw
     case rel=>exact ⟨q+1,by omega,by go_num,HQ.out,by rw [← fold_keep _ _ _ HX.out HK.out];exact HW.out⟩
     case measure=>simp [intOf];omega
  ·obtain rfl:q=s.size:=by omega
   have hz:foldL (s.data.toList.take s.size)++s.data.toList.drop s.size=foldL s.data.toList:=by
    rw [List.take_of_length_le (by rw [HL.out];omega),List.drop_eq_nil_of_le (by rw [HL.out];omega),List.append_nil]
   rw [hz] at hBw
   have hback:=hBw.back (P:=Tryz.prog) (cap:=cap) 235 9 5 Tryz.underlying235 Tryz.underlying5 Tryz.underlying9
   rw [show (foldL s.data.toList).length=s.size by rw [foldL,List.length_map];exact HL.out] at hback
   have HQ:=Lib.hid hbw
   clear hz hBw hbw hconv
   go_wp2
   go_ret
   exact ⟨rfl,HQ.out⟩
end Go.Proofs.YtphibahplgmgfaaGreatDoor
namespace Go.Proofs.YtphibahplgmgfaaGreatDoor
open Go.RowKit
def Glob (w:World):Prop:=∃ m,w.cell? ⟨1,0,none⟩=some (.int .i64 m)
theorem Glob.below {a w:World} (h:Glob a) (hb:Below a.heap.size a w):Glob w:=h.imp fun _ hm=>re1 hb (cell_lt hm) hm
theorem cut_le (s sep:List UInt8):(Lib.cut s sep).1.length≤s.length:=by
 unfold Lib.cut
 split
 ·simp;omega
 ·exact Nat.le_refl _
theorem trimSuffix_le (s p:List UInt8):(Lib.trimSuffix s p).length≤s.length:=by
 unfold Lib.trimSuffix
 split
 ·rw [List.length_take];omega
 ·exact Nat.le_refl _
def spaceOf (n:List UInt8):Int:=
 if n = [116,97,108,107] then 1 else if n = [117,115,101,114] then 2 else if n = [116,101,109,112,108,97,116,101] then 3 else if n = [99,97,116,101,103,111,114,121] then 4 else if n = [112,114,111,106,101,99,116] then 5 else 0
def prefixL (s:List UInt8):Option (Int×List UInt8):=
 if (Lib.cut s [58]).2.2=true∧spaceOf (foldL (Lib.trimSuffix (Lib.cut s [58]).1 [32]))≠0 then some (spaceOf (foldL (Lib.trimSuffix (Lib.cut s [58]).1 [32])),(Lib.cut s [58]).2.1) else none
def prefixV (s:List UInt8):Value:=match prefixL s with
 | some (n,r)=>.tuple #[.int .i64 n,.string ⟨r.toArray⟩,.bool true]
 | none=>.tuple #[.int .i64 0,.string ⟨#[]⟩,.bool false]
set_option maxHeartbeats 400000 in
theorem spaces_any (w:World):Calls Tryz.prog 175 #[] w fun e w'=>e = .returned (.agg #[.string ⟨#[]⟩,.string ⟨#[84,97,108,107]⟩,.string ⟨#[85,115,101,114]⟩,.string ⟨#[84,101,109,112,108,97,116,101]⟩,.string ⟨#[67,97,116,101,103,111,114,121]⟩,.string ⟨#[80,114,111,106,101,99,116]⟩])∧Below w.heap.size w w':=by
 go_enter Tryz.func175,Tryz.ntmps175
 go_wp2
 exact bodyPost_ret (v:=.agg #[.string ⟨#[]⟩,.string ⟨#[84,97,108,107]⟩,.string ⟨#[85,115,101,114]⟩,.string ⟨#[84,101,109,112,108,97,116,101]⟩,.string ⟨#[67,97,116,101,103,111,114,121]⟩,.string ⟨#[80,114,111,106,101,99,116]⟩]) (by simp [results,Tryz.results175,go_sem]) rfl ⟨rfl,Below.al (Below.refl _ _) _⟩
def spaceName (q:Nat):List UInt8:=match q with | 1=>[116,97,108,107] | 2=>[117,115,101,114] | 3=>[116,101,109,112,108,97,116,101] | 4=>[99,97,116,101,103,111,114,121] | 5=>[112,114,111,106,101,99,116] | _=>[]
theorem spaceOf_none (n:List UInt8) (h:∀ j,1≤j→j<6→n≠spaceName j):spaceOf n=0:=by
 have h1:=h 1 (by decide) (by decide)
 have h2:=h 2 (by decide) (by decide)
 have h3:=h 3 (by decide) (by decide)
 have h4:=h 4 (by decide) (by decide)
 have h5:=h 5 (by decide) (by decide)
 simp only [spaceName] at h1 h2 h3 h4 h5
 simp only [spaceOf,h1,h2,h3,h4,h5,if_false]
theorem spaceOf_some (j:Nat) (h1:1≤j) (h6:j<6):spaceOf (spaceName j)=j:=by
 obtain rfl | rfl | rfl | rfl | rfl:j=1∨j=2∨j=3∨j=4∨j=5:=by omega
 all_goals decide
set_option maxRecDepth 100000 in
set_option maxHeartbeats 1000000 in
theorem prefix_any (s:ByteArray) (w:World) (hs:s.size<4294967281) (hG:Glob w):Calls Tryz.prog 129 #[.string s] w fun e w'=>e = .returned (prefixV s.data.toList)∧Below w.heap.size w w':=by
 obtain ⟨m,hm⟩:=hG
 have HF:Hid (prefixV s.data.toList=match prefixL s.data.toList with
  | some (n,r)=>.tuple #[.int .i64 n,.string ⟨r.toArray⟩,.bool true]
  | none=>.tuple #[.int .i64 0,.string ⟨#[]⟩,.bool false]):=Lib.hid rfl
 unfold prefixL at HF
 have hl1:(Lib.cut s.data.toList [58]).1.length≤s.data.toList.length:=cut_le _ _
 go_enter Tryz.func129,Tryz.ntmps129
 go_wp2_with fail
 refine (Tryz.strings_Cut s _ m _ hs hm).mono ?_
 rintro e w1 ⟨rfl,n1,rfl⟩
 rw [show (⟨#[58]⟩:ByteArray).data.toList = [58] from rfl]
 generalize Lib.cut s.data.toList [58]=C at *
 obtain ⟨b,a,ok⟩:=C
 cases ok
 ·go_wp2
  go_ret3
  exact ⟨by rw [HF.out];simp,Below.dn (Below.refl _ _) _⟩
 ·go_wp2_with fail
  refine (Tryz.strings_TrimSuffix _ _ _ (by have:=s.data.toList.length;simp only [ByteArray.size,Array.length_toList,List.size_toArray] at hl1 hs ⊢;omega)).mono ?_
  rintro e w1 ⟨rfl,rfl⟩
  go_wp2_with fail
  refine (fold_any _ _ (by have h2:=trimSuffix_le b [32];simp only [ByteArray.size,Array.length_toList,List.size_toArray] at hl1 hs h2 ⊢;omega)).mono ?_
  rintro e w1 ⟨rfl,hb1⟩
  go_wp2_with fail
  refine (spaces_any _).mono ?_
  rintro e w2 ⟨rfl,hb2⟩
  have HB:=Lib.hid (Below.tr (Below.tr (Below.dn (Below.refl _ _) _) hb1) hb2)
  clear hb1 hb2 hm hs hl1
  generalize foldL (Lib.trimSuffix b [32])=N at *
  simp only [true_and] at HF
  go_wp2_with fail
  go_loopw [23] (fun i wr=>∃ z:Int,0≤z∧z≤6∧i = .int .i64 z∧Below w2.heap.size w2 wr∧Hid (∀ j:Nat,1≤j→(j:Int)<z→N≠spaceName j)) (fun i _=>6 - (intOf i).toNat)
  case atStart=>exact ⟨0,by omega,by omega,rfl,Below.refl _ _,fun j _ h=>absurd h (by omega)⟩
  case round=>
   obtain ⟨z,hz0,hz6,rfl,hbw,hno⟩:=hrel
   have HQ:=Lib.hid hbw
   clear hbw
   by_cases h6:z=6
   ·subst h6
    have hz:spaceOf N=0:=spaceOf_none N fun j h1 h2=>hno.out j h1 (by omega)
    rw [hz] at HF
    clear hz
    go_wp2
    go_ret3
    exact ⟨by rw [HF.out];simp,Below.tr HB.out HQ.out⟩
   ·have hq6:z=0∨z=1∨z=2∨z=3∨z=4∨z=5:=by omega
    clear h6 hz0 hz6
    have ix:∀ w (z:Int) (x:Value),(#[Value.string { data:=#[] },Value.string { data:=#[84,97,108,107] },Value.string { data:=#[85,115,101,114] },Value.string { data:=#[84,101,109,112,108,97,116,101] },Value.string { data:=#[67,97,116,101,103,111,114,121] },Value.string { data:=#[80,114,111,106,101,99,116] }]:Array Value)[z.toNat]? = some x→0≤z→z<6→
     (Instr.index 216 (.agg #[Value.string { data:=#[] },Value.string { data:=#[84,97,108,107] },Value.string { data:=#[85,115,101,114] },Value.string { data:=#[84,101,109,112,108,97,116,101] },Value.string { data:=#[67,97,116,101,103,111,114,121] },Value.string { data:=#[80,114,111,106,101,99,116] }]) (.int .i64 z)).run Tryz.prog w = .ok x w:=by
     intro w z x h h0 h6
     obtain rfl | rfl | rfl | rfl | rfl | rfl:z=0∨z=1∨z=2∨z=3∨z=4∨z=5:=by omega
     all_goals
      (simp at h;subst h;kernel_rfl)
    rcases hq6 with rfl | rfl | rfl | rfl | rfl | rfl
    ·have i0:=fun w=>ix w 0 _ rfl (by decide) (by decide)
     clear ix
     go_wp2
     go_roundw
     case rel=>exact ⟨1,by omega,by omega,rfl,HQ.out,fun j h1 h2=>absurd h2 (by omega)⟩
     case measure=>simp [intOf]
    ·have i0:=fun w=>ix w 1 _ rfl (by decide) (by decide)
     clear ix
     go_wp2_with (go_at_call 173;refine (fold_any _ _ (by decide)).mono ?_;rintro e w5 ⟨rfl,hb5⟩)
     ·have h:(N == foldL [84,97,108,107])=true:=by assumption
      have hN:N=spaceName 1:=(beq_iff_eq.1 h).trans (by decide)
      have hz:spaceOf N=1:=by rw [hN];decide
      go_ret3
      exact ⟨by rw [HF.out,hz];simp,Below.tr HB.out (Below.tr HQ.out hb5)⟩
     ·go_roundw
      case rel=>
       have h:(N == foldL [84,97,108,107])=false:=by assumption
       have hN:N≠spaceName 1:=fun e=>beq_eq_false_iff_ne.1 h (e.trans (by decide))
       refine ⟨1+1,by omega,by omega,rfl,Below.tr HQ.out hb5,fun j h1 h2=>?_⟩
       rcases Nat.lt_or_ge j 1 with hj | hj
       ·exact hno.out j h1 (by omega)
       ·obtain rfl:j=1:=by omega
        exact hN
      case measure=>simp [intOf]
    ·have i0:=fun w=>ix w 2 _ rfl (by decide) (by decide)
     clear ix
     go_wp2_with (go_at_call 173;refine (fold_any _ _ (by decide)).mono ?_;rintro e w5 ⟨rfl,hb5⟩)
     ·have h:(N == foldL [85,115,101,114])=true:=by assumption
      have hN:N=spaceName 2:=(beq_iff_eq.1 h).trans (by decide)
      have hz:spaceOf N=2:=by rw [hN];decide
      go_ret3
      exact ⟨by rw [HF.out,hz];simp,Below.tr HB.out (Below.tr HQ.out hb5)⟩
     ·go_roundw
      case rel=>
       have h:(N == foldL [85,115,101,114])=false:=by assumption
       have hN:N≠spaceName 2:=fun e=>beq_eq_false_iff_ne.1 h (e.trans (by decide))
       refine ⟨2+1,by omega,by omega,rfl,Below.tr HQ.out hb5,fun j h1 h2=>?_⟩
       rcases Nat.lt_or_ge j 2 with hj | hj
       ·exact hno.out j h1 (by omega)
       ·obtain rfl:j=2:=by omega
        exact hN
      case measure=>simp [intOf]
    ·have i0:=fun w=>ix w 3 _ rfl (by decide) (by decide)
     clear ix
     go_wp2_with (go_at_call 173;refine (fold_any _ _ (by decide)).mono ?_;rintro e w5 ⟨rfl,hb5⟩)
     ·have h:(N == foldL [84,101,109,112,108,97,116,101])=true:=by assumption
      have hN:N=spaceName 3:=(beq_iff_eq.1 h).trans (by decide)
      have hz:spaceOf N=3:=by rw [hN];decide
      go_ret3
      exact ⟨by rw [HF.out,hz];simp,Below.tr HB.out (Below.tr HQ.out hb5)⟩
     ·go_roundw
      case rel=>
       have h:(N == foldL [84,101,109,112,108,97,116,101])=false:=by assumption
       have hN:N≠spaceName 3:=fun e=>beq_eq_false_iff_ne.1 h (e.trans (by decide))
       refine ⟨3+1,by omega,by omega,rfl,Below.tr HQ.out hb5,fun j h1 h2=>?_⟩
       rcases Nat.lt_or_ge j 3 with hj | hj
       ·exact hno.out j h1 (by omega)
       ·obtain rfl:j=3:=by omega
        exact hN
      case measure=>simp [intOf]
    ·have i0:=fun w=>ix w 4 _ rfl (by decide) (by decide)
     clear ix
     go_wp2_with (go_at_call 173;refine (fold_any _ _ (by decide)).mono ?_;rintro e w5 ⟨rfl,hb5⟩)
     ·have h:(N == foldL [67,97,116,101,103,111,114,121])=true:=by assumption
      have hN:N=spaceName 4:=(beq_iff_eq.1 h).trans (by decide)
      have hz:spaceOf N=4:=by rw [hN];decide
      go_ret3
      exact ⟨by rw [HF.out,hz];simp,Below.tr HB.out (Below.tr HQ.out hb5)⟩
     ·go_roundw
      case rel=>
       have h:(N == foldL [67,97,116,101,103,111,114,121])=false:=by assumption
       have hN:N≠spaceName 4:=fun e=>beq_eq_false_iff_ne.1 h (e.trans (by decide))
       refine ⟨4+1,by omega,by omega,rfl,Below.tr HQ.out hb5,fun j h1 h2=>?_⟩
       rcases Nat.lt_or_ge j 4 with hj | hj
       ·exact hno.out j h1 (by omega)
       ·obtain rfl:j=4:=by omega
        exact hN
      case measure=>simp [intOf]
    ·have i0:=fun w=>ix w 5 _ rfl (by decide) (by decide)
     clear ix
     go_wp2_with (go_at_call 173;refine (fold_any _ _ (by decide)).mono ?_;rintro e w5 ⟨rfl,hb5⟩)
     ·have h:(N == foldL [80,114,111,106,101,99,116])=true:=by assumption
      have hN:N=spaceName 5:=(beq_iff_eq.1 h).trans (by decide)
      have hz:spaceOf N=5:=by rw [hN];decide
      go_ret3
      exact ⟨by rw [HF.out,hz];simp,Below.tr HB.out (Below.tr HQ.out hb5)⟩
     ·go_roundw
      case rel=>
       have h:(N == foldL [80,114,111,106,101,99,116])=false:=by assumption
       have hN:N≠spaceName 5:=fun e=>beq_eq_false_iff_ne.1 h (e.trans (by decide))
       refine ⟨5+1,by omega,by omega,rfl,Below.tr HQ.out hb5,fun j h1 h2=>?_⟩
       rcases Nat.lt_or_ge j 5 with hj | hj
       ·exact hno.out j h1 (by omega)
       ·obtain rfl:j=5:=by omega
        exact hN
      case measure=>simp [intOf]
end Go.Proofs.YtphibahplgmgfaaGreatDoor
namespace Go.Proofs.YtphibahplgmgfaaGreatDoor
open Go.RowKit
def badName:List UInt8:=[60,62,91,93,123,125,124,35,95]
def cleanL:Int→List UInt8→Bool
 | _,[]=>true
 | p,c::r=>if (c.toNat:Int)<32∨(c.toNat:Int)=127∨0≤Lib.indexByte badName c∨((c.toNat:Int)=32∧p=32) then false else cleanL c.toNat r
theorem cleanL_stop {p:Int} {c:UInt8} {r:List UInt8} (h:(c.toNat:Int)<32∨(c.toNat:Int)=127∨0≤Lib.indexByte badName c∨((c.toNat:Int)=32∧p=32)):cleanL p (c::r)=false:=by
 simp only [cleanL,if_pos h]
theorem cleanL_go {p:Int} {c:UInt8} {r:List UInt8} (h:¬((c.toNat:Int)<32∨(c.toNat:Int)=127∨0≤Lib.indexByte badName c∨((c.toNat:Int)=32∧p=32))):cleanL p (c::r)=cleanL c.toNat r:=by
 simp only [cleanL,if_neg h]
def prevAt (s:ByteArray) (q:Nat):Int:=if h:0<q∧q - 1<s.size then ((s[q - 1]'h.2).toNat:Int) else -1
set_option maxRecDepth 100000 in
set_option maxHeartbeats 1000000 in
theorem clean_any (s:ByteArray) (w:World) (hs:s.size≤9223372036854775807):Calls Tryz.prog 128 #[.string s] w fun e w'=>e = .returned (.bool (cleanL (-1) s.data.toList))∧w=w':=by
 go_enter Tryz.func128,Tryz.ntmps128
 go_wp2
 go_loop [3,4] (fun i _=>∃ q:Nat,q≤s.size∧i = .int .i64 q∧Hid (cleanL (-1) s.data.toList=cleanL (prevAt s q) (s.data.toList.drop q))) (fun i _=>s.size - (intOf i).toNat)
 case atStart=>exact ⟨0,Nat.zero_le _,rfl,rfl⟩
 case round=>
  obtain ⟨q,hq,rfl,hC⟩:=hrel
  by_cases hlt:q<s.size
  ·have HD:Hid (s.data.toList.drop q=s[q]::s.data.toList.drop (q+1)):=List.drop_eq_getElem_cons (by rw [Array.length_toList];exact hlt)
   have HP':Hid (prevAt s (q+1)=((s[q]'hlt).toNat:Int)):=by unfold prevAt;rw [dif_pos ⟨Nat.succ_pos q,hlt⟩];rfl
   by_cases h0:q=0
   ·subst h0
    have HP:Hid (prevAt s 0 = -1):=rfl
    go_wp2_with (go_at_call 171;refine (Tryz.strings_IndexByte _ _ _).mono ?_;rintro e w' ⟨rfl,rfl⟩)
    all_goals (try simp only [beq_iff_eq,beq_eq_false_iff_ne,ne_eq] at *)
    all_goals first
     | (exfalso;omega)
     | (go_ret;refine ⟨ret_bool ?_,rfl⟩;rw [hC.out,HD.out];refine (cleanL_stop ?_).symm;rw [HP.out];unfold badName;omega)
     | (go_round;(case rel=>(refine ⟨1,by omega,rfl,?_⟩;rw [hC.out,HD.out,cleanL_go (by rw [HP.out];unfold badName;omega)];exact congrArg (fun p=>cleanL p (s.data.toList.drop (0+1))) HP'.out.symm));(case measure=>(simp [intOf];omega)))
   ·have HP:Hid (prevAt s q=((s[q - 1]'(by omega)).toNat:Int)):=by unfold prevAt;rw [dif_pos ⟨by omega,by omega⟩];exact Lib.hid rfl
    have h1:0<q:=by omega
    clear h0
    go_wp2_with (go_at_call 171;refine (Tryz.strings_IndexByte _ _ _).mono ?_;rintro e w' ⟨rfl,rfl⟩)
    all_goals (try simp only [beq_iff_eq,beq_eq_false_iff_ne,ne_eq] at *)
    all_goals first
     | (exfalso;omega)
     | (go_ret;refine ⟨ret_bool ?_,rfl⟩;rw [hC.out,HD.out];refine (cleanL_stop ?_).symm;rw [HP.out];unfold badName;omega)
     | (go_round;(case rel=>(refine ⟨q+1,by omega,by go_num,?_⟩;rw [hC.out,HD.out,cleanL_go (by rw [HP.out];unfold badName;omega)];exact congrArg (fun p=>cleanL p (s.data.toList.drop (q+1))) HP'.out.symm));(case measure=>(simp [intOf];omega)))
  ·obtain rfl:q=s.size:=by omega
   have hz:s.data.toList.drop s.size = []:=List.drop_eq_nil_of_le (by rw [Array.length_toList];exact Nat.le_refl _)
   have HZ:Hid (cleanL (-1) s.data.toList=true):=by rw [hC.out,hz];exact rfl
   clear hz hC
   go_wp2
   go_ret
   exact ⟨ret_bool HZ.out.symm,rfl⟩
theorem countB_le (s:ByteArray):Lib.countB s ⟨#[47]⟩≤s.size:=by
 have h:=Lib.countB_mul_le ⟨#[47]⟩ (by decide) s.size s (Nat.le_refl _)
 have e:(⟨#[47]⟩:ByteArray).size=1:=rfl
 rw [e] at h
 omega
theorem headD_of:∀ (l:List UInt8) (h:0<l.length),l.headD 0=l[0]
 | _::_,_=>rfl
theorem head_of (s:ByteArray) (h:0<s.size):s.data.toList.headD 0=s[0]:=
 headD_of _ (by rw [Array.length_toList];exact h)
theorem prefix_none (s:ByteArray) (w:World) (hs:s.size<4294967281) (hG:Glob w) (h:prefixL s.data.toList=none):Calls Tryz.prog 129 #[.string s] w fun e w'=>e = .returned (.tuple #[.int .i64 0,.string ⟨#[]⟩,.bool false])∧Below w.heap.size w w':=
 (prefix_any s w hs hG).mono fun _ _ ⟨he,hb⟩=>⟨he.trans (by unfold prefixV;rw [h]),hb⟩
theorem prefix_some (s:ByteArray) (w:World) (hs:s.size<4294967281) (hG:Glob w) {n:Int} {r:List UInt8} (h:prefixL s.data.toList=some (n,r)):Calls Tryz.prog 129 #[.string s] w fun e w'=>e = .returned (.tuple #[.int .i64 n,.string ⟨r.toArray⟩,.bool true])∧Below w.heap.size w w':=
 (prefix_any s w hs hG).mono fun _ _ ⟨he,hb⟩=>⟨he.trans (by unfold prefixV;rw [h]),hb⟩
theorem splitB_size (sep:ByteArray):∀ (k:Nat) (s p:ByteArray),p ∈ Lib.splitB sep 0 k s→p.size≤s.size
 | 0,s,p,h=>by
   rw [Lib.splitB_zero] at h
   simp at h
   rw [h];exact Nat.le_refl _
 | k+1,s,p,h=>by
   rcases Lib.index_spec s.data.toList sep.data.toList with ⟨h1,_⟩ | ⟨i,h1,_⟩
   ·rw [Lib.splitB_miss sep 0 (k+1) s h1] at h
    simp at h
    rw [h];exact Nat.le_refl _
   ·rw [Lib.splitB_hit sep 0 k s i h1] at h
    rcases List.mem_cons.1 h with h | h
    ·rw [h,ByteArray.size_extract];omega
    ·have:=splitB_size sep k _ p h
     rw [ByteArray.size_extract] at this
     omega
def partOK (p:List UInt8):Bool:=decide (p≠[])&&decide (p[0]?≠some 32)&&decide (p.getLast?≠some 32)
theorem u8_32 (a:UInt8):decide (some a≠some 32) = !((a.toNat:Int) == 32):=by
 by_cases h:a=32
 ·subst h;rfl
 ·have h2:a.toNat≠32:=fun e=>h (UInt8.toNat_inj.1 e)
  have h3:((a.toNat:Int) == 32)=false:=by rw [beq_eq_false_iff_ne];omega
  rw [h3];simp [h]
theorem partOK_def (x:ByteArray) (h:0<x.size):partOK x.data.toList = !((x[0].toNat:Int) == 32||((x[x.size - 1]'(by omega)).toNat:Int) == 32):=by
 have hl:x.data.toList.length=x.size:=Array.length_toList
 have h1:x.data.toList≠[]:=fun e=>by rw [e] at hl;simp at hl;omega
 have h2:x.data.toList[0]? = some x[0]:=List.getElem?_eq_getElem (by omega)
 have h3:x.data.toList.getLast? = some (x[x.size - 1]'(by omega)):=by
  rw [List.getLast?_eq_getElem?,hl]
  exact List.getElem?_eq_getElem (by omega)
 unfold partOK
 rw [h2,h3,u8_32,u8_32]
 simp [h1]
def firstOK (c:Int):Bool:=decide (c≠58) && !(decide (97≤c)&&decide (c≤122))
theorem firstOK_no1 {c:Int} (h:c=58):firstOK c=false:=by subst h;rfl
theorem firstOK_no2 {c:Int} (h:97≤c) (h':c≤122):firstOK c=false:=by simp [firstOK,h,h']
theorem firstOK_yes {c:Int} (h:c≠58) (h':c<97∨122<c):firstOK c=true:=by
 unfold firstOK
 have:¬ (97≤c∧c≤122):=by omega
 simp [h];omega
def Title.valid (t:Title):Bool:=
 decide (0≤t.space)&&decide (t.space<6)&&decide (1≤t.name.size)&&decide (t.name.size≤100)&&cleanL (-1) t.name.data.toList &&
 (Lib.splitB ⟨#[47]⟩ 0 (Lib.countB t.name ⟨#[47]⟩) t.name).all (fun p=>partOK p.data.toList) &&
 firstOK (t.name.data.toList.headD 0).toNat &&
 (decide (t.space≠0)||decide (prefixL t.name.data.toList=none))
set_option maxRecDepth 100000 in
set_option maxHeartbeats 1000000 in
theorem valid_any (t:Title) (w:World) (hG:Glob w):Calls Tryz.prog 86 #[.agg #[.int .i64 t.space,.string t.name]] w fun e w'=>e = .returned (.bool t.valid)∧Below w.heap.size w w':=by
 obtain ⟨m,hm⟩:=hG
 obtain ⟨sp,s⟩:=t
 by_cases h:(0≤sp∧sp<6)∧(1≤s.size∧s.size≤100)∧cleanL (-1) s.data.toList=true
 ·obtain ⟨⟨h1,h2⟩,⟨h3,h4⟩,h5⟩:=h
  go_enter Tryz.func86,Tryz.ntmps86
  go_wp2_with (first | (go_at_call 128;refine (clean_any _ _ (by omega)).mono ?_;rintro e w' ⟨rfl,rfl⟩) | (go_at_call 121;refine (Tryz.strings_Split _ _ m _ (by omega) (by exact re1 (Below.al (Below.refl _ _) _) (cell_lt hm) hm) (by decide)).mono ?_;rintro e w' ⟨rfl,rfl⟩))
  have hcl:=Lib.splitB_all ⟨#[47]⟩ (by decide) 0 _ s rfl
  have hb:Below w.heap.size w ((w.alloc (Obj.cells #[Value.int IntKind.i64 sp,Value.string s] 29)).alloc (Obj.cells (List.map Value.string (Lib.splitB { data:=#[47] } 0 (Lib.countB s { data:=#[47] }) s)).toArray 9)):=Below.al (Below.al (Below.refl _ _) _) _
  have hS:=SlR.strs (w.alloc (Obj.cells #[Value.int IntKind.i64 sp,Value.string s] 29)) 9 (n:=Lib.countB s { data:=#[47] }+1) (Lib.splitB { data:=#[47] } 0 (Lib.countB s { data:=#[47] }) s) hcl.symm (by have:=countB_le s;omega)
  have e1:(w.alloc (Obj.cells #[Value.int IntKind.i64 sp,Value.string s] 29)).heap.size=w.heap.size+1:=by simp
  rw [e1] at hS
  have c0:((w.alloc (Obj.cells #[Value.int IntKind.i64 sp,Value.string s] 29)).alloc (Obj.cells (List.map Value.string (Lib.splitB { data:=#[47] } 0 (Lib.countB s { data:=#[47] }) s)).toArray 9)).cell? ⟨w.heap.size,0,none⟩=some (.int .i64 sp):=by go_simp
  generalize (w.alloc (Obj.cells #[Value.int IntKind.i64 sp,Value.string s] 29)).alloc (Obj.cells (List.map Value.string (Lib.splitB { data:=#[47] } 0 (Lib.countB s { data:=#[47] }) s)).toArray 9)=w2 at *
  have HB:=Lib.hid hb
  clear hb e1 hcl
  have hsp:Title.valid ⟨sp,s⟩=((Lib.splitB { data:=#[47] } 0 (Lib.countB s { data:=#[47] }) s).all (fun p=>partOK p.data.toList)&&(firstOK (s.data.toList.headD 0).toNat &&
   (decide (sp≠0)||decide (prefixL s.data.toList=none)))):=by simp [Title.valid,h1,h2,h3,h4,h5,Bool.and_assoc]
  have splitB_sizes:=fun p h=>Nat.le_trans (splitB_size ⟨#[47]⟩ (Lib.countB s ⟨#[47]⟩) s p h) h4
  generalize Lib.countB s { data:=#[47] }=K at *
  generalize Lib.splitB { data:=#[47] } 0 K s=ps at *
  have HSP:=Lib.hid hsp
  have HK:=Lib.hid hS.1
  have hle:=hS.le
  clear hsp
  go_loopw [5,37] (fun _ i wr=>∃ q:Nat,q≤K+1∧i = .int .i64 q∧Below w2.heap.size w2 wr∧Hid (ps.all (fun p=>partOK p.data.toList)=(ps.drop q).all (fun p=>partOK p.data.toList))) (fun _ i _=>K+1 - (intOf i).toNat)
  case atStart=>exact ⟨0,by omega,rfl,Below.refl _ _,rfl⟩
  case round=>
   obtain ⟨q,hq,rfl,hbw,hA⟩:=hrel
   have HW:=Lib.hid hbw
   by_cases hlt:q<K+1
   ·obtain ⟨b,off,x,cs,hA0,hbl,hx,hd,hR,hc⟩:=(hS.mono hbw).elem hlt
    obtain ⟨rfl,rfl⟩:w.heap.size+1=b∧0=off:=by injection hA0 with h;injection h with h1 h2;exact ⟨h1,h2⟩
    have d0:wr.cell? ⟨w.heap.size+1,q,none⟩=some (.string x):=by subst hR;simpa using hc 0 _ rfl
    have HD:=Lib.hid hd
    have hxs:=splitB_sizes x (List.mem_of_getElem? hx)
    clear hA0 hx hd hR hc hbw hS h5 h1 h2 hbl splitB_sizes
    by_cases hx0:x.size=0
    ·have hx1:x.toList = []:=by rw [ByteArray.toList_eq];exact List.eq_nil_of_length_eq_zero (by rw [Array.length_toList];exact hx0)
     have HP:Hid (partOK x.data.toList=false):=Lib.hid (by rw [← ByteArray.toList_eq,hx1];rfl)
     clear hx0
     go_wp2
     go_ret
     exact ⟨ret_bool (by rw [HSP.out,hA.out,HD.out,List.all_cons,HP.out];rfl),Below.tr HB.out HW.out⟩
    ·have hx1:¬ x.toList = []:=fun e=>by rw [ByteArray.toList_eq] at e;exact hx0 (by have:=congrArg List.length e;rw [Array.length_toList] at this;exact this)
     have hx2:0<x.size:=by omega
     have hx3:(0:Int)≤(x.size:Int) - 1:=by omega
     have HP:=Lib.hid (partOK_def x hx2)
     clear hx0
     go_wp2
     all_goals (try simp only [beq_iff_eq,beq_eq_false_iff_ne,ne_eq,List.isEmpty_iff,List.isEmpty_eq_false_iff] at *)
     all_goals first
      | (exfalso;omega)
      | (go_ret;refine ⟨ret_bool ?_,Below.tr HB.out HW.out⟩;rw [HSP.out,hA.out,HD.out,List.all_cons,HP.out];simp_all;done)
      | (go_roundw;(case rel=>(refine ⟨q+1,by omega,by go_num,HW.out,?_⟩;refine Lib.hid ?_;rw [hA.out,HD.out,List.all_cons,HP.out];simp_all));(case measure=>(simp [intOf];omega)))
   ·obtain rfl:q=K+1:=by omega
    have hz:ps.all (fun p=>partOK p.data.toList)=true:=by
     rw [hA.out,List.drop_eq_nil_of_le (by rw [← HK.out];exact Nat.le_refl _)];rfl
    rw [hz,Bool.true_and] at HSP
    have c1:wr.cell? ⟨w.heap.size,0,none⟩=some (.int .i64 sp):=re1 hbw (cell_lt c0) c0
    have hm1:wr.cell? ⟨1,0,none⟩=some (.int .i64 m):=re1 (Below.tr HB.out hbw) (cell_lt hm) hm
    have hg:s.data.toList.headD 0=s[0]'(by omega):=head_of s (by omega)
    rw [hg] at HSP
    have hs0:(0:Int)<s.size:=by omega
    clear hz hbw hS h5 hA c0 hle splitB_sizes hg hm
    rcases hp:prefixL s.data.toList with _ | ⟨n,r⟩
    ·rw [hp] at HSP
     have hpr:=fun W h1 h2=>prefix_none s W h1 h2 hp
     clear hp
     go_wp2_with (go_at_call 129;refine (hpr _ (by omega) ⟨m,by assumption⟩).mono ?_;rintro e w5 ⟨rfl,hb5⟩;have c2:=re1 hb5 (cell_lt c1) c1)
     all_goals
      go_ret
      refine ⟨ret_bool ?_,?_⟩
      ·rw [HSP.out]
       simp only [beq_iff_eq,beq_eq_false_iff_ne,ne_eq] at *
       first
        | (rw [firstOK_no1 (by omega)];rfl)
        | (rw [firstOK_no2 (by omega) (by omega)];rfl)
        | (rw [firstOK_yes (by omega) (by omega)];simp_all;done)
      ·first | exact Below.tr (Below.tr HB.out HW.out) (by assumption) | exact Below.tr HB.out HW.out
    ·rw [hp] at HSP
     have hpr:=fun W h1 h2=>prefix_some s W h1 h2 hp
     clear hp
     go_wp2_with (go_at_call 129;refine (hpr _ (by omega) ⟨m,by assumption⟩).mono ?_;rintro e w5 ⟨rfl,hb5⟩;have c2:=re1 hb5 (cell_lt c1) c1)
     all_goals
      go_ret
      refine ⟨ret_bool ?_,?_⟩
      ·rw [HSP.out]
       simp only [beq_iff_eq,beq_eq_false_iff_ne,ne_eq] at *
       first
        | (rw [firstOK_no1 (by omega)];rfl)
        | (rw [firstOK_no2 (by omega) (by omega)];rfl)
        | (rw [firstOK_yes (by omega) (by omega)];simp_all;done)
      ·first | exact Below.tr (Below.tr HB.out HW.out) (by assumption) | exact Below.tr HB.out HW.out
 ·go_enter Tryz.func86,Tryz.ntmps86
  have hv:Title.valid ⟨sp,s⟩=false:=by
   cases hV:Title.valid ⟨sp,s⟩ with
   | false=>rfl
   | true=>
     simp only [Title.valid,Bool.and_eq_true,decide_eq_true_eq] at hV
     obtain ⟨⟨⟨⟨⟨⟨⟨ha,hb⟩,hc⟩,hd⟩,hcl⟩,_⟩,_⟩,_⟩:=hV
     exact absurd ⟨⟨ha,hb⟩,⟨hc,hd⟩,hcl⟩ h
  have HV:=Lib.hid hv
  clear hv
  go_wp2_with (first | (go_at_call 128;refine (clean_any _ _ (by omega)).mono ?_;rintro e w' ⟨rfl,rfl⟩) | (go_at_call 121;exfalso;have h6:(!cleanL (-1) s.data.toList)=false:=And.right (by assumption);simp at h6;exact h ⟨⟨by omega,by omega⟩,⟨by omega,by omega⟩,h6⟩))
  all_goals
   go_ret
   exact ⟨ret_bool HV.out.symm,Below.al (Below.refl _ _) _⟩
end Go.Proofs.YtphibahplgmgfaaGreatDoor
namespace Go.Proofs.YtphibahplgmgfaaGreatDoor
open Go.RowKit
def lowI (b:Int):Int:=if 65≤b∧b≤90 then b+32 else b
set_option maxRecDepth 100000 in
set_option maxHeartbeats 400000 in
theorem refLower_any (b:Int) (h0:0≤b) (h1:b<256) (w:World):Calls Tryz.prog 176 #[.int .u8 b] w fun e w'=>e = .returned (.int .u8 (lowI b))∧w=w':=by
 go_enter Tryz.func176,Tryz.ntmps176
 go_wp2
 all_goals
  go_ret
  refine ⟨ret_int ?_,rfl⟩
  unfold lowI
  first | (rw [if_pos (by omega)];done) | (rw [if_neg (by omega)];done)
theorem lowI_lowB (c:UInt8):lowI c.toNat=(lowB c).toNat:=by
 unfold lowI lowB
 by_cases h:65≤c.toNat∧c.toNat≤90
 ·rw [if_pos (by omega),if_pos h];simp;omega
 ·rw [if_neg (by omega),if_neg h]
theorem u8_lt (c:UInt8):0≤(c.toNat:Int)∧(c.toNat:Int)<256:=by have:=c.toNat_lt;omega
theorem piece_occ (a b:ByteArray) (j:Nat) (hj:j+b.size≤a.size):((a.extract j (j+b.size)).toList == b.toList)=Lib.occAt a.data.toList b.data.toList j:=by
 rw [← Lib.piece_eq_occAt a b j hj,beq_toListBytes]
theorem no_occ {a b:ByteArray} {j:Nat} (hj:¬ j+b.size≤a.size) (hl:j≤a.size):Lib.occAt a.data.toList b.data.toList j=false:=by
 cases ho:Lib.occAt a.data.toList b.data.toList j with
 | false=>rfl
 | true=>
   rcases Lib.occAt_room ho with h | h
   ·rw [← Lib.size_eq,← Lib.size_eq] at h;omega
   ·have:b.size=0:=by rw [Lib.size_eq,h];rfl
    omega
set_option maxRecDepth 100000 in
set_option maxHeartbeats 1000000 in
theorem refIndex_any (s t:ByteArray) (w:World) (hs:s.size+t.size≤9223372036854775806):Calls Tryz.prog 97 #[.string s,.string t,.int .i64 0] w fun e w'=>e = .returned (.int .i64 (Lib.index s.data.toList t.data.toList))∧w=w':=by
 go_enter Tryz.func97,Tryz.ntmps97
 go_wp2
 go_loop [7] (fun i=>∃ q:Nat,q≤s.size+1∧i = .int .i64 q∧Hid (∀ j,j<q→Lib.occAt s.data.toList t.data.toList j=false)) (fun i=>s.size+1 - (intOf i).toNat)
 case atStart=>exact ⟨0,by omega,rfl,fun j h=>absurd h (by omega)⟩
 case round=>
  obtain ⟨q,hq,rfl,hno⟩:=hrel
  by_cases hlt:q+t.size≤s.size
  ·have b1:(0:Int)≤q:=by omega
   have b2:(q:Int)+(t.size:Int)≤(s.size:Int):=by omega
   go_wp2
   ·rename_i hocc _
    go_ret
    refine ⟨ret_int ?_,rfl⟩
    rw [piece_occ s t q hlt] at hocc
    rw [Lib.index_first (by rw [← Lib.size_eq];omega) hocc hno.out]
   ·rename_i hocc
    rw [piece_occ s t q hlt] at hocc
    refine ⟨⟨q+1,by omega,by simp,fun j hj=>?_⟩,by simp [intOf];omega⟩
    by_cases hjq:j<q
    ·exact hno.out j hjq
    ·have:j=q:=by omega
     subst this;exact hocc
  ·have b2:¬ (q:Int)+(t.size:Int)≤(s.size:Int):=by omega
   have b3:(s.size:Int)<(q:Int)+(t.size:Int):=by omega
   go_wp2
   all_goals
    first
    | (exfalso;omega)
    | (go_ret
       refine ⟨ret_int ?_,rfl⟩
       rw [Lib.index_none]
       intro j hj
       rw [← Lib.size_eq] at hj
       by_cases hjq:j<q
       ·exact hno.out j hjq
       ·exact no_occ (by omega) hj)
end Go.Proofs.YtphibahplgmgfaaGreatDoor
namespace Go.Proofs.YtphibahplgmgfaaGreatDoor
open Go.RowKit
def nameC (c:UInt8):Bool:=decide ((97≤c.toNat∧c.toNat≤122)∨(48≤c.toNat∧c.toNat≤57)∨c.toNat=45∨c.toNat=95)
def isName (s:ByteArray):Bool:=decide (1≤s.size∧s.size≤30∧97≤(s.data.toList.headD 0).toNat∧(s.data.toList.headD 0).toNat≤122)&&s.data.toList.all nameC
theorem headD_eq (s:ByteArray) (h:0<s.size):s.data.toList.headD 0=s[0]:=by
 have h2:s.data.toList[0]? = some s[0]:=List.getElem?_eq_getElem (by rw [Array.length_toList];exact h)
 cases hl:s.data.toList with
 | nil=>rw [hl] at h2;cases h2
 | cons a r=>rw [hl] at h2;simpa using h2
theorem nameC_all (s:ByteArray) (h:∀ j (hj:j<s.size),nameC s[j]=true):s.data.toList.all nameC=true:=by
 rw [List.all_eq_true]
 intro x hx
 obtain ⟨j,hj,rfl⟩:=List.mem_iff_getElem.1 hx
 exact h j (by rw [Array.length_toList] at hj;exact hj)
theorem nameC_not (s:ByteArray) (j:Nat) (hj:j<s.size) (h:nameC s[j]=false):s.data.toList.all nameC=false:=by
 rw [List.all_eq_false]
 exact ⟨s[j],List.mem_iff_getElem.2 ⟨j,by rw [Array.length_toList];exact hj,rfl⟩,by rw [h];decide⟩
theorem isName_short {s:ByteArray} (h:s.size<1):isName s=false:=by
 unfold isName;rw [decide_eq_false (by omega),Bool.false_and]
theorem isName_long {s:ByteArray} (h:30<s.size):isName s=false:=by
 unfold isName;rw [decide_eq_false (by omega),Bool.false_and]
theorem isName_first {s:ByteArray} (h:0<s.size) (h1:(s[0].toNat:Int)<97∨(122:Int)<s[0].toNat):isName s=false:=by
 unfold isName;rw [headD_eq s h,decide_eq_false (by omega),Bool.false_and]
theorem isName_bad {s:ByteArray} (j:Nat) (hj:j<s.size) (h:nameC s[j]=false):isName s=false:=by
 unfold isName;rw [nameC_not s j hj h,Bool.and_false]
theorem isName_good {s:ByteArray} (h0:0<s.size) (h30:s.size≤30) (h1:(97:Int)≤s[0].toNat) (h2:(s[0].toNat:Int)≤122) (h:∀ j (hj:j<s.size),nameC s[j]=true):isName s=true:=by
 unfold isName;rw [nameC_all s h,headD_eq s h0,decide_eq_true (by omega)];rfl
end Go.Proofs.YtphibahplgmgfaaGreatDoor
