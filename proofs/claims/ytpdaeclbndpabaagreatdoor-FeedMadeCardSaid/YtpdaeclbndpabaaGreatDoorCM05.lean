/- DERIVED: THE SHELF's CONTRACTS AT THIS DUMP, IN PLAIN WORDS -/
import Derived.Shelf.SlicesQ.Reverse
import Derived.Shelf.Strings.OnBuilder
import Derived.Shelf.Strings.Trim
import Derived.Shelf.Small.Wraps
import Derived.Shelf.Utf8.RuneCount
import Derived.Shelf.Strings.Shaped
import Derived.Shelf.Sort.Plain
import Derived.Shelf.Strings.SplitShaped
import Derived.Shelf.Strings.IndexAnyAll
import Derived.Shelf.Strings.Explode
import Derived.Shelf.Strings.FieldsFuncGrows
import Derived.Shelf.Strings.BuilderCap
import Derived.Shelf.Slices.Turned
import Derived.Shelf.Slices.SearchI
import Derived.Test.YtpdaeclbndpabaaGreatDoorCM04
set_option linter.unusedSimpArgs false
set_option maxHeartbeats 2000000
set_option maxRecDepth 100000
set_option linter.unusedVariables false
namespace Go.Proofs
open Go.Shelf
def Tryz.lays156_ren:Go.Shelf.Ren:=⟨fun | 156=>280 | 165=>282 | 166=>283 | 169=>284 | 240=>285 | 241=>286 | 276=>287 | 277=>288 | n=>n,fun | 31=>32 | 9=>9 | 3=>3 | 4=>4 | 0=>0 | 20=>20 | 72=>289 | 76=>293 | 70=>287 | 37=>230 | 75=>292 | 127=>296 | 164=>297 | 5=>5 | 80=>295 | n=>n,fun | n=>n⟩
theorem Tryz.lays156:Go.Proofs.Lays.n156 Tryz.prog Tryz.lays156_ren:={
 mixed:=by kernel_rfl
 f156:=Tryz.func280.trans (congrArg some (by kernel_rfl))
 f165:=Tryz.func282.trans (congrArg some (by kernel_rfl))
 f166:=Tryz.func283.trans (congrArg some (by kernel_rfl))
 f169:=Tryz.func284.trans (congrArg some (by kernel_rfl))
 f240:=Tryz.func285.trans (congrArg some (by kernel_rfl))
 f241:=Tryz.func286.trans (congrArg some (by kernel_rfl))
 f276:=Tryz.func287.trans (congrArg some (by kernel_rfl))
 f277:=Tryz.func288.trans (congrArg some (by kernel_rfl))
 t0:=Tryz.underlying0
 a0:=Tryz.isAgg0
 z0:=Tryz.sizeOf0
 v0:=Tryz.zeroValue0
 t3:=Tryz.underlying3
 a3:=Tryz.isAgg3
 z3:=Tryz.sizeOf3
 v3:=Tryz.zeroValue3
 t4:=Tryz.underlying4
 a4:=Tryz.isAgg4
 z4:=Tryz.sizeOf4
 v4:=Tryz.zeroValue4
 t9:=Tryz.underlying9
 a9:=Tryz.isAgg9
 z9:=Tryz.sizeOf9
 v9:=Tryz.zeroValue9
 t20:=Tryz.underlying20
 a20:=Tryz.isAgg20
 z20:=Tryz.sizeOf20
 v20:=Tryz.zeroValue20
 t31:=Tryz.underlying32
 a31:=Tryz.isAgg32
 z31:=Tryz.sizeOf32
 v31:=Tryz.zeroValue32
 t37:=Tryz.underlying230
 a37:=Tryz.isAgg230
 z37:=Tryz.sizeOf230
 v37:=Tryz.zeroValue230
 t70:=Tryz.underlying287
 a70:=Tryz.isAgg287
 z70:=Tryz.sizeOf287
 v70:=Tryz.zeroValue287
 t72:=Tryz.underlying289
 a72:=Tryz.isAgg289
 z72:=Tryz.sizeOf289
 v72:=Tryz.zeroValue289
 t75:=Tryz.underlying292
 a75:=Tryz.isAgg292
 z75:=Tryz.sizeOf292
 v75:=Tryz.zeroValue292
 t76:=Tryz.underlying293
 a76:=Tryz.isAgg293
 z76:=Tryz.sizeOf293
 v76:=Tryz.zeroValue293
 t127:=Tryz.underlying296
 a127:=Tryz.isAgg296
 z127:=Tryz.sizeOf296
 v127:=Tryz.zeroValue296
 t164:=Tryz.underlying297
 a164:=Tryz.isAgg297
 z164:=Tryz.sizeOf297
 v164:=Tryz.zeroValue297 }
theorem Tryz.Builder_Extra_156:Builder.Extra Tryz.prog Tryz.lays156_ren:={
 sizeBuilder:=by kernel_rfl
 liesBuilder:=by kernel_rfl
 t5:=Tryz.underlying5
 a5:=Tryz.isAgg5
 z5:=Tryz.sizeOf5
 v5:=Tryz.zeroValue5
 infoByte:=by kernel_rfl
 cellsByte:=by kernel_rfl
 sizeByte:=by kernel_rfl
 neB5:=by decide }
open Go.RowKit in
theorem Tryz.strings_Join (bk o c:Nat) (xs:List ByteArray) (sep:ByteArray) (w:World) (hcells:∀ (j:Nat) x,xs[j]? = some x->w.cell? ⟨bk,o+j,none⟩=some (.string x)) (hbk:bk<w.heap.size) (hN:xs.length<=140737488355328) (hcap:xs.length<=c) (hlen:(Lib.join (xs.map (·.data.toList)) sep.data.toList).length<=140737488355328) :
  Calls Tryz.prog 280 #[.slice (some ⟨bk,o,none⟩) xs.length c,.string sep] w fun e w'=>e = .returned (.string ⟨(Lib.join (xs.map (·.data.toList)) sep.data.toList).toArray⟩)/\Below w.heap.size w w':=Any.strings_Join Tryz.lays156 Tryz.Builder_Extra_156 bk o c xs sep w hcells hbk hN hcap hlen
def Tryz.lays213_ren:Go.Shelf.Ren:=⟨fun | 213=>174 | 265=>214 | n=>n,fun | 9=>9 | 3=>3 | n=>n,fun | n=>n⟩
def Tryz.lays106_ren:Go.Shelf.Ren:=⟨fun | 106=>133 | 213=>174 | 265=>214 | n=>n,fun | 9=>9 | 3=>3 | n=>n,fun | n=>n⟩
theorem Tryz.lays106:Go.Proofs.Lays.n106 Tryz.prog Tryz.lays106_ren:={
 mixed:=by kernel_rfl
 f106:=Tryz.func133.trans (congrArg some (by kernel_rfl))
 f213:=Tryz.func174.trans (congrArg some (by kernel_rfl))
 f265:=Tryz.func214.trans (congrArg some (by kernel_rfl))
 t3:=Tryz.underlying3
 a3:=Tryz.isAgg3
 z3:=Tryz.sizeOf3
 v3:=Tryz.zeroValue3
 t9:=Tryz.underlying9
 a9:=Tryz.isAgg9
 z9:=Tryz.sizeOf9
 v9:=Tryz.zeroValue9 }
open Go.RowKit in
theorem Tryz.strings_Compare (a b:ByteArray) (w:World) :
  Calls Tryz.prog 133 #[.string a,.string b] w fun e w'=>e = .returned (.int .i64 (Lib.compareBytes a.data.toList b.data.toList))/\w'=w:=Any.strings_Compare Tryz.lays106 a b w
def Tryz.lays137_ren:Go.Shelf.Ren:=⟨fun | 137=>136 | 217=>185 | 266=>220 | n=>n,fun | 9=>9 | 5=>5 | 3=>3 | n=>n,fun | n=>n⟩
theorem Tryz.lays137:Go.Proofs.Lays.n137 Tryz.prog Tryz.lays137_ren:={
 mixed:=by kernel_rfl
 f137:=Tryz.func136.trans (congrArg some (by kernel_rfl))
 f217:=Tryz.func185.trans (congrArg some (by kernel_rfl))
 f266:=Tryz.func220.trans (congrArg some (by kernel_rfl))
 t3:=Tryz.underlying3
 a3:=Tryz.isAgg3
 z3:=Tryz.sizeOf3
 v3:=Tryz.zeroValue3
 t5:=Tryz.underlying5
 a5:=Tryz.isAgg5
 z5:=Tryz.sizeOf5
 v5:=Tryz.zeroValue5
 t9:=Tryz.underlying9
 a9:=Tryz.isAgg9
 z9:=Tryz.sizeOf9
 v9:=Tryz.zeroValue9 }
open Go.RowKit in
theorem Tryz.strings_IndexByte (s:ByteArray) (c:Int) (w:World) :
  Calls Tryz.prog 136 #[.string s,.int .u8 c] w fun e w'=>e = .returned (.int .i64 (Lib.indexByte s.data.toList c.toNat.toUInt8))/\w'=w:=Any.strings_IndexByte Tryz.lays137 s c w
def Tryz.lays210_ren:Go.Shelf.Ren:=⟨fun | 210=>268 | 206=>276 | n=>n,fun | 9=>9 | 4=>4 | 3=>3 | n=>n,fun | n=>n⟩
def Tryz.lays219_ren:Go.Shelf.Ren:=⟨fun | 219=>224 | 217=>185 | 225=>249 | 224=>250 | 267=>251 | 266=>220 | 314=>271 | n=>n,fun | 9=>9 | 3=>3 | 4=>4 | 5=>5 | 46=>70 | 146=>282 | 51=>227 | n=>n,fun | 1=>1 | n=>n⟩
def Tryz.lays145_ren:Go.Shelf.Ren:=⟨fun | 145=>138 | 220=>189 | 219=>224 | 217=>185 | 225=>249 | 224=>250 | 267=>251 | 266=>220 | 314=>271 | n=>n,fun | 9=>9 | 4=>4 | 59=>184 | 3=>3 | 5=>5 | 46=>70 | 146=>282 | 51=>227 | n=>n,fun | 1=>1 | n=>n⟩
theorem Tryz.lays145:Go.Proofs.Lays.n145 Tryz.prog Tryz.lays145_ren:={
 mixed:=by kernel_rfl
 f145:=Tryz.func138.trans (congrArg some (by kernel_rfl))
 f217:=Tryz.func185.trans (congrArg some (by kernel_rfl))
 f219:=Tryz.func224.trans (congrArg some (by kernel_rfl))
 f220:=Tryz.func189.trans (congrArg some (by kernel_rfl))
 f224:=Tryz.func250.trans (congrArg some (by kernel_rfl))
 f225:=Tryz.func249.trans (congrArg some (by kernel_rfl))
 f266:=Tryz.func220.trans (congrArg some (by kernel_rfl))
 f267:=Tryz.func251.trans (congrArg some (by kernel_rfl))
 f314:=Tryz.func271.trans (congrArg some (by kernel_rfl))
 t3:=Tryz.underlying3
 a3:=Tryz.isAgg3
 z3:=Tryz.sizeOf3
 v3:=Tryz.zeroValue3
 t4:=Tryz.underlying4
 a4:=Tryz.isAgg4
 z4:=Tryz.sizeOf4
 v4:=Tryz.zeroValue4
 t5:=Tryz.underlying5
 a5:=Tryz.isAgg5
 z5:=Tryz.sizeOf5
 v5:=Tryz.zeroValue5
 t9:=Tryz.underlying9
 a9:=Tryz.isAgg9
 z9:=Tryz.sizeOf9
 v9:=Tryz.zeroValue9
 t46:=Tryz.underlying70
 a46:=Tryz.isAgg70
 z46:=Tryz.sizeOf70
 v46:=Tryz.zeroValue70
 t51:=Tryz.underlying227
 a51:=Tryz.isAgg227
 z51:=Tryz.sizeOf227
 v51:=Tryz.zeroValue227
 t59:=Tryz.underlying184
 a59:=Tryz.isAgg184
 z59:=Tryz.sizeOf184
 v59:=Tryz.zeroValue184
 t146:=Tryz.underlying282
 a146:=Tryz.isAgg282
 z146:=Tryz.sizeOf282
 v146:=Tryz.zeroValue282
 g1:=by kernel_rfl }
open Go.RowKit Go.Lib in
theorem Tryz.strings_Cut (s sep:ByteArray) (m:Int) (w:World) (hs:s.size<4294967281) (hm:w.cell? ⟨1,0,none⟩=some (.int .i64 m)) :
  Calls Tryz.prog 138 #[.string s,.string sep] w fun e w'=>e = .returned (.tuple #[.string ⟨(Lib.cut s.data.toList sep.data.toList).1.toArray⟩,.string ⟨(Lib.cut s.data.toList sep.data.toList).2.1.toArray⟩,.bool (Lib.cut s.data.toList sep.data.toList).2.2])/\∃ n,w'=w.drewN n:=Any.strings_Cut Tryz.lays145 s sep m w hs hm
def Tryz.lays138_ren:Go.Shelf.Ren:=⟨fun | 138=>187 | 195=>221 | 218=>223 | 143=>188 | 219=>224 | 217=>185 | 225=>249 | 224=>250 | 267=>251 | 266=>220 | 314=>271 | n=>n,fun | 9=>9 | 3=>3 | 4=>4 | 5=>5 | 0=>0 | 46=>70 | 146=>282 | 51=>227 | n=>n,fun | 1=>1 | n=>n⟩
theorem Tryz.lays138:Go.Proofs.Lays.n138 Tryz.prog Tryz.lays138_ren:={
 mixed:=by kernel_rfl
 f138:=Tryz.func187.trans (congrArg some (by kernel_rfl))
 f143:=Tryz.func188.trans (congrArg some (by kernel_rfl))
 f195:=Tryz.func221.trans (congrArg some (by kernel_rfl))
 f217:=Tryz.func185.trans (congrArg some (by kernel_rfl))
 f218:=Tryz.func223.trans (congrArg some (by kernel_rfl))
 f219:=Tryz.func224.trans (congrArg some (by kernel_rfl))
 f224:=Tryz.func250.trans (congrArg some (by kernel_rfl))
 f225:=Tryz.func249.trans (congrArg some (by kernel_rfl))
 f266:=Tryz.func220.trans (congrArg some (by kernel_rfl))
 f267:=Tryz.func251.trans (congrArg some (by kernel_rfl))
 f314:=Tryz.func271.trans (congrArg some (by kernel_rfl))
 t0:=Tryz.underlying0
 a0:=Tryz.isAgg0
 z0:=Tryz.sizeOf0
 v0:=Tryz.zeroValue0
 t3:=Tryz.underlying3
 a3:=Tryz.isAgg3
 z3:=Tryz.sizeOf3
 v3:=Tryz.zeroValue3
 t4:=Tryz.underlying4
 a4:=Tryz.isAgg4
 z4:=Tryz.sizeOf4
 v4:=Tryz.zeroValue4
 t5:=Tryz.underlying5
 a5:=Tryz.isAgg5
 z5:=Tryz.sizeOf5
 v5:=Tryz.zeroValue5
 t9:=Tryz.underlying9
 a9:=Tryz.isAgg9
 z9:=Tryz.sizeOf9
 v9:=Tryz.zeroValue9
 t46:=Tryz.underlying70
 a46:=Tryz.isAgg70
 z46:=Tryz.sizeOf70
 v46:=Tryz.zeroValue70
 t51:=Tryz.underlying227
 a51:=Tryz.isAgg227
 z51:=Tryz.sizeOf227
 v51:=Tryz.zeroValue227
 t146:=Tryz.underlying282
 a146:=Tryz.isAgg282
 z146:=Tryz.sizeOf282
 v146:=Tryz.zeroValue282
 g1:=by kernel_rfl }
open Go.RowKit Go.Lib in
theorem Tryz.strings_Count_one (s:ByteArray) (c:UInt8) (w:World) :
  Calls Tryz.prog 187 #[.string s,.string ⟨#[c]⟩] w fun e w'=>e = .returned (.int .i64 (Lib.countByte s.data.toList c))/\w'=w:=Any.strings_Count_one Tryz.lays138 s c w
def Tryz.lays190_ren:Go.Shelf.Ren:=⟨fun | 190=>94 | 125=>135 | 258=>149 | 128=>183 | 129=>184 | 302=>198 | 303=>199 | 304=>200 | 305=>201 | 306=>202 | 307=>203 | 308=>204 | 309=>205 | 310=>206 | 333=>239 | 329=>216 | 330=>217 | 334=>240 | 335=>241 | 336=>242 | 344=>270 | n=>n,fun | 31=>32 | 9=>9 | 3=>3 | 46=>70 | 0=>0 | 51=>227 | 53=>67 | 4=>4 | 183=>220 | 182=>219 | 131=>224 | 5=>5 | 218=>245 | 222=>249 | 228=>261 | 229=>151 | n=>n,fun | n=>n⟩
theorem Tryz.lays190:Go.Proofs.Lays.n190 Tryz.prog Tryz.lays190_ren:={
 mixed:=by kernel_rfl
 f125:=Tryz.func135.trans (congrArg some (by kernel_rfl))
 f128:=Tryz.func183.trans (congrArg some (by kernel_rfl))
 f129:=Tryz.func184.trans (congrArg some (by kernel_rfl))
 f190:=Tryz.func94.trans (congrArg some (by kernel_rfl))
 f258:=Tryz.func149.trans (congrArg some (by kernel_rfl))
 f302:=Tryz.func198.trans (congrArg some (by kernel_rfl))
 f303:=Tryz.func199.trans (congrArg some (by kernel_rfl))
 f304:=Tryz.func200.trans (congrArg some (by kernel_rfl))
 f305:=Tryz.func201.trans (congrArg some (by kernel_rfl))
 f306:=Tryz.func202.trans (congrArg some (by kernel_rfl))
 f307:=Tryz.func203.trans (congrArg some (by kernel_rfl))
 f308:=Tryz.func204.trans (congrArg some (by kernel_rfl))
 f309:=Tryz.func205.trans (congrArg some (by kernel_rfl))
 f310:=Tryz.func206.trans (congrArg some (by kernel_rfl))
 f329:=Tryz.func216.trans (congrArg some (by kernel_rfl))
 f330:=Tryz.func217.trans (congrArg some (by kernel_rfl))
 f333:=Tryz.func239.trans (congrArg some (by kernel_rfl))
 f334:=Tryz.func240.trans (congrArg some (by kernel_rfl))
 f335:=Tryz.func241.trans (congrArg some (by kernel_rfl))
 f336:=Tryz.func242.trans (congrArg some (by kernel_rfl))
 f344:=Tryz.func270.trans (congrArg some (by kernel_rfl))
 t0:=Tryz.underlying0
 a0:=Tryz.isAgg0
 z0:=Tryz.sizeOf0
 v0:=Tryz.zeroValue0
 t3:=Tryz.underlying3
 a3:=Tryz.isAgg3
 z3:=Tryz.sizeOf3
 v3:=Tryz.zeroValue3
 t4:=Tryz.underlying4
 a4:=Tryz.isAgg4
 z4:=Tryz.sizeOf4
 v4:=Tryz.zeroValue4
 t5:=Tryz.underlying5
 a5:=Tryz.isAgg5
 z5:=Tryz.sizeOf5
 v5:=Tryz.zeroValue5
 t9:=Tryz.underlying9
 a9:=Tryz.isAgg9
 z9:=Tryz.sizeOf9
 v9:=Tryz.zeroValue9
 t31:=Tryz.underlying32
 a31:=Tryz.isAgg32
 z31:=Tryz.sizeOf32
 v31:=Tryz.zeroValue32
 t46:=Tryz.underlying70
 a46:=Tryz.isAgg70
 z46:=Tryz.sizeOf70
 v46:=Tryz.zeroValue70
 t51:=Tryz.underlying227
 a51:=Tryz.isAgg227
 z51:=Tryz.sizeOf227
 v51:=Tryz.zeroValue227
 t53:=Tryz.underlying67
 a53:=Tryz.isAgg67
 z53:=Tryz.sizeOf67
 v53:=Tryz.zeroValue67
 t131:=Tryz.underlying224
 a131:=Tryz.isAgg224
 z131:=Tryz.sizeOf224
 v131:=Tryz.zeroValue224
 t182:=Tryz.underlying219
 a182:=Tryz.isAgg219
 z182:=Tryz.sizeOf219
 v182:=Tryz.zeroValue219
 t183:=Tryz.underlying220
 a183:=Tryz.isAgg220
 z183:=Tryz.sizeOf220
 v183:=Tryz.zeroValue220
 t218:=Tryz.underlying245
 a218:=Tryz.isAgg245
 z218:=Tryz.sizeOf245
 v218:=Tryz.zeroValue245
 t222:=Tryz.underlying249
 a222:=Tryz.isAgg249
 z222:=Tryz.sizeOf249
 v222:=Tryz.zeroValue249
 t228:=Tryz.underlying261
 a228:=Tryz.isAgg261
 z228:=Tryz.sizeOf261
 v228:=Tryz.zeroValue261
 t229:=Tryz.underlying151
 a229:=Tryz.isAgg151
 z229:=Tryz.sizeOf151
 v229:=Tryz.zeroValue151 }
open Go.Sort Go.RowKit in
theorem Tryz.slices_Sort_string (blk off cap:Nat) (ss:List (List UInt8)) (w:World) (hH:Holds encStr w blk off ss.toArray) (hblk:blk<w.heap.size) (hsz:ss.length<4611686018427387904) :
  Calls Tryz.prog 94 #[.slice (some ⟨blk,off,none⟩) ss.length cap] w fun e w'=>
   e = .returned (.tuple #[])/\∃ n os,w'=grow (putRow encStr (Sort.ahead w n) blk off (ss.mergeSort fun x y=>decide (x<=y)).toArray) os:=Any.slices_Sort_string Tryz.lays190 blk off cap ss w hH hblk hsz
def Tryz.lays102_ren:Go.Shelf.Ren:=⟨fun | 102=>140 | 209=>190 | 207=>225 | n=>n,fun | 9=>9 | 4=>4 | 3=>3 | n=>n,fun | n=>n⟩
theorem Tryz.lays102:Go.Proofs.Lays.n102 Tryz.prog Tryz.lays102_ren:={
 mixed:=by kernel_rfl
 f102:=Tryz.func140.trans (congrArg some (by kernel_rfl))
 f207:=Tryz.func225.trans (congrArg some (by kernel_rfl))
 f209:=Tryz.func190.trans (congrArg some (by kernel_rfl))
 t3:=Tryz.underlying3
 a3:=Tryz.isAgg3
 z3:=Tryz.sizeOf3
 v3:=Tryz.zeroValue3
 t4:=Tryz.underlying4
 a4:=Tryz.isAgg4
 z4:=Tryz.sizeOf4
 v4:=Tryz.zeroValue4
 t9:=Tryz.underlying9
 a9:=Tryz.isAgg9
 z9:=Tryz.sizeOf9
 v9:=Tryz.zeroValue9 }
open Go.RowKit Go.Lib in
theorem Tryz.strings_TrimSuffix (s p:ByteArray) (w:World) (hs:s.size<=9223372036854775807) :
  Calls Tryz.prog 140 #[.string s,.string p] w fun e w'=>e = .returned (.string ⟨(Lib.trimSuffix s.data.toList p.data.toList).toArray⟩)/\w'=w:=Any.strings_TrimSuffix Tryz.lays102 s p w hs
def Tryz.lays221_ren:Go.Shelf.Ren:=⟨fun | 221=>137 | 268=>186 | 138=>187 | 143=>188 | 195=>221 | 197=>222 | 218=>223 | 219=>224 | 260=>248 | 217=>185 | 225=>249 | 224=>250 | 267=>251 | 266=>220 | 314=>271 | n=>n,fun | 9=>9 | 3=>3 | 31=>32 | 4=>4 | 0=>0 | 105=>251 | 21=>21 | 5=>5 | 46=>70 | 119=>278 | 139=>281 | 138=>280 | 146=>282 | 51=>227 | n=>n,fun | 1=>1 | 3=>2 | 4=>3 | n=>n⟩
theorem Tryz.lays221:Go.Proofs.Lays.n221 Tryz.prog Tryz.lays221_ren:={
 mixed:=by kernel_rfl
 f138:=Tryz.func187.trans (congrArg some (by kernel_rfl))
 f143:=Tryz.func188.trans (congrArg some (by kernel_rfl))
 f195:=Tryz.func221.trans (congrArg some (by kernel_rfl))
 f197:=Tryz.func222.trans (congrArg some (by kernel_rfl))
 f217:=Tryz.func185.trans (congrArg some (by kernel_rfl))
 f218:=Tryz.func223.trans (congrArg some (by kernel_rfl))
 f219:=Tryz.func224.trans (congrArg some (by kernel_rfl))
 f221:=Tryz.func137.trans (congrArg some (by kernel_rfl))
 f224:=Tryz.func250.trans (congrArg some (by kernel_rfl))
 f225:=Tryz.func249.trans (congrArg some (by kernel_rfl))
 f260:=Tryz.func248.trans (congrArg some (by kernel_rfl))
 f266:=Tryz.func220.trans (congrArg some (by kernel_rfl))
 f267:=Tryz.func251.trans (congrArg some (by kernel_rfl))
 f268:=Tryz.func186.trans (congrArg some (by kernel_rfl))
 f314:=Tryz.func271.trans (congrArg some (by kernel_rfl))
 t0:=Tryz.underlying0
 a0:=Tryz.isAgg0
 z0:=Tryz.sizeOf0
 v0:=Tryz.zeroValue0
 t3:=Tryz.underlying3
 a3:=Tryz.isAgg3
 z3:=Tryz.sizeOf3
 v3:=Tryz.zeroValue3
 t4:=Tryz.underlying4
 a4:=Tryz.isAgg4
 z4:=Tryz.sizeOf4
 v4:=Tryz.zeroValue4
 t5:=Tryz.underlying5
 a5:=Tryz.isAgg5
 z5:=Tryz.sizeOf5
 v5:=Tryz.zeroValue5
 t9:=Tryz.underlying9
 a9:=Tryz.isAgg9
 z9:=Tryz.sizeOf9
 v9:=Tryz.zeroValue9
 t21:=Tryz.underlying21
 a21:=Tryz.isAgg21
 z21:=Tryz.sizeOf21
 v21:=Tryz.zeroValue21
 t31:=Tryz.underlying32
 a31:=Tryz.isAgg32
 z31:=Tryz.sizeOf32
 v31:=Tryz.zeroValue32
 t46:=Tryz.underlying70
 a46:=Tryz.isAgg70
 z46:=Tryz.sizeOf70
 v46:=Tryz.zeroValue70
 t51:=Tryz.underlying227
 a51:=Tryz.isAgg227
 z51:=Tryz.sizeOf227
 v51:=Tryz.zeroValue227
 t105:=Tryz.underlying251
 a105:=Tryz.isAgg251
 z105:=Tryz.sizeOf251
 v105:=Tryz.zeroValue251
 t119:=Tryz.underlying278
 a119:=Tryz.isAgg278
 z119:=Tryz.sizeOf278
 t138:=Tryz.underlying280
 a138:=Tryz.isAgg280
 z138:=Tryz.sizeOf280
 v138:=Tryz.zeroValue280
 t139:=Tryz.underlying281
 a139:=Tryz.isAgg281
 z139:=Tryz.sizeOf281
 v139:=Tryz.zeroValue281
 t146:=Tryz.underlying282
 a146:=Tryz.isAgg282
 z146:=Tryz.sizeOf282
 v146:=Tryz.zeroValue282
 g1:=by kernel_rfl
 g3:=by kernel_rfl
 g4:=by kernel_rfl }
open Go.RowKit Go.Lib in
theorem Tryz.strings_genSplit (s sep:ByteArray) (sv:Nat) (n:Int) (N:Nat) (m:Int) (w:World) (hs:s.size<4294967281) (hm:w.cell? ⟨1,0,none⟩=some (.int .i64 m)) (h1:1<=sep.size) (hsv:sv<=sep.size) (hn0:n≠0) (hn63:n<=9223372036854775807) (hN:(N:Int)=min (if n<0 then (Lib.countB s sep:Int)+1 else n) ((s.size:Int)+1)) :
  Calls Tryz.prog 137 #[.string s,.string sep,.int .i64 sv,.int .i64 n] w fun e w'=>
   e = .returned (.slice (some ⟨w.heap.size,0,none⟩) (Lib.splitB sep sv (N - 1) s).length N)/\w'=w.alloc (.cells (Lib.cellsOf (Lib.splitB sep sv (N - 1) s) N) 9):=Any.strings_genSplit Tryz.lays221 (by kernel_rfl) s sep sv n N m w hs hm h1 hsv hn0 hn63 hN
def Tryz.lays146_ren:Go.Shelf.Ren:=⟨fun | 146=>83 | 221=>137 | 268=>186 | 138=>187 | 143=>188 | 195=>221 | 197=>222 | 218=>223 | 219=>224 | 260=>248 | 217=>185 | 225=>249 | 224=>250 | 267=>251 | 266=>220 | 314=>271 | n=>n,fun | 9=>9 | 31=>32 | 3=>3 | 4=>4 | 0=>0 | 105=>251 | 21=>21 | 5=>5 | 46=>70 | 119=>278 | 139=>281 | 138=>280 | 146=>282 | 51=>227 | n=>n,fun | 1=>1 | 3=>2 | 4=>3 | n=>n⟩
theorem Tryz.lays146:Go.Proofs.Lays.n146 Tryz.prog Tryz.lays146_ren:={
 mixed:=by kernel_rfl
 f138:=Tryz.func187.trans (congrArg some (by kernel_rfl))
 f143:=Tryz.func188.trans (congrArg some (by kernel_rfl))
 f146:=Tryz.func83.trans (congrArg some (by kernel_rfl))
 f195:=Tryz.func221.trans (congrArg some (by kernel_rfl))
 f197:=Tryz.func222.trans (congrArg some (by kernel_rfl))
 f217:=Tryz.func185.trans (congrArg some (by kernel_rfl))
 f218:=Tryz.func223.trans (congrArg some (by kernel_rfl))
 f219:=Tryz.func224.trans (congrArg some (by kernel_rfl))
 f221:=Tryz.func137.trans (congrArg some (by kernel_rfl))
 f224:=Tryz.func250.trans (congrArg some (by kernel_rfl))
 f225:=Tryz.func249.trans (congrArg some (by kernel_rfl))
 f260:=Tryz.func248.trans (congrArg some (by kernel_rfl))
 f266:=Tryz.func220.trans (congrArg some (by kernel_rfl))
 f267:=Tryz.func251.trans (congrArg some (by kernel_rfl))
 f268:=Tryz.func186.trans (congrArg some (by kernel_rfl))
 f314:=Tryz.func271.trans (congrArg some (by kernel_rfl))
 t0:=Tryz.underlying0
 a0:=Tryz.isAgg0
 z0:=Tryz.sizeOf0
 v0:=Tryz.zeroValue0
 t3:=Tryz.underlying3
 a3:=Tryz.isAgg3
 z3:=Tryz.sizeOf3
 v3:=Tryz.zeroValue3
 t4:=Tryz.underlying4
 a4:=Tryz.isAgg4
 z4:=Tryz.sizeOf4
 v4:=Tryz.zeroValue4
 t5:=Tryz.underlying5
 a5:=Tryz.isAgg5
 z5:=Tryz.sizeOf5
 v5:=Tryz.zeroValue5
 t9:=Tryz.underlying9
 a9:=Tryz.isAgg9
 z9:=Tryz.sizeOf9
 v9:=Tryz.zeroValue9
 t21:=Tryz.underlying21
 a21:=Tryz.isAgg21
 z21:=Tryz.sizeOf21
 v21:=Tryz.zeroValue21
 t31:=Tryz.underlying32
 a31:=Tryz.isAgg32
 z31:=Tryz.sizeOf32
 v31:=Tryz.zeroValue32
 t46:=Tryz.underlying70
 a46:=Tryz.isAgg70
 z46:=Tryz.sizeOf70
 v46:=Tryz.zeroValue70
 t51:=Tryz.underlying227
 a51:=Tryz.isAgg227
 z51:=Tryz.sizeOf227
 v51:=Tryz.zeroValue227
 t105:=Tryz.underlying251
 a105:=Tryz.isAgg251
 z105:=Tryz.sizeOf251
 v105:=Tryz.zeroValue251
 t119:=Tryz.underlying278
 a119:=Tryz.isAgg278
 z119:=Tryz.sizeOf278
 t138:=Tryz.underlying280
 a138:=Tryz.isAgg280
 z138:=Tryz.sizeOf280
 v138:=Tryz.zeroValue280
 t139:=Tryz.underlying281
 a139:=Tryz.isAgg281
 z139:=Tryz.sizeOf281
 v139:=Tryz.zeroValue281
 t146:=Tryz.underlying282
 a146:=Tryz.isAgg282
 z146:=Tryz.sizeOf282
 v146:=Tryz.zeroValue282
 g1:=by kernel_rfl
 g3:=by kernel_rfl
 g4:=by kernel_rfl }
open Go.RowKit Go.Lib in
theorem Tryz.strings_Split (s sep:ByteArray) (m:Int) (w:World) (hs:s.size<4294967281) (hm:w.cell? ⟨1,0,none⟩=some (.int .i64 m)) (h1:1<=sep.size) :
  Calls Tryz.prog 83 #[.string s,.string sep] w fun e w'=>
   e = .returned (.slice (some ⟨w.heap.size,0,none⟩) (Lib.countB s sep+1) (Lib.countB s sep+1))/\w'=w.alloc (.cells ((Lib.splitB sep 0 (Lib.countB s sep) s).map Value.string).toArray 9):=Any.strings_Split Tryz.lays146 (by kernel_rfl) s sep m w hs hm h1
def Tryz.lays153_ren:Go.Shelf.Ren:=⟨fun | 153=>227 | 152=>259 | 226=>260 | 227=>254 | 228=>261 | 137=>136 | 119=>274 | 224=>250 | 225=>249 | 217=>185 | 266=>220 | n=>n,fun | 9=>9 | 3=>3 | 4=>4 | 5=>5 | 21=>21 | 117=>266 | 116=>265 | 0=>0 | 46=>70 | 124=>269 | n=>n,fun | n=>n⟩
theorem Tryz.lays153:Go.Proofs.Lays.n153 Tryz.prog Tryz.lays153_ren:={
 mixed:=by kernel_rfl
 f119:=Tryz.func274.trans (congrArg some (by kernel_rfl))
 f137:=Tryz.func136.trans (congrArg some (by kernel_rfl))
 f152:=Tryz.func259.trans (congrArg some (by kernel_rfl))
 f153:=Tryz.func227.trans (congrArg some (by kernel_rfl))
 f217:=Tryz.func185.trans (congrArg some (by kernel_rfl))
 f224:=Tryz.func250.trans (congrArg some (by kernel_rfl))
 f225:=Tryz.func249.trans (congrArg some (by kernel_rfl))
 f226:=Tryz.func260.trans (congrArg some (by kernel_rfl))
 f227:=Tryz.func254.trans (congrArg some (by kernel_rfl))
 f228:=Tryz.func261.trans (congrArg some (by kernel_rfl))
 f266:=Tryz.func220.trans (congrArg some (by kernel_rfl))
 t0:=Tryz.underlying0
 a0:=Tryz.isAgg0
 z0:=Tryz.sizeOf0
 v0:=Tryz.zeroValue0
 t3:=Tryz.underlying3
 a3:=Tryz.isAgg3
 z3:=Tryz.sizeOf3
 v3:=Tryz.zeroValue3
 t4:=Tryz.underlying4
 a4:=Tryz.isAgg4
 z4:=Tryz.sizeOf4
 v4:=Tryz.zeroValue4
 t5:=Tryz.underlying5
 a5:=Tryz.isAgg5
 z5:=Tryz.sizeOf5
 v5:=Tryz.zeroValue5
 t9:=Tryz.underlying9
 a9:=Tryz.isAgg9
 z9:=Tryz.sizeOf9
 v9:=Tryz.zeroValue9
 t21:=Tryz.underlying21
 a21:=Tryz.isAgg21
 z21:=Tryz.sizeOf21
 v21:=Tryz.zeroValue21
 t46:=Tryz.underlying70
 a46:=Tryz.isAgg70
 z46:=Tryz.sizeOf70
 v46:=Tryz.zeroValue70
 t116:=Tryz.underlying265
 a116:=Tryz.isAgg265
 z116:=Tryz.sizeOf265
 t117:=Tryz.underlying266
 a117:=Tryz.isAgg266
 z117:=Tryz.sizeOf266
 v117:=Tryz.zeroValue266
 t124:=Tryz.underlying269
 a124:=Tryz.isAgg269
 z124:=Tryz.sizeOf269
 v124:=Tryz.zeroValue269 }
def Tryz.lays227_ren:Go.Shelf.Ren:=⟨fun | 227=>254 | n=>n,fun | 9=>9 | 116=>265 | 4=>4 | 0=>0 | 3=>3 | 5=>5 | n=>n,fun | n=>n⟩
theorem Tryz.lays227:Go.Proofs.Lays.n227 Tryz.prog Tryz.lays227_ren:={
 mixed:=by kernel_rfl
 f227:=Tryz.func254.trans (congrArg some (by kernel_rfl))
 t0:=Tryz.underlying0
 a0:=Tryz.isAgg0
 z0:=Tryz.sizeOf0
 v0:=Tryz.zeroValue0
 t3:=Tryz.underlying3
 a3:=Tryz.isAgg3
 z3:=Tryz.sizeOf3
 v3:=Tryz.zeroValue3
 t4:=Tryz.underlying4
 a4:=Tryz.isAgg4
 z4:=Tryz.sizeOf4
 v4:=Tryz.zeroValue4
 t5:=Tryz.underlying5
 a5:=Tryz.isAgg5
 z5:=Tryz.sizeOf5
 v5:=Tryz.zeroValue5
 t9:=Tryz.underlying9
 a9:=Tryz.isAgg9
 z9:=Tryz.sizeOf9
 v9:=Tryz.zeroValue9
 t116:=Tryz.underlying265
 a116:=Tryz.isAgg265
 z116:=Tryz.sizeOf265 }
open Go.RowKit Go.Lib in
theorem Tryz.strings_makeASCIISet (hv116:∀ w,(zeroValue 265).run Tryz.prog w = .ok (.agg (Array.replicate 256 (.bool false))) w) (chars:ByteArray) (w:World) (hs:chars.size<4294967281) (hascii:∀ (j:Nat) b,chars.data.toList[j]? = some b->b.toNat<128) :
  Calls Tryz.prog 254 #[.string chars] w fun e w'=>e = .returned (.tuple #[.agg (Lib.setCells chars.data.toList),.bool true])/\w'=w.alloc (.cells (Lib.setCells chars.data.toList) 265):=Any.strings_makeASCIISet Tryz.lays227 hv116 (by kernel_rfl) chars w hs hascii
def Tryz.lays150_ren:Go.Shelf.Ren:=⟨fun | 150=>238 | 153=>227 | 152=>259 | 226=>260 | 227=>254 | 228=>261 | 137=>136 | 119=>274 | 224=>250 | 225=>249 | 217=>185 | 266=>220 | n=>n,fun | 9=>9 | 4=>4 | 3=>3 | 5=>5 | 21=>21 | 117=>266 | 116=>265 | 0=>0 | 46=>70 | 124=>269 | n=>n,fun | n=>n⟩
theorem Tryz.lays150:Go.Proofs.Lays.n150 Tryz.prog Tryz.lays150_ren:={
 mixed:=by kernel_rfl
 f119:=Tryz.func274.trans (congrArg some (by kernel_rfl))
 f137:=Tryz.func136.trans (congrArg some (by kernel_rfl))
 f150:=Tryz.func238.trans (congrArg some (by kernel_rfl))
 f152:=Tryz.func259.trans (congrArg some (by kernel_rfl))
 f153:=Tryz.func227.trans (congrArg some (by kernel_rfl))
 f217:=Tryz.func185.trans (congrArg some (by kernel_rfl))
 f224:=Tryz.func250.trans (congrArg some (by kernel_rfl))
 f225:=Tryz.func249.trans (congrArg some (by kernel_rfl))
 f226:=Tryz.func260.trans (congrArg some (by kernel_rfl))
 f227:=Tryz.func254.trans (congrArg some (by kernel_rfl))
 f228:=Tryz.func261.trans (congrArg some (by kernel_rfl))
 f266:=Tryz.func220.trans (congrArg some (by kernel_rfl))
 t0:=Tryz.underlying0
 a0:=Tryz.isAgg0
 z0:=Tryz.sizeOf0
 v0:=Tryz.zeroValue0
 t3:=Tryz.underlying3
 a3:=Tryz.isAgg3
 z3:=Tryz.sizeOf3
 v3:=Tryz.zeroValue3
 t4:=Tryz.underlying4
 a4:=Tryz.isAgg4
 z4:=Tryz.sizeOf4
 v4:=Tryz.zeroValue4
 t5:=Tryz.underlying5
 a5:=Tryz.isAgg5
 z5:=Tryz.sizeOf5
 v5:=Tryz.zeroValue5
 t9:=Tryz.underlying9
 a9:=Tryz.isAgg9
 z9:=Tryz.sizeOf9
 v9:=Tryz.zeroValue9
 t21:=Tryz.underlying21
 a21:=Tryz.isAgg21
 z21:=Tryz.sizeOf21
 v21:=Tryz.zeroValue21
 t46:=Tryz.underlying70
 a46:=Tryz.isAgg70
 z46:=Tryz.sizeOf70
 v46:=Tryz.zeroValue70
 t116:=Tryz.underlying265
 a116:=Tryz.isAgg265
 z116:=Tryz.sizeOf265
 t117:=Tryz.underlying266
 a117:=Tryz.isAgg266
 z117:=Tryz.sizeOf266
 v117:=Tryz.zeroValue266
 t124:=Tryz.underlying269
 a124:=Tryz.isAgg269
 z124:=Tryz.sizeOf269
 v124:=Tryz.zeroValue269 }
open Go.RowKit Go.Lib in
theorem Tryz.strings_IndexAny_laid (s chars:ByteArray) (w:World) (hs:s.size<4294967281) (hcs:chars.size<4294967281) (has:∀ (j:Nat) b,s.data.toList[j]? = some b->b.toNat<128) (hac:∀ (j:Nat) b,chars.data.toList[j]? = some b->b.toNat<128) :
  Calls Tryz.prog 227 #[.string s,.string chars] w fun e w'=>e = .returned (.int .i64 (Lib.indexAny s.data.toList chars.data.toList))/\Below w.heap.size w w':=Any.strings_IndexAny_laid Tryz.lays153 (by kernel_rfl) s chars w hs hcs has hac
open Go.RowKit Go.Lib in
theorem Tryz.strings_ContainsAny_laid (s chars:ByteArray) (w:World) (hs:s.size<4294967281) (hcs:chars.size<4294967281) (has:∀ (j:Nat) b,s.data.toList[j]? = some b->b.toNat<128) (hac:∀ (j:Nat) b,chars.data.toList[j]? = some b->b.toNat<128) :
  Calls Tryz.prog 238 #[.string s,.string chars] w fun e w'=>e = .returned (.bool (Lib.containsAny s.data.toList chars.data.toList))/\Below w.heap.size w w':=Any.strings_ContainsAny_laid Tryz.lays150 (by kernel_rfl) s chars w hs hcs has hac
def Tryz.lays229_ren:Go.Shelf.Ren:=⟨fun | 229=>228 | n=>n,fun | 9=>9 | 40=>254 | 31=>32 | 152=>272 | 3=>3 | 0=>0 | 4=>4 | 21=>21 | 154=>274 | n=>n,fun | n=>n⟩
theorem Tryz.lays229:Go.Proofs.Lays.n229 Tryz.prog Tryz.lays229_ren:={
 mixed:=by kernel_rfl
 f229:=Tryz.func228.trans (congrArg some (by kernel_rfl))
 t0:=Tryz.underlying0
 a0:=Tryz.isAgg0
 z0:=Tryz.sizeOf0
 v0:=Tryz.zeroValue0
 t3:=Tryz.underlying3
 a3:=Tryz.isAgg3
 z3:=Tryz.sizeOf3
 v3:=Tryz.zeroValue3
 t4:=Tryz.underlying4
 a4:=Tryz.isAgg4
 z4:=Tryz.sizeOf4
 v4:=Tryz.zeroValue4
 t9:=Tryz.underlying9
 a9:=Tryz.isAgg9
 z9:=Tryz.sizeOf9
 v9:=Tryz.zeroValue9
 t21:=Tryz.underlying21
 a21:=Tryz.isAgg21
 z21:=Tryz.sizeOf21
 v21:=Tryz.zeroValue21
 t31:=Tryz.underlying32
 a31:=Tryz.isAgg32
 z31:=Tryz.sizeOf32
 v31:=Tryz.zeroValue32
 t40:=Tryz.underlying254
 a40:=Tryz.isAgg254
 z40:=Tryz.sizeOf254
 v40:=Tryz.zeroValue254
 t152:=Tryz.underlying272
 a152:=Tryz.isAgg272
 z152:=Tryz.sizeOf272
 v152:=Tryz.zeroValue272
 t154:=Tryz.underlying274
 a154:=Tryz.isAgg274
 z154:=Tryz.sizeOf274
 v154:=Tryz.zeroValue274 }
open Go.RowKit Go.Lib in
theorem Tryz.strings_FieldsFunc_grows (g:Nat) (lb:Array Value) (eg:∀ args w,(callFunc g args).run Tryz.prog w = .ok (.enter g args) w) (p:Nat->Bool) (s:ByteArray) (w:World) (hs:s.size<=4294967296) (hp:PredGrows Tryz.prog g lb p w) :
  Calls Tryz.prog 228 #[.string s,.func (.func g) #[] lb] w fun e w'=>∃ A,e = .returned (.slice (some ⟨A,0,none⟩) (Lib.goFieldsP p s).length (Lib.goFieldsP p s).length)/\w.heap.size<=A/\
   w'.ownsRow w.heap.size 9 1 (.slice (some ⟨A,0,none⟩) (Lib.goFieldsP p s).length (Lib.goFieldsP p s).length) (Lib.goFieldsP p s).length ((Lib.goFieldsP p s).map Value.string)/\Below w.heap.size w w':=Any.strings_FieldsFunc_grows Tryz.lays229 g lb eg p s w hs hp (by kernel_rfl) (by kernel_rfl)
def Tryz.lays110_ren:Go.Shelf.Ren:=⟨fun | 110=>90 | 109=>147 | n=>n,fun | 31=>32 | 9=>9 | 4=>4 | 3=>3 | 0=>0 | n=>n,fun | n=>n⟩
theorem Tryz.lays110:Go.Proofs.Lays.n110 Tryz.prog Tryz.lays110_ren:={
 mixed:=by kernel_rfl
 f109:=Tryz.func147.trans (congrArg some (by kernel_rfl))
 f110:=Tryz.func90.trans (congrArg some (by kernel_rfl))
 t0:=Tryz.underlying0
 a0:=Tryz.isAgg0
 z0:=Tryz.sizeOf0
 v0:=Tryz.zeroValue0
 t3:=Tryz.underlying3
 a3:=Tryz.isAgg3
 z3:=Tryz.sizeOf3
 v3:=Tryz.zeroValue3
 t4:=Tryz.underlying4
 a4:=Tryz.isAgg4
 z4:=Tryz.sizeOf4
 v4:=Tryz.zeroValue4
 t9:=Tryz.underlying9
 a9:=Tryz.isAgg9
 z9:=Tryz.sizeOf9
 v9:=Tryz.zeroValue9
 t31:=Tryz.underlying32
 a31:=Tryz.isAgg32
 z31:=Tryz.sizeOf32
 v31:=Tryz.zeroValue32 }
open Go.Lib in
theorem Tryz.slices_Contains_string (b off n c:Nat) (zs:List ByteArray) (x:ByteArray) (w:World) (hz:n<=zs.length) (hbig:n<=9223372036854775807) (hc:∀ j,j<zs.length->w.cell? ⟨b,off+j,none⟩=some (.string (zs.getD j ByteArray.empty))) :
  Calls Tryz.prog 90 #[.slice (some ⟨b,off,none⟩) n c,.string x] w fun e w'=>e = .returned (.bool (Lib.containsS (zs.take n) x))/\w'=w:=Any.slices_Contains_string Tryz.lays110 b off n c zs x w hz hbig hc
open Go.Lib in
theorem Tryz.slices_Contains_string_empty (a:Option Addr) (c:Nat) (x:ByteArray) (w:World) :
  Calls Tryz.prog 90 #[.slice a 0 c,.string x] w fun e w'=>e = .returned (.bool false)/\w'=w:=Any.slices_Contains_string_empty Tryz.lays110 a c x w
def Tryz.reverseTitle_ren:Go.Shelf.Ren:=⟨fun | 35=>146 | n=>n,fun | 22=>37 | 23=>36 | 3=>3 | 4=>4 | 0=>0 | n=>n,fun | n=>n⟩
theorem Tryz.reverseTitle:Go.Proofs.SlLaysE0.n35 Tryz.prog Tryz.reverseTitle_ren:={
 mixed:=by kernel_rfl
 f35:=⟨Tryz.f146.name,by decide,Tryz.func146.trans (congrArg some (by kernel_rfl))⟩
 t0:=Tryz.underlying0
 a0:=Tryz.isAgg0
 z0:=Tryz.sizeOf0
 v0:=Tryz.zeroValue0
 t3:=Tryz.underlying3
 a3:=Tryz.isAgg3
 z3:=Tryz.sizeOf3
 v3:=Tryz.zeroValue3
 t4:=Tryz.underlying4
 a4:=Tryz.isAgg4
 z4:=Tryz.sizeOf4
 v4:=Tryz.zeroValue4
 t22:=Tryz.underlying37
 a22:=Tryz.isAgg37
 z22:=Tryz.sizeOf37
 v22:=Tryz.zeroValue37 }
end Go.Proofs
namespace Go.Proofs.YtpdaeclbndpabaaGreatDoor
section
open Go.RowKit
def orI:List Int->Int | []=>0 | x::xs=>if x=0 then orI xs else x
theorem Zri (a b:ByteArray) (w:World):Calls Tryz.prog 133 #[.string a,.string b] w fun e w'=>e = .returned (.int .i64 (Lib.compareBytes a.data.toList b.data.toList))/\w=w':=
 (Tryz.strings_Compare a b w).mono fun _ _ ⟨a,b⟩=>⟨a,b.symm⟩
def Title.cmp (a b:Title):Int:=orI [Lib.compareInt a.space b.space,Lib.compareBytes a.name.data.toList b.name.data.toList]
theorem ZtK:∀ a b:List UInt8,Lib.compareBytes a b=if Op.bytesLess a b=true then -1 else if a=b then 0 else 1
 | [],[]=>by simp [Lib.compareBytes,Op.bytesLess]
 | [],_::_=>by simp [Lib.compareBytes,Op.bytesLess]
 | _::_,[]=>by simp [Lib.compareBytes,Op.bytesLess]
 | x::a,y::b=>by
   have h:=ZtK a b
   have e:x<y\/x=y\/y<x:=by
    rcases Nat.lt_trichotomy x.toNat y.toNat with h | h | h
    ·exact .inl h
    ·exact .inr (.inl (UInt8.toNat_inj.1 h))
    ·exact .inr (.inr h)
   rcases e with e | e | e
   ·simp [Lib.compareBytes,Op.bytesLess,e]
   ·subst e
    have hx:¬ x<x:=fun h=>by simp at h
    simp [Lib.compareBytes,Op.bytesLess,h]
   ·have hx:¬ x<y:=fun h=>by simp [UInt8.lt_iff_toNat_lt] at h e;omega
    have hne:¬ x=y:=fun h=>by subst h;simp at e
    simp [Lib.compareBytes,Op.bytesLess,hx,hne,e]
theorem Znp (a b:Title):Title.cmp a b=if a.space<b.space then -1 else if b.space<a.space then 1 else if Op.bytesLess a.name.toList b.name.toList=true then -1 else if a.name.toList=b.name.toList then 0 else 1:=by{
unfold Title.cmp orI Lib.compareInt
rw [ZtK,ByteArray.toList_eq,ByteArray.toList_eq]
by_cases h1:a.space<b.space
simp [h1]
by_cases h2:b.space<a.space
simp [h1,h2]
simp only [h1,h2,if_false,if_true,orI]
by_cases h:Op.bytesLess a.name.data.toList b.name.data.toList=true
simp [h]
by_cases h':a.name.data.toList=b.name.data.toList<;>simp [h,h']}
theorem Zh2 (a b:Title) (w:World):Calls Tryz.prog 117 #[.agg #[.int .i64 a.space,.string a.name],.agg #[.int .i64 b.space,.string b.name]] w fun e w'=>e = .returned (.int .i64 (Title.cmp a b))/\Below w.heap.size w w':=by{
go_enter Tryz.func117,Tryz.ntmps117
go_wp2
all_goals
 go_ret
 refine ⟨ZmU ?_,((Below.refl _ _).alloc (Nat.le_refl _) _).alloc (by simp) _⟩
 rw [Znp]
 first
  | (rw [if_pos (by omega)];done)
  | (rw [if_neg (by omega),if_neg (by omega),if_pos (by assumption)];done)
  | (rw [if_neg (by omega),if_pos (by omega)];done)
  | (rw [if_neg (by omega),if_neg (by omega),if_neg (by simp_all),if_pos (by assumption)];done)
  | (rw [if_neg (by omega),if_neg (by omega),if_neg (by simp_all),if_neg (by assumption)];done)}
def Zhn (c:UInt8):UInt8:=if 65<=c.toNat/\c.toNat<=90 then UInt8.ofNat (c.toNat+32) else c
def Zar (l:List UInt8):List UInt8:=l.map Zhn
def BytesAt (w:World) (g:Nat) (l:List UInt8):Prop:=g<w.heap.size/\∀ j c,l[j]? = some c->w.cell? ⟨g,j,none⟩=some (.int .u8 (c.toNat:Int))/\w.frozen? ⟨g,j,none⟩=false
theorem BytesAt.set {w:World} {g:Nat} {l:List UInt8} (h:BytesAt w g l) (k:Nat) (c:UInt8) (hk:k<l.length):BytesAt (w.setCell ⟨g,k,none⟩ (.int .u8 (c.toNat:Int))) g (l.set k c):=by{
refine ⟨by simpa [World.setCell] using h.1,fun j d hj=>?_⟩
by_cases e:j=k
subst e
rw [List.getElem?_set_self hk] at hj
obtain rfl:c=d:=by simpa using hj
obtain ⟨h1,h2⟩:=h.2 j _ (List.getElem?_eq_getElem hk)
exact ⟨World.cell?_setCell_same w ⟨g,j,none⟩ _ h1,by simpa using h2⟩
rw [List.getElem?_set_ne (fun e'=>e e'.symm)] at hj
obtain ⟨h1,h2⟩:=h.2 j d hj
refine ⟨(World.cell?_setCell_other w ⟨g,k,none⟩ ⟨g,j,none⟩ _ (fun e'=>e (by injection e' with _ e2;exact e2.symm))).trans h1,by simpa using h2⟩}
theorem BytesAt.back {P:Program} {w:World} {g cap:Nat} {l:List UInt8} (h:BytesAt w g l) (src dst e:TypeId) (hs:P.underlying src=some (.slice e)) (he:P.underlying e=some (.int .u8)) (hd:P.underlying dst=some .string) :
  (convert src dst (.slice (some ⟨g,0,none⟩) l.length cap)).run P w = .ok (.string ⟨l.toArray⟩) w:=
 run_convert_bytes_back w src dst e ⟨g,0,none⟩ cap l hs he hd fun j hj=>by
  have:=(h.2 j _ (List.getElem?_eq_getElem hj)).1
  unfold Addr.add
  split
  rename_i h0;subst h0;exact this
  simpa using this
theorem ZrC {P:Program} (w:World) (src dst e:TypeId) (s:ByteArray) (hs:P.underlying src=some .string) (hd:P.underlying dst=some (.slice e)) (he:P.underlying e=some (.int .u8)) :
  ∃ cap w1,(convert src dst (.string s)).run P w = .ok (.slice (some ⟨w.heap.size,0,none⟩) s.size cap) w1/\Below w.heap.size w w1/\BytesAt w1 w.heap.size s.data.toList:=by{
refine ⟨_,_,run_bytes_of_string w src dst e s hs hd he,(Below.refl _ _).drew.alloc (Nat.le_refl _) _,by simp,fun j c hj=>?_⟩
have hjl:j<s.data.size:=by have:=(List.getElem?_eq_some_iff.1 hj).1;simpa using this
have hc:c=s.data[j]:=by
 rw [List.getElem?_eq_getElem (by simpa using hjl)] at hj
 simpa using hj.symm
constructor
exact (World.cell?_alloc_mark w.drew _ _ _ j).trans (by rw [bytesRow_at _ _ _ hjl,hc])
refine (World.frozen?_alloc_mark w.drew _ _ _ _ j).trans ?_
have:j<(bytesRow s (grownCap w s.size 0 e)).size:=by simp only [bytesRow,Array.size_append,Array.size_map];omega
simp;omega}
theorem Zoi (l:List UInt8) (q:Nat) (c:UInt8) (hc:l[q]? = some c):(Zar (l.take q)++l.drop q).set q (Zhn c)=Zar (l.take (q+1))++l.drop (q+1):=by{
have hq:q<l.length:=(List.getElem?_eq_some_iff.1 hc).1
have hl:(Zar (l.take q)).length=q:=by simp [Zar];omega
have hg:l[q]=c:=by rw [List.getElem?_eq_getElem hq] at hc;simpa using hc
rw [List.set_append_right _ _ (by omega),hl,Nat.sub_self,List.drop_eq_getElem_cons hq,List.set_cons_zero,List.take_succ_eq_append_getElem hq,hg]
simp [Zar]}
theorem Zs4 (l:List UInt8) (q:Nat) (c:UInt8) (hc:l[q]? = some c) (he:Zhn c=c):Zar (l.take q)++l.drop q=Zar (l.take (q+1))++l.drop (q+1):=by{
rw [<- Zoi l q c hc,he]
have hq:q<l.length:=(List.getElem?_eq_some_iff.1 hc).1
have hl:(Zar (l.take q)).length=q:=by simp [Zar];omega
have hg:l[q]=c:=by rw [List.getElem?_eq_getElem hq] at hc;simpa using hc
rw [List.set_append_right _ _ (by omega),hl,Nat.sub_self,List.drop_eq_getElem_cons hq,List.set_cons_zero,hg]}
theorem Zw8 (l:List UInt8) (q:Nat) (c:UInt8) (hc:l[q]? = some c):(Zar (l.take q)++l.drop q)[q]? = some c:=by{
have hq:q<l.length:=(List.getElem?_eq_some_iff.1 hc).1
have hl:(Zar (l.take q)).length=q:=by simp [Zar];omega
rw [List.getElem?_append_right (by omega),hl,Nat.sub_self,List.getElem?_drop]
simpa using hc}
theorem Zg6 (s:ByteArray) (w:World) (hs:s.size<=9223372036854775807):Calls Tryz.prog 139 #[.string s] w fun e w'=>e = .returned (.string ⟨(Zar s.data.toList).toArray⟩)/\Below w.heap.size w w':=by{
obtain ⟨cap,w1,hconv,hb,hB⟩:=ZrC (P:=Tryz.prog) w 9 230 5 s Tryz.underlying9 Tryz.underlying230 Tryz.underlying5
have HB:=Lib.hid hb
have HBB:=Lib.hid hB
clear hb hB
have HL:Hid (s.data.toList.length=s.size):=Lib.hid (Array.length_toList)
go_enter Tryz.func139,Tryz.ntmps139
go_wp2
go_loopw [4,5,10] (fun _ _ i wr=>∃ q:Nat,q<=s.size/\i = .int .i64 q/\Below w.heap.size w wr/\BytesAt wr w.heap.size (Zar (s.data.toList.take q)++s.data.toList.drop q)) (fun _ _ i _=>s.size-(intOf i).toNat)
case atStart=>exact ⟨0,Nat.zero_le _,rfl,HB.out,by simpa [Zar] using HBB.out⟩
case round=>
 obtain ⟨q,hq,rfl,hbw,hBw⟩:=hrel
 by_cases hlt:q<s.size
 obtain ⟨x,hx⟩:∃ x,s.data.toList[q]? = some x:=⟨_,List.getElem?_eq_getElem (by rw [HL.out];exact hlt)⟩
 obtain ⟨c0,f0⟩:=hBw.2 q x (Zw8 _ _ _ hx)
 have HX:=Lib.hid hx
 have HW:=Lib.hid hBw
 have HQ:=Lib.hid hbw
 clear hx hBw hbw hconv
 have hx1:(x.toNat:Int)<256:=by have:=x.toNat_lt;omega
 by_cases h1:(65:Int)<=x.toNat/\(x.toNat:Int)<=90
 ·obtain ⟨h1,h2⟩:=h1
  go_wp2
  go_roundw
  case rel=>
   refine ⟨q+1,by omega,by go_num,HQ.out.setCell (Nat.le_refl _) _,?_⟩
   have hl:Zhn x=UInt8.ofNat (x.toNat+32):=by unfold Zhn;rw [if_pos (by omega)]
   have hl2:((Zhn x).toNat:Int)=(x.toNat:Int)+32:=by rw [hl];simp;omega
   rw [<- Zoi _ _ _ HX.out,<- hl2]
   exact HW.out.set q _ (by rw [List.length_append];simp [Zar];omega)
  case measure=>simp [intOf];omega
 ·have hk:Zhn x=x:=by unfold Zhn;rw [if_neg (by omega)]
  have HK:=Lib.hid hk
  clear hk
  have h3:(x.toNat:Int)<65\/((65:Int)<=x.toNat/\(90:Int)<x.toNat):=by omega
  clear h1
  rcases h3 with h2 | ⟨h2,h3⟩
  all_goals
   go_wp2
   go_roundw
   case rel=>exact ⟨q+1,by omega,by go_num,HQ.out,by rw [<- Zs4 _ _ _ HX.out HK.out];exact HW.out⟩
   case measure=>simp [intOf];omega
 ·obtain rfl:q=s.size:=by omega
  have hz:Zar (s.data.toList.take s.size)++s.data.toList.drop s.size=Zar s.data.toList:=by
   rw [List.take_of_length_le (by rw [HL.out];omega),List.drop_eq_nil_of_le (by rw [HL.out];omega),List.append_nil]
  rw [hz] at hBw
  have hback:=hBw.back (P:=Tryz.prog) (cap:=cap) 230 9 5 Tryz.underlying230 Tryz.underlying5 Tryz.underlying9
  rw [show (Zar s.data.toList).length=s.size by rw [Zar,List.length_map];exact HL.out] at hback
  have HQ:=Lib.hid hbw
  clear hz hBw hbw hconv
  go_wp2
  go_ret
  exact ⟨rfl,HQ.out⟩}
def Glob (w:World):Prop:=∃ m,w.cell? ⟨1,0,none⟩=some (.int .i64 m)
theorem Glob.below {a w:World} (h:Glob a) (hb:Below a.heap.size a w):Glob w:=h.imp fun _ hm=>re1 hb (Za3 hm) hm
theorem ZyC (s sep:List UInt8):(Lib.cut s sep).1.length<=s.length:=by{
unfold Lib.cut
split
simp;omega
exact Nat.le_refl _}
theorem ZmX (s p:List UInt8):(Lib.trimSuffix s p).length<=s.length:=by{
unfold Lib.trimSuffix
split
rw [List.length_take];omega
exact Nat.le_refl _}
def Za5 (n:List UInt8):Int:=if n = [116,97,108,107] then 1 else if n = [117,115,101,114] then 2 else if n = [116,101,109,112,108,97,116,101] then 3 else if n = [99,97,116,101,103,111,114,121] then 4 else if n = [112,114,111,106,101,99,116] then 5 else 0
def Zca (s:List UInt8):Option (Int×List UInt8):=if (Lib.cut s [58]).2.2=true/\Za5 (Zar (Lib.trimSuffix (Lib.cut s [58]).1 [32]))≠0 then some (Za5 (Zar (Lib.trimSuffix (Lib.cut s [58]).1 [32])),(Lib.cut s [58]).2.1) else none
def Zjd (s:List UInt8):Value:=match Zca s with | some (n,r)=>.tuple #[.int .i64 n,.string ⟨r.toArray⟩,.bool true] | none=>.tuple #[.int .i64 0,.string ⟨#[]⟩,.bool false]
theorem Zrx (w:World):Calls Tryz.prog 141 #[] w fun e w'=>e = .returned (.agg #[.string ⟨#[]⟩,.string ⟨#[84,97,108,107]⟩,.string ⟨#[85,115,101,114]⟩,.string ⟨#[84,101,109,112,108,97,116,101]⟩,.string ⟨#[67,97,116,101,103,111,114,121]⟩,.string ⟨#[80,114,111,106,101,99,116]⟩])/\Below w.heap.size w w':=by
 go_enter Tryz.func141,Tryz.ntmps141
 go_wp2
 exact bodyPost_ret (v:=.agg #[.string ⟨#[]⟩,.string ⟨#[84,97,108,107]⟩,.string ⟨#[85,115,101,114]⟩,.string ⟨#[84,101,109,112,108,97,116,101]⟩,.string ⟨#[67,97,116,101,103,111,114,121]⟩,.string ⟨#[80,114,111,106,101,99,116]⟩]) (by simp [results,Tryz.results141,go_sem]) rfl ⟨rfl,Below.al (Below.refl _ _) _⟩
def ZV (q:Nat):List UInt8:=match q with | 1=>[116,97,108,107] | 2=>[117,115,101,114] | 3=>[116,101,109,112,108,97,116,101] | 4=>[99,97,116,101,103,111,114,121] | 5=>[112,114,111,106,101,99,116] | _=>[]
theorem ZeT (n:List UInt8) (h:∀ j,1<=j->j<6->n≠ZV j):Za5 n=0:=by{
have h1:=h 1 (by decide) (by decide)
have h2:=h 2 (by decide) (by decide)
have h3:=h 3 (by decide) (by decide)
have h4:=h 4 (by decide) (by decide)
have h5:=h 5 (by decide) (by decide)
simp only [ZV] at h1 h2 h3 h4 h5
simp only [Za5,h1,h2,h3,h4,h5,if_false]}
theorem Zgu (j:Nat) (h1:1<=j) (h6:j<6):Za5 (ZV j)=j:=by
 obtain rfl | rfl | rfl | rfl | rfl:j=1\/j=2\/j=3\/j=4\/j=5:=by omega
 all_goals decide
theorem Zje (s:ByteArray) (w:World) (hs:s.size<4294967281) (hG:Glob w):Calls Tryz.prog 84 #[.string s] w fun e w'=>e = .returned (Zjd s.data.toList)/\Below w.heap.size w w':=by{
obtain ⟨m,hm⟩:=hG
have HF:Hid (Zjd s.data.toList=match Zca s.data.toList with
 | some (n,r)=>.tuple #[.int .i64 n,.string ⟨r.toArray⟩,.bool true]
 | none=>.tuple #[.int .i64 0,.string ⟨#[]⟩,.bool false]):=Lib.hid rfl
unfold Zca at HF
have hl1:(Lib.cut s.data.toList [58]).1.length<=s.data.toList.length:=ZyC _ _
go_enter Tryz.func84,Tryz.ntmps84
go_wp2_with fail
refine (Tryz.strings_Cut s _ m _ hs hm).mono ?_
rintro e w1 ⟨rfl,n1,rfl⟩
rw [show (⟨#[58]⟩:ByteArray).data.toList = [58] from rfl]
generalize Lib.cut s.data.toList [58]=C at *
obtain ⟨b,a,ok⟩:=C
cases ok
·go_wp2
 go_ret3
 exact ⟨by rw [HF.out];simp,Below.dn (Below.refl _ _) _⟩
·go_wp2_with fail
 refine (Tryz.strings_TrimSuffix _ _ _ (by have:=s.data.toList.length;simp only [ByteArray.size,Array.length_toList,List.size_toArray] at hl1 hs ⊢;omega)).mono ?_
 rintro e w1 ⟨rfl,rfl⟩
 go_wp2_with fail
 refine (Zg6 _ _ (by have h2:=ZmX b [32];simp only [ByteArray.size,Array.length_toList,List.size_toArray] at hl1 hs h2 ⊢;omega)).mono ?_
 rintro e w1 ⟨rfl,hb1⟩
 go_wp2_with fail
 refine (Zrx _).mono ?_
 rintro e w2 ⟨rfl,hb2⟩
 have HB:=Lib.hid (Below.tr (Below.tr (Below.dn (Below.refl _ _) _) hb1) hb2)
 clear hb1 hb2 hm hs hl1
 generalize Zar (Lib.trimSuffix b [32])=N at *
 simp only [true_and] at HF
 go_wp2_with fail
 go_loopw [23] (fun i wr=>∃ z:Int,0<=z/\z<=6/\i = .int .i64 z/\Below w2.heap.size w2 wr/\Hid (∀ j:Nat,1<=j->(j:Int)<z->N≠ZV j)) (fun i _=>6-(intOf i).toNat)
 case atStart=>exact ⟨0,by omega,by omega,rfl,Below.refl _ _,fun j _ h=>absurd h (by omega)⟩
 case round=>
  obtain ⟨z,hz0,hz6,rfl,hbw,hno⟩:=hrel
  have HQ:=Lib.hid hbw
  clear hbw
  by_cases h6:z=6
  ·subst h6
   have hz:Za5 N=0:=ZeT N fun j h1 h2=>hno.out j h1 (by omega)
   rw [hz] at HF
   clear hz
   go_wp2
   go_ret3
   exact ⟨by rw [HF.out];simp,Below.tr HB.out HQ.out⟩
  ·have hq6:z=0\/z=1\/z=2\/z=3\/z=4\/z=5:=by omega
   clear h6 hz0 hz6
   have ix:∀ w (z:Int) (x:Value),(#[Value.string { data:=#[] },Value.string { data:=#[84,97,108,107] },Value.string { data:=#[85,115,101,114] },Value.string { data:=#[84,101,109,112,108,97,116,101] },Value.string { data:=#[67,97,116,101,103,111,114,121] },Value.string { data:=#[80,114,111,106,101,99,116] }]:Array Value)[z.toNat]? = some x->0<=z->z<6->
    (Instr.index 188 (.agg #[Value.string { data:=#[] },Value.string { data:=#[84,97,108,107] },Value.string { data:=#[85,115,101,114] },Value.string { data:=#[84,101,109,112,108,97,116,101] },Value.string { data:=#[67,97,116,101,103,111,114,121] },Value.string { data:=#[80,114,111,106,101,99,116] }]) (.int .i64 z)).run Tryz.prog w = .ok x w:=by
    intro w z x h h0 h6
    obtain rfl | rfl | rfl | rfl | rfl | rfl:z=0\/z=1\/z=2\/z=3\/z=4\/z=5:=by omega
    all_goals
     (simp at h;subst h;kernel_rfl)
   rcases hq6 with rfl | rfl | rfl | rfl | rfl | rfl
   ·have i0:=fun w=>ix w 0 _ rfl (by decide) (by decide)
    clear ix
    go_wp2
    go_roundw
    case rel=>exact ⟨1,by omega,by omega,rfl,HQ.out,fun j h1 h2=>absurd h2 (by omega)⟩
    case measure=>simp [intOf]
   ·have i0:=fun w=>ix w 1 _ rfl (by decide) (by decide)
    clear ix
    go_wp2_with (go_at_call 139;refine (Zg6 _ _ (by decide)).mono ?_;rintro e w5 ⟨rfl,hb5⟩)
    ·have h:(N == Zar [84,97,108,107])=true:=by assumption
     have hN:N=ZV 1:=(beq_iff_eq.1 h).trans (by decide)
     have hz:Za5 N=1:=by rw [hN];decide
     go_ret3
     exact ⟨by rw [HF.out,hz];simp,Below.tr HB.out (Below.tr HQ.out hb5)⟩
    ·go_roundw
     case rel=>
      have h:(N == Zar [84,97,108,107])=false:=by assumption
      have hN:N≠ZV 1:=fun e=>beq_eq_false_iff_ne.1 h (e.trans (by decide))
      refine ⟨1+1,by omega,by omega,rfl,Below.tr HQ.out hb5,fun j h1 h2=>?_⟩
      rcases Nat.lt_or_ge j 1 with hj | hj
      exact hno.out j h1 (by omega)
      obtain rfl:j=1:=by omega
      exact hN
     case measure=>simp [intOf]
   ·have i0:=fun w=>ix w 2 _ rfl (by decide) (by decide)
    clear ix
    go_wp2_with (go_at_call 139;refine (Zg6 _ _ (by decide)).mono ?_;rintro e w5 ⟨rfl,hb5⟩)
    ·have h:(N == Zar [85,115,101,114])=true:=by assumption
     have hN:N=ZV 2:=(beq_iff_eq.1 h).trans (by decide)
     have hz:Za5 N=2:=by rw [hN];decide
     go_ret3
     exact ⟨by rw [HF.out,hz];simp,Below.tr HB.out (Below.tr HQ.out hb5)⟩
    ·go_roundw
     case rel=>
      have h:(N == Zar [85,115,101,114])=false:=by assumption
      have hN:N≠ZV 2:=fun e=>beq_eq_false_iff_ne.1 h (e.trans (by decide))
      refine ⟨2+1,by omega,by omega,rfl,Below.tr HQ.out hb5,fun j h1 h2=>?_⟩
      rcases Nat.lt_or_ge j 2 with hj | hj
      exact hno.out j h1 (by omega)
      obtain rfl:j=2:=by omega
      exact hN
     case measure=>simp [intOf]
   ·have i0:=fun w=>ix w 3 _ rfl (by decide) (by decide)
    clear ix
    go_wp2_with (go_at_call 139;refine (Zg6 _ _ (by decide)).mono ?_;rintro e w5 ⟨rfl,hb5⟩)
    ·have h:(N == Zar [84,101,109,112,108,97,116,101])=true:=by assumption
     have hN:N=ZV 3:=(beq_iff_eq.1 h).trans (by decide)
     have hz:Za5 N=3:=by rw [hN];decide
     go_ret3
     exact ⟨by rw [HF.out,hz];simp,Below.tr HB.out (Below.tr HQ.out hb5)⟩
    ·go_roundw
     case rel=>
      have h:(N == Zar [84,101,109,112,108,97,116,101])=false:=by assumption
      have hN:N≠ZV 3:=fun e=>beq_eq_false_iff_ne.1 h (e.trans (by decide))
      refine ⟨3+1,by omega,by omega,rfl,Below.tr HQ.out hb5,fun j h1 h2=>?_⟩
      rcases Nat.lt_or_ge j 3 with hj | hj
      exact hno.out j h1 (by omega)
      obtain rfl:j=3:=by omega
      exact hN
     case measure=>simp [intOf]
   ·have i0:=fun w=>ix w 4 _ rfl (by decide) (by decide)
    clear ix
    go_wp2_with (go_at_call 139;refine (Zg6 _ _ (by decide)).mono ?_;rintro e w5 ⟨rfl,hb5⟩)
    ·have h:(N == Zar [67,97,116,101,103,111,114,121])=true:=by assumption
     have hN:N=ZV 4:=(beq_iff_eq.1 h).trans (by decide)
     have hz:Za5 N=4:=by rw [hN];decide
     go_ret3
     exact ⟨by rw [HF.out,hz];simp,Below.tr HB.out (Below.tr HQ.out hb5)⟩
    ·go_roundw
     case rel=>
      have h:(N == Zar [67,97,116,101,103,111,114,121])=false:=by assumption
      have hN:N≠ZV 4:=fun e=>beq_eq_false_iff_ne.1 h (e.trans (by decide))
      refine ⟨4+1,by omega,by omega,rfl,Below.tr HQ.out hb5,fun j h1 h2=>?_⟩
      rcases Nat.lt_or_ge j 4 with hj | hj
      exact hno.out j h1 (by omega)
      obtain rfl:j=4:=by omega
      exact hN
     case measure=>simp [intOf]
   ·have i0:=fun w=>ix w 5 _ rfl (by decide) (by decide)
    clear ix
    go_wp2_with (go_at_call 139;refine (Zg6 _ _ (by decide)).mono ?_;rintro e w5 ⟨rfl,hb5⟩)
    ·have h:(N == Zar [80,114,111,106,101,99,116])=true:=by assumption
     have hN:N=ZV 5:=(beq_iff_eq.1 h).trans (by decide)
     have hz:Za5 N=5:=by rw [hN];decide
     go_ret3
     exact ⟨by rw [HF.out,hz];simp,Below.tr HB.out (Below.tr HQ.out hb5)⟩
    ·go_roundw
     case rel=>
      have h:(N == Zar [80,114,111,106,101,99,116])=false:=by assumption
      have hN:N≠ZV 5:=fun e=>beq_eq_false_iff_ne.1 h (e.trans (by decide))
      refine ⟨5+1,by omega,by omega,rfl,Below.tr HQ.out hb5,fun j h1 h2=>?_⟩
      rcases Nat.lt_or_ge j 5 with hj | hj
      exact hno.out j h1 (by omega)
      obtain rfl:j=5:=by omega
      exact hN
     case measure=>simp [intOf]}
def ZgS:List UInt8:=[60,62,91,93,123,125,124,35,95]
def Zck:Int->List UInt8->Bool | _,[]=>true | p,c::r=>if (c.toNat:Int)<32\/(c.toNat:Int)=127\/0<=Lib.indexByte ZgS c\/((c.toNat:Int)=32/\p=32) then false else Zck c.toNat r
theorem Zf7 {p:Int} {c:UInt8} {r:List UInt8} (h:(c.toNat:Int)<32\/(c.toNat:Int)=127\/0<=Lib.indexByte ZgS c\/((c.toNat:Int)=32/\p=32)):Zck p (c::r)=false:=by
 simp only [Zck,if_pos h]
theorem ZiQ {p:Int} {c:UInt8} {r:List UInt8} (h:¬((c.toNat:Int)<32\/(c.toNat:Int)=127\/0<=Lib.indexByte ZgS c\/((c.toNat:Int)=32/\p=32))):Zck p (c::r)=Zck c.toNat r:=by
 simp only [Zck,if_neg h]
def Zgg (s:ByteArray) (q:Nat):Int:=if h:0<q/\q-1<s.size then ((s[q-1]'h.2).toNat:Int) else -1
theorem ZoT (s:ByteArray) (w:World) (hs:s.size<=9223372036854775807):Calls Tryz.prog 82 #[.string s] w fun e w'=>e = .returned (.bool (Zck (-1) s.data.toList))/\w=w':=by{
go_enter Tryz.func82,Tryz.ntmps82
go_wp2
go_loop [3,4] (fun i _=>∃ q:Nat,q<=s.size/\i = .int .i64 q/\Hid (Zck (-1) s.data.toList=Zck (Zgg s q) (s.data.toList.drop q))) (fun i _=>s.size-(intOf i).toNat)
case atStart=>exact ⟨0,Nat.zero_le _,rfl,rfl⟩
case round=>
 obtain ⟨q,hq,rfl,hC⟩:=hrel
 by_cases hlt:q<s.size
 have HD:Hid (s.data.toList.drop q=s[q]::s.data.toList.drop (q+1)):=List.drop_eq_getElem_cons (by rw [Array.length_toList];exact hlt)
 have HP':Hid (Zgg s (q+1)=((s[q]'hlt).toNat:Int)):=by unfold Zgg;rw [dif_pos ⟨Nat.succ_pos q,hlt⟩];rfl
 by_cases h0:q=0
 ·subst h0
  have HP:Hid (Zgg s 0 = -1):=rfl
  go_wp2_with (go_at_call 136;refine (Tryz.strings_IndexByte _ _ _).mono ?_;rintro e w' ⟨rfl,rfl⟩)
  all_goals (try simp only [beq_iff_eq,beq_eq_false_iff_ne,ne_eq] at *)
  all_goals first
   | (exfalso;omega)
   | (go_ret;refine ⟨ZaD ?_,rfl⟩;rw [hC.out,HD.out];refine (Zf7 ?_).symm;rw [HP.out];unfold ZgS;omega)
   | (go_round;(case rel=>(refine ⟨1,by omega,rfl,?_⟩;rw [hC.out,HD.out,ZiQ (by rw [HP.out];unfold ZgS;omega)];exact congrArg (fun p=>Zck p (s.data.toList.drop (0+1))) HP'.out.symm));(case measure=>(simp [intOf];omega)))
 ·have HP:Hid (Zgg s q=((s[q-1]'(by omega)).toNat:Int)):=by unfold Zgg;rw [dif_pos ⟨by omega,by omega⟩];exact Lib.hid rfl
  have h1:0<q:=by omega
  clear h0
  go_wp2_with (go_at_call 136;refine (Tryz.strings_IndexByte _ _ _).mono ?_;rintro e w' ⟨rfl,rfl⟩)
  all_goals (try simp only [beq_iff_eq,beq_eq_false_iff_ne,ne_eq] at *)
  all_goals first
   | (exfalso;omega)
   | (go_ret;refine ⟨ZaD ?_,rfl⟩;rw [hC.out,HD.out];refine (Zf7 ?_).symm;rw [HP.out];unfold ZgS;omega)
   | (go_round;(case rel=>(refine ⟨q+1,by omega,by go_num,?_⟩;rw [hC.out,HD.out,ZiQ (by rw [HP.out];unfold ZgS;omega)];exact congrArg (fun p=>Zck p (s.data.toList.drop (q+1))) HP'.out.symm));(case measure=>(simp [intOf];omega)))
 ·obtain rfl:q=s.size:=by omega
  have hz:s.data.toList.drop s.size = []:=List.drop_eq_nil_of_le (by rw [Array.length_toList];exact Nat.le_refl _)
  have HZ:Hid (Zck (-1) s.data.toList=true):=by rw [hC.out,hz];exact rfl
  clear hz hC
  go_wp2
  go_ret
  exact ⟨ZaD HZ.out.symm,rfl⟩}
theorem countB_le (s:ByteArray):Lib.countB s ⟨#[47]⟩<=s.size:=by{
have h:=Lib.countB_mul_le ⟨#[47]⟩ (by decide) s.size s (Nat.le_refl _)
have e:(⟨#[47]⟩:ByteArray).size=1:=rfl
rw [e] at h
omega}
theorem ZvQ:∀ (l:List UInt8) (h:0<l.length),l.headD 0=l[0]
 | _::_,_=>rfl
theorem ZtR (s:ByteArray) (h:0<s.size):s.data.toList.headD 0=s[0]:=
 ZvQ _ (by rw [Array.length_toList];exact h)
theorem Zqi (s:ByteArray) (w:World) (hs:s.size<4294967281) (hG:Glob w) (h:Zca s.data.toList=none):Calls Tryz.prog 84 #[.string s] w fun e w'=>e = .returned (.tuple #[.int .i64 0,.string ⟨#[]⟩,.bool false])/\Below w.heap.size w w':=
 (Zje s w hs hG).mono fun _ _ ⟨he,hb⟩=>⟨he.trans (by unfold Zjd;rw [h]),hb⟩
theorem Zqj (s:ByteArray) (w:World) (hs:s.size<4294967281) (hG:Glob w) {n:Int} {r:List UInt8} (h:Zca s.data.toList=some (n,r)):Calls Tryz.prog 84 #[.string s] w fun e w'=>e = .returned (.tuple #[.int .i64 n,.string ⟨r.toArray⟩,.bool true])/\Below w.heap.size w w':=
 (Zje s w hs hG).mono fun _ _ ⟨he,hb⟩=>⟨he.trans (by unfold Zjd;rw [h]),hb⟩
theorem Zh4 (sep:ByteArray):∀ (k:Nat) (s p:ByteArray),p ∈ Lib.splitB sep 0 k s->p.size<=s.size
 | 0,s,p,h=>by
   rw [Lib.splitB_zero] at h
   simp at h
   rw [h];exact Nat.le_refl _
 | k+1,s,p,h=>by
   rcases Lib.index_spec s.data.toList sep.data.toList with ⟨h1,_⟩ | ⟨i,h1,_⟩
   rw [Lib.splitB_miss sep 0 (k+1) s h1] at h
   simp at h
   rw [h];exact Nat.le_refl _
   rw [Lib.splitB_hit sep 0 k s i h1] at h
   rcases List.mem_cons.1 h with h | h
   rw [h,ByteArray.size_extract];omega
   have:=Zh4 sep k _ p h
   rw [ByteArray.size_extract] at this
   omega
def ZdT (p:List UInt8):Bool:=decide (p≠[])&&decide (p[0]?≠some 32)&&decide (p.getLast?≠some 32)
theorem Zzl (a:UInt8):decide (some a≠some 32) = !((a.toNat:Int) == 32):=by{
by_cases h:a=32
subst h;rfl
have h2:a.toNat≠32:=fun e=>h (UInt8.toNat_inj.1 e)
have h3:((a.toNat:Int) == 32)=false:=by rw [beq_eq_false_iff_ne];omega
rw [h3];simp [h]}
theorem Zmw (x:ByteArray) (h:0<x.size):ZdT x.data.toList = !((x[0].toNat:Int) == 32||((x[x.size-1]'(by omega)).toNat:Int) == 32):=by{
have hl:x.data.toList.length=x.size:=Array.length_toList
have h1:x.data.toList≠[]:=fun e=>by rw [e] at hl;simp at hl;omega
have h2:x.data.toList[0]? = some x[0]:=List.getElem?_eq_getElem (by omega)
have h3:x.data.toList.getLast? = some (x[x.size-1]'(by omega)):=by
 rw [List.getLast?_eq_getElem?,hl]
 exact List.getElem?_eq_getElem (by omega)
unfold ZdT
rw [h2,h3,Zzl,Zzl]
simp [h1]}
def ZgT (c:Int):Bool:=decide (c≠58) && !(decide (97<=c)&&decide (c<=122))
theorem Zh5 {c:Int} (h:c=58):ZgT c=false:=by subst h;rfl
theorem Zh6 {c:Int} (h:97<=c) (h':c<=122):ZgT c=false:=by simp [ZgT,h,h']
theorem Zf8 {c:Int} (h:c≠58) (h':c<97\/122<c):ZgT c=true:=by
 unfold ZgT
 have:¬ (97<=c/\c<=122):=by omega
 simp [h];omega
def Title.valid (t:Title):Bool:=decide (0<=t.space)&&decide (t.space<6)&&decide (1<=t.name.size)&&decide (t.name.size<=100)&&Zck (-1) t.name.data.toList && (Lib.splitB ⟨#[47]⟩ 0 (Lib.countB t.name ⟨#[47]⟩) t.name).all (fun p=>ZdT p.data.toList) && ZgT (t.name.data.toList.headD 0).toNat && (decide (t.space≠0)||decide (Zca t.name.data.toList=none))
theorem ZoU (t:Title) (w:World) (hG:Glob w):Calls Tryz.prog 40 #[.agg #[.int .i64 t.space,.string t.name]] w fun e w'=>e = .returned (.bool t.valid)/\Below w.heap.size w w':=by{
obtain ⟨m,hm⟩:=hG
obtain ⟨sp,s⟩:=t
by_cases h:(0<=sp/\sp<6)/\(1<=s.size/\s.size<=100)/\Zck (-1) s.data.toList=true
·obtain ⟨⟨h1,h2⟩,⟨h3,h4⟩,h5⟩:=h
 go_enter Tryz.func40,Tryz.ntmps40
 go_wp2_with (first | (go_at_call 82;refine (ZoT _ _ (by omega)).mono ?_;rintro e w' ⟨rfl,rfl⟩) | (go_at_call 83;refine (Tryz.strings_Split _ _ m _ (by omega) (by exact re1 (Below.al (Below.refl _ _) _) (Za3 hm) hm) (by decide)).mono ?_;rintro e w' ⟨rfl,rfl⟩))
 have hcl:=Lib.splitB_all ⟨#[47]⟩ (by decide) 0 _ s rfl
 have hb:Below w.heap.size w ((w.alloc (Obj.cells #[Value.int IntKind.i64 sp,Value.string s] 36)).alloc (Obj.cells (List.map Value.string (Lib.splitB { data:=#[47] } 0 (Lib.countB s { data:=#[47] }) s)).toArray 9)):=Below.al (Below.al (Below.refl _ _) _) _
 have hS:=SlR.strs (w.alloc (Obj.cells #[Value.int IntKind.i64 sp,Value.string s] 36)) 9 (n:=Lib.countB s { data:=#[47] }+1) (Lib.splitB { data:=#[47] } 0 (Lib.countB s { data:=#[47] }) s) hcl.symm (by have:=countB_le s;omega)
 have e1:(w.alloc (Obj.cells #[Value.int IntKind.i64 sp,Value.string s] 36)).heap.size=w.heap.size+1:=by simp
 rw [e1] at hS
 have c0:((w.alloc (Obj.cells #[Value.int IntKind.i64 sp,Value.string s] 36)).alloc (Obj.cells (List.map Value.string (Lib.splitB { data:=#[47] } 0 (Lib.countB s { data:=#[47] }) s)).toArray 9)).cell? ⟨w.heap.size,0,none⟩=some (.int .i64 sp):=by go_simp
 generalize (w.alloc (Obj.cells #[Value.int IntKind.i64 sp,Value.string s] 36)).alloc (Obj.cells (List.map Value.string (Lib.splitB { data:=#[47] } 0 (Lib.countB s { data:=#[47] }) s)).toArray 9)=w2 at *
 have HB:=Lib.hid hb
 clear hb e1 hcl
 have hsp:Title.valid ⟨sp,s⟩=((Lib.splitB { data:=#[47] } 0 (Lib.countB s { data:=#[47] }) s).all (fun p=>ZdT p.data.toList)&&(ZgT (s.data.toList.headD 0).toNat &&
  (decide (sp≠0)||decide (Zca s.data.toList=none)))):=by simp [Title.valid,h1,h2,h3,h4,h5,Bool.and_assoc]
 have splitB_sizes:=fun p h=>Nat.le_trans (Zh4 ⟨#[47]⟩ (Lib.countB s ⟨#[47]⟩) s p h) h4
 generalize Lib.countB s { data:=#[47] }=K at *
 generalize Lib.splitB { data:=#[47] } 0 K s=ps at *
 have HSP:=Lib.hid hsp
 have HK:=Lib.hid hS.1
 have hle:=hS.le
 clear hsp
 go_loopw [5,37] (fun _ i wr=>∃ q:Nat,q<=K+1/\i = .int .i64 q/\Below w2.heap.size w2 wr/\Hid (ps.all (fun p=>ZdT p.data.toList)=(ps.drop q).all (fun p=>ZdT p.data.toList))) (fun _ i _=>K+1-(intOf i).toNat)
 case atStart=>exact ⟨0,by omega,rfl,Below.refl _ _,rfl⟩
 case round=>
  obtain ⟨q,hq,rfl,hbw,hA⟩:=hrel
  have HW:=Lib.hid hbw
  by_cases hlt:q<K+1
  obtain ⟨b,off,x,cs,hA0,hbl,hx,hd,hR,hc⟩:=(hS.mono hbw).elem hlt
  obtain ⟨rfl,rfl⟩:w.heap.size+1=b/\0=off:=by injection hA0 with h;injection h with h1 h2;exact ⟨h1,h2⟩
  have d0:wr.cell? ⟨w.heap.size+1,q,none⟩=some (.string x):=by subst hR;simpa using hc 0 _ rfl
  have HD:=Lib.hid hd
  have hxs:=splitB_sizes x (List.mem_of_getElem? hx)
  clear hA0 hx hd hR hc hbw hS h5 h1 h2 hbl splitB_sizes
  by_cases hx0:x.size=0
  ·have hx1:x.toList = []:=by rw [ByteArray.toList_eq];exact List.eq_nil_of_length_eq_zero (by rw [Array.length_toList];exact hx0)
   have HP:Hid (ZdT x.data.toList=false):=Lib.hid (by rw [<- ByteArray.toList_eq,hx1];rfl)
   clear hx0
   go_wp2
   go_ret
   exact ⟨ZaD (by rw [HSP.out,hA.out,HD.out,List.all_cons,HP.out];rfl),Below.tr HB.out HW.out⟩
  ·have hx1:¬ x.toList = []:=fun e=>by rw [ByteArray.toList_eq] at e;exact hx0 (by have:=congrArg List.length e;rw [Array.length_toList] at this;exact this)
   have hx2:0<x.size:=by omega
   have hx3:(0:Int)<=(x.size:Int)-1:=by omega
   have HP:=Lib.hid (Zmw x hx2)
   clear hx0
   go_wp2
   all_goals (try simp only [beq_iff_eq,beq_eq_false_iff_ne,ne_eq,List.isEmpty_iff,List.isEmpty_eq_false_iff] at *)
   all_goals first
    | (exfalso;omega)
    | (go_ret;refine ⟨ZaD ?_,Below.tr HB.out HW.out⟩;rw [HSP.out,hA.out,HD.out,List.all_cons,HP.out];simp_all;done)
    | (go_roundw;(case rel=>(refine ⟨q+1,by omega,by go_num,HW.out,?_⟩;refine Lib.hid ?_;rw [hA.out,HD.out,List.all_cons,HP.out];simp_all));(case measure=>(simp [intOf];omega)))
  obtain rfl:q=K+1:=by omega
  have hz:ps.all (fun p=>ZdT p.data.toList)=true:=by
   rw [hA.out,List.drop_eq_nil_of_le (by rw [<- HK.out];exact Nat.le_refl _)];rfl
  rw [hz,Bool.true_and] at HSP
  have c1:wr.cell? ⟨w.heap.size,0,none⟩=some (.int .i64 sp):=re1 hbw (Za3 c0) c0
  have hm1:wr.cell? ⟨1,0,none⟩=some (.int .i64 m):=re1 (Below.tr HB.out hbw) (Za3 hm) hm
  have hg:s.data.toList.headD 0=s[0]'(by omega):=ZtR s (by omega)
  rw [hg] at HSP
  have hs0:(0:Int)<s.size:=by omega
  clear hz hbw hS h5 hA c0 hle splitB_sizes hg hm
  rcases hp:Zca s.data.toList with _ | ⟨n,r⟩
  ·rw [hp] at HSP
   have hpr:=fun W h1 h2=>Zqi s W h1 h2 hp
   clear hp
   go_wp2_with (go_at_call 84;refine (hpr _ (by omega) ⟨m,by assumption⟩).mono ?_;rintro e w5 ⟨rfl,hb5⟩;have c2:=re1 hb5 (Za3 c1) c1)
   all_goals
    go_ret
    refine ⟨ZaD ?_,?_⟩
    ·rw [HSP.out]
     simp only [beq_iff_eq,beq_eq_false_iff_ne,ne_eq] at *
     first
      | (rw [Zh5 (by omega)];rfl)
      | (rw [Zh6 (by omega) (by omega)];rfl)
      | (rw [Zf8 (by omega) (by omega)];simp_all;done)
    first | exact Below.tr (Below.tr HB.out HW.out) (by assumption) | exact Below.tr HB.out HW.out
  ·rw [hp] at HSP
   have hpr:=fun W h1 h2=>Zqj s W h1 h2 hp
   clear hp
   go_wp2_with (go_at_call 84;refine (hpr _ (by omega) ⟨m,by assumption⟩).mono ?_;rintro e w5 ⟨rfl,hb5⟩;have c2:=re1 hb5 (Za3 c1) c1)
   all_goals
    go_ret
    refine ⟨ZaD ?_,?_⟩
    ·rw [HSP.out]
     simp only [beq_iff_eq,beq_eq_false_iff_ne,ne_eq] at *
     first
      | (rw [Zh5 (by omega)];rfl)
      | (rw [Zh6 (by omega) (by omega)];rfl)
      | (rw [Zf8 (by omega) (by omega)];simp_all;done)
    first | exact Below.tr (Below.tr HB.out HW.out) (by assumption) | exact Below.tr HB.out HW.out
·go_enter Tryz.func40,Tryz.ntmps40
 have hv:Title.valid ⟨sp,s⟩=false:=by
  cases hV:Title.valid ⟨sp,s⟩ with
  | false=>rfl
  | true=>
    simp only [Title.valid,Bool.and_eq_true,decide_eq_true_eq] at hV
    obtain ⟨⟨⟨⟨⟨⟨⟨ha,hb⟩,hc⟩,hd⟩,hcl⟩,_⟩,_⟩,_⟩:=hV
    exact absurd ⟨⟨ha,hb⟩,⟨hc,hd⟩,hcl⟩ h
 have HV:=Lib.hid hv
 clear hv
 go_wp2_with (first | (go_at_call 82;refine (ZoT _ _ (by omega)).mono ?_;rintro e w' ⟨rfl,rfl⟩) | (go_at_call 83;exfalso;have h6:(!Zck (-1) s.data.toList)=false:=And.right (by assumption);simp at h6;exact h ⟨⟨by omega,by omega⟩,⟨by omega,by omega⟩,h6⟩))
 all_goals
  go_ret
  exact ⟨ZaD HV.out.symm,Below.al (Below.refl _ _) _⟩}
def ZzH (b:Int):Int:=if 65<=b/\b<=90 then b+32 else b
theorem ZoR (b:Int) (h0:0<=b) (h1:b<256) (w:World):Calls Tryz.prog 207 #[.int .u8 b] w fun e w'=>e = .returned (.int .u8 (ZzH b))/\w=w':=by{
go_enter Tryz.func207,Tryz.ntmps207
go_wp2
all_goals
 go_ret
 refine ⟨ZmU ?_,rfl⟩
 unfold ZzH
 first | (rw [if_pos (by omega)];done) | (rw [if_neg (by omega)];done)}
theorem ZtQ (c:UInt8):ZzH c.toNat=(Zhn c).toNat:=by{
unfold ZzH Zhn
by_cases h:65<=c.toNat/\c.toNat<=90
rw [if_pos (by omega),if_pos h];simp;omega
rw [if_neg (by omega),if_neg h]}
theorem Zzj (c:UInt8):0<=(c.toNat:Int)/\(c.toNat:Int)<256:=by have:=c.toNat_lt;omega
theorem ZoS (a b:ByteArray) (j:Nat) (hj:j+b.size<=a.size):((a.extract j (j+b.size)).toList == b.toList)=Lib.occAt a.data.toList b.data.toList j:=by
 rw [<- Lib.piece_eq_occAt a b j hj,beq_toListBytes]
theorem Zzk {a b:ByteArray} {j:Nat} (hj:¬ j+b.size<=a.size) (hl:j<=a.size):Lib.occAt a.data.toList b.data.toList j=false:=by{
cases ho:Lib.occAt a.data.toList b.data.toList j with
| false=>rfl
| true=>
  rcases Lib.occAt_room ho with h | h
  rw [<- Lib.size_eq,<- Lib.size_eq] at h;omega
  have:b.size=0:=by rw [Lib.size_eq,h];rfl
  omega}
theorem ZjT (s t:ByteArray) (w:World) (hs:s.size+t.size<=9223372036854775806):Calls Tryz.prog 100 #[.string s,.string t,.int .i64 0] w fun e w'=>e = .returned (.int .i64 (Lib.index s.data.toList t.data.toList))/\w=w':=by{
go_enter Tryz.func100,Tryz.ntmps100
go_wp2
go_loop [7] (fun i=>∃ q:Nat,q<=s.size+1/\i = .int .i64 q/\Hid (∀ j,j<q->Lib.occAt s.data.toList t.data.toList j=false)) (fun i=>s.size+1-(intOf i).toNat)
case atStart=>exact ⟨0,by omega,rfl,fun j h=>absurd h (by omega)⟩
case round=>
 obtain ⟨q,hq,rfl,hno⟩:=hrel
 by_cases hlt:q+t.size<=s.size
 ·have b1:(0:Int)<=q:=by omega
  have b2:(q:Int)+(t.size:Int)<=(s.size:Int):=by omega
  go_wp2
  ·rename_i hocc _
   go_ret
   refine ⟨ZmU ?_,rfl⟩
   rw [ZoS s t q hlt] at hocc
   rw [Lib.index_first (by rw [<- Lib.size_eq];omega) hocc hno.out]
  rename_i hocc
  rw [ZoS s t q hlt] at hocc
  refine ⟨⟨q+1,by omega,by simp,fun j hj=>?_⟩,by simp [intOf];omega⟩
  by_cases hjq:j<q
  exact hno.out j hjq
  have:j=q:=by omega
  subst this;exact hocc
 ·have b2:¬ (q:Int)+(t.size:Int)<=(s.size:Int):=by omega
  have b3:(s.size:Int)<(q:Int)+(t.size:Int):=by omega
  go_wp2
  all_goals
   first
   | (exfalso;omega)
   | (go_ret
      refine ⟨ZmU ?_,rfl⟩
      rw [Lib.index_none]
      intro j hj
      rw [<- Lib.size_eq] at hj
      by_cases hjq:j<q
      exact hno.out j hjq
      exact Zzk (by omega) hj)}
def ZjC (c:UInt8):Bool:=decide ((97<=c.toNat/\c.toNat<=122)\/(48<=c.toNat/\c.toNat<=57)\/c.toNat=45\/c.toNat=95)
def Za0 (s:ByteArray):Bool:=decide (1<=s.size/\s.size<=30/\97<=(s.data.toList.headD 0).toNat/\(s.data.toList.headD 0).toNat<=122)&&s.data.toList.all ZjC
theorem Zrb (s:ByteArray) (h:0<s.size):s.data.toList.headD 0=s[0]:=by{
have h2:s.data.toList[0]? = some s[0]:=List.getElem?_eq_getElem (by rw [Array.length_toList];exact h)
cases hl:s.data.toList with
| nil=>rw [hl] at h2;cases h2
| cons a r=>rw [hl] at h2;simpa using h2}
theorem Zud (s:ByteArray) (h:∀ j (hj:j<s.size),ZjC s[j]=true):s.data.toList.all ZjC=true:=by{
rw [List.all_eq_true]
intro x hx
obtain ⟨j,hj,rfl⟩:=List.mem_iff_getElem.1 hx
exact h j (by rw [Array.length_toList] at hj;exact hj)}
theorem Zue (s:ByteArray) (j:Nat) (hj:j<s.size) (h:ZjC s[j]=false):s.data.toList.all ZjC=false:=by
 rw [List.all_eq_false]
 exact ⟨s[j],List.mem_iff_getElem.2 ⟨j,by rw [Array.length_toList];exact hj,rfl⟩,by rw [h];decide⟩
theorem Zo2 {s:ByteArray} (h:s.size<1):Za0 s=false:=by
 unfold Za0;rw [decide_eq_false (by omega),Bool.false_and]
theorem Zqu {s:ByteArray} (h:30<s.size):Za0 s=false:=by
 unfold Za0;rw [decide_eq_false (by omega),Bool.false_and]
theorem ZjW {s:ByteArray} (h:0<s.size) (h1:(s[0].toNat:Int)<97\/(122:Int)<s[0].toNat):Za0 s=false:=by
 unfold Za0;rw [Zrb s h,decide_eq_false (by omega),Bool.false_and]
theorem Zsm {s:ByteArray} (j:Nat) (hj:j<s.size) (h:ZjC s[j]=false):Za0 s=false:=by
 unfold Za0;rw [Zue s j hj h,Bool.and_false]
theorem Zqv {s:ByteArray} (h0:0<s.size) (h30:s.size<=30) (h1:(97:Int)<=s[0].toNat) (h2:(s[0].toNat:Int)<=122) (h:∀ j (hj:j<s.size),ZjC s[j]=true):Za0 s=true:=by
 unfold Za0;rw [Zud s h,Zrb s h0,decide_eq_true (by omega)];rfl
end
section
open VL
theorem ZxG {α:Type} {x:Option α} {v:α} (h:Tot x fun r=>r=v):x=some v:=by
 obtain ⟨w,h1,h2⟩:=h
 rw [h1,h2]
theorem Zwo {β:Type} {b:Bool} {x y:Option β} {R:β->Prop} (h:b=false) (k:Tot y R):Tot (if b=true then x else y) R:=by rw [if_neg (by rw [h];simp)];exact k
theorem Zwp {β:Type} {b:Bool} {x y:Option β} {R:β->Prop} (h:b=true) (k:Tot x R):Tot (if b=true then x else y) R:=by rw [if_pos h];exact k
theorem ZoO (s:ByteArray):Zga s=some (Za0 s):=by{
refine ZxG ?_
unfold Zga
refine Zw (fun k=>(Za0 s=false->Tot (k true) fun r=>r=Za0 s)/\(∀ (h0:0<s.size),s.size<=30->97<=(s[0].toNat:Int)->(s[0].toNat:Int)<=122->Tot (k false) fun r=>r=Za0 s)) ⟨fun h=>Zwp rfl (Zc h.symm),fun h0 h30 h1 h2=>?_⟩ fun k hk=>?_
refine Zwo rfl ?_
refine Zr (fun i:Int=>∃ n:Nat,i=n/\n<=s.size/\∀ (j:Nat) (hj:j<s.size),j<n->ZjC s[j]=true) (fun i=>((s.size:Int)-i).toNat) ⟨0,rfl,Nat.zero_le _,fun j hj h=>by omega⟩ (by first | omega | (dsimp only;omega)) ?_
rintro i rec ⟨n,rfl,hn,hall⟩ ih
refine Zd (fun hlt=>?_) fun hlt=>Zc (Zqv h0 h30 h1 h2 fun j hj=>hall j hj (by omega)).symm
have hns:n<s.size:=by omega
refine Za (Zmj hns) ?_
refine Zw (fun k=>(ZjC s[n]=false->Tot (k true) fun r=>r=Za0 s)/\(ZjC s[n]=true->Tot (k false) fun r=>r=Za0 s)) ⟨fun h=>Zwp rfl (Zc (Zsm n hns h).symm),fun h=>Zwo rfl (ih _ ⟨n+1,(Zn).trans (by omega),hns,fun j hj hjn=>?_⟩ (by rw [Zn];omega))⟩ fun k hk=>?_
by_cases c:j=n
subst c
exact h
exact hall j hj (by omega)
·have go:∀ b:Bool,b = !ZjC s[n]->Tot (k b) fun r=>r=Za0 s:=fun b hb=>by
  subst hb
  cases hc:ZjC s[n]
  exact hk.1 hc
  exact hk.2 hc
 unfold ZjC at go
 repeat' (first | refine Zd (fun _=>?_) fun _=>?_ | refine Zak (fun _=>?_) fun _=>?_ | refine go _ ?_)
 all_goals
  rw [Bool.eq_iff_iff]
  simp
  omega
refine Zd (fun h=>hk.1 (Zo2 (by omega))) fun h=>?_
refine Zd (fun h=>hk.1 (Zqu (by omega))) fun h=>?_
have h0:0<s.size:=by omega
refine Za (Zmj h0) ?_
refine Zd (fun h=>hk.1 (ZjW h0 (.inl h))) fun h=>?_
refine Za (Zmj h0) ?_
by_cases h122:(122:Int)<s[0].toNat
rw [decide_eq_true h122]
exact hk.1 (ZjW h0 (.inr h122))
rw [decide_eq_false h122]
exact hk.2 h0 (by omega) (by omega) (by omega)}
theorem ZtL (s:ByteArray):Zfe s=some (Za0 s):=ZoO s
end
section
open VL Go.RowKit
theorem args2 {x:Ctx} {p q:PV} {vs:Array Value} (h:Pre x [p,q] none vs):∃ v w,vs = #[v,w]/\Rep x p v/\Rep x q w:=by{
have hs:vs.size=2:=h.size.symm
refine ⟨vs[0],vs[1],?_,h.rep 0 p _ rfl (Array.getElem?_eq_getElem (by omega)),h.rep 1 q _ rfl (Array.getElem?_eq_getElem (by omega))⟩
apply Array.ext
exact hs
intro i h1 h2
match i,(show i<2 by omega) with
| 0,_=>rfl
| 1,_=>rfl}
theorem Znl {x:Ctx} {s:ByteArray} {v:Value} (h:Rep x (.str s) v):v = .string s:=by cases h;rfl
end
section
open Go.RowKit
theorem ZpY (c:UInt8) (w:World):Calls Tryz.prog 207 #[.int .u8 c.toNat] w fun e w'=>e = .returned (.int .u8 ((Zhn c).toNat:Int))/\w=w':=by
 refine (ZoR _ (Zzj c).1 (Zzj c).2 w).mono ?_
 rintro e w' ⟨rfl,rfl⟩
 exact ⟨by rw [ZtQ],rfl⟩
def ZhU (a b:ByteArray):Bool:=decide (Zar a.data.toList=Zar b.data.toList)
theorem ZdL (l:List UInt8):(Zar l).length=l.length:=by simp [Zar]
theorem ZrW {a b:ByteArray} (h:a.size≠b.size):ZhU a b=false:=by{
unfold ZhU
refine decide_eq_false fun e=>h ?_
have:=congrArg List.length e
rw [ZdL,ZdL,Array.length_toList,Array.length_toList] at this
exact this}
theorem Zvq {a b:ByteArray} (j:Nat) (ha:j<a.size) (hb:j<b.size) (h:Zhn a[j]≠Zhn b[j]):ZhU a b=false:=by{
unfold ZhU
refine decide_eq_false fun e=>h ?_
have:=congrArg (·[j]?) e
simp only [Zar,List.getElem?_map] at this
rw [show a.data.toList[j]? = some a[j] from List.getElem?_eq_getElem (by rw [Array.length_toList];exact ha),show b.data.toList[j]? = some b[j] from List.getElem?_eq_getElem (by rw [Array.length_toList];exact hb)] at this
simpa using this}
theorem Ztl {a b:ByteArray} (hs:a.size=b.size) (h:∀ j (ha:j<a.size) (hb:j<b.size),Zhn a[j]=Zhn b[j]):ZhU a b=true:=by{
unfold ZhU
refine decide_eq_true (List.ext_getElem ?_ fun j h1 h2=>?_)
rw [ZdL,ZdL,Array.length_toList,Array.length_toList];exact hs
rw [ZdL,Array.length_toList] at h1 h2
simp only [Zar,List.getElem_map]
exact h j h1 h2}
theorem Zxp {c d:UInt8} (h:¬ ((Zhn c).toNat:Int)=(Zhn d).toNat):Zhn c≠Zhn d:=fun e=>h (by rw [e])
theorem Zxq {c d:UInt8} (h:((Zhn c).toNat:Int)=(Zhn d).toNat):Zhn c=Zhn d:=UInt8.toNat_inj.1 (by omega)
theorem ZcQ (a b:ByteArray) (w:World) (hsz:a.size<=4611686018427387904):Calls Tryz.prog 151 #[.string a,.string b] w fun e w'=>e = .returned (.bool (ZhU a b))/\Below w.heap.size w w':=by{
by_cases hl:a.size=b.size
case neg=>
 have HE:=Lib.hid (ZrW hl)
 have h1:¬ (a.size:Int)=b.size:=by omega
 go_enter Tryz.func151,Tryz.ntmps151
 go_wp2
 all_goals first | (exfalso;omega) | (go_ret;exact ⟨ZaD HE.out.symm,Below.refl _ _⟩)
have HN:Hid (∀ j (ha:j<a.size) (hb:j<b.size),¬ ((Zhn a[j]).toNat:Int)=(Zhn b[j]).toNat->ZhU a b=false):=Lib.hid fun j ha hb h=>Zvq j ha hb (Zxp h)
have HG:Hid ((∀ j (ha:j<a.size) (hb:j<b.size),((Zhn a[j]).toNat:Int)=(Zhn b[j]).toNat)->ZhU a b=true):=Lib.hid fun h=>Ztl hl fun j ha hb=>Zxq (h j ha hb)
have HL:=Lib.hid hl
have hl1:(a.size:Int)=b.size:=by omega
clear hl
go_enter Tryz.func151,Tryz.ntmps151
go_wp2_with fail
clear hl1
go_loopw [5] (fun i wr=>∃ q:Nat,q<=a.size/\i = .int .i64 q/\Below w.heap.size w wr/\Hid (∀ j (ha:j<a.size) (hb:j<b.size),j<q->((Zhn a[j]).toNat:Int)=(Zhn b[j]).toNat)) (fun i _=>a.size-(intOf i).toNat)
case atStart=>exact ⟨0,by omega,rfl,Below.refl _ _,Lib.hid fun j _ _ h=>absurd h (by omega)⟩
case round=>
 obtain ⟨q,hq,rfl,hbw,hno⟩:=hrel
 have HQ:=Lib.hid hbw
 clear hbw
 by_cases hlt:q<a.size
 ·have hlb:q<b.size:=by rw [<- HL.out];exact hlt
  have HS:Hid (((Zhn a[q]).toNat:Int)=(Zhn b[q]).toNat->∀ j (ha:j<a.size) (hb:j<b.size),j<q+1->((Zhn a[j]).toNat:Int)=(Zhn b[j]).toNat):=Lib.hid fun h j hj hb hj2=>by
   by_cases e:j<q
   exact hno.out j hj hb e
   have:j=q:=by omega
   subst this;exact h
  have HN2:=Lib.hid (HN.out q hlt hlb)
  have b1:(0:Int)<=q:=by omega
  have b2:(q:Int)<(a.size:Int):=by omega
  have b3:(q:Int)<(b.size:Int):=by omega
  go_wp2_with fail
  go_quiet ((go_at_call 207;exact Calls.quiet_of_same ((ZpY _ _).mono (fun e w' h=>⟨h.1,h.2.symm⟩))))
  go_wp2
  all_goals (try simp only [bne_iff_ne,bne_eq_false_iff_eq,ne_eq] at *)
  ·rename_i h
   go_ret
   exact ⟨ZaD (HN2.out h).symm,Below.dn HQ.out _⟩
  rename_i h
  exact ⟨⟨q+1,by omega,by simp,Below.dn HQ.out _,Lib.hid (HS.out h)⟩,by simp [intOf];omega⟩
 ·have HE:=Lib.hid (HG.out fun j hj hb=>hno.out j hj hb (by omega))
  have b2:(a.size:Int)<=(q:Int):=by omega
  go_wp2
  all_goals first | (exfalso;omega) | (go_ret;exact ⟨ZaD HE.out.symm,HQ.out⟩)}
def ZhB (z:Int):ByteArray:=if z=1 then ⟨#[84,97,108,107]⟩ else if z=2 then ⟨#[85,115,101,114]⟩ else if z=3 then ⟨#[84,101,109,112,108,97,116,101]⟩ else if z=4 then ⟨#[67,97,116,101,103,111,114,121]⟩ else if z=5 then ⟨#[80,114,111,106,101,99,116]⟩ else ⟨#[]⟩
theorem Zd4 (z:Int) (w:World):Calls Tryz.prog 152 #[.int .i64 z] w fun e w'=>e = .returned (.string (ZhB z))/\Below w.heap.size w w':=by{
have hz:z<0\/6<=z\/z=0\/z=1\/z=2\/z=3\/z=4\/z=5:=by omega
have HE:Hid (z<0\/6<=z->ZhB z=⟨#[]⟩):=Lib.hid fun h=>by
 unfold ZhB
 rw [if_neg (by omega),if_neg (by omega),if_neg (by omega),if_neg (by omega),if_neg (by omega)]
by_cases hin:0<=z/\z<6
·obtain ⟨h0,h6⟩:=hin
 obtain rfl | rfl | rfl | rfl | rfl | rfl:z=0\/z=1\/z=2\/z=3\/z=4\/z=5:=by omega
 all_goals
  go_enter Tryz.func152,Tryz.ntmps152
  go_wp2
  go_ret
  exact ⟨rfl,Below.al (Below.refl _ _) _⟩
·have HE2:=Lib.hid (HE.out (by omega))
 have hz2:z<0\/6<=z:=by omega
 clear hz hin HE
 go_enter Tryz.func152,Tryz.ntmps152
 rcases hz2 with hz2 | hz2
 all_goals
  go_wp2
 all_goals
  first
  | (exfalso;omega)
  | (go_ret
     exact ⟨by rw [HE2.out];rfl,Below.al (Below.refl _ _) _⟩)}
theorem ZhV (z:Int) (h1:1<=z) (h2:z<6):Zar (ZhB z).data.toList=ZV z.toNat:=by
 obtain rfl | rfl | rfl | rfl | rfl:z=1\/z=2\/z=3\/z=4\/z=5:=by omega
 all_goals decide
def Zjq (p:ByteArray):ByteArray:=if h:0<p.size then (if (p[p.size-1]'(by omega)).toNat=32 then p.extract 0 (p.size-1) else p) else p
theorem Ztm (s:ByteArray) (k:Nat) {h0:min k s.size-1<(s.extract 0 k).size} (h:(((s.extract 0 k)[min k s.size-1]'h0).toNat:Int)=32):Zjq (s.extract 0 k)=(s.extract 0 k).extract 0 (min k s.size-1):=by
 have hsz:(s.extract 0 k).size=min k s.size:=by simp [ByteArray.size_extract]
 unfold Zjq
 rw [dif_pos (by omega),if_pos (by simp only [hsz];omega),hsz]
theorem ZrX (s:ByteArray) (k:Nat) {h0:min k s.size-1<(s.extract 0 k).size} (h:¬ (((s.extract 0 k)[min k s.size-1]'h0).toNat:Int)=32):Zjq (s.extract 0 k)=s.extract 0 k:=by
 have hsz:(s.extract 0 k).size=min k s.size:=by simp [ByteArray.size_extract]
 unfold Zjq
 rw [dif_pos (by omega),if_neg (by simp only [hsz];omega)]
theorem ZrY (s:ByteArray) (k:Nat) (h:¬ 0<min k s.size):Zjq (s.extract 0 k)=s.extract 0 k:=by
 have hsz:(s.extract 0 k).size=min k s.size:=by simp [ByteArray.size_extract]
 unfold Zjq
 rw [dif_neg (by omega)]
def ZjQ (s:ByteArray):Int×Int:=if Lib.index s.data.toList [58]<0 then (0,0) else if Za5 (Zar (Zjq (s.extract 0 (Lib.index s.data.toList [58]).toNat)).data.toList)=0 then (0,0) else (Za5 (Zar (Zjq (s.extract 0 (Lib.index s.data.toList [58]).toNat)).data.toList),Lib.index s.data.toList [58])
theorem Ztn:∀ {s:List UInt8} {c:UInt8},0<=Lib.index s [c]->Lib.index s [c]<s.length:=by{
intro s
induction s with
| nil=>intro c h;exact absurd h (by simp [Lib.index])
| cons a r ih=>
  intro c h
  by_cases h1:List.isPrefixOf [c] (a::r)=true
  simp only [Lib.index,h1,if_true];simp
  simp only [Lib.index,h1] at h ⊢
  by_cases h2:(Lib.index r [c] == -1)=true
  simp [h2] at h
  simp only [h2] at h ⊢
  have hge:0<=Lib.index r [c]:=by
   have h3:Lib.index r [c]≠-1:=fun e=>h2 (by rw [e];rfl)
   simp at h
   omega
  have:=ih hge
  simp
  omega}
theorem Zvr {s:ByteArray} {c:UInt8} (h:0<=Lib.index s.data.toList [c]):Lib.index s.data.toList [c]<s.size:=by
 have:=Ztn h
 rw [Array.length_toList] at this
 exact this
theorem Zla (s:ByteArray) (w:World) (hs:s.size<=4611686018427387904):Calls Tryz.prog 102 #[.string s] w fun e w'=>e = .returned (.tuple #[.int .i64 (ZjQ s).1,.int .i64 (ZjQ s).2])/\Below w.heap.size w w':=by{
have HR:Hid (ZjQ s=if Lib.index s.data.toList [58]<0 then (0,0) else if Za5 (Zar (Zjq (s.extract 0 (Lib.index s.data.toList [58]).toNat)).data.toList)=0 then (0,0) else (Za5 (Zar (Zjq (s.extract 0 (Lib.index s.data.toList [58]).toNat)).data.toList),Lib.index s.data.toList [58])):=Lib.hid rfl
have HI:Hid (0<=Lib.index s.data.toList [58]->Lib.index s.data.toList [58]<s.size):=Lib.hid Zvr
generalize ZjQ s=R at *
go_enter Tryz.func102,Tryz.ntmps102
go_wp2_with fail
refine (ZjT s ⟨#[58]⟩ _ (by show s.size+1<=_;omega)).mono ?_
rintro e w1 ⟨rfl,rfl⟩
rw [show (⟨#[58]⟩:ByteArray).data.toList = [58] from rfl]
generalize Lib.index s.data.toList [58]=at0 at *
by_cases h0:at0<0
·obtain rfl:=HR.out.trans (if_pos h0)
 go_wp2
 all_goals first | (exfalso;omega) | (exact bodyPost_ret (v:=.tuple #[.int .i64 0,.int .i64 0]) (by simp [results,Tryz.results102,go_sem]) rfl ⟨rfl,Below.refl _ _⟩)
obtain ⟨k,rfl⟩:∃ k:Nat,at0=k:=⟨at0.toNat,by omega⟩
have hk:=HI.out (by omega)
have HR2:=Lib.hid (HR.out.trans (if_neg h0))
clear HR HI h0
simp only [Int.toNat_natCast] at HR2
have b1:(0:Int)<=k:=by omega
by_cases hp:0<min k s.size
case neg=>
 rw [ZrY s k (by omega)] at HR2
 go_wp2_with fail
 have hNs:Hid ((s.extract 0 k).size<=4611686018427387904):=Lib.hid (by simp only [ByteArray.size_extract];omega)
 clear hs
 go_loopw [6] (fun i wr=>∃ z:Int,1<=z/\z<=6/\i = .int .i64 z/\Below w.heap.size w wr/\Hid (∀ j:Nat,1<=j->(j:Int)<z->Zar (s.extract 0 k).data.toList≠ZV j)) (fun i _=>6-(intOf i).toNat)
 case atStart=>exact ⟨1,by omega,by omega,rfl,Below.refl _ _,fun j _ h=>absurd h (by omega)⟩
 case round=>
  obtain ⟨z,hz0,hz6,rfl,hbw,hno⟩:=hrel
  have HQ:=Lib.hid hbw
  clear hbw
  by_cases h6:z=6
  ·subst h6
   have hz:Za5 (Zar (s.extract 0 k).data.toList)=0:=ZeT _ fun j h1 h2=>hno.out j h1 (by omega)
   obtain rfl:=HR2.out.trans (if_pos hz)
   clear hz
   go_wp2
   exact bodyPost_ret (v:=.tuple #[.int .i64 0,.int .i64 0]) (by simp [results,Tryz.results102,go_sem]) rfl ⟨rfl,HQ.out⟩
  ·have hz7:z<6:=by omega
   have HF:=Lib.hid (ZhV z hz0 hz7)
   go_wp2_with fail
   refine (Zd4 z _).mono ?_
   rintro e w5 ⟨rfl,hb5⟩
   go_wp2_with fail
   refine (ZcQ _ _ _ hNs.out).mono ?_
   rintro e w6 ⟨rfl,hb6⟩
   have HB6:=Lib.hid (Below.tr HQ.out (Below.tr hb5 hb6))
   clear hb5 hb6
   by_cases hsame:ZhU (s.extract 0 k) (ZhB z)=true
   ·have hfl:Zar (s.extract 0 k).data.toList=ZV z.toNat:=(of_decide_eq_true hsame).trans HF.out
    have hz:Za5 (Zar (s.extract 0 k).data.toList)=z:=by rw [hfl,Zgu z.toNat (by omega) (by omega)];omega
    have hR:=HR2.out.trans (if_neg (by rw [hz];omega))
    rw [hz] at hR
    obtain rfl:=hR
    rw [hsame]
    clear hz hfl
    go_wp2
    exact bodyPost_ret (v:=.tuple #[.int .i64 z,.int .i64 k]) (by simp [results,Tryz.results102,go_sem]) rfl ⟨rfl,HB6.out⟩
   ·have hsame:ZhU (s.extract 0 k) (ZhB z)=false:=by simpa using hsame
    have hfl:Zar (s.extract 0 k).data.toList≠ZV z.toNat:=fun e=>of_decide_eq_false hsame (e.trans HF.out.symm)
    have HN:=Lib.hid hfl
    rw [hsame]
    clear hfl
    go_wp2
    go_roundw
    case rel=>
     refine ⟨z+1,by omega,by omega,rfl,HB6.out,fun j h1 h2=>?_⟩
     by_cases e:(j:Int)<z
     exact hno.out j h1 e
     have:j=z.toNat:=by omega
     subst this;exact HN.out
    case measure=>simp [intOf];omega
have hq:min k s.size-1<(s.extract 0 k).size:=by simp only [ByteArray.size_extract];omega
have b3:(1:Int)<=(min k s.size:Nat):=by omega
by_cases h:(((s.extract 0 k)[min k s.size-1]'hq).toNat:Int)=32
·rw [Ztm s k h] at HR2
 go_wp2_with fail
 clear h b3 hp
 have hNs:Hid (((s.extract 0 k).extract 0 (min k s.size-1)).size<=4611686018427387904):=Lib.hid (by simp only [ByteArray.size_extract];omega)
 clear hs
 go_loopw [6] (fun i wr=>∃ z:Int,1<=z/\z<=6/\i = .int .i64 z/\Below w.heap.size w wr/\Hid (∀ j:Nat,1<=j->(j:Int)<z->Zar ((s.extract 0 k).extract 0 (min k s.size-1)).data.toList≠ZV j)) (fun i _=>6-(intOf i).toNat)
 case atStart=>exact ⟨1,by omega,by omega,rfl,Below.refl _ _,fun j _ h=>absurd h (by omega)⟩
 case round=>
  obtain ⟨z,hz0,hz6,rfl,hbw,hno⟩:=hrel
  have HQ:=Lib.hid hbw
  clear hbw
  by_cases h6:z=6
  ·subst h6
   have hz:Za5 (Zar ((s.extract 0 k).extract 0 (min k s.size-1)).data.toList)=0:=ZeT _ fun j h1 h2=>hno.out j h1 (by omega)
   obtain rfl:=HR2.out.trans (if_pos hz)
   clear hz
   go_wp2
   exact bodyPost_ret (v:=.tuple #[.int .i64 0,.int .i64 0]) (by simp [results,Tryz.results102,go_sem]) rfl ⟨rfl,HQ.out⟩
  ·have hz7:z<6:=by omega
   have HF:=Lib.hid (ZhV z hz0 hz7)
   go_wp2_with fail
   refine (Zd4 z _).mono ?_
   rintro e w5 ⟨rfl,hb5⟩
   go_wp2_with fail
   refine (ZcQ _ _ _ hNs.out).mono ?_
   rintro e w6 ⟨rfl,hb6⟩
   have HB6:=Lib.hid (Below.tr HQ.out (Below.tr hb5 hb6))
   clear hb5 hb6
   by_cases hsame:ZhU ((s.extract 0 k).extract 0 (min k s.size-1)) (ZhB z)=true
   ·have hfl:Zar ((s.extract 0 k).extract 0 (min k s.size-1)).data.toList=ZV z.toNat:=(of_decide_eq_true hsame).trans HF.out
    have hz:Za5 (Zar ((s.extract 0 k).extract 0 (min k s.size-1)).data.toList)=z:=by rw [hfl,Zgu z.toNat (by omega) (by omega)];omega
    have hR:=HR2.out.trans (if_neg (by rw [hz];omega))
    rw [hz] at hR
    obtain rfl:=hR
    rw [hsame]
    clear hz hfl
    go_wp2
    exact bodyPost_ret (v:=.tuple #[.int .i64 z,.int .i64 k]) (by simp [results,Tryz.results102,go_sem]) rfl ⟨rfl,HB6.out⟩
   ·have hsame:ZhU ((s.extract 0 k).extract 0 (min k s.size-1)) (ZhB z)=false:=by simpa using hsame
    have hfl:Zar ((s.extract 0 k).extract 0 (min k s.size-1)).data.toList≠ZV z.toNat:=fun e=>of_decide_eq_false hsame (e.trans HF.out.symm)
    have HN:=Lib.hid hfl
    rw [hsame]
    clear hfl
    go_wp2
    go_roundw
    case rel=>
     refine ⟨z+1,by omega,by omega,rfl,HB6.out,fun j h1 h2=>?_⟩
     by_cases e:(j:Int)<z
     exact hno.out j h1 e
     have:j=z.toNat:=by omega
     subst this;exact HN.out
    case measure=>simp [intOf];omega
·rw [ZrX s k h] at HR2
 have h2:((((s.extract 0 k)[min k s.size-1]'hq).toNat:Int) == 32)=false:=beq_eq_false_iff_ne.2 h
 clear h
 go_wp2_with fail
 clear h2 hp
 have hNs:Hid ((s.extract 0 k).size<=4611686018427387904):=Lib.hid (by simp only [ByteArray.size_extract];omega)
 clear hs
 go_loopw [6] (fun i wr=>∃ z:Int,1<=z/\z<=6/\i = .int .i64 z/\Below w.heap.size w wr/\Hid (∀ j:Nat,1<=j->(j:Int)<z->Zar (s.extract 0 k).data.toList≠ZV j)) (fun i _=>6-(intOf i).toNat)
 case atStart=>exact ⟨1,by omega,by omega,rfl,Below.refl _ _,fun j _ h=>absurd h (by omega)⟩
 case round=>
  obtain ⟨z,hz0,hz6,rfl,hbw,hno⟩:=hrel
  have HQ:=Lib.hid hbw
  clear hbw
  by_cases h6:z=6
  ·subst h6
   have hz:Za5 (Zar (s.extract 0 k).data.toList)=0:=ZeT _ fun j h1 h2=>hno.out j h1 (by omega)
   obtain rfl:=HR2.out.trans (if_pos hz)
   clear hz
   go_wp2
   exact bodyPost_ret (v:=.tuple #[.int .i64 0,.int .i64 0]) (by simp [results,Tryz.results102,go_sem]) rfl ⟨rfl,HQ.out⟩
  ·have hz7:z<6:=by omega
   have HF:=Lib.hid (ZhV z hz0 hz7)
   go_wp2_with fail
   refine (Zd4 z _).mono ?_
   rintro e w5 ⟨rfl,hb5⟩
   go_wp2_with fail
   refine (ZcQ _ _ _ hNs.out).mono ?_
   rintro e w6 ⟨rfl,hb6⟩
   have HB6:=Lib.hid (Below.tr HQ.out (Below.tr hb5 hb6))
   clear hb5 hb6
   by_cases hsame:ZhU (s.extract 0 k) (ZhB z)=true
   ·have hfl:Zar (s.extract 0 k).data.toList=ZV z.toNat:=(of_decide_eq_true hsame).trans HF.out
    have hz:Za5 (Zar (s.extract 0 k).data.toList)=z:=by rw [hfl,Zgu z.toNat (by omega) (by omega)];omega
    have hR:=HR2.out.trans (if_neg (by rw [hz];omega))
    rw [hz] at hR
    obtain rfl:=hR
    rw [hsame]
    clear hz hfl
    go_wp2
    exact bodyPost_ret (v:=.tuple #[.int .i64 z,.int .i64 k]) (by simp [results,Tryz.results102,go_sem]) rfl ⟨rfl,HB6.out⟩
   ·have hsame:ZhU (s.extract 0 k) (ZhB z)=false:=by simpa using hsame
    have hfl:Zar (s.extract 0 k).data.toList≠ZV z.toNat:=fun e=>of_decide_eq_false hsame (e.trans HF.out.symm)
    have HN:=Lib.hid hfl
    rw [hsame]
    clear hfl
    go_wp2
    go_roundw
    case rel=>
     refine ⟨z+1,by omega,by omega,rfl,HB6.out,fun j h1 h2=>?_⟩
     by_cases e:(j:Int)<z
     exact hno.out j h1 e
     have:j=z.toNat:=by omega
     subst this;exact HN.out
    case measure=>simp [intOf];omega}
theorem ZgU:∀ (css:List (List Value)) (xs:List ByteArray),css.length=xs.length->(∀ (i:Nat) (x:ByteArray) (cs:List Value),xs[i]? = some x->css[i]? = some cs->cs = [.string x])->css.flatten=xs.map Value.string
 | [],[],_,_=>rfl
 | [],_::_,h,_=>by simp at h
 | _::_,[],h,_=>by simp at h
 | c::css,x::xs,h,hR=>by
   have h0:=hR 0 x c rfl rfl
   subst h0
   rw [List.flatten_cons,ZgU css xs (by simpa using h) (fun i y cs hy hcs=>hR (i+1) y cs (by simpa using hy) (by simpa using hcs))]
   rfl
theorem OwnL.row {w:World} {B:Nat} {E:TypeId} {v:Value} {xs:List ByteArray} (h:OwnL w B E v xs):w.ownsRow B E 1 v xs.length (xs.map Value.string):=by
 obtain ⟨css,hl,hr,hR⟩:=h
 rw [ZgU css xs hl (fun i x cs hx hcs=>hR i x cs hx hcs)] at hr
 exact hr
theorem OwnL.of_row {w:World} {B:Nat} {E:TypeId} {v:Value} {xs:List ByteArray} (h:w.ownsRow B E 1 v xs.length (xs.map Value.string)):OwnL w B E v xs:=by{
refine ⟨xs.map (fun x=>[.string x]),by simp,?_,fun i x cs hx hcs=>?_⟩
rw [ZgU _ xs (by simp) (fun i x cs hx hcs=>by rw [List.getElem?_map,hx] at hcs;simpa using hcs.symm)]
exact h
rw [List.getElem?_map,hx] at hcs
show cs = [.string x]
simpa using hcs.symm}
theorem OwnL.cellS {w:World} {B:Nat} {E:TypeId} {g n c:Nat} {xs:List ByteArray} (h:OwnL w B E (.slice (some ⟨g,0,none⟩) n c) xs) (hn:n=xs.length) {i:Nat} {x:ByteArray} (hx:xs[i]? = some x):w.cell? ⟨g,i,none⟩=some (.string x):=by{
subst hn
have hi:=(List.getElem?_eq_some_iff.1 hx).1
rw [h.row.cellAt i (by omega),List.getElem?_map,hx]
rfl}
theorem OwnL.frozenS {w:World} {B:Nat} {E:TypeId} {g n c:Nat} {xs:List ByteArray} (h:OwnL w B E (.slice (some ⟨g,0,none⟩) n c) xs) (hn:n=xs.length) (i:Nat):w.frozen? ⟨g,i,none⟩=false:=by
 subst hn
 exact h.row.frozenAt i
theorem OwnL.setS {w:World} {B:Nat} {E:TypeId} {g n c:Nat} {xs:List ByteArray} (h:OwnL w B E (.slice (some ⟨g,0,none⟩) n c) xs) (hn:n=xs.length) (i:Nat) (y:ByteArray):OwnL (w.setCell ⟨g,i,none⟩ (.string y)) B E (.slice (some ⟨g,0,none⟩) n c) (xs.set i y):=by{
subst hn
have:=(h.row.stored i (.string y)).1
refine OwnL.of_row ?_
rw [List.length_set,List.map_set]
exact this}
def ZcX (l:List ByteArray) (c:UInt8):List ByteArray:=if c.toNat=47 then l ++ [⟨#[]⟩] else l.set (l.length-1) (l[l.length-1]?.getD ⟨#[]⟩++⟨#[c]⟩)
def Ze3 (s:List UInt8):List ByteArray:=s.foldl ZcX [⟨#[]⟩]
theorem okS:ZkL Tryz.prog 32 9 (Enc.k ByteArray) 16:=Zwh Tryz.underlying32 (by kernel_rfl)
theorem Zqf (s:ByteArray) (q:Nat) (h:q<s.size):Ze3 (s.data.toList.take (q+1))=ZcX (Ze3 (s.data.toList.take q)) s[q]:=by{
have h2:s.data.toList[q]? = some s[q]:=List.getElem?_eq_getElem (by rw [Array.length_toList];exact h)
unfold Ze3
rw [List.take_add_one,h2,List.foldl_append]
rfl}
theorem ZiN {l:List ByteArray} {c:UInt8} {q:Nat} (h:∀ p ∈ l,p.size<=q):∀ p ∈ ZcX l c,p.size<=q+1:=by{
intro p hp
unfold ZcX at hp
split at hp
rcases List.mem_append.1 hp with hp | hp
have:=h p hp;omega
rw [List.mem_singleton.1 hp];exact Nat.zero_le _
rcases List.mem_or_eq_of_mem_set hp with hp | hp
have:=h p hp;omega
rw [hp,ByteArray.size_append]
have:(⟨#[c]⟩:ByteArray).size=1:=rfl
cases hx:l[l.length-1]? with
| none=>simp only [Option.getD_none];rw [this];have:(⟨#[]⟩:ByteArray).size=0:=rfl;omega
| some x=>have:=h x (List.mem_of_getElem? hx);simp only [Option.getD_some];omega}
theorem ZtP (s:ByteArray) (q:Nat) (h:q<s.size):s.extract q (q+1)=⟨#[s[q]]⟩:=by{
have h2:s.data.toList[q]? = some s[q]:=List.getElem?_eq_getElem (by rw [Array.length_toList];exact h)
refine toList_inj ?_
rw [Lib.extract_toList,ByteArray.toList_eq]
show _ = [s[q]]
rw [Nat.add_sub_cancel_left,List.take_one,List.head?_drop,h2]
rfl}
theorem ZoP (s:ByteArray) (w:World) (hs:s.size<=1099511627776):Calls Tryz.prog 101 #[.string s] w fun e w'=>∃ v,e = .returned v/\OwnL w' w.heap.size 9 v (Ze3 s.data.toList)/\Below w.heap.size w w':=by{
go_enter Tryz.func101,Tryz.ntmps101
go_wp2_with fail
have hO:OwnL (w.alloc (Obj.cells #[Value.string { data:=#[] }] 9)) w.heap.size 9 (.slice (some ⟨w.heap.size,0,none⟩) 1 1) [(⟨#[]⟩:ByteArray)]:=
 OwnL.built [[.string ⟨#[]⟩]] _ (Nat.le_refl _) rfl rfl (by decide) (fun i x cs hx hcs=>by
  rcases i with _ | i
  simp at hx hcs;subst hx;subst hcs;exact rfl
  simp at hx) rfl
have HO:=Lib.hid hO
clear hO
go_loopw [3,4] (fun l i wr=>∃ q g n c:Nat,q<=s.size/\i = .int .i64 q/\l = .slice (some ⟨g,0,none⟩) n c/\n=(Ze3 (s.data.toList.take q)).length/\1<=n/\n<=q+1/\Hid (∀ p ∈ Ze3 (s.data.toList.take q),p.size<=q)/\Below w.heap.size w wr/\OwnL wr w.heap.size 9 (.slice (some ⟨g,0,none⟩) n c) (Ze3 (s.data.toList.take q))) (fun _ i _=>s.size-(intOf i).toNat)
case atStart=>exact ⟨0,w.heap.size,1,1,by omega,rfl,rfl,rfl,by omega,by omega,Lib.hid (fun p hp=>by rw [List.mem_singleton.1 hp];exact Nat.zero_le _),Below.al (Below.refl _ _) _,HO.out⟩
case round=>
 obtain ⟨q,g,n,c,hq,rfl,rfl,hn,h1,h2,HSZ,hbw,hown⟩:=hrel
 have HN:=Lib.hid hn
 have HQ:=Lib.hid hbw
 have HW:=Lib.hid hown
 clear hn hbw hown HO
 by_cases hlt:q<s.size
 have b1:(0:Int)<=q:=by omega
 have b2:(q:Int)<(s.size:Int):=by omega
 have HP:=Lib.hid (Zqf s q hlt)
 generalize Ze3 (s.data.toList.take q)=L at *
 by_cases h47:(s[q].toNat:Int)=47
 ·have hl:=HW.out
  have b3:n+1<=maxLen:=by unfold maxLen;omega
  have b4:(n+1) * 16<=140737488355328:=by omega
  have B3:Hid (L.length+1<=maxLen):=Lib.hid (by rw [<- HN.out];exact b3)
  have B4:Hid ((L.length+1) * 16<=140737488355328):=Lib.hid (by rw [<- HN.out];exact b4)
  have hg:w.heap.size<=wr.heap.size:=HQ.out.size
  clear hl b3 b4
  go_wp2_with (at_builtin;go_must (refine ZkN rfl _ _ 32 rfl okS (by decide) (B:=w.heap.size) (v:=.slice (some ⟨g,0,none⟩) n c) (xs:=L) rfl (HW.out.keep (Below.al (Below.refl _ _) _)) (ys:=[(⟨#[]⟩:ByteArray)]) rfl (SlR.made (fun x:ByteArray=>[.string x]) (fun _ _ _=>rfl) _ _ (by simp) rfl (by simp) rfl) (fun _ _ _ h=>h) B3.out B4.out (by simp;omega) ?_);intro v' w' hown hg2 hv')
  obtain ⟨A,c',rfl,_,hA⟩:=hown.sl
  obtain ⟨g',rfl,_,_⟩:=hA (by simp)
  have hst:ZcX L s[q]=L ++ [⟨#[]⟩]:=by unfold ZcX;rw [if_pos (by omega)]
  refine ⟨⟨q+1,g',_,c',by omega,rfl,rfl,?_,?_,?_,?_,?_,?_⟩,by simp [intOf];omega⟩
  rw [HP.out,hst]
  simp
  simp only [List.length_append,List.length_singleton];rw [<- HN.out];omega
  rw [HP.out];exact Lib.hid (ZiN HSZ.out)
  exact (HQ.out.alloc hg _).grown hg2 (by simp;omega) (fun j hj=>by cases hj;exact HW.out.ge rfl)
  rw [HP.out,hst];exact hown
 ·obtain ⟨x,hx⟩:∃ x,L[n-1]? = some x:=⟨_,List.getElem?_eq_getElem (by have:=HN.out;omega)⟩
  have c0:=HW.out.cellS HN.out hx
  have f0:=HW.out.frozenS HN.out (n-1)
  have HX:=Lib.hid hx
  have hxs:=HSZ.out x (List.mem_of_getElem? hx)
  clear hx
  have hext:(s.extract q (q+1)).size=1:=by rw [ZtP s q hlt];rfl
  have b4:x.size+(s.extract q (q+1)).size<=9223372036854775807:=by rw [hext];omega
  have b5:x.size+(min (q+1) s.size-q)<=9223372036854775807:=by omega
  clear hext hxs
  have b3:(1:Int)<=n:=by omega
  obtain ⟨m,rfl⟩:∃ m:Nat,n=m+1:=⟨n-1,by omega⟩
  simp only [Nat.add_sub_cancel] at c0 f0 HX
  go_upto_region 7 with fail
  go_region
  go_wp2
  refine ⟨⟨q+1,g,m+1,c,by omega,rfl,rfl,?_,by omega,by omega,?_,?_,?_⟩,by simp [intOf];omega⟩
  rw [HP.out];unfold ZcX;rw [if_neg (by omega),List.length_set];exact HN.out
  rw [HP.out];exact Lib.hid (ZiN HSZ.out)
  have hge:w.heap.size<=g:=HW.out.ge rfl
  have hbs:Below w.heap.size w (wr.setCell ⟨g,m,none⟩ (.string (x++s.extract q (q+1)))):=HQ.out.setCell hge _
  exact Below.drew hbs
  refine OwnL.keep (Below.refl _ _).drew ?_
  have hst:=HW.out.setS HN.out m (x++s.extract q (q+1))
  rw [HP.out]
  unfold ZcX
  rw [if_neg (by omega),<- HN.out,Nat.add_sub_cancel,HX.out,Option.getD_some,<- ZtP s q hlt]
  exact hst
 ·have b2:(s.size:Int)<=(q:Int):=by omega
  obtain rfl:q=s.size:=by omega
  rw [List.take_of_length_le (by rw [Array.length_toList];exact Nat.le_refl _)] at HW
  go_wp2
  go_ret
  exact ⟨_,rfl,HW.out,HQ.out⟩}
def ZgX:List UInt8->List UInt8->List (List UInt8) | a,[]=>[a] | a,c::r=>if c.toNat=47 then a::ZgX [] r else ZgX (a ++ [c]) r
theorem ZgY:∀ (s a r:List UInt8),(∀ k:Nat,s[k]?≠some 47)->ZgX a (s++r)=ZgX (a++s) r
 | [],a,r,_=>by simp
 | c::s,a,r,h=>by
   have h0:c.toNat≠47:=fun e=>h 0 (by simp;exact UInt8.toNat_inj.1 e)
   rw [List.cons_append,ZgX,if_neg h0,ZgY s (a ++ [c]) r (fun k=>by have:=h (k+1);simpa using this),List.append_assoc]
   rfl
theorem ZnD (l:List ByteArray) (p:ByteArray) (c:UInt8):ZcX (l ++ [p]) c=if c.toNat=47 then l ++ [p] ++ [⟨#[]⟩] else l ++ [p++⟨#[c]⟩]:=by{
unfold ZcX
by_cases h:c.toNat=47
rw [if_pos h,if_pos h]
rw [if_neg h,if_neg h]
have hl:(l ++ [p]).length-1=l.length:=by simp
rw [hl,List.getElem?_append_right (Nat.le_refl _),Nat.sub_self,List.set_append_right _ _ (Nat.le_refl _),Nat.sub_self]
rfl}
theorem ZvT (p:ByteArray) (c:UInt8):(p++⟨#[c]⟩:ByteArray).data.toList=p.data.toList ++ [c]:=by
 simp
theorem Zh9:∀ (s:List UInt8) (l:List ByteArray) (p:ByteArray),(s.foldl ZcX (l ++ [p])).map (·.data.toList)=l.map (·.data.toList)++ZgX p.data.toList s
 | [],l,p=>by simp [ZgX]
 | c::r,l,p=>by
   rw [List.foldl_cons,ZnD,ZgX]
   by_cases h:c.toNat=47
   rw [if_pos h,if_pos h,Zh9 r (l ++ [p]) ⟨#[]⟩]
   simp
   rw [if_neg h,if_neg h,Zh9 r l _,ZvT]
theorem Zqq (s:List UInt8):(Ze3 s).map (·.data.toList)=ZgX [] s:=by
 have:=Zh9 s [] ⟨#[]⟩
 simpa [Ze3] using this
theorem Zmz:∀ (k:Nat) (s:ByteArray),Lib.countB s ⟨#[47]⟩=k->(Lib.splitB ⟨#[47]⟩ 0 k s).map (·.data.toList)=ZgX [] s.data.toList
 | k,s,hk=>by
   have h1:Lib.indexB s ⟨#[47]⟩=Lib.indexByte s.data.toList 47:=Lib.index_one _ _
   rcases Lib.indexB_cases s ⟨#[47]⟩ with hi | ⟨i,hi,hlt⟩
   ·rw [Lib.splitB_miss _ _ _ _ hi]
    have:=ZgY s.data.toList [] [] (Lib.indexByte_none (h1.symm.trans hi))
    rw [List.append_nil] at this
    rw [this]
    rfl
   ·have hc:=Lib.countB_hit s ⟨#[47]⟩ i (by decide) hi
    obtain ⟨k',rfl⟩:∃ k',k=k'+1:=⟨k-1,by omega⟩
    rw [Lib.splitB_hit _ _ _ _ i hi,List.map_cons,Zmz k' _ (by omega)]
    have he:(⟨#[47]⟩:ByteArray).size=1:=rfl
    rw [he,Lib.extract_to_end,Lib.extract_data]
    obtain ⟨h2,h3⟩:=Lib.indexByte_some (h1.symm.trans hi)
    have hil:=(List.getElem?_eq_some_iff.1 h2).1
    have hsplit:s.data.toList=s.data.toList.take i++(47::s.data.toList.drop (i+1)):=by
     have h4:s.data.toList.drop i=47::s.data.toList.drop (i+1):=by
      rw [List.drop_eq_getElem_cons hil]
      rw [List.getElem?_eq_getElem hil] at h2
      rw [Option.some.inj h2]
     rw [<- h4,List.take_append_drop]
    conv=>rhs;rw [hsplit]
    rw [ZgY _ [] _ (fun k hk=>by
     rw [List.getElem?_take] at hk
     split at hk
     ·rename_i hki;exact h3 k hki hk
     ·cases hk),ZgX,if_pos (by decide)]
    simp
theorem Zlw (s:ByteArray) (f:List UInt8->Bool):(Ze3 s.data.toList).all (fun p=>f p.data.toList)=(Lib.splitB ⟨#[47]⟩ 0 (Lib.countB s ⟨#[47]⟩) s).all (fun p=>f p.data.toList):=by{
have h1:=congrArg (·.all f) (Zqq s.data.toList)
have h2:=congrArg (·.all f) (Zmz _ s rfl)
simp only [List.all_map] at h1 h2
exact h1.trans h2.symm}
theorem Zsj (p:ByteArray):(Zjq p).data.toList=Lib.trimSuffix p.data.toList [32]:=by{
have hl:p.data.toList.length=p.size:=Array.length_toList
unfold Zjq Lib.trimSuffix Lib.hasSuffix
by_cases h:0<p.size
have hd:p.data.toList.drop (p.data.toList.length - [(32:UInt8)].length) = [p[p.size-1]]:=by
 rw [hl,List.length_singleton,List.drop_eq_getElem_cons (by omega),List.drop_eq_nil_of_le (by omega)]
 rfl
have hap:=List.take_append_drop (p.data.toList.length - [(32:UInt8)].length) p.data.toList
rw [hd] at hap
rw [dif_pos h]
by_cases h2:(p[p.size-1]'(by omega)).toNat=32
have h3:p[p.size-1]=(32:UInt8):=UInt8.toNat_inj.1 h2
rw [h3] at hap
rw [if_pos h2,if_pos (List.isSuffixOf_iff_suffix.2 ⟨_,hap⟩),Lib.extract_data,hl]
simp
have h3:p[p.size-1]≠(32:UInt8):=fun e=>h2 (by rw [e];rfl)
rw [if_neg h2,if_neg]
intro hs
obtain ⟨t,ht⟩:=List.isSuffixOf_iff_suffix.1 hs
rw [<- hap] at ht
have:=(List.append_inj' ht rfl).2
simp at this
exact h3 this.symm
have h0:p.data.toList = []:=List.eq_nil_of_length_eq_zero (by omega)
rw [dif_neg h,h0]
rfl}
theorem ZnE (s:ByteArray):ZjQ s=match Zca s.data.toList with
  | some (n,_)=>(n,Lib.index s.data.toList [58])
  | none=>(0,0):=by{
unfold ZjQ Zca Lib.cut
by_cases h:Lib.index s.data.toList [58]<0
rw [if_pos h,if_neg (show ¬ 0<=Lib.index s.data.toList [58] by omega)]
simp
rw [if_neg h,if_pos (show 0<=Lib.index s.data.toList [58] by omega)]
have he:(Zjq (s.extract 0 (Lib.index s.data.toList [58]).toNat)).data.toList=Lib.trimSuffix (s.data.toList.take (Lib.index s.data.toList [58]).toNat) [32]:=by
 rw [Zsj,Lib.extract_data]
 simp
rw [he]
by_cases h2:Za5 (Zar (Lib.trimSuffix (s.data.toList.take (Lib.index s.data.toList [58]).toNat) [32]))=0
rw [if_pos h2,if_neg (by simp [h2])]
rw [if_neg h2,if_pos ⟨rfl,h2⟩]}
theorem ZoZ {s:List UInt8} {n:Int} {r:List UInt8} (h:Zca s=some (n,r)):0<=Lib.index s [58]/\r=s.drop ((Lib.index s [58]).toNat+1)/\n=Za5 (Zar (Lib.trimSuffix (s.take (Lib.index s [58]).toNat) [32]))/\n≠0:=by{
unfold Zca Lib.cut at h
by_cases h0:0<=Lib.index s [58]
rw [if_pos h0] at h
simp only [true_and,List.length_singleton] at h
split at h
rename_i h2
simp only [Option.some.injEq,Prod.mk.injEq] at h
exact ⟨h0,h.2.symm,h.1.symm,h.1 ▸ h2⟩
cases h
rw [if_neg h0] at h
simp at h}
theorem Zqr (s:ByteArray):decide ((ZjQ s).1=0)=decide (Zca s.data.toList=none):=by{
rw [ZnE]
cases h:Zca s.data.toList with
| none=>rfl
| some x=>
  obtain ⟨n,r⟩:=x
  have:=(ZoZ h).2.2.2
  simp [this]}
end
end Go.Proofs.YtpdaeclbndpabaaGreatDoor
